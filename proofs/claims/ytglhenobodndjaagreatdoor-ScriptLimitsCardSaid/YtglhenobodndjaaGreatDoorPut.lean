/- The reference's sorted lists of integers: one more put in its place. -/
import Derived.Test.YtglhenobodndjaaGreatDoorRc
import Derived.Deep.RegionHeld3
namespace Go.Proofs.YtglhenobodndjaaGreatDoor
open Go.RowKit Go.Sort
set_option linter.unusedVariables false
set_option linter.unusedSimpArgs false

def putI : List Int → Int → List Int
  | [], n => [n]
  | x :: l, n => if x < n then x :: putI l n else if x = n then x :: l else n :: x :: l
theorem putI_len (l : List Int) (n : Int) : (putI l n).length ≤ l.length + 1 := by
  induction l with
  | nil => simp [putI]
  | cons x l ih => unfold putI; split <;> (try split) <;> simp <;> omega
theorem putI_mem (l : List Int) (n m : Int) : m ∈ putI l n ↔ m = n ∨ m ∈ l := by
  induction l with
  | nil => simp [putI]
  | cons x l ih =>
    unfold putI
    split
    · simp [ih]; constructor <;> rintro (h | h | h) <;> simp [h]
    · split
      · rename_i h; subst h; simp
      · simp
theorem putI_asc {l : List Int} {n : Int} (h : l.Pairwise (· < ·)) : (putI l n).Pairwise (· < ·) := by
  induction l with
  | nil => simp [putI]
  | cons x l ih =>
    have h1 := List.pairwise_cons.1 h
    unfold putI
    split
    · refine List.pairwise_cons.2 ⟨fun m hm => ?_, ih h1.2⟩
      rcases (putI_mem l n m).1 hm with rfl | hm
      · assumption
      · exact h1.1 m hm
    · split
      · exact h
      · refine List.pairwise_cons.2 ⟨fun m hm => ?_, h⟩
        rcases List.mem_cons.1 hm with rfl | hm
        · omega
        · have := h1.1 m hm; omega
theorem putI_at {l : List Int} {n : Int} {k : Nat} (hk : k ≤ l.length) (h : ∀ j (hj : j < l.length), j < k → l[j] < n) (he : ∀ hj : k < l.length, ¬ l[k] < n) :
    putI l n = if h : ∃ hj : k < l.length, l[k] = n then l else l.take k ++ n :: l.drop k := by
  induction l generalizing k with
  | nil => simp [putI] at hk ⊢
  | cons x l ih =>
    cases k with
    | zero =>
      have h0 := he (by simp)
      simp at h0
      unfold putI
      rw [if_neg (by omega)]
      by_cases hx : x = n
      · rw [if_pos hx, dif_pos ⟨by simp, by simpa using hx⟩]
      · rw [if_neg hx, dif_neg (by rintro ⟨_, h⟩; exact hx (by simpa using h))]; simp
    | succ k =>
      have h0 := h 0 (by simp) (by omega)
      simp at h0
      unfold putI
      rw [if_pos h0, ih (k := k) (by simpa using hk) (fun j hj hjk => by have := h (j + 1) (by simp; omega) (by omega); simpa using this) (fun hj => by have := he (by simp; omega); simpa using this)]
      by_cases hx : ∃ hj : k < l.length, l[k] = n
      · obtain ⟨hj, hx⟩ := hx
        rw [dif_pos ⟨hj, hx⟩, dif_pos ⟨by simp; omega, by simpa using hx⟩]
      · rw [dif_neg hx, dif_neg (by rintro ⟨hj, h⟩; exact hx ⟨by simpa using hj, by simpa using h⟩)]; simp
theorem Vw.drop {w : World} {b off : Nat} {xs : List Value} (h : Vw w (some ⟨b, off, none⟩) xs) (k : Nat) : Vw w (some ⟨b, off + k, none⟩) (xs.drop k) := fun i v hi => by
  rw [List.getElem?_drop] at hi
  obtain ⟨b', off', e, hc⟩ := h _ _ hi
  cases e
  exact ⟨b, off + k, rfl, by rwa [Nat.add_assoc]⟩
/-- A slice of integers that reads so, in memory that stands. -/
def VwInt (w : World) (l : List Int) (e : Ending) (w' : World) : Prop := ∃ a cap, e = .returned (.slice a l.length cap) ∧ Vw w' a (intCells l) ∧ l.length ≤ cap ∧ cap ≤ maxLen ∧ (a = none → cap = 0) ∧ Below w.heap.size w w'
theorem oneC_take {l : List Value} (h : OneC l) (n : Nat) : OneC (l.take n) := fun u hu => h u (List.mem_of_mem_take hu)
theorem vwInt_of {w w' : World} {l : List Int} {a : Option Addr} {n cap base : Nat} {t : TypeId} {xs : List Value} (hn : n = l.length) (h : w'.ownsRow base t 1 (.slice a n cap) n xs) (hx : xs = intCells l) (hb : Below w.heap.size w w') : VwInt w l (.returned (.slice a n cap)) w' := by
  subst hn hx
  obtain ⟨a', cap', e, h1, h2, h3⟩ := own_form h
  cases e
  refine ⟨_, _, rfl, vw_of_own h, h1, h2, fun hn => ?_, hb⟩
  rcases h3 with ⟨_, _, h⟩ | ⟨g, h, _⟩
  · exact h
  · rw [hn] at h; cases h
set_option maxRecDepth 100000 in
set_option maxHeartbeats 4000000 in
theorem put_any (a : Option Addr) (len cap : Nat) (l : List Int) (n : Int) (w : World) (hV : Vw w a (intCells l)) (hn : l.length = len) (hc : len ≤ cap) (hm : cap ≤ maxLen) (hl : len ≤ 1000000000000) (h0 : a = none → cap = 0) :
    Calls Tryz.prog 95 #[.slice a len cap, .int .i64 n] w (VwInt w (putI l n)) := by
  unfold maxLen at hm
  have HV := Lib.hid hV; have HN := Lib.hid hn; have H0 := Lib.hid h0
  clear hV hn h0
  go_enter Tryz.func95, Tryz.ntmps95
  go_wp2
  go_loop [5] (fun i => ∃ k : Nat, k ≤ len ∧ i = .int .i64 k ∧ ∀ j (hj : j < l.length), j < k → l[j] < n) (fun i => len - (intOf i).toNat)
  case atStart => exact ⟨0, Nat.zero_le _, rfl, fun j _ h => by omega⟩
  case round =>
    obtain ⟨k, hk, rfl, hno⟩ := hrel
    have NO := Lib.hid hno
    clear hno
    by_cases hlt : k < len
    · have hlt' : (k : Int) < (len : Int) := by omega
      have g1 : k < l.length := by have := HN.out; omega
      obtain ⟨b, off, rfl, hbl, c0⟩ := HV.out.int k g1
      obtain ⟨x, hx⟩ : ∃ x, l[k]'g1 = x := ⟨_, rfl⟩
      rw [hx] at c0
      have HX := Lib.hid hx
      clear hx
      by_cases hxn : x < n
      · go_wp2
        go_round
        case rel =>
          refine ⟨k + 1, by omega, by go_num, fun j hj hjk => ?_⟩
          by_cases e : j = k
          · subst e; rw [HX.out]; exact hxn
          · exact NO.out j hj (by omega)
        case measure => simp [intOf]; omega
      · by_cases hxe : x = n
        · subst hxe
          go_wp2
          go_ret
          have e : putI l x = l := by
            rw [putI_at (k := k) (by omega) NO.out (fun hj => by rw [HX.out]; omega), dif_pos ⟨g1, HX.out⟩]
          rw [e]
          have hN := HN.out
          subst hN
          exact ⟨_, _, rfl, HV.out, hc, by unfold maxLen; omega, by simp, Below.refl _ _⟩
        · have be : (x == n) = false := by simpa using hxe
          have HXE := Lib.hid hxe
          clear hxe
          go_wp2
          have EQ : RowKit.Hid (putI l n = l.take k ++ n :: l.drop k) := by
            show putI l n = _
            rw [putI_at (k := k) (by omega) NO.out (fun hj => by rw [HX.out]; omega), dif_neg (by rintro ⟨hj, h⟩; exact HXE.out (HX.out.symm.trans h))]
          have LEN : RowKit.Hid (k + 1 + (len - k) = (putI l n).length) := by
            show _ = (putI l n).length
            have := HN.out
            rw [EQ.out, List.length_append, List.length_cons, List.length_take, List.length_drop]; omega
          have VP := Lib.hid (HV.out.take k)
          have LP : RowKit.Hid (((intCells l).take k).length = k * 1) := by have := HN.out; show ((intCells l).take k).length = _; rw [List.length_take, List.length_map]; omega
          have LS : RowKit.Hid (((intCells l).drop k).length = (len - k) * 1) := by have := HN.out; show ((intCells l).drop k).length = _; rw [List.length_drop, List.length_map]; omega
          have O2 : RowKit.Hid (OneC ((intCells l).drop k)) := fun u hu => oneC_int l u (List.mem_of_mem_drop hu)
          have VS := Lib.hid (HV.out.drop k)
          have hck : ¬ cap = k := by omega
          have i1 : (0 : Int) ≤ (k : Int) := by omega
          have i2 : (k : Int) ≤ (cap : Int) := by omega
          have i3 : (k : Int) ≤ (len : Int) := by omega
          go_region_held3 (fun _ => True) (trivial) (first
            | (refine app_step elInt (by rfl) _ _ (by rfl) w.heap.size (.slice (some ⟨w.heap.size, 0, none⟩) 0 0) 0 [] (by rfl) (own_lit0 (t := 3) (by first | exact Blk.fresh (by simp) | exact (Blk.fresh (by simp)).drew | exact (Blk.fresh (by simp)).alloc _ | exact ((Blk.fresh (by simp)).alloc _).drew) (by omega)) _ k _ ((intCells l).take k) (by rfl) (VP.out.below (by (repeat (with_reducible first | exact Below.refl _ _ | refine bdr ?_ | refine bal ?_ _)))) (by simp) LP.out (oneC_take (oneC_int _) _) (by omega) (by (simp <;> omega)) ?_; intro v1 w1 hown1 hg1 hat1; have K1 := fun g cs (h : Blk _ g 3 cs) (hne : g ≠ w.heap.size) => Eq.trans (hg1.block g (Blk.lt h) (by simpa [Value.ownBlock] using hne)) h; have B1 : Below w.heap.size w w1 := Below.grown (by (repeat (with_reducible first | exact Below.refl _ _ | refine bdr ?_ | refine bal ?_ _))) hg1 (by (simp <;> omega)) (by intro q hq; simp [Value.ownBlock] at hq; omega); have z1 := B1.size)
            | (refine app_step elInt (by rfl) _ _ (by rfl) w.heap.size (.slice (some ⟨w.heap.size + 1, 0, none⟩) 0 0) 0 [] (by rfl) (own_lit0 (t := 3) (by first | exact Blk.fresh (by simp) | exact (Blk.fresh (by simp)).drew | exact (Blk.fresh (by simp)).alloc _ | exact ((Blk.fresh (by simp)).alloc _).drew) (by omega)) _ k _ ((intCells l).take k) (by rfl) (VP.out.below (by (repeat (with_reducible first | exact Below.refl _ _ | refine bdr ?_ | refine bal ?_ _)))) (by simp) LP.out (oneC_take (oneC_int _) _) (by omega) (by (simp <;> omega)) ?_; intro v1 w1 hown1 hg1 hat1; have K1 := fun g cs (h : Blk _ g 3 cs) (hne : g ≠ w.heap.size + 1) => Eq.trans (hg1.block g (Blk.lt h) (by simpa [Value.ownBlock] using hne)) h; have B1 : Below w.heap.size w w1 := Below.grown (by (repeat (with_reducible first | exact Below.refl _ _ | refine bdr ?_ | refine bal ?_ _))) hg1 (by (simp <;> omega)) (by intro q hq; simp [Value.ownBlock] at hq; omega); have z1 := B1.size)
            | (refine app_step elInt (by rfl) _ _ (by rfl) w.heap.size v1 (0 + k) _ (by rfl) (by first | exact hown1 | exact hown1.alloc _) _ 1 _ [.int .i64 n] (by rfl) (by first | exact vw_blk (Blk.fresh (by simp)) | exact vw_blk (K1 (w.heap.size + 1) #[.int .i64 n] (by first | exact Blk.fresh (by simp) | exact (Blk.fresh (by simp)).drew | exact (Blk.fresh (by simp)).alloc _ | exact ((Blk.fresh (by simp)).alloc _).drew) (by omega)) | exact vw_blk (K1 w.heap.size #[.int .i64 n] (by first | exact Blk.fresh (by simp) | exact (Blk.fresh (by simp)).drew | exact (Blk.fresh (by simp)).alloc _ | exact ((Blk.fresh (by simp)).alloc _).drew) (by omega))) (by simp) (by rfl) (by intro u hu; simp at hu; (try rcases hu with rfl | rfl | rfl | rfl | rfl | rfl | rfl) <;> (try subst hu) <;> rfl) (by omega) (by first | exact z1 | (simp; omega)) ?_; intro v2 w2 hown2 hg2 hat2; have B2 : Below w.heap.size w w2 := Below.grown (by (repeat (with_reducible first | exact B1 | exact Below.refl _ _ | refine bdr ?_ | refine bal ?_ _))) hg2 (by first | exact z1 | (simp; omega)) (by intro q hq; exact (hown1.lt q hq).1); have z2 := B2.size)
            | (refine app_step elInt (by rfl) _ _ (by rfl) w.heap.size v2 (0 + k + 1) _ (by rfl) hown2 _ (len - k) _ ((intCells l).drop k) (by rfl) (VS.out.below B2) (by simp) LS.out O2.out (by omega) z2 ?_; intro v3 w3 hown3 hg3 hat3; have B3 : Below w.heap.size w w3 := Below.grown B2 hg3 z2 (by intro q hq; exact (hown2.lt q hq).1); obtain ⟨a3, cap3, rfl, q31, q32, q33⟩ := own_form hown3))
          all_goals
            go_wp2
            go_ret
            (try simp only [Nat.zero_add, Nat.add_zero] at hown3)
            exact vwInt_of LEN.out hown3 (by rw [EQ.out]; simp [intCells]) B3
    · obtain rfl : k = len := by omega
      have hge : ¬ (k : Int) < (k : Int) := by omega
      have EQ : RowKit.Hid (putI l n = l.take k ++ n :: l.drop k) := by
        show putI l n = _
        rw [putI_at (k := k) (by have := HN.out; omega) NO.out (fun hj => by have := HN.out; omega), dif_neg (by rintro ⟨hj, h⟩; have := HN.out; omega)]
      have LEN : RowKit.Hid (k + 1 = (putI l n).length) := by
        show _ = (putI l n).length
        have := HN.out
        rw [EQ.out, List.length_append, List.length_cons, List.length_take, List.length_drop]; omega
      have VP := Lib.hid (HV.out.take k)
      have LP : RowKit.Hid (((intCells l).take k).length = k * 1) := by have := HN.out; show ((intCells l).take k).length = _; rw [List.length_take, List.length_map]; omega
      have LS : RowKit.Hid (((intCells l).drop k).length = 0 * 1) := by have := HN.out; show ((intCells l).drop k).length = _; rw [List.length_drop, List.length_map]; omega
      have O2 : RowKit.Hid (OneC ((intCells l).drop k)) := fun u hu => oneC_int l u (List.mem_of_mem_drop hu)
      have VS : RowKit.Hid (∀ a, Vw w a ((intCells l).drop k)) := fun a => by
        have e : (intCells l).drop k = [] := List.eq_nil_of_length_eq_zero (by simpa using LS.out)
        rw [e]; exact Vw.nil _ _
      have i1 : (0 : Int) ≤ (k : Int) := by omega
      have i2 : (k : Int) ≤ (cap : Int) := by omega
      by_cases hck : cap = k
      · obtain rfl : k = cap := hck.symm
        go_wp2
        go_region_held3 (fun _ => True) (trivial) (first
            | (refine app_step elInt (by rfl) _ _ (by rfl) w.heap.size (.slice (some ⟨w.heap.size, 0, none⟩) 0 0) 0 [] (by rfl) (own_lit0 (t := 3) (by first | exact Blk.fresh (by simp) | exact (Blk.fresh (by simp)).drew | exact (Blk.fresh (by simp)).alloc _ | exact ((Blk.fresh (by simp)).alloc _).drew) (by omega)) _ k _ ((intCells l).take k) (by rfl) (VP.out.below (by (repeat (with_reducible first | exact Below.refl _ _ | refine bdr ?_ | refine bal ?_ _)))) (by intro h; have := H0.out h; omega) LP.out (oneC_take (oneC_int _) _) (by omega) (by (simp <;> omega)) ?_; intro v1 w1 hown1 hg1 hat1; have K1 := fun g cs (h : Blk _ g 3 cs) (hne : g ≠ w.heap.size) => Eq.trans (hg1.block g (Blk.lt h) (by simpa [Value.ownBlock] using hne)) h; have B1 : Below w.heap.size w w1 := Below.grown (by (repeat (with_reducible first | exact Below.refl _ _ | refine bdr ?_ | refine bal ?_ _))) hg1 (by (simp <;> omega)) (by intro q hq; simp [Value.ownBlock] at hq; omega); have z1 := B1.size)
            | (refine app_step elInt (by rfl) _ _ (by rfl) w.heap.size (.slice (some ⟨w.heap.size + 1, 0, none⟩) 0 0) 0 [] (by rfl) (own_lit0 (t := 3) (by first | exact Blk.fresh (by simp) | exact (Blk.fresh (by simp)).drew | exact (Blk.fresh (by simp)).alloc _ | exact ((Blk.fresh (by simp)).alloc _).drew) (by omega)) _ k _ ((intCells l).take k) (by rfl) (VP.out.below (by (repeat (with_reducible first | exact Below.refl _ _ | refine bdr ?_ | refine bal ?_ _)))) (by intro h; have := H0.out h; omega) LP.out (oneC_take (oneC_int _) _) (by omega) (by (simp <;> omega)) ?_; intro v1 w1 hown1 hg1 hat1; have K1 := fun g cs (h : Blk _ g 3 cs) (hne : g ≠ w.heap.size + 1) => Eq.trans (hg1.block g (Blk.lt h) (by simpa [Value.ownBlock] using hne)) h; have B1 : Below w.heap.size w w1 := Below.grown (by (repeat (with_reducible first | exact Below.refl _ _ | refine bdr ?_ | refine bal ?_ _))) hg1 (by (simp <;> omega)) (by intro q hq; simp [Value.ownBlock] at hq; omega); have z1 := B1.size)
            | (refine app_step elInt (by rfl) _ _ (by rfl) w.heap.size v1 (0 + k) _ (by rfl) (by first | exact hown1 | exact hown1.alloc _) _ 1 _ [.int .i64 n] (by rfl) (by first | exact vw_blk (Blk.fresh (by simp)) | exact vw_blk (K1 (w.heap.size + 1) #[.int .i64 n] (by first | exact Blk.fresh (by simp) | exact (Blk.fresh (by simp)).drew | exact (Blk.fresh (by simp)).alloc _ | exact ((Blk.fresh (by simp)).alloc _).drew) (by omega)) | exact vw_blk (K1 w.heap.size #[.int .i64 n] (by first | exact Blk.fresh (by simp) | exact (Blk.fresh (by simp)).drew | exact (Blk.fresh (by simp)).alloc _ | exact ((Blk.fresh (by simp)).alloc _).drew) (by omega))) (by simp) (by rfl) (by intro u hu; simp at hu; (try rcases hu with rfl | rfl | rfl | rfl | rfl | rfl | rfl) <;> (try subst hu) <;> rfl) (by omega) (by first | exact z1 | (simp; omega)) ?_; intro v2 w2 hown2 hg2 hat2; have B2 : Below w.heap.size w w2 := Below.grown (by (repeat (with_reducible first | exact B1 | exact Below.refl _ _ | refine bdr ?_ | refine bal ?_ _))) hg2 (by first | exact z1 | (simp; omega)) (by intro q hq; exact (hown1.lt q hq).1); have z2 := B2.size)
            | (refine app_step elInt (by rfl) _ _ (by rfl) w.heap.size v2 (0 + k + 1) _ (by rfl) hown2 _ (0) _ ((intCells l).drop k) (by rfl) ((VS.out _).below B2) (by simp) LS.out O2.out (by omega) z2 ?_; intro v3 w3 hown3 hg3 hat3; have B3 : Below w.heap.size w w3 := Below.grown B2 hg3 z2 (by intro q hq; exact (hown2.lt q hq).1); obtain ⟨a3, cap3, rfl, q31, q32, q33⟩ := own_form hown3))
        all_goals
          go_wp2
          go_ret
          (try simp only [Nat.zero_add, Nat.add_zero] at hown3)
          exact vwInt_of LEN.out hown3 (by rw [EQ.out]; simp [intCells]) B3
      · go_wp2
        go_region_held3 (fun _ => True) (trivial) (first
            | (refine app_step elInt (by rfl) _ _ (by rfl) w.heap.size (.slice (some ⟨w.heap.size, 0, none⟩) 0 0) 0 [] (by rfl) (own_lit0 (t := 3) (by first | exact Blk.fresh (by simp) | exact (Blk.fresh (by simp)).drew | exact (Blk.fresh (by simp)).alloc _ | exact ((Blk.fresh (by simp)).alloc _).drew) (by omega)) _ k _ ((intCells l).take k) (by rfl) (VP.out.below (by (repeat (with_reducible first | exact Below.refl _ _ | refine bdr ?_ | refine bal ?_ _)))) (by intro h; have := H0.out h; omega) LP.out (oneC_take (oneC_int _) _) (by omega) (by (simp <;> omega)) ?_; intro v1 w1 hown1 hg1 hat1; have K1 := fun g cs (h : Blk _ g 3 cs) (hne : g ≠ w.heap.size) => Eq.trans (hg1.block g (Blk.lt h) (by simpa [Value.ownBlock] using hne)) h; have B1 : Below w.heap.size w w1 := Below.grown (by (repeat (with_reducible first | exact Below.refl _ _ | refine bdr ?_ | refine bal ?_ _))) hg1 (by (simp <;> omega)) (by intro q hq; simp [Value.ownBlock] at hq; omega); have z1 := B1.size)
            | (refine app_step elInt (by rfl) _ _ (by rfl) w.heap.size (.slice (some ⟨w.heap.size + 1, 0, none⟩) 0 0) 0 [] (by rfl) (own_lit0 (t := 3) (by first | exact Blk.fresh (by simp) | exact (Blk.fresh (by simp)).drew | exact (Blk.fresh (by simp)).alloc _ | exact ((Blk.fresh (by simp)).alloc _).drew) (by omega)) _ k _ ((intCells l).take k) (by rfl) (VP.out.below (by (repeat (with_reducible first | exact Below.refl _ _ | refine bdr ?_ | refine bal ?_ _)))) (by intro h; have := H0.out h; omega) LP.out (oneC_take (oneC_int _) _) (by omega) (by (simp <;> omega)) ?_; intro v1 w1 hown1 hg1 hat1; have K1 := fun g cs (h : Blk _ g 3 cs) (hne : g ≠ w.heap.size + 1) => Eq.trans (hg1.block g (Blk.lt h) (by simpa [Value.ownBlock] using hne)) h; have B1 : Below w.heap.size w w1 := Below.grown (by (repeat (with_reducible first | exact Below.refl _ _ | refine bdr ?_ | refine bal ?_ _))) hg1 (by (simp <;> omega)) (by intro q hq; simp [Value.ownBlock] at hq; omega); have z1 := B1.size)
            | (refine app_step elInt (by rfl) _ _ (by rfl) w.heap.size v1 (0 + k) _ (by rfl) (by first | exact hown1 | exact hown1.alloc _) _ 1 _ [.int .i64 n] (by rfl) (by first | exact vw_blk (Blk.fresh (by simp)) | exact vw_blk (K1 (w.heap.size + 1) #[.int .i64 n] (by first | exact Blk.fresh (by simp) | exact (Blk.fresh (by simp)).drew | exact (Blk.fresh (by simp)).alloc _ | exact ((Blk.fresh (by simp)).alloc _).drew) (by omega)) | exact vw_blk (K1 w.heap.size #[.int .i64 n] (by first | exact Blk.fresh (by simp) | exact (Blk.fresh (by simp)).drew | exact (Blk.fresh (by simp)).alloc _ | exact ((Blk.fresh (by simp)).alloc _).drew) (by omega))) (by simp) (by rfl) (by intro u hu; simp at hu; (try rcases hu with rfl | rfl | rfl | rfl | rfl | rfl | rfl) <;> (try subst hu) <;> rfl) (by omega) (by first | exact z1 | (simp; omega)) ?_; intro v2 w2 hown2 hg2 hat2; have B2 : Below w.heap.size w w2 := Below.grown (by (repeat (with_reducible first | exact B1 | exact Below.refl _ _ | refine bdr ?_ | refine bal ?_ _))) hg2 (by first | exact z1 | (simp; omega)) (by intro q hq; exact (hown1.lt q hq).1); have z2 := B2.size)
            | (refine app_step elInt (by rfl) _ _ (by rfl) w.heap.size v2 (0 + k + 1) _ (by rfl) hown2 _ (0) _ ((intCells l).drop k) (by rfl) ((VS.out _).below B2) (by simp) LS.out O2.out (by omega) z2 ?_; intro v3 w3 hown3 hg3 hat3; have B3 : Below w.heap.size w w3 := Below.grown B2 hg3 z2 (by intro q hq; exact (hown2.lt q hq).1); obtain ⟨a3, cap3, rfl, q31, q32, q33⟩ := own_form hown3))
        all_goals
          go_wp2
          go_ret
          (try simp only [Nat.zero_add, Nat.add_zero] at hown3)
          exact vwInt_of LEN.out hown3 (by rw [EQ.out]; simp [intCells]) B3
end Go.Proofs.YtglhenobodndjaaGreatDoor
