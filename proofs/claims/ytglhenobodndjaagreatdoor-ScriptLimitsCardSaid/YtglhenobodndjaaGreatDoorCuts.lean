/- The rows at which rectangles begin or end. -/
import Derived.Test.YtglhenobodndjaaGreatDoorSortw
namespace Go.Proofs.YtglhenobodndjaaGreatDoor
open Go.RowKit Go.Sort Go.Shelf
set_option linter.unusedVariables false
set_option linter.unusedSimpArgs false

/-- A slice in memory. -/
structure Sc (α : Type) where
  a : Option Addr
  n : Nat
  c : Nat
  l : List α
def encSc {α : Type} (s : Sc α) : List Value := [.slice s.a s.n s.c]
theorem encSc_len {α : Type} (s : Sc α) : (encSc s).length = 1 := rfl
/-- Slices of rectangles that read so. -/
def ScOk (w : World) (s : Sc Rc) : Prop := Vw w s.a (rcCells s.l) ∧ s.l.length = s.n ∧ s.n ≤ 100000
theorem ScOk.below {w w' : World} {s : Sc Rc} (h : ScOk w s) (hb : Below w.heap.size w w') : ScOk w' s := ⟨h.1.below hb, h.2⟩
def edgesY (l : List Rc) : List Int := l.flatMap fun q => [q.2.1, q.2.2.2]
def allY (ls : List (Sc Rc)) : List Int := ls.flatMap fun s => edgesY s.l
theorem edgesY_len (l : List Rc) : (edgesY l).length = l.length * 2 := by
  induction l with
  | nil => rfl
  | cons q l ih => simp [edgesY] at ih ⊢; omega
theorem edgesY_snoc {l : List Rc} {k : Nat} {q : Rc} (h : l[k]? = some q) : edgesY (l.take (k + 1)) = edgesY (l.take k) ++ [q.2.1, q.2.2.2] := by
  unfold edgesY; rw [List.take_add_one, h]; simp
theorem allY_snoc {l : List (Sc Rc)} {k : Nat} {s : Sc Rc} (h : l[k]? = some s) : allY (l.take (k + 1)) = allY (l.take k) ++ edgesY s.l := by
  unfold allY; rw [List.take_add_one, h]; simp
theorem allY_len {ls : List (Sc Rc)} (h : ∀ s ∈ ls, s.l.length ≤ 100000) : (allY ls).length ≤ ls.length * 200000 := by
  induction ls with
  | nil => simp [allY]
  | cons s ls ih =>
    have h1 := h s (by simp)
    have h2 := ih (fun s hs => h s (by simp [hs]))
    have e : (allY (s :: ls)).length = (edgesY s.l).length + (allY ls).length := by simp [allY]
    rw [e, edgesY_len, List.length_cons]; omega
set_option maxRecDepth 100000 in
set_option maxHeartbeats 2000000 in
theorem cuts_any (a : Option Addr) (n cap : Nat) (ls : List (Sc Rc)) (w : World) (hV : Vw w a (cellsOf encSc ls)) (hn : ls.length = n) (hc : n ≤ 100) (hS : ∀ s ∈ ls, ScOk w s) :
    Calls Tryz.prog 128 #[.slice a n cap] w (NewInt w (ascOf (allY ls))) := by
  have HV := Lib.hid hV; have HN := Lib.hid hn; have HS := Lib.hid hS
  have hall : ∀ k, k ≤ n → (allY (ls.take k)).length ≤ k * 200000 := fun k hk => by
    have := allY_len (ls := ls.take k) (fun s hs => by have := hS s (List.mem_of_mem_take hs); have := this.2; omega)
    rw [List.length_take] at this
    exact Nat.le_trans this (Nat.mul_le_mul_right _ (Nat.min_le_left _ _))
  have HA := Lib.hid hall
  clear hV hn hS hall
  go_enter Tryz.func128, Tryz.ntmps128
  go_wp2
  go_loopw [3, 10] (fun v i wr => RowW w 3 1 n (fun j => intCells (allY (ls.take j))) (fun j => (allY (ls.take j)).length) v i wr) (fun _ i _ => n - (intOf i).toNat)
  case atStart => exact ⟨0, Nat.zero_le _, rfl, World.ownsRow_nil _ _ _ _, Below.refl _ _⟩
  case round =>
    obtain ⟨k, hk, rfl, hown, hb⟩ := hrel
    dsimp only at hown
    obtain ⟨L0, hL0⟩ : ∃ L0, allY (ls.take k) = L0 := ⟨_, rfl⟩
    have hl0 := HA.out k hk
    rw [hL0] at hown hl0
    have HL0 := Lib.hid hL0
    clear hL0
    by_cases hlt : k < n
    · have hlt' : (k : Int) < (n : Int) := by omega
      obtain ⟨a0, cap0, rfl, -, -, -⟩ := own_form hown
      obtain ⟨x, b, off, hx, rfl, hbl, hcx⟩ := (HV.out.below hb).el encSc_len (by omega) k (by have := HN.out; omega)
      obtain ⟨hxv, hxl, hxn⟩ := HS.out x (List.mem_of_getElem? hx)
      have c0 : wr.cell? ⟨b, off + k, none⟩ = some (.slice x.a x.n x.c) := by have := hcx 0 _ rfl; rwa [Nat.mul_one, Nat.add_zero] at this
      have XV := Lib.hid hxv; have XM := Lib.hid hxl; have HX := Lib.hid hx
      clear hx hxv hxl hcx
      obtain ⟨xa, xm, xc, xl⟩ := x
      dsimp only at c0 hxn
      have OWN := Lib.hid hown; have HB := Lib.hid hb
      clear hown hb
      go_wp2
      obtain ⟨wo, rfl⟩ : ∃ wo : World, wo = wr := ⟨_, rfl⟩
      go_loopw [3, 16] (fun v i wx => RowW w 3 1 xm (fun j => intCells (L0 ++ edgesY (xl.take j))) (fun j => (L0 ++ edgesY (xl.take j)).length) v i wx) (fun _ i _ => xm - (intOf i).toNat)
      case atStart => exact ⟨0, Nat.zero_le _, rfl, by simpa [edgesY] using OWN.out, HB.out⟩
      case round =>
        clear OWN
        obtain ⟨j, hj, rfl, hown, hb⟩ := hrel
        dsimp only at hown
        have hlj : (L0 ++ edgesY (xl.take j)).length ≤ L0.length + 2 * j := by
          rw [List.length_append, edgesY_len, List.length_take]; omega
        obtain ⟨L, hL⟩ : ∃ L, L0 ++ edgesY (xl.take j) = L := ⟨_, rfl⟩
        rw [hL] at hown hlj
        have HL := Lib.hid hL
        clear hL
        obtain ⟨a1, cap1, rfl, -, -, -⟩ := own_form hown
        by_cases hlt2 : j < xm
        · have hlt2' : (j : Int) < (xm : Int) := by omega
          obtain ⟨s, b', off', hs, rfl, hbl', hcs⟩ := (XV.out.below hb).el encRc_len (by omega) j (by have := XM.out; omega)
          have e0 : wr.cell? ⟨b', off' + j * 4, none⟩ = _ := hcs 0 _ rfl; have e1 := hcs 1 _ rfl; have e2 := hcs 2 _ rfl; have e3 := hcs 3 _ rfl
          have HS2 := Lib.hid hs
          clear hcs hs
          obtain ⟨s0, s1, s2, s3⟩ := s
          dsimp only at e0 e1 e2 e3
          have OWN := Lib.hid hown; have HB2 := Lib.hid hb
          clear hown hb
          go_wp2_with (at_builtin; refine app_list elInt rfl _ _ rfl w.heap.size _ L.length (intCells L) rfl ((OWN.out.alloc _).alloc _) _ 2 _ [.int .i64 s1, .int .i64 s3] rfl (vw_blk (Blk.fresh (by simp))) (by simp) rfl (oneC_int [s1, s3]) (by omega) (by have := HB2.out.size; simp; omega) ?_; intro v2 w2 hown2 hg2 _; obtain ⟨a2, cap2, rfl, -, -, -⟩ := own_form hown2)
          go_roundw
          case rel =>
            have eL : L0 ++ edgesY (xl.take (j + 1)) = L ++ [s1, s3] := by rw [edgesY_snoc HS2.out, ← List.append_assoc, HL.out]
            refine ⟨j + 1, by omega, by go_num, ?_, below_app ((OWN.out.alloc _).alloc _) (bal (bal HB2.out _) _) hg2⟩
            dsimp only
            rw [eL, List.length_append]
            simpa [intCells] using hown2
          case measure => simp [intOf]; omega
        · have hge2 : ¬ (j : Int) < (xm : Int) := by omega
          have OWN := Lib.hid hown; have HB2 := Lib.hid hb
          clear hown hb
          go_wp2
          go_roundw
          case rel =>
            have hL := HL.out
            rw [List.take_of_length_le (by have := XM.out; omega)] at hL
            refine ⟨k + 1, by omega, by go_num, ?_, HB2.out⟩
            dsimp only
            rw [allY_snoc HX.out, HL0.out]
            dsimp only
            rw [hL]
            exact OWN.out
          case measure => simp [intOf]; omega
    · have hge : ¬ (k : Int) < (n : Int) := by omega
      have e := HL0.out
      rw [List.take_of_length_le (by have := HN.out; omega)] at e
      obtain ⟨a0, cap0, ev, -, -, -⟩ := own_form hown
      have OWN := Lib.hid hown; have HB := Lib.hid hb; have HE := Lib.hid e; have HEV := Lib.hid ev
      clear hown hb e ev
      go_wp2_with (first
        | (go_at_call 136; refine (sort_ints _ _ _ _ _ OWN.out (by omega)).mono ?_; rintro e w1 ⟨rfl, hown1, hg1⟩; have HB1 := Lib.hid (below_app OWN.out HB.out hg1); have OWN1 := Lib.hid hown1; clear hown1 hg1)
        | (go_at_call 137; refine (compact_ints _ _ _ _ _ OWN1.out (by omega)).mono ?_; rintro e w2 ⟨v2, rfl, hown2, hg2⟩; have HB2 := Lib.hid (below_app OWN1.out HB1.out hg2); have OWN2 := Lib.hid hown2; clear hown2 hg2))
      go_ret
      refine ⟨v2, rfl, ?_, HB2.out⟩
      rw [HE.out]
      exact OWN2.out
end Go.Proofs.YtglhenobodndjaaGreatDoor
