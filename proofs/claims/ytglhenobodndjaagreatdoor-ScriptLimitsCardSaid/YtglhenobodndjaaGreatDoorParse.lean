/- script.Parse of a text whose lines are known. -/
import Derived.Test.YtglhenobodndjaaGreatDoorPrint
namespace Go.Proofs.YtglhenobodndjaaGreatDoor
open Go.RowKit
set_option linter.unusedVariables false
set_option linter.unusedSimpArgs false

/-- The event of this line has these cells. -/
def EvAt (w : World) (cs : List Value) (s : ByteArray) : Prop := ∀ W : World, Below w.heap.size w W → Calls Tryz.prog 17 #[.string s] W fun e w' => e = .returned (.tuple #[.agg cs.toArray, .bool true]) ∧ Below W.heap.size W w'
theorem EvAt.below {w w' : World} {cs : List Value} {s : ByteArray} (h : EvAt w cs s) (hb : Below w.heap.size w w') : EvAt w' cs s := fun W hW => h W (btr hb hW)
theorem shaped_below' {P : Program} {w w' : World} (h : w.ShapedOpen P) (hb : Below w.heap.size w w') : w'.ShapedOpen P := h.keptBut (hb.frame fun _ => False) fun _ h => h.elim
theorem infoEv : (Tryz.prog.info? 36).map (fun i => (i.zero, i.size, i.bytes)) = some (some (.agg #[.int .i64 0, .int .i64 0, .int .i64 0, .int .i64 0, .int .i64 0, .int .i64 0, .slice none 0 0, .slice none 0 0, .int .i64 0, .slice none 0 0, .int .i64 0, .int .u64 0, .int .u64 0, .int .i64 0, .int .i64 0, .int .i64 0, .int .i64 0, .int .i64 0, .int .i64 0, .int .i64 0, .int .i64 0, .int .i64 0, .int .i64 0]), 23, 232) := by kernel_rfl
theorem elEv : ElT Tryz.prog 43 36 23 232 := .mk' Tryz.underlying43 infoEv rfl (by decide) (by decide)
theorem cut_line (s r : List UInt8) (h : ¬ (10 : UInt8) ∈ s) : Lib.cut (s ++ (10 :: r)) [10] = (s, r, true) := by
  have hi : Lib.index (s ++ (10 :: r)) [10] = (s.length : Int) := by
    refine Lib.index_first (by simp) (by simp [Lib.occAt]) fun j hj => ?_
    unfold Lib.occAt
    rw [List.drop_append_of_le_length (by omega)]
    obtain ⟨x, y, hxy⟩ : ∃ x y, s.drop j = x :: y := by
      cases hd : s.drop j with
      | nil => have := congrArg List.length hd; simp at this; omega
      | cons x y => exact ⟨x, y, rfl⟩
    have hx : x ∈ s := List.mem_of_mem_drop (by rw [hxy]; exact List.mem_cons_self)
    rw [hxy]
    simp only [List.cons_append, List.isPrefixOf, List.isPrefixOf_nil_left, Bool.and_true]
    have hne : (10 : UInt8) ≠ x := fun e => h (by rw [e]; exact hx)
    simpa using hne
  unfold Lib.cut
  rw [hi, if_pos (by omega)]
  simp
theorem vw_src {w : World} {t : TypeId} (cs : Array Value) (L : List Value) {A : Option Addr} (h : cs = L.toArray) (hA : A = some ⟨w.heap.size, 0, none⟩) : Vw (w.alloc (.cells cs t)) A L := by
  subst h hA
  simpa using vw_new w t L.toArray
theorem oneL {L : List Value} (h : L.toArray.all (·.oneCell') = true) : OneC L := fun u hu => by
  rw [List.all_toArray] at h
  exact List.all_eq_true.1 h u hu
def ParseP (w : World) (es : List (List Value × ByteArray)) (e : Ending) (w' : World) : Prop :=
  if es.length ≤ 200 then ∃ a c, e = .returned (.tuple #[.slice a es.length c, .int .i64 0, .int .i64 0]) ∧ Vw w' a (cellsOf Prod.fst es) ∧ (a = none → es.length = 0) ∧ Below w.heap.size w w'
  else e = .returned (.tuple #[.slice none 0 0, .int .i64 201, .int .i64 1]) ∧ Below w.heap.size w w'
theorem outL_drop (es : List (List Value × ByteArray)) (k : Nat) (h : k < es.length) : outL (es.drop k) = es[k].2.data.toList ++ (10 :: outL (es.drop (k + 1))) := by
  unfold outL
  rw [List.drop_eq_getElem_cons h, List.flatMap_cons]
  simp
theorem fst_take (es : List (List Value × ByteArray)) (k : Nat) (h : k < es.length) : cellsOf Prod.fst (es.take (k + 1)) = cellsOf Prod.fst (es.take k) ++ es[k].1 := by
  unfold cellsOf
  rw [List.take_succ_eq_append_getElem h, List.flatMap_append]
  simp
set_option maxRecDepth 100000 in
set_option maxHeartbeats 8000000 in
theorem parse_any (w : World) (es : List (List Value × ByteArray)) (n : Nat) (T : ByteArray) (hS : w.ShapedOpen Tryz.prog) (hT : T = ⟨(outL es).toArray⟩) (hn : es.length = n) (hsz : ∀ p ∈ es, evOk p) (hE : ∀ p ∈ es, EvAt w p.1 p.2) (hlf : ∀ p ∈ es, ¬ (10 : UInt8) ∈ p.2.data.toList) (h2 : n ≤ 1000) (hlen : T.size ≤ 65536) :
    Calls Tryz.prog 21 #[.string T] w (ParseP w es) := by
  have CUT : RowKit.Hid (∀ W (s r : List UInt8), Below w.heap.size w W → ¬ (10 : UInt8) ∈ s → (s ++ (10 :: r)).length ≤ 65536 → Calls Tryz.prog 61 #[.string ⟨(s ++ (10 :: r)).toArray⟩, .string ⟨#[10]⟩] W fun e w' => e = .returned (.tuple #[.string ⟨s.toArray⟩, .string ⟨r.toArray⟩, .bool true]) ∧ ∃ n, w' = W.drewN n) := fun W s r hW hs hl => by
    have := Tryz.strings_Cut_shaped ⟨(s ++ (10 :: r)).toArray⟩ ⟨#[10]⟩ W (shaped_below' hS hW) (by simp [ByteArray.size] at hl ⊢; omega)
    simp only at this
    rw [cut_line s r hs] at this
    exact this
  have HN := Lib.hid hn; have HSZ := Lib.hid hsz; have HE := Lib.hid hE; have HF := Lib.hid hlf; have HT := Lib.hid hT
  have q1 : ¬ (T.size : Int) > 65536 := by omega
  have q2 : ¬ (65536 : Int) < (T.size : Int) := by omega
  have HLE : RowKit.Hid ((outL es).length ≤ 65536) := Lib.hid (by rw [hT] at hlen; simpa [ByteArray.size] using hlen)
  clear hS hn hsz hE hlf hT hlen
  go_enter Tryz.func21, Tryz.ntmps21
  go_wp2
  go_loopw [0, 5, 6] (fun t o i wr => ∃ k : Nat, k ≤ n ∧ k ≤ 200 ∧ t = .string ⟨(outL (es.drop k)).toArray⟩ ∧ i = .int .i64 (k + 1) ∧ wr.ownsRow w.heap.size 36 23 o k (cellsOf Prod.fst (es.take k)) ∧ Below w.heap.size w wr) (fun _ _ i _ => n + 1 - (intOf i).toNat)
  case atStart => exact ⟨0, Nat.zero_le _, Nat.zero_le _, by rw [List.drop_zero, HT.out], rfl, World.ownsRow_nil _ _ _ _, Below.refl _ _⟩
  case round =>
    obtain ⟨k, hk, hk2, rfl, rfl, ho, hB⟩ := hrel
    have HO := Lib.hid ho; have HB := Lib.hid hB
    have yw := hB.size
    obtain ⟨a5, c5, rfl, -, -, -⟩ := own_form ho
    clear ho hB
    by_cases hlt : k < n
    · have hke : k < es.length := by rw [HN.out]; exact hlt
      have hd := outL_drop es k hke
      have HFT := Lib.hid (fst_take es k hke)
      have hle : (outL (es.drop k)).length ≤ 65536 := by
        have e : (outL es).length = (outL (es.take k)).length + (outL (es.drop k)).length := by
          unfold outL
          rw [← List.length_append, ← List.flatMap_append, List.take_append_drop]
        have := HLE.out
        omega
      have hne : (outL (es.drop k)) ≠ [] := by rw [hd]; simp
      have HP := Lib.hid (HSZ.out _ (List.getElem_mem hke))
      have HEV := Lib.hid (HE.out _ (List.getElem_mem hke))
      have hnl := HF.out _ (List.getElem_mem hke)
      obtain ⟨p, hp⟩ : ∃ p, es[k] = p := ⟨_, rfl⟩
      rw [hp] at hd HFT HP HEV hnl
      clear hp hke
      obtain ⟨L, s⟩ := p
      dsimp only at hd HFT HP HEV hnl
      have hL1 := HP.out.1
      have HL1 := Lib.hid hL1
      have HLS : RowKit.Hid (L.toArray.size = 23) := Lib.hid (by rw [List.size_toArray]; exact HL1.out)
      have HBD : RowKit.Hid ((k + 1) * 232 ≤ 140737488355328) := Lib.hid (by omega)
      have HCT := Lib.hid fun W (hW : Below w.heap.size w W) => CUT.out W s.data.toList (outL (es.drop (k + 1))) hW hnl (by rw [← hd]; exact hle)
      rw [← hd] at HCT
      clear hL1 hnl hd hle
      obtain ⟨R, hR⟩ : ∃ R, outL (es.drop k) = R := ⟨_, rfl⟩
      rw [hR] at hne HCT ⊢
      have hn1 : (!R.isEmpty) = true := by simpa using hne
      have hn2 : R.isEmpty = false := by simpa using hne
      clear hR hne
      by_cases h200 : k = 200
      · subst h200
        have hnl2 : ¬ es.length ≤ 200 := by rw [HN.out]; omega
        go_wp2
        go_ret3
        unfold ParseP
        rw [if_neg hnl2]
        exact ⟨rfl, HB.out⟩
      · have q3 : ¬ (k : Int) = 200 := by omega
        have q4 : ((k : Int) == 200) = false := by simpa using q3
        go_wp2_with (first
          | (go_at_call 61; refine (HCT.out _ (by (repeat (with_reducible first | exact HB.out | exact Below.refl _ _ | refine bdr ?_ | refine bdn ?_ _ | refine bal ?_ _)))).mono ?_; rintro e w2 ⟨rfl, nq, rfl⟩))
        refine (HEV.out _ (by (repeat (with_reducible first | exact HB.out | exact Below.refl _ _ | refine bdr ?_ | refine bdn ?_ _ | refine bal ?_ _)))).mono ?_
        rintro e w3 ⟨rfl, hb3⟩
        have HB3 := Lib.hid (btr HB.out (btr (bdn (Below.refl _ _) nq) hb3) : Below w.heap.size w w3)
        have HO3 := Lib.hid (own_keep HO.out (btr (bdn (Below.refl _ _) nq) hb3) : w3.ownsRow w.heap.size _ 23 _ k _)
        have yB : w.heap.size ≤ w3.heap.size := HB3.out.size
        have HO4 : RowKit.Hid (((w3.alloc (.cells L.toArray 36)).alloc (.cells L.toArray 36)).ownsRow w.heap.size 36 23 (.slice a5 k c5) k (cellsOf Prod.fst (es.take k))) := Lib.hid (own_keep HO3.out (by (repeat (with_reducible first | exact Below.refl _ _ | refine bdr ?_ | refine bdn ?_ _ | refine bal ?_ _))))
        have yB2 : w.heap.size ≤ ((w3.alloc (.cells L.toArray 36)).alloc (.cells L.toArray 36)).heap.size := by simp; omega
        clear hb3
        go_wp2_with (first
          | (refine st_new rfl 36 (.tmp 10) (.tmp 32) rfl L.toArray _ _ rfl rfl (evSzA HL1.out) (evCells_size HL1.out) HP.out.2 ?_)
          | (refine wpList_load_row rfl 36 (.tmp 10) rfl _ rfl _ L.toArray _ _ (heap_alloc_new _ _) Tryz.underlying36 rfl (evSzA HL1.out) ?_)
          | (refine bs_one elEv (by decide) rfl (.tmp 42) rfl L.toArray rfl HLS.out ?_)
          | (at_builtin; refine app_list elEv rfl _ _ rfl w.heap.size _ k (cellsOf Prod.fst (es.take k)) rfl HO4.out _ 1 _ L rfl (vw_src L.toArray _ rfl rfl) nofun (HL1.out.trans (Nat.one_mul 23).symm) (oneL HP.out.2) HBD.out yB2 ?_; intro v2 w4 hown4 hg4 hat4))
        rw [← HFT.out] at hown4
        have hb4 := below_app HO4.out (btr HB3.out (by (repeat (with_reducible first | exact Below.refl _ _ | refine bdr ?_ | refine bdn ?_ _ | refine bal ?_ _)))) hg4
        go_roundw
        case rel => exact ⟨k + 1, by omega, by omega, rfl, by go_num, hown4, hb4⟩
        case measure => simp [intOf]; omega
    · have : k = n := by omega
      subst this
      have e0 : es.drop k = [] := List.drop_of_length_le (by rw [HN.out]; omega)
      have e1 : es.take k = es := List.take_of_length_le (by rw [HN.out]; omega)
      have e2 : outL (es.drop k) = [] := by rw [e0]; rfl
      have hle2 : es.length ≤ 200 := by rw [HN.out]; exact hk2
      rw [e1] at HO
      rw [e2]
      clear e0 e1 e2
      go_wp2
      go_ret3
      unfold ParseP
      rw [if_pos hle2]
      refine ⟨a5, c5, ?_, vw_of_own HO.out, ?_, HB.out⟩
      · rw [HN.out]; rfl
      rintro rfl
      rw [HN.out]
      rcases HO.out.2 with ⟨h0, h1⟩ | ⟨g, cap, cur, hv, _⟩
      · exact h1
      · cases hv
end Go.Proofs.YtglhenobodndjaaGreatDoor
