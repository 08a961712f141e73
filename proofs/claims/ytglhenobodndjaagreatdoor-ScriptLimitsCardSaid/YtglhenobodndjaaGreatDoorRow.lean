/- The squares of a row in proper rectangles, as the fewest spans. -/
import Derived.Test.YtglhenobodndjaaGreatDoorCuts
import Derived.BigRegion
namespace Go.Proofs.YtglhenobodndjaaGreatDoor
open Go.RowKit Go.Sort Go.Shelf
set_option linter.unusedVariables false
set_option linter.unusedSimpArgs false

/-- The spans of the rectangles in a row. -/
def rowSp (l : List Rc) (y : Int) : List Sp := (l.filter fun q => decide (q.2.1 ≤ y ∧ y < q.2.2.2)).map fun q => (q.1, q.2.2.1)
theorem rowSp_snoc_yes {l : List Rc} {y : Int} {k : Nat} {q : Rc} (h : l[k]? = some q) (h1 : q.2.1 ≤ y) (h2 : y < q.2.2.2) : rowSp (l.take (k + 1)) y = rowSp (l.take k) y ++ [(q.1, q.2.2.1)] := by
  unfold rowSp; rw [List.take_add_one, h]; simp [h1, h2]
theorem rowSp_snoc_no {l : List Rc} {y : Int} {k : Nat} {q : Rc} (h : l[k]? = some q) (h1 : ¬ (q.2.1 ≤ y ∧ y < q.2.2.2)) : rowSp (l.take (k + 1)) y = rowSp (l.take k) y := by
  unfold rowSp; rw [List.take_add_one, h]; simp at h1 ⊢; exact h1
theorem rowSp_len (l : List Rc) (y : Int) : (rowSp l y).length ≤ l.length := by
  unfold rowSp; rw [List.length_map]; exact List.length_filter_le _ _
theorem rowSp_in (l : List Rc) (y x : Int) : inSp (rowSp l y) x ↔ inRow l y x := by
  unfold inSp inRow rowSp
  simp only [List.mem_map, List.mem_filter, decide_eq_true_eq]
  constructor
  · rintro ⟨s, ⟨q, ⟨h1, h2, h3⟩, rfl⟩, h4, h5⟩; exact ⟨q, h1, h2, h3, h4, h5⟩
  · rintro ⟨q, h1, h2, h3, h4, h5⟩; exact ⟨_, ⟨q, ⟨h1, h2, h3⟩, rfl⟩, h4, h5⟩
theorem rowSp_lt {l : List Rc} (h : ∀ q ∈ l, q.1 < q.2.2.1) (y : Int) : ∀ s ∈ rowSp l y, s.1 < s.2 := by
  intro s hs
  unfold rowSp at hs
  obtain ⟨q, hq, rfl⟩ := List.mem_map.1 hs
  exact h q (List.mem_filter.1 hq).1
theorem spCells_set (o : List Sp) (u : Sp) (r : Int) : (spCells (o ++ [u])).set (o.length * 2 + 1) (.int .i64 r) = spCells (o ++ [(u.1, r)]) := by
  rw [spCells_snoc, spCells_snoc, List.set_append_right _ _ (by rw [cellsOf_length encSp_len]; omega), cellsOf_length encSp_len, show o.length * 2 + 1 - o.length * 2 = 1 by omega]
  rfl
theorem inSp_perm {l m : List Sp} (h : l.Perm m) (x : Int) : inSp l x ↔ inSp m x := by
  unfold inSp
  exact ⟨fun ⟨s, hs, hx⟩ => ⟨s, h.mem_iff.1 hs, hx⟩, fun ⟨s, hs, hx⟩ => ⟨s, h.mem_iff.2 hs, hx⟩⟩
/-- A new row of spans with gaps that has just some squares. -/
def NewRow (w : World) (S : Int → Prop) (e : Ending) (w' : World) : Prop := ∃ s : List Sp, Gap s ∧ (∀ x, inSp s x ↔ S x) ∧ s.length ≤ 1000000 ∧ NewSp w s e w'
/-- Behind j of the sorted spans. -/
def MergeI (w : World) (m : Nat) (l : List Sp) (v i : Value) (wr : World) : Prop :=
  ∃ (j : Nat) (out : List Sp), j ≤ m ∧ i = .int .i64 j ∧ Go.Proofs.YtglhenobodndjaaGreatDoor.RowI (l.take j) out ∧ out.length ≤ j ∧ wr.ownsRow w.heap.size 195 2 v out.length (spCells out) ∧ Below w.heap.size w wr
set_option maxRecDepth 100000 in
set_option maxHeartbeats 4000000 in
theorem row_any (a : Option Addr) (n cap : Nat) (l : List Rc) (y : Int) (w : World) (hV : Vw w a (rcCells l)) (hn : l.length = n) (hc : n ≤ 100000) (hp : ∀ q ∈ l, q.1 < q.2.2.1) :
    Calls Tryz.prog 130 #[.slice a n cap, .int .i64 y] w (NewRow w fun x => inRow l y x) := by
  have HV := Lib.hid hV; have HN := Lib.hid hn; have HP := Lib.hid hp
  clear hV hn hp
  go_enter Tryz.func130, Tryz.ntmps130
  go_wp2
  go_loopw [5, 14] (fun v i wr => RowW w 195 2 n (fun j => spCells (rowSp (l.take j) y)) (fun j => (rowSp (l.take j) y).length) v i wr) (fun _ i _ => n - (intOf i).toNat)
  case atStart => exact ⟨0, Nat.zero_le _, rfl, World.ownsRow_nil _ _ _ _, Below.refl _ _⟩
  case round =>
    obtain ⟨k, hk, rfl, hown, hb⟩ := hrel
    dsimp only at hown
    obtain ⟨L, hL⟩ : ∃ L, rowSp (l.take k) y = L := ⟨_, rfl⟩
    have hlk : L.length ≤ k := by rw [← hL]; have := rowSp_len (l.take k) y; rw [List.length_take] at this; omega
    rw [hL] at hown
    have HL := Lib.hid hL
    clear hL
    by_cases hlt : k < n
    · have hlt' : (k : Int) < (n : Int) := by omega
      obtain ⟨a0, cap0, rfl, -, -, -⟩ := own_form hown
      obtain ⟨q, b, off, hq, rfl, hbl, hcq⟩ := (HV.out.below hb).el encRc_len (by omega) k (by have := HN.out; omega)
      have c0 : wr.cell? ⟨b, off + k * 4, none⟩ = _ := hcq 0 _ rfl; have c1 := hcq 1 _ rfl; have c2 := hcq 2 _ rfl; have c3 := hcq 3 _ rfl
      have HQ := Lib.hid hq
      clear hq hcq
      obtain ⟨q0, q1, q2, q3⟩ := q
      dsimp only at c0 c1 c2 c3
      have OWN := Lib.hid hown; have HB := Lib.hid hb
      clear hown hb
      go_wp2_with (at_builtin; refine app_list elSp rfl _ _ rfl w.heap.size _ L.length (spCells L) rfl ((OWN.out.alloc _).alloc _) _ 1 _ (encSp (q0, q2)) rfl (vw_blk (Blk.fresh (by simp))) (by simp) rfl (oneC_sp _) (by omega) (by have := HB.out.size; simp; omega) ?_; intro v2 w2 hown2 hg2 _; obtain ⟨a2, cap2, rfl, -, -, -⟩ := own_form hown2)
      all_goals go_roundw
      all_goals first
        | (case rel =>
             first
             | (have eL : rowSp (l.take (k + 1)) y = L ++ [(q0, q2)] := by rw [rowSp_snoc_yes HQ.out (by assumption) (by assumption), HL.out]
                refine ⟨k + 1, by omega, by go_num, ?_, below_app ((OWN.out.alloc _).alloc _) (bal (bal HB.out _) _) hg2⟩
                dsimp only
                rw [eL, spCells_snoc, List.length_append]
                exact hown2)
             | (have eL : rowSp (l.take (k + 1)) y = L := by rw [rowSp_snoc_no HQ.out (by dsimp only; omega), HL.out]
                refine ⟨k + 1, by omega, by go_num, ?_, bal HB.out _⟩
                dsimp only
                rw [eL]
                exact OWN.out.alloc _))
        | (case measure => simp [intOf]; omega)
    · have hge : ¬ (k : Int) < (n : Int) := by omega
      have e := HL.out
      rw [List.take_of_length_le (by have := HN.out; omega)] at e
      have hS1 : ∀ x, inSp L x ↔ inRow l y x := fun x => by rw [← e]; exact rowSp_in l y x
      have hS2 : ∀ s ∈ L, s.1 < s.2 := by rw [← e]; exact rowSp_lt HP.out y
      obtain ⟨a0, cap0, ev, -, -, -⟩ := own_form hown
      subst ev
      have OWN := Lib.hid hown; have HB := Lib.hid hb; have H1 := Lib.hid hS1; have H2 := Lib.hid hS2
      clear hown hb e hS1 hS2
      obtain ⟨m, hm⟩ : ∃ m, L.length = m := ⟨_, rfl⟩
      rw [hm] at OWN hlk ⊢
      have HM := Lib.hid hm
      clear hm
      go_wp2_with (go_at_call 138; refine (sort_spans _ _ _ _ _ OWN.out (by omega)).mono ?_; rintro e w1 ⟨rfl, l', hperm, hsort, hown1, hg1⟩; have HB1 := Lib.hid (below_app OWN.out HB.out hg1); have OWN1 := Lib.hid hown1; have PERM := Lib.hid hperm; have SORT := Lib.hid hsort; clear hown1 hg1 hperm hsort)
      have VA := Lib.hid (vw_of_own OWN1.out)
      have HL1 : RowKit.Hid (l'.length = m) := by have := OWN1.out.1; show _ = _; rw [cellsOf_length encSp_len] at this; omega
      clear OWN1 HV HL HP
      go_loopw [8, 41] (fun v i wr => MergeI w1 m l' v i wr) (fun _ i _ => m - (intOf i).toNat)
      case atStart => exact ⟨0, [], Nat.zero_le _, rfl, by simpa using RowI.nil, Nat.zero_le _, World.ownsRow_nil _ _ _ _, Below.refl _ _⟩
      case round =>
        obtain ⟨j, out, hj, rfl, hri, hol, hown, hb⟩ := hrel
        by_cases hlt2 : j < m
        · have hlt2' : (j : Int) < (m : Int) := by omega
          obtain ⟨s, b', off', hs, rfl, hbl', hcs⟩ := (VA.out.below hb).el encSp_len (by omega) j (by have := HL1.out; omega)
          have e0 : wr.cell? ⟨b', off' + j * 2, none⟩ = _ := hcs 0 _ rfl; have e1 := hcs 1 _ rfl
          have htk : l'.take (j + 1) = l'.take j ++ [s] := by rw [List.take_add_one, hs]; rfl
          have hs12 : s.1 < s.2 := H2.out s (PERM.out.mem_iff.1 (List.mem_of_getElem? hs))
          have hsl : ∀ q ∈ l'.take j, q.1 ≤ s.1 := fun q hq => by
            obtain ⟨i, hi, rfl⟩ := List.getElem_of_mem hq
            have hi2 := hi
            rw [List.length_take] at hi2
            have hj' : j < l'.length := by have := HL1.out; omega
            have := List.pairwise_iff_getElem.1 SORT.out i j (by omega) hj' (by omega)
            rw [List.getElem?_eq_getElem hj'] at hs
            cases hs
            simpa using this
          have TK := Lib.hid htk; have SL := Lib.hid hsl; have RI := Lib.hid hri
          clear hcs hs htk hsl hri
          obtain ⟨s0, s1⟩ := s
          dsimp only at e0 e1 hs12
          rcases List.eq_nil_or_concat out with rfl | ⟨o, u, rfl⟩
          · obtain ⟨a1, cap1, rfl, -, -, -⟩ := own_form hown
            have OWN := Lib.hid hown; have HB2 := Lib.hid hb
            clear hown hb
            go_wp2
            go_quiet (fail)
            go_wp2_with (at_builtin; refine app_list elSp rfl _ _ rfl w1.heap.size _ 0 [] rfl (own_keep OWN.out (by (repeat (with_reducible first | exact Below.refl _ _ | refine bdr ?_ | refine bdn ?_ _ | refine bal ?_ _)))) _ 1 _ (encSp (s0, s1)) rfl (by first | exact vw_blk (Blk.fresh (by simp)) | exact vw_blk (Blk.fresh (by simp)).drew) (by simp) rfl (oneC_sp _) (by omega) (by have := HB2.out.size; simp; omega) ?_; intro v2 w2 hown2 hg2 _; have HB3 := Lib.hid (below_app (own_keep OWN.out (by (repeat (with_reducible first | exact Below.refl _ _ | refine bdr ?_ | refine bdn ?_ _ | refine bal ?_ _)))) (by (repeat (with_reducible first | exact HB2.out | exact Below.refl _ _ | refine bdr ?_ | refine bdn ?_ _ | refine bal ?_ _))) hg2); obtain ⟨a2, cap2, rfl, -, -, -⟩ := own_form hown2)
            go_roundw
            case rel => exact ⟨j + 1, [(s0, s1)], by omega, by go_num, by rw [TK.out]; exact RI.out.start hs12, by simp, hown2, HB3.out⟩
            case measure => simp [intOf]; omega
          · simp only [List.concat_eq_append] at hown hol RI
            have el : (o ++ [u]).length = o.length + 1 := by simp
            rw [el] at hown hol
            obtain ⟨g, cap1, rfl, hgc, hgm, hg0, hgl⟩ := own_some hown
            obtain ⟨p, hp⟩ : ∃ p, o.length = p := ⟨_, rfl⟩
            have hu : wr.cell? ⟨g, p * 2 + 1, none⟩ = some (.int .i64 u.2) := by
              rw [hown.cellAt _ (by omega), ← hp]
              rw [spCells_snoc, List.getElem?_append_right (by rw [cellsOf_length encSp_len]; omega), cellsOf_length encSp_len, show o.length * 2 + 1 - o.length * 2 = 1 by omega]; rfl
            have hf : wr.frozen? ⟨g, p * 2 + 1, none⟩ = false := hown.frozenAt _
            have OWN := Lib.hid hown; have HB2 := Lib.hid hb; have HPp := Lib.hid hp
            rw [hp] at OWN hol hgc ⊢
            clear hown hb hp
            unfold maxLen at hgm
            obtain ⟨u0, u1⟩ := u
            dsimp only at hu
            have i1 : (0 : Int) < (p : Int) + 1 := by omega
            have i2 : (0 : Int) ≤ (p : Int) := by omega
            by_cases hle : s0 ≤ u1
            · go_wp2
              go_quiet (fail)
              go_wp2
              go_region
              all_goals
                go_wp2
                go_roundw
                case rel =>
                  have hK := own_keep OWN.out (show Below wr.heap.size wr ((wr.alloc (Obj.cells #[Value.int .i64 s0, Value.int .i64 s1] 195)).drewN (nq + 1)) from (by (repeat (with_reducible first | exact Below.refl _ _ | refine bdr ?_ | refine bdn ?_ _ | refine bal ?_ _))))
                  have hst := hK.stored (p * 2 + 1) (.int .i64 (max u1 s1))
                  have es := spCells_set o (u0, u1) (max u1 s1)
                  rw [HPp.out] at es
                  rw [es] at hst
                  refine ⟨j + 1, o ++ [(u0, max u1 s1)], by omega, by go_num, by rw [TK.out]; exact RI.out.meet hs12 SL.out hle, by have := HPp.out; simp; omega, ?_, below_put hK (by (repeat (with_reducible first | exact HB2.out | exact Below.refl _ _ | refine bdr ?_ | refine bdn ?_ _ | refine bal ?_ _))) _ _⟩
                  rw [show (o ++ [(u0, max u1 s1)]).length = p + 1 by have := HPp.out; simp; omega]
                  exact hst.1
                case measure => simp [intOf]; omega
            · go_wp2
              go_quiet (fail)
              go_wp2_with (at_builtin; refine app_list elSp rfl _ _ rfl w1.heap.size _ (p + 1) _ rfl (own_keep OWN.out (by (repeat (with_reducible first | exact Below.refl _ _ | refine bdr ?_ | refine bdn ?_ _ | refine bal ?_ _)))) _ 1 _ (encSp (s0, s1)) rfl (by first | exact vw_blk (Blk.fresh (by simp)) | exact vw_blk (Blk.fresh (by simp)).drew) (by simp) rfl (oneC_sp _) (by omega) (by have := HB2.out.size; simp; omega) ?_; intro v2 w2 hown2 hg2 _; have HB3 := Lib.hid (below_app (own_keep OWN.out (by (repeat (with_reducible first | exact Below.refl _ _ | refine bdr ?_ | refine bdn ?_ _ | refine bal ?_ _)))) (by (repeat (with_reducible first | exact HB2.out | exact Below.refl _ _ | refine bdr ?_ | refine bdn ?_ _ | refine bal ?_ _))) hg2); obtain ⟨a2, cap2, rfl, -, -, -⟩ := own_form hown2)
              go_roundw
              case rel =>
                refine ⟨j + 1, o ++ [(u0, u1)] ++ [(s0, s1)], by omega, by go_num, by rw [TK.out]; exact RI.out.apart hs12 (by dsimp only; omega), by have := HPp.out; simp; omega, ?_, HB3.out⟩
                rw [spCells_snoc, show (o ++ [(u0, u1)] ++ [(s0, s1)]).length = p + 1 + 1 by have := HPp.out; simp; omega]
                exact hown2
              case measure => simp [intOf]; omega
        · have hge2 : ¬ (j : Int) < (m : Int) := by omega
          obtain ⟨a1, cap1, rfl, -, -, -⟩ := own_form hown
          have OWN := Lib.hid hown; have HB2 := Lib.hid hb; have RI := Lib.hid hri
          clear hown hb hri
          go_wp2
          go_ret
          have e : l'.take j = l' := List.take_of_length_le (by have := HL1.out; omega)
          have h := RI.out
          rw [e] at h
          refine ⟨out, h.1, fun x => (h.2.1 x).trans ((inSp_perm PERM.out x).trans (H1.out x)), by omega, _, rfl, own_base OWN.out HB1.out.size, btr HB1.out HB2.out⟩
end Go.Proofs.YtglhenobodndjaaGreatDoor
