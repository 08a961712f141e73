/- slices.Clone at rectangles, lines, observations; copies.Region; clone of an event without lines and observations. -/
import Derived.Test.YtglhenobodndjaaGreatDoorRdc
import Derived.Test.YtglhenobodndjaaGreatDoorNum
import Derived.Test.YtglhenobodndjaaGreatDoorShq
import Derived.Laws.Rows
namespace Go.Proofs.YtglhenobodndjaaGreatDoor
open Go.RowKit
set_option linter.unusedVariables false
set_option linter.unusedSimpArgs false

/-- A slice's pointer is none, or a whole block's. -/
def Pl (a : Option Addr) : Prop := a = none ∨ ∃ b off : Nat, a = some ⟨b, off, none⟩
theorem oneC_rcs (l : List Rc) : OneC (rcCells l) := fun u hu => by
  obtain ⟨q, _, hq⟩ := List.mem_flatMap.1 hu
  simp only [encRc, List.mem_cons, List.not_mem_nil, or_false] at hq
  rcases hq with rfl | rfl | rfl | rfl <;> rfl
/-- slices.Clone at rectangles. -/
theorem cloneRc_any (a : Option Addr) (n c : Nat) (l : List Rc) (w : World) (hV : Vw w a (rcCells l)) (ha : Pl a) (hn : l.length = n) (h0 : a = none → n = 0) (hm : n ≤ 1000000) :
    Calls Tryz.prog 88 #[.slice a n c] w (NewRc w l) := by
  subst hn
  rcases ha with rfl | ⟨b, off, rfl⟩
  · have := h0 rfl
    obtain rfl := List.eq_nil_of_length_eq_zero this
    refine (AnyE.slices_Clone_nil Tryz.clRect _ c w).mono ?_
    rintro e w' ⟨rfl, rfl⟩
    exact ⟨_, rfl, World.ownsRow_nil _ _ _ _, Below.refl _ _⟩
  · obtain ⟨i0, hi, hz0, hz1, hz2⟩ := info_parts infoRc
    refine (AnyE.slices_Clone Tryz.clRect i0 _ 4 32 hi hz0 hz1 hz2 rfl (by decide) (fun w => by kernel_rfl) b off l.length c (rcCells l) w (by rw [cellsOf_length encRc_len]) (by unfold maxLen; omega) (by omega) (fun j u hj => ?_) (oneC_rcs l)).mono ?_
    · obtain ⟨b', o', e, h⟩ := hV j u hj
      cases e; exact h
    · rintro e w' ⟨v, rfl, ho, -, hb⟩
      exact ⟨v, rfl, ho, hb⟩
theorem cloneLine_nil (w : World) : Calls Tryz.prog 67 #[.slice none 0 0] w fun e w' => e = .returned (.slice none 0 0) ∧ w' = w := AnyE.slices_Clone_nil Tryz.clLine 0 0 w
theorem cloneObs_nil (w : World) : Calls Tryz.prog 70 #[.slice none 0 0] w fun e w' => e = .returned (.slice none 0 0) ∧ w' = w := AnyE.slices_Clone_nil Tryz.clObs 0 0 w
set_option maxHeartbeats 2000000 in
theorem region_any (a : Option Addr) (n c : Nat) (l : List Rc) (w : World) (hV : Vw w a (rcCells l)) (ha : Pl a) (hn : l.length = n) (h0 : a = none → n = 0) (hm : n ≤ 1000000) :
    Calls Tryz.prog 69 #[.agg #[.slice a n c]] w fun e w' => ∃ v, e = .returned (.agg #[v]) ∧ w'.ownsRow w.heap.size 73 4 v l.length (rcCells l) ∧ Below w.heap.size w w' := by
  have HC : RowKit.Hid (∀ W, Below w.heap.size w W → Calls Tryz.prog 88 #[.slice a n c] W (NewRc W l)) := fun W hW => cloneRc_any a n c l W (hV.below hW) ha hn h0 hm
  clear hV
  go_enter Tryz.func69, Tryz.ntmps69
  go_wp2_with (go_at_call 88; refine (HC.out _ (by (repeat (with_reducible first | exact Below.refl _ _ | refine bdr ?_ | refine bdn ?_ _ | refine bal ?_ _)))).mono ?_; rintro e w1 ⟨v, rfl, ho, hb⟩; obtain ⟨a0, c0, rfl, -⟩ := own_form ho; have BX : Blk w1 (w.heap.size + 1) _ _ := (Blk.fresh (w := w.alloc _) (by simp)).below hb; have x1 := BX.cell 0; have f1 := BX.free 0; have y1 := BX.lt)
  refine bodyPost_ret (results_cell_row rfl _ _ _ _ _ _ _ rfl (BX.put 0 (.slice a0 n c0)) Tryz.underlying26 rfl (by kernel_rfl)) rfl ?_
  have e1 : w.heap.size ≤ w.heap.size + 1 := by omega
  have e2 : ((w.alloc (Obj.cells #[Value.slice a n c] 26)).alloc (Obj.cells #[Value.slice none 0 0] 26)).heap.size = w.heap.size + 2 := by simp
  rw [e2, hn] at ho
  rw [hn]
  exact ⟨_, rfl, own_base (ownsRow_setCell_below ho (show w.heap.size + 1 < w.heap.size + 2 by omega) _) (by omega), bst (btr (by (repeat (with_reducible first | exact Below.refl _ _ | refine bdr ?_ | refine bdn ?_ _ | refine bal ?_ _))) hb) _ _ _ e1⟩
end Go.Proofs.YtglhenobodndjaaGreatDoor
