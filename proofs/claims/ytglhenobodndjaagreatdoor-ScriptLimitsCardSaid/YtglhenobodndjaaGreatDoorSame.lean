/- copies.SameRegion; script.Same of two light events with equal fields. -/
import Derived.Test.YtglhenobodndjaaGreatDoorEvu
namespace Go.Proofs.YtglhenobodndjaaGreatDoor
open Go.RowKit
set_option linter.unusedVariables false
set_option linter.unusedSimpArgs false

set_option maxHeartbeats 2000000 in
theorem sameRegion_any (a1 : Option Addr) (n1 c1 : Nat) (l1 : List Rc) (a2 : Option Addr) (n2 c2 : Nat) (l2 : List Rc) (w : World) (h1 : Vw w a1 (rcCells l1)) (e1 : l1.length = n1) (k1 : n1 ≤ 1000000) (h2 : Vw w a2 (rcCells l2)) (e2 : l2.length = n2) (k2 : n2 ≤ 1000000) :
    Calls Tryz.prog 44 #[.agg #[.slice a1 n1 c1], .agg #[.slice a2 n2 c2]] w fun e w' => e = .returned (.bool (decide (l1 = l2))) ∧ Below w.heap.size w w' := by
  have HC : RowKit.Hid (∀ W, Below w.heap.size w W → Calls Tryz.prog 81 #[.slice a1 n1 c1, .slice a2 n2 c2] W fun e w' => e = .returned (.bool (decide (l1 = l2))) ∧ ∃ q, w' = W.drewN q) := fun W hW =>
    eqRc a1 n1 c1 l1 a2 n2 c2 l2 W (h1.below hW) e1 (by omega) (h2.below hW) e2 (by omega)
  clear h1 h2
  go_enter Tryz.func44, Tryz.ntmps44
  go_wp2_with (go_at_call 81; refine (HC.out _ (by (repeat (with_reducible first | exact Below.refl _ _ | refine bdr ?_ | refine bdn ?_ _ | refine bal ?_ _)))).mono ?_; rintro e w1 ⟨rfl, q, rfl⟩)
  go_ret
  exact ⟨rfl, (by (repeat (with_reducible first | exact Below.refl _ _ | refine bdr ?_ | refine bdn ?_ _ | refine bal ?_ _)))⟩
set_option maxHeartbeats 2000000 in
theorem eqLines_nil (F : Value) (w : World) : Calls Tryz.prog 42 #[.slice none 0 0, .slice none 0 0, F] w fun e w' => e = .returned (.bool true) ∧ w' = w := by
  go_enter Tryz.func42, Tryz.ntmps42
  go_wp2
  go_rounds 1
  go_ret
  exact ⟨rfl, rfl⟩
set_option maxHeartbeats 2000000 in
theorem eqObs_nil (w : World) : Calls Tryz.prog 45 #[.slice none 0 0, .slice none 0 0] w fun e w' => e = .returned (.bool true) ∧ w' = w := by
  go_enter Tryz.func45, Tryz.ntmps45
  go_wp2
  go_rounds 1
  go_ret
  exact ⟨rfl, rfl⟩
set_option maxRecDepth 100000 in
set_option maxHeartbeats 8000000 in
theorem same_eq (e : Ev) (a1 : Option Addr) (n1 c1 : Nat) (a2 : Option Addr) (n2 c2 : Nat) (l : List Rc) (w : World) (h1 : Vw w a1 (rcCells l)) (e1 : l.length = n1) (k1 : n1 ≤ 1000000) (h2 : Vw w a2 (rcCells l)) (e2 : l.length = n2) :
    Calls Tryz.prog 14 #[.agg (e.cells (.slice none 0 0) (.slice a1 n1 c1) (.slice none 0 0)), .agg (e.cells (.slice none 0 0) (.slice a2 n2 c2) (.slice none 0 0))] w fun e w' => e = .returned (.bool true) ∧ Below w.heap.size w w' := by
  have HC : RowKit.Hid (∀ W, Below w.heap.size w W → Calls Tryz.prog 44 #[.agg #[.slice a1 n1 c1], .agg #[.slice a2 n2 c2]] W fun e w' => e = .returned (.bool true) ∧ Below W.heap.size W w') := fun W hW => by
    have := sameRegion_any a1 n1 c1 l a2 n2 c2 l W (h1.below hW) e1 (by omega) (h2.below hW) e2 (by omega)
    simpa using this
  clear h1 h2
  obtain ⟨e0, e1, e2, e3, e4, e5, e8, e10, e11, e12, e13, e14, e15, e16, e17, e18, e19, e20, e21, e22⟩ := e
  simp only [Ev.cells]
  go_enter Tryz.func14, Tryz.ntmps14
  go_wp2_with (first
    | (go_at_call 42; refine (eqLines_nil _ _).mono ?_; rintro e w1 ⟨rfl, rfl⟩)
    | (go_at_call 44; refine (HC.out _ (by (repeat (with_reducible first | exact Below.refl _ _ | refine bdr ?_ | refine bdn ?_ _ | refine bal ?_ _)))).mono ?_; rintro e w2 ⟨rfl, hb2⟩; have d1 := bc1 (b := w.heap.size) (o := 8) (v := .int .i64 e8) hb2 (by simp [go_sem]); have d2 := bc1 (b := w.heap.size + 1) (o := 8) (v := .int .i64 e8) hb2 (by simp [go_sem]); have d3 := bc1 (b := w.heap.size) (o := 9) (v := .slice none 0 0) hb2 (by simp [go_sem]); have d4 := bc1 (b := w.heap.size + 1) (o := 9) (v := .slice none 0 0) hb2 (by simp [go_sem]))
    | (go_at_call 45; refine (eqObs_nil _).mono ?_; rintro e w3 ⟨rfl, rfl⟩))
  go_ret
  exact ⟨rfl, btr (by (repeat (with_reducible first | exact Below.refl _ _ | refine bdr ?_ | refine bdn ?_ _ | refine bal ?_ _))) hb2⟩
end Go.Proofs.YtglhenobodndjaaGreatDoor
