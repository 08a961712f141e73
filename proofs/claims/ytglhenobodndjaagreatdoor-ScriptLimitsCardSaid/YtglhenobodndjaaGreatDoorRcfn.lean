/- slices.ContainsFunc over rectangles, with Valid's closure. -/
import Derived.Test.YtglhenobodndjaaGreatDoorRvalid
import Derived.Test.YtglhenobodndjaaGreatDoorShq
namespace Go.Proofs.YtglhenobodndjaaGreatDoor
open Go.RowKit Go.Shelf
set_option linter.unusedVariables false
theorem cfRect_any (a : Option Addr) (len cap : Nat) (l : List Rc) (w : World) (hS : Rcs w a l) (hl : l.length = len) (hcap : len ≤ 9223372036854775807) (h0 : 0 < len) :
    Calls Tryz.prog 110 #[.slice a len cap, .func (.func 111) #[] #[]] w fun e w' => e = .returned (.bool (l.any fun q => !decide (Prp q))) ∧ Below w.heap.size w w' := by
  obtain ⟨b, off, rfl, h1⟩ := hS 0 (by omega)
  have eg : ∀ args w, (callFunc 111 args).run Tryz.prog w = .ok (.enter 111 args) w := enters_of Tryz.func111 (by kernel_rfl) rfl
  have hcon := AnyQ.slices_ContainsFunc Tryz.cfRect 4 Tryz.isAgg73 Tryz.sizeOf73 encRc (fun _ => rfl) (fun q => !decide (Prp q)) 111 #[] eg b off len cap l w (valid1_pred w) (by omega) hcap
    (World.block_lt_of_cell? _ _ (h1 0 (by omega))) (fun j hj i v hi => by
      obtain ⟨b', off', e, hc⟩ := hS j hj
      cases e
      have ej : l[j]! = l[j] := by simp [hj]
      rw [ej] at hi
      match i, hi with
      | 0, hi => simp [encRc] at hi; rw [← hi]; exact hc 0 (by omega)
      | 1, hi => simp [encRc] at hi; rw [← hi]; exact hc 1 (by omega)
      | 2, hi => simp [encRc] at hi; rw [← hi]; exact hc 2 (by omega)
      | 3, hi => simp [encRc] at hi; rw [← hi]; exact hc 3 (by omega)
      | i + 4, hi => simp [encRc] at hi)
  rw [List.take_of_length_le (by omega)] at hcon
  exact hcon
set_option maxHeartbeats 1000000 in
theorem ifRect_none (a : Option Addr) (cap : Nat) (v : Value) (w : World) : Calls Tryz.prog 126 #[.slice a 0 cap, v] w fun e w' => e = .returned (.int .i64 (-1)) ∧ w' = w := by
  go_enter Tryz.func126, Tryz.ntmps126
  go_wp2
  go_loop [8] (fun i => i = .int .i64 0) (fun _ => 0)
  case atStart => rfl
  case round =>
    subst hrel
    go_wp2
    go_ret
    exact ⟨rfl, rfl⟩
set_option maxHeartbeats 1000000 in
theorem cfRect_none (a : Option Addr) (cap : Nat) (v : Value) (w : World) : Calls Tryz.prog 110 #[.slice a 0 cap, v] w fun e w' => e = .returned (.bool false) ∧ w' = w := by
  go_enter Tryz.func110, Tryz.ntmps110
  go_wp2_with (go_at_call 126; refine (ifRect_none _ _ _ _).mono ?_; rintro e w' ⟨rfl, rfl⟩)
  go_ret
  exact ⟨rfl, rfl⟩
end Go.Proofs.YtglhenobodndjaaGreatDoor
