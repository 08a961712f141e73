/- The season layer's leaves: they only reckon. -/
import Derived.Test.YtlfcdjgmegfjoaaSdef
namespace Go.Proofs.Ytlfcdjgmegfjoaa
open Go.RowKit

set_option maxHeartbeats 400000 in
theorem pday_any (n : Int) (w : World) : Calls Try.prog 31 #[.int .i64 n] w fun e w' => e = .returned (.bool (decide (dayOK n))) ∧ w' = w := by
  go_enter Try.func31, Try.ntmps31
  go_wp2
  all_goals go_ret
  all_goals (refine ⟨ret_bool ?_, rfl⟩)
  all_goals (rw [Bool.eq_iff_iff, decide_eq_true_eq (p := dayOK n)]; simp [dayOK] <;> omega)
set_option maxHeartbeats 400000 in
theorem pgreen_any (n : Int) (w : World) : Calls Try.prog 32 #[.int .i64 n] w fun e w' => e = .returned (.bool (decide (greenOK n))) ∧ w' = w := by
  go_enter Try.func32, Try.ntmps32
  go_wp2
  all_goals go_ret
  all_goals (refine ⟨ret_bool ?_, rfl⟩)
  all_goals (rw [Bool.eq_iff_iff, decide_eq_true_eq (p := greenOK n)]; simp [greenOK] <;> omega)
set_option maxHeartbeats 400000 in
theorem rin_any (n lo hi : Int) (w : World) : Calls Try.prog 34 #[.int .i64 n, .int .i64 lo, .int .i64 hi] w fun e w' => e = .returned (.bool (decide (lo ≤ n ∧ n ≤ hi))) ∧ w' = w := by
  go_enter Try.func34, Try.ntmps34
  go_wp2
  all_goals go_ret
  all_goals (refine ⟨ret_bool ?_, rfl⟩)
  all_goals (rw [Bool.eq_iff_iff]; simp <;> omega)
set_option maxHeartbeats 400000 in
theorem papart_any (a b : Int) (w : World) (h1 : -100000 ≤ a) (h2 : a ≤ 100000) (h3 : -100000 ≤ b) (h4 : b ≤ 100000) : Calls Try.prog 33 #[.int .i64 a, .int .i64 b] w fun e w' => e = .returned (.int .i64 (dist a b)) ∧ w' = w := by
  go_enter Try.func33, Try.ntmps33
  go_wp2
  all_goals go_ret
  all_goals (refine ⟨ret_int ?_, rfl⟩)
  all_goals (unfold dist; omega)
set_option maxHeartbeats 400000 in
theorem pdecided_any (a b : Bool) (w : World) : Calls Try.prog 38 #[.bool a, .bool b] w fun e w' => e = .returned (.int .i64 (if a then 1 else if b then 0 else -1)) ∧ w' = w := by
  cases a <;> cases b <;>
  · go_enter Try.func38, Try.ntmps38
    go_wp2
    go_ret
    exact ⟨rfl, rfl⟩
end Go.Proofs.Ytlfcdjgmegfjoaa
