/- The tape, more: a number in a range, a chance. -/
import Derived.Test.YtglhenobodndjaaGreatDoorTape
namespace Go.Proofs.YtglhenobodndjaaGreatDoor
open Go.RowKit

def RangePost (b : Nat) (lo hi : Int) (w : World) (e : Ending) (w' : World) : Prop := ∃ r : Int, lo ≤ r ∧ r ≤ hi ∧ e = .returned (.int .i64 r) ∧ Steps1 b w w'
def OnePost (b : Nat) (w : World) (e : Ending) (w' : World) : Prop := ∃ v : Bool, e = .returned (.bool v) ∧ Steps1 b w w'

set_option maxHeartbeats 1000000 in
theorem range_any (b : Nat) (lo hi : Int) (w : World) (hT : Tape w b) (h1 : lo ≤ hi) (h2 : -100000000000 ≤ lo) (h3 : hi ≤ 100000000000) :
    Calls Tryz.prog 66 #[.pointer (some ⟨b, 0, none⟩), .int .i64 lo, .int .i64 hi] w (RangePost b lo hi w) := by
  have TT := Lib.hid hT
  clear hT
  go_enter Tryz.func66, Tryz.ntmps66
  go_wp2_with (go_at_call 10; refine (next_any _ _ _ TT.out (by omega) (by omega)).mono ?_; rintro e w1 ⟨r, r1, r2, rfl, hs⟩)
  go_ret
  exact ⟨lo + r, by omega, by omega, rfl, hs⟩

set_option maxHeartbeats 1000000 in
theorem one_any (b : Nat) (n : Int) (w : World) (hT : Tape w b) (h1 : 1 ≤ n) (h2 : n ≤ 100000000000) :
    Calls Tryz.prog 29 #[.pointer (some ⟨b, 0, none⟩), .int .i64 n] w (OnePost b w) := by
  have TT := Lib.hid hT
  clear hT
  go_enter Tryz.func29, Tryz.ntmps29
  go_wp2_with (go_at_call 10; refine (next_any _ _ _ TT.out (by omega) (by omega)).mono ?_; rintro e w1 ⟨r, r1, r2, rfl, hs⟩)
  go_ret
  exact ⟨_, rfl, hs⟩

end Go.Proofs.YtglhenobodndjaaGreatDoor
