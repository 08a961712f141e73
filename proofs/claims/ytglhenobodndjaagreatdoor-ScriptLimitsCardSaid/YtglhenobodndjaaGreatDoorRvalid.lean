/- Regions of the program: the closure of Valid. -/
import Derived.Test.YtglhenobodndjaaGreatDoorRleaf
import Derived.Shelf.SlicesQ.IndexFunc
namespace Go.Proofs.YtglhenobodndjaaGreatDoor
open Go.RowKit Go.Shelf
set_option linter.unusedVariables false
def encRc (q : Rc) : List Value := [.int .i64 q.1, .int .i64 q.2.1, .int .i64 q.2.2.1, .int .i64 q.2.2.2]
set_option maxHeartbeats 1000000 in
theorem valid1_pred (w : World) : PredBelow Tryz.prog 111 #[] (fun q => .agg (encRc q).toArray) (fun q => !decide (Prp q)) w := fun W q hb => by
  show Calls Tryz.prog 111 #[.agg #[.int .i64 q.1, .int .i64 q.2.1, .int .i64 q.2.2.1, .int .i64 q.2.2.2]] W _
  generalize hd : decide (Prp q) = d
  go_enter Tryz.func111, Tryz.ntmps111
  go_wp2_with (go_at_call 112; refine (pproper_any q _).mono ?_; rw [hd]; rintro e w1 ⟨rfl, h1⟩)
  all_goals go_ret
  all_goals exact ⟨by simp_all, hb.trans ((btr (bal (Below.refl _ _) _) h1).mono hb.size)⟩
end Go.Proofs.YtglhenobodndjaaGreatDoor
