/- law16.not. -/
import Derived.Test.YtancajcelmhnkaaGreatDoorGx
import Derived.Test.YtancajcelmhnkaaGreatDoorGw
import Derived.Test.YtancajcelmhnkaaGreatDoorGn
namespace Go.Proofs.YtancajcelmhnkaaGreatDoor
open Go.RowKit Go.Sort Go.Shelf
set_option linter.unusedVariables false
set_option linter.unusedSimpArgs false
def KNot (t : TmM) (w : World) (e : Ending) (w' : World) : Prop:=∃ g,e = .returned (.agg #[.int .i64 11,.int .i64 0,.int .i64 0,.slice (some ⟨g,0,none⟩) 1 1])∧w.heap.size≤g∧Blk w' g 24 (encTm t).toArray∧Below w.heap.size w w'
set_option maxRecDepth 100000 in
set_option maxHeartbeats 600000 in
theorem knot_any (t : TmM) (w : World) : Calls Tryz.prog 27 #[.agg (encTm t).toArray] w (KNot t w):=by
  obtain ⟨op,num,more,a,n,c,kids⟩:=t
  obtain ⟨W,hW⟩ : ∃ W,(w.alloc (.cells #[.int .i64 op,.int .i64 num,.int .i64 more,.slice a n c] 24)).alloc (.cells #[.int .i64 0,.int .i64 0,.int .i64 0,.slice none 0 0] 24) = W:=⟨_,rfl⟩
  have B1 : RowKit.Hid (Blk W w.heap.size 24 #[.int .i64 op,.int .i64 num,.int .i64 more,.slice a n c]):=by show Blk _ _ _ _;rw [← hW];exact (Blk.new w _ _).alloc _
  have B2 : RowKit.Hid (Blk W (w.heap.size + 1) 24 #[.int .i64 0,.int .i64 0,.int .i64 0,.slice none 0 0]):=by show Blk _ _ _ _;rw [← hW];exact Blk.fresh (by simp)
  have BB : RowKit.Hid (Below w.heap.size w W):=by show Below _ _ _;rw [← hW];exact (by (repeat (with_reducible first | exact Below.refl _ _ | refine bdr ?_ | refine bdn ?_ _ | refine bal ?_ _)))
  have z2:=B2.out.lt
  go_enter Tryz.func27,Tryz.ntmps27
  dsimp only [encTm]
  go_wp2_with (first
    | (refine wpList_load_row rfl 24 (.tmp 1) rfl w.heap.size rfl _ #[.int .i64 op,.int .i64 num,.int .i64 more,.slice a n c] _ _ B1.out Tryz.underlying24 rfl tmInfo ?_)
    | (refine bs_one elTm (by decide) rfl (.tmp 3) rfl #[.int .i64 op,.int .i64 num,.int .i64 more,.slice a n c] rfl rfl ?_)
    | (refine wpList_store_row rfl 24 (.tmp 2) (.tmp 5) rfl (w.heap.size + 1) #[.int .i64 11,.int .i64 0,.int .i64 0,.slice (some ⟨W.heap.size,0,none⟩) 1 1] rfl rfl _ _ (B2.out.alloc _) tmInfo rfl (tm_one _ _ _ _ _ _) ?_))
  have BR:=setRow_heap (W.alloc (.cells #[.int .i64 op,.int .i64 num,.int .i64 more,.slice a n c] 24)) (w.heap.size + 1) _ #[.int .i64 11,.int .i64 0,.int .i64 0,.slice (some ⟨W.heap.size,0,none⟩) 1 1] _ _ (B2.out.alloc _)
  refine bodyPost_ret (results_cell_row rfl _ _ _ _ _ _ _ rfl BR Tryz.underlying24 rfl tmInfo) rfl ?_
  refine ⟨W.heap.size,rfl,by omega,?_,below_setRow (bal BB.out _) (by omega) _⟩
  exact (setRow_other _ _ _ _ (by omega)).trans (Blk.new W _ _)
end Go.Proofs.YtancajcelmhnkaaGreatDoor
