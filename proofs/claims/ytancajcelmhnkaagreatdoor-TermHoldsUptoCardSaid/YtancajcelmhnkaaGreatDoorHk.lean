/- law16.not. -/
import Derived.Test.YtancajcelmhnkaaGreatDoorGx
set_option maxRecDepth 100000
set_option maxHeartbeats 1000000
namespace Go.Proofs.YtancajcelmhnkaaGreatDoor
open Go.RowKit Go.Sort Go.Shelf
set_option linter.unusedVariables false
set_option linter.unusedSimpArgs false
def KNot (t:TmM) (w:World) (e:Ending) (w':World):Prop:=∃ g,e=.returned (.agg #[.int .i64 11,.int .i64 0,.int .i64 0,.slice (some ⟨g,0,none⟩) 1 1])∧w.heap.size≤g∧Blk w' g 24 (encTm t).toArray∧Below w.heap.size w w'
theorem knot_any (t:TmM) (w:World):Calls Tryz.prog 27 #[.agg (encTm t).toArray] w (KNot t w):=by
 obtain ⟨op,num,more,a,n,c,kids⟩:=t
 obtain ⟨W,hW⟩:∃ W,(w.alloc (.cells #[.int .i64 op,.int .i64 num,.int .i64 more,.slice a n c] 24)).alloc (.cells #[.int .i64 0,.int .i64 0,.int .i64 0,.slice none 0 0] 24)=W:=⟨_,rfl⟩
 have B1:RowKit.Hid (Blk W w.heap.size 24 #[.int .i64 op,.int .i64 num,.int .i64 more,.slice a n c]):=by show Blk _ _ _ _;rw [← hW];exact (Blk.new w _ _).alloc _
 have B2:RowKit.Hid (Blk W (w.heap.size+1) 24 #[.int .i64 0,.int .i64 0,.int .i64 0,.slice none 0 0]):=by show Blk _ _ _ _;rw [← hW];exact Blk.fresh (by simp)
 have BB:RowKit.Hid (Below w.heap.size w W):=by show Below _ _ _;rw [← hW];exact Bw.out
 have z2:=B2.out.lt
 go_enter Tryz.func27,Tryz.ntmps27
 dsimp only [encTm]
 go_wp2_with (first
  | (refine wpList_load_row rfl 24 (.tmp 1) rfl w.heap.size rfl _ #[.int .i64 op,.int .i64 num,.int .i64 more,.slice a n c] _ _ B1.out Tryz.underlying24 rfl tmInfo ?_)
  | (refine bs_one elTm (by decide) rfl (.tmp 3) rfl #[.int .i64 op,.int .i64 num,.int .i64 more,.slice a n c] rfl rfl ?_)
  | (refine wpList_store_row rfl 24 (.tmp 2) (.tmp 5) rfl (w.heap.size+1) #[.int .i64 11,.int .i64 0,.int .i64 0,.slice (some ⟨W.heap.size,0,none⟩) 1 1] rfl rfl _ _ (B2.out.alloc _) tmInfo rfl (tm_one _ _ _ _ _ _) ?_))
 have BR:=setRow_heap (W.alloc (.cells #[.int .i64 op,.int .i64 num,.int .i64 more,.slice a n c] 24)) (w.heap.size+1) _ #[.int .i64 11,.int .i64 0,.int .i64 0,.slice (some ⟨W.heap.size,0,none⟩) 1 1] _ _ (B2.out.alloc _)
 refine bodyPost_ret (results_cell_row rfl _ _ _ _ _ _ _ rfl BR Tryz.underlying24 rfl tmInfo) rfl ?_
 refine ⟨W.heap.size,rfl,by omega,?_,below_setRow (bal BB.out _) (by omega) _⟩
 exact (setRow_other _ _ _ _ (by omega)).trans (Blk.new W _ _)
theorem truths_any (a1 a2 a3 b1 b2 b3:Option Addr) (n1 c1 n2 c2 n3 c3 m1 d1 m2 d2 m3 d3:Nat) (l1 l2 l3 r1 r2 r3:List Rc) (w:World) (h1:ScOk w ⟨a1,n1,c1,l1⟩) (h2:ScOk w ⟨a2,n2,c2,l2⟩) (h3:ScOk w ⟨a3,n3,c3,l3⟩) (g1:ScOk w ⟨b1,m1,d1,r1⟩) (g2:ScOk w ⟨b2,m2,d2,r2⟩) (g3:ScOk w ⟨b3,m3,d3,r3⟩) :
  Calls Tryz.prog 22 #[.agg #[.slice a1 n1 c1,.slice a2 n2 c2,.slice a3 n3 c3],.agg #[.slice b1 m1 d1,.slice b2 m2 d2,.slice b3 m3 d3]] w (Says w (l1=r1∧l2=r2∧l3=r3)):=by
 obtain ⟨W,hW⟩:∃ W,(w.alloc (.cells #[.slice a1 n1 c1,.slice a2 n2 c2,.slice a3 n3 c3] 55)).alloc (.cells #[.slice b1 m1 d1,.slice b2 m2 d2,.slice b3 m3 d3] 55)=W:=⟨_,rfl⟩
 have B1:RowKit.Hid (Blk W w.heap.size 55 #[.slice a1 n1 c1,.slice a2 n2 c2,.slice a3 n3 c3]):=by show Blk _ _ _ _;rw [← hW];exact (Blk.new w _ _).alloc _
 have B2:RowKit.Hid (Blk W (w.heap.size+1) 55 #[.slice b1 m1 d1,.slice b2 m2 d2,.slice b3 m3 d3]):=by show Blk _ _ _ _;rw [← hW];exact Blk.fresh (by simp)
 have BB:RowKit.Hid (Below w.heap.size w W):=by show Below _ _ _;rw [← hW];exact Bw.out
 have H1:=hid fun W' (hb:Below w.heap.size w W')=>rsame_any a1 n1 c1 l1 b1 m1 d1 r1 W' (h1.below hb) (g1.below hb)
 have H2:=hid fun W' (hb:Below w.heap.size w W')=>rsame_any a2 n2 c2 l2 b2 m2 d2 r2 W' (h2.below hb) (g2.below hb)
 have H3:=hid fun W' (hb:Below w.heap.size w W')=>rsame_any a3 n3 c3 l3 b3 m3 d3 r3 W' (h3.below hb) (g3.below hb)
 have x0_0:W.cell? ⟨w.heap.size,0,none⟩=some (.slice a1 n1 c1):=B1.out.cell 0
 have y0_0:W.cell? ⟨w.heap.size+1,0,none⟩=some (.slice b1 m1 d1):=B2.out.cell 0
 have x1_0:W.cell? ⟨w.heap.size,1,none⟩=some (.slice a2 n2 c2):=B1.out.cell 1
 have y1_0:W.cell? ⟨w.heap.size+1,1,none⟩=some (.slice b2 m2 d2):=B2.out.cell 1
 have x2_0:W.cell? ⟨w.heap.size,2,none⟩=some (.slice a3 n3 c3):=B1.out.cell 2
 have y2_0:W.cell? ⟨w.heap.size+1,2,none⟩=some (.slice b3 m3 d3):=B2.out.cell 2
 clear h1 h2 h3 g1 g2 g3
 by_cases k1:l1=r1
 ·by_cases k2:l2=r2
  ·by_cases k3:l3=r3
   ·go_enter Tryz.func22,Tryz.ntmps22
    go_wp2_with (first
  | (go_at_call 28;(with_reducible refine (H1.out _ BB.out).mono ?_);rintro e w1 ⟨v1,rfl,hi1,hb1⟩;obtain rfl:v1=true:=hi1.2 k1;clear hi1;have x1_1:=bc1 hb1 x1_0;have y1_1:=bc1 hb1 y1_0;have x2_1:=bc1 hb1 x2_0;have y2_1:=bc1 hb1 y2_0;have HB1:=hid (btr BB.out hb1);clear hb1)
  | (go_at_call 28;(with_reducible refine (H2.out _ HB1.out).mono ?_);rintro e w2 ⟨v2,rfl,hi2,hb2⟩;obtain rfl:v2=true:=hi2.2 k2;clear hi2;have x2_2:=bc1 hb2 x2_1;have y2_2:=bc1 hb2 y2_1;have HB2:=hid (btr HB1.out hb2);clear hb2)
  | (go_at_call 28;(with_reducible refine (H3.out _ HB2.out).mono ?_);rintro e w3 ⟨v3,rfl,hi3,hb3⟩;obtain rfl:v3=true:=hi3.2 k3;clear hi3;have HB3:=hid (btr HB2.out hb3);clear hb3))
    go_ret
    exact ⟨true,rfl,⟨fun _=>⟨k1,k2,k3⟩,fun _=>rfl⟩,HB3.out⟩
   ·go_enter Tryz.func22,Tryz.ntmps22
    go_wp2_with (first
  | (go_at_call 28;(with_reducible refine (H1.out _ BB.out).mono ?_);rintro e w1 ⟨v1,rfl,hi1,hb1⟩;obtain rfl:v1=true:=hi1.2 k1;clear hi1;have x1_1:=bc1 hb1 x1_0;have y1_1:=bc1 hb1 y1_0;have x2_1:=bc1 hb1 x2_0;have y2_1:=bc1 hb1 y2_0;have HB1:=hid (btr BB.out hb1);clear hb1)
  | (go_at_call 28;(with_reducible refine (H2.out _ HB1.out).mono ?_);rintro e w2 ⟨v2,rfl,hi2,hb2⟩;obtain rfl:v2=true:=hi2.2 k2;clear hi2;have x2_2:=bc1 hb2 x2_1;have y2_2:=bc1 hb2 y2_1;have HB2:=hid (btr HB1.out hb2);clear hb2)
  | (go_at_call 28;(with_reducible refine (H3.out _ HB2.out).mono ?_);rintro e w3 ⟨v3,rfl,hi3,hb3⟩;obtain rfl:v3=false:=no_true fun h=>k3 (hi3.1 h);clear hi3;have HB3:=hid (btr HB2.out hb3);clear hb3))
    go_ret
    exact ⟨false,rfl,⟨(fun h=>by cases h),fun h=>absurd h.2.2 k3⟩,HB3.out⟩
  ·go_enter Tryz.func22,Tryz.ntmps22
   go_wp2_with (first
  | (go_at_call 28;(with_reducible refine (H1.out _ BB.out).mono ?_);rintro e w1 ⟨v1,rfl,hi1,hb1⟩;obtain rfl:v1=true:=hi1.2 k1;clear hi1;have x1_1:=bc1 hb1 x1_0;have y1_1:=bc1 hb1 y1_0;have x2_1:=bc1 hb1 x2_0;have y2_1:=bc1 hb1 y2_0;have HB1:=hid (btr BB.out hb1);clear hb1)
  | (go_at_call 28;(with_reducible refine (H2.out _ HB1.out).mono ?_);rintro e w2 ⟨v2,rfl,hi2,hb2⟩;obtain rfl:v2=false:=no_true fun h=>k2 (hi2.1 h);clear hi2;have HB2:=hid (btr HB1.out hb2);clear hb2))
   go_ret
   exact ⟨false,rfl,⟨(fun h=>by cases h),fun h=>absurd h.2.1 k2⟩,HB2.out⟩
 ·go_enter Tryz.func22,Tryz.ntmps22
  go_wp2_with (first
  | (go_at_call 28;(with_reducible refine (H1.out _ BB.out).mono ?_);rintro e w1 ⟨v1,rfl,hi1,hb1⟩;obtain rfl:v1=false:=no_true fun h=>k1 (hi1.1 h);clear hi1;have HB1:=hid (btr BB.out hb1);clear hb1))
  go_ret
  exact ⟨false,rfl,⟨(fun h=>by cases h),fun h=>absurd h.1 k1⟩,HB1.out⟩
end Go.Proofs.YtancajcelmhnkaaGreatDoor
