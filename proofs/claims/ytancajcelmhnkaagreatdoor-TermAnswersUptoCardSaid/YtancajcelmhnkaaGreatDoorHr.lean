/- The keeper's terms. -/
import Derived.Test.YtancajcelmhnkaaGreatDoorTrt
set_option maxRecDepth 100000
set_option maxHeartbeats 8000000
namespace Go.Proofs.YtancajcelmhnkaaGreatDoor
open Go.RowKit Go.Sort Go.Shelf
set_option linter.unusedVariables false
set_option linter.unusedSimpArgs false
def KTP (b d:Nat) (w:World) (e:Ending) (w':World):Prop:=∃ t:TmM,e=.returned (.agg (encTm t).toArray)∧KT d w.heap.size w' t∧Steps1 b w w'
structure KtC (b:Nat) (w wx:World):Prop where
 st:Steps1 b w wx
 res:Blk wx w.heap.size 24 #[.int .i64 0,.int .i64 0,.int .i64 0,.slice none 0 0]
theorem KtC.step {b:Nat} {w wx wy:World} (h:KtC b w wx) (hs:Steps1 b wx wy):KtC b w wy:=⟨sts h.st hs,h.res.step hs (by have:=h.st.lt;omega)⟩
theorem KtC.drew {b:Nat} {w wx:World} (h:KtC b w wx):KtC b w wx.drew:=⟨sdr h.st,h.res.drew⟩
theorem KtC.alloc {b:Nat} {w wx:World} (h:KtC b w wx) (ob:Obj):KtC b w (wx.alloc ob):=⟨sal h.st _,h.res.alloc _⟩
structure KtD (b g:Nat) (w wx:World):Prop where
 c:KtC b w wx
 ex:∃ op num more:Int,formB op num more 0=true∧Blk wx g 24 #[.int .i64 op,.int .i64 num,.int .i64 more,.slice none 0 0]
theorem form_seven {v x:Int} (v0:1≤v) (v1:v≤2) (x0:0≤x) (x1:x<5):formB 7 v (IntKind.i64.wrap (2 ^ x.toNat)) 0=true:=by
 have hm:oneMark (IntKind.i64.wrap (2 ^ x.toNat))=true:=by
  have hx:x=0∨x=1∨x=2∨x=3∨x=4:=by omega
  rcases hx with rfl | rfl | rfl | rfl | rfl <;> decide
 simp [formB,hm];omega
theorem KT.le {d base base':Nat} {w:World} {t:TmM} (h:KT d base w t) (hb:base'≤base):KT d base' w t:=⟨h.ok,h.fr.le hb,h.form,h.depth,h.size⟩
theorem KT.step {b d base:Nat} {w w':World} {t:TmM} (h:KT d base w t) (hs:Steps1 b w w') (hb:b<base):KT d base w' t:=h.far fun g h1 h2=>hs.grown.block g h2 (by simp;omega)
theorem KT.row {d base g:Nat} {w:World} {t:TmM} {cs:Array Value} (h:KT d base w t) (hg:g<base):KT d base (w.setRow g cs) t:=h.far fun k h1 h2=>setRow_other _ _ _ _ (by omega)
theorem KtC.far {b:Nat} {w wx:World} (h:KtC b w wx) (g i:Nat) (v:Value) (hg:w.heap.size<g):KtC b w (wx.setCell ⟨g,i,none⟩ v):=⟨sst h.st g i v (by omega),h.res.far g i v (by omega)⟩
theorem kterm_step (b d:Nat) (w:World) (hT:Tape w b) (hd:d≤100) (ih:∀ d':Nat,d=d'+1→∀ (b:Nat) (w:World),Tape w b→Calls Tryz.prog 18 #[.pointer (some ⟨b,0,none⟩),.int .i64 d'] w (KTP b d' w)) :
  Calls Tryz.prog 18 #[.pointer (some ⟨b,0,none⟩),.int .i64 d] w (KTP b d w):=by
 have hlt:=hT.lt
 have LT:=hid hlt
 obtain ⟨W,hW⟩:∃ W,w.alloc (.cells #[.int .i64 0,.int .i64 0,.int .i64 0,.slice none 0 0] 24)=W:=⟨_,rfl⟩
 have C0:RowKit.Hid (KtC b w W):=by show KtC b w W;rw [← hW];exact ⟨sal (Steps1.refl hT) _,Blk.new w _ _⟩
 have NE:RowKit.Hid (w.heap.size ≠ b):=by show _ ≠ _;omega
 have IHH:=hid ih
 clear hT ih
 go_enter Tryz.func18,Tryz.ntmps18
 go_upto_region 1 with fail
 clear hW
 go_cut [12] (fun c wx=>∃ q:Bool,c=.bool q∧(q=true→0<d)∧KtC b w wx)
 case first =>
  by_cases hp:0<d
  ·have hp':(0:Int)<d:=by omega
   go_wp2_with (go_at_call 51;refine (one_any _ _ _ C0.out.st.now (by decide) (by decide)).mono ?_;rintro e w1 ⟨q1,rfl,hs1⟩;have C1:=hid (C0.out.step hs1);clear hs1)
   go_meet
   case rel=>exact ⟨q1,rfl,fun _=>hp,C1.out⟩
  ·have hp':¬ (0:Int)<d:=by omega
   go_wp2
   go_meet
   case rel=>exact ⟨false,rfl,(fun h=>by cases h),C0.out⟩
 case rest =>
 obtain ⟨q,rfl,hq,hc⟩:=hcut
 have HQ:=hid hq;have C1:=hid hc
 clear hq hc
 go_upto_if 12 with fail
 go_cut [] (fun wx=>KtC b w wx)
 case first =>
  cases q with
  | false =>
   go_wp2
   go_meet
   case rel=>exact C1.out
  | true =>
   obtain ⟨d',rfl⟩:∃ d',d=d'+1:=⟨d - 1,by have:=HQ.out rfl;omega⟩
   have IH:=hid (IHH.out d' rfl)
   have yc:=C1.out.res.lt
   go_wp2_with (first
    | (go_at_call 16;refine (next_any _ _ _ C1.out.st.now (by decide) (by decide)).mono ?_;rintro e w2 ⟨r,r0,r1,rfl,hs2⟩;have C2:=hid (C1.out.step hs2);have y2:=hs2.size;clear hs2;have hr:r=0∨r=1∨r=2:=(by omega);clear r0 r1;rcases hr with rfl | rfl | rfl)
    | (go_at_call 18;(with_reducible refine (IH.out b w2 C2.out.st.now).mono ?_);rintro e w3 ⟨⟨o3,m3,q3,a3,n3,c3,l3⟩,rfl,ht3,hs3⟩;have T3:=hid ht3;have C3:=hid (C2.out.step hs3);have y3:=hs3.size;dsimp only [encTm];clear ht3 hs3)
    | (go_at_call 18;(with_reducible refine (IH.out b w3 C3.out.st.now).mono ?_);rintro e w4 ⟨⟨o4,m4,q4,a4,n4,c4,l4⟩,rfl,ht4,hs4⟩;have T4:=hid (ht4.le y3);have T3':=hid (T3.out.step hs4 (by have:=LT.out;omega));have C4:=hid (C3.out.step hs4);have y4:=hs4.size;dsimp only [encTm];clear ht4 hs4)
    | (refine bs_one elTm (by decide) rfl (.tmp 20) rfl #[.int .i64 o3,.int .i64 m3,.int .i64 q3,.slice a3 n3 c3] rfl rfl ?_)
    | (refine bs_two elTm (by decide) rfl (.tmp 28) (.tmp 32) rfl [.int .i64 o3,.int .i64 m3,.int .i64 q3,.slice a3 n3 c3] [.int .i64 o4,.int .i64 m4,.int .i64 q4,.slice a4 n4 c4] rfl rfl rfl rfl ?_)
    | (refine bs_two elTm (by decide) rfl (.tmp 38) (.tmp 42) rfl [.int .i64 o3,.int .i64 m3,.int .i64 q3,.slice a3 n3 c3] [.int .i64 o4,.int .i64 m4,.int .i64 q4,.slice a4 n4 c4] rfl rfl rfl rfl ?_)
    | (refine wpList_store_row rfl 24 (.tmp 4) (.tmp 22) rfl w.heap.size #[.int .i64 11,.int .i64 0,.int .i64 0,.slice (some ⟨w3.heap.size,0,none⟩) 1 1] rfl rfl _ _ (C3.out.res.alloc _) tmInfo rfl (tm_one _ _ _ _ _ _) ?_)
    | (refine wpList_store_row rfl 24 (.tmp 4) (.tmp 34) rfl w.heap.size #[.int .i64 9,.int .i64 0,.int .i64 0,.slice (some ⟨w4.heap.size,0,none⟩) 2 2] rfl rfl _ _ (C4.out.res.alloc _) tmInfo rfl (tm_one _ _ _ _ _ _) ?_)
    | (refine wpList_store_row rfl 24 (.tmp 4) (.tmp 44) rfl w.heap.size #[.int .i64 10,.int .i64 0,.int .i64 0,.slice (some ⟨w4.heap.size,0,none⟩) 2 2] rfl rfl _ _ (C4.out.res.alloc _) tmInfo rfl (tm_one _ _ _ _ _ _) ?_))
   ·have BR:=setRow_heap (w3.alloc (.cells #[.int .i64 o3,.int .i64 m3,.int .i64 q3,.slice a3 n3 c3] 24)) w.heap.size _ #[.int .i64 11,.int .i64 0,.int .i64 0,.slice (some ⟨w3.heap.size,0,none⟩) 1 1] _ _ (C3.out.res.alloc _)
    refine bodyPost_ret (results_cell_row rfl _ _ _ _ _ _ _ rfl BR Tryz.underlying24 rfl tmInfo) rfl ?_
    exact ⟨.mk 11 0 0 (some ⟨w3.heap.size,0,none⟩) 1 1 [(.mk o3 m3 q3 a3 n3 c3 l3)],rfl,((T3.out.one rfl y3).row (by omega)).le (by omega),steps_setRow (sal C3.out.st _) (Nat.le_refl _) _⟩
   ·have BR:=setRow_heap (w4.alloc (.cells #[.int .i64 o3,.int .i64 m3,.int .i64 q3,.slice a3 n3 c3,.int .i64 o4,.int .i64 m4,.int .i64 q4,.slice a4 n4 c4] 24)) w.heap.size _ #[.int .i64 9,.int .i64 0,.int .i64 0,.slice (some ⟨w4.heap.size,0,none⟩) 2 2] _ _ (C4.out.res.alloc _)
    refine bodyPost_ret (results_cell_row rfl _ _ _ _ _ _ _ rfl BR Tryz.underlying24 rfl tmInfo) rfl ?_
    exact ⟨.mk 9 0 0 (some ⟨w4.heap.size,0,none⟩) 2 2 [(.mk o3 m3 q3 a3 n3 c3 l3),(.mk o4 m4 q4 a4 n4 c4 l4)],rfl,((KT.two (op:=9) T3'.out T4.out (by omega) (by omega)).row (by omega)).le (by omega),steps_setRow (sal C4.out.st _) (Nat.le_refl _) _⟩
   ·have BR:=setRow_heap (w4.alloc (.cells #[.int .i64 o3,.int .i64 m3,.int .i64 q3,.slice a3 n3 c3,.int .i64 o4,.int .i64 m4,.int .i64 q4,.slice a4 n4 c4] 24)) w.heap.size _ #[.int .i64 10,.int .i64 0,.int .i64 0,.slice (some ⟨w4.heap.size,0,none⟩) 2 2] _ _ (C4.out.res.alloc _)
    refine bodyPost_ret (results_cell_row rfl _ _ _ _ _ _ _ rfl BR Tryz.underlying24 rfl tmInfo) rfl ?_
    exact ⟨.mk 10 0 0 (some ⟨w4.heap.size,0,none⟩) 2 2 [(.mk o3 m3 q3 a3 n3 c3 l3),(.mk o4 m4 q4 a4 n4 c4 l4)],rfl,((KT.two (op:=10) T3'.out T4.out (by omega) (by omega)).row (by omega)).le (by omega),steps_setRow (sal C4.out.st _) (Nat.le_refl _) _⟩
 case rest =>
 have C2:=hid hcut
 clear hcut HQ C1 IHH
 have yc:=C2.out.res.lt
 go_upto_block 1 with (first
  | (go_at_call 48;refine (range_any _ _ _ _ C2.out.st.now (by decide) (by decide) (by decide)).mono ?_;rintro e w5 ⟨r,r0,r1,rfl,hs5⟩;have C5:=hid (C2.out.step hs5);have y5:=hs5.size;clear hs5)
  | (refine st_new rfl 24 (.tmp 6) (.tmp 48) rfl #[.int .i64 r,.int .i64 0,.int .i64 0,.slice none 0 0] _ _ rfl rfl tmInfo rfl (tm_one _ _ _ _ _ _) ?_))
 obtain ⟨W6,hW6⟩:∃ W6,w5.alloc (.cells #[.int .i64 r,.int .i64 0,.int .i64 0,.slice none 0 0] 24)=W6:=⟨_,rfl⟩
 have D6:RowKit.Hid (Blk W6 w5.heap.size 24 #[.int .i64 r,.int .i64 0,.int .i64 0,.slice none 0 0]):=by show Blk _ _ _ _;rw [← hW6];exact Blk.new _ _ _
 have C6:RowKit.Hid (KtC b w W6):=by show KtC _ _ _;rw [← hW6];exact C5.out.alloc _
 rw [hW6]
 clear hW6
 have yg:w.heap.size<w5.heap.size:=by omega
 have NG:RowKit.Hid (w5.heap.size ≠ b):=by show _ ≠ _;have:=LT.out;omega
 go_cut [] (fun wx=>KtD b w5.heap.size w wx)
 case first =>
  have hr:r=1∨r=2∨r=3∨r=4∨r=5∨r=6∨r=7∨r=8:=by omega
  clear r0 r1
  rcases hr with rfl | rfl | rfl | rfl | rfl | rfl | rfl | rfl
  ·go_wp2
   go_meet
   case rel=>exact ⟨C6.out,1,0,0,rfl,D6.out⟩
  ·go_wp2_with (go_at_call 16;refine (next_any _ _ _ C6.out.st.now (by decide) (by decide)).mono ?_;rintro e w7 ⟨v,v0,v1,rfl,hs7⟩;have C7:=hid (C6.out.step hs7);have D7:=hid (D6.out.step hs7 NG.out);have z1:w7.cell? ⟨w5.heap.size,1,none⟩=some (.int .i64 0):=D7.out.cell 1;have z2:w7.cell? ⟨w5.heap.size,2,none⟩=some (.int .i64 0):=D7.out.cell 2;have f1:=D7.out.free 1;have f2:=D7.out.free 2;clear hs7)
   go_meet
   case rel=>exact ⟨C7.out.far _ _ _ yg,2,v,0,by simp [formB];omega,D7.out.put 1 _⟩
  ·go_wp2_with (go_at_call 16;refine (next_any _ _ _ C6.out.st.now (by decide) (by decide)).mono ?_;rintro e w7 ⟨v,v0,v1,rfl,hs7⟩;have C7:=hid (C6.out.step hs7);have D7:=hid (D6.out.step hs7 NG.out);have z1:w7.cell? ⟨w5.heap.size,1,none⟩=some (.int .i64 0):=D7.out.cell 1;have z2:w7.cell? ⟨w5.heap.size,2,none⟩=some (.int .i64 0):=D7.out.cell 2;have f1:=D7.out.free 1;have f2:=D7.out.free 2;clear hs7)
   go_meet
   case rel=>exact ⟨C7.out.far _ _ _ yg,3,v,0,by simp [formB];omega,D7.out.put 1 _⟩
  ·go_wp2_with (go_at_call 16;refine (next_any _ _ _ C6.out.st.now (by decide) (by decide)).mono ?_;rintro e w7 ⟨v,v0,v1,rfl,hs7⟩;have C7:=hid (C6.out.step hs7);have D7:=hid (D6.out.step hs7 NG.out);have z1:w7.cell? ⟨w5.heap.size,1,none⟩=some (.int .i64 0):=D7.out.cell 1;have z2:w7.cell? ⟨w5.heap.size,2,none⟩=some (.int .i64 0):=D7.out.cell 2;have f1:=D7.out.free 1;have f2:=D7.out.free 2;clear hs7;have hv:v=0∨v=1∨v=2∨v=3∨v=4:=(by omega);clear v0 v1;rcases hv with rfl | rfl | rfl | rfl | rfl)
   all_goals go_meet
   all_goals (case rel=>exact ⟨C7.out.far _ _ _ yg,4,_,0,by decide,D7.out.put 1 _⟩)
  ·go_wp2_with (go_at_call 16;refine (next_any _ _ _ C6.out.st.now (by decide) (by decide)).mono ?_;rintro e w7 ⟨v,v0,v1,rfl,hs7⟩;have C7:=hid (C6.out.step hs7);have D7:=hid (D6.out.step hs7 NG.out);have z1:w7.cell? ⟨w5.heap.size,1,none⟩=some (.int .i64 0):=D7.out.cell 1;have z2:w7.cell? ⟨w5.heap.size,2,none⟩=some (.int .i64 0):=D7.out.cell 2;have f1:=D7.out.free 1;have f2:=D7.out.free 2;clear hs7)
   go_meet
   case rel=>exact ⟨C7.out.far _ _ _ yg,5,v,0,by simp [formB];omega,D7.out.put 1 _⟩
  ·go_wp2_with (go_at_call 48;refine (range_any _ _ _ _ C6.out.st.now (by decide) (by decide) (by decide)).mono ?_;rintro e w7 ⟨v,v0,v1,rfl,hs7⟩;have C7:=hid (C6.out.step hs7);have D7:=hid (D6.out.step hs7 NG.out);have z1:w7.cell? ⟨w5.heap.size,1,none⟩=some (.int .i64 0):=D7.out.cell 1;have z2:w7.cell? ⟨w5.heap.size,2,none⟩=some (.int .i64 0):=D7.out.cell 2;have f1:=D7.out.free 1;have f2:=D7.out.free 2;clear hs7)
   go_meet
   case rel=>exact ⟨C7.out.far _ _ _ yg,6,v,0,by simp [formB];omega,D7.out.put 1 _⟩
  ·go_wp2_with fail
   go_region_held3 (fun w'=>True) (trivial) (first
    | (go_at_call 48;refine (range_any _ _ _ _ (by first | exact C6.out.st.now | exact C6.out.drew.st.now) (by decide) (by decide) (by decide)).mono ?_;rintro e w7 ⟨v,v0,v1,rfl,hs7⟩;have C7:RowKit.Hid (KtC b w w7):=(by first | exact C6.out.step hs7 | exact C6.out.drew.step hs7);have D7:RowKit.Hid (Blk w7 w5.heap.size 24 #[.int .i64 7,.int .i64 0,.int .i64 0,.slice none 0 0]):=(by first | exact D6.out.step hs7 NG.out | exact D6.out.drew.step hs7 NG.out);clear hs7)
    | (go_at_call 16;refine (next_any _ _ _ (by first | exact C7.out.st.now | exact C7.out.drew.st.now) (by decide) (by decide)).mono ?_;rintro e w8 ⟨x,x0,x1,rfl,hs8⟩;have C8:RowKit.Hid (KtC b w w8):=(by first | exact C7.out.step hs8 | exact C7.out.drew.step hs8);have D8:RowKit.Hid (Blk w8 w5.heap.size 24 #[.int .i64 7,.int .i64 0,.int .i64 0,.slice none 0 0]):=(by first | exact D7.out.step hs8 NG.out | exact D7.out.drew.step hs8 NG.out);have z1:w8.cell? ⟨w5.heap.size,1,none⟩=some (.int .i64 0):=D8.out.cell 1;have z2:w8.cell? ⟨w5.heap.size,2,none⟩=some (.int .i64 0):=D8.out.cell 2;have f1:=D8.out.free 1;have f2:=D8.out.free 2;clear hs8))
   all_goals go_wp2
   all_goals go_meet
   all_goals (case rel=>exact ⟨(C8.out.far _ _ _ yg).far _ _ _ yg,7,v,_,form_seven v0 v1 x0 x1,(D8.out.put 1 _).put 2 _⟩)
  ·go_wp2_with (go_at_call 48;refine (range_any _ _ _ _ C6.out.st.now (by decide) (by decide) (by decide)).mono ?_;rintro e w7 ⟨v,v0,v1,rfl,hs7⟩;have C7:=hid (C6.out.step hs7);have D7:=hid (D6.out.step hs7 NG.out);have z1:w7.cell? ⟨w5.heap.size,1,none⟩=some (.int .i64 0):=D7.out.cell 1;have z2:w7.cell? ⟨w5.heap.size,2,none⟩=some (.int .i64 0):=D7.out.cell 2;have f1:=D7.out.free 1;have f2:=D7.out.free 2;clear hs7)
   go_meet
   case rel=>exact ⟨C7.out.far _ _ _ yg,8,v,0,by simp [formB];omega,D7.out.put 1 _⟩
 case rest =>
 obtain ⟨hc,op,num,more,hf,hb⟩:=hcut
 have C9:=hid hc;have D9:=hid hb;have HF:=hid hf
 clear hc hb hf C6 D6
 go_wp2_with (first
  | (refine wpList_load_row rfl 24 (.tmp 6) rfl w5.heap.size rfl _ #[.int .i64 op,.int .i64 num,.int .i64 more,.slice none 0 0] _ _ D9.out Tryz.underlying24 rfl tmInfo ?_)
  | (refine wpList_store_row rfl 24 (.tmp 4) (.tmp 86) rfl w.heap.size #[.int .i64 op,.int .i64 num,.int .i64 more,.slice none 0 0] rfl rfl _ _ C9.out.res tmInfo rfl (tm_one _ _ _ _ _ _) ?_))
 have BR:=setRow_heap wc w.heap.size _ #[.int .i64 op,.int .i64 num,.int .i64 more,.slice none 0 0] _ _ C9.out.res
 refine bodyPost_ret (results_cell_row rfl _ _ _ _ _ _ _ rfl BR Tryz.underlying24 rfl tmInfo) rfl ?_
 exact ⟨.mk op num more none 0 0 [],rfl,KT.leaf HF.out,steps_setRow C9.out.st (Nat.le_refl _) _⟩
theorem kterm_any (d:Nat):∀ (b:Nat) (w:World),Tape w b→d≤100 →
    Calls Tryz.prog 18 #[.pointer (some ⟨b,0,none⟩),.int .i64 d] w (KTP b d w):=by
  induction d with
  | zero =>
    intro b w hT hd
    exact kterm_step b 0 w hT hd (fun d' e=>by omega)
  | succ d ih =>
    intro b w hT hd
    exact kterm_step b (d + 1) w hT hd (fun d' e => by obtain rfl : d' = d := by omega
                                                       exact fun b w h=>ih b w h (by omega))
theorem blkRow {w:World} {g k:Nat} {t:TypeId} {cs xs:Array Value} (h:Blk w g t cs) (e:g ≠ k):Blk (w.setRow k xs) g t cs:=(setRow_other _ _ _ _ e).trans h
def Kp (lo hi:Nat) (w w':World):Prop:=∀ k,lo≤k→k<hi→w'.heap[k]? = w.heap[k]?
section
variable {lo hi b:Nat} {w w1 w2:World}
theorem Kp.below (h:Kp lo hi w w1) (hb:Below w1.heap.size w1 w2) (hs:hi≤w1.heap.size):Kp lo hi w w2:=fun k h1 h2=>(hb.block k (by omega)).trans (h k h1 h2)
theorem Kp.steps (h:Kp lo hi w w1) (hs:Steps1 b w1 w2) (hb:b<lo) (hz:hi≤w1.heap.size):Kp lo hi w w2:=fun k h1 h2=>(hs.grown.block k (by omega) (by simp;omega)).trans (h k h1 h2)
theorem Kp.grown (h:Kp lo hi w w1) {v:Value} (hg:w1.grownBy w2 v.ownBlock) (ho:∀ g,v.ownBlock=some g→hi≤g) (hz:hi≤w1.heap.size):Kp lo hi w w2:=fun k h1 h2=>(hg.block k (by omega) (fun e=>by have:=ho k e.symm;omega)).trans (h k h1 h2)
theorem Kp.set (h:Kp lo hi w w1) {g i:Nat} (v:Value) (hg:hi≤g):Kp lo hi w (w1.setCell ⟨g,i,none⟩ v):=fun k h1 h2=>(Below.heap_setCell w1 ⟨g,i,none⟩ v k (by show k ≠ g;omega)).trans (h k h1 h2)
theorem Kp.row (h:Kp lo hi w w1) {g:Nat} (cs:Array Value) (hg:hi≤g):Kp lo hi w (w1.setRow g cs):=fun k h1 h2=>(setRow_other _ _ _ _ (by omega)).trans (h k h1 h2)
theorem Kp.hole (h:Kp lo hi w w1) {g:Nat} (hg:hi≤g):Kp lo hi w (hole g w1):=fun k h1 h2=>(hole_at _ (by omega)).trans (h k h1 h2)
theorem Kp.grownB (h:Kp lo hi w w1) {v:Value} (hg:w1.grownBy w2 v.ownBlock) (ho:∀ g,v.ownBlock=some g→g<lo) (hz:hi≤w1.heap.size):Kp lo hi w w2:=fun k h1 h2=>(hg.block k (by omega) (fun e=>by have:=ho k e.symm;omega)).trans (h k h1 h2)
theorem Blk.grownF {g hi:Nat} {t:TypeId} {cs:Array Value} {v:Value} (h:Blk w g t cs) (hg:w.grownBy w1 v.ownBlock) (ho:∀ q,v.ownBlock=some q→hi≤q) (hlt:g<hi):Blk w1 g t cs:=(hg.block g h.lt (fun e=>by have:=ho g e.symm;omega)).trans h
theorem Kp.tm {t:TmM} (h:Kp lo w.heap.size w w1) (ht:TmOk w t) (hf:TmFr lo t):TmOk w1 t:=ht.far (fun k h1 h2=>h k h1 h2) hf
end
theorem hole_setRow (g:Nat) (w:World) (cs:Array Value):hole g (w.setRow g cs)=hole g w:=by
 unfold hole World.setRow
 congr 1
 apply Array.ext_getElem?
 intro i
 by_cases e:i=g
 ·subst e
  by_cases hl:i<w.heap.size
  ·rw [Array.getElem?_setIfInBounds_self_of_lt (by simpa using hl),Array.getElem?_setIfInBounds_self_of_lt hl]
  ·rw [Array.getElem?_eq_none (by simpa using hl),Array.getElem?_eq_none (by simpa using hl)]
 ·rw [Array.getElem?_setIfInBounds_ne (Ne.symm e),Array.getElem?_setIfInBounds_ne (Ne.symm e)]
  first | rw [Array.getElem?_modify,if_neg (Ne.symm e)] | simp [e,Ne.symm e]
theorem TmOk.op {w:World} {op num more op' num' more':Int} {a:Option Addr} {n c:Nat} {kids:List TmM} (h:TmOk w (.mk op num more a n c kids)):TmOk w (.mk op' num' more' a n c kids):=.mk _ _ _ _ _ _ _ h.vw h.len h.cap.1 h.cap.2 h.nil fun k hk=>h.kid hk
theorem oneC_tm (t:TmM):OneC (encTm t):=fun u hu=>by cases t;simp [encTm] at hu;rcases hu with rfl | rfl | rfl | rfl <;> rfl
theorem TmFr.op {base:Nat} {op num more op' num' more':Int} {a:Option Addr} {n c:Nat} {kids:List TmM} (h:TmFr base (.mk op num more a n c kids)):TmFr base (.mk op' num' more' a n c kids):=by
 cases h with
 | mk _ _ _ _ _ _ _ h1 h2=>exact .mk _ _ _ _ _ _ _ h1 h2
theorem TmFr.kid {base:Nat} {op num more:Int} {a:Option Addr} {n c:Nat} {kids:List TmM} (h:TmFr base (.mk op num more a n c kids)) {k:TmM} (hk:k ∈ kids):TmFr base k:=by
 cases h with
 | mk _ _ _ _ _ _ _ h1 h2=>exact h2 k hk
theorem size_op (op num more:Int) {op' num' more':Int} {a:Option Addr} {n c:Nat} {kids:List TmM}:(TmM.pl (.mk op' num' more' a n c kids)).size=(TmM.pl (.mk op num more a n c kids)).size:=by rw [TmM.pl_mk,TmM.pl_mk,Tm.size,Tm.size]
def KSp (b:Nat) (w:World) (e:Ending) (w':World):Prop:=∃ t:TmM,e=.returned (.agg (encTm t).toArray)∧TmOk w' t∧TmFr w.heap.size t∧t.pl.size≤40∧Steps1 b w w'
theorem ksp_fin {b:Nat} {w w5:World} {t:TmM} (hs:Steps1 b w w5) (hk:TmOk w5 t) (hf:TmFr (w.heap.size+1) t) (hz:t.pl.size≤40):KSp b w (.returned (.agg (encTm t).toArray)) (w5.setRow w.heap.size (encTm t).toArray) :=
 ⟨t,rfl,hk.setRowF hf (by omega),hf.le (by omega),hz,steps_setRow hs (Nat.le_refl _) _⟩
theorem kspoilt_any (b:Nat) (bye:Int) (w:World) (hT:Tape w b):Calls Tryz.prog 19 #[.pointer (some ⟨b,0,none⟩),.int .i64 bye] w (KSp b w):=by
 have hlt:=hT.lt
 obtain ⟨W,hW⟩:∃ W,w.alloc (.cells #[.int .i64 0,.int .i64 0,.int .i64 0,.slice none 0 0] 24)=W:=⟨_,rfl⟩
 have B0:RowKit.Hid (Blk W w.heap.size 24 #[.int .i64 0,.int .i64 0,.int .i64 0,.slice none 0 0]):=by show Blk _ _ _ _;rw [← hW];exact Blk.new w _ _
 have S0:RowKit.Hid (Steps1 b w W):=by show Steps1 _ _ _;rw [← hW];exact sal (Steps1.refl hT) _
 have eW:RowKit.Hid (W.heap.size=w.heap.size+1):=by show _=_;rw [← hW];simp
 have HTM:=hid (kterm_any 3 b W S0.out.now (by omega))
 clear hT
 go_enter Tryz.func19,Tryz.ntmps19
 go_upto_region 2 with (first
  | (go_at_call 18;refine HTM.out.mono ?_;rintro e w1 ⟨⟨op,num,more,a,n,c,kids⟩,rfl,hk,hs1⟩;have K1:=hid hk;have S1:=hid (sts S0.out hs1);have B1:=hid (B0.out.step hs1 (by omega));have Y1:=hid hs1.size;dsimp only [encTm];clear hk hs1)
  | (refine st_new rfl 24 (.tmp 5) (.tmp 8) rfl #[.int .i64 op,.int .i64 num,.int .i64 more,.slice a n c] _ _ rfl rfl tmInfo rfl (tm_one _ _ _ _ _ _) ?_))
 obtain ⟨W1,hW1⟩:∃ W1,w1.alloc (.cells #[.int .i64 op,.int .i64 num,.int .i64 more,.slice a n c] 24)=W1:=⟨_,rfl⟩
 have S1a:RowKit.Hid (Steps1 b w W1):=by show Steps1 _ _ _;rw [← hW1];exact sal S1.out _
 have B1a:RowKit.Hid (Blk W1 w.heap.size 24 #[.int .i64 0,.int .i64 0,.int .i64 0,.slice none 0 0]):=by show Blk _ _ _ _;rw [← hW1];exact B1.out.alloc _
 have BN:RowKit.Hid (Blk W1 w1.heap.size 24 #[.int .i64 op,.int .i64 num,.int .i64 more,.slice a n c]):=by show Blk _ _ _ _;rw [← hW1];exact Blk.new _ _ _
 have KP:RowKit.Hid (Kp W.heap.size w1.heap.size w1 W1):=by
  show Kp _ _ _ _;rw [← hW1]
  exact (fun k _ h2=>(Below.heap_alloc w1 _ k h2))
 have y0:w.heap.size<w1.heap.size:=B1.out.lt
 have OK1:=hid K1.out.ok
 have FR:RowKit.Hid (TmFr (w.heap.size+1) (TmM.mk op num more a n c kids)):=by show TmFr _ _;rw [← eW.out];exact K1.out.fr
 have KP':RowKit.Hid (Kp (w.heap.size+1) w1.heap.size w1 W1):=by show Kp _ _ _ _;rw [← eW.out];exact KP.out
 have hbl:b<w.heap.size+1:=by omega
 have SZ:RowKit.Hid ((TmM.pl (.mk op num more a n c kids)).size≤15):=by have:=K1.out.size;show _≤_;omega
 have yW1:w1.heap.size<W1.heap.size:=BN.out.lt
 rw [hW1]
 clear hW1 HTM KP
 go_upto_region 3 with (go_at_call 16;refine (next_any _ _ _ S1a.out.now (by omega) (by omega)).mono ?_;rintro e w2 ⟨r,p2,q2,rfl,hs2⟩;have S2:=hid (sts S1a.out hs2);have B2:=hid (B1a.out.step hs2 (by omega));have BN2:=hid (BN.out.step hs2 (by omega));have KP2:=hid (KP'.out.steps hs2 hbl (by omega));have y2:=hs2.size;clear hs2)
 obtain rfl | rfl | rfl | rfl | rfl | hr:r=0∨r=1∨r=2∨r=3∨r=4∨5≤r:=by omega
 ·obtain ⟨x,hx⟩:∃ x,modI bye 14=x:=⟨_,rfl⟩
  have HM:=hid (mod_any bye 14 w2 (by omega) (by omega))
  have x0:0≤x:=by rw [← hx];exact modI_lo _ _ (by omega)
  have x1:x<14:=by rw [← hx];exact modI_hi _ _ (by omega)
  rw [hx] at HM
  clear hx
  have c0:w2.cell? ⟨w1.heap.size,0,none⟩=some (.int .i64 op):=BN2.out.cell 0
  have f0:=BN2.out.free 0
  go_wp2_with (first
   | (go_at_call 17;refine HM.out.mono ?_;rintro e w3 ⟨rfl,rfl⟩)
   | (refine wpList_load_row rfl 24 (.tmp 5) rfl w1.heap.size rfl _ #[.int .i64 (x - 1),.int .i64 num,.int .i64 more,.slice a n c] _ _ (BN2.out.put 0 (.int .i64 (x - 1))) Tryz.underlying24 rfl tmInfo ?_)
   | (refine wpList_store_row rfl 24 (.tmp 4) (.tmp 48) rfl w.heap.size #[.int .i64 (x - 1),.int .i64 num,.int .i64 more,.slice a n c] rfl rfl _ _ (B2.out.far w1.heap.size 0 (.int .i64 (x - 1)) (by omega)) tmInfo rfl (tm_one _ _ _ _ _ _) ?_))
  have BR:=setRow_heap _ w.heap.size _ #[.int .i64 (x - 1),.int .i64 num,.int .i64 more,.slice a n c] _ _ (B2.out.far w1.heap.size 0 (.int .i64 (x - 1)) (by omega))
  refine bodyPost_ret (results_cell_row rfl _ _ _ _ _ _ _ rfl BR Tryz.underlying24 rfl tmInfo) rfl ?_
  exact ksp_fin (t:=.mk (x - 1) num more a n c kids) (sst S2.out _ _ _ (by omega)) ((KP2.out.set _ (Nat.le_refl _)).tm OK1.out FR.out).op FR.out.op (by rw [size_op op num more];have:=SZ.out;omega)
 ·have c0:w2.cell? ⟨w1.heap.size,1,none⟩=some (.int .i64 num):=BN2.out.cell 1
  have f0:=BN2.out.free 1
  go_wp2_with (first
   | (refine wpList_load_row rfl 24 (.tmp 5) rfl w1.heap.size rfl _ #[.int .i64 op,.int .i64 bye,.int .i64 more,.slice a n c] _ _ (BN2.out.put 1 (.int .i64 bye)) Tryz.underlying24 rfl tmInfo ?_)
   | (refine wpList_store_row rfl 24 (.tmp 4) (.tmp 48) rfl w.heap.size #[.int .i64 op,.int .i64 bye,.int .i64 more,.slice a n c] rfl rfl _ _ (B2.out.far w1.heap.size 1 (.int .i64 bye) (by omega)) tmInfo rfl (tm_one _ _ _ _ _ _) ?_))
  have BR:=setRow_heap _ w.heap.size _ #[.int .i64 op,.int .i64 bye,.int .i64 more,.slice a n c] _ _ (B2.out.far w1.heap.size 1 (.int .i64 bye) (by omega))
  refine bodyPost_ret (results_cell_row rfl _ _ _ _ _ _ _ rfl BR Tryz.underlying24 rfl tmInfo) rfl ?_
  exact ksp_fin (t:=.mk op bye more a n c kids) (sst S2.out _ _ _ (by omega)) ((KP2.out.set _ (Nat.le_refl _)).tm OK1.out FR.out).op FR.out.op (by rw [size_op op num more];have:=SZ.out;omega)
 ·obtain ⟨x,hx⟩:∃ x,modI bye 20=x:=⟨_,rfl⟩
  have HM:=hid (mod_any bye 20 w2 (by omega) (by omega))
  rw [hx] at HM
  clear hx
  have c0:w2.cell? ⟨w1.heap.size,2,none⟩=some (.int .i64 more):=BN2.out.cell 2
  have f0:=BN2.out.free 2
  go_wp2_with (first
   | (go_at_call 17;refine HM.out.mono ?_;rintro e w3 ⟨rfl,rfl⟩)
   | (refine wpList_load_row rfl 24 (.tmp 5) rfl w1.heap.size rfl _ #[.int .i64 op,.int .i64 num,.int .i64 x,.slice a n c] _ _ (BN2.out.put 2 (.int .i64 x)) Tryz.underlying24 rfl tmInfo ?_)
   | (refine wpList_store_row rfl 24 (.tmp 4) (.tmp 48) rfl w.heap.size #[.int .i64 op,.int .i64 num,.int .i64 x,.slice a n c] rfl rfl _ _ (B2.out.far w1.heap.size 2 (.int .i64 x) (by omega)) tmInfo rfl (tm_one _ _ _ _ _ _) ?_))
  have BR:=setRow_heap _ w.heap.size _ #[.int .i64 op,.int .i64 num,.int .i64 x,.slice a n c] _ _ (B2.out.far w1.heap.size 2 (.int .i64 x) (by omega))
  refine bodyPost_ret (results_cell_row rfl _ _ _ _ _ _ _ rfl BR Tryz.underlying24 rfl tmInfo) rfl ?_
  exact ksp_fin (t:=.mk op num x a n c kids) (sst S2.out _ _ _ (by omega)) ((KP2.out.set _ (Nat.le_refl _)).tm OK1.out FR.out).op FR.out.op (by rw [size_op op num more];have:=SZ.out;omega)
 ·have c3:w2.cell? ⟨w1.heap.size,3,none⟩=some (.slice a n c):=BN2.out.cell 3
  have y2a:w1.heap.size<w2.heap.size:=BN2.out.lt
  have hlen:=OK1.out.len
  have hn15:n≤15:=by
   have h1:=SZ.out
   rw [TmM.pl_mk,Tm.size] at h1
   have h2:=Tm.sizes_len (kids.map TmM.pl)
   rw [List.length_map] at h2
   omega
  have V2:RowKit.Hid (Vw w2 a (cellsOf encTm kids)):=(KP2.out.tm OK1.out FR.out).vw
  have NIL:=hid OK1.out.nil
  have HLE:=hid hlen
  go_wp2_with (first
   | (at_builtin;refine app_list elTm rfl _ _ rfl w2.heap.size (.slice (some ⟨w2.heap.size,0,none⟩) 0 0) 0 [] rfl (own_lit0 (t:=24) (Blk.new w2 _ _) (Nat.le_refl _)) a n c (cellsOf encTm kids) rfl (V2.out.alloc _) NIL.out (by rw [cellsOf_length encTm_len,HLE.out]) (oneC_cells oneC_tm kids) (by omega) (by simp) ?_;intro v4 w4 hown4 hg4 _;have BL4:RowKit.Hid (Below w2.heap.size w2 w4):=Below.grown Bw.out hg4 (by simp) (by intro q hq;simp [Value.ownBlock] at hq;omega);have S4:=hid (stb S2.out BL4.out);simp only [Nat.zero_add,List.nil_append] at hown4;have OW4:=hid hown4;have B4:=hid (B2.out.below BL4.out);have BN4:=hid (BN2.out.below BL4.out);have KP4:=hid (KP2.out.below BL4.out (by omega));have y4:=BL4.out.size;have HT0:RowKit.Hid (Calls Tryz.prog 18 #[.pointer (some ⟨b,0,none⟩),.int .i64 0] w4 (KTP b 0 w4)):=kterm_any 0 b w4 S4.out.now (Nat.zero_le _);clear hown4 hg4)
   | (go_at_call 18;(with_reducible refine HT0.out.mono ?_);rintro e w5 ⟨⟨op5,num5,more5,a5,n5,c5,kids5⟩,rfl,hk5,hs5⟩;have K5:=hid hk5;have S5:=hid (sts S4.out hs5);have B5:=hid (B4.out.step hs5 (by omega));have BN5:=hid (BN4.out.step hs5 (by omega));have KP5:=hid (KP4.out.steps hs5 hbl (by omega));have OW5:=hid (own_step OW4.out hs5 (by omega));have OL4:=hid OW4.out.lt;have y5:=hs5.size;dsimp only [encTm];clear hk5 hs5)
   | (refine bs_one elTm (by decide) rfl (.tmp 33) rfl #[.int .i64 op5,.int .i64 num5,.int .i64 more5,.slice a5 n5 c5] rfl rfl ?_)
   | (at_builtin;refine app_list elTm rfl _ _ rfl w2.heap.size v4 n (cellsOf encTm kids) rfl (own_keep OW5.out Bw.out) _ 1 _ (encTm (.mk op5 num5 more5 a5 n5 c5 kids5)) rfl (by first | exact vw_blk (Blk.fresh (by simp)) | exact vw_blk (Blk.fresh (by simp)).drew) (by simp) rfl (oneC_tm _) (by omega) (by simp;omega) ?_;intro v6 w6 hown6 hg6 _;obtain ⟨a6,c6,rfl,q61,q62,q63⟩:=own_form hown6;have C6:=hid q61;have M6:=hid q62;have Q6:=hid q63;have OW6:=hid hown6;have HG6:=hid hg6;have BN6:=hid (Blk.grownF (BN5.out.alloc (.cells #[.int .i64 op5,.int .i64 num5,.int .i64 more5,.slice a5 n5 c5] 24)) hg6 (own_ge OW5.out) (by omega));have B6:=hid (Blk.grownF (B5.out.alloc (.cells #[.int .i64 op5,.int .i64 num5,.int .i64 more5,.slice a5 n5 c5] 24)) hg6 (own_ge OW5.out) (by omega));have g0:w6.cell? ⟨w1.heap.size,3,none⟩=some (.slice a n c):=BN6.out.cell 3;have g1:=BN6.out.free 3;clear hown6 hg6 q61 q62 q63)
   | (refine wpList_load_row rfl 24 (.tmp 5) rfl w1.heap.size rfl _ #[.int .i64 op,.int .i64 num,.int .i64 more,.slice a6 (n+1) c6] _ _ (BN6.out.put 3 (.slice a6 (n+1) c6)) Tryz.underlying24 rfl tmInfo ?_)
   | (refine wpList_store_row rfl 24 (.tmp 4) (.tmp 48) rfl w.heap.size #[.int .i64 op,.int .i64 num,.int .i64 more,.slice a6 (n+1) c6] rfl rfl _ _ (B6.out.far w1.heap.size 3 (.slice a6 (n+1) c6) (by omega)) tmInfo rfl (tm_one _ _ _ _ _ _) ?_))
  have BR:=setRow_heap _ w.heap.size _ #[.int .i64 op,.int .i64 num,.int .i64 more,.slice a6 (n+1) c6] _ _ (B6.out.far w1.heap.size 3 (.slice a6 (n+1) c6) (by omega))
  refine bodyPost_ret (results_cell_row rfl _ _ _ _ _ _ _ rfl BR Tryz.underlying24 rfl tmInfo) rfl ?_
  have BA:Below w5.heap.size w5 (w5.alloc (.cells #[.int .i64 op5,.int .i64 num5,.int .i64 more5,.slice a5 n5 c5] 24)):=Bw.out
  have S6:Steps1 b w w6:=steps_app (sal S5.out _) (own_base (own_keep OW5.out BA) (by omega)) HG6.out
  have KP6:Kp (w.heap.size+1) w1.heap.size w1 w6:=(KP5.out.below BA (by omega)).grown HG6.out (fun g hg=>by have:=own_ge OW5.out g hg;omega) (by have:=BA.size;omega)
  have KQ6:Kp w4.heap.size w5.heap.size w5 w6:=Kp.grownB (Kp.below (fun k _ _=>rfl) BA (Nat.le_refl _)) HG6.out (fun g hg=>(OL4.out g hg).2) BA.size
  have hfr5:TmFr (w.heap.size+1) (TmM.mk op5 num5 more5 a5 n5 c5 kids5):=K5.out.fr.le (by omega)
  have hok5:TmOk (w6.setCell ⟨w1.heap.size,3,none⟩ (.slice a6 (n+1) c6)) (TmM.mk op5 num5 more5 a5 n5 c5 kids5) :=
   K5.out.ok.far (fun k h1 h2=>(Below.heap_setCell w6 ⟨w1.heap.size,3,none⟩ _ k (by show k ≠ w1.heap.size;omega)).trans (KQ6 k h1 h2)) K5.out.fr
  refine ksp_fin (t:=.mk op num more a6 (n+1) c6 (kids++[.mk op5 num5 more5 a5 n5 c5 kids5])) (sst S6 _ _ _ (by omega)) (.mk _ _ _ _ _ _ _ ?_ (by simp [HLE.out]) C6.out M6.out (fun e=>?_) (fun k hk=>?_)) (.mk _ _ _ _ _ _ _ (fun g off e=>?_) (fun k hk=>?_)) ?_
  ·have:=vw_of_own (ownsRow_setCell_below OW6.out (a:=⟨w1.heap.size,3,none⟩) (by show w1.heap.size<w2.heap.size;omega) (.slice a6 (n+1) c6))
   rw [cellsOf_snoc]
   exact this
  ·rcases Q6.out with ⟨_,h,_⟩ | ⟨g,h,_⟩
   ·omega
   ·rw [h] at e;cases e
  ·rcases List.mem_append.1 hk with hk | hk
   ·exact (KP6.set _ (Nat.le_refl _)).tm (OK1.out.kid hk) (FR.out.kid hk)
   ·rw [List.mem_singleton.1 hk];exact hok5
  ·rcases Q6.out with ⟨h,_⟩ | ⟨g',h,h2,_⟩
   ·rw [h] at e;cases e
   ·rw [h] at e;cases e;omega
  ·rcases List.mem_append.1 hk with hk | hk
   ·exact FR.out.kid hk
   ·rw [List.mem_singleton.1 hk];exact hfr5
  ·have h1:=SZ.out
   have h5:=K5.out.size
   rw [TmM.pl_mk,Tm.size] at h1 ⊢
   rw [List.map_append,List.map_cons,List.map_nil,Tm.sizes_snoc]
   omega
 ·obtain ⟨x,hx⟩:∃ x,modI bye 9=x:=⟨_,rfl⟩
  have HM:=hid (mod_any bye 9 w2 (by omega) (by omega))
  have x0:0≤x:=by rw [← hx];exact modI_lo _ _ (by omega)
  have x1:x<9:=by rw [← hx];exact modI_hi _ _ (by omega)
  rw [hx] at HM
  clear hx
  have TH:RowKit.Hid (TmOk (hole w1.heap.size w2) (.mk op num more a n c kids)):=(KP2.out.hole (Nat.le_refl _)).tm OK1.out FR.out
  go_wp2_with (go_at_call 17;refine HM.out.mono ?_;rintro e w3 ⟨rfl,rfl⟩)
  go_loopw [6] (fun v wr=>∃ (i:Nat) (t:TmM),v=.int .i64 i∧i≤8∧t.pl.size+i≤40∧Blk wr w1.heap.size 24 (encTm t).toArray∧Blk wr w.heap.size 24 #[.int .i64 0,.int .i64 0,.int .i64 0,.slice none 0 0]∧TmOk (hole w1.heap.size wr) t∧TmFr (w.heap.size+1) t∧Steps1 b w wr) (fun v _=>(intOf v).toNat)
  case atStart=>exact ⟨x.toNat,.mk op num more a n c kids,by rw [Int.toNat_of_nonneg x0],by omega,by have:=SZ.out;omega,BN2.out,B2.out,TH.out,FR.out,S2.out⟩
  case round =>
   obtain ⟨i,t,rfl,hi,hsz,hbn,hb0,hth,hfr,hst⟩:=hrel
   have BNR:=hid hbn;have B0R:=hid hb0;have THR:=hid hth;have FRR:=hid hfr;have STR:=hid hst;have SZR:=hid hsz
   have yr:=hbn.lt
   clear hbn hb0 hth hfr hst hsz
   by_cases hi0:0<i
   ·have hi1:(0:Int)<(i:Int):=by omega
    obtain ⟨op',num',more',a',n',c',kids'⟩:=t
    dsimp only [encTm] at BNR
    go_wp2_with (first
     | (refine wpList_load_row rfl 24 (.tmp 5) rfl w1.heap.size rfl _ #[.int .i64 op',.int .i64 num',.int .i64 more',.slice a' n' c'] _ _ BNR.out Tryz.underlying24 rfl tmInfo ?_)
     | (refine bs_one elTm (by decide) rfl (.tmp 45) rfl #[.int .i64 op',.int .i64 num',.int .i64 more',.slice a' n' c'] rfl rfl ?_)
     | (refine wpList_store_row rfl 24 (.tmp 5) (.tmp 47) rfl w1.heap.size #[.int .i64 11,.int .i64 0,.int .i64 0,.slice (some ⟨wr.heap.size,0,none⟩) 1 1] rfl rfl _ _ (BNR.out.alloc _) tmInfo rfl (tm_one _ _ _ _ _ _) ?_))
    go_roundw
    case rel =>
     have BA:Below wr.heap.size wr (wr.alloc (.cells #[.int .i64 op',.int .i64 num',.int .i64 more',.slice a' n' c'] 24)):=Bw.out
     refine ⟨i - 1,.mk 11 0 0 (some ⟨wr.heap.size,0,none⟩) 1 1 [.mk op' num' more' a' n' c' kids'],by go_num,by omega,?_,setRow_heap _ w1.heap.size _ _ _ _ (BNR.out.alloc _),blkRow (B0R.out.alloc _) (by omega),?_,?_,steps_setRow (sal STR.out _) (by omega) _⟩
     ·have h1:=SZR.out
      rw [TmM.pl_mk,Tm.size]
      simp only [List.map_cons,List.map_nil,Tm.sizes]
      omega
     ·have e:hole w1.heap.size ((wr.alloc (.cells #[.int .i64 op',.int .i64 num',.int .i64 more',.slice a' n' c'] 24)).setRow w1.heap.size #[.int .i64 11,.int .i64 0,.int .i64 0,.slice (some ⟨wr.heap.size,0,none⟩) 1 1])=hole w1.heap.size (wr.alloc (.cells #[.int .i64 op',.int .i64 num',.int .i64 more',.slice a' n' c'] 24)):=hole_setRow _ _ _
      rw [e]
      have hB:Blk (hole w1.heap.size (wr.alloc (.cells #[.int .i64 op',.int .i64 num',.int .i64 more',.slice a' n' c'] 24))) wr.heap.size 24 #[.int .i64 op',.int .i64 num',.int .i64 more',.slice a' n' c']:=(hole_at _ (by omega)).trans (Blk.new wr _ _)
      exact .mk _ _ _ _ _ _ _ (by have:=vw_blk hB;simpa [cellsOf,encTm] using this) rfl (Nat.le_refl _) (by decide) (fun h=>by cases h) (fun k hk=>by rw [List.mem_singleton.1 hk];exact THR.out.beh (hole_below BA yr))
     ·exact .mk _ _ _ _ _ _ _ (fun g off e=>by cases e;omega) (fun k hk=>by rw [List.mem_singleton.1 hk];exact FRR.out)
    case measure=>simp [intOf];omega
   ·have hi1:¬ (0:Int)<(i:Int):=by omega
    obtain ⟨op',num',more',a',n',c',kids'⟩:=t
    dsimp only [encTm] at BNR
    go_wp2_with (first
     | (refine wpList_load_row rfl 24 (.tmp 5) rfl w1.heap.size rfl _ #[.int .i64 op',.int .i64 num',.int .i64 more',.slice a' n' c'] _ _ BNR.out Tryz.underlying24 rfl tmInfo ?_)
     | (refine wpList_store_row rfl 24 (.tmp 4) (.tmp 48) rfl w.heap.size #[.int .i64 op',.int .i64 num',.int .i64 more',.slice a' n' c'] rfl rfl _ _ B0R.out tmInfo rfl (tm_one _ _ _ _ _ _) ?_))
    have BR:=setRow_heap wr w.heap.size _ #[.int .i64 op',.int .i64 num',.int .i64 more',.slice a' n' c'] _ _ B0R.out
    refine bodyPost_ret (results_cell_row rfl _ _ _ _ _ _ _ rfl BR Tryz.underlying24 rfl tmInfo) rfl ?_
    exact ksp_fin (t:=.mk op' num' more' a' n' c' kids') STR.out THR.out.fill FRR.out (by have:=SZR.out;omega)
 ·have q0:((r:Int) == 0)=false:=by simp;omega
  have q1:((r:Int) == 1)=false:=by simp;omega
  have q2':((r:Int) == 2)=false:=by simp;omega
  have q3:((r:Int) == 3)=false:=by simp;omega
  have q4:((r:Int) == 4)=false:=by simp;omega
  go_wp2_with (first
   | (refine wpList_load_row rfl 24 (.tmp 5) rfl w1.heap.size rfl _ #[.int .i64 op,.int .i64 num,.int .i64 more,.slice a n c] _ _ BN2.out Tryz.underlying24 rfl tmInfo ?_)
   | (refine wpList_store_row rfl 24 (.tmp 4) (.tmp 48) rfl w.heap.size #[.int .i64 op,.int .i64 num,.int .i64 more,.slice a n c] rfl rfl _ _ B2.out tmInfo rfl (tm_one _ _ _ _ _ _) ?_))
  have BR:=setRow_heap w2 w.heap.size _ #[.int .i64 op,.int .i64 num,.int .i64 more,.slice a n c] _ _ B2.out
  refine bodyPost_ret (results_cell_row rfl _ _ _ _ _ _ _ rfl BR Tryz.underlying24 rfl tmInfo) rfl ?_
  exact ksp_fin (t:=.mk op num more a n c kids) S2.out (KP2.out.tm OK1.out FR.out) FR.out (by have:=SZ.out;omega)
end Go.Proofs.YtancajcelmhnkaaGreatDoor
