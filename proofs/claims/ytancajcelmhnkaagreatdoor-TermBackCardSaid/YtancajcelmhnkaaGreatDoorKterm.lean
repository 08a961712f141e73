/- The keeper's terms. -/
import Derived.Test.YtancajcelmhnkaaGreatDoorGx
import Derived.Test.YtancajcelmhnkaaGreatDoorGw
import Derived.Test.YtancajcelmhnkaaGreatDoorGn
import Derived.Deep.DeepCutAuto
import Derived.Deep.CutBlock
namespace Go.Proofs.YtancajcelmhnkaaGreatDoor
open Go.RowKit Go.Sort Go.Shelf
set_option linter.unusedVariables false
set_option linter.unusedSimpArgs false
def KTP (b d : Nat) (w : World) (e : Ending) (w' : World) : Prop:=∃ t : TmM,e = .returned (.agg (encTm t).toArray)∧KT d w.heap.size w' t∧Steps1 b w w'
structure KtC (b : Nat) (w wx : World) : Prop where
  st : Steps1 b w wx
  res : Blk wx w.heap.size 24 #[.int .i64 0,.int .i64 0,.int .i64 0,.slice none 0 0]
theorem KtC.step {b : Nat} {w wx wy : World} (h : KtC b w wx) (hs : Steps1 b wx wy) : KtC b w wy:=⟨sts h.st hs,h.res.step hs (by have:=h.st.lt;omega)⟩
theorem KtC.drew {b : Nat} {w wx : World} (h : KtC b w wx) : KtC b w wx.drew:=⟨sdr h.st,h.res.drew⟩
theorem KtC.alloc {b : Nat} {w wx : World} (h : KtC b w wx) (ob : Obj) : KtC b w (wx.alloc ob):=⟨sal h.st _,h.res.alloc _⟩
structure KtD (b g : Nat) (w wx : World) : Prop where
  c : KtC b w wx
  ex : ∃ op num more : Int,formB op num more 0 = true∧Blk wx g 24 #[.int .i64 op,.int .i64 num,.int .i64 more,.slice none 0 0]
theorem form_seven {v x : Int} (v0 : 1≤v) (v1 : v≤2) (x0 : 0≤x) (x1 : x < 5) : formB 7 v (IntKind.i64.wrap (2 ^ x.toNat)) 0 = true:=by
  have hm : oneMark (IntKind.i64.wrap (2 ^ x.toNat)) = true:=by
    have hx : x = 0∨x = 1∨x = 2∨x = 3∨x = 4:=by omega
    rcases hx with rfl | rfl | rfl | rfl | rfl <;> decide
  simp [formB,hm];omega
theorem KT.le {d base base' : Nat} {w : World} {t : TmM} (h : KT d base w t) (hb : base'≤base) : KT d base' w t:=⟨h.ok,h.fr.le hb,h.form,h.depth,h.size⟩
theorem KT.step {b d base : Nat} {w w' : World} {t : TmM} (h : KT d base w t) (hs : Steps1 b w w') (hb : b < base) : KT d base w' t:=h.far fun g h1 h2=>hs.grown.block g h2 (by simp;omega)
theorem KT.row {d base g : Nat} {w : World} {t : TmM} {cs : Array Value} (h : KT d base w t) (hg : g < base) : KT d base (w.setRow g cs) t:=h.far fun k h1 h2=>setRow_other _ _ _ _ (by omega)
theorem KtC.far {b : Nat} {w wx : World} (h : KtC b w wx) (g i : Nat) (v : Value) (hg : w.heap.size < g) : KtC b w (wx.setCell ⟨g,i,none⟩ v):=⟨sst h.st g i v (by omega),h.res.far g i v (by omega)⟩
set_option maxRecDepth 100000 in
set_option maxHeartbeats 8000000 in
theorem kterm_step (b d : Nat) (w : World) (hT : Tape w b) (hd : d≤100) (ih : ∀ d' : Nat,d = d' + 1→∀ (b : Nat) (w : World),Tape w b→Calls Tryz.prog 18 #[.pointer (some ⟨b,0,none⟩),.int .i64 d'] w (KTP b d' w)) :
    Calls Tryz.prog 18 #[.pointer (some ⟨b,0,none⟩),.int .i64 d] w (KTP b d w):=by
  have hlt:=hT.lt
  have LT:=Lib.hid hlt
  obtain ⟨W,hW⟩ : ∃ W,w.alloc (.cells #[.int .i64 0,.int .i64 0,.int .i64 0,.slice none 0 0] 24) = W:=⟨_,rfl⟩
  have C0 : RowKit.Hid (KtC b w W):=by show KtC b w W;rw [← hW];exact ⟨sal (Steps1.refl hT) _,Blk.new w _ _⟩
  have NE : RowKit.Hid (w.heap.size ≠ b):=by show _ ≠ _;omega
  have IHH:=Lib.hid ih
  clear hT ih
  go_enter Tryz.func18,Tryz.ntmps18
  go_upto_region 1 with fail
  clear hW
  go_cut [12] (fun c wx=>∃ q : Bool,c = .bool q∧(q = true→0 < d)∧KtC b w wx)
  case first =>
    by_cases hp : 0 < d
    · have hp' : (0 : Int) < d:=by omega
      go_wp2_with (go_at_call 51;refine (one_any _ _ _ C0.out.st.now (by decide) (by decide)).mono ?_;rintro e w1 ⟨q1,rfl,hs1⟩;have C1:=Lib.hid (C0.out.step hs1);clear hs1)
      go_meet
      case rel=>exact ⟨q1,rfl,fun _=>hp,C1.out⟩
    · have hp' : ¬ (0 : Int) < d:=by omega
      go_wp2
      go_meet
      case rel=>exact ⟨false,rfl,(fun h=>by cases h),C0.out⟩
  case rest =>
  obtain ⟨q,rfl,hq,hc⟩:=hcut
  have HQ:=Lib.hid hq;have C1:=Lib.hid hc
  clear hq hc
  go_upto_if 12 with fail
  go_cut [] (fun wx=>KtC b w wx)
  case first =>
    cases q with
    | false =>
      go_wp2
      go_meet
      case rel=>exact C1.out
    | true =>
      obtain ⟨d',rfl⟩ : ∃ d',d = d' + 1:=⟨d - 1,by have:=HQ.out rfl;omega⟩
      have IH:=Lib.hid (IHH.out d' rfl)
      have yc:=C1.out.res.lt
      go_wp2_with (first
        | (go_at_call 16;refine (next_any _ _ _ C1.out.st.now (by decide) (by decide)).mono ?_;rintro e w2 ⟨r,r0,r1,rfl,hs2⟩;have C2:=Lib.hid (C1.out.step hs2);have y2:=hs2.size;clear hs2;have hr : r = 0∨r = 1∨r = 2:=(by omega);clear r0 r1;rcases hr with rfl | rfl | rfl)
        | (go_at_call 18;(with_reducible refine (IH.out b w2 C2.out.st.now).mono ?_);rintro e w3 ⟨⟨o3,m3,q3,a3,n3,c3,l3⟩,rfl,ht3,hs3⟩;have T3:=Lib.hid ht3;have C3:=Lib.hid (C2.out.step hs3);have y3:=hs3.size;dsimp only [encTm];clear ht3 hs3)
        | (go_at_call 18;(with_reducible refine (IH.out b w3 C3.out.st.now).mono ?_);rintro e w4 ⟨⟨o4,m4,q4,a4,n4,c4,l4⟩,rfl,ht4,hs4⟩;have T4:=Lib.hid (ht4.le y3);have T3':=Lib.hid (T3.out.step hs4 (by have:=LT.out;omega));have C4:=Lib.hid (C3.out.step hs4);have y4:=hs4.size;dsimp only [encTm];clear ht4 hs4)
        | (refine bs_one elTm (by decide) rfl (.tmp 20) rfl #[.int .i64 o3,.int .i64 m3,.int .i64 q3,.slice a3 n3 c3] rfl rfl ?_)
        | (refine bs_two elTm (by decide) rfl (.tmp 28) (.tmp 32) rfl [.int .i64 o3,.int .i64 m3,.int .i64 q3,.slice a3 n3 c3] [.int .i64 o4,.int .i64 m4,.int .i64 q4,.slice a4 n4 c4] rfl rfl rfl rfl ?_)
        | (refine bs_two elTm (by decide) rfl (.tmp 38) (.tmp 42) rfl [.int .i64 o3,.int .i64 m3,.int .i64 q3,.slice a3 n3 c3] [.int .i64 o4,.int .i64 m4,.int .i64 q4,.slice a4 n4 c4] rfl rfl rfl rfl ?_)
        | (refine wpList_store_row rfl 24 (.tmp 4) (.tmp 22) rfl w.heap.size #[.int .i64 11,.int .i64 0,.int .i64 0,.slice (some ⟨w3.heap.size,0,none⟩) 1 1] rfl rfl _ _ (C3.out.res.alloc _) tmInfo rfl (tm_one _ _ _ _ _ _) ?_)
        | (refine wpList_store_row rfl 24 (.tmp 4) (.tmp 34) rfl w.heap.size #[.int .i64 9,.int .i64 0,.int .i64 0,.slice (some ⟨w4.heap.size,0,none⟩) 2 2] rfl rfl _ _ (C4.out.res.alloc _) tmInfo rfl (tm_one _ _ _ _ _ _) ?_)
        | (refine wpList_store_row rfl 24 (.tmp 4) (.tmp 44) rfl w.heap.size #[.int .i64 10,.int .i64 0,.int .i64 0,.slice (some ⟨w4.heap.size,0,none⟩) 2 2] rfl rfl _ _ (C4.out.res.alloc _) tmInfo rfl (tm_one _ _ _ _ _ _) ?_))
      · have BR:=setRow_heap (w3.alloc (.cells #[.int .i64 o3,.int .i64 m3,.int .i64 q3,.slice a3 n3 c3] 24)) w.heap.size _ #[.int .i64 11,.int .i64 0,.int .i64 0,.slice (some ⟨w3.heap.size,0,none⟩) 1 1] _ _ (C3.out.res.alloc _)
        refine bodyPost_ret (results_cell_row rfl _ _ _ _ _ _ _ rfl BR Tryz.underlying24 rfl tmInfo) rfl ?_
        exact ⟨.mk 11 0 0 (some ⟨w3.heap.size,0,none⟩) 1 1 [(.mk o3 m3 q3 a3 n3 c3 l3)],rfl,((T3.out.one rfl y3).row (by omega)).le (by omega),steps_setRow (sal C3.out.st _) (Nat.le_refl _) _⟩
      · have BR:=setRow_heap (w4.alloc (.cells #[.int .i64 o3,.int .i64 m3,.int .i64 q3,.slice a3 n3 c3,.int .i64 o4,.int .i64 m4,.int .i64 q4,.slice a4 n4 c4] 24)) w.heap.size _ #[.int .i64 9,.int .i64 0,.int .i64 0,.slice (some ⟨w4.heap.size,0,none⟩) 2 2] _ _ (C4.out.res.alloc _)
        refine bodyPost_ret (results_cell_row rfl _ _ _ _ _ _ _ rfl BR Tryz.underlying24 rfl tmInfo) rfl ?_
        exact ⟨.mk 9 0 0 (some ⟨w4.heap.size,0,none⟩) 2 2 [(.mk o3 m3 q3 a3 n3 c3 l3),(.mk o4 m4 q4 a4 n4 c4 l4)],rfl,((KT.two (op:=9) T3'.out T4.out (by omega) (by omega)).row (by omega)).le (by omega),steps_setRow (sal C4.out.st _) (Nat.le_refl _) _⟩
      · have BR:=setRow_heap (w4.alloc (.cells #[.int .i64 o3,.int .i64 m3,.int .i64 q3,.slice a3 n3 c3,.int .i64 o4,.int .i64 m4,.int .i64 q4,.slice a4 n4 c4] 24)) w.heap.size _ #[.int .i64 10,.int .i64 0,.int .i64 0,.slice (some ⟨w4.heap.size,0,none⟩) 2 2] _ _ (C4.out.res.alloc _)
        refine bodyPost_ret (results_cell_row rfl _ _ _ _ _ _ _ rfl BR Tryz.underlying24 rfl tmInfo) rfl ?_
        exact ⟨.mk 10 0 0 (some ⟨w4.heap.size,0,none⟩) 2 2 [(.mk o3 m3 q3 a3 n3 c3 l3),(.mk o4 m4 q4 a4 n4 c4 l4)],rfl,((KT.two (op:=10) T3'.out T4.out (by omega) (by omega)).row (by omega)).le (by omega),steps_setRow (sal C4.out.st _) (Nat.le_refl _) _⟩
  case rest =>
  have C2:=Lib.hid hcut
  clear hcut HQ C1 IHH
  have yc:=C2.out.res.lt
  go_upto_block 1 with (first
    | (go_at_call 48;refine (range_any _ _ _ _ C2.out.st.now (by decide) (by decide) (by decide)).mono ?_;rintro e w5 ⟨r,r0,r1,rfl,hs5⟩;have C5:=Lib.hid (C2.out.step hs5);have y5:=hs5.size;clear hs5)
    | (refine st_new rfl 24 (.tmp 6) (.tmp 48) rfl #[.int .i64 r,.int .i64 0,.int .i64 0,.slice none 0 0] _ _ rfl rfl tmInfo rfl (tm_one _ _ _ _ _ _) ?_))
  obtain ⟨W6,hW6⟩ : ∃ W6,w5.alloc (.cells #[.int .i64 r,.int .i64 0,.int .i64 0,.slice none 0 0] 24) = W6:=⟨_,rfl⟩
  have D6 : RowKit.Hid (Blk W6 w5.heap.size 24 #[.int .i64 r,.int .i64 0,.int .i64 0,.slice none 0 0]):=by show Blk _ _ _ _;rw [← hW6];exact Blk.new _ _ _
  have C6 : RowKit.Hid (KtC b w W6):=by show KtC _ _ _;rw [← hW6];exact C5.out.alloc _
  rw [hW6]
  clear hW6
  have yg : w.heap.size < w5.heap.size:=by omega
  have NG : RowKit.Hid (w5.heap.size ≠ b):=by show _ ≠ _;have:=LT.out;omega
  go_cut [] (fun wx=>KtD b w5.heap.size w wx)
  case first =>
    have hr : r = 1∨r = 2∨r = 3∨r = 4∨r = 5∨r = 6∨r = 7∨r = 8:=by omega
    clear r0 r1
    rcases hr with rfl | rfl | rfl | rfl | rfl | rfl | rfl | rfl
    · go_wp2
      go_meet
      case rel=>exact ⟨C6.out,1,0,0,rfl,D6.out⟩
    · go_wp2_with (go_at_call 16;refine (next_any _ _ _ C6.out.st.now (by decide) (by decide)).mono ?_;rintro e w7 ⟨v,v0,v1,rfl,hs7⟩;have C7:=Lib.hid (C6.out.step hs7);have D7:=Lib.hid (D6.out.step hs7 NG.out);have z1 : w7.cell? ⟨w5.heap.size,1,none⟩ = some (.int .i64 0):=D7.out.cell 1;have z2 : w7.cell? ⟨w5.heap.size,2,none⟩ = some (.int .i64 0):=D7.out.cell 2;have f1:=D7.out.free 1;have f2:=D7.out.free 2;clear hs7)
      go_meet
      case rel=>exact ⟨C7.out.far _ _ _ yg,2,v,0,by simp [formB];omega,D7.out.put 1 _⟩
    · go_wp2_with (go_at_call 16;refine (next_any _ _ _ C6.out.st.now (by decide) (by decide)).mono ?_;rintro e w7 ⟨v,v0,v1,rfl,hs7⟩;have C7:=Lib.hid (C6.out.step hs7);have D7:=Lib.hid (D6.out.step hs7 NG.out);have z1 : w7.cell? ⟨w5.heap.size,1,none⟩ = some (.int .i64 0):=D7.out.cell 1;have z2 : w7.cell? ⟨w5.heap.size,2,none⟩ = some (.int .i64 0):=D7.out.cell 2;have f1:=D7.out.free 1;have f2:=D7.out.free 2;clear hs7)
      go_meet
      case rel=>exact ⟨C7.out.far _ _ _ yg,3,v,0,by simp [formB];omega,D7.out.put 1 _⟩
    · go_wp2_with (go_at_call 16;refine (next_any _ _ _ C6.out.st.now (by decide) (by decide)).mono ?_;rintro e w7 ⟨v,v0,v1,rfl,hs7⟩;have C7:=Lib.hid (C6.out.step hs7);have D7:=Lib.hid (D6.out.step hs7 NG.out);have z1 : w7.cell? ⟨w5.heap.size,1,none⟩ = some (.int .i64 0):=D7.out.cell 1;have z2 : w7.cell? ⟨w5.heap.size,2,none⟩ = some (.int .i64 0):=D7.out.cell 2;have f1:=D7.out.free 1;have f2:=D7.out.free 2;clear hs7;have hv : v = 0∨v = 1∨v = 2∨v = 3∨v = 4:=(by omega);clear v0 v1;rcases hv with rfl | rfl | rfl | rfl | rfl)
      all_goals go_meet
      all_goals (case rel=>exact ⟨C7.out.far _ _ _ yg,4,_,0,by decide,D7.out.put 1 _⟩)
    · go_wp2_with (go_at_call 16;refine (next_any _ _ _ C6.out.st.now (by decide) (by decide)).mono ?_;rintro e w7 ⟨v,v0,v1,rfl,hs7⟩;have C7:=Lib.hid (C6.out.step hs7);have D7:=Lib.hid (D6.out.step hs7 NG.out);have z1 : w7.cell? ⟨w5.heap.size,1,none⟩ = some (.int .i64 0):=D7.out.cell 1;have z2 : w7.cell? ⟨w5.heap.size,2,none⟩ = some (.int .i64 0):=D7.out.cell 2;have f1:=D7.out.free 1;have f2:=D7.out.free 2;clear hs7)
      go_meet
      case rel=>exact ⟨C7.out.far _ _ _ yg,5,v,0,by simp [formB];omega,D7.out.put 1 _⟩
    · go_wp2_with (go_at_call 48;refine (range_any _ _ _ _ C6.out.st.now (by decide) (by decide) (by decide)).mono ?_;rintro e w7 ⟨v,v0,v1,rfl,hs7⟩;have C7:=Lib.hid (C6.out.step hs7);have D7:=Lib.hid (D6.out.step hs7 NG.out);have z1 : w7.cell? ⟨w5.heap.size,1,none⟩ = some (.int .i64 0):=D7.out.cell 1;have z2 : w7.cell? ⟨w5.heap.size,2,none⟩ = some (.int .i64 0):=D7.out.cell 2;have f1:=D7.out.free 1;have f2:=D7.out.free 2;clear hs7)
      go_meet
      case rel=>exact ⟨C7.out.far _ _ _ yg,6,v,0,by simp [formB];omega,D7.out.put 1 _⟩
    · go_wp2_with fail
      go_region_held3 (fun w'=>True) (trivial) (first
        | (go_at_call 48;refine (range_any _ _ _ _ (by first | exact C6.out.st.now | exact C6.out.drew.st.now) (by decide) (by decide) (by decide)).mono ?_;rintro e w7 ⟨v,v0,v1,rfl,hs7⟩;have C7 : RowKit.Hid (KtC b w w7):=(by first | exact C6.out.step hs7 | exact C6.out.drew.step hs7);have D7 : RowKit.Hid (Blk w7 w5.heap.size 24 #[.int .i64 7,.int .i64 0,.int .i64 0,.slice none 0 0]):=(by first | exact D6.out.step hs7 NG.out | exact D6.out.drew.step hs7 NG.out);clear hs7)
        | (go_at_call 16;refine (next_any _ _ _ (by first | exact C7.out.st.now | exact C7.out.drew.st.now) (by decide) (by decide)).mono ?_;rintro e w8 ⟨x,x0,x1,rfl,hs8⟩;have C8 : RowKit.Hid (KtC b w w8):=(by first | exact C7.out.step hs8 | exact C7.out.drew.step hs8);have D8 : RowKit.Hid (Blk w8 w5.heap.size 24 #[.int .i64 7,.int .i64 0,.int .i64 0,.slice none 0 0]):=(by first | exact D7.out.step hs8 NG.out | exact D7.out.drew.step hs8 NG.out);have z1 : w8.cell? ⟨w5.heap.size,1,none⟩ = some (.int .i64 0):=D8.out.cell 1;have z2 : w8.cell? ⟨w5.heap.size,2,none⟩ = some (.int .i64 0):=D8.out.cell 2;have f1:=D8.out.free 1;have f2:=D8.out.free 2;clear hs8))
      all_goals go_wp2
      all_goals go_meet
      all_goals (case rel=>exact ⟨(C8.out.far _ _ _ yg).far _ _ _ yg,7,v,_,form_seven v0 v1 x0 x1,(D8.out.put 1 _).put 2 _⟩)
    · go_wp2_with (go_at_call 48;refine (range_any _ _ _ _ C6.out.st.now (by decide) (by decide) (by decide)).mono ?_;rintro e w7 ⟨v,v0,v1,rfl,hs7⟩;have C7:=Lib.hid (C6.out.step hs7);have D7:=Lib.hid (D6.out.step hs7 NG.out);have z1 : w7.cell? ⟨w5.heap.size,1,none⟩ = some (.int .i64 0):=D7.out.cell 1;have z2 : w7.cell? ⟨w5.heap.size,2,none⟩ = some (.int .i64 0):=D7.out.cell 2;have f1:=D7.out.free 1;have f2:=D7.out.free 2;clear hs7)
      go_meet
      case rel=>exact ⟨C7.out.far _ _ _ yg,8,v,0,by simp [formB];omega,D7.out.put 1 _⟩
  case rest =>
  obtain ⟨hc,op,num,more,hf,hb⟩:=hcut
  have C9:=Lib.hid hc;have D9:=Lib.hid hb;have HF:=Lib.hid hf
  clear hc hb hf C6 D6
  go_wp2_with (first
    | (refine wpList_load_row rfl 24 (.tmp 6) rfl w5.heap.size rfl _ #[.int .i64 op,.int .i64 num,.int .i64 more,.slice none 0 0] _ _ D9.out Tryz.underlying24 rfl tmInfo ?_)
    | (refine wpList_store_row rfl 24 (.tmp 4) (.tmp 86) rfl w.heap.size #[.int .i64 op,.int .i64 num,.int .i64 more,.slice none 0 0] rfl rfl _ _ C9.out.res tmInfo rfl (tm_one _ _ _ _ _ _) ?_))
  have BR:=setRow_heap wc w.heap.size _ #[.int .i64 op,.int .i64 num,.int .i64 more,.slice none 0 0] _ _ C9.out.res
  refine bodyPost_ret (results_cell_row rfl _ _ _ _ _ _ _ rfl BR Tryz.underlying24 rfl tmInfo) rfl ?_
  exact ⟨.mk op num more none 0 0 [],rfl,KT.leaf HF.out,steps_setRow C9.out.st (Nat.le_refl _) _⟩
set_option maxRecDepth 100000 in
set_option maxHeartbeats 8000000 in
theorem kterm_any (d : Nat) : ∀ (b : Nat) (w : World),Tape w b→d≤100 →
    Calls Tryz.prog 18 #[.pointer (some ⟨b,0,none⟩),.int .i64 d] w (KTP b d w):=by
  induction d with
  | zero =>
    intro b w hT hd
    exact kterm_step b 0 w hT hd (fun d' e=>by omega)
  | succ d ih =>
    intro b w hT hd
    exact kterm_step b (d + 1) w hT hd (fun d' e => by obtain rfl : d' = d := by omega
                                                       exact fun b w h=>ih b w h (by omega))
end Go.Proofs.YtancajcelmhnkaaGreatDoor
