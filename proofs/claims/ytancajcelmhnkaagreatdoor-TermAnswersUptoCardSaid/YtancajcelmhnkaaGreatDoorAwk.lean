/- awake: the example of the chapter,walked. -/
import Derived.Test.YtancajcelmhnkaaGreatDoorHd
set_option maxRecDepth 100000
set_option maxHeartbeats 8000000
namespace Go.Proofs.YtancajcelmhnkaaGreatDoor
open Go.RowKit Go.Sort Go.Shelf
set_option linter.unusedVariables false
set_option linter.unusedSimpArgs false
structure AwW (W:World) (gC gL g0 g1 gH:Nat):Prop where
 cr:Blk W gC 44 #[.string ⟨#[99,108,111,118,101,114]⟩,.int .i64 1,.int .i64 16,.string ⟨#[119,104,101,97,116]⟩,.int .i64 2,.int .i64 0]
 land:Blk W gL 87 #[.int .i64 0,.int .i64 0,.int .i64 3,.int .i64 1]
 r0:Blk W g0 87 #[.int .i64 0,.int .i64 0,.int .i64 1,.int .i64 1]
 r1:Blk W g1 87 #[.int .i64 1,.int .i64 0,.int .i64 2,.int .i64 1]
 hi:Blk W gH 47 #[.int .i64 0,.int .i64 0,.slice (some ⟨g0,0,none⟩) 1 1,.int .i64 0,.int .i64 1,.slice (some ⟨g1,0,none⟩) 1 1]
def awP (gC gL g0 g1 gH:Nat):PlM:=⟨1,0,0,0,0,⟨some ⟨gC,0,none⟩,2,2,awCr⟩,⟨some ⟨gH,0,none⟩,2,2,[⟨0,0,⟨some ⟨g0,0,none⟩,1,1,awR0⟩⟩,⟨0,1,⟨some ⟨g1,0,none⟩,1,1,awR1⟩⟩]⟩,⟨none,0,0,[]⟩,⟨some ⟨gL,0,none⟩,1,1,awLand⟩⟩
theorem aw_ok {W:World} {g:Nat} {q:Rc} (h:Blk W g 87 #[.int .i64 q.1,.int .i64 q.2.1,.int .i64 q.2.2.1,.int .i64 q.2.2.2]):ScOk2 W ⟨some ⟨g,0,none⟩,1,1,[q]⟩ :=
 ⟨⟨vw_blk h,rfl,(by decide:(1:Nat)≤100000)⟩,(fun e=>by cases e),fun _=>⟨g,0,_,_,rfl,h,by decide⟩⟩
section
variable {W:World} {gC gL g0 g1 gH:Nat}
theorem aw_rows {r:RcdM} (hr:r ∈ (awP gC gL g0 g1 gH).hi.l):r=⟨0,0,⟨some ⟨g0,0,none⟩,1,1,awR0⟩⟩∨r=⟨0,1,⟨some ⟨g1,0,none⟩,1,1,awR1⟩⟩:=by simpa [awP] using hr
theorem aw_crops {c:Crp} (hc:c ∈ awCr):c=⟨⟨#[99,108,111,118,101,114]⟩,1,16⟩∨c=⟨⟨#[119,104,101,97,116]⟩,2,0⟩:=by simpa [awCr] using hc
theorem AwW.plg (h:AwW W gC gL g0 g1 gH):PlG W (awP gC gL g0 g1 gH) where
 cr:=⟨vw_blk h.cr,rfl,(by decide:(2:Nat)≤40),fun e=>by cases e⟩
 hi:=⟨vw_blk h.hi,rfl,(by decide:(2:Nat)≤200),fun e=>by cases e⟩
 zo:=⟨(fun i v hi=>by simp [awP,cellsOf] at hi),rfl,Nat.zero_le _,fun _=>rfl⟩
 rc:=aw_ok h.land
 cat:={
  len:=(by decide:(2:Nat)≤40)
  name:=fun c hc=>by
   rcases aw_crops hc with rfl | rfl
   ·exact nameOk8 1 (by decide)
   ·exact nameOk8 7 (by decide)
  fam:=fun c hc=>by rcases aw_crops hc with rfl | rfl <;> decide
  asc:=fun m hm=>by
   have hm':m+1<2:=hm
   obtain rfl:m=0:=by omega
   exact ⟨by kernel_rfl,by kernel_rfl⟩ }
 his:=fun r hr=>by
  rcases aw_rows hr with rfl | rfl
  ·exact aw_ok h.r0
  ·exact aw_ok h.r1
 hgood:=fun _=>aw_sorted.good
 zos:=fun r hr=>by cases hr
 zgood:=layOk_nil.good
theorem aw_chk:chkT awT=0:=chkT_ok (by simp [awT,Tm.form_mk,formB,oneMark]) (by simp [awT,Tm.depth,Tm.depths]) (by simp [awT,Tm.size,Tm.sizes])
theorem awP_err:evErr (awP gC gL g0 g1 gH) awT=0:=by
 unfold evErr
 rw [if_neg (by rw [aw_chk];exact fun k=>k rfl),if_neg,if_neg,if_neg,if_neg,if_neg,if_neg,if_neg]
 ·exact fun k=>k vld_land
 ·exact fun k=>k ⟨(by decide:(0:Int)≤0),(by decide:(0:Int)≤36864)⟩
 ·rintro ⟨f,hf,_⟩;cases hf
 ·show ¬ ((1:Int)<0∨100<(1:Int));omega
 ·exact fun k=>k aw_sorted.sort
 ·rintro (k | ⟨r,hr,k⟩)
  ·have h3:(0:Int)<0∨((2:Nat):Int)≤0:=(wrongB_iff _ _).1 k
   omega
  ·have h3:r.crop<0∨((2:Nat):Int)≤r.crop:=(wrongB_iff _ _).1 k
   rcases aw_rows hr with rfl | rfl
   ·have h4:(0:Int)<0∨((2:Nat):Int)≤0:=h3
    omega
   ·have h4:(1:Int)<0∨((2:Nat):Int)≤1:=h3
    omega
 ·rintro ⟨c,hc,k⟩
  have hc':c ∈ awCr:=hc
  rcases aw_crops hc' with rfl | rfl <;> (revert k;decide)
theorem aw_board:Board awE.R:=fun x y k=>by have:=(awR_iff x y).1 k;omega
theorem aw_eval (h:AwW W gC gL g0 g1 gH) (tm:TmM) (ht:TmOk W tm) (hp:tm.pl=awT) :
  Calls Tryz.prog 20 #[.agg (encTm tm).toArray,.agg #[.int .i64 0,.slice (some ⟨gL,0,none⟩) 1 1,.int .i64 0,.int .i64 0],.int .i64 1,.slice (some ⟨gC,0,none⟩) 2 2,.slice (some ⟨gH,0,none⟩) 2 2,.slice none 0 0,.int .i64 0] W fun e w' =>
   ∃ y n o:Sc Rc,e=.returned (.tuple #[.agg #[.slice y.a y.n y.c,.slice n.a n.n n.c,.slice o.a o.n o.c],.int .i64 0])∧CanS w' (awE.ev awT).yes y∧CanS w' (awE.ev awT).no n∧CanS w' (awE.rest (awE.ev awT)) o∧Below W.heap.size W w'∧awE.Fine (awE.ev awT):=by
 refine (peval_any (awP gC gL g0 g1 gH) tm W h.plg ht aw_board).mono ?_
 rw [hp]
 rintro e w' (⟨k,-⟩ | ⟨-,y,n,o,rfl,k1,k2,k3,k4,k5⟩)
 ·exact absurd awP_err k
 ·exact ⟨y,n,o,rfl,k1,k2,k3,k4,k5⟩
theorem AwW.below {W':World} (h:AwW W gC gL g0 g1 gH) (hb:Below W.heap.size W W'):AwW W' gC gL g0 g1 gH:=⟨h.cr.below hb,h.land.below hb,h.r0.below hb,h.r1.below hb,h.hi.below hb⟩
theorem area_aw {y:Sc Rc} (h:CanS W (awE.ev awT).yes y) (hf:awE.Fine (awE.ev awT)):Calls Tryz.prog 24 #[.agg #[.slice y.a y.n y.c]] W fun e w'=>e=.returned (.int .i64 1)∧Below W.heap.size W w':=by
 have e:y.l=awR1:=h.can.uniq ((can_one1 (q:=(1,0,2,1)) (by decide) (by decide)).congr fun a b=>(aw_yes a b).symm)
 refine (areaS h fun a b k=>aw_board a b (hf.yes a b k)).mono ?_
 rw [e]
 exact fun e w' h=>h
theorem parse_aw {nb:Nat} (h:Blk W nb 9 (strCells (awWords++[⟨#[120]⟩])).toArray):Calls Tryz.prog 35 #[.slice (some ⟨nb,0,none⟩) 9 9] W (PrsP W awT [⟨#[120]⟩]):=by
 have e:(awT.words++([⟨#[120]⟩]:List ByteArray)).length=9:=by rw [awT_words];rfl
 have:=parse_any awT aw_chk [⟨#[120]⟩] nb 0 9 W (fun i s hi=>by
  rw [awT_words] at hi
  rw [Nat.zero_add,h.cell i,List.getElem?_toArray,List.getElem?_map,hi];rfl) (by omega) (by decide)
 rw [e] at this
 exact this
end
theorem awake_any (w:World):Calls Tryz.prog 10 #[] w fun e w'=>e=.returned (.bool true)∧Below w.heap.size w w':=by
 obtain ⟨W,hW⟩:∃ W,(w.alloc (.cells #[.string ⟨#[99,108,111,118,101,114]⟩,.int .i64 1,.int .i64 16,.string ⟨#[119,104,101,97,116]⟩,.int .i64 2,.int .i64 0] 44)).alloc (.cells #[.string ⟨#[97,110,100]⟩,.string ⟨#[40]⟩,.string ⟨#[109,97,114,107]⟩,.string ⟨#[108]⟩,.string ⟨#[110,111,116]⟩,.string ⟨#[115,97,109,101]⟩,.string ⟨#[50]⟩,.string ⟨#[41]⟩,.string ⟨#[120]⟩] 9)=W:=⟨_,rfl⟩
 have B1:RowKit.Hid (Blk W w.heap.size 44 #[.string ⟨#[99,108,111,118,101,114]⟩,.int .i64 1,.int .i64 16,.string ⟨#[119,104,101,97,116]⟩,.int .i64 2,.int .i64 0]):=by show Blk _ _ _ _;rw [← hW];exact (Blk.new w _ _).alloc _
 have B2:RowKit.Hid (Blk W (w.heap.size+1) 9 (strCells (awWords++[⟨#[120]⟩])).toArray):=by show Blk _ _ _ _;rw [← hW];exact Blk.fresh (by simp)
 have BB:RowKit.Hid (Below w.heap.size w W):=by show Below _ _ _;rw [← hW];exact Bw.out
 have HP:=hid (parse_aw B2.out)
 have yW:w.heap.size+1<W.heap.size:=B2.out.lt
 go_enter Tryz.func10,Tryz.ntmps10
 go_upto_region 5 with (first
  | (refine bs_two elCrp (by decide) rfl (.tmp 11) (.tmp 12) rfl [.string ⟨#[99,108,111,118,101,114]⟩,.int .i64 1,.int .i64 16] [.string ⟨#[119,104,101,97,116]⟩,.int .i64 2,.int .i64 0] rfl rfl rfl rfl ?_)
  | (go_at_call 35;refine HP.out.mono ?_;rintro e w2 ⟨⟨op,num,more,a,n,c,kids⟩,v,rfl,hpl,hok,hfr,ho,hb2⟩;obtain ⟨a3,c3,rfl,-,-,-⟩:=own_form ho;have HPL:=hid hpl;have OK2:=hid hok;have B2':=hid hb2;have y2:=hb2.size;dsimp only [encTm];clear hpl hok hfr ho hb2)
  | (refine st_new rfl 24 (.tmp 2) (.tmp 17) rfl #[.int .i64 op,.int .i64 num,.int .i64 more,.slice a n c] _ _ rfl rfl tmInfo rfl (tm_one _ _ _ _ _ _) ?_)
  | (refine bs_one elRc (by decide) rfl (.tmp 20) rfl #[.int .i64 0,.int .i64 0,.int .i64 3,.int .i64 1] rfl rfl ?_)
  | (refine bs_one elRc (by decide) rfl (.tmp 23) rfl #[.int .i64 0,.int .i64 0,.int .i64 1,.int .i64 1] rfl rfl ?_)
  | (refine bs_one elRc (by decide) rfl (.tmp 27) rfl #[.int .i64 1,.int .i64 0,.int .i64 2,.int .i64 1] rfl rfl ?_)
  | (refine bs_two elRd (by decide) rfl (.tmp 26) (.tmp 30) rfl [.int .i64 0,.int .i64 0,.slice (some ⟨w2.heap.size+ 1+1+1,0,none⟩) 1 1] [.int .i64 0,.int .i64 1,.slice (some ⟨w2.heap.size+ 1+1+1+1,0,none⟩) 1 1] rfl rfl rfl rfl ?_))
 obtain ⟨W5,hW5⟩:∃ W5,((((((w2.alloc (.cells #[.int .i64 op,.int .i64 num,.int .i64 more,.slice a n c] 24)).alloc (.cells #[.int .i64 0,.int .i64 0,.int .i64 3,.int .i64 1] 87)).alloc (.cells #[.slice (some ⟨w2.heap.size+1,0,none⟩) 1 1] 38)).alloc (.cells #[.int .i64 0,.int .i64 0,.int .i64 1,.int .i64 1] 87)).alloc (.cells #[.int .i64 1,.int .i64 0,.int .i64 2,.int .i64 1] 87)).alloc (.cells #[.int .i64 0,.int .i64 0,.slice (some ⟨w2.heap.size+1+1+1,0,none⟩) 1 1,.int .i64 0,.int .i64 1,.slice (some ⟨w2.heap.size+1+1+1+1,0,none⟩) 1 1] 47))=W5:=⟨_,rfl⟩
 have CT:RowKit.Hid (Blk W5 w2.heap.size 24 #[.int .i64 op,.int .i64 num,.int .i64 more,.slice a n c]):=by show Blk _ _ _ _;rw [← hW5];exact (((((Blk.new _ _ _).alloc _).alloc _).alloc _).alloc _).alloc _
 have CRg:RowKit.Hid (Blk W5 (w2.heap.size+1+1) 38 #[.slice (some ⟨w2.heap.size+1,0,none⟩) 1 1]):=by show Blk _ _ _ _;rw [← hW5];exact (((Blk.fresh (by simp)).alloc _).alloc _).alloc _
 have B25:RowKit.Hid (Below w2.heap.size w2 W5):=by show Below _ _ _;rw [← hW5];exact Bw.out
 have AW:RowKit.Hid (AwW W5 w.heap.size (w2.heap.size+1) (w2.heap.size+1+1+1) (w2.heap.size+1+1+1+1) (w2.heap.size+1+1+1+1+1)):=by
  refine ⟨(B1.out.below B2'.out).below B25.out,?_,?_,?_,?_⟩ <;> rw [← hW5]
  ·exact ((((Blk.fresh (by simp)).alloc _).alloc _).alloc _).alloc _
  ·exact ((Blk.fresh (by simp)).alloc _).alloc _
  ·exact (Blk.fresh (by simp)).alloc _
  ·exact Blk.fresh (by simp)
 have OK5:=hid (OK2.out.beh B25.out)
 have HE:=hid (aw_eval AW.out _ OK5.out HPL.out)
 have c0:W5.cell? ⟨w2.heap.size+1+1,0,none⟩=some (.slice (some ⟨w2.heap.size+1,0,none⟩) 1 1):=CRg.out.cell 0
 have yt:=CT.out.lt
 have BB5:=hid (btr (btr BB.out B2'.out) B25.out)
 rw [hW5]
 clear hW5 hW B1 B2 BB HP B25 CRg AW OK2 B2'
 go_wp2_with (first
  | (refine wpList_load_row rfl 24 (.tmp 2) rfl w2.heap.size rfl _ #[.int .i64 op,.int .i64 num,.int .i64 more,.slice a n c] _ _ CT.out Tryz.underlying24 rfl tmInfo ?_)
  | (go_at_call 20;refine HE.out.mono ?_;rintro e w6 ⟨⟨ya,yn,yc,yl⟩,⟨na,nn,nc,nl⟩,⟨oa,on,oc,ol⟩,rfl,hy,hn,ho,hb6,hf⟩;have HY:=hid hy;have HN:=hid hn;have HO:=hid ho;have HF:=hid hf;have B6:=hid hb6;have CT6:=hid (CT.out.below hb6);have y6:=hb6.size;clear hy hn ho hb6 hf)
  | (refine st_new rfl 55 (.tmp 7) (.tmp 39) rfl #[.slice ya yn yc,.slice na nn nc,.slice oa on oc] _ _ rfl rfl trInfo rfl (sq_one _ _ _ rfl rfl rfl) ?_)
  | (refine wpList_load_row rfl 24 (.tmp 2) rfl w2.heap.size rfl _ #[.int .i64 op,.int .i64 num,.int .i64 more,.slice a n c] _ _ (CT6.out.alloc _) Tryz.underlying24 rfl tmInfo ?_)
  | (go_at_call 34;refine (print_any (.mk op num more a n c kids) _ ((OK5.out.beh B6.out).beh Bw.out) (by rw [HPL.out];exact aw_chk)).mono ?_;rw [HPL.out,awT_words,awT_join];rintro e w8 ⟨rfl,hb8⟩;have TR8:=hid ((Blk.new w6 55 #[.slice ya yn yc,.slice na nn nc,.slice oa on oc]).below hb8);have B8:RowKit.Hid (Below w6.heap.size w6 w8):=btr Bw.out hb8;have t0:w8.cell? ⟨w6.heap.size,0,none⟩=some (.slice ya yn yc):=TR8.out.cell 0;have t1:w8.cell? ⟨w6.heap.size,1,none⟩=some (.slice na nn nc):=TR8.out.cell 1;have t2:w8.cell? ⟨w6.heap.size,2,none⟩=some (.slice oa on oc):=TR8.out.cell 2;clear hb8)
  | (go_at_call 24;refine (area_aw (HY.out.below B8.out) HF.out).mono ?_;rintro e w9 ⟨rfl,hb9⟩;have B9:=hid (btr B8.out hb9);have t0:=bc1 hb9 t0;have t1:=bc1 hb9 t1;have t2:=bc1 hb9 t2;clear hb9)
  | (go_at_call 47;have q:=hasYes (s:=⟨ya,yn,yc,yl⟩) (HY.out.below B9.out) (fun a b k=>aw_board a b (HF.out.yes a b k)) ((aw_yes 1 0).2 ((inRc_one _ _ _).2 (by decide)));(with_reducible refine q.mono ?_);clear q;rintro e w10 ⟨rfl,hb10⟩;have B10:=hid (btr B9.out hb10);have t1:=bc1 hb10 t1;have t2:=bc1 hb10 t2;clear hb10)
  | (go_at_call 47;have q:=hasYes (s:=⟨na,nn,nc,nl⟩) (HN.out.below B10.out) (fun a b k=>aw_board a b (HF.out.no a b k)) aw_no;(with_reducible refine q.mono ?_);clear q;rintro e w11 ⟨rfl,hb11⟩;have B11:=hid (btr B10.out hb11);have t2:=bc1 hb11 t2;clear hb11)
  | (go_at_call 47;have q:=hasYes (s:=⟨oa,on,oc,ol⟩) (HO.out.below B11.out) (fun a b k=>aw_board a b k.1) aw_open;(with_reducible refine q.mono ?_);clear q;rintro e w12 ⟨rfl,hb12⟩;have B12:=hid (btr B11.out hb12);clear hb12))
 go_ret
 exact ⟨rfl,btr BB5.out (btr B6.out B12.out)⟩
end Go.Proofs.YtancajcelmhnkaaGreatDoor
