/- ref16.place.eval at terms without kids,on. (Printed by gen4/rev.py.) -/
import Derived.Test.YtancajcelmhnkaaGreatDoorHp
set_option maxRecDepth 100000
set_option maxHeartbeats 8000000
namespace Go.Proofs.YtancajcelmhnkaaGreatDoor
open Go.RowKit Go.Sort Go.Shelf
set_option linter.unusedVariables false
set_option linter.unusedSimpArgs false
theorem reval_6 (year day par crop sch:Int) (ca:Option Addr) (cn cc:Nat) (cl:List Crp) (ha:Option Addr) (hn hc:Nat) (hl:List RcdM) (za:Option Addr) (zn zc:Nat) (zl:List FtrM) (ra:Option Addr) (rn rcc:Nat) (rl:List Rc) (num more:Int) (a:Option Addr) (n c:Nat) (w:World) (h:PlB w (PlM.mk year day par crop sch ⟨ca,cn,cc,cl⟩ ⟨ha,hn,hc,hl⟩ ⟨za,zn,zc,zl⟩ ⟨ra,rn,rcc,rl⟩)) (hD:(PlM.mk year day par crop sch ⟨ca,cn,cc,cl⟩ ⟨ha,hn,hc,hl⟩ ⟨za,zn,zc,zl⟩ ⟨ra,rn,rcc,rl⟩).env.Dis) (hfam:∀ c ∈ cl,0≤c.family) (n1:2≤num) (n2:num≤10) :
  Calls Tryz.prog 60 #[.agg #[.int .i64 par,.slice ra rn rcc,.int .i64 crop,.int .i64 sch,.int .i64 year,.slice ca cn cc,.slice ha hn hc,.slice za zn zc,.int .i64 day],.agg #[.int .i64 6,.int .i64 num,.int .i64 more,.slice a n c]] w (SqP w (PlM.mk year day par crop sch ⟨ca,cn,cc,cl⟩ ⟨ha,hn,hc,hl⟩ ⟨za,zn,zc,zl⟩ ⟨ra,rn,rcc,rl⟩).env ⟨fun x y=>(PlM.mk year day par crop sch ⟨ca,cn,cc,cl⟩ ⟨ha,hn,hc,hl⟩ ⟨za,zn,zc,zl⟩ ⟨ra,rn,rcc,rl⟩).env.R x y∧∀ n:Int,1≤n→n<num→(PlM.mk year day par crop sch ⟨ca,cn,cc,cl⟩ ⟨ha,hn,hc,hl⟩ ⟨za,zn,zc,zl⟩ ⟨ra,rn,rcc,rl⟩).env.known n (PlM.mk year day par crop sch ⟨ca,cn,cc,cl⟩ ⟨ha,hn,hc,hl⟩ ⟨za,zn,zc,zl⟩ ⟨ra,rn,rcc,rl⟩).env.kin x y,fun x y=>∃ n:Int,1≤n∧n<num∧(PlM.mk year day par crop sch ⟨ca,cn,cc,cl⟩ ⟨ha,hn,hc,hl⟩ ⟨za,zn,zc,zl⟩ ⟨ra,rn,rcc,rl⟩).env.known n (fun c=>!(PlM.mk year day par crop sch ⟨ca,cn,cc,cl⟩ ⟨ha,hn,hc,hl⟩ ⟨za,zn,zc,zl⟩ ⟨ra,rn,rcc,rl⟩).env.kin c) x y⟩):=by
 obtain ⟨kc,rfl⟩:∃ kc:Nat,crop=kc:=⟨crop.toNat,by have:=h.ok.crop.1;dsimp only at this;omega⟩
 have hkc:kc<cn:=by have:=h.ok.crop.2;dsimp only at this;omega
 obtain ⟨cb,co,rfl,hcb,hcr,hcm⟩:=crop_range h.ok.cr hkc
 have HCAT:=hid hcm
 have hye:=h.ok.year
 dsimp only at hye hcr
 obtain ⟨W,hW⟩:∃ W,((w.alloc (.cells #[.int .i64 par,.slice ra rn rcc,.int .i64 kc,.int .i64 sch,.int .i64 year,.slice (some ⟨cb,co,none⟩) cn cc,.slice ha hn hc,.slice za zn zc,.int .i64 day] 111)).alloc (.cells #[.int .i64 6,.int .i64 num,.int .i64 more,.slice a n c] 24)).alloc (.cells #[.slice none 0 0,.slice none 0 0,.slice none 0 0] 109)=W:=⟨_,rfl⟩
 obtain ⟨qc,hqc⟩:∃ qc,crpAt cl kc=qc:=⟨_,rfl⟩
 have HQC:=hid hqc
 rw [hqc] at hcr hcm
 clear hqc
 obtain ⟨nm,fa,mk⟩:=qc
 have HX:=hid (RvX.start w #[.int .i64 par,.slice ra rn rcc,.int .i64 kc,.int .i64 sch,.int .i64 year,.slice (some ⟨cb,co,none⟩) cn cc,.slice ha hn hc,.slice za zn zc,.int .i64 day] #[.int .i64 6,.int .i64 num,.int .i64 more,.slice a n c] #[.string nm,.int .i64 fa,.int .i64 mk])
 rw [hW] at HX
 have BBW:RowKit.Hid (Below w.heap.size w W):=by show Below _ _ _;rw [← hW];exact Bw.out
 have HRG:=hid (rangeAt_below hcr BBW.out)
 have y0:=HX.out.far
 obtain ⟨X,hX⟩:∃ X,W.alloc (.cells #[.string nm,.int .i64 fa,.int .i64 mk] 44)=X:=⟨_,rfl⟩
 rw [hX] at HX
 have W2:W.cell? ⟨w.heap.size,2,none⟩=some (.int .i64 kc):=by rw [← hW];exact (((Blk.new w 111 #[.int .i64 par,.slice ra rn rcc,.int .i64 kc,.int .i64 sch,.int .i64 year,.slice (some ⟨cb,co,none⟩) cn cc,.slice ha hn hc,.slice za zn zc,.int .i64 day]).alloc _).alloc _).cell 2
 have W5:W.cell? ⟨w.heap.size,5,none⟩=some (.slice (some ⟨cb,co,none⟩) cn cc):=by rw [← hW];exact (((Blk.new w 111 #[.int .i64 par,.slice ra rn rcc,.int .i64 kc,.int .i64 sch,.int .i64 year,.slice (some ⟨cb,co,none⟩) cn cc,.slice ha hn hc,.slice za zn zc,.int .i64 day]).alloc _).alloc _).cell 5
 have x0:X.cell? ⟨w.heap.size+1,0,none⟩=some (.int .i64 6):=HX.out.tm.cell 0
 have x1:X.cell? ⟨w.heap.size+1,1,none⟩=some (.int .i64 num):=HX.out.tm.cell 1
 have x2:X.cell? ⟨w.heap.size+1,2,none⟩=some (.int .i64 more):=HX.out.tm.cell 2
 have p1:X.cell? ⟨w.heap.size,1,none⟩=some (.slice ra rn rcc):=HX.out.pl.cell 1
 have p2:X.cell? ⟨w.heap.size,2,none⟩=some (.int .i64 kc):=HX.out.pl.cell 2
 have p4:X.cell? ⟨w.heap.size,4,none⟩=some (.int .i64 year):=HX.out.pl.cell 4
 have p5:X.cell? ⟨w.heap.size,5,none⟩=some (.slice (some ⟨cb,co,none⟩) cn cc):=HX.out.pl.cell 5
 have p6:X.cell? ⟨w.heap.size,6,none⟩=some (.slice ha hn hc):=HX.out.pl.cell 6
 have p7:X.cell? ⟨w.heap.size,7,none⟩=some (.slice za zn zc):=HX.out.pl.cell 7
 have p8:X.cell? ⟨w.heap.size,8,none⟩=some (.int .i64 day):=HX.out.pl.cell 8
 have q1:X.cell? ⟨W.heap.size,1,none⟩=some (.int .i64 fa):=HX.out.cp.cell 1
 have q2:X.cell? ⟨W.heap.size,2,none⟩=some (.int .i64 mk):=HX.out.cp.cell 2
 have i0:(0:Int)≤(kc:Int):=by omega
 have i1:(kc:Int)<(cn:Int):=by omega
 have HG:=hid (h.below HX.out.bl)
 have HSM:=hid (rplsame_any year day par kc sch (some ⟨cb,co,none⟩) cn cc cl ha hn hc hl za zn zc zl ra rn rcc rl num n1 n2 X HG.out hD hfam)
 clear hD hfam
 go_enter Tryz.func60,Tryz.ntmps60
 go_wp2_with (first
  | (refine wpList_load_mid rfl 44 (.tmp 20) rfl cb (co+kc * 3) rfl [.string nm,.int .i64 fa,.int .i64 mk] _ HRG.out Tryz.underlying44 rfl cpInfo ?_)
  | (refine st_new rfl 44 (.tmp 5) (.tmp 21) rfl #[.string nm,.int .i64 fa,.int .i64 mk] _ _ rfl rfl cpInfo rfl (cp_one _ _ _) ?_;(try rw [hX]))
  | (refine wpList_load_row rfl 111 (.tmp 2) rfl w.heap.size rfl _ #[.int .i64 par,.slice ra rn rcc,.int .i64 kc,.int .i64 sch,.int .i64 year,.slice (some ⟨cb,co,none⟩) cn cc,.slice ha hn hc,.slice za zn zc,.int .i64 day] _ _ HX.out.pl Tryz.underlying111 rfl rplInfo ?_)
  | (go_at_call 105;refine HSM.out.mono ?_;rintro e w1 ⟨⟨ya,yn,yc,yl⟩,⟨na,nn,nc,nl⟩,⟨oa,on,oc,ol⟩,rfl,h1,h2,h3,h4⟩;have Y1:=hid h1;have N1:=hid h2;have O1:=hid h3;have A1:=hid (HX.out.beh h4);clear h1 h2 h3 h4)
  | (refine wpList_store_row rfl 109 (.tmp 4) (.tmp 82) rfl (w.heap.size+1+1) #[.slice ya yn yc,.slice na nn nc,.slice oa on oc] rfl rfl _ _ A1.out.re tuInfo rfl (sq_one _ _ _ rfl rfl rfl) ?_))
 have BR:=setRow_heap w1 (w.heap.size+1+1) _ #[.slice ya yn yc,.slice na nn nc,.slice oa on oc] _ _ A1.out.re
 refine bodyPost_ret (results_cell_row rfl _ _ _ _ _ _ _ rfl BR Tryz.underlying109 rfl tuInfo) rfl ?_
 exact (sqP_row (y:=⟨ya,yn,yc,yl⟩) (n:=⟨na,nn,nc,nl⟩) (o:=⟨oa,on,oc,ol⟩) A1.out.re Y1.out N1.out O1.out A1.out.bl (by omega):SqP w _ _ _ _)
theorem reval_5 (year day par crop sch:Int) (ca:Option Addr) (cn cc:Nat) (cl:List Crp) (ha:Option Addr) (hn hc:Nat) (hl:List RcdM) (za:Option Addr) (zn zc:Nat) (zl:List FtrM) (ra:Option Addr) (rn rcc:Nat) (rl:List Rc) (num more:Int) (a:Option Addr) (n c:Nat) (w:World) (h:PlB w (PlM.mk year day par crop sch ⟨ca,cn,cc,cl⟩ ⟨ha,hn,hc,hl⟩ ⟨za,zn,zc,zl⟩ ⟨ra,rn,rcc,rl⟩)) :
  Calls Tryz.prog 60 #[.agg #[.int .i64 par,.slice ra rn rcc,.int .i64 crop,.int .i64 sch,.int .i64 year,.slice ca cn cc,.slice ha hn hc,.slice za zn zc,.int .i64 day],.agg #[.int .i64 5,.int .i64 num,.int .i64 more,.slice a n c]] w (SqP w (PlM.mk year day par crop sch ⟨ca,cn,cc,cl⟩ ⟨ha,hn,hc,hl⟩ ⟨za,zn,zc,zl⟩ ⟨ra,rn,rcc,rl⟩).env ⟨fun x y=>(PlM.mk year day par crop sch ⟨ca,cn,cc,cl⟩ ⟨ha,hn,hc,hl⟩ ⟨za,zn,zc,zl⟩ ⟨ra,rn,rcc,rl⟩).env.R x y∧(PlM.mk year day par crop sch ⟨ca,cn,cc,cl⟩ ⟨ha,hn,hc,hl⟩ ⟨za,zn,zc,zl⟩ ⟨ra,rn,rcc,rl⟩).env.zone num x y,fun x y=>(PlM.mk year day par crop sch ⟨ca,cn,cc,cl⟩ ⟨ha,hn,hc,hl⟩ ⟨za,zn,zc,zl⟩ ⟨ra,rn,rcc,rl⟩).env.R x y∧¬ (PlM.mk year day par crop sch ⟨ca,cn,cc,cl⟩ ⟨ha,hn,hc,hl⟩ ⟨za,zn,zc,zl⟩ ⟨ra,rn,rcc,rl⟩).env.zone num x y⟩):=by
 obtain ⟨kc,rfl⟩:∃ kc:Nat,crop=kc:=⟨crop.toNat,by have:=h.ok.crop.1;dsimp only at this;omega⟩
 have hkc:kc<cn:=by have:=h.ok.crop.2;dsimp only at this;omega
 obtain ⟨cb,co,rfl,hcb,hcr,hcm⟩:=crop_range h.ok.cr hkc
 have HCAT:=hid hcm
 have hye:=h.ok.year
 dsimp only at hye hcr
 obtain ⟨W,hW⟩:∃ W,((w.alloc (.cells #[.int .i64 par,.slice ra rn rcc,.int .i64 kc,.int .i64 sch,.int .i64 year,.slice (some ⟨cb,co,none⟩) cn cc,.slice ha hn hc,.slice za zn zc,.int .i64 day] 111)).alloc (.cells #[.int .i64 5,.int .i64 num,.int .i64 more,.slice a n c] 24)).alloc (.cells #[.slice none 0 0,.slice none 0 0,.slice none 0 0] 109)=W:=⟨_,rfl⟩
 obtain ⟨qc,hqc⟩:∃ qc,crpAt cl kc=qc:=⟨_,rfl⟩
 have HQC:=hid hqc
 rw [hqc] at hcr hcm
 clear hqc
 obtain ⟨nm,fa,mk⟩:=qc
 have HX:=hid (RvX.start w #[.int .i64 par,.slice ra rn rcc,.int .i64 kc,.int .i64 sch,.int .i64 year,.slice (some ⟨cb,co,none⟩) cn cc,.slice ha hn hc,.slice za zn zc,.int .i64 day] #[.int .i64 5,.int .i64 num,.int .i64 more,.slice a n c] #[.string nm,.int .i64 fa,.int .i64 mk])
 rw [hW] at HX
 have BBW:RowKit.Hid (Below w.heap.size w W):=by show Below _ _ _;rw [← hW];exact Bw.out
 have HRG:=hid (rangeAt_below hcr BBW.out)
 have y0:=HX.out.far
 obtain ⟨X,hX⟩:∃ X,W.alloc (.cells #[.string nm,.int .i64 fa,.int .i64 mk] 44)=X:=⟨_,rfl⟩
 rw [hX] at HX
 have W2:W.cell? ⟨w.heap.size,2,none⟩=some (.int .i64 kc):=by rw [← hW];exact (((Blk.new w 111 #[.int .i64 par,.slice ra rn rcc,.int .i64 kc,.int .i64 sch,.int .i64 year,.slice (some ⟨cb,co,none⟩) cn cc,.slice ha hn hc,.slice za zn zc,.int .i64 day]).alloc _).alloc _).cell 2
 have W5:W.cell? ⟨w.heap.size,5,none⟩=some (.slice (some ⟨cb,co,none⟩) cn cc):=by rw [← hW];exact (((Blk.new w 111 #[.int .i64 par,.slice ra rn rcc,.int .i64 kc,.int .i64 sch,.int .i64 year,.slice (some ⟨cb,co,none⟩) cn cc,.slice ha hn hc,.slice za zn zc,.int .i64 day]).alloc _).alloc _).cell 5
 have x0:X.cell? ⟨w.heap.size+1,0,none⟩=some (.int .i64 5):=HX.out.tm.cell 0
 have x1:X.cell? ⟨w.heap.size+1,1,none⟩=some (.int .i64 num):=HX.out.tm.cell 1
 have x2:X.cell? ⟨w.heap.size+1,2,none⟩=some (.int .i64 more):=HX.out.tm.cell 2
 have p1:X.cell? ⟨w.heap.size,1,none⟩=some (.slice ra rn rcc):=HX.out.pl.cell 1
 have p2:X.cell? ⟨w.heap.size,2,none⟩=some (.int .i64 kc):=HX.out.pl.cell 2
 have p4:X.cell? ⟨w.heap.size,4,none⟩=some (.int .i64 year):=HX.out.pl.cell 4
 have p5:X.cell? ⟨w.heap.size,5,none⟩=some (.slice (some ⟨cb,co,none⟩) cn cc):=HX.out.pl.cell 5
 have p6:X.cell? ⟨w.heap.size,6,none⟩=some (.slice ha hn hc):=HX.out.pl.cell 6
 have p7:X.cell? ⟨w.heap.size,7,none⟩=some (.slice za zn zc):=HX.out.pl.cell 7
 have p8:X.cell? ⟨w.heap.size,8,none⟩=some (.int .i64 day):=HX.out.pl.cell 8
 have q1:X.cell? ⟨W.heap.size,1,none⟩=some (.int .i64 fa):=HX.out.cp.cell 1
 have q2:X.cell? ⟨W.heap.size,2,none⟩=some (.int .i64 mk):=HX.out.cp.cell 2
 have i0:(0:Int)≤(kc:Int):=by omega
 have i1:(kc:Int)<(cn:Int):=by omega
 have HG:=hid (h.below HX.out.bl)
 have HZE:∀ x y,takeZ (fun r:FtrM=>r.s.l) (selF num day) zl x y↔(PlM.mk year day par kc sch ⟨some ⟨cb,co,none⟩,cn,cc,cl⟩ ⟨ha,hn,hc,hl⟩ ⟨za,zn,zc,zl⟩ ⟨ra,rn,rcc,rl⟩).env.zone num x y:=fun x y=>by
  unfold takeZ Env.zone selF
  constructor
  ·rintro ⟨r,hr,h1,h2⟩
   rw [Bool.and_eq_true] at h1
   have h3:=of_decide_eq_true h1.1
   exact ⟨r.pl,List.mem_map.2 ⟨r,hr,rfl⟩,h3.1,h3.2,of_decide_eq_true h1.2,h2⟩
  ·rintro ⟨r,hr,h1,h2,h3,h4⟩
   obtain ⟨s,hs,rfl⟩:=List.mem_map.1 hr
   exact ⟨s,hs,by rw [Bool.and_eq_true];exact ⟨decide_eq_true ⟨h1,h2⟩,decide_eq_true h3⟩,h4⟩
 have HSQ:=hid (rzones_any ⟨za,zn,zc,zl⟩ num day X HG.out.ok.zo HG.out.ok.zos HG.out.zc)
 (try dsimp only at HSQ)
 have E1:=hid fun x y=>(and_congr Iff.rfl (HZE x y):((PlM.mk year day par kc sch ⟨some ⟨cb,co,none⟩,cn,cc,cl⟩ ⟨ha,hn,hc,hl⟩ ⟨za,zn,zc,zl⟩ ⟨ra,rn,rcc,rl⟩).env.R x y∧takeZ (fun r:FtrM=>r.s.l) (selF num day) zl x y)↔_)
 have E2:=hid fun x y=>(⟨fun k=>⟨k.1,fun z=>k.2.2 ((HZE x y).2 z)⟩,fun k=>⟨k.1,k.1,fun z=>k.2 ((HZE x y).1 z)⟩⟩:((PlM.mk year day par kc sch ⟨some ⟨cb,co,none⟩,cn,cc,cl⟩ ⟨ha,hn,hc,hl⟩ ⟨za,zn,zc,zl⟩ ⟨ra,rn,rcc,rl⟩).env.R x y∧(PlM.mk year day par kc sch ⟨some ⟨cb,co,none⟩,cn,cc,cl⟩ ⟨ha,hn,hc,hl⟩ ⟨za,zn,zc,zl⟩ ⟨ra,rn,rcc,rl⟩).env.R x y∧¬ takeZ (fun r:FtrM=>r.s.l) (selF num day) zl x y)↔((PlM.mk year day par kc sch ⟨some ⟨cb,co,none⟩,cn,cc,cl⟩ ⟨ha,hn,hc,hl⟩ ⟨za,zn,zc,zl⟩ ⟨ra,rn,rcc,rl⟩).env.R x y∧¬ (PlM.mk year day par kc sch ⟨some ⟨cb,co,none⟩,cn,cc,cl⟩ ⟨ha,hn,hc,hl⟩ ⟨za,zn,zc,zl⟩ ⟨ra,rn,rcc,rl⟩).env.zone num x y))
 clear HZE
 go_enter Tryz.func60,Tryz.ntmps60
 go_upto_region 13 with (first
  | (refine wpList_load_mid rfl 44 (.tmp 20) rfl cb (co+kc * 3) rfl [.string nm,.int .i64 fa,.int .i64 mk] _ HRG.out Tryz.underlying44 rfl cpInfo ?_)
  | (refine st_new rfl 44 (.tmp 5) (.tmp 21) rfl #[.string nm,.int .i64 fa,.int .i64 mk] _ _ rfl rfl cpInfo rfl (cp_one _ _ _) ?_;(try rw [hX]))
  | (go_at_call 103;(with_reducible refine HSQ.out.mono ?_);rintro e w1 ⟨⟨ta,tn,tc,tl⟩,rfl,h1,h2,h3,-⟩;have Z1:=hid h1;have X1:=hid (HX.out.beh h2);have G1:=hid (HG.out.below h2);clear h1 h2 h3 HSQ HX HG p1 p2 p4 p5 p6 p7 p8 q1 q2 x0 x1 x2))
 have HN:=hid fun W' (hW':Below w1.heap.size w1 W')=>notS (G1.out.rcs.below hW') (Z1.out.below hW') G1.out.rb
 have HPT:=hid fun (s:Sc Rc) (N:Sq) W' (hW':Below w1.heap.size w1 W')=>rpart_any year day par kc sch (some ⟨cb,co,none⟩) cn cc cl ha hn hc hl za zn zc zl ra rn rcc rl ⟨ta,tn,tc,tl⟩ s (takeZ (fun r:FtrM=>r.s.l) (selF num day) zl) N W' (G1.out.rcs.below hW') G1.out.rb (Z1.out.below hW')
 (try dsimp only at HN HPT)
 have P0:RowKit.Hid (Cells9 w1 w.heap.size (.int .i64 par) (.slice ra rn rcc) (.int .i64 kc) (.int .i64 sch) (.int .i64 year) (.slice (some ⟨cb,co,none⟩) cn cc) (.slice ha hn hc) (.slice za zn zc) (.int .i64 day)):=X1.out.pl.cells9
 go_region_held3 (fun w'=>w'.cell? ⟨w.heap.size,0,none⟩=some (.int .i64 par)∧w'.cell? ⟨w.heap.size,1,none⟩=some (.slice ra rn rcc)∧w'.cell? ⟨w.heap.size,2,none⟩=some (.int .i64 kc)∧w'.cell? ⟨w.heap.size,3,none⟩=some (.int .i64 sch)∧w'.cell? ⟨w.heap.size,4,none⟩=some (.int .i64 year)∧w'.cell? ⟨w.heap.size,5,none⟩=some (.slice (some ⟨cb,co,none⟩) cn cc)∧w'.cell? ⟨w.heap.size,6,none⟩=some (.slice ha hn hc)∧w'.cell? ⟨w.heap.size,7,none⟩=some (.slice za zn zc)∧w'.cell? ⟨w.heap.size,8,none⟩=some (.int .i64 day)) (first | exact P0.out | exact P1.out | exact P2.out | exact P2.out.far3 (by omega) | simp [go_sem, *])
  (first
   | (go_at_call 62;(with_reducible refine (HN.out _ Bw.out).mono ?_);rintro e w3 ⟨⟨ua,un,uc,ul⟩,rfl,h1,h2,h3,-⟩;have U3:=hid h1;have V3:RowKit.Hid (Below w1.heap.size w1 w3):=btr Bw.out h2;have P1:=hid (P0.out.below V3.out);clear h1 h2 h3)
   | (go_at_call 104;refine (HPT.out ⟨ua,un,uc,ul⟩ _ _ (btr V3.out Bw.out) (U3.out.below Bw.out)).mono ?_;rintro e w4 ⟨⟨ya,yn,yc,yl⟩,⟨na,nn,nc,nl⟩,⟨oa,on,oc,ol⟩,rfl,h1,h2,h3,h4⟩;have Y1:=hid h1;have N1:=hid h2;have O1:=hid h3;have V4:RowKit.Hid (Below w1.heap.size w1 w4):=btr V3.out (btr Bw.out h4);have P2:=hid (P0.out.below V4.out);have A1:=hid (X1.out.beh V4.out);obtain ⟨⟨z0,z1,z2⟩,⟨f0,f1,f2⟩,zlt⟩:=A1.out.re.at3;clear h1 h2 h3 h4))
 all_goals
  go_wp2
  refine bodyPost_ret (results_cell_row rfl _ _ (w.heap.size+1+1) _ #[.slice ya yn yc,.slice na nn nc,.slice oa on oc] _ _ rfl (Blk.put3 A1.out.re rfl) Tryz.underlying109 rfl tuInfo) rfl ?_
  exact (sqP_set3 (y:=⟨ya,yn,yc,yl⟩) (n:=⟨na,nn,nc,nl⟩) (o:=⟨oa,on,oc,ol⟩) A1.out.re Y1.out N1.out O1.out A1.out.bl (by omega):SqP w _ ⟨fun x y=>(PlM.mk year day par kc sch ⟨some ⟨cb,co,none⟩,cn,cc,cl⟩ ⟨ha,hn,hc,hl⟩ ⟨za,zn,zc,zl⟩ ⟨ra,rn,rcc,rl⟩).env.R x y∧takeZ (fun r:FtrM=>r.s.l) (selF num day) zl x y,fun x y=>(PlM.mk year day par kc sch ⟨some ⟨cb,co,none⟩,cn,cc,cl⟩ ⟨ha,hn,hc,hl⟩ ⟨za,zn,zc,zl⟩ ⟨ra,rn,rcc,rl⟩).env.R x y∧(PlM.mk year day par kc sch ⟨some ⟨cb,co,none⟩,cn,cc,cl⟩ ⟨ha,hn,hc,hl⟩ ⟨za,zn,zc,zl⟩ ⟨ra,rn,rcc,rl⟩).env.R x y∧¬ takeZ (fun r:FtrM=>r.s.l) (selF num day) zl x y⟩ _ _).congr E1.out E2.out
theorem reval_8 (year day par crop sch:Int) (ca:Option Addr) (cn cc:Nat) (cl:List Crp) (ha:Option Addr) (hn hc:Nat) (hl:List RcdM) (za:Option Addr) (zn zc:Nat) (zl:List FtrM) (ra:Option Addr) (rn rcc:Nat) (rl:List Rc) (num more:Int) (a:Option Addr) (n c:Nat) (w:World) (h:PlB w (PlM.mk year day par crop sch ⟨ca,cn,cc,cl⟩ ⟨ha,hn,hc,hl⟩ ⟨za,zn,zc,zl⟩ ⟨ra,rn,rcc,rl⟩)) (n1:1≤num) (n2:num≤10) :
  Calls Tryz.prog 60 #[.agg #[.int .i64 par,.slice ra rn rcc,.int .i64 crop,.int .i64 sch,.int .i64 year,.slice ca cn cc,.slice ha hn hc,.slice za zn zc,.int .i64 day],.agg #[.int .i64 8,.int .i64 num,.int .i64 more,.slice a n c]] w (SqP w (PlM.mk year day par crop sch ⟨ca,cn,cc,cl⟩ ⟨ha,hn,hc,hl⟩ ⟨za,zn,zc,zl⟩ ⟨ra,rn,rcc,rl⟩).env ⟨(PlM.mk year day par crop sch ⟨ca,cn,cc,cl⟩ ⟨ha,hn,hc,hl⟩ ⟨za,zn,zc,zl⟩ ⟨ra,rn,rcc,rl⟩).env.known num (fun _=>true),fun x y=>(PlM.mk year day par crop sch ⟨ca,cn,cc,cl⟩ ⟨ha,hn,hc,hl⟩ ⟨za,zn,zc,zl⟩ ⟨ra,rn,rcc,rl⟩).env.R x y∧¬ (PlM.mk year day par crop sch ⟨ca,cn,cc,cl⟩ ⟨ha,hn,hc,hl⟩ ⟨za,zn,zc,zl⟩ ⟨ra,rn,rcc,rl⟩).env.known num (fun _=>true) x y⟩):=by
 obtain ⟨kc,rfl⟩:∃ kc:Nat,crop=kc:=⟨crop.toNat,by have:=h.ok.crop.1;dsimp only at this;omega⟩
 have hkc:kc<cn:=by have:=h.ok.crop.2;dsimp only at this;omega
 obtain ⟨cb,co,rfl,hcb,hcr,hcm⟩:=crop_range h.ok.cr hkc
 have HCAT:=hid hcm
 have hye:=h.ok.year
 dsimp only at hye hcr
 obtain ⟨W,hW⟩:∃ W,((w.alloc (.cells #[.int .i64 par,.slice ra rn rcc,.int .i64 kc,.int .i64 sch,.int .i64 year,.slice (some ⟨cb,co,none⟩) cn cc,.slice ha hn hc,.slice za zn zc,.int .i64 day] 111)).alloc (.cells #[.int .i64 8,.int .i64 num,.int .i64 more,.slice a n c] 24)).alloc (.cells #[.slice none 0 0,.slice none 0 0,.slice none 0 0] 109)=W:=⟨_,rfl⟩
 obtain ⟨qc,hqc⟩:∃ qc,crpAt cl kc=qc:=⟨_,rfl⟩
 have HQC:=hid hqc
 rw [hqc] at hcr hcm
 clear hqc
 obtain ⟨nm,fa,mk⟩:=qc
 have HX:=hid (RvX.start w #[.int .i64 par,.slice ra rn rcc,.int .i64 kc,.int .i64 sch,.int .i64 year,.slice (some ⟨cb,co,none⟩) cn cc,.slice ha hn hc,.slice za zn zc,.int .i64 day] #[.int .i64 8,.int .i64 num,.int .i64 more,.slice a n c] #[.string nm,.int .i64 fa,.int .i64 mk])
 rw [hW] at HX
 have BBW:RowKit.Hid (Below w.heap.size w W):=by show Below _ _ _;rw [← hW];exact Bw.out
 have HRG:=hid (rangeAt_below hcr BBW.out)
 have y0:=HX.out.far
 obtain ⟨X,hX⟩:∃ X,W.alloc (.cells #[.string nm,.int .i64 fa,.int .i64 mk] 44)=X:=⟨_,rfl⟩
 rw [hX] at HX
 have W2:W.cell? ⟨w.heap.size,2,none⟩=some (.int .i64 kc):=by rw [← hW];exact (((Blk.new w 111 #[.int .i64 par,.slice ra rn rcc,.int .i64 kc,.int .i64 sch,.int .i64 year,.slice (some ⟨cb,co,none⟩) cn cc,.slice ha hn hc,.slice za zn zc,.int .i64 day]).alloc _).alloc _).cell 2
 have W5:W.cell? ⟨w.heap.size,5,none⟩=some (.slice (some ⟨cb,co,none⟩) cn cc):=by rw [← hW];exact (((Blk.new w 111 #[.int .i64 par,.slice ra rn rcc,.int .i64 kc,.int .i64 sch,.int .i64 year,.slice (some ⟨cb,co,none⟩) cn cc,.slice ha hn hc,.slice za zn zc,.int .i64 day]).alloc _).alloc _).cell 5
 have x0:X.cell? ⟨w.heap.size+1,0,none⟩=some (.int .i64 8):=HX.out.tm.cell 0
 have x1:X.cell? ⟨w.heap.size+1,1,none⟩=some (.int .i64 num):=HX.out.tm.cell 1
 have x2:X.cell? ⟨w.heap.size+1,2,none⟩=some (.int .i64 more):=HX.out.tm.cell 2
 have p1:X.cell? ⟨w.heap.size,1,none⟩=some (.slice ra rn rcc):=HX.out.pl.cell 1
 have p2:X.cell? ⟨w.heap.size,2,none⟩=some (.int .i64 kc):=HX.out.pl.cell 2
 have p4:X.cell? ⟨w.heap.size,4,none⟩=some (.int .i64 year):=HX.out.pl.cell 4
 have p5:X.cell? ⟨w.heap.size,5,none⟩=some (.slice (some ⟨cb,co,none⟩) cn cc):=HX.out.pl.cell 5
 have p6:X.cell? ⟨w.heap.size,6,none⟩=some (.slice ha hn hc):=HX.out.pl.cell 6
 have p7:X.cell? ⟨w.heap.size,7,none⟩=some (.slice za zn zc):=HX.out.pl.cell 7
 have p8:X.cell? ⟨w.heap.size,8,none⟩=some (.int .i64 day):=HX.out.pl.cell 8
 have q1:X.cell? ⟨W.heap.size,1,none⟩=some (.int .i64 fa):=HX.out.cp.cell 1
 have q2:X.cell? ⟨W.heap.size,2,none⟩=some (.int .i64 mk):=HX.out.cp.cell 2
 have i0:(0:Int)≤(kc:Int):=by omega
 have i1:(kc:Int)<(cn:Int):=by omega
 have HG:=hid (h.below HX.out.bl)
 obtain ⟨ky,hky⟩:∃ ky,year - num=ky:=⟨_,rfl⟩
 have HSQ:=hid fun (m:Int) W' (hW':Below X.heap.size X W')=>rsquares_any ⟨ha,hn,hc,hl⟩ ⟨some ⟨cb,co,none⟩,cn,cc,cl⟩ ky (-1) m W' (HG.out.ok.hi.below hW') (HG.out.ok.cr.below hW') (fun r hr=>⟨(HG.out.ok.his r hr).1.below hW',(HG.out.ok.his r hr).2⟩) HG.out.hc
 (try dsimp only at HSQ)
 have hq2:IntKind.i64.wrap (year - num)=ky:=by rw [IntWalk.i64_in _ (by omega)];exact hky
 have HTA:=hid fun x y=>take_any (PlM.mk year day par kc sch ⟨some ⟨cb,co,none⟩,cn,cc,cl⟩ ⟨ha,hn,hc,hl⟩ ⟨za,zn,zc,zl⟩ ⟨ra,rn,rcc,rl⟩) num x y
 (try dsimp only at HTA)
 rw [hky] at HTA
 have E1:=hid fun x y=>(and_congr Iff.rfl (HTA.out x y):((PlM.mk year day par kc sch ⟨some ⟨cb,co,none⟩,cn,cc,cl⟩ ⟨ha,hn,hc,hl⟩ ⟨za,zn,zc,zl⟩ ⟨ra,rn,rcc,rl⟩).env.R x y∧takeZ (fun r:RcdM=>r.s.l) (selR cl ky (-1) 0) hl x y)↔(PlM.mk year day par kc sch ⟨some ⟨cb,co,none⟩,cn,cc,cl⟩ ⟨ha,hn,hc,hl⟩ ⟨za,zn,zc,zl⟩ ⟨ra,rn,rcc,rl⟩).env.known num (fun _=>true) x y)
 have E2:=hid fun x y=>(⟨fun k=>⟨k.1,fun z=>k.2.2 ((HTA.out x y).2 z.2)⟩,fun k=>⟨k.1,k.1,fun z=>k.2 ⟨k.1,(HTA.out x y).1 z⟩⟩⟩:((PlM.mk year day par kc sch ⟨some ⟨cb,co,none⟩,cn,cc,cl⟩ ⟨ha,hn,hc,hl⟩ ⟨za,zn,zc,zl⟩ ⟨ra,rn,rcc,rl⟩).env.R x y∧(PlM.mk year day par kc sch ⟨some ⟨cb,co,none⟩,cn,cc,cl⟩ ⟨ha,hn,hc,hl⟩ ⟨za,zn,zc,zl⟩ ⟨ra,rn,rcc,rl⟩).env.R x y∧¬ takeZ (fun r:RcdM=>r.s.l) (selR cl ky (-1) 0) hl x y)↔((PlM.mk year day par kc sch ⟨some ⟨cb,co,none⟩,cn,cc,cl⟩ ⟨ha,hn,hc,hl⟩ ⟨za,zn,zc,zl⟩ ⟨ra,rn,rcc,rl⟩).env.R x y∧¬ (PlM.mk year day par kc sch ⟨some ⟨cb,co,none⟩,cn,cc,cl⟩ ⟨ha,hn,hc,hl⟩ ⟨za,zn,zc,zl⟩ ⟨ra,rn,rcc,rl⟩).env.known num (fun _=>true) x y))
 clear HTA
 have HKY:=hid hky
 go_enter Tryz.func60,Tryz.ntmps60
 go_upto_region 22 with (first
  | (refine wpList_load_mid rfl 44 (.tmp 20) rfl cb (co+kc * 3) rfl [.string nm,.int .i64 fa,.int .i64 mk] _ HRG.out Tryz.underlying44 rfl cpInfo ?_)
  | (refine st_new rfl 44 (.tmp 5) (.tmp 21) rfl #[.string nm,.int .i64 fa,.int .i64 mk] _ _ rfl rfl cpInfo rfl (cp_one _ _ _) ?_;(try rw [hX]))
  | (go_at_call 65;(try rw [hky]);(with_reducible refine (HSQ.out 0 X (Below.refl _ _)).mono ?_);rintro e w1 ⟨⟨ta,tn,tc,tl⟩,rfl,h1,h2,h3,-⟩;have Z1:=hid h1;have X1:=hid (HX.out.beh h2);have G1:=hid (HG.out.below h2);clear h1 h2 h3 HSQ HX HG p1 p2 p4 p5 p6 p7 p8 q1 q2 x0 x1 x2))
 have HN:=hid fun W' (hW':Below w1.heap.size w1 W')=>notS (G1.out.rcs.below hW') (Z1.out.below hW') G1.out.rb
 have HPT:=hid fun (s:Sc Rc) (N:Sq) W' (hW':Below w1.heap.size w1 W')=>rpart_any year day par kc sch (some ⟨cb,co,none⟩) cn cc cl ha hn hc hl za zn zc zl ra rn rcc rl ⟨ta,tn,tc,tl⟩ s (takeZ (fun r:RcdM=>r.s.l) (selR cl ky (-1) 0) hl) N W' (G1.out.rcs.below hW') G1.out.rb (Z1.out.below hW')
 (try dsimp only at HN HPT)
 have P0:RowKit.Hid (Cells9 w1 w.heap.size (.int .i64 par) (.slice ra rn rcc) (.int .i64 kc) (.int .i64 sch) (.int .i64 year) (.slice (some ⟨cb,co,none⟩) cn cc) (.slice ha hn hc) (.slice za zn zc) (.int .i64 day)):=X1.out.pl.cells9
 go_region_held3 (fun w'=>w'.cell? ⟨w.heap.size,0,none⟩=some (.int .i64 par)∧w'.cell? ⟨w.heap.size,1,none⟩=some (.slice ra rn rcc)∧w'.cell? ⟨w.heap.size,2,none⟩=some (.int .i64 kc)∧w'.cell? ⟨w.heap.size,3,none⟩=some (.int .i64 sch)∧w'.cell? ⟨w.heap.size,4,none⟩=some (.int .i64 year)∧w'.cell? ⟨w.heap.size,5,none⟩=some (.slice (some ⟨cb,co,none⟩) cn cc)∧w'.cell? ⟨w.heap.size,6,none⟩=some (.slice ha hn hc)∧w'.cell? ⟨w.heap.size,7,none⟩=some (.slice za zn zc)∧w'.cell? ⟨w.heap.size,8,none⟩=some (.int .i64 day)) (first | exact P0.out | exact P1.out | exact P2.out | exact P2.out.far3 (by omega) | simp [go_sem, *])
  (first
   | (go_at_call 62;(with_reducible refine (HN.out _ Bw.out).mono ?_);rintro e w3 ⟨⟨ua,un,uc,ul⟩,rfl,h1,h2,h3,-⟩;have U3:=hid h1;have V3:RowKit.Hid (Below w1.heap.size w1 w3):=btr Bw.out h2;have P1:=hid (P0.out.below V3.out);clear h1 h2 h3)
   | (go_at_call 104;refine (HPT.out ⟨ua,un,uc,ul⟩ _ _ (btr V3.out Bw.out) (U3.out.below Bw.out)).mono ?_;rintro e w4 ⟨⟨ya,yn,yc,yl⟩,⟨na,nn,nc,nl⟩,⟨oa,on,oc,ol⟩,rfl,h1,h2,h3,h4⟩;have Y1:=hid h1;have N1:=hid h2;have O1:=hid h3;have V4:RowKit.Hid (Below w1.heap.size w1 w4):=btr V3.out (btr Bw.out h4);have P2:=hid (P0.out.below V4.out);have A1:=hid (X1.out.beh V4.out);obtain ⟨⟨z0,z1,z2⟩,⟨f0,f1,f2⟩,zlt⟩:=A1.out.re.at3;clear h1 h2 h3 h4))
 all_goals
  go_wp2
  refine bodyPost_ret (results_cell_row rfl _ _ (w.heap.size+1+1) _ #[.slice ya yn yc,.slice na nn nc,.slice oa on oc] _ _ rfl (Blk.put3 A1.out.re rfl) Tryz.underlying109 rfl tuInfo) rfl ?_
  exact (sqP_set3 (y:=⟨ya,yn,yc,yl⟩) (n:=⟨na,nn,nc,nl⟩) (o:=⟨oa,on,oc,ol⟩) A1.out.re Y1.out N1.out O1.out A1.out.bl (by omega):SqP w _ ⟨fun x y=>(PlM.mk year day par kc sch ⟨some ⟨cb,co,none⟩,cn,cc,cl⟩ ⟨ha,hn,hc,hl⟩ ⟨za,zn,zc,zl⟩ ⟨ra,rn,rcc,rl⟩).env.R x y∧takeZ (fun r:RcdM=>r.s.l) (selR cl ky (-1) 0) hl x y,fun x y=>(PlM.mk year day par kc sch ⟨some ⟨cb,co,none⟩,cn,cc,cl⟩ ⟨ha,hn,hc,hl⟩ ⟨za,zn,zc,zl⟩ ⟨ra,rn,rcc,rl⟩).env.R x y∧(PlM.mk year day par kc sch ⟨some ⟨cb,co,none⟩,cn,cc,cl⟩ ⟨ha,hn,hc,hl⟩ ⟨za,zn,zc,zl⟩ ⟨ra,rn,rcc,rl⟩).env.R x y∧¬ takeZ (fun r:RcdM=>r.s.l) (selR cl ky (-1) 0) hl x y⟩ _ _).congr E1.out E2.out
theorem reval_7 (year day par crop sch:Int) (ca:Option Addr) (cn cc:Nat) (cl:List Crp) (ha:Option Addr) (hn hc:Nat) (hl:List RcdM) (za:Option Addr) (zn zc:Nat) (zl:List FtrM) (ra:Option Addr) (rn rcc:Nat) (rl:List Rc) (num more:Int) (a:Option Addr) (n c:Nat) (w:World) (h:PlB w (PlM.mk year day par crop sch ⟨ca,cn,cc,cl⟩ ⟨ha,hn,hc,hl⟩ ⟨za,zn,zc,zl⟩ ⟨ra,rn,rcc,rl⟩)) (hD:(PlM.mk year day par crop sch ⟨ca,cn,cc,cl⟩ ⟨ha,hn,hc,hl⟩ ⟨za,zn,zc,zl⟩ ⟨ra,rn,rcc,rl⟩).env.Dis) (n1:1≤num) (n2:num≤10) (hm:oneMark more=true) :
  Calls Tryz.prog 60 #[.agg #[.int .i64 par,.slice ra rn rcc,.int .i64 crop,.int .i64 sch,.int .i64 year,.slice ca cn cc,.slice ha hn hc,.slice za zn zc,.int .i64 day],.agg #[.int .i64 7,.int .i64 num,.int .i64 more,.slice a n c]] w (SqP w (PlM.mk year day par crop sch ⟨ca,cn,cc,cl⟩ ⟨ha,hn,hc,hl⟩ ⟨za,zn,zc,zl⟩ ⟨ra,rn,rcc,rl⟩).env ⟨(PlM.mk year day par crop sch ⟨ca,cn,cc,cl⟩ ⟨ha,hn,hc,hl⟩ ⟨za,zn,zc,zl⟩ ⟨ra,rn,rcc,rl⟩).env.known num (fun c=>hasMark cl c more),(PlM.mk year day par crop sch ⟨ca,cn,cc,cl⟩ ⟨ha,hn,hc,hl⟩ ⟨za,zn,zc,zl⟩ ⟨ra,rn,rcc,rl⟩).env.known num (fun c=>!hasMark cl c more)⟩):=by
 obtain ⟨kc,rfl⟩:∃ kc:Nat,crop=kc:=⟨crop.toNat,by have:=h.ok.crop.1;dsimp only at this;omega⟩
 have hkc:kc<cn:=by have:=h.ok.crop.2;dsimp only at this;omega
 obtain ⟨cb,co,rfl,hcb,hcr,hcm⟩:=crop_range h.ok.cr hkc
 have HCAT:=hid hcm
 have hye:=h.ok.year
 dsimp only at hye hcr
 obtain ⟨W,hW⟩:∃ W,((w.alloc (.cells #[.int .i64 par,.slice ra rn rcc,.int .i64 kc,.int .i64 sch,.int .i64 year,.slice (some ⟨cb,co,none⟩) cn cc,.slice ha hn hc,.slice za zn zc,.int .i64 day] 111)).alloc (.cells #[.int .i64 7,.int .i64 num,.int .i64 more,.slice a n c] 24)).alloc (.cells #[.slice none 0 0,.slice none 0 0,.slice none 0 0] 109)=W:=⟨_,rfl⟩
 obtain ⟨qc,hqc⟩:∃ qc,crpAt cl kc=qc:=⟨_,rfl⟩
 have HQC:=hid hqc
 rw [hqc] at hcr hcm
 clear hqc
 obtain ⟨nm,fa,mk⟩:=qc
 have HX:=hid (RvX.start w #[.int .i64 par,.slice ra rn rcc,.int .i64 kc,.int .i64 sch,.int .i64 year,.slice (some ⟨cb,co,none⟩) cn cc,.slice ha hn hc,.slice za zn zc,.int .i64 day] #[.int .i64 7,.int .i64 num,.int .i64 more,.slice a n c] #[.string nm,.int .i64 fa,.int .i64 mk])
 rw [hW] at HX
 have BBW:RowKit.Hid (Below w.heap.size w W):=by show Below _ _ _;rw [← hW];exact Bw.out
 have HRG:=hid (rangeAt_below hcr BBW.out)
 have y0:=HX.out.far
 obtain ⟨X,hX⟩:∃ X,W.alloc (.cells #[.string nm,.int .i64 fa,.int .i64 mk] 44)=X:=⟨_,rfl⟩
 rw [hX] at HX
 have W2:W.cell? ⟨w.heap.size,2,none⟩=some (.int .i64 kc):=by rw [← hW];exact (((Blk.new w 111 #[.int .i64 par,.slice ra rn rcc,.int .i64 kc,.int .i64 sch,.int .i64 year,.slice (some ⟨cb,co,none⟩) cn cc,.slice ha hn hc,.slice za zn zc,.int .i64 day]).alloc _).alloc _).cell 2
 have W5:W.cell? ⟨w.heap.size,5,none⟩=some (.slice (some ⟨cb,co,none⟩) cn cc):=by rw [← hW];exact (((Blk.new w 111 #[.int .i64 par,.slice ra rn rcc,.int .i64 kc,.int .i64 sch,.int .i64 year,.slice (some ⟨cb,co,none⟩) cn cc,.slice ha hn hc,.slice za zn zc,.int .i64 day]).alloc _).alloc _).cell 5
 have x0:X.cell? ⟨w.heap.size+1,0,none⟩=some (.int .i64 7):=HX.out.tm.cell 0
 have x1:X.cell? ⟨w.heap.size+1,1,none⟩=some (.int .i64 num):=HX.out.tm.cell 1
 have x2:X.cell? ⟨w.heap.size+1,2,none⟩=some (.int .i64 more):=HX.out.tm.cell 2
 have p1:X.cell? ⟨w.heap.size,1,none⟩=some (.slice ra rn rcc):=HX.out.pl.cell 1
 have p2:X.cell? ⟨w.heap.size,2,none⟩=some (.int .i64 kc):=HX.out.pl.cell 2
 have p4:X.cell? ⟨w.heap.size,4,none⟩=some (.int .i64 year):=HX.out.pl.cell 4
 have p5:X.cell? ⟨w.heap.size,5,none⟩=some (.slice (some ⟨cb,co,none⟩) cn cc):=HX.out.pl.cell 5
 have p6:X.cell? ⟨w.heap.size,6,none⟩=some (.slice ha hn hc):=HX.out.pl.cell 6
 have p7:X.cell? ⟨w.heap.size,7,none⟩=some (.slice za zn zc):=HX.out.pl.cell 7
 have p8:X.cell? ⟨w.heap.size,8,none⟩=some (.int .i64 day):=HX.out.pl.cell 8
 have q1:X.cell? ⟨W.heap.size,1,none⟩=some (.int .i64 fa):=HX.out.cp.cell 1
 have q2:X.cell? ⟨W.heap.size,2,none⟩=some (.int .i64 mk):=HX.out.cp.cell 2
 have i0:(0:Int)≤(kc:Int):=by omega
 have i1:(kc:Int)<(cn:Int):=by omega
 have HG:=hid (h.below HX.out.bl)
 obtain ⟨ky,hky⟩:∃ ky,year - num=ky:=⟨_,rfl⟩
 have HSQ:=hid fun (m:Int) W' (hW':Below X.heap.size X W')=>rsquares_any ⟨ha,hn,hc,hl⟩ ⟨some ⟨cb,co,none⟩,cn,cc,cl⟩ ky (-1) m W' (HG.out.ok.hi.below hW') (HG.out.ok.cr.below hW') (fun r hr=>⟨(HG.out.ok.his r hr).1.below hW',(HG.out.ok.his r hr).2⟩) HG.out.hc
 (try dsimp only at HSQ)
 have hq2:IntKind.i64.wrap (year - num)=ky:=by rw [IntWalk.i64_in _ (by omega)];exact hky
 have HTA:=hid fun x y=>take_any (PlM.mk year day par kc sch ⟨some ⟨cb,co,none⟩,cn,cc,cl⟩ ⟨ha,hn,hc,hl⟩ ⟨za,zn,zc,zl⟩ ⟨ra,rn,rcc,rl⟩) num x y
 (try dsimp only at HTA)
 rw [hky] at HTA
 have hnz:more ≠ 0:=by rcases oneMark_cases hm with rfl | rfl | rfl | rfl | rfl <;> decide
 have HTM:=hid fun x y=>take_mark (PlM.mk year day par kc sch ⟨some ⟨cb,co,none⟩,cn,cc,cl⟩ ⟨ha,hn,hc,hl⟩ ⟨za,zn,zc,zl⟩ ⟨ra,rn,rcc,rl⟩) num more hnz (fun r hr=>by have h1:=(h.ok.his r hr).2;have h2:=h.ok.cr.len;dsimp only at h1 h2 ⊢;omega) x y
 (try dsimp only at HTM)
 rw [hky] at HTM
 have HSP:=hid (recs_split hD num (fun c=>hasMark cl c more))
 have E1:=hid fun x y=>(and_congr Iff.rfl (HTM.out x y):((PlM.mk year day par kc sch ⟨some ⟨cb,co,none⟩,cn,cc,cl⟩ ⟨ha,hn,hc,hl⟩ ⟨za,zn,zc,zl⟩ ⟨ra,rn,rcc,rl⟩).env.R x y∧takeZ (fun r:RcdM=>r.s.l) (selR cl ky (-1) more) hl x y)↔(PlM.mk year day par kc sch ⟨some ⟨cb,co,none⟩,cn,cc,cl⟩ ⟨ha,hn,hc,hl⟩ ⟨za,zn,zc,zl⟩ ⟨ra,rn,rcc,rl⟩).env.known num (fun c=>hasMark cl c more) x y)
 have E2:=hid fun x y=>(and_congr Iff.rfl ((and_congr (HTA.out x y) (not_congr (HTM.out x y))).trans (HSP.out x y).symm):((PlM.mk year day par kc sch ⟨some ⟨cb,co,none⟩,cn,cc,cl⟩ ⟨ha,hn,hc,hl⟩ ⟨za,zn,zc,zl⟩ ⟨ra,rn,rcc,rl⟩).env.R x y∧takeZ (fun r:RcdM=>r.s.l) (selR cl ky (-1) 0) hl x y∧¬ takeZ (fun r:RcdM=>r.s.l) (selR cl ky (-1) more) hl x y)↔(PlM.mk year day par kc sch ⟨some ⟨cb,co,none⟩,cn,cc,cl⟩ ⟨ha,hn,hc,hl⟩ ⟨za,zn,zc,zl⟩ ⟨ra,rn,rcc,rl⟩).env.known num (fun c=>!hasMark cl c more) x y)
 clear HTA HTM HSP hD hnz hm
 go_enter Tryz.func60,Tryz.ntmps60
 go_upto_region 19 with (first
  | (refine wpList_load_mid rfl 44 (.tmp 20) rfl cb (co+kc * 3) rfl [.string nm,.int .i64 fa,.int .i64 mk] _ HRG.out Tryz.underlying44 rfl cpInfo ?_)
  | (refine st_new rfl 44 (.tmp 5) (.tmp 21) rfl #[.string nm,.int .i64 fa,.int .i64 mk] _ _ rfl rfl cpInfo rfl (cp_one _ _ _) ?_;(try rw [hX]))
  | (go_at_call 65;(try rw [hky]);(with_reducible refine (HSQ.out 0 X (Below.refl _ _)).mono ?_);rintro e w0 ⟨⟨va,vn,vc,vl⟩,rfl,h1,h2,h3,-⟩;have Z0:=hid h1;have H0:=hid h2;have X0:=hid (HX.out.beh h2);have G0:=hid (HG.out.below h2);have r5:=bc1 h2 p5;have r6:=bc1 h2 p6;have r4:=bc1 h2 p4;have t1:=bc1 h2 x1;have t2:=bc1 h2 x2;clear h1 h2 h3)
  | (go_at_call 65;(try rw [hky]);(with_reducible refine (HSQ.out more w0 H0.out).mono ?_);rintro e w1 ⟨⟨ta,tn,tc,tl⟩,rfl,h1,h2,h3,-⟩;have Z1:=hid h1;have Z2:=hid (Z0.out.below h2);have X1:=hid (X0.out.beh h2);have G1:=hid (G0.out.below h2);clear h1 h2 h3 HSQ HX HG p1 p2 p4 p5 p6 p7 p8 q1 q2 x0 x1 x2 X0 G0 Z0 r5 r6 r4 t1 t2))
 have HKB:RowKit.Hid (Board (takeZ (fun r:RcdM=>r.s.l) (selR cl ky (-1) 0) hl)):=fun x y ⟨r,hr,_,h2⟩=>(G1.out.hc r hr).2 x y h2
 have HN:=hid fun W' (hW':Below w1.heap.size w1 W')=>notS (Z2.out.below hW') (Z1.out.below hW') HKB.out
 have HPT:=hid fun (s:Sc Rc) (N:Sq) W' (hW':Below w1.heap.size w1 W')=>rpart_any year day par kc sch (some ⟨cb,co,none⟩) cn cc cl ha hn hc hl za zn zc zl ra rn rcc rl ⟨ta,tn,tc,tl⟩ s (takeZ (fun r:RcdM=>r.s.l) (selR cl ky (-1) more) hl) N W' (G1.out.rcs.below hW') G1.out.rb (Z1.out.below hW')
 (try dsimp only at HN HPT)
 have P0:RowKit.Hid (Cells9 w1 w.heap.size (.int .i64 par) (.slice ra rn rcc) (.int .i64 kc) (.int .i64 sch) (.int .i64 year) (.slice (some ⟨cb,co,none⟩) cn cc) (.slice ha hn hc) (.slice za zn zc) (.int .i64 day)):=X1.out.pl.cells9
 go_region_held3 (fun w'=>w'.cell? ⟨w.heap.size,0,none⟩=some (.int .i64 par)∧w'.cell? ⟨w.heap.size,1,none⟩=some (.slice ra rn rcc)∧w'.cell? ⟨w.heap.size,2,none⟩=some (.int .i64 kc)∧w'.cell? ⟨w.heap.size,3,none⟩=some (.int .i64 sch)∧w'.cell? ⟨w.heap.size,4,none⟩=some (.int .i64 year)∧w'.cell? ⟨w.heap.size,5,none⟩=some (.slice (some ⟨cb,co,none⟩) cn cc)∧w'.cell? ⟨w.heap.size,6,none⟩=some (.slice ha hn hc)∧w'.cell? ⟨w.heap.size,7,none⟩=some (.slice za zn zc)∧w'.cell? ⟨w.heap.size,8,none⟩=some (.int .i64 day)) (first | exact P0.out | exact P1.out | exact P2.out | exact P2.out.far3 (by omega) | simp [go_sem, *])
  (first
   | (go_at_call 62;(with_reducible refine (HN.out _ Bw.out).mono ?_);rintro e w3 ⟨⟨ua,un,uc,ul⟩,rfl,h1,h2,h3,-⟩;have U3:=hid h1;have V3:RowKit.Hid (Below w1.heap.size w1 w3):=btr Bw.out h2;have P1:=hid (P0.out.below V3.out);clear h1 h2 h3)
   | (go_at_call 104;refine (HPT.out ⟨ua,un,uc,ul⟩ _ _ (btr V3.out Bw.out) (U3.out.below Bw.out)).mono ?_;rintro e w4 ⟨⟨ya,yn,yc,yl⟩,⟨na,nn,nc,nl⟩,⟨oa,on,oc,ol⟩,rfl,h1,h2,h3,h4⟩;have Y1:=hid h1;have N1:=hid h2;have O1:=hid h3;have V4:RowKit.Hid (Below w1.heap.size w1 w4):=btr V3.out (btr Bw.out h4);have P2:=hid (P0.out.below V4.out);have A1:=hid (X1.out.beh V4.out);obtain ⟨⟨z0,z1,z2⟩,⟨f0,f1,f2⟩,zlt⟩:=A1.out.re.at3;clear h1 h2 h3 h4))
 all_goals
  go_wp2
  refine bodyPost_ret (results_cell_row rfl _ _ (w.heap.size+1+1) _ #[.slice ya yn yc,.slice na nn nc,.slice oa on oc] _ _ rfl (Blk.put3 A1.out.re rfl) Tryz.underlying109 rfl tuInfo) rfl ?_
  exact (sqP_set3 (y:=⟨ya,yn,yc,yl⟩) (n:=⟨na,nn,nc,nl⟩) (o:=⟨oa,on,oc,ol⟩) A1.out.re Y1.out N1.out O1.out A1.out.bl (by omega):SqP w _ ⟨fun x y=>(PlM.mk year day par kc sch ⟨some ⟨cb,co,none⟩,cn,cc,cl⟩ ⟨ha,hn,hc,hl⟩ ⟨za,zn,zc,zl⟩ ⟨ra,rn,rcc,rl⟩).env.R x y∧takeZ (fun r:RcdM=>r.s.l) (selR cl ky (-1) more) hl x y,fun x y=>(PlM.mk year day par kc sch ⟨some ⟨cb,co,none⟩,cn,cc,cl⟩ ⟨ha,hn,hc,hl⟩ ⟨za,zn,zc,zl⟩ ⟨ra,rn,rcc,rl⟩).env.R x y∧takeZ (fun r:RcdM=>r.s.l) (selR cl ky (-1) 0) hl x y∧¬ takeZ (fun r:RcdM=>r.s.l) (selR cl ky (-1) more) hl x y⟩ _ _).congr E1.out E2.out
end Go.Proofs.YtancajcelmhnkaaGreatDoor
