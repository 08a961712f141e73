/- ref16.place.eval at terms with kids,on. (Printed by gen4/rev.py.) -/
import Derived.Test.YtancajcelmhnkaaGreatDoorHu
import Derived.Test.YtancajcelmhnkaaGreatDoorHo
set_option maxRecDepth 100000
set_option maxHeartbeats 40000000
namespace Go.Proofs.YtancajcelmhnkaaGreatDoor
open Go.RowKit Go.Sort Go.Shelf
set_option linter.unusedVariables false
set_option linter.unusedSimpArgs false
theorem reval_10 (year day par crop sch:Int) (ca:Option Addr) (cn cc:Nat) (cl:List Crp) (ha:Option Addr) (hn hc:Nat) (hl:List RcdM) (za:Option Addr) (zn zc:Nat) (zl:List FtrM) (ra:Option Addr) (rn rcc:Nat) (rl:List Rc) (num more:Int) (n c:Nat) (op' num' more':Int) (a':Option Addr) (n' c':Nat) (kb ko:Nat) (K:Pr) (w:World) (h:PlB w (PlM.mk year day par crop sch ⟨ca,cn,cc,cl⟩ ⟨ha,hn,hc,hl⟩ ⟨za,zn,zc,zl⟩ ⟨ra,rn,rcc,rl⟩)) (hn1:1≤n) (hkr:w.rangeAt kb ko [.int .i64 op',.int .i64 num',.int .i64 more',.slice a' n' c']) (HI:∀ W',Below w.heap.size w W'→Calls Tryz.prog 60 #[.agg #[.int .i64 par,.slice ra rn rcc,.int .i64 crop,.int .i64 sch,.int .i64 year,.slice ca cn cc,.slice ha hn hc,.slice za zn zc,.int .i64 day],.agg #[.int .i64 op',.int .i64 num',.int .i64 more',.slice a' n' c']] W' (SqP W' (PlM.mk year day par crop sch ⟨ca,cn,cc,cl⟩ ⟨ha,hn,hc,hl⟩ ⟨za,zn,zc,zl⟩ ⟨ra,rn,rcc,rl⟩).env K)) (Ks:List Pr) (kids:List TmM) (hlk:kids.length+1=n) (hks:Ks.length=kids.length) (hf:∀ p ∈ K :: Ks,(PlM.mk year day par crop sch ⟨ca,cn,cc,cl⟩ ⟨ha,hn,hc,hl⟩ ⟨za,zn,zc,zl⟩ ⟨ra,rn,rcc,rl⟩).env.Fine p) (hc1:n≤c) (hcx:c≤maxLen) (hrest:∀ i (hi:i<kids.length),∃ (hi':i<Ks.length),w.rangeAt kb (ko+(i+1) * 4) (encTm kids[i])∧∀ W',Below w.heap.size w W'→Calls Tryz.prog 60 #[.agg #[.int .i64 par,.slice ra rn rcc,.int .i64 crop,.int .i64 sch,.int .i64 year,.slice ca cn cc,.slice ha hn hc,.slice za zn zc,.int .i64 day],.agg (encTm kids[i]).toArray] W' (SqP W' (PlM.mk year day par crop sch ⟨ca,cn,cc,cl⟩ ⟨ha,hn,hc,hl⟩ ⟨za,zn,zc,zl⟩ ⟨ra,rn,rcc,rl⟩).env Ks[i])) :
  Calls Tryz.prog 60 #[.agg #[.int .i64 par,.slice ra rn rcc,.int .i64 crop,.int .i64 sch,.int .i64 year,.slice ca cn cc,.slice ha hn hc,.slice za zn zc,.int .i64 day],.agg #[.int .i64 10,.int .i64 num,.int .i64 more,.slice (some ⟨kb,ko,none⟩) n c]] w (SqP w (PlM.mk year day par crop sch ⟨ca,cn,cc,cl⟩ ⟨ha,hn,hc,hl⟩ ⟨za,zn,zc,zl⟩ ⟨ra,rn,rcc,rl⟩).env (cumP (PlM.mk year day par crop sch ⟨ca,cn,cc,cl⟩ ⟨ha,hn,hc,hl⟩ ⟨za,zn,zc,zl⟩ ⟨ra,rn,rcc,rl⟩).env 10 (K :: Ks))):=by
 obtain ⟨kc,rfl⟩:∃ kc:Nat,crop=kc:=⟨crop.toNat,by have:=h.ok.crop.1;dsimp only at this;omega⟩
 have hkc:kc<cn:=by have:=h.ok.crop.2;dsimp only at this;omega
 obtain ⟨cb,co,rfl,hcb,hcr,hcm⟩:=crop_range h.ok.cr hkc
 have HCAT:=hid hcm
 have hye:=h.ok.year
 dsimp only at hye hcr
 obtain ⟨W,hW⟩:∃ W,((w.alloc (.cells #[.int .i64 par,.slice ra rn rcc,.int .i64 kc,.int .i64 sch,.int .i64 year,.slice (some ⟨cb,co,none⟩) cn cc,.slice ha hn hc,.slice za zn zc,.int .i64 day] 111)).alloc (.cells #[.int .i64 10,.int .i64 num,.int .i64 more,.slice (some ⟨kb,ko,none⟩) n c] 24)).alloc (.cells #[.slice none 0 0,.slice none 0 0,.slice none 0 0] 109)=W:=⟨_,rfl⟩
 obtain ⟨qc,hqc⟩:∃ qc,crpAt cl kc=qc:=⟨_,rfl⟩
 have HQC:=hid hqc
 rw [hqc] at hcr hcm
 clear hqc
 obtain ⟨nm,fa,mk⟩:=qc
 have HX:=hid (RvX.start w #[.int .i64 par,.slice ra rn rcc,.int .i64 kc,.int .i64 sch,.int .i64 year,.slice (some ⟨cb,co,none⟩) cn cc,.slice ha hn hc,.slice za zn zc,.int .i64 day] #[.int .i64 10,.int .i64 num,.int .i64 more,.slice (some ⟨kb,ko,none⟩) n c] #[.string nm,.int .i64 fa,.int .i64 mk])
 rw [hW] at HX
 have BBW:Hid (Below w.heap.size w W):=by show Below _ _ _;rw [← hW];exact Bw.out
 have HRG:=hid (rangeAt_below hcr BBW.out)
 have y0:=HX.out.far
 obtain ⟨X,hX⟩:∃ X,W.alloc (.cells #[.string nm,.int .i64 fa,.int .i64 mk] 44)=X:=⟨_,rfl⟩
 rw [hX] at HX
 have W2:W.cell? ⟨w.heap.size,2,none⟩=some (.int .i64 kc):=by rw [← hW];exact (((Blk.new w 111 #[.int .i64 par,.slice ra rn rcc,.int .i64 kc,.int .i64 sch,.int .i64 year,.slice (some ⟨cb,co,none⟩) cn cc,.slice ha hn hc,.slice za zn zc,.int .i64 day]).alloc _).alloc _).cell 2
 have W5:W.cell? ⟨w.heap.size,5,none⟩=some (.slice (some ⟨cb,co,none⟩) cn cc):=by rw [← hW];exact (((Blk.new w 111 #[.int .i64 par,.slice ra rn rcc,.int .i64 kc,.int .i64 sch,.int .i64 year,.slice (some ⟨cb,co,none⟩) cn cc,.slice ha hn hc,.slice za zn zc,.int .i64 day]).alloc _).alloc _).cell 5
 have x0:X.cell? ⟨w.heap.size+1,0,none⟩=some (.int .i64 10):=HX.out.tm.cell 0
 have x1:X.cell? ⟨w.heap.size+1,1,none⟩=some (.int .i64 num):=HX.out.tm.cell 1
 have x2:X.cell? ⟨w.heap.size+1,2,none⟩=some (.int .i64 more):=HX.out.tm.cell 2
 have p1:X.cell? ⟨w.heap.size,1,none⟩=some (.slice ra rn rcc):=HX.out.pl.cell 1
 have p2:X.cell? ⟨w.heap.size,2,none⟩=some (.int .i64 kc):=HX.out.pl.cell 2
 have p4:X.cell? ⟨w.heap.size,4,none⟩=some (.int .i64 year):=HX.out.pl.cell 4
 have p5:X.cell? ⟨w.heap.size,5,none⟩=some (.slice (some ⟨cb,co,none⟩) cn cc):=HX.out.pl.cell 5
 have p6:X.cell? ⟨w.heap.size,6,none⟩=some (.slice ha hn hc):=HX.out.pl.cell 6
 have p7:X.cell? ⟨w.heap.size,7,none⟩=some (.slice za zn zc):=HX.out.pl.cell 7
 have p8:X.cell? ⟨w.heap.size,8,none⟩=some (.int .i64 day):=HX.out.pl.cell 8
 have q1:X.cell? ⟨W.heap.size,1,none⟩=some (.int .i64 fa):=HX.out.cp.cell 1
 have q2:X.cell? ⟨W.heap.size,2,none⟩=some (.int .i64 mk):=HX.out.cp.cell 2
 have i0:(0:Int)≤(kc:Int):=by omega
 have i1:(kc:Int)<(cn:Int):=by omega
 have HG:=hid (h.below HX.out.bl)
 have x3:X.cell? ⟨w.heap.size+1,3,none⟩=some (.slice (some ⟨kb,ko,none⟩) n c):=HX.out.tm.cell 3
 have hkr':=rangeAt_below hkr HX.out.bl
 have k0:X.cell? ⟨kb,ko,none⟩=some (.int .i64 op'):=hkr' 0 _ rfl
 have k1:X.cell? ⟨kb,ko+1,none⟩=some (.int .i64 num'):=hkr' 1 _ rfl
 have k2:X.cell? ⟨kb,ko+2,none⟩=some (.int .i64 more'):=hkr' 2 _ rfl
 have k3:X.cell? ⟨kb,ko+3,none⟩=some (.slice a' n' c'):=hkr' 3 _ rfl
 have hkrX:=hkr'
 have hkb:kb<w.heap.size:=World.block_lt_of_cell? w _ (hkr 0 _ rfl)
 have P0:Hid (Cells9 X w.heap.size (.int .i64 par) (.slice ra rn rcc) (.int .i64 kc) (.int .i64 sch) (.int .i64 year) (.slice (some ⟨cb,co,none⟩) cn cc) (.slice ha hn hc) (.slice za zn zc) (.int .i64 day)):=HX.out.pl.cells9
 have PB:Hid (Cells9 (X.alloc (.cells #[.slice none 0 0,.slice none 0 0,.slice none 0 0] 109)) w.heap.size (.int .i64 par) (.slice ra rn rcc) (.int .i64 kc) (.int .i64 sch) (.int .i64 year) (.slice (some ⟨cb,co,none⟩) cn cc) (.slice ha hn hc) (.slice za zn zc) (.int .i64 day)):=P0.out.below (bal (Below.refl _ _) _)
 obtain ⟨E,hE⟩:∃ E,(PlM.mk year day par kc sch ⟨some ⟨cb,co,none⟩,cn,cc,cl⟩ ⟨ha,hn,hc,hl⟩ ⟨za,zn,zc,zl⟩ ⟨ra,rn,rcc,rl⟩).env=E:=⟨_,rfl⟩
 rw [hE] at HI hf hrest ⊢
 have HI:=hid fun W' (hW':Below X.heap.size X W')=>HI W' (btr HX.out.bl hW')
 have HRS:=hid (h.below HX.out.bl).rcs
 have HRB:Hid (Board ((PlM.mk year day par kc sch ⟨some ⟨cb,co,none⟩,cn,cc,cl⟩ ⟨ha,hn,hc,hl⟩ ⟨za,zn,zc,zl⟩ ⟨ra,rn,rcc,rl⟩).env.R)):=h.rb
 have HPT:=hid fun (s t:Sc Rc) (S N:Sq) W' (hW':Below X.heap.size X W')=>rpart_any year day par kc sch (some ⟨cb,co,none⟩) cn cc cl ha hn hc hl za zn zc zl ra rn rcc rl s t S N W' (HRS.out.below hW') HRB.out
 rw [hE] at HRS HRB HPT
 have HRE:=hid hrest;have HF:=hid hf
 clear hkr hkr' HG HRG h hrest hf
 have HRG:=hid (rangeAt_below hcr BBW.out)
 have n0:(0:Int)<(n:Int):=by omega
 have n0n:0<n:=by omega
 unfold maxLen at hcx
 go_enter Tryz.func60,Tryz.ntmps60
 go_upto_region 26 with (first
  | (refine wpList_load_mid rfl 44 (.tmp 20) rfl cb (co+kc * 3) rfl [.string nm,.int .i64 fa,.int .i64 mk] _ HRG.out Tryz.underlying44 rfl cpInfo ?_)
  | (refine st_new rfl 44 (.tmp 5) (.tmp 21) rfl #[.string nm,.int .i64 fa,.int .i64 mk] _ _ rfl rfl cpInfo rfl (cp_one _ _ _) ?_;(try rw [hX])))
 (try dsimp only [Act.put])
 have SA:Hid (S14 w.heap.size (w.heap.size+1) kb ko (.int .i64 par) (.slice ra rn rcc) (.int .i64 kc) (.int .i64 sch) (.int .i64 year) (.slice (some ⟨cb,co,none⟩) cn cc) (.slice ha hn hc) (.slice za zn zc) (.int .i64 day) (.slice (some ⟨kb,ko,none⟩) n c) (.int .i64 op') (.int .i64 num') (.int .i64 more') (.slice a' n' c') X):=⟨(P0.out).1,(P0.out).2.1,(P0.out).2.2.1,(P0.out).2.2.2.1,(P0.out).2.2.2.2.1,(P0.out).2.2.2.2.2.1,(P0.out).2.2.2.2.2.2.1,(P0.out).2.2.2.2.2.2.2.1,(P0.out).2.2.2.2.2.2.2.2,x3,k0,k1,k2,k3⟩
 have yx:w.heap.size+1+1<X.heap.size:=HX.out.re.lt
 have hkbx:kb<w.heap.size:=hkb
 go_cut [11] (fun s wx=>TrC X E K s wx)
 case first =>
  clear x0 x1 x2 x3 p1 p2 p4 p5 p6 p7 p8 q1 q2 k0 k1 k2 k3 W2 W5 hcr HCAT HQC P0 PB i0 i1 hye hcb hkrX HRG
  go_region_held3 (fun w'=>w'.cell? ⟨w.heap.size,0,none⟩=some (.int .i64 par)∧w'.cell? ⟨w.heap.size,1,none⟩=some (.slice ra rn rcc)∧w'.cell? ⟨w.heap.size,2,none⟩=some (.int .i64 kc)∧w'.cell? ⟨w.heap.size,3,none⟩=some (.int .i64 sch)∧w'.cell? ⟨w.heap.size,4,none⟩=some (.int .i64 year)∧w'.cell? ⟨w.heap.size,5,none⟩=some (.slice (some ⟨cb,co,none⟩) cn cc)∧w'.cell? ⟨w.heap.size,6,none⟩=some (.slice ha hn hc)∧w'.cell? ⟨w.heap.size,7,none⟩=some (.slice za zn zc)∧w'.cell? ⟨w.heap.size,8,none⟩=some (.int .i64 day)∧w'.cell? ⟨w.heap.size+1,3,none⟩=some (.slice (some ⟨kb,ko,none⟩) n c)∧w'.cell? ⟨kb,ko,none⟩=some (.int .i64 op')∧w'.cell? ⟨kb,ko+1,none⟩=some (.int .i64 num')∧w'.cell? ⟨kb,ko+2,none⟩=some (.int .i64 more')∧w'.cell? ⟨kb,ko+3,none⟩=some (.slice a' n' c')) (with_reducible first | exact SA.out | exact SA.out.below (bal (Below.refl _ _) _) | exact SA.out.below (bdr (bal (Below.refl _ _) _)) | exact SA.out.below (bal (bdr (Below.refl _ _)) _) | exact SA.out.below (bdr (Below.refl _ _)) | exact SB.out | exact SB.out.below (bal (Below.refl _ _) _) | exact SB.out.below (bdr (bal (Below.refl _ _) _)) | exact SB.out.below (bal (bdr (Below.refl _ _)) _) | exact SB.out.below (bdr (Below.refl _ _)) | exact SB.out.far3 (by omega) (by omega) (by omega))
   ((go_at_call 60;refine (HI.out _ Bw.out).mono ?_;rintro e w5 ⟨⟨ya,yn,yc,yl⟩,⟨na,nn,nc,nl⟩,⟨oa,on,oc,ol⟩,rfl,h1,h2,h3,h4⟩;have Y1:=hid h1;have N1:=hid h2;have O1:=hid h3;have V5:Hid (Below X.heap.size X w5):=btr Bw.out h4;have v5:=V5.out.size;have SB:Hid (S14 w.heap.size (w.heap.size+1) kb ko (.int .i64 par) (.slice ra rn rcc) (.int .i64 kc) (.int .i64 sch) (.int .i64 year) (.slice (some ⟨cb,co,none⟩) cn cc) (.slice ha hn hc) (.slice za zn zc) (.int .i64 day) (.slice (some ⟨kb,ko,none⟩) n c) (.int .i64 op') (.int .i64 num') (.int .i64 more') (.slice a' n' c') w5):=SA.out.below V5.out;(first | (have Z5:Hid (Blk w5 X.heap.size 109 #[.slice none 0 0,.slice none 0 0,.slice none 0 0]):=(Blk.new X.drew 109 #[.slice none 0 0,.slice none 0 0,.slice none 0 0]).below h4;obtain ⟨⟨z0,z1,z2⟩,⟨f0,f1,f2⟩,zlt⟩:=Z5.out.at3) | (have Z5:Hid (Blk w5 X.heap.size 109 #[.slice none 0 0,.slice none 0 0,.slice none 0 0]):=(Blk.new X 109 #[.slice none 0 0,.slice none 0 0,.slice none 0 0]).below h4;obtain ⟨⟨z0,z1,z2⟩,⟨f0,f1,f2⟩,zlt⟩:=Z5.out.at3) | skip);clear h1 h2 h3 h4))
  all_goals go_wp2
  all_goals go_meet
  all_goals (case rel=>with_reducible first | exact trC_new (y:=⟨ya,yn,yc,yl⟩) (n:=⟨na,nn,nc,nl⟩) (o:=⟨oa,on,oc,ol⟩) V5.out Y1.out N1.out O1.out | exact trC_put (y:=⟨ya,yn,yc,yl⟩) (n:=⟨na,nn,nc,nl⟩) (o:=⟨oa,on,oc,ol⟩) V5.out Z5.out (Nat.le_refl _) Y1.out N1.out O1.out)
 case rest =>
 obtain ⟨g,rfl,hg,ht,hb⟩:=hcut
 have T0:=hid (ht.congr (cumP_one (op:=10) (HF.out _ List.mem_cons_self)).1 (cumP_one (op:=10) (HF.out _ List.mem_cons_self)).2)
 have HB0:=hid hb
 have A0:=hid (HX.out.beh hb)
 have x0c:wc.cell? ⟨w.heap.size+1,0,none⟩=some (.int .i64 10):=A0.out.tm.cell 0
 have x3c:wc.cell? ⟨w.heap.size+1,3,none⟩=some (.slice (some ⟨kb,ko,none⟩) n c):=A0.out.tm.cell 3
 clear ht hb HI x0 x1 x2 x3 p1 p2 p4 p5 p6 p7 p8 q1 q2 k0 k1 k2 k3 W2 W5 hcr HCAT HQC
 have hgx:X.heap.size≤g:=hg
 have ygw:w.heap.size+1+1<g:=by have:=HX.out.bl.size;have:=HX.out.far;have:=HX.out.cp.lt;omega
 by_cases hc1':c=1
 ·subst hc1'
  obtain rfl:n=1:=by omega
  have hk0:kids.length=0:=by omega
  go_wp2
  go_loopw [159] (fun v wr=>∃ k:Nat,k≤kids.length∧v=.int .i64 k∧TrAt wr g E (cumP E 10 (K :: Ks.take k))∧Below X.heap.size X wr) (fun v _=>kids.length+1 - (intOf v).toNat)
  case atStart=>exact ⟨0,Nat.zero_le _,rfl,T0.out,HB0.out⟩
  case round =>
   obtain ⟨k,hk,rfl,ht,hb⟩:=hrel
   have HT:=hid ht;have HB:=hid hb
   clear ht hb
   by_cases hlt:k<kids.length
   ·exact absurd hlt (by omega)
   ·obtain rfl:k=kids.length:=by omega
    have e:Ks.take kids.length=Ks:=List.take_of_length_le (by omega)
    rw [e] at HT
    obtain ⟨⟨ya,yn,yc,yl⟩,⟨na,nn,nc,nl⟩,⟨oa,on,oc,ol⟩,hB,h1,h2,h3⟩:=HT.out.ex
    have G:=hid hB;have Y1:=hid h1;have N1:=hid h2;have O1:=hid h3
    have A1:=hid (HX.out.beh HB.out)
    clear hB h1 h2 h3 e HT
    go_wp2_with (first
     | (refine wpList_load_row rfl 109 (.tmp 11) rfl g rfl _ #[.slice ya yn yc,.slice na nn nc,.slice oa on oc] _ _ G.out Tryz.underlying109 rfl tuInfo ?_)
     | (refine wpList_store_row rfl 109 (.tmp 4) (.tmp 194) rfl (w.heap.size+1+1) #[.slice ya yn yc,.slice na nn nc,.slice oa on oc] rfl rfl _ _ A1.out.re tuInfo rfl (sq_one _ _ _ rfl rfl rfl) ?_))
    have BR:=setRow_heap wr (w.heap.size+1+1) _ #[.slice ya yn yc,.slice na nn nc,.slice oa on oc] _ _ A1.out.re
    refine bodyPost_ret (results_cell_row rfl _ _ _ _ _ _ _ rfl BR Tryz.underlying109 rfl tuInfo) rfl ?_
    exact (sqP_row (y:=⟨ya,yn,yc,yl⟩) (n:=⟨na,nn,nc,nl⟩) (o:=⟨oa,on,oc,ol⟩) A1.out.re Y1.out N1.out O1.out A1.out.bl (by omega):SqP w _ _ _ _)
 ·have hc2:¬ (1:Nat)=c:=by omega
  have hc3:1<c:=by omega
  go_wp2
  go_loopw [159] (fun v wr=>∃ k:Nat,k≤kids.length∧v=.int .i64 k∧TrAt wr g E (cumP E 10 (K :: Ks.take k))∧Below X.heap.size X wr) (fun v _=>kids.length+1 - (intOf v).toNat)
  case atStart=>exact ⟨0,Nat.zero_le _,rfl,T0.out,HB0.out⟩
  case round =>
   obtain ⟨k,hk,rfl,ht,hb⟩:=hrel
   have HT:=hid ht;have HB:=hid hb
   clear ht hb
   by_cases hlt:k<kids.length
   ·obtain ⟨hk',hrg,hcl⟩:=HRE.out k hlt
    have ARB:=hid (HX.out.beh HB.out)
    have HKRA:Hid (wr.rangeAt kb (ko+4+k * 4) (encTm kids[k])):=by show World.rangeAt _ _ _ _;rw [show ko+4+k * 4=ko+(k+1) * 4 by omega];exact rangeAt_below (rangeAt_below hrg HX.out.bl) HB.out
    have HTK:Hid (K :: Ks.take (k+1)=(K :: Ks.take k)++[Ks[k]]):=by show _=_;rw [List.take_succ_eq_append_getElem hk',List.cons_append]
    have HFK:=hid (HF.out Ks[k] (List.mem_cons_of_mem _ (List.getElem_mem hk')))
    have HFC:=hid (cumP_no (op:=10) (l:=K :: Ks.take k) fun p hp=>HF.out p (by rcases List.mem_cons.1 hp with rfl | hp;exact List.mem_cons_self;exact List.mem_cons_of_mem _ (List.mem_of_mem_take hp)))
    have HKC:=hid fun W' (hW':Below wr.heap.size wr W')=>hcl W' (btr HX.out.bl (btr HB.out hW'))
    clear hrg hcl
    obtain ⟨kt,hkt⟩:∃ kt,kids[k]=kt:=⟨_,rfl⟩
    obtain ⟨K',hK'⟩:∃ K',Ks[k]=K':=⟨_,rfl⟩
    rw [hkt] at HKRA HKC
    rw [hK'] at HKC HTK HFK
    clear hkt hK'
    obtain ⟨op',num',more',a',n',c',kids'⟩:=kt
    dsimp only [encTm] at HKRA HKC
    obtain ⟨⟨ya,yn,yc,yl⟩,⟨na,nn,nc,nl⟩,⟨oa,on,oc,ol⟩,hB,h1,h2,h3⟩:=HT.out.ex
    have HKEY:=hid (cumP_or E (K :: Ks.take k) K')
    have HFN:=hid (cumP_no (op:=10) (l:=(K :: Ks.take k)++[K']) fun p hp=>by
     rcases List.mem_append.1 hp with hp | hp
     ·exact HF.out p (by rcases List.mem_cons.1 hp with rfl | hp;exact List.mem_cons_self;exact List.mem_cons_of_mem _ (List.mem_of_mem_take hp))
     ·rw [List.mem_singleton.1 hp];exact HFK.out)
    have HOB:Hid (Board (cumP E 10 (K :: Ks.take k)).yes):=fun x y q=>HRB.out x y (HFC.out.1 x y q)
    have HNB:Hid (Board (cumP E 10 (K :: Ks.take k)).no):=fun x y q=>HRB.out x y (HFC.out.2 x y q)
    have HKB:Hid (Board K'.yes):=fun x y q=>HRB.out x y (HFK.out.yes x y q)
    have HLB:Hid (Board K'.no):=fun x y q=>HRB.out x y (HFK.out.no x y q)
    have G:=hid hB;have Y1:=hid h1;have N1:=hid h2
    clear hB h1 h2 h3 HT
    have hwr:=HB.out.size
    have hgl:=G.out.lt
    go_upto_region 31 with (first
     | (refine wpList_load_mid rfl 24 (.tmp 161) rfl kb (ko+4+k * 4) rfl [.int .i64 op',.int .i64 num',.int .i64 more',.slice a' n' c'] _ HKRA.out Tryz.underlying24 rfl tmInfo ?_)
     | (refine st_new rfl 24 (.tmp 13) (.tmp 162) rfl #[.int .i64 op',.int .i64 num',.int .i64 more',.slice a' n' c'] _ _ rfl rfl tmInfo rfl (tm_one _ _ _ _ _ _) ?_)
     | (refine wpList_load_row rfl 111 (.tmp 2) rfl w.heap.size rfl _ #[.int .i64 par,.slice ra rn rcc,.int .i64 kc,.int .i64 sch,.int .i64 year,.slice (some ⟨cb,co,none⟩) cn cc,.slice ha hn hc,.slice za zn zc,.int .i64 day] _ _ (ARB.out.pl.alloc _) Tryz.underlying111 rfl rplInfo ?_)
     | (refine wpList_load_row rfl 24 (.tmp 13) rfl wr.heap.size rfl _ #[.int .i64 op',.int .i64 num',.int .i64 more',.slice a' n' c'] _ _ (Blk.new _ _ _) Tryz.underlying24 rfl tmInfo ?_)
     | (go_at_call 60;refine (HKC.out _ Bw.out).mono ?_;rintro e w5 ⟨⟨ea,en,ec,el⟩,⟨fa',fn,fc,fl⟩,⟨da,dn,dc,dl⟩,rfl,h1,h2,h3,h4⟩;have EY:=hid h1;have EN:=hid h2;have V5:Hid (Below wr.heap.size wr w5):=btr Bw.out h4;clear h1 h2 h3 h4)
     | (refine st_new rfl 109 (.tmp 14) (.tmp 165) rfl #[.slice ea en ec,.slice fa' fn fc,.slice da dn dc] _ _ rfl rfl tuInfo rfl (sq_one _ _ _ rfl rfl rfl) ?_))
    obtain ⟨W5,hW5⟩:∃ W5,w5.alloc (.cells #[.slice ea en ec,.slice fa' fn fc,.slice da dn dc] 109)=W5:=⟨_,rfl⟩
    have Q5:Hid (Below w5.heap.size w5 W5):=by show Below _ _ _;rw [← hW5];exact Bw.out
    have J5:Hid (Blk W5 w5.heap.size 109 #[.slice ea en ec,.slice fa' fn fc,.slice da dn dc]):=by show Blk _ _ _ _;rw [← hW5];exact Blk.new _ _ _
    have U5:=hid (btr V5.out Q5.out)
    have EY5:=hid (EY.out.below Q5.out);have EN5:=hid (EN.out.below Q5.out);have Y5:=hid (Y1.out.below U5.out);have N5:=hid (N1.out.below U5.out);have G5:=hid (G.out.below U5.out);have A5:=hid (ARB.out.beh U5.out)
    have B5:=hid (btr HB.out U5.out)
    have u5:=U5.out.size
    have hj5:w5.heap.size<W5.heap.size:=J5.out.lt
    have hv5:=V5.out.size
    rw [hW5]
    clear hW5 EY EN Y1 N1 G ARB Q5 V5 HKRA HKC
    have t0:W5.cell? ⟨w.heap.size+1,0,none⟩=some (.int .i64 10):=A5.out.tm.cell 0
    have PX:=hid (A5.out.pl.cells9)
    have j0:W5.cell? ⟨w5.heap.size,0,none⟩=some (.slice ea en ec):=J5.out.cell 0
    have j1:W5.cell? ⟨w5.heap.size,1,none⟩=some (.slice fa' fn fc):=J5.out.cell 1
    obtain ⟨⟨g0,g1,g2⟩,⟨f0,f1,f2⟩,zlt⟩:=G5.out.at3
    have HC1:=hid fun W' (hW':Below W5.heap.size W5 W')=>orS (Y5.out.below hW') (EY5.out.below hW') (HOB.out) (HKB.out)
    have HC2:=hid fun W' (hW':Below W5.heap.size W5 W')=>andS (N5.out.below hW') (EN5.out.below hW') (HNB.out)
    (try dsimp only at HC1 HC2)
    obtain ⟨YS,hYS⟩:∃ S,(cumP E 10 (K :: Ks.take k)).yes=S:=⟨_,rfl⟩
    obtain ⟨NS,hNS⟩:∃ S,(cumP E 10 (K :: Ks.take k)).no=S:=⟨_,rfl⟩
    rw [hYS] at HC1 HKEY Y5 HOB
    rw [hNS] at HC2 HKEY N5 HNB
    clear hYS hNS
    go_upto_region 33 with fail
    (try dsimp only [Act.put])
    have SA:Hid (S11 w.heap.size w5.heap.size (.int .i64 par) (.slice ra rn rcc) (.int .i64 kc) (.int .i64 sch) (.int .i64 year) (.slice (some ⟨cb,co,none⟩) cn cc) (.slice ha hn hc) (.slice za zn zc) (.int .i64 day) (.slice ea en ec) (.slice fa' fn fc) W5):=⟨PX.out.1,PX.out.2.1,PX.out.2.2.1,PX.out.2.2.2.1,PX.out.2.2.2.2.1,PX.out.2.2.2.2.2.1,PX.out.2.2.2.2.2.2.1,PX.out.2.2.2.2.2.2.2.1,PX.out.2.2.2.2.2.2.2.2,j0,j1⟩
    clear PX j0 j1 t0 EY5 EN5 Y5 N5 hj5 A5 J5 U5 HRE HF HKB HLB HRS HRB HRG
    refine wp_region_held_drew (S:=fun w'=>w'.cell? ⟨w.heap.size,0,none⟩=some (.int .i64 par)∧w'.cell? ⟨w.heap.size,1,none⟩=some (.slice ra rn rcc)∧w'.cell? ⟨w.heap.size,2,none⟩=some (.int .i64 kc)∧w'.cell? ⟨w.heap.size,3,none⟩=some (.int .i64 sch)∧w'.cell? ⟨w.heap.size,4,none⟩=some (.int .i64 year)∧w'.cell? ⟨w.heap.size,5,none⟩=some (.slice (some ⟨cb,co,none⟩) cn cc)∧w'.cell? ⟨w.heap.size,6,none⟩=some (.slice ha hn hc)∧w'.cell? ⟨w.heap.size,7,none⟩=some (.slice za zn zc)∧w'.cell? ⟨w.heap.size,8,none⟩=some (.int .i64 day)∧w'.cell? ⟨w5.heap.size,0,none⟩=some (.slice ea en ec)∧w'.cell? ⟨w5.heap.size,1,none⟩=some (.slice fa' fn fc)) (by kernel_rfl) ?_ (fun hHeld=>?_)
    ·(try dsimp only);(with_reducible first | exact SA.out | exact SA.out.below (bdr (Below.refl _ _)))
    refine takeL 0 (v:=?_) rfl (by kernel_rfl) (fun _ _ _ h=>h) (Or.inl ⟨by rfl,?_⟩) (by assumption) ?_;rotate_left;focus ((intro w hSw;(try dsimp only at hSw);go_simp) <;> with_reducible rfl)
    refine takeL 1 (v:=?_) rfl (by kernel_rfl) (fun _ _ _ h=>h) (Or.inl ⟨by rfl,?_⟩) (by assumption) ?_;rotate_left;focus ((intro w hSw;(try dsimp only at hSw);go_simp) <;> with_reducible rfl)
    refine takeL 3 (v:=?_) rfl (by kernel_rfl) (fun _ _ _ h=>h) (Or.inl ⟨by rfl,?_⟩) (by assumption) ?_;rotate_left;focus ((intro w hSw;(try dsimp only at hSw);go_simp) <;> with_reducible rfl)
    refine takeL 4 (v:=?_) rfl (by kernel_rfl) (fun _ _ _ h=>h) (Or.inl ⟨by rfl,?_⟩) (by assumption) ?_;rotate_left;focus ((intro w hSw;(try dsimp only at hSw);go_simp) <;> with_reducible rfl)
    refine takeL 6 (v:=?_) rfl (by kernel_rfl) (fun _ _ _ h=>h) (Or.inl ⟨by rfl,?_⟩) (by assumption) ?_;rotate_left;focus ((intro w hSw;(try dsimp only at hSw);go_simp) <;> with_reducible rfl)
    refine takeL 8 (v:=?_) rfl (by kernel_rfl) (fun _ _ _ h=>h) (Or.inl ⟨by rfl,?_⟩) (by assumption) ?_;rotate_left;focus ((intro w hSw;(try dsimp only at hSw);go_simp) <;> with_reducible rfl)
    refine takeL 9 (v:=?_) rfl (by kernel_rfl) (fun _ _ _ h=>h) (Or.inl ⟨by rfl,?_⟩) (by assumption) ?_;rotate_left;focus ((intro w hSw;(try dsimp only at hSw);go_simp) <;> with_reducible rfl)
    refine wpAnyH_ready (rs:=[2,7]) (by kernel_rfl) (by simp) ?_
    refine consL rfl (fun K hK=>?_) (consL rfl (fun K hK=>?_) AllReadyH.nil)
    all_goals (go_simp;refine hK.out _ _ ?_ (fun hHeld=>?_);(focus (exact hHeld));clear hK K;(try simp only [Act.put,List.setIfInBounds_toArray,List.set_cons_zero,List.set_cons_succ]))
    focus (refine wpAnyH_ready (rs:=[5,7]) (by kernel_rfl) (by simp) ?_;refine consL rfl (fun K hK=>?_) (consL rfl (fun K hK=>?_) AllReadyH.nil))
    rotate_left
    focus (go_simp;refine hK.out _ _ ?_ (fun hHeld=>?_);(focus (exact hHeld));clear hK K;(try simp only [Act.put,List.setIfInBounds_toArray,List.set_cons_zero,List.set_cons_succ]);refine oneL 5 (by kernel_rfl) rfl (fun K hK=>?_))
    rotate_left
    focus (refine oneL 2 (by kernel_rfl) rfl (fun K hK=>?_);go_simp;refine hK.out _ _ ?_ (fun hHeld=>?_);(focus (exact hHeld));clear hK K;(try simp only [Act.put,List.setIfInBounds_toArray,List.set_cons_zero,List.set_cons_succ]);refine oneL 5 (by kernel_rfl) rfl (fun K hK=>?_))
    all_goals (go_simp;go_at_call 62;(with_reducible refine (HC1.out _ Bw.out).mono ?_);rintro e w6 ⟨⟨ma,mn,mc,ml⟩,rfl,h1,h2,h3,-⟩;have M1:=hid h1;have V6:Hid (Below W5.heap.size W5 w6):=btr Bw.out h2;have SB:=hid (SA.out.below V6.out);have o0:=bc1 V6.out g0;have o1:=bc1 V6.out g1;clear h1 h2 h3;(try go_wp2_with fail);refine hK.out _ _ ?_ (fun hHeld=>?_);(focus ((try dsimp only);with_reducible exact SB.out));clear hK K;(try simp only [Act.put,List.setIfInBounds_toArray,List.set_cons_zero,List.set_cons_succ]))
    rotate_left
    focus (refine oneL 7 (by kernel_rfl) rfl (fun K hK=>?_);go_simp;refine hK.out _ _ ?_ (fun hHeld=>?_);(focus (exact hHeld));clear hK K;(try simp only [Act.put,List.setIfInBounds_toArray,List.set_cons_zero,List.set_cons_succ]))
    all_goals (refine oneL 10 (by kernel_rfl) rfl (fun K hK=>?_);go_simp;go_at_call 62;(with_reducible refine (HC2.out _ (btr V6.out Bw.out)).mono ?_);rintro e w7 ⟨⟨ha',hn',hc',hl'⟩,rfl,h1,h2,h3,-⟩;have L1:=hid h1;have V67:Hid (Below w6.heap.size w6 w7):=btr Bw.out h2;have V7:=hid (btr V6.out V67.out);have M2:=hid (M1.out.below V67.out);have SC:=hid (SA.out.below V7.out);clear h1 h2 h3;(try go_wp2_with fail);refine hK.out _ _ ?_ (fun hHeld=>?_);(focus ((try dsimp only);with_reducible exact SC.out));clear hK K;(try simp only [Act.put,List.setIfInBounds_toArray,List.set_cons_zero,List.set_cons_succ]))
    all_goals (refine oneL 11 (by kernel_rfl) rfl (fun K hK=>?_);go_simp;go_at_call 104;(with_reducible refine (HPT.out ⟨ma,mn,mc,ml⟩ ⟨ha',hn',hc',hl'⟩ _ _ _ (btr (btr B5.out V7.out) Bw.out) (M2.out.below Bw.out) (L1.out.below Bw.out)).mono ?_);rintro e w8 ⟨⟨ya',yn',yc',yl'⟩,⟨na',nn',nc',nl'⟩,⟨oa',on',oc',ol'⟩,rfl,h1,h2,h3,h4⟩;have Y8:=hid h1;have N8:=hid h2;have O8:=hid h3;have V8:Hid (Below W5.heap.size W5 w8):=btr V7.out (btr Bw.out h4);have SD:=hid (SA.out.below V8.out);have G8:=hid (G5.out.below V8.out);obtain ⟨⟨b0,b1,b2⟩,⟨c0,c1,c2⟩,dl'⟩:=G8.out.at3;clear h1 h2 h3 h4;(try go_wp2_with fail);refine hK.out _ _ ?_ (fun hHeld=>?_);(focus ((try dsimp only);with_reducible exact SD.out));clear hK K;(try simp only [Act.put,List.setIfInBounds_toArray,List.set_cons_zero,List.set_cons_succ]))
    all_goals (refine oneL 12 (by kernel_rfl) rfl (fun K hK=>?_);go_simp;refine hK.out _ _ ?_ (fun hHeld=>?_);(focus ((try dsimp only);with_reducible exact SD.out.far3 (by omega) (by omega)));clear hK K)
    all_goals refine wpAnyH_done (by kernel_rfl) ?_ _
    all_goals go_wp2
    all_goals go_roundw
    all_goals first
     | (case measure=>simp [intOf];omega)
     | (case rel =>
      have key:=HKEY.out
      refine ⟨k+1,by omega,by go_num,?_,bst (bst (bst (btr B5.out V8.out) _ _ _ (by omega)) _ _ _ (by omega)) _ _ _ (by omega)⟩
      rw [HTK.out]
      refine TrAt.congr (p:=⟨fun x y=>E.R x y∧(fun x y=>YS x y∨K'.yes x y) x y,fun x y=>E.R x y∧(fun x y=>NS x y∧K'.no x y) x y⟩) ⟨⟨ya',yn',yc',yl'⟩,⟨na',nn',nc',nl'⟩,⟨oa',on',oc',ol'⟩,G8.out.put3 rfl,can_st3 G8.out Y8.out,can_st3 G8.out N8.out,can_st3 G8.out O8.out⟩ (fun x y=>?_) (fun x y=>?_)
      ·exact ((key x y).1).trans ⟨fun q=>q.2,fun q=>⟨HFN.out.1 x y q,q⟩⟩
      ·exact (key x y).2)
   ·obtain rfl:k=kids.length:=by omega
    have e:Ks.take kids.length=Ks:=List.take_of_length_le (by omega)
    rw [e] at HT
    obtain ⟨⟨ya,yn,yc,yl⟩,⟨na,nn,nc,nl⟩,⟨oa,on,oc,ol⟩,hB,h1,h2,h3⟩:=HT.out.ex
    have G:=hid hB;have Y1:=hid h1;have N1:=hid h2;have O1:=hid h3
    have A1:=hid (HX.out.beh HB.out)
    clear hB h1 h2 h3 e HT
    go_wp2_with (first
     | (refine wpList_load_row rfl 109 (.tmp 11) rfl g rfl _ #[.slice ya yn yc,.slice na nn nc,.slice oa on oc] _ _ G.out Tryz.underlying109 rfl tuInfo ?_)
     | (refine wpList_store_row rfl 109 (.tmp 4) (.tmp 194) rfl (w.heap.size+1+1) #[.slice ya yn yc,.slice na nn nc,.slice oa on oc] rfl rfl _ _ A1.out.re tuInfo rfl (sq_one _ _ _ rfl rfl rfl) ?_))
    have BR:=setRow_heap wr (w.heap.size+1+1) _ #[.slice ya yn yc,.slice na nn nc,.slice oa on oc] _ _ A1.out.re
    refine bodyPost_ret (results_cell_row rfl _ _ _ _ _ _ _ rfl BR Tryz.underlying109 rfl tuInfo) rfl ?_
    exact (sqP_row (y:=⟨ya,yn,yc,yl⟩) (n:=⟨na,nn,nc,nl⟩) (o:=⟨oa,on,oc,ol⟩) A1.out.re Y1.out N1.out O1.out A1.out.bl (by omega):SqP w _ _ _ _)
theorem formB_ops {op num more:Int} {n:Nat} (h:formB op num more n=true):op=1∨op=2∨op=3∨op=4∨op=5∨op=6∨op=7∨op=8∨op=9∨op=10∨op=11:=by
 unfold formB at h
 rw [Bool.and_eq_true,Bool.and_eq_true] at h
 have h1:=h.1.1
 repeat' split at h1
 all_goals first
  | omega
  | cases h1
theorem reval_any (p:PlM) (hD:p.env.Dis) (hfam:∀ c ∈ p.cr.l,0≤c.family) (t:TmM):∀ (w:World),PlB w p→TmOk w t→t.pl.form=true →
  Calls Tryz.prog 60 #[.agg #[.int .i64 p.parcel,.slice p.rc.a p.rc.n p.rc.c,.int .i64 p.crop,.int .i64 p.schemes,.int .i64 p.year,.slice p.cr.a p.cr.n p.cr.c,.slice p.hi.a p.hi.n p.hi.c,.slice p.zo.a p.zo.n p.zo.c,.int .i64 p.day],.agg (encTm t).toArray] w (SqP w p.env (p.env.ev t.pl)):=by
 obtain ⟨year,day,par,crop,sch,⟨ca,cn,cc,cl⟩,⟨ha,hn,hc,hl⟩,⟨za,zn,zc,zl⟩,⟨ra,rn,rcc,rl⟩⟩:=p
 dsimp only at hfam ⊢
 induction t using TmM.ind with
 | h op num more a n c kids ih =>
  intro w h hT hf
  have hFn:∀ t:Tm,t.form=true→(PlM.mk year day par crop sch ⟨ca,cn,cc,cl⟩ ⟨ha,hn,hc,hl⟩ ⟨za,zn,zc,zl⟩ ⟨ra,rn,rcc,rl⟩).env.Fine ((PlM.mk year day par crop sch ⟨ca,cn,cc,cl⟩ ⟨ha,hn,hc,hl⟩ ⟨za,zn,zc,zl⟩ ⟨ra,rn,rcc,rl⟩).env.ev t):=fun t ht=>Env.fine hD t ht
  rw [TmM.pl_mk] at hf ⊢
  obtain ⟨hfo,hfk⟩:=form_kid hf
  rw [List.length_map,hT.len] at hfo
  have hKid:∀ k ∈ kids,∀ W',Below w.heap.size w W'→Calls Tryz.prog 60 #[.agg #[.int .i64 par,.slice ra rn rcc,.int .i64 crop,.int .i64 sch,.int .i64 year,.slice ca cn cc,.slice ha hn hc,.slice za zn zc,.int .i64 day],.agg (encTm k).toArray] W' (SqP W' (PlM.mk year day par crop sch ⟨ca,cn,cc,cl⟩ ⟨ha,hn,hc,hl⟩ ⟨za,zn,zc,zl⟩ ⟨ra,rn,rcc,rl⟩).env ((PlM.mk year day par crop sch ⟨ca,cn,cc,cl⟩ ⟨ha,hn,hc,hl⟩ ⟨za,zn,zc,zl⟩ ⟨ra,rn,rcc,rl⟩).env.ev k.pl)) :=
   fun k hk W' hW'=>ih k hk W' (h.below hW') ((hT.kid hk).beh hW') (hfk _ (List.mem_map.2 ⟨k,hk,rfl⟩))
  show Calls Tryz.prog _ #[.agg #[.int .i64 par,.slice ra rn rcc,.int .i64 crop,.int .i64 sch,.int .i64 year,.slice ca cn cc,.slice ha hn hc,.slice za zn zc,.int .i64 day],.agg #[.int .i64 op,.int .i64 num,.int .i64 more,.slice a n c]] w _
  rw [Env.ev_mk]
  rcases formB_ops hfo with rfl | rfl | rfl | rfl | rfl | rfl | rfl | rfl | rfl | rfl | rfl
  ·exact reval_1 year day par crop sch ca cn cc cl ha hn hc hl za zn zc zl ra rn rcc rl num more a n c w h
  ·exact reval_2 year day par crop sch ca cn cc cl ha hn hc hl za zn zc zl ra rn rcc rl num more a n c w h
  ·exact reval_3 year day par crop sch ca cn cc cl ha hn hc hl za zn zc zl ra rn rcc rl num more a n c w h
  ·exact reval_4 year day par crop sch ca cn cc cl ha hn hc hl za zn zc zl ra rn rcc rl num more a n c w (by simp [formB] at hfo;exact hfo.1.1) h
  ·exact reval_5 year day par crop sch ca cn cc cl ha hn hc hl za zn zc zl ra rn rcc rl num more a n c w h
  ·exact reval_6 year day par crop sch ca cn cc cl ha hn hc hl za zn zc zl ra rn rcc rl num more a n c w h hD hfam (by simp [formB] at hfo;omega) (by simp [formB] at hfo;omega)
  ·exact reval_7 year day par crop sch ca cn cc cl ha hn hc hl za zn zc zl ra rn rcc rl num more a n c w h hD (by simp [formB] at hfo;omega) (by simp [formB] at hfo;omega) (by simp [formB] at hfo;exact hfo.1.2)
  ·exact reval_8 year day par crop sch ca cn cc cl ha hn hc hl za zn zc zl ra rn rcc rl num more a n c w h (by simp [formB] at hfo;omega) (by simp [formB] at hfo;omega)
  ·have hn1:1≤n:=by simp [formB] at hfo;omega
   have hlk:=hT.len
   cases kids with
   | nil=>simp at hlk;omega
   | cons k0 ks =>
    obtain ⟨b,off,rfl,hbl,hrg⟩:=hT.at_ (k:=0) (by simp)
    have hk0:=hKid k0 List.mem_cons_self
    have hrg0:w.rangeAt b off (encTm k0):=by simpa using hrg
    obtain ⟨op',num',more',a',n',c',kids'⟩:=k0
    refine (reval_9 year day par crop sch ca cn cc cl ha hn hc hl za zn zc zl ra rn rcc rl num more n c op' num' more' a' n' c' b off _ w h hn1 hrg0 hk0 (ks.map fun t=>(PlM.mk year day par crop sch ⟨ca,cn,cc,cl⟩ ⟨ha,hn,hc,hl⟩ ⟨za,zn,zc,zl⟩ ⟨ra,rn,rcc,rl⟩).env.ev t.pl) ks (by simpa using hlk) (by simp) (fun p hp=>?_) hT.cap.1 hT.cap.2 (fun i hi=>?_)).mono fun e w' k=>?_
    ·rcases List.mem_cons.1 hp with rfl | hp
     ·exact hFn _ (hfk _ (List.mem_map.2 ⟨_,List.mem_cons_self,rfl⟩))
     ·obtain ⟨t,ht,rfl⟩:=List.mem_map.1 hp
      exact hFn _ (hfk _ (List.mem_map.2 ⟨t,List.mem_cons_of_mem _ ht,rfl⟩))
    ·obtain ⟨b',off',e',-,hrg'⟩:=hT.at_ (k:=i+1) (by simpa using hi)
     cases e'
     refine ⟨by simpa using hi,hrg',fun W' hW'=>?_⟩
     have:=hKid ks[i] (List.mem_cons_of_mem _ (List.getElem_mem hi)) W' hW'
     simpa using this
    ·refine k.congr (fun x y=>?_) (fun x y=>?_)
     all_goals (simp [cumP,TmM.pl] <;> exact Iff.rfl)
  ·have hn1:1≤n:=by simp [formB] at hfo;omega
   have hlk:=hT.len
   cases kids with
   | nil=>simp at hlk;omega
   | cons k0 ks =>
    obtain ⟨b,off,rfl,hbl,hrg⟩:=hT.at_ (k:=0) (by simp)
    have hk0:=hKid k0 List.mem_cons_self
    have hrg0:w.rangeAt b off (encTm k0):=by simpa using hrg
    obtain ⟨op',num',more',a',n',c',kids'⟩:=k0
    refine (reval_10 year day par crop sch ca cn cc cl ha hn hc hl za zn zc zl ra rn rcc rl num more n c op' num' more' a' n' c' b off _ w h hn1 hrg0 hk0 (ks.map fun t=>(PlM.mk year day par crop sch ⟨ca,cn,cc,cl⟩ ⟨ha,hn,hc,hl⟩ ⟨za,zn,zc,zl⟩ ⟨ra,rn,rcc,rl⟩).env.ev t.pl) ks (by simpa using hlk) (by simp) (fun p hp=>?_) hT.cap.1 hT.cap.2 (fun i hi=>?_)).mono fun e w' k=>?_
    ·rcases List.mem_cons.1 hp with rfl | hp
     ·exact hFn _ (hfk _ (List.mem_map.2 ⟨_,List.mem_cons_self,rfl⟩))
     ·obtain ⟨t,ht,rfl⟩:=List.mem_map.1 hp
      exact hFn _ (hfk _ (List.mem_map.2 ⟨t,List.mem_cons_of_mem _ ht,rfl⟩))
    ·obtain ⟨b',off',e',-,hrg'⟩:=hT.at_ (k:=i+1) (by simpa using hi)
     cases e'
     refine ⟨by simpa using hi,hrg',fun W' hW'=>?_⟩
     have:=hKid ks[i] (List.mem_cons_of_mem _ (List.getElem_mem hi)) W' hW'
     simpa using this
    ·refine k.congr (fun x y=>?_) (fun x y=>?_)
     all_goals (simp [cumP,TmM.pl] <;> exact Iff.rfl)
  ·have hn1:n=1:=by simp [formB] at hfo;omega
   subst hn1
   have hlk:=hT.len
   obtain ⟨k0,rfl⟩:=List.length_eq_one_iff.1 hlk
   obtain ⟨b,off,rfl,hbl,hrg⟩:=hT.at_ (k:=0) (by simp)
   have hk0:=hKid k0 List.mem_cons_self
   have hrg0:w.rangeAt b off (encTm k0):=by simpa using hrg
   obtain ⟨op',num',more',a',n',c',kids'⟩:=k0
   exact reval_11 year day par crop sch ca cn cc cl ha hn hc hl za zn zc zl ra rn rcc rl num more 1 c op' num' more' a' n' c' b off _ w h (Nat.le_refl _) hrg0 hk0
theorem r16eval_any (p:PlM) (t:TmM) (w:World) (h:PlR w p) (ht:TmOk w t) (hz:t.pl.size≤2147483647) :
  Calls Tryz.prog 21 #[.agg (encTm t).toArray,.agg #[.int .i64 p.parcel,.slice p.rc.a p.rc.n p.rc.c,.int .i64 p.crop,.int .i64 p.schemes],.int .i64 p.year,.slice p.cr.a p.cr.n p.cr.c,.slice p.hi.a p.hi.n p.hi.c,.slice p.zo.a p.zo.n p.zo.c,.int .i64 p.day] w (EvP w p t.pl):=by
 obtain ⟨year,day,par,crop,sch,⟨ca,cn,cc,cl⟩,⟨ha,hn,hc,hl⟩,⟨za,zn,zc,zl⟩,⟨ra,rn,rcc,rl⟩⟩:=p
 dsimp only
 have HCK:=hid fun W' (hW':Below w.heap.size w W')=>rcheck_any t W' (ht.beh hW') hz
 have HCC:=hid fun W' (hW':Below w.heap.size w W')=>rccheck_any ⟨ca,cn,cc,cl⟩ W' (h.g.cr.below hW') h.cat
 have HHC:=hid fun (k3:∀ r ∈ hl,wrongB r.crop cn=false) W' (hW':Below w.heap.size w W')=>rhcheck_any ⟨ha,hn,hc,hl⟩ W' (h.g.hi.below hW') h.cap (fun r hr=>(h.g.his r hr).below hW') (h.g.hgood k3)
 have HFC:=hid fun W' (hW':Below w.heap.size w W')=>fcheck_any ⟨za,zn,zc,zl⟩ W' (h.g.zo.below hW') (fun r hr=>(h.g.zos r hr).below hW') h.g.zgood
 have HVC:=hid fun W' (hW':Below w.heap.size w W')=>rvalid_any ra rn rcc rl W' ((h.g.rc.below hW').1.1) h.g.rc.1.2.1 (by have:=h.g.rc.1.2.2;dsimp only at this;omega)
 have HEV:=hid fun (h0:evErr (PlM.mk year day par crop sch ⟨ca,cn,cc,cl⟩ ⟨ha,hn,hc,hl⟩ ⟨za,zn,zc,zl⟩ ⟨ra,rn,rcc,rl⟩) t.pl=0) (h2:¬ ∃ c ∈ cl,mkB c=false) W' (hW':Below w.heap.size w W') =>
  reval_any (PlM.mk year day par crop sch ⟨ca,cn,cc,cl⟩ ⟨ha,hn,hc,hl⟩ ⟨za,zn,zc,zl⟩ ⟨ra,rn,rcc,rl⟩) ((h.g.ok h0 (h.rb (evErr_zero h0).2.2.2.2.2)).hok.dis) (fun c hc=>(h.cat.fam c hc).1) t W' ((h.below hW').plb h0 h2) (ht.beh hW') (chkT_zero (evErr_zero h0).1).2
 have HFN:Hid (evErr (PlM.mk year day par crop sch ⟨ca,cn,cc,cl⟩ ⟨ha,hn,hc,hl⟩ ⟨za,zn,zc,zl⟩ ⟨ra,rn,rcc,rl⟩) t.pl=0→(PlM.mk year day par crop sch ⟨ca,cn,cc,cl⟩ ⟨ha,hn,hc,hl⟩ ⟨za,zn,zc,zl⟩ ⟨ra,rn,rcc,rl⟩).env.Fine ((PlM.mk year day par crop sch ⟨ca,cn,cc,cl⟩ ⟨ha,hn,hc,hl⟩ ⟨za,zn,zc,zl⟩ ⟨ra,rn,rcc,rl⟩).env.ev t.pl)):=fun h0=>Env.fine (E:=(PlM.mk year day par crop sch ⟨ca,cn,cc,cl⟩ ⟨ha,hn,hc,hl⟩ ⟨za,zn,zc,zl⟩ ⟨ra,rn,rcc,rl⟩).env) (h.g.ok h0 (h.rb (evErr_zero h0).2.2.2.2.2)).hok.dis t.pl (chkT_zero (evErr_zero h0).1).2
 have HBD:Hid (evErr (PlM.mk year day par crop sch ⟨ca,cn,cc,cl⟩ ⟨ha,hn,hc,hl⟩ ⟨za,zn,zc,zl⟩ ⟨ra,rn,rcc,rl⟩) t.pl=0→Board (inRc rl)):=fun h0=>h.rb (evErr_zero h0).2.2.2.2.2
 have HVW:=hid h.g.hi
 have HCN:Hid (cn≤40):=h.g.cr.few
 have TI:Hid ((Tryz.prog.info? 24).map (·.size)=some (encTm t).toArray.size):=encTm_info t
 obtain ⟨tb,htb⟩:∃ tb,(encTm t).toArray=tb:=⟨_,rfl⟩
 have C1:=hid fun h=>@ev1 (PlM.mk year day par crop sch ⟨ca,cn,cc,cl⟩ ⟨ha,hn,hc,hl⟩ ⟨za,zn,zc,zl⟩ ⟨ra,rn,rcc,rl⟩) t.pl h
 have C2:=hid fun h h'=>@ev2 (PlM.mk year day par crop sch ⟨ca,cn,cc,cl⟩ ⟨ha,hn,hc,hl⟩ ⟨za,zn,zc,zl⟩ ⟨ra,rn,rcc,rl⟩) t.pl h h'
 have C3:=hid fun h1 h2 h3=>@ev3 (PlM.mk year day par crop sch ⟨ca,cn,cc,cl⟩ ⟨ha,hn,hc,hl⟩ ⟨za,zn,zc,zl⟩ ⟨ra,rn,rcc,rl⟩) t.pl h1 h2 h3
 have C4:=hid fun h1 h2 h3 h4=>@ev4 (PlM.mk year day par crop sch ⟨ca,cn,cc,cl⟩ ⟨ha,hn,hc,hl⟩ ⟨za,zn,zc,zl⟩ ⟨ra,rn,rcc,rl⟩) t.pl h1 h2 h3 h4
 have C5:=hid fun h1 h2 h3 h4 h5=>@ev5 (PlM.mk year day par crop sch ⟨ca,cn,cc,cl⟩ ⟨ha,hn,hc,hl⟩ ⟨za,zn,zc,zl⟩ ⟨ra,rn,rcc,rl⟩) t.pl h1 h2 h3 h4 h5
 have C6:=hid fun h1 h2 h3 h4 h5 h6=>@ev6 (PlM.mk year day par crop sch ⟨ca,cn,cc,cl⟩ ⟨ha,hn,hc,hl⟩ ⟨za,zn,zc,zl⟩ ⟨ra,rn,rcc,rl⟩) t.pl h1 h2 h3 h4 h5 h6
 have C7:=hid fun h1 h2 h3 h4 h5 h6 h7=>@ev7 (PlM.mk year day par crop sch ⟨ca,cn,cc,cl⟩ ⟨ha,hn,hc,hl⟩ ⟨za,zn,zc,zl⟩ ⟨ra,rn,rcc,rl⟩) t.pl h1 h2 h3 h4 h5 h6 h7
 have C8:=hid fun h1 h2 h3 h4 h5 h6 h7 h8=>@ev8 (PlM.mk year day par crop sch ⟨ca,cn,cc,cl⟩ ⟨ha,hn,hc,hl⟩ ⟨za,zn,zc,zl⟩ ⟨ra,rn,rcc,rl⟩) t.pl h1 h2 h3 h4 h5 h6 h7 h8
 have C9:=hid fun h1 h2 h3 h4 h5 h6 h7 h8=>@ev9 (PlM.mk year day par crop sch ⟨ca,cn,cc,cl⟩ ⟨ha,hn,hc,hl⟩ ⟨za,zn,zc,zl⟩ ⟨ra,rn,rcc,rl⟩) t.pl h1 h2 h3 h4 h5 h6 h7 h8
 dsimp only at C2 C3 C4 C5 C6 C7 C8 C9 HHC HCC HFC
 rw [htb] at HCK TI HEV ⊢
 obtain ⟨E,hE⟩:∃ E,(PlM.mk year day par crop sch ⟨ca,cn,cc,cl⟩ ⟨ha,hn,hc,hl⟩ ⟨za,zn,zc,zl⟩ ⟨ra,rn,rcc,rl⟩).env=E:=⟨_,rfl⟩
 rw [hE] at HEV HFN
 have HER:Hid (inRc rl=E.R):=by rw [← hE];rfl
 have HEE:=hid hE
 obtain ⟨W,hW⟩:∃ W,((w.alloc (.cells tb 24)).alloc (.cells #[.int .i64 par,.slice ra rn rcc,.int .i64 crop,.int .i64 sch] 42)).alloc (.cells #[.slice none 0 0,.slice none 0 0,.slice none 0 0] 55)=W:=⟨_,rfl⟩
 have A0:Hid (RvE w tb #[.int .i64 par,.slice ra rn rcc,.int .i64 crop,.int .i64 sch] W):=by
  show RvE _ _ _ _
  rw [← hW]
  exact ⟨((Blk.new w _ _).alloc _).alloc _,(Blk.fresh (by simp)).alloc _,Blk.fresh (by simp),Bw.out⟩
 obtain ⟨x1,hx1⟩:∃ x,chkT t.pl=x:=⟨_,rfl⟩
 rw [hx1] at HCK C1 C2 C3 C4 C5 C6 C7 C8 C9
 clear h ht hz htb hE
 go_enter Tryz.func21,Tryz.ntmps21
 go_upto_region 2 with (first
  | (refine wpList_load_row rfl 24 (.tmp 7) rfl w.heap.size rfl _ tb _ _ A0.out.tm Tryz.underlying24 rfl TI.out ?_)
  | (go_at_call 41;refine (HCK.out _ A0.out.bl).mono ?_;rintro e w1 ⟨rfl,hb1⟩;have A1:=hid (A0.out.beh hb1);clear hb1))
 by_cases k1:x1=0
 case neg =>
  have q1:((x1:Int) == 0)=false:=by simpa using k1
  have K1:=hid k1
  clear k1
  go_wp2_with (first
   | (refine wpList_store_row rfl 55 (.tmp 14) (.tmp 27) rfl (w.heap.size+1+1) #[.slice none 0 0,.slice none 0 0,.slice none 0 0] rfl rfl _ _ A1.out.re trInfo rfl (sq_one _ _ _ rfl rfl rfl) ?_))
  have B9:=setRow_heap w1 (w.heap.size+1+1) _ #[.slice none 0 0,.slice none 0 0,.slice none 0 0] _ _ A1.out.re
  exact bodyPost_ret (v:=.tuple #[.agg #[.slice none 0 0,.slice none 0 0,.slice none 0 0],.int .i64 x1]) (by simp [results,Tryz.results21,go_sem,Blk.cell B9]) rfl (rvE_err A1.out (C1.out K1.out) K1.out)
 subst k1
 go_upto_region 5 with (go_at_call 56;refine (HCC.out _ A1.out.bl).mono ?_;rintro e w2 ⟨x2,rfl,hx2,hb2⟩;have X2:=hid hx2;have A2:=hid (A1.out.beh hb2);clear hb2 hx2)
 by_cases k2:x2=0
 case neg =>
  have q2:((x2:Int) == 0)=false:=by simpa using k2
  have K2:=hid k2
  clear k2
  go_wp2_with (first
   | (refine wpList_store_row rfl 55 (.tmp 14) (.tmp 33) rfl (w.heap.size+1+1) #[.slice none 0 0,.slice none 0 0,.slice none 0 0] rfl rfl _ _ A2.out.re trInfo rfl (sq_one _ _ _ rfl rfl rfl) ?_))
  have B9:=setRow_heap w2 (w.heap.size+1+1) _ #[.slice none 0 0,.slice none 0 0,.slice none 0 0] _ _ A2.out.re
  exact bodyPost_ret (v:=.tuple #[.agg #[.slice none 0 0,.slice none 0 0,.slice none 0 0],.int .i64 x2]) (by simp [results,Tryz.results21,go_sem,Blk.cell B9]) rfl (rvE_err A2.out (by have:=(cchk_if X2.out).2 K2.out;rw [this];exact C2.out trivial ((cchk_if X2.out).1.1 K2.out)) K2.out)
 subst k2
 have N2:Hid (¬ ∃ c ∈ cl,mkB c=false):=fun k=>((cchk_if X2.out).1.2 k) rfl
 have c2:w2.cell? ⟨w.heap.size+1,2,none⟩=some (.int .i64 crop):=A2.out.li.cell 2
 have hcn:cn≤9223372036854775807:=by have:=HCN.out;omega
 by_cases k3:wrongB crop cn=true
 case pos =>
  have K3:=hid k3
  rw [wrongB_iff] at k3
  rcases k3 with k3 | k3
  ·go_wp2_with (first
    | (refine wpList_store_row rfl 55 (.tmp 14) (.tmp 45) rfl (w.heap.size+1+1) #[.slice none 0 0,.slice none 0 0,.slice none 0 0] rfl rfl _ _ A2.out.re trInfo rfl (sq_one _ _ _ rfl rfl rfl) ?_))
   have B9:=setRow_heap w2 (w.heap.size+1+1) _ #[.slice none 0 0,.slice none 0 0,.slice none 0 0] _ _ A2.out.re
   exact bodyPost_ret (v:=.tuple #[.agg #[.slice none 0 0,.slice none 0 0,.slice none 0 0],.int .i64 13]) (by simp [results,Tryz.results21,go_sem,Blk.cell B9]) rfl (rvE_err A2.out (C3.out trivial N2.out (.inl K3.out)) (by decide))
  ·have k3':¬ crop<0:=by omega
   go_wp2_with (first
    | (refine wpList_store_row rfl 55 (.tmp 14) (.tmp 45) rfl (w.heap.size+1+1) #[.slice none 0 0,.slice none 0 0,.slice none 0 0] rfl rfl _ _ A2.out.re trInfo rfl (sq_one _ _ _ rfl rfl rfl) ?_))
   have B9:=setRow_heap w2 (w.heap.size+1+1) _ #[.slice none 0 0,.slice none 0 0,.slice none 0 0] _ _ A2.out.re
   exact bodyPost_ret (v:=.tuple #[.agg #[.slice none 0 0,.slice none 0 0,.slice none 0 0],.int .i64 13]) (by simp [results,Tryz.results21,go_sem,Blk.cell B9]) rfl (rvE_err A2.out (C3.out trivial N2.out (.inl K3.out)) (by decide))
 have k3':wrongB crop cn=false:=by simpa using k3
 obtain ⟨k31,k32⟩:=wrongB_no k3'
 have K3:=hid k3'
 have k33:¬ crop<0:=by omega
 have k34:¬ (cn:Int)≤crop:=by omega
 clear k3 k3'
 go_wp2
 go_loopw [48] (fun v wr=>∃ k:Nat,k≤hn∧v=.int .i64 k∧(∀ j (hj:j<hl.length),j<k→wrongB hl[j].crop cn=false)∧Below w2.heap.size w2 wr) (fun v _=>hn - (intOf v).toNat)
 case atStart=>exact ⟨0,Nat.zero_le _,rfl,(fun j _ h=>absurd h (Nat.not_lt_zero j)),Below.refl _ _⟩
 case round =>
 obtain ⟨k,hk,rfl,hall,hb⟩:=hrel
 have A3:=hid (A2.out.beh hb);have ALL:=hid hall;have HB3:=hid hb
 have HLN:=HVW.out.len
 have HFW:=HVW.out.few
 dsimp only at HLN HFW
 clear hall hb c2
 by_cases hlt:k<hn
 ·have hke:k<hl.length:=by omega
  obtain ⟨b,off,rfl,hbl,hrg⟩:=(HVW.out.vw.below A3.out.bl).range (k:=3) (fun x _=>encRcd_len x) (by omega) k hke
  have HRG:=hid hrg
  clear hrg
  obtain ⟨kt,hkt⟩:∃ kt,hl[k]=kt:=⟨_,rfl⟩
  have HKT:=hid hkt
  rw [hkt] at HRG
  clear hkt
  obtain ⟨ry,rcr,⟨sa,sn,sc,srl⟩⟩:=kt
  by_cases k4:wrongB rcr cn=true
  ·have K4:=hid k4
   have W4:Hid (∃ r ∈ hl,wrongB r.crop cn=true):=⟨_,List.getElem_mem hke,by rw [HKT.out];exact K4.out⟩
   rw [wrongB_iff] at k4
   rcases k4 with k4 | k4
   ·go_wp2_with (first
     | (refine wpList_load_mid rfl 47 (.tmp 50) rfl b (off+k * 3) rfl [.int .i64 ry,.int .i64 rcr,.slice sa sn sc] _ HRG.out Tryz.underlying47 rfl rdInfo ?_)
     | (refine st_new rfl 47 (.tmp 19) (.tmp 51) rfl #[.int .i64 ry,.int .i64 rcr,.slice sa sn sc] _ _ rfl rfl rdInfo rfl (rd_one _ _ _ _ _) ?_)
     | (refine wpList_store_row rfl 55 (.tmp 14) (.tmp 62) rfl (w.heap.size+1+1) #[.slice none 0 0,.slice none 0 0,.slice none 0 0] rfl rfl _ _ (A3.out.beh (X':=wr.alloc (.cells #[.int .i64 ry,.int .i64 rcr,.slice sa sn sc] 47)) Bw.out).re trInfo rfl (sq_one _ _ _ rfl rfl rfl) ?_))
    have B9:=setRow_heap _ (w.heap.size+1+1) _ #[.slice none 0 0,.slice none 0 0,.slice none 0 0] _ _ (A3.out.beh (X':=wr.alloc (.cells #[.int .i64 ry,.int .i64 rcr,.slice sa sn sc] 47)) Bw.out).re
    exact bodyPost_ret (v:=.tuple #[.agg #[.slice none 0 0,.slice none 0 0,.slice none 0 0],.int .i64 13]) (by simp [results,Tryz.results21,go_sem,Blk.cell B9]) rfl (rvE_err (A3.out.beh (X':=wr.alloc (.cells #[.int .i64 ry,.int .i64 rcr,.slice sa sn sc] 47)) Bw.out) (C3.out trivial N2.out (.inr W4.out)) (by decide))
   ·have k4':¬ rcr<0:=by omega
    go_wp2_with (first
     | (refine wpList_load_mid rfl 47 (.tmp 50) rfl b (off+k * 3) rfl [.int .i64 ry,.int .i64 rcr,.slice sa sn sc] _ HRG.out Tryz.underlying47 rfl rdInfo ?_)
     | (refine st_new rfl 47 (.tmp 19) (.tmp 51) rfl #[.int .i64 ry,.int .i64 rcr,.slice sa sn sc] _ _ rfl rfl rdInfo rfl (rd_one _ _ _ _ _) ?_)
     | (refine wpList_store_row rfl 55 (.tmp 14) (.tmp 62) rfl (w.heap.size+1+1) #[.slice none 0 0,.slice none 0 0,.slice none 0 0] rfl rfl _ _ (A3.out.beh (X':=wr.alloc (.cells #[.int .i64 ry,.int .i64 rcr,.slice sa sn sc] 47)) Bw.out).re trInfo rfl (sq_one _ _ _ rfl rfl rfl) ?_))
    have B9:=setRow_heap _ (w.heap.size+1+1) _ #[.slice none 0 0,.slice none 0 0,.slice none 0 0] _ _ (A3.out.beh (X':=wr.alloc (.cells #[.int .i64 ry,.int .i64 rcr,.slice sa sn sc] 47)) Bw.out).re
    exact bodyPost_ret (v:=.tuple #[.agg #[.slice none 0 0,.slice none 0 0,.slice none 0 0],.int .i64 13]) (by simp [results,Tryz.results21,go_sem,Blk.cell B9]) rfl (rvE_err (A3.out.beh (X':=wr.alloc (.cells #[.int .i64 ry,.int .i64 rcr,.slice sa sn sc] 47)) Bw.out) (C3.out trivial N2.out (.inr W4.out)) (by decide))
  ·have k4':wrongB rcr cn=false:=by simpa using k4
   obtain ⟨k41,k42⟩:=wrongB_no k4'
   have K4:=hid k4'
   have k43:¬ rcr<0:=by omega
   have k44:¬ (cn:Int)≤rcr:=by omega
   clear k4 k4'
   go_wp2_with (first
    | (refine wpList_load_mid rfl 47 (.tmp 50) rfl b (off+k * 3) rfl [.int .i64 ry,.int .i64 rcr,.slice sa sn sc] _ HRG.out Tryz.underlying47 rfl rdInfo ?_)
    | (refine st_new rfl 47 (.tmp 19) (.tmp 51) rfl #[.int .i64 ry,.int .i64 rcr,.slice sa sn sc] _ _ rfl rfl rdInfo rfl (rd_one _ _ _ _ _) ?_)
    | fail)
   go_roundw
   case rel =>
    refine ⟨k+1,by omega,by go_num,fun j hj hjk=>?_,(by (repeat (with_reducible first | exact HB3.out | exact Below.refl _ _ | refine bdr ?_ | refine bdn ?_ _ | refine bal ?_ _)))⟩
    by_cases e:j=k
    ·subst e;rw [HKT.out];exact K4.out
    ·exact ALL.out j hj (by omega)
   case measure=>simp [intOf];omega
 obtain rfl:k=hn:=by omega
 have N3:Hid (∀ r ∈ hl,wrongB r.crop cn=false):=fun r hr=>by
  obtain ⟨j,hj,rfl⟩:=List.getElem_of_mem hr
  exact ALL.out j hj (by omega)
 have M3:Hid (¬ (wrongB crop cn=true∨∃ r ∈ hl,wrongB r.crop cn=true)):=by
  show ¬ _
  rintro (q | ⟨r,hr,q⟩)
  ·rw [K3.out] at q;cases q
  ·rw [N3.out r hr] at q;cases q
 have HH:=hid (HHC.out N3.out)
 clear HHC
 go_upto_region 16 with (go_at_call 57;refine (HH.out _ A3.out.bl).mono ?_;rintro e w4 ⟨x4,rfl,hx4,hb4⟩;have X4:=hid hx4;have A4:=hid (A3.out.beh hb4);clear hb4 hx4)
 by_cases k4:x4=0
 case neg =>
  have q4:((x4:Int) == 0)=false:=by simpa using k4
  have K4:=hid k4
  clear k4
  go_wp2_with (first
   | (refine wpList_store_row rfl 55 (.tmp 14) (.tmp 68) rfl (w.heap.size+1+1) #[.slice none 0 0,.slice none 0 0,.slice none 0 0] rfl rfl _ _ A4.out.re trInfo rfl (sq_one _ _ _ rfl rfl rfl) ?_))
  have B9:=setRow_heap w4 (w.heap.size+1+1) _ #[.slice none 0 0,.slice none 0 0,.slice none 0 0] _ _ A4.out.re
  exact bodyPost_ret (v:=.tuple #[.agg #[.slice none 0 0,.slice none 0 0,.slice none 0 0],.int .i64 x4]) (by simp [results,Tryz.results21,go_sem,Blk.cell B9]) rfl (rvE_err A4.out (by have:=(hchk_if X4.out).2 K4.out;rw [this];exact C4.out trivial N2.out M3.out ((hchk_if X4.out).1.1 K4.out)) K4.out)
 subst k4
 have M4:Hid (HSort (hl.map RcdM.pl)):=Classical.byContradiction fun k=>((hchk_if X4.out).1.2 k) rfl
 by_cases k5:year<0
 case pos =>
  have K5:=hid k5
  go_wp2_with (first
   | (refine wpList_store_row rfl 55 (.tmp 14) (.tmp 76) rfl (w.heap.size+1+1) #[.slice none 0 0,.slice none 0 0,.slice none 0 0] rfl rfl _ _ A4.out.re trInfo rfl (sq_one _ _ _ rfl rfl rfl) ?_))
  have B9:=setRow_heap w4 (w.heap.size+1+1) _ #[.slice none 0 0,.slice none 0 0,.slice none 0 0] _ _ A4.out.re
  exact bodyPost_ret (v:=.tuple #[.agg #[.slice none 0 0,.slice none 0 0,.slice none 0 0],.int .i64 18]) (by simp [results,Tryz.results21,go_sem,Blk.cell B9]) rfl (rvE_err A4.out (C5.out trivial N2.out M3.out M4.out (.inl K5.out)) (by decide))
 by_cases k6:100<year
 case pos =>
  have K6:=hid k6
  go_wp2_with (first
   | (refine wpList_store_row rfl 55 (.tmp 14) (.tmp 76) rfl (w.heap.size+1+1) #[.slice none 0 0,.slice none 0 0,.slice none 0 0] rfl rfl _ _ A4.out.re trInfo rfl (sq_one _ _ _ rfl rfl rfl) ?_))
  have B9:=setRow_heap w4 (w.heap.size+1+1) _ #[.slice none 0 0,.slice none 0 0,.slice none 0 0] _ _ A4.out.re
  exact bodyPost_ret (v:=.tuple #[.agg #[.slice none 0 0,.slice none 0 0,.slice none 0 0],.int .i64 18]) (by simp [results,Tryz.results21,go_sem,Blk.cell B9]) rfl (rvE_err A4.out (C5.out trivial N2.out M3.out M4.out (.inr K6.out)) (by decide))
 have M5:Hid (¬ (year<0∨100<year)):=by show ¬ _;omega
 go_upto_region 21 with (go_at_call 58;refine (HFC.out _ A4.out.bl).mono ?_;rintro e w5 ⟨x5,rfl,hx5,hb5⟩;have X5:=hid hx5;have A5:=hid (A4.out.beh hb5);clear hb5 hx5)
 by_cases k7:x5=0
 case neg =>
  have q7:((x5:Int) == 0)=false:=by simpa using k7
  have K7:=hid k7
  clear k7
  go_wp2_with (first
   | (refine wpList_store_row rfl 55 (.tmp 14) (.tmp 81) rfl (w.heap.size+1+1) #[.slice none 0 0,.slice none 0 0,.slice none 0 0] rfl rfl _ _ A5.out.re trInfo rfl (sq_one _ _ _ rfl rfl rfl) ?_))
  have B9:=setRow_heap w5 (w.heap.size+1+1) _ #[.slice none 0 0,.slice none 0 0,.slice none 0 0] _ _ A5.out.re
  exact bodyPost_ret (v:=.tuple #[.agg #[.slice none 0 0,.slice none 0 0,.slice none 0 0],.int .i64 x5]) (by simp [results,Tryz.results21,go_sem,Blk.cell B9]) rfl (rvE_err A5.out (by have:=(lchk_if X5.out).2 K7.out;rw [this];exact C6.out trivial N2.out M3.out M4.out M5.out ((lchk_if X5.out).1.1 K7.out)) K7.out)
 subst k7
 have M6:Hid (¬ ∃ f ∈ zl.map FtrM.pl,kindOk f.kind=false):=fun k=>((lchk_if X5.out).1.2 k) rfl
 by_cases k8:day<0
 case pos =>
  have K8:=hid k8
  go_wp2_with (first
   | (refine wpList_store_row rfl 55 (.tmp 14) (.tmp 89) rfl (w.heap.size+1+1) #[.slice none 0 0,.slice none 0 0,.slice none 0 0] rfl rfl _ _ A5.out.re trInfo rfl (sq_one _ _ _ rfl rfl rfl) ?_))
  have B9:=setRow_heap w5 (w.heap.size+1+1) _ #[.slice none 0 0,.slice none 0 0,.slice none 0 0] _ _ A5.out.re
  exact bodyPost_ret (v:=.tuple #[.agg #[.slice none 0 0,.slice none 0 0,.slice none 0 0],.int .i64 9]) (by simp [results,Tryz.results21,go_sem,Blk.cell B9]) rfl (rvE_err A5.out (C7.out trivial N2.out M3.out M4.out M5.out M6.out (by have:=K8.out;omega)) (by decide))
 by_cases k9:36864<day
 case pos =>
  have K9:=hid k9
  go_wp2_with (first
   | (refine wpList_store_row rfl 55 (.tmp 14) (.tmp 89) rfl (w.heap.size+1+1) #[.slice none 0 0,.slice none 0 0,.slice none 0 0] rfl rfl _ _ A5.out.re trInfo rfl (sq_one _ _ _ rfl rfl rfl) ?_))
  have B9:=setRow_heap w5 (w.heap.size+1+1) _ #[.slice none 0 0,.slice none 0 0,.slice none 0 0] _ _ A5.out.re
  exact bodyPost_ret (v:=.tuple #[.agg #[.slice none 0 0,.slice none 0 0,.slice none 0 0],.int .i64 9]) (by simp [results,Tryz.results21,go_sem,Blk.cell B9]) rfl (rvE_err A5.out (C7.out trivial N2.out M3.out M4.out M5.out M6.out (by have:=K9.out;omega)) (by decide))
 have M7:Hid (0≤day∧day≤36864):=by show _∧_;omega
 have c5:w5.cell? ⟨w.heap.size+1,1,none⟩=some (.slice ra rn rcc):=A5.out.li.cell 1
 by_cases k10:Vld rl
 case neg =>
  have K10:=hid k10
  have HV2:Hid (∀ W',Below w.heap.size w W'→Calls Tryz.prog 59 #[.agg #[.slice ra rn rcc]] W' fun e w'=>e=.returned (.bool false)∧Below W'.heap.size W' w'):=fun W' hW'=>(HVC.out W' hW').mono fun e w' ⟨b,he,hb,hbl⟩=>⟨by
   cases b with
   | true=>exact absurd (hb.1 rfl) K10.out
   | false=>exact he,hbl⟩
  go_wp2_with (first
   | (go_at_call 59;refine (HV2.out _ A5.out.bl).mono ?_;rintro e w6 ⟨rfl,hb6⟩;have A6:=hid (A5.out.beh hb6);clear hb6)
   | (refine wpList_store_row rfl 55 (.tmp 14) (.tmp 94) rfl (w.heap.size+1+1) #[.slice none 0 0,.slice none 0 0,.slice none 0 0] rfl rfl _ _ A6.out.re trInfo rfl (sq_one _ _ _ rfl rfl rfl) ?_))
  have B9:=setRow_heap w6 (w.heap.size+1+1) _ #[.slice none 0 0,.slice none 0 0,.slice none 0 0] _ _ A6.out.re
  exact bodyPost_ret (v:=.tuple #[.agg #[.slice none 0 0,.slice none 0 0,.slice none 0 0],.int .i64 7]) (by simp [results,Tryz.results21,go_sem,Blk.cell B9]) rfl (rvE_err A6.out (C8.out trivial N2.out M3.out M4.out M5.out M6.out M7.out K10.out) (by decide))
 have HV2:Hid (∀ W',Below w.heap.size w W'→Calls Tryz.prog 59 #[.agg #[.slice ra rn rcc]] W' fun e w'=>e=.returned (.bool true)∧Below W'.heap.size W' w'):=fun W' hW'=>(HVC.out W' hW').mono fun e w' ⟨b,he,hb,hbl⟩=>⟨by rw [hb.2 k10] at he;exact he,hbl⟩
 have Z:=hid (C9.out trivial N2.out M3.out M4.out M5.out M6.out M7.out k10)
 have HE2:=hid (HEV.out Z.out N2.out)
 have HF2:=hid (HFN.out Z.out)
 have HB2:=hid (HBD.out Z.out)
 have HR2:Hid (Board E.R):=by show Board _;rw [← HER.out];exact HB2.out
 clear k10 HEV HFN HBD HVC
 (try dsimp only at HE2)
 go_upto_region 28 with (first
  | (go_at_call 59;refine (HV2.out _ A5.out.bl).mono ?_;rintro e w6 ⟨rfl,hb6⟩;have A6:=hid (A5.out.beh hb6);clear hb6)
  | (refine wpList_load_row rfl 42 (.tmp 8) rfl (w.heap.size+1) rfl _ #[.int .i64 par,.slice ra rn rcc,.int .i64 crop,.int .i64 sch] _ _ A6.out.li Tryz.underlying42 rfl (by kernel_rfl) ?_)
  | (refine wpList_load_row rfl 24 (.tmp 7) rfl w.heap.size rfl _ tb _ _ A6.out.tm Tryz.underlying24 rfl TI.out ?_)
  | (go_at_call 60;refine (HE2.out _ A6.out.bl).mono ?_;rintro e w7 ⟨⟨ya,yn,yc,yl⟩,⟨na,nn,nc,nl⟩,⟨oa,on,oc,ol⟩,rfl,hy,hno,ho,hb7⟩;have A7:=hid (A6.out.beh hb7);have HY:=hid hy;have HN:=hid hno;have HO:=hid ho;clear hb7 hy hno ho)
  | (refine st_new rfl 109 (.tmp 22) (.tmp 103) rfl #[.slice ya yn yc,.slice na nn nc,.slice oa on oc] _ _ rfl rfl tuInfo rfl (sq_one _ _ _ rfl rfl rfl) ?_))
 have ly:yn≤120:=canS_few HY.out fun a b k=>HR2.out a b (HF2.out.yes a b k)
 have ln:nn≤120:=canS_few HN.out fun a b k=>HR2.out a b (HF2.out.no a b k)
 have lo:on≤120:=canS_few HO.out fun a b k=>HR2.out a b k.1
 have ly':¬ (120:Int)<(yn:Int):=by omega
 have ln':¬ (120:Int)<(nn:Int):=by omega
 have lo':¬ (120:Int)<(on:Int):=by omega
 obtain ⟨W9,hW9⟩:∃ W9,w7.alloc (.cells #[.slice ya yn yc,.slice na nn nc,.slice oa on oc] 109)=W9:=⟨_,rfl⟩
 have BQ:Hid (Below w7.heap.size w7 W9):=by show Below _ _ _;rw [← hW9];exact Bw.out
 have BS:Hid (Blk W9 w7.heap.size 109 #[.slice ya yn yc,.slice na nn nc,.slice oa on oc]):=by show Blk _ _ _ _;rw [← hW9];exact Blk.new _ _ _
 have s0:W9.cell? ⟨w7.heap.size,0,none⟩=some (.slice ya yn yc):=BS.out.cell 0
 have s1:W9.cell? ⟨w7.heap.size,1,none⟩=some (.slice na nn nc):=BS.out.cell 1
 have s2:W9.cell? ⟨w7.heap.size,2,none⟩=some (.slice oa on oc):=BS.out.cell 2
 have A9:=hid (A7.out.beh BQ.out)
 have HY9:=hid (HY.out.below BQ.out);have HN9:=hid (HN.out.below BQ.out);have HO9:=hid (HO.out.below BQ.out)
 rw [hW9]
 clear hW9 c5
 go_wp2_with (refine wpList_store_row rfl 55 (.tmp 14) (.tmp 130) rfl (w.heap.size+1+1) #[.slice ya yn yc,.slice na nn nc,.slice oa on oc] rfl rfl _ _ A9.out.re trInfo rfl (sq_one _ _ _ rfl rfl rfl) ?_)
 have B9:=setRow_heap W9 (w.heap.size+1+1) _ #[.slice ya yn yc,.slice na nn nc,.slice oa on oc] _ _ A9.out.re
 refine bodyPost_ret (v:=.tuple #[.agg #[.slice ya yn yc,.slice na nn nc,.slice oa on oc],.int .i64 0]) (by simp [results,Tryz.results21,go_sem,Blk.cell B9]) rfl (.inr ⟨Z.out,⟨ya,yn,yc,yl⟩,⟨na,nn,nc,nl⟩,⟨oa,on,oc,ol⟩,rfl,?_⟩)
 rw [HEE.out]
 exact ⟨can_row3 A9.out.re HY9.out,can_row3 A9.out.re HN9.out,can_row3 A9.out.re HO9.out,below_setRow A9.out.bl (by omega) _,HF2.out⟩
end Go.Proofs.YtancajcelmhnkaaGreatDoor
