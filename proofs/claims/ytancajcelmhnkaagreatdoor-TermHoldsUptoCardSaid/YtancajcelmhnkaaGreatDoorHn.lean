/- ref16.place: all,part. (Printed by gen4/rpl.py.) -/
import Derived.Test.YtancajcelmhnkaaGreatDoorHl
set_option maxRecDepth 100000
set_option maxHeartbeats 4000000
namespace Go.Proofs.YtancajcelmhnkaaGreatDoor
open Go.RowKit Go.Sort Go.Shelf
set_option linter.unusedVariables false
set_option linter.unusedSimpArgs false
structure PlB (w:World) (p:PlM):Prop where
 ok:PlOk w p
 rb:Board (inRc p.rc.l)
 hc:∀ r ∈ p.hi.l,IsCan (inRc r.s.l) r.s.l∧Board (inRc r.s.l)
 zc:∀ r ∈ p.zo.l,IsCan (inRc r.s.l) r.s.l∧Board (inRc r.s.l)
 mks:∀ c ∈ p.cr.l,mkB c=true
theorem PlB.below {w w':World} {p:PlM} (h:PlB w p) (hb:Below w.heap.size w w'):PlB w' p:=⟨h.ok.below hb,h.rb,h.hc,h.zc,h.mks⟩
theorem PlB.rcs {w:World} {p:PlM} (h:PlB w p):CanS w p.env.R p.rc:=⟨h.ok.rc,h.ok.can⟩
theorem tuInfo:(Tryz.prog.info? 109).map (·.size)=some 3:=by kernel_rfl
theorem rplInfo:(Tryz.prog.info? 111).map (·.size)=some 9:=by kernel_rfl
theorem tr_ap3 {w:World} {p:Nat} {T:TypeId} {x y z:Option Addr} {n k n' k' n'' k'':Nat} {s:Sc Rc} (hB:Blk w p T #[.slice x n k,.slice y n' k',.slice z n'' k'']) (h:ScOk2 w s) (hl:s.l ≠ []):∀ g off,s.a=some ⟨g,off,none⟩→g ≠ p:=by
 rintro g off e rfl
 obtain ⟨q,t,hq⟩:=List.exists_cons_of_ne_nil hl
 have h0:(rcCells s.l)[0]? = some (.int .i64 q.1):=by rw [hq];rfl
 obtain ⟨c0,o0,e0,hc0⟩:=h.1.1 0 _ h0
 rw [e] at e0
 cases e0
 rw [hB.cell] at hc0
 have ho:off+0<3:=by
  have:=(Array.getElem?_eq_some_iff.1 hc0).1
  simpa using this
 have hc:off=0∨off=1∨off=2:=by omega
 rcases hc with rfl | rfl | rfl <;> simp at hc0
theorem can_st3 {w:World} {g:Nat} {T:TypeId} {S:Sq} {s:Sc Rc} {x y z:Option Addr} {n k n' k' n'' k'':Nat} {u0 u1 u2:Value} (hB:Blk w g T #[.slice x n k,.slice y n' k',.slice z n'' k'']) (h:CanS w S s) :
  CanS (((w.setCell ⟨g,0,none⟩ u0).setCell ⟨g,1,none⟩ u1).setCell ⟨g,2,none⟩ u2) S s:=by
 by_cases hl:s.l=[]
 ·exact ⟨ok_nil h.ok hl,h.can⟩
 ·have hf:FarS g s:=fun _=>tr_ap3 hB h.ok hl
  exact can_set hf (can_set hf (can_set hf h))
theorem can_row3 {w:World} {g:Nat} {t:TypeId} {S:Sq} {s:Sc Rc} {x y z:Option Addr} {n k n' k' n'' k'':Nat} {cs:Array Value} (hB:Blk w g t #[.slice x n k,.slice y n' k',.slice z n'' k'']) (h:CanS w S s):CanS (w.setRow g cs) S s:=by
 by_cases hl:s.l=[]
 ·exact ⟨ok_nil h.ok hl,h.can⟩
 ·exact ⟨ok_setRow h.ok fun b off e=>tr_ap3 hB h.ok hl b off e,h.can⟩
theorem sqP_row {w w1:World} {g:Nat} {t:TypeId} {E:Env} {p:Pr} {y n o:Sc Rc} {a b c:Option Addr} {m k m' k' m'' k'':Nat} {cs:Array Value} (hB:Blk w1 g t #[.slice a m k,.slice b m' k',.slice c m'' k'']) (hy:CanS w1 p.yes y) (hn:CanS w1 p.no n) (ho:CanS w1 (E.rest p) o) (hb:Below w.heap.size w w1) (hg:w.heap.size≤g) :
  SqP w E p (.returned (.agg #[.slice y.a y.n y.c,.slice n.a n.n n.c,.slice o.a o.n o.c])) (w1.setRow g cs) :=
 ⟨y,n,o,rfl,can_row3 hB hy,can_row3 hB hn,can_row3 hB ho,below_setRow hb hg _⟩
theorem sqP_set3 {w w1:World} {g:Nat} {t:TypeId} {E:Env} {p:Pr} {y n o:Sc Rc} {a b c:Option Addr} {m k m' k' m'' k'':Nat} {u0 u1 u2:Value} (hB:Blk w1 g t #[.slice a m k,.slice b m' k',.slice c m'' k'']) (hy:CanS w1 p.yes y) (hn:CanS w1 p.no n) (ho:CanS w1 (E.rest p) o) (hb:Below w.heap.size w w1) (hg:w.heap.size≤g) :
  SqP w E p (.returned (.agg #[.slice y.a y.n y.c,.slice n.a n.n n.c,.slice o.a o.n o.c])) (((w1.setCell ⟨g,0,none⟩ u0).setCell ⟨g,1,none⟩ u1).setCell ⟨g,2,none⟩ u2) :=
 ⟨y,n,o,rfl,can_st3 hB hy,can_st3 hB hn,can_st3 hB ho,bst (bst (bst hb _ _ _ hg) _ _ _ hg) _ _ _ hg⟩
theorem can_cell3 {w:World} {g i:Nat} {t:TypeId} {S:Sq} {s:Sc Rc} {x y z:Option Addr} {n k n' k' n'' k'':Nat} {v:Value} (hB:Blk w g t #[.slice x n k,.slice y n' k',.slice z n'' k'']) (h:CanS w S s):CanS (w.setCell ⟨g,i,none⟩ v) S s:=by
 by_cases hl:s.l=[]
 ·exact ⟨ok_nil h.ok hl,h.can⟩
 ·exact can_set (fun _=>tr_ap3 hB h.ok hl) h
theorem SqP.congr {w:World} {E:Env} {p q:Pr} {e:Ending} {w':World} (h:SqP w E p e w') (h1:∀ x y,p.yes x y↔q.yes x y) (h2:∀ x y,p.no x y↔q.no x y):SqP w E q e w':=by
 obtain ⟨y,n,o,he,k1,k2,k3,k4⟩:=h
 exact ⟨y,n,o,he,k1.congr h1,k2.congr h2,k3.congr fun x y=>and_congr Iff.rfl (and_congr (not_congr (h1 x y)) (not_congr (h2 x y))),k4⟩
theorem SqP.base {w w0:World} {E:Env} {p:Pr} {e:Ending} {w':World} (h:SqP w E p e w') (hb:Below w0.heap.size w0 w):SqP w0 E p e w':=by
 obtain ⟨y,n,o,he,k1,k2,k3,k4⟩:=h
 exact ⟨y,n,o,he,k1,k2,k3,btr hb k4⟩
theorem rall_any (year day par crop sch:Int) (ca:Option Addr) (cn cc:Nat) (cl:List Crp) (ha:Option Addr) (hn hc:Nat) (hl:List RcdM) (za:Option Addr) (zn zc:Nat) (zl:List FtrM) (ra:Option Addr) (rn rcc:Nat) (rl:List Rc) (b:Bool) (w:World) (h:CanS w (PlM.mk year day par crop sch ⟨ca,cn,cc,cl⟩ ⟨ha,hn,hc,hl⟩ ⟨za,zn,zc,zl⟩ ⟨ra,rn,rcc,rl⟩).env.R ⟨ra,rn,rcc,rl⟩):Calls Tryz.prog 102 #[.agg #[.int .i64 par,.slice ra rn rcc,.int .i64 crop,.int .i64 sch,.int .i64 year,.slice ca cn cc,.slice ha hn hc,.slice za zn zc,.int .i64 day],.bool b] w (SqP w (PlM.mk year day par crop sch ⟨ca,cn,cc,cl⟩ ⟨ha,hn,hc,hl⟩ ⟨za,zn,zc,zl⟩ ⟨ra,rn,rcc,rl⟩).env ((PlM.mk year day par crop sch ⟨ca,cn,cc,cl⟩ ⟨ha,hn,hc,hl⟩ ⟨za,zn,zc,zl⟩ ⟨ra,rn,rcc,rl⟩).env.whole b)):=by
 have W0:Blk ((w.alloc (.cells #[.int .i64 par,.slice ra rn rcc,.int .i64 crop,.int .i64 sch,.int .i64 year,.slice ca cn cc,.slice ha hn hc,.slice za zn zc,.int .i64 day] 111)).alloc (.cells #[.slice none 0 0,.slice none 0 0,.slice none 0 0] 109)) w.heap.size 111 #[.int .i64 par,.slice ra rn rcc,.int .i64 crop,.int .i64 sch,.int .i64 year,.slice ca cn cc,.slice ha hn hc,.slice za zn zc,.int .i64 day]:=(Blk.new w _ _).alloc _
 have c1:((w.alloc (.cells #[.int .i64 par,.slice ra rn rcc,.int .i64 crop,.int .i64 sch,.int .i64 year,.slice ca cn cc,.slice ha hn hc,.slice za zn zc,.int .i64 day] 111)).alloc (.cells #[.slice none 0 0,.slice none 0 0,.slice none 0 0] 109)).cell? ⟨w.heap.size,1,none⟩=some (.slice ra rn rcc):=W0.cell 1
 have HR:=hid h
 clear W0 h
 have e1:(w.alloc (.cells #[.int .i64 par,.slice ra rn rcc,.int .i64 crop,.int .i64 sch,.int .i64 year,.slice ca cn cc,.slice ha hn hc,.slice za zn zc,.int .i64 day] 111)).heap.size=w.heap.size+1:=by simp
 cases b with
 | true =>
  go_enter Tryz.func102,Tryz.ntmps102
  go_wp2_with (refine st_new rfl 109 (.tmp 4) (.tmp 10) rfl #[.slice ra rn rcc,.slice none 0 0,.slice none 0 0] _ _ rfl rfl tuInfo rfl (sq_one _ _ _ rfl rfl rfl) ?_)
  refine bodyPost_ret (results_cell_row rfl _ _ (w.heap.size+1) _ _ _ _ rfl (Blk.fresh (by simp)) Tryz.underlying109 rfl tuInfo) rfl ?_
  exact ⟨⟨ra,rn,rcc,rl⟩,nilSc,nilSc,rfl,HR.out.below Bw.out,canS_nil _ (fun x y c=>c),canS_nil _ (fun x y c=>c.2.1 c.1),Bw.out⟩
 | false =>
  go_enter Tryz.func102,Tryz.ntmps102
  go_wp2_with (refine st_new rfl 109 (.tmp 4) (.tmp 15) rfl #[.slice none 0 0,.slice ra rn rcc,.slice none 0 0] _ _ rfl rfl tuInfo rfl (sq_one _ _ _ rfl rfl rfl) ?_)
  refine bodyPost_ret (results_cell_row rfl _ _ (w.heap.size+1) _ _ _ _ rfl (Blk.fresh (by simp)) Tryz.underlying109 rfl tuInfo) rfl ?_
  exact ⟨nilSc,⟨ra,rn,rcc,rl⟩,nilSc,rfl,canS_nil _ (fun x y c=>c),HR.out.below Bw.out,canS_nil _ (fun x y c=>c.2.2 c.1),Bw.out⟩
theorem rpart_any (year day par crop sch:Int) (ca:Option Addr) (cn cc:Nat) (cl:List Crp) (ha:Option Addr) (hn hc:Nat) (hl:List RcdM) (za:Option Addr) (zn zc:Nat) (zl:List FtrM) (ra:Option Addr) (rn rcc:Nat) (rl:List Rc) (s t:Sc Rc) (S N:Sq) (w:World) (h:CanS w (PlM.mk year day par crop sch ⟨ca,cn,cc,cl⟩ ⟨ha,hn,hc,hl⟩ ⟨za,zn,zc,zl⟩ ⟨ra,rn,rcc,rl⟩).env.R ⟨ra,rn,rcc,rl⟩) (hb:Board (PlM.mk year day par crop sch ⟨ca,cn,cc,cl⟩ ⟨ha,hn,hc,hl⟩ ⟨za,zn,zc,zl⟩ ⟨ra,rn,rcc,rl⟩).env.R) (hs:CanS w S s) (ht:CanS w N t) :
  Calls Tryz.prog 104 #[.agg #[.int .i64 par,.slice ra rn rcc,.int .i64 crop,.int .i64 sch,.int .i64 year,.slice ca cn cc,.slice ha hn hc,.slice za zn zc,.int .i64 day],.slice s.a s.n s.c,.slice t.a t.n t.c] w (SqP w (PlM.mk year day par crop sch ⟨ca,cn,cc,cl⟩ ⟨ha,hn,hc,hl⟩ ⟨za,zn,zc,zl⟩ ⟨ra,rn,rcc,rl⟩).env ⟨fun x y=>(PlM.mk year day par crop sch ⟨ca,cn,cc,cl⟩ ⟨ha,hn,hc,hl⟩ ⟨za,zn,zc,zl⟩ ⟨ra,rn,rcc,rl⟩).env.R x y∧S x y,fun x y=>(PlM.mk year day par crop sch ⟨ca,cn,cc,cl⟩ ⟨ha,hn,hc,hl⟩ ⟨za,zn,zc,zl⟩ ⟨ra,rn,rcc,rl⟩).env.R x y∧N x y⟩):=by
 obtain ⟨E,hE⟩:∃ E,(PlM.mk year day par crop sch ⟨ca,cn,cc,cl⟩ ⟨ha,hn,hc,hl⟩ ⟨za,zn,zc,zl⟩ ⟨ra,rn,rcc,rl⟩).env=E:=⟨_,rfl⟩
 rw [hE] at h hb ⊢
 obtain ⟨sa,sn,sc,sl⟩:=s
 obtain ⟨ta,tn,tc,tl⟩:=t
 dsimp only
 obtain ⟨W,hW⟩:∃ W,(w.alloc (.cells #[.int .i64 par,.slice ra rn rcc,.int .i64 crop,.int .i64 sch,.int .i64 year,.slice ca cn cc,.slice ha hn hc,.slice za zn zc,.int .i64 day] 111)).alloc (.cells #[.slice none 0 0,.slice none 0 0,.slice none 0 0] 109)=W:=⟨_,rfl⟩
 have W0:RowKit.Hid (Blk W w.heap.size 111 #[.int .i64 par,.slice ra rn rcc,.int .i64 crop,.int .i64 sch,.int .i64 year,.slice ca cn cc,.slice ha hn hc,.slice za zn zc,.int .i64 day]):=by show Blk _ _ _ _;rw [← hW];exact (Blk.new w _ _).alloc _
 have Z0:RowKit.Hid (Blk W (w.heap.size+1) 109 #[.slice none 0 0,.slice none 0 0,.slice none 0 0]):=by show Blk _ _ _ _;rw [← hW];exact Blk.fresh (by simp)
 have BB:RowKit.Hid (Below w.heap.size w W):=by show Below _ _ _;rw [← hW];exact Bw.out
 have c1:W.cell? ⟨w.heap.size,1,none⟩=some (.slice ra rn rcc):=W0.out.cell 1
 have y0:w.heap.size+1<W.heap.size:=Z0.out.lt
 have HR:=hid (h.below BB.out);have HS:=hid (hs.below BB.out);have HT:=hid (ht.below BB.out);have HB:=hid hb
 clear h hs ht hb hE
 have H1:=hid (andS HR.out HS.out HB.out)
 dsimp only at H1
 go_enter Tryz.func104,Tryz.ntmps104
 go_upto_region 3 with (first
  | (go_at_call 62;(with_reducible refine H1.out.mono ?_);rintro e w1 ⟨⟨ya,yn,yc,yl⟩,rfl,h1,h2,h3,-⟩;have Y1:=hid h1;have B1:=hid h2;have F1:=hid h3;have H2:=hid (andS (HR.out.below h2) (HT.out.below h2) HB.out);dsimp only at H2;clear h1 h2 h3 H1)
  | (go_at_call 62;(with_reducible refine H2.out.mono ?_);rintro e w2 ⟨⟨na,nn,nc,nl⟩,rfl,h1,h2,h3,-⟩;have N2:=hid h1;have Y2:=hid (Y1.out.below h2);have B2:=hid (btr B1.out h2);clear h1 h2 h3 H2 Y1 B1 F1)
  | (refine st_new rfl 109 (.tmp 8) (.tmp 19) rfl #[.slice ya yn yc,.slice na nn nc,.slice none 0 0] _ _ rfl rfl tuInfo rfl (sq_one _ _ _ rfl rfl rfl) ?_))
 obtain ⟨W2,hW2⟩:∃ W2,w2.alloc (.cells #[.slice ya yn yc,.slice na nn nc,.slice none 0 0] 109)=W2:=⟨_,rfl⟩
 have Q2:RowKit.Hid (Below w2.heap.size w2 W2):=by show Below _ _ _;rw [← hW2];exact Bw.out
 have G2:RowKit.Hid (Blk W2 w2.heap.size 109 #[.slice ya yn yc,.slice na nn nc,.slice none 0 0]):=by show Blk _ _ _ _;rw [← hW2];exact Blk.new _ _ _
 have Y3:=hid (Y2.out.below Q2.out);have N3:=hid (N2.out.below Q2.out);have R3:=hid ((HR.out.below B2.out).below Q2.out);have Z3:=hid ((Z0.out.below B2.out).below Q2.out)
 have y2:=B2.out.size
 have y3:=G2.out.lt
 rw [hW2]
 clear hW2 Y2 N2 W0 c1 HR HS HT Z0
 have g0:W2.cell? ⟨w2.heap.size,0,none⟩=some (.slice ya yn yc):=G2.out.cell 0
 have g1:W2.cell? ⟨w2.heap.size,1,none⟩=some (.slice na nn nc):=G2.out.cell 1
 have g2:=G2.out.free 2
 have H3:=hid fun W' (hW':Below W2.heap.size W2 W')=>notS (R3.out.below hW') (Y3.out.below hW') HB.out
 dsimp only at H3
 (try dsimp only [Act.put])
 go_cut [] (fun wx=>∃ o:Sc Rc,Blk wx w2.heap.size 109 #[.slice ya yn yc,.slice na nn nc,.slice o.a o.n o.c]∧CanS wx (fun x y=>(E.R x y∧¬ (E.R x y∧S x y))∧¬ (E.R x y∧N x y)) o∧CanS wx (fun x y=>E.R x y∧S x y) ⟨ya,yn,yc,yl⟩∧CanS wx (fun x y=>E.R x y∧N x y) ⟨na,nn,nc,nl⟩∧Blk wx (w.heap.size+1) 109 #[.slice none 0 0,.slice none 0 0,.slice none 0 0]∧Below w2.heap.size w2 wx)
 case first =>
  go_region_held3 (fun w'=>w'.cell? ⟨w2.heap.size,0,none⟩=some (.slice ya yn yc)∧w'.cell? ⟨w2.heap.size,1,none⟩=some (.slice na nn nc)) (first | exact ⟨g0,g1⟩ | exact ⟨d0,d1⟩ | exact ⟨e0,e1⟩ | simp [go_sem, *])
   (first
    | (go_at_call 62;(with_reducible refine (H3.out _ Bw.out).mono ?_);rintro e w3 ⟨⟨xa,xn,xc,xl⟩,rfl,h1,h2,h3,-⟩;have X3:=hid h1;have V3:RowKit.Hid (Below W2.heap.size W2 w3):=btr Bw.out h2;have d0:=bc1 V3.out g0;have d1:=bc1 V3.out g1;have H4:=hid fun W' (hW':Below w3.heap.size w3 W')=>notS (X3.out.below hW') ((N3.out.below V3.out).below hW') (fun x y k=>HB.out x y k.1);(try dsimp only at H4);clear h1 h2 h3)
    | (go_at_call 62;(with_reducible refine (H4.out _ Bw.out).mono ?_);rintro e w4 ⟨⟨oa,on,oc,ol⟩,rfl,h1,h2,h3,-⟩;have O4:=hid h1;have V4:RowKit.Hid (Below W2.heap.size W2 w4):=btr V3.out (btr Bw.out h2);have e0:=bc1 V4.out g0;have e1:=bc1 V4.out g1;have G4:=hid (G2.out.below V4.out);have e2:=G4.out.free 2;have e3:=G4.out.lt;have e4:w4.cell? ⟨w2.heap.size,2,none⟩=some (.slice none 0 0):=G4.out.cell 2;clear h1 h2 h3))
  all_goals go_wp2
  all_goals go_meet
  all_goals (case rel=>exact ⟨⟨oa,on,oc,ol⟩,G4.out.put 2 (.slice oa on oc),can_cell3 G4.out O4.out,can_cell3 G4.out (Y3.out.below V4.out),can_cell3 G4.out (N3.out.below V4.out),(Z3.out.below V4.out).far _ _ _ (by omega),bst (btr Q2.out V4.out) _ _ _ (Nat.le_refl _)⟩)
 case rest =>
 obtain ⟨⟨oa,on,oc,ol⟩,hG,hO,hY,hN,hZ,hB5⟩:=hcut
 have GG:=hid hG;have ZZ:=hid hZ
 go_wp2_with (first
  | (refine wpList_load_row rfl 109 (.tmp 8) rfl w2.heap.size rfl _ #[.slice ya yn yc,.slice na nn nc,.slice oa on oc] _ _ GG.out Tryz.underlying109 rfl tuInfo ?_)
  | (refine wpList_store_row rfl 109 (.tmp 6) (.tmp 28) rfl (w.heap.size+1) #[.slice ya yn yc,.slice na nn nc,.slice oa on oc] rfl rfl _ _ ZZ.out tuInfo rfl (sq_one _ _ _ rfl rfl rfl) ?_))
 have BR:=setRow_heap wc (w.heap.size+1) _ #[.slice ya yn yc,.slice na nn nc,.slice oa on oc] _ _ ZZ.out
 refine bodyPost_ret (results_cell_row rfl _ _ _ _ _ _ _ rfl BR Tryz.underlying109 rfl tuInfo) rfl ?_
 exact sqP_row (E:=E) (p:=⟨fun x y=>E.R x y∧S x y,fun x y=>E.R x y∧N x y⟩) (y:=⟨ya,yn,yc,yl⟩) (n:=⟨na,nn,nc,nl⟩) (o:=⟨oa,on,oc,ol⟩) ZZ.out hY hN (hO.congr fun x y=>⟨fun k=>⟨k.1.1,k.1.2,k.2⟩,fun k=>⟨⟨k.1,k.2.1⟩,k.2.2⟩⟩) (btr (btr BB.out B2.out) hB5) (by omega)
theorem rname_0 (w:World):Calls Tryz.prog 159 #[.string ⟨#[98,97,114,108,101,121]⟩] w fun e w'=>e=.returned (.bool true)∧Below w.heap.size w w':=by
 go_enter Tryz.func159,Tryz.ntmps159
 go_wp2
 go_rounds 7
 go_ret
 exact ⟨rfl,Below.refl _ _⟩
theorem rname_1 (w:World):Calls Tryz.prog 159 #[.string ⟨#[99,108,111,118,101,114]⟩] w fun e w'=>e=.returned (.bool true)∧Below w.heap.size w w':=by
 go_enter Tryz.func159,Tryz.ntmps159
 go_wp2
 go_rounds 7
 go_ret
 exact ⟨rfl,Below.refl _ _⟩
theorem rname_2 (w:World):Calls Tryz.prog 159 #[.string ⟨#[103,114,97,115,115]⟩] w fun e w'=>e=.returned (.bool true)∧Below w.heap.size w w':=by
 go_enter Tryz.func159,Tryz.ntmps159
 go_wp2
 go_rounds 6
 go_ret
 exact ⟨rfl,Below.refl _ _⟩
theorem rname_3 (w:World):Calls Tryz.prog 159 #[.string ⟨#[109,97,105,122,101]⟩] w fun e w'=>e=.returned (.bool true)∧Below w.heap.size w w':=by
 go_enter Tryz.func159,Tryz.ntmps159
 go_wp2
 go_rounds 6
 go_ret
 exact ⟨rfl,Below.refl _ _⟩
theorem rname_4 (w:World):Calls Tryz.prog 159 #[.string ⟨#[111,97,116,115]⟩] w fun e w'=>e=.returned (.bool true)∧Below w.heap.size w w':=by
 go_enter Tryz.func159,Tryz.ntmps159
 go_wp2
 go_rounds 5
 go_ret
 exact ⟨rfl,Below.refl _ _⟩
theorem rname_5 (w:World):Calls Tryz.prog 159 #[.string ⟨#[114,121,101]⟩] w fun e w'=>e=.returned (.bool true)∧Below w.heap.size w w':=by
 go_enter Tryz.func159,Tryz.ntmps159
 go_wp2
 go_rounds 4
 go_ret
 exact ⟨rfl,Below.refl _ _⟩
theorem rname_6 (w:World):Calls Tryz.prog 159 #[.string ⟨#[118,101,116,99,104]⟩] w fun e w'=>e=.returned (.bool true)∧Below w.heap.size w w':=by
 go_enter Tryz.func159,Tryz.ntmps159
 go_wp2
 go_rounds 6
 go_ret
 exact ⟨rfl,Below.refl _ _⟩
theorem rname_7 (w:World):Calls Tryz.prog 159 #[.string ⟨#[119,104,101,97,116]⟩] w fun e w'=>e=.returned (.bool true)∧Below w.heap.size w w':=by
 go_enter Tryz.func159,Tryz.ntmps159
 go_wp2
 go_rounds 6
 go_ret
 exact ⟨rfl,Below.refl _ _⟩
theorem rname_any (k:Nat) (hk:k<8) (W:World):Calls Tryz.prog 159 #[.string (nm8[k]'hk)] W fun e w'=>e=.returned (.bool true)∧Below W.heap.size W w':=by
 match k,hk with
 | 0,_=>exact rname_0 W
 | 1,_=>exact rname_1 W
 | 2,_=>exact rname_2 W
 | 3,_=>exact rname_3 W
 | 4,_=>exact rname_4 W
 | 5,_=>exact rname_5 W
 | 6,_=>exact rname_6 W
 | 7,_=>exact rname_7 W
 | n+8,h=>omega
theorem rone12_ok (nm:ByteArray) (fa mk:Int) (w:World) (hn:∀ W:World,Calls Tryz.prog 159 #[.string nm] W fun e w'=>e=.returned (.bool true)∧Below W.heap.size W w') (f1:0≤fa) (f2:fa≤40) (m1:0≤mk) (m2:mk≤31) :
  Calls Tryz.prog 100 #[.agg #[.string nm,.int .i64 fa,.int .i64 mk]] w fun e w'=>e=.returned (.int .i64 0)∧Below w.heap.size w w':=by
 have HN:=hid hn
 clear hn
 obtain ⟨W,hW⟩:∃ W,w.alloc (.cells #[.string nm,.int .i64 fa,.int .i64 mk] 44)=W:=⟨_,rfl⟩
 have B0:RowKit.Hid (Blk W w.heap.size 44 #[.string nm,.int .i64 fa,.int .i64 mk]):=by show Blk _ _ _ _;rw [← hW];exact Blk.new w _ _
 have BB:RowKit.Hid (Below w.heap.size w W):=by show Below _ _ _;rw [← hW];exact Bw.out
 have x0:W.cell? ⟨w.heap.size,0,none⟩=some (.string nm):=B0.out.cell 0
 go_enter Tryz.func100,Tryz.ntmps100
 go_wp2_with (go_at_call 159;refine (HN.out _).mono ?_;rintro e w1 ⟨rfl,hb1⟩;have B1:=hid (B0.out.below hb1);have y1:w1.cell? ⟨w.heap.size,1,none⟩=some (.int .i64 fa):=B1.out.cell 1;have y2:w1.cell? ⟨w.heap.size,2,none⟩=some (.int .i64 mk):=B1.out.cell 2)
 go_ret
 exact ⟨rfl,btr BB.out hb1⟩
theorem rone12_lo (nm:ByteArray) (fa mk:Int) (w:World) (hn:∀ W:World,Calls Tryz.prog 159 #[.string nm] W fun e w'=>e=.returned (.bool true)∧Below W.heap.size W w') (f1:0≤fa) (f2:fa≤40) (m1:mk<0) :
  Calls Tryz.prog 100 #[.agg #[.string nm,.int .i64 fa,.int .i64 mk]] w fun e w'=>e=.returned (.int .i64 14)∧Below w.heap.size w w':=by
 have HN:=hid hn
 clear hn
 obtain ⟨W,hW⟩:∃ W,w.alloc (.cells #[.string nm,.int .i64 fa,.int .i64 mk] 44)=W:=⟨_,rfl⟩
 have B0:RowKit.Hid (Blk W w.heap.size 44 #[.string nm,.int .i64 fa,.int .i64 mk]):=by show Blk _ _ _ _;rw [← hW];exact Blk.new w _ _
 have BB:RowKit.Hid (Below w.heap.size w W):=by show Below _ _ _;rw [← hW];exact Bw.out
 have x0:W.cell? ⟨w.heap.size,0,none⟩=some (.string nm):=B0.out.cell 0
 go_enter Tryz.func100,Tryz.ntmps100
 go_wp2_with (go_at_call 159;refine (HN.out _).mono ?_;rintro e w1 ⟨rfl,hb1⟩;have B1:=hid (B0.out.below hb1);have y1:w1.cell? ⟨w.heap.size,1,none⟩=some (.int .i64 fa):=B1.out.cell 1;have y2:w1.cell? ⟨w.heap.size,2,none⟩=some (.int .i64 mk):=B1.out.cell 2)
 go_ret
 exact ⟨rfl,btr BB.out hb1⟩
theorem rone12_hi (nm:ByteArray) (fa mk:Int) (w:World) (hn:∀ W:World,Calls Tryz.prog 159 #[.string nm] W fun e w'=>e=.returned (.bool true)∧Below W.heap.size W w') (f1:0≤fa) (f2:fa≤40) (m1:31<mk) :
  Calls Tryz.prog 100 #[.agg #[.string nm,.int .i64 fa,.int .i64 mk]] w fun e w'=>e=.returned (.int .i64 14)∧Below w.heap.size w w':=by
 have HN:=hid hn
 clear hn
 obtain ⟨W,hW⟩:∃ W,w.alloc (.cells #[.string nm,.int .i64 fa,.int .i64 mk] 44)=W:=⟨_,rfl⟩
 have B0:RowKit.Hid (Blk W w.heap.size 44 #[.string nm,.int .i64 fa,.int .i64 mk]):=by show Blk _ _ _ _;rw [← hW];exact Blk.new w _ _
 have BB:RowKit.Hid (Below w.heap.size w W):=by show Below _ _ _;rw [← hW];exact Bw.out
 have x0:W.cell? ⟨w.heap.size,0,none⟩=some (.string nm):=B0.out.cell 0
 have m0:¬ mk<0:=by omega
 go_enter Tryz.func100,Tryz.ntmps100
 go_wp2_with (go_at_call 159;refine (HN.out _).mono ?_;rintro e w1 ⟨rfl,hb1⟩;have B1:=hid (B0.out.below hb1);have y1:w1.cell? ⟨w.heap.size,1,none⟩=some (.int .i64 fa):=B1.out.cell 1;have y2:w1.cell? ⟨w.heap.size,2,none⟩=some (.int .i64 mk):=B1.out.cell 2)
 go_ret
 exact ⟨rfl,btr BB.out hb1⟩
theorem rone12_any (nm:ByteArray) (fa mk:Int) (w:World) (hn:∀ W:World,Calls Tryz.prog 159 #[.string nm] W fun e w'=>e=.returned (.bool true)∧Below W.heap.size W w') (hf:0≤fa∧fa≤40) :
  Calls Tryz.prog 100 #[.agg #[.string nm,.int .i64 fa,.int .i64 mk]] w fun e w'=>e=.returned (.int .i64 (if decide (0≤mk∧mk≤31) then 0 else 14))∧Below w.heap.size w w':=by
 by_cases h:0≤mk∧mk≤31
 ·rw [decide_eq_true h];exact rone12_ok nm fa mk w hn hf.1 hf.2 h.1 h.2
 ·rw [decide_eq_false h]
  by_cases k:mk<0
  ·exact rone12_lo nm fa mk w hn hf.1 hf.2 k
  ·exact rone12_hi nm fa mk w hn hf.1 hf.2 (by omega)
theorem rccheck_any (s:Sc Crp) (w:World) (hR:Rws encCrp w s 40) (hg:Cat s.l) :
  Calls Tryz.prog 56 #[.slice s.a s.n s.c] w fun e w'=>∃ x,e=.returned (.int .i64 x)∧CChk s.l x∧Below w.heap.size w w':=by
 obtain ⟨a,n,c,l⟩:=s
 dsimp only at hg ⊢
 have HR:=hid hR;have HG:=hid hg
 have hn:l.length=n:=hR.len
 have HN:=hid hn
 have hm:n≤40:=hR.few
 have h60:¬ (40:Int)<(n:Int):=by omega
 clear hR hg hn
 go_enter Tryz.func56,Tryz.ntmps56
 go_wp2
 go_loopw [11] (fun i wr=>∃ k:Nat,k≤n∧i=.int .i64 k∧(∀ j (h:j<l.length),j<k→mkB l[j]=true)∧Below w.heap.size w wr) (fun i _=>n - (intOf i).toNat)
 case atStart=>exact ⟨0,Nat.zero_le _,rfl,(fun j _ h=>absurd h (Nat.not_lt_zero j)),Below.refl _ _⟩
 case round =>
  obtain ⟨k,hk,rfl,hno,hb⟩:=hrel
  have NO:=hid hno;have HB:=hid hb
  clear hno hb
  by_cases hlt:k<n
  ·have hke:k<l.length:=by rw [HN.out];exact hlt
   obtain ⟨b,off,rfl,hbl,hrg⟩:=HR.out.vw.range (k:=3) (fun x _=>encCrp_len x) (by omega) k hke
   have HRG:=hid (rangeAt_below hrg HB.out)
   have HFO:=hid fun W=>rone12_any l[k].name l[k].family l[k].marks W (fun W'=>by rw [HG.out.name k hke];exact rname_any k _ W') (HG.out.fam _ (List.getElem_mem hke))
   obtain ⟨kd,hkd⟩:∃ kd,mkB l[k]=kd:=⟨_,rfl⟩
   have hkd2:=hkd
   unfold mkB at hkd2
   rw [hkd2] at HFO
   have HKD:=hid hkd
   clear hrg hkd hkd2
   have HPV:RowKit.Hid (∀ m,k=m+1→∃ hm:m<l.length,wr.cell? ⟨b,off+m * 3,none⟩=some (.string l[m].name)∧Op.bytesLess l[k].name.toList l[m].name.toList=false∧(l[k].name.toList == l[m].name.toList)=false):=fun m hm=>by
    subst hm
    have hml:m<l.length:=by omega
    obtain ⟨b',off',e,_,hrg'⟩:=HR.out.vw.range (k:=3) (fun x _=>encCrp_len x) (by omega) m hml
    cases e
    exact ⟨hml,(rangeAt_below hrg' HB.out) 0 _ rfl,HG.out.toM.asc m hke⟩
   obtain ⟨q,hq⟩:∃ q,l[k]=q:=⟨_,rfl⟩
   rw [hq] at HRG HFO HPV
   clear hq
   obtain ⟨nm,fa,mk⟩:=q
   dsimp only [encCrp] at HRG HFO HPV
   obtain ⟨W1,hW1⟩:∃ W1,wr.alloc (.cells #[.string nm,.int .i64 fa,.int .i64 mk] 44)=W1:=⟨_,rfl⟩
   have BX:RowKit.Hid (Blk W1 wr.heap.size 44 #[.string nm,.int .i64 fa,.int .i64 mk]):=by show Blk _ _ _ _;rw [← hW1];exact Blk.new _ _ _
   have BW:RowKit.Hid (Below wr.heap.size wr W1):=by show Below _ _ _;rw [← hW1];exact Bw.out
   cases kd with
   | false =>
    go_wp2_with (first
     | (refine wpList_load_mid rfl 44 (.tmp 14) rfl b (off+k * 3) rfl [.string nm,.int .i64 fa,.int .i64 mk] _ HRG.out Tryz.underlying44 rfl cpInfo ?_)
     | (refine st_new rfl 44 (.tmp 4) (.tmp 15) rfl #[.string nm,.int .i64 fa,.int .i64 mk] _ _ rfl rfl cpInfo rfl (cp_one _ _ _) ?_;rw [hW1])
     | (refine wpList_load_row rfl 44 (.tmp 4) rfl wr.heap.size rfl _ #[.string nm,.int .i64 fa,.int .i64 mk] _ _ BX.out Tryz.underlying44 rfl cpInfo ?_)
     | (go_at_call 100;refine (HFO.out _).mono ?_;rintro e w1 ⟨rfl,hb1⟩))
    go_ret
    exact ⟨14,rfl,⟨fun h=>absurd (h _ (List.getElem_mem hke)) (by rw [HKD.out];decide),fun _=>rfl⟩,btr (btr HB.out BW.out) hb1⟩
   | true =>
    cases k with
    | zero =>
     go_wp2_with (first
      | (refine wpList_load_mid rfl 44 (.tmp 14) rfl b (off+0 * 3) rfl [.string nm,.int .i64 fa,.int .i64 mk] _ HRG.out Tryz.underlying44 rfl cpInfo ?_)
      | (refine st_new rfl 44 (.tmp 4) (.tmp 15) rfl #[.string nm,.int .i64 fa,.int .i64 mk] _ _ rfl rfl cpInfo rfl (cp_one _ _ _) ?_;rw [hW1])
      | (refine wpList_load_row rfl 44 (.tmp 4) rfl wr.heap.size rfl _ #[.string nm,.int .i64 fa,.int .i64 mk] _ _ BX.out Tryz.underlying44 rfl cpInfo ?_)
      | (go_at_call 100;refine (HFO.out _).mono ?_;rintro e w1 ⟨rfl,hb1⟩))
     go_quiet (fail)
     go_wp2
     go_roundw
     case rel =>
      refine ⟨1,by omega,by go_num,fun j hj hjk=>?_,(by (repeat (with_reducible first | exact btr (btr HB.out BW.out) hb1 | exact Below.refl _ _ | refine bdr ?_ | refine bdn ?_ _ | refine bal ?_ _)))⟩
      obtain rfl:j=0:=by omega
      exact HKD.out
     case measure=>simp [intOf];omega
    | succ m =>
     obtain ⟨hml,p0,l1,l2⟩:=HPV.out m rfl
     obtain ⟨pn,hpn⟩:∃ pn,l[m].name=pn:=⟨_,rfl⟩
     rw [hpn] at p0 l1 l2
     clear hpn
     go_wp2_with (first
      | (refine wpList_load_mid rfl 44 (.tmp 14) rfl b (off+(m+1) * 3) rfl [.string nm,.int .i64 fa,.int .i64 mk] _ HRG.out Tryz.underlying44 rfl cpInfo ?_)
      | (refine st_new rfl 44 (.tmp 4) (.tmp 15) rfl #[.string nm,.int .i64 fa,.int .i64 mk] _ _ rfl rfl cpInfo rfl (cp_one _ _ _) ?_;rw [hW1])
      | (refine wpList_load_row rfl 44 (.tmp 4) rfl wr.heap.size rfl _ #[.string nm,.int .i64 fa,.int .i64 mk] _ _ BX.out Tryz.underlying44 rfl cpInfo ?_)
      | (go_at_call 100;refine (HFO.out _).mono ?_;rintro e w1 ⟨rfl,hb1⟩;have q0:=bc1 (btr BW.out hb1) p0;have y0:w1.cell? ⟨wr.heap.size,0,none⟩=some (.string nm):=(BX.out.below hb1).cell 0))
     go_quiet (fail)
     go_wp2
     go_roundw
     case rel =>
      refine ⟨m+1+1,by omega,by go_num,fun j hj hjk=>?_,(by (repeat (with_reducible first | exact btr (btr HB.out BW.out) hb1 | exact Below.refl _ _ | refine bdr ?_ | refine bdn ?_ _ | refine bal ?_ _)))⟩
      by_cases e:j=m+1
      ·subst e;exact HKD.out
      ·exact NO.out j hj (by omega)
     case measure=>simp [intOf];omega
  ·go_wp2
   go_ret
   refine ⟨0,rfl,⟨fun _=>rfl,fun ⟨f,hf,h⟩=>?_⟩,HB.out⟩
   obtain ⟨j,hj,rfl⟩:=List.getElem_of_mem hf
   rw [NO.out j hj (by have:=HN.out;omega)] at h
   cases h
end Go.Proofs.YtancajcelmhnkaaGreatDoor
