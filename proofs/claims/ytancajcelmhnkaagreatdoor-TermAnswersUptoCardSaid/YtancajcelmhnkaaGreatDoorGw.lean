/- term.Eval. -/
import Derived.Test.YtancajcelmhnkaaGreatDoorGx
import Derived.Test.YtancajcelmhnkaaGreatDoorEval
set_option maxRecDepth 100000
set_option maxHeartbeats 8000000
namespace Go.Proofs.YtancajcelmhnkaaGreatDoor
open Go.RowKit Go.Sort Go.Shelf
set_option linter.unusedVariables false
set_option linter.unusedSimpArgs false
def Of1P (w:World) (l:List Rc) (e:Ending) (w':World):Prop:=∃ a n c,e=.returned (.agg #[.slice a n c])∧ScOk2 w' ⟨a,n,c,l⟩∧Below w.heap.size w w'∧∀ b off,a=some ⟨b,off,none⟩→w.heap.size≤b
theorem eval1_any (s:Sc Rc) (w:World) (h:ScOk2 w s):Calls Tryz.prog 54 #[.slice s.a s.n s.c] w (Of1P w s.l):=by
 obtain ⟨W,hW⟩:∃ W,w.alloc (.cells #[.slice none 0 0] 38)=W:=⟨_,rfl⟩
 have B1:RowKit.Hid (Blk W w.heap.size 38 #[.slice none 0 0]):=by show Blk _ _ _ _;rw [← hW];exact Blk.new w _ _
 have BB:RowKit.Hid (Below w.heap.size w W):=by show Below _ _ _;rw [← hW];exact Bw.out
 have HC:=hid (cloneS_any s W (h.below BB.out))
 have H:=hid h
 obtain ⟨a,n,c,l⟩:=s
 dsimp only at HC ⊢
 clear h
 go_enter Tryz.func54,Tryz.ntmps54
 go_wp2_with (first
  | (go_at_call 55;refine HC.out.mono ?_;rintro e w1 ⟨v1,rfl,ho1,hb1⟩;obtain ⟨a1,c1,rfl,-,-,hf1⟩:=own_form ho1;have HO1:=hid ho1;have HF1:=hid hf1;have HB1:=hid hb1;clear ho1 hf1 hb1)
  | (refine wpList_store_row rfl 38 (.tmp 2) (.tmp 5) rfl w.heap.size #[.slice a1 l.length c1] rfl rfl _ _ (B1.out.below HB1.out) rgInfo rfl (rg_one _ _ _) ?_))
 have BR:=setRow_heap w1 w.heap.size _ #[.slice a1 l.length c1] _ _ (B1.out.below HB1.out)
 refine bodyPost_ret (results_cell_row rfl _ _ _ _ _ _ _ rfl BR Tryz.underlying38 rfl rgInfo) rfl ?_
 have hbs:∀ b off,a1=some ⟨b,off,none⟩→W.heap.size≤b:=fun b off e=>by
  rcases HF1.out with ⟨h,_⟩ | ⟨g,h,h1,_⟩
  ·rw [h] at e;cases e
  ·rw [h] at e;cases e;exact h1
 have y1:=B1.out.lt
 refine ⟨a1,l.length,c1,rfl,?_,below_setRow (btr BB.out HB1.out) (Nat.le_refl _) _,fun b off e=>by have:=hbs b off e;omega⟩
 have hl:l.length≤100000:=by have h1:=H.out.1.2;dsimp only at h1;omega
 exact ok_setRow ⟨⟨vw_of_own HO1.out,rfl,hl⟩,own_nil HO1.out,tyS_own HO1.out (fun h=>List.length_pos_iff.2 h) (by decide)⟩ fun b off e=>by have:=hbs b off e;omega
theorem evErr_zero {p:PlM} {t:Tm} (h:evErr p t=0):chkT t=0∧(wrongB p.crop p.cr.n=false∧∀ r ∈ p.hi.l,wrongB r.crop p.cr.n=false)∧HSort (p.hi.l.map RcdM.pl)∧(0≤p.year∧p.year≤100)∧(∀ f ∈ p.zo.l.map FtrM.pl,kindOk f.kind=true)∧Vld p.rc.l:=by
 unfold evErr at h
 by_cases k1:chkT t ≠ 0
 ·rw [if_pos k1] at h;exact absurd h k1
 rw [if_neg k1] at h
 by_cases k2:∃ c ∈ p.cr.l,mkB c=false
 ·rw [if_pos k2] at h;cases h
 rw [if_neg k2] at h
 by_cases k3:wrongB p.crop p.cr.n=true∨∃ r ∈ p.hi.l,wrongB r.crop p.cr.n=true
 ·rw [if_pos k3] at h;cases h
 rw [if_neg k3] at h
 by_cases k4:¬ HSort (p.hi.l.map RcdM.pl)
 ·rw [if_pos k4] at h;cases h
 rw [if_neg k4] at h
 by_cases k5:p.year<0∨100<p.year
 ·rw [if_pos k5] at h;cases h
 rw [if_neg k5] at h
 by_cases k6:∃ f ∈ p.zo.l.map FtrM.pl,kindOk f.kind=false
 ·rw [if_pos k6] at h;cases h
 rw [if_neg k6] at h
 by_cases k7:¬ (0≤p.day∧p.day≤36864)
 ·rw [if_pos k7] at h;cases h
 rw [if_neg k7] at h
 by_cases k8:¬ Vld p.rc.l
 ·rw [if_pos k8] at h;cases h
 refine ⟨Classical.not_not.1 k1,⟨?_,fun r hr=>?_⟩,Classical.not_not.1 k4,by omega,fun f hf=>?_,Classical.not_not.1 k8⟩
 ·cases e:wrongB p.crop p.cr.n with
  | false=>rfl
  | true=>exact absurd (.inl e) k3
 ·cases e:wrongB r.crop p.cr.n with
  | false=>rfl
  | true=>exact absurd (.inr ⟨r,hr,e⟩) k3
 ·cases e:kindOk f.kind with
  | true=>rfl
  | false=>exact absurd ⟨f,hf,e⟩ k6
theorem HGood.ok' {l:List Rcd} (h:HGood l) (hs:HSort l):HistOk l :=
 ⟨h.len,fun j hj _=>⟨h.ok _ (List.getElem_mem hj),fun h0=>hs j hj h0⟩,fun ⟨i,j,hj,hi,e,m⟩=>h.lap i j hj hi e m⟩
theorem PlG.ok {w:World} {p:PlM} (h:PlG w p) {t:Tm} (h0:evErr p t=0) (hb:Board (inRc p.rc.l)):PlOk w p:=by
 obtain ⟨_,⟨h2,h3⟩,h4,h5,h6,h7⟩:=evErr_zero h0
 have h2':=wrongB_no h2
 refine ⟨h.cr,h.hi,h.zo,h.rc,h7.2.2,fun x y k=>by have:=hb x y k;omega,h5,h2',(h.hgood h3).ok' h4,?_,fun r hr=>⟨h.his r hr,(wrongB_no (h3 r hr)).1,(wrongB_no (h3 r hr)).2⟩,h.zos⟩
 exact .of h.zgood.len (fun f hf=>by obtain ⟨g1,g2,g3,g4⟩:=h.zgood.good f hf;exact ⟨g1,of_decide_eq_true (h6 f hf),g2,g3,g4⟩) h.zgood.pair
theorem trInfo:(Tryz.prog.info? 55).map (·.size)=some 3:=by kernel_rfl
def EvP (w:World) (p:PlM) (t:Tm) (e:Ending) (w':World):Prop :=
 (evErr p t ≠ 0∧e=.returned (.tuple #[.agg #[.slice none 0 0,.slice none 0 0,.slice none 0 0],.int .i64 (evErr p t)])∧Below w.heap.size w w') ∨
 (evErr p t=0∧∃ y n o:Sc Rc,e=.returned (.tuple #[.agg #[.slice y.a y.n y.c,.slice n.a n.n n.c,.slice o.a o.n o.c],.int .i64 0])∧CanS w' (p.env.ev t).yes y∧CanS w' (p.env.ev t).no n∧CanS w' (p.env.rest (p.env.ev t)) o∧Below w.heap.size w w'∧p.env.Fine (p.env.ev t))
theorem canS_few {w:World} {S:Sq} {s:Sc Rc} (h:CanS w S s) (hb:Board S):s.n≤120:=by
 have:=can_120 h.can hb
 have:=h.ok.1.2.1
 omega
theorem chkT_zero {t:Tm} (h:chkT t=0):t.size≤40∧t.form=true:=by
 unfold chkT at h
 by_cases k:40<t.size
 ·rw [if_pos k] at h;cases h
 ·rw [if_neg k] at h
  cases hr:rightB t 8 with
  | false=>rw [hr] at h;cases h
  | true =>
   unfold rightB at hr
   rw [Bool.and_eq_true] at hr
   exact ⟨by omega,hr.1⟩
theorem cell_far3 {w:World} {g b i:Nat} {v u0 u1 u2:Value} (hne:b ≠ g) (h:w.cell? ⟨b,i,none⟩=some v):(((w.setCell ⟨g,0,none⟩ u0).setCell ⟨g,1,none⟩ u1).setCell ⟨g,2,none⟩ u2).cell? ⟨b,i,none⟩=some v:=by
 rw [World.cell?_setCell_other _ _ _ _ (by intro e;injection e;omega),World.cell?_setCell_other _ _ _ _ (by intro e;injection e;omega),World.cell?_setCell_other _ _ _ _ (by intro e;injection e;omega)]
 exact h
theorem peval_anyV (p:PlM) (t:TmM) (w:World) (h:PlG w p) (ht:TmOk w t) (hb:Vld p.rc.l→Board (inRc p.rc.l)) :
  Calls Tryz.prog 20 #[.agg (encTm t).toArray,.agg #[.int .i64 p.parcel,.slice p.rc.a p.rc.n p.rc.c,.int .i64 p.crop,.int .i64 p.schemes],.int .i64 p.year,.slice p.cr.a p.cr.n p.cr.c,.slice p.hi.a p.hi.n p.hi.c,.slice p.zo.a p.zo.n p.zo.c,.int .i64 p.day] w (EvP w p t.pl):=by
 obtain ⟨W,hW⟩:∃ W,((w.alloc (.cells (encTm t).toArray 24)).alloc (.cells #[.int .i64 p.parcel,.slice p.rc.a p.rc.n p.rc.c,.int .i64 p.crop,.int .i64 p.schemes] 42)).alloc (.cells #[.slice none 0 0,.slice none 0 0,.slice none 0 0] 55)=W:=⟨_,rfl⟩
 have BT:RowKit.Hid (Blk W w.heap.size 24 (encTm t).toArray):=by show Blk _ _ _ _;rw [← hW];exact ((Blk.new w _ _).alloc _).alloc _
 have BL:RowKit.Hid (Blk W (w.heap.size+1) 42 #[.int .i64 p.parcel,.slice p.rc.a p.rc.n p.rc.c,.int .i64 p.crop,.int .i64 p.schemes]):=by show Blk _ _ _ _;rw [← hW];exact (Blk.fresh (by simp)).alloc _
 have BR:RowKit.Hid (Blk W (w.heap.size+1+1) 55 #[.slice none 0 0,.slice none 0 0,.slice none 0 0]):=by show Blk _ _ _ _;rw [← hW];exact Blk.fresh (by simp)
 have BB:RowKit.Hid (Below w.heap.size w W):=by show Below _ _ _;rw [← hW];exact Bw.out
 have x1:W.cell? ⟨w.heap.size+1,1,none⟩=some (.slice p.rc.a p.rc.n p.rc.c):=BL.out.cell 1
 have HCK:=hid fun W' (hW':Below w.heap.size w W')=>pcheck_any p t W' (h.below hW') (ht.beh hW')
 have TI:RowKit.Hid ((Tryz.prog.info? 24).map (·.size)=some (encTm t).toArray.size):=encTm_info t
 have HEV:=hid fun (h0:evErr p t.pl=0) W' (hW':Below w.heap.size w W') =>
  eval_any p (h.ok h0 (hb (evErr_zero h0).2.2.2.2.2)).hok.dis t W' ((h.below hW').ok h0 (hb (evErr_zero h0).2.2.2.2.2)) (ht.beh hW') (chkT_zero (evErr_zero h0).1).2 (by have:=(chkT_zero (evErr_zero h0).1).1;omega)
 have HFN:RowKit.Hid (evErr p t.pl=0→p.env.Fine (p.env.ev t.pl)):=fun h0=>Env.fine (E:=p.env) (h.ok h0 (hb (evErr_zero h0).2.2.2.2.2)).hok.dis t.pl (chkT_zero (evErr_zero h0).1).2
 have HBD:RowKit.Hid (evErr p t.pl=0→Board (inRc p.rc.l)):=fun h0=>hb (evErr_zero h0).2.2.2.2.2
 obtain ⟨x,hx⟩:∃ x,evErr p t.pl=x:=⟨_,rfl⟩
 have HX:=hid hx
 obtain ⟨tb,htb⟩:∃ tb,(encTm t).toArray=tb:=⟨_,rfl⟩
 rw [htb] at BT HCK TI HEV hW ⊢
 rw [hx] at HEV HFN HBD
 unfold CkP at HCK
 rw [hx] at HCK
 clear h ht hb hx htb
 by_cases hx0:x=0
 case neg =>
  have q1:((x:Int) == 0)=false:=by simpa using hx0
  have HX0:=hid hx0
  clear hx0
  go_enter Tryz.func20,Tryz.ntmps20
  go_wp2_with (first
   | (refine wpList_load_row rfl 42 (.tmp 8) rfl (w.heap.size+1) rfl _ #[.int .i64 p.parcel,.slice p.rc.a p.rc.n p.rc.c,.int .i64 p.crop,.int .i64 p.schemes] _ _ BL.out Tryz.underlying42 rfl (by kernel_rfl) ?_)
   | (refine st_new rfl 98 (.tmp 16) (.tmp 30) rfl p.cells.toArray _ _ rfl rfl plInfo rfl (by rw [List.all_toArray];rfl) ?_)
   | (refine wpList_load_row rfl 98 (.tmp 16) rfl W.heap.size rfl _ p.cells.toArray _ _ (Blk.new _ _ _) Tryz.underlying98 rfl plInfo ?_)
   | (refine wpList_load_row rfl 24 (.tmp 7) rfl w.heap.size rfl _ tb _ _ (BT.out.alloc _) Tryz.underlying24 rfl TI.out ?_)
   | (go_at_call 52;refine (HCK.out _ (bal BB.out _)).mono ?_;rintro e w1 ⟨rfl,hb1⟩;have hq1:Below W.heap.size W w1:=btr Bw.out hb1;have BR1:=hid (BR.out.below hq1);have HQ1:=hid hq1;clear hb1 hq1)
   | (refine wpList_store_row rfl 55 (.tmp 14) (.tmp 36) rfl (w.heap.size+1+1) #[.slice none 0 0,.slice none 0 0,.slice none 0 0] rfl rfl _ _ BR1.out trInfo rfl (sq_one _ _ _ rfl rfl rfl) ?_))
  have B9:=setRow_heap w1 (w.heap.size+1+1) _ #[.slice none 0 0,.slice none 0 0,.slice none 0 0] _ _ BR1.out
  have y0:w.heap.size≤w.heap.size+1+1:=by omega
  refine bodyPost_ret (v:=.tuple #[.agg #[.slice none 0 0,.slice none 0 0,.slice none 0 0],.int .i64 x]) (by simp [results,Tryz.results20,go_sem,Blk.cell B9]) rfl (.inl ⟨?_,?_,below_setRow (btr BB.out HQ1.out) y0 _⟩)
  ·rw [HX.out];exact HX0.out
  ·rw [HX.out]
 subst hx0
 have HE:=hid (HEV.out rfl)
 have HF:=hid (HFN.out rfl)
 have HBZ:=hid (HBD.out rfl)
 clear HEV HFN
 go_enter Tryz.func20,Tryz.ntmps20
 go_wp2_with (first
  | (refine wpList_load_row rfl 42 (.tmp 8) rfl (w.heap.size+1) rfl _ #[.int .i64 p.parcel,.slice p.rc.a p.rc.n p.rc.c,.int .i64 p.crop,.int .i64 p.schemes] _ _ BL.out Tryz.underlying42 rfl (by kernel_rfl) ?_)
  | (refine st_new rfl 98 (.tmp 16) (.tmp 30) rfl p.cells.toArray _ _ rfl rfl plInfo rfl (by rw [List.all_toArray];rfl) ?_)
  | (refine wpList_load_row rfl 98 (.tmp 16) rfl W.heap.size rfl _ p.cells.toArray _ _ (Blk.new _ _ _) Tryz.underlying98 rfl plInfo ?_)
  | (refine wpList_load_row rfl 24 (.tmp 7) rfl w.heap.size rfl _ tb _ _ (BT.out.alloc _) Tryz.underlying24 rfl TI.out ?_)
  | (go_at_call 52;refine (HCK.out _ (bal BB.out _)).mono ?_;rintro e w1 ⟨rfl,hb1⟩;have hq1:Below W.heap.size W w1:=btr Bw.out hb1;have BR1:=hid (BR.out.below hq1);have BP1:=hid ((Blk.new W 98 p.cells.toArray).below hb1);have BT1:=hid (BT.out.below hq1);have HQ1:=hid hq1;clear hb1 hq1)
  | (refine wpList_load_row rfl 98 (.tmp 16) rfl W.heap.size rfl _ p.cells.toArray _ _ BP1.out Tryz.underlying98 rfl plInfo ?_)
  | (refine wpList_load_row rfl 24 (.tmp 7) rfl w.heap.size rfl _ tb _ _ BT1.out Tryz.underlying24 rfl TI.out ?_)
  | (go_at_call 53;refine (HE.out _ (btr BB.out HQ1.out)).mono ?_;rintro e w2 ⟨y,n,o,rfl,hy,hn,ho,hb2⟩;have BR2:=hid (BR1.out.below hb2);have HQ2:=hid (btr HQ1.out hb2);have HY:=hid hy;have HN:=hid hn;have HO:=hid ho;have ly:y.n≤120:=canS_few hy fun a b k=>HBZ.out a b (HF.out.yes a b k);have ln:n.n≤120:=canS_few hn fun a b k=>HBZ.out a b (HF.out.no a b k);have lo:o.n≤120:=canS_few ho fun a b k=>HBZ.out a b k.1;clear hb2 hy hn ho)
  | (refine st_new rfl 100 (.tmp 18) (.tmp 40) rfl #[.slice y.a y.n y.c,.slice n.a n.n n.c,.slice o.a o.n o.c] _ _ rfl rfl sqInfo rfl (sq_one _ _ _ rfl rfl rfl) ?_))
 all_goals
  obtain ⟨W9,hW9⟩:∃ W9,w2.alloc (.cells #[.slice y.a y.n y.c,.slice n.a n.n n.c,.slice o.a o.n o.c] 100)=W9:=⟨_,rfl⟩
  have BQ:RowKit.Hid (Below w2.heap.size w2 W9):=by show Below _ _ _;rw [← hW9];exact Bw.out
  have BS:RowKit.Hid (Blk W9 w2.heap.size 100 #[.slice y.a y.n y.c,.slice n.a n.n n.c,.slice o.a o.n o.c]):=by show Blk _ _ _ _;rw [← hW9];exact Blk.new _ _ _
  have s0:W9.cell? ⟨w2.heap.size,0,none⟩=some (.slice y.a y.n y.c):=BS.out.cell 0
  have s1:W9.cell? ⟨w2.heap.size,1,none⟩=some (.slice n.a n.n n.c):=BS.out.cell 1
  have s2:W9.cell? ⟨w2.heap.size,2,none⟩=some (.slice o.a o.n o.c):=BS.out.cell 2
  have BR9:=hid (BR2.out.below BQ.out)
  have C1:=hid fun W' (hW':Below W9.heap.size W9 W')=>eval1_any y W' (HY.out.ok.below (btr BQ.out hW'))
  have C2:=hid fun W' (hW':Below W9.heap.size W9 W')=>eval1_any n W' (HN.out.ok.below (btr BQ.out hW'))
  have C3:=hid fun W' (hW':Below W9.heap.size W9 W')=>eval1_any o W' (HO.out.ok.below (btr BQ.out hW'))
  have yg:w.heap.size+1+1<W9.heap.size:=BR9.out.lt
  have YG:=hid yg
  have NE2:RowKit.Hid (w2.heap.size ≠ w.heap.size+1+1):=by show _ ≠ _;have:=BR2.out.lt;omega
  rw [hW9]
  clear hW9
  go_region_held3 (fun w'=>w'.cell? ⟨w2.heap.size,0,none⟩=some (.slice y.a y.n y.c)∧w'.cell? ⟨w2.heap.size,1,none⟩=some (.slice n.a n.n n.c)∧w'.cell? ⟨w2.heap.size,2,none⟩=some (.slice o.a o.n o.c)) (first | exact ⟨s0,s1,s2⟩ | exact ⟨bc1 k1 s0,bc1 k1 s1,bc1 k1 s2⟩ | exact ⟨bc1 k2 s0,bc1 k2 s1,bc1 k2 s2⟩ | exact ⟨bc1 k3 s0,bc1 k3 s1,bc1 k3 s2⟩ | exact ⟨cell_far3 NE2.out (bc1 k3 s0),cell_far3 NE2.out (bc1 k3 s1),cell_far3 NE2.out (bc1 k3 s2)⟩ | simp [go_sem, *])
   (first | (go_at_call 54;first
    | ((with_reducible refine (C1.out _ Bw.out).mono ?_);rintro e v1 ⟨ya,yn,yc,rfl,hy1,hb1,hf1⟩;have k1:Below W9.heap.size W9 v1:=btr Bw.out hb1;have O1:=hid hy1;have F1:=hid hf1;clear hb1 hy1 hf1)
    | ((with_reducible refine (C2.out _ (by (repeat (with_reducible first | exact k1 | exact Below.refl _ _ | refine bdr ?_ | refine bdn ?_ _ | refine bal ?_ _)))).mono ?_);rintro e v2 ⟨na,nn,nc,rfl,hy2,hb2,hf2⟩;have k2:Below W9.heap.size W9 v2:=btr (by (repeat (with_reducible first | exact k1 | exact Below.refl _ _ | refine bdr ?_ | refine bdn ?_ _ | refine bal ?_ _))) hb2;have j2:Below v1.heap.size v1 v2:=btr Bw.out hb2;have O1':=hid (O1.out.below j2);have O2:=hid hy2;have F2:=hid hf2;clear hb2 hy2 hf2)
    | ((with_reducible refine (C3.out _ (by (repeat (with_reducible first | exact k2 | exact Below.refl _ _ | refine bdr ?_ | refine bdn ?_ _ | refine bal ?_ _)))).mono ?_);rintro e v3 ⟨oa,on,oc,rfl,hy3,hb3,hf3⟩;have k3:Below W9.heap.size W9 v3:=btr (by (repeat (with_reducible first | exact k2 | exact Below.refl _ _ | refine bdr ?_ | refine bdn ?_ _ | refine bal ?_ _))) hb3;have j3:Below v2.heap.size v2 v3:=btr Bw.out hb3;have O1'':=hid (O1'.out.below j3);have O2':=hid (O2.out.below j3);have O3:=hid hy3;have F3:=hid hf3;have BR3:=hid (BR9.out.below k3);have z0:v3.cell? ⟨w.heap.size+1+1,0,none⟩=some (.slice none 0 0):=BR3.out.cell 0;have z1:v3.cell? ⟨w.heap.size+1+1,1,none⟩=some (.slice none 0 0):=BR3.out.cell 1;have z2:v3.cell? ⟨w.heap.size+1+1,2,none⟩=some (.slice none 0 0):=BR3.out.cell 2;have f0:=BR3.out.free 0;have f1:=BR3.out.free 1;have f2:=BR3.out.free 2;have zl:=BR3.out.lt;clear hb3 hy3 hf3)))
  all_goals
   go_wp2
   have B9:=Blk.put3 (v0:=.slice ya yn yc) (v1:=.slice na nn nc) (v2:=.slice oa on oc) BR3.out rfl
   refine bodyPost_ret (v:=.tuple #[.agg #[.slice ya yn yc,.slice na nn nc,.slice oa on oc],.int .i64 0]) (by simp [results,Tryz.results20,go_sem,Blk.cell B9]) rfl (.inr ⟨HX.out,⟨ya,yn,yc,y.l⟩,⟨na,nn,nc,n.l⟩,⟨oa,on,oc,o.l⟩,rfl,?_,?_,?_,?_,HF.out⟩)
   ·have hf:=far_new (s:=(⟨ya,yn,yc,y.l⟩:Sc Rc)) (g:=w.heap.size+1+1) (m:=W9.heap.size) F1.out YG.out
    exact can_set hf (can_set hf (can_set hf ⟨O1''.out,HY.out.can⟩))
   ·have hf:=far_new (s:=(⟨na,nn,nc,n.l⟩:Sc Rc)) (g:=w.heap.size+1+1) (m:=W9.heap.size) (fun b off e=>Nat.le_trans k1.size (F2.out b off e)) YG.out
    exact can_set hf (can_set hf (can_set hf ⟨O2'.out,HN.out.can⟩))
   ·have hf:=far_new (s:=(⟨oa,on,oc,o.l⟩:Sc Rc)) (g:=w.heap.size+1+1) (m:=W9.heap.size) (fun b off e=>Nat.le_trans k2.size (F3.out b off e)) YG.out
    exact can_set hf (can_set hf (can_set hf ⟨O3.out,HO.out.can⟩))
   ·have hg:w.heap.size≤w.heap.size+1+1:=by omega
    exact bst (bst (bst (btr BB.out (btr HQ2.out (btr BQ.out k3))) _ _ _ hg) _ _ _ hg) _ _ _ hg
theorem peval_any (p:PlM) (t:TmM) (w:World) (h:PlG w p) (ht:TmOk w t) (hb:Board (inRc p.rc.l)) :
  Calls Tryz.prog 20 #[.agg (encTm t).toArray,.agg #[.int .i64 p.parcel,.slice p.rc.a p.rc.n p.rc.c,.int .i64 p.crop,.int .i64 p.schemes],.int .i64 p.year,.slice p.cr.a p.cr.n p.cr.c,.slice p.hi.a p.hi.n p.hi.c,.slice p.zo.a p.zo.n p.zo.c,.int .i64 p.day] w (EvP w p t.pl) :=
 peval_anyV p t w h ht fun _=>hb
end Go.Proofs.YtancajcelmhnkaaGreatDoor
