/- place.atom,the kinds whose regions are plain. -/
import Derived.Test.YtancajcelmhnkaaGreatDoorGj
set_option maxRecDepth 100000
set_option maxHeartbeats 4000000
namespace Go.Proofs.YtancajcelmhnkaaGreatDoor
open Go.RowKit Go.Sort Go.Shelf
set_option linter.unusedVariables false
set_option linter.unusedSimpArgs false
theorem far_blk {w:World} {g:Nat} {t:TypeId} {s:Sc Rc} (hB:Blk w g t #[.slice none 0 0,.slice none 0 0,.slice none 0 0]) (h:ScOk2 w s):FarS g s:=fun hl b off e c=>by
 subst c
 cases hs:s.l with
 | nil=>exact hl hs
 | cons q l =>
  obtain ⟨b2,off2,e2,-,c0,-⟩:=h.1.1.rc 0 (by rw [hs];simp)
  rw [e] at e2
  cases e2
  rw [Nat.zero_mul,Nat.add_zero,hB.cell] at c0
  match off,c0 with
  | 0,c0=>simp at c0
  | 1,c0=>simp at c0
  | 2,c0=>simp at c0
  | n+3,c0=>simp at c0
theorem can_put {w:World} {g:Nat} {t:TypeId} {cs:Array Value} {S:Sq} {s:Sc Rc} (hB:Blk w g t #[.slice none 0 0,.slice none 0 0,.slice none 0 0]) (h:CanS w S s):CanS (w.setRow g cs) S s:=⟨far_setRow h.ok (far_blk hB h.ok),h.can⟩
theorem sqP_put {w W w1:World} {g:Nat} {E:Env} {p:Pr} {y n o:Sc Rc} {cs:Array Value} (hB:Blk w1 g 100 #[.slice none 0 0,.slice none 0 0,.slice none 0 0]) (hy:CanS w1 p.yes y) (hn:CanS w1 p.no n) (ho:CanS w1 (E.rest p) o) (hb:Below w.heap.size w w1) (hg:w.heap.size≤g) :
  SqP w E p (.returned (.agg #[.slice y.a y.n y.c,.slice n.a n.n n.c,.slice o.a o.n o.c])) (w1.setRow g cs) :=
 ⟨y,n,o,rfl,can_put hB hy,can_put hB hn,can_put hB ho,below_setRow hb hg _⟩
structure AtW (w:World) (p:PlM) (op num more:Int) (a:Option Addr) (n c:Nat) (W:World):Prop where
 pl:Blk W w.heap.size 98 p.cells.toArray
 tm:Blk W (w.heap.size+1) 24 #[.int .i64 op,.int .i64 num,.int .i64 more,.slice a n c]
 sq:Blk W (w.heap.size+1+1) 100 #[.slice none 0 0,.slice none 0 0,.slice none 0 0]
 below:Below w.heap.size w W
theorem AtW.start (w:World) (p:PlM) (op num more:Int) (a:Option Addr) (n c:Nat):AtW w p op num more a n c (((w.alloc (.cells p.cells.toArray 98)).alloc (.cells #[.int .i64 op,.int .i64 num,.int .i64 more,.slice a n c] 24)).alloc (.cells #[.slice none 0 0,.slice none 0 0,.slice none 0 0] 100)) :=
 ⟨((Blk.new w _ _).alloc _).alloc _,(Blk.fresh (by simp):Blk _ (w.heap.size+1) _ _).alloc _,Blk.fresh (by simp),Bw.out⟩
theorem AtW.beh {w:World} {p:PlM} {op num more:Int} {a:Option Addr} {n c:Nat} {W W':World} (h:AtW w p op num more a n c W) (hb:Below W.heap.size W W'):AtW w p op num more a n c W':=⟨h.pl.below hb,h.tm.below hb,h.sq.below hb,btr h.below hb⟩
theorem atom_true (p:PlM) (num more:Int) (a:Option Addr) (n c:Nat) (w:World) (h:PlOk w p) :
  Calls Tryz.prog 99 #[.agg p.cells.toArray,.agg #[.int .i64 1,.int .i64 num,.int .i64 more,.slice a n c]] w (SqP w p.env (p.env.whole true)):=by
 have A:=AtW.start w p 1 num more a n c
 obtain ⟨W,hW⟩:∃ W,((w.alloc (.cells p.cells.toArray 98)).alloc (.cells #[.int .i64 1,.int .i64 num,.int .i64 more,.slice a n c] 24)).alloc (.cells #[.slice none 0 0,.slice none 0 0,.slice none 0 0] 100)=W:=⟨_,rfl⟩
 rw [hW] at A
 have x0:W.cell? ⟨w.heap.size+1,0,none⟩=some (.int .i64 1):=A.tm.cell 0
 have HA:=hid A;have H:=hid h
 clear A h
 go_enter Tryz.func99,Tryz.ntmps99
 go_wp2_with (first
  | (refine wpList_load_row rfl 98 (.tmp 2) rfl w.heap.size rfl _ p.cells.toArray _ _ HA.out.pl Tryz.underlying98 rfl plInfo ?_)
  | (go_at_call 149;refine (whole_any p true _ (H.out.below HA.out.below)).mono ?_;rintro e w1 ⟨y,q,o,rfl,hy,hq,ho,hb1⟩;have A1:=hid (HA.out.beh hb1))
  | (refine wpList_store_row rfl 100 (.tmp 4) (.tmp 94) rfl (w.heap.size+1+1) #[.slice y.a y.n y.c,.slice q.a q.n q.c,.slice o.a o.n o.c] rfl rfl _ _ A1.out.sq sqInfo rfl (sq_one _ _ _ rfl rfl rfl) ?_))
 refine bodyPost_ret (results_cell_row rfl _ _ _ _ _ _ _ rfl (setRow_heap w1 (w.heap.size+1+1) _ #[.slice y.a y.n y.c,.slice q.a q.n q.c,.slice o.a o.n o.c] _ _ A1.out.sq) Tryz.underlying100 rfl sqInfo) rfl ?_
 exact sqP_put (W:=W) A1.out.sq hy hq ho A1.out.below (by omega)
theorem atom_crop (p:PlM) (num more:Int) (a:Option Addr) (n c:Nat) (w:World) (h:PlOk w p) :
  Calls Tryz.prog 99 #[.agg p.cells.toArray,.agg #[.int .i64 2,.int .i64 num,.int .i64 more,.slice a n c]] w (SqP w p.env (p.env.whole (decide (p.crop=num)))):=by
 have A:=AtW.start w p 2 num more a n c
 obtain ⟨W,hW⟩:∃ W,((w.alloc (.cells p.cells.toArray 98)).alloc (.cells #[.int .i64 2,.int .i64 num,.int .i64 more,.slice a n c] 24)).alloc (.cells #[.slice none 0 0,.slice none 0 0,.slice none 0 0] 100)=W:=⟨_,rfl⟩
 rw [hW] at A
 have x0:W.cell? ⟨w.heap.size+1,0,none⟩=some (.int .i64 2):=A.tm.cell 0
 have x1:W.cell? ⟨w.heap.size+1,1,none⟩=some (.int .i64 num):=A.tm.cell 1
 have x7:W.cell? ⟨w.heap.size,7,none⟩=some (.int .i64 p.crop):=A.pl.cell 7
 have HA:=hid A;have H:=hid h
 clear A h
 go_enter Tryz.func99,Tryz.ntmps99
 go_wp2_with (first
  | (refine wpList_load_row rfl 98 (.tmp 2) rfl w.heap.size rfl _ p.cells.toArray _ _ HA.out.pl Tryz.underlying98 rfl plInfo ?_)
  | (go_at_call 149;refine (whole_any p _ _ (H.out.below HA.out.below)).mono ?_;rintro e w1 ⟨y,q,o,rfl,hy,hq,ho,hb1⟩;have A1:=hid (HA.out.beh hb1))
  | (refine wpList_store_row rfl 100 (.tmp 4) (.tmp 18) rfl (w.heap.size+1+1) #[.slice y.a y.n y.c,.slice q.a q.n q.c,.slice o.a o.n o.c] rfl rfl _ _ A1.out.sq sqInfo rfl (sq_one _ _ _ rfl rfl rfl) ?_))
 refine bodyPost_ret (results_cell_row rfl _ _ _ _ _ _ _ rfl (setRow_heap w1 (w.heap.size+1+1) _ #[.slice y.a y.n y.c,.slice q.a q.n q.c,.slice o.a o.n o.c] _ _ A1.out.sq) Tryz.underlying100 rfl sqInfo) rfl ?_
 exact sqP_put (W:=W) A1.out.sq hy hq ho A1.out.below (by omega)
theorem atom_same (p:PlM) (num more:Int) (a:Option Addr) (n c:Nat) (w:World) (h:PlOk w p) (hn:2≤num∧num≤10) :
  Calls Tryz.prog 99 #[.agg p.cells.toArray,.agg #[.int .i64 6,.int .i64 num,.int .i64 more,.slice a n c]] w (SqP w p.env (⟨p.env.sameY num,p.env.sameN num⟩)):=by
 obtain ⟨N,rfl⟩:∃ N:Nat,num=N:=⟨num.toNat,by omega⟩
 have A:=AtW.start w p 6 N more a n c
 obtain ⟨W,hW⟩:∃ W,((w.alloc (.cells p.cells.toArray 98)).alloc (.cells #[.int .i64 6,.int .i64 N,.int .i64 more,.slice a n c] 24)).alloc (.cells #[.slice none 0 0,.slice none 0 0,.slice none 0 0] 100)=W:=⟨_,rfl⟩
 rw [hW] at A
 have x0:W.cell? ⟨w.heap.size+1,0,none⟩=some (.int .i64 6):=A.tm.cell 0
 have x1:W.cell? ⟨w.heap.size+1,1,none⟩=some (.int .i64 N):=A.tm.cell 1
 have HA:=hid A;have H:=hid h
 clear A h
 go_enter Tryz.func99,Tryz.ntmps99
 go_wp2_with (first
  | (refine wpList_load_row rfl 98 (.tmp 2) rfl w.heap.size rfl _ p.cells.toArray _ _ HA.out.pl Tryz.underlying98 rfl plInfo ?_)
  | (go_at_call 154;refine (same_any16 p N _ (H.out.below HA.out.below) (by omega)).mono ?_;rintro e w1 ⟨y,q,o,rfl,hy,hq,ho,hb1⟩;have A1:=hid (HA.out.beh hb1))
  | (refine wpList_store_row rfl 100 (.tmp 4) (.tmp 69) rfl (w.heap.size+1+1) #[.slice y.a y.n y.c,.slice q.a q.n q.c,.slice o.a o.n o.c] rfl rfl _ _ A1.out.sq sqInfo rfl (sq_one _ _ _ rfl rfl rfl) ?_))
 refine bodyPost_ret (results_cell_row rfl _ _ _ _ _ _ _ rfl (setRow_heap w1 (w.heap.size+1+1) _ #[.slice y.a y.n y.c,.slice q.a q.n q.c,.slice o.a o.n o.c] _ _ A1.out.sq) Tryz.underlying100 rfl sqInfo) rfl ?_
 exact sqP_put (W:=W) A1.out.sq hy hq ho A1.out.below (by omega)
theorem can_set {w:World} {g o:Nat} {v:Value} {S:Sq} {s:Sc Rc} (hf:FarS g s) (h:CanS w S s):CanS (w.setCell ⟨g,o,none⟩ v) S s:=by
 refine ⟨⟨⟨fun i u hi=>?_,h.ok.1.2⟩,h.ok.2.1,fun hl=>?_⟩,h.can⟩
 rotate_left
 ·obtain ⟨b,off,T,cs',h1,h2,h3⟩:=h.ok.2.2 hl
  exact ⟨b,off,T,cs',h1,h2.far _ _ _ (hf hl b off h1),h3⟩
 obtain ⟨b,off,e,hc⟩:=h.ok.1.1 i u hi
 have hl:s.l ≠ []:=fun c=>by rw [c] at hi;simp [cellsOf] at hi
 exact ⟨b,off,e,(World.cell?_of_block (w:=w) (a:=⟨b,off+i,none⟩) (Below.heap_setCell w ⟨g,o,none⟩ v b (hf hl b off e))).trans hc⟩
theorem sqP_put3 {w w1:World} {g:Nat} {E:Env} {p:Pr} {y n o:Sc Rc} {u0 u1 u2:Value} (hB:Blk w1 g 100 #[.slice none 0 0,.slice none 0 0,.slice none 0 0]) (hy:CanS w1 p.yes y) (hn:CanS w1 p.no n) (ho:CanS w1 (E.rest p) o) (hb:Below w.heap.size w w1) (hg:w.heap.size≤g) :
  SqP w E p (.returned (.agg #[.slice y.a y.n y.c,.slice n.a n.n n.c,.slice o.a o.n o.c])) (((w1.setCell ⟨g,0,none⟩ u0).setCell ⟨g,1,none⟩ u1).setCell ⟨g,2,none⟩ u2):=by
 have f1:=far_blk hB hy.ok
 have f2:=far_blk hB hn.ok
 have f3:=far_blk hB ho.ok
 exact ⟨y,n,o,rfl,can_set f1 (can_set f1 (can_set f1 hy)),can_set f2 (can_set f2 (can_set f2 hn)),can_set f3 (can_set f3 (can_set f3 ho)),bst (bst (bst hb _ _ _ hg) _ _ _ hg) _ _ _ hg⟩
theorem atom_family (p:PlM) (num more:Int) (a:Option Addr) (n c:Nat) (w:World) (h:PlOk w p) :
  Calls Tryz.prog 99 #[.agg p.cells.toArray,.agg #[.int .i64 3,.int .i64 num,.int .i64 more,.slice a n c]] w (SqP w p.env (p.env.whole (decide ((crpAt p.cr.l p.crop).family=num)))):=by
 have A:=AtW.start w p 3 num more a n c
 obtain ⟨W,hW⟩:∃ W,((w.alloc (.cells p.cells.toArray 98)).alloc (.cells #[.int .i64 3,.int .i64 num,.int .i64 more,.slice a n c] 24)).alloc (.cells #[.slice none 0 0,.slice none 0 0,.slice none 0 0] 100)=W:=⟨_,rfl⟩
 rw [hW] at A
 obtain ⟨kc,hkc⟩:∃ kc:Nat,p.crop=kc:=⟨p.crop.toNat,by have:=h.crop;omega⟩
 have hk:kc<p.cr.n:=by have:=h.crop;omega
 obtain ⟨b,off,ha,hb,-,c1,-⟩:=h.cr.crop hk
 have hcr:=hkc
 rw [hkc]
 obtain ⟨fam,hfam⟩:∃ f,(crpAt p.cr.l kc).family=f:=⟨_,rfl⟩
 rw [hfam] at c1 ⊢
 have HWH:=hid fun (W':World) (q:Below w.heap.size w W') (v:Bool)=>whole_any p v W' (h.below q)
 have HA:=hid A
 obtain ⟨yr,dy,pa,cp,sc,⟨ca,cn,cc,cl⟩,⟨ia,ino,ic,il⟩,⟨za,zn,zc,zl⟩,⟨ra,rn,rc,rl⟩⟩:=p
 dsimp only at ha hcr hk
 subst ha hcr
 have x0:W.cell? ⟨w.heap.size+1,0,none⟩=some (.int .i64 3):=A.tm.cell 0
 have x1:W.cell? ⟨w.heap.size+1,1,none⟩=some (.int .i64 num):=A.tm.cell 1
 have d0:W.cell? ⟨w.heap.size,0,none⟩=some (.int .i64 yr):=A.pl.cell 0
 have d1:W.cell? ⟨w.heap.size,1,none⟩=some (.slice (some ⟨b,off,none⟩) cn cc):=A.pl.cell 1
 have d2:W.cell? ⟨w.heap.size,2,none⟩=some (.slice ia ino ic):=A.pl.cell 2
 have d3:W.cell? ⟨w.heap.size,3,none⟩=some (.slice za zn zc):=A.pl.cell 3
 have d4:W.cell? ⟨w.heap.size,4,none⟩=some (.int .i64 dy):=A.pl.cell 4
 have d5:W.cell? ⟨w.heap.size,5,none⟩=some (.int .i64 pa):=A.pl.cell 5
 have d6:W.cell? ⟨w.heap.size,6,none⟩=some (.slice ra rn rc):=A.pl.cell 6
 have d7:W.cell? ⟨w.heap.size,7,none⟩=some (.int .i64 kc):=A.pl.cell 7
 have d8:W.cell? ⟨w.heap.size,8,none⟩=some (.int .i64 sc):=A.pl.cell 8
 have d9:W.cell? ⟨w.heap.size,9,none⟩=some (.slice ra rn rc):=A.pl.cell 9
 have e1:W.cell? ⟨b,off+kc * 3+1,none⟩=some (.int .i64 fam):=bc1 A.below c1
 have i0:(0:Int)≤(kc:Int):=by omega
 have i1:(kc:Int)<(cn:Int):=by omega
 clear A h hfam c1
 go_enter Tryz.func99,Tryz.ntmps99
 go_wp2
 go_region_held3 (fun w'=>w'.cell? ⟨w.heap.size,0,none⟩=some (.int .i64 yr)∧w'.cell? ⟨w.heap.size,1,none⟩=some (.slice (some ⟨b,off,none⟩) cn cc)∧w'.cell? ⟨w.heap.size,2,none⟩=some (.slice ia ino ic)∧w'.cell? ⟨w.heap.size,3,none⟩=some (.slice za zn zc)∧w'.cell? ⟨w.heap.size,4,none⟩=some (.int .i64 dy)∧w'.cell? ⟨w.heap.size,5,none⟩=some (.int .i64 pa)∧w'.cell? ⟨w.heap.size,6,none⟩=some (.slice ra rn rc)∧w'.cell? ⟨w.heap.size,7,none⟩=some (.int .i64 kc)∧w'.cell? ⟨w.heap.size,8,none⟩=some (.int .i64 sc)∧w'.cell? ⟨w.heap.size,9,none⟩=some (.slice ra rn rc)∧w'.cell? ⟨w.heap.size+1,1,none⟩=some (.int .i64 num)∧w'.cell? ⟨b,off+kc * 3+1,none⟩=some (.int .i64 fam)) (first | exact ⟨d0,d1,d2,d3,d4,d5,d6,d7,d8,d9,x1,e1⟩ | exact ⟨m0,m1,m2,m3,m4,m5,m6,m7,m8,m9,my,me⟩ | simp [go_sem, *])
  (first
  | (go_at_call 149;refine (HWH.out _ (btr HA.out.below Bw.out) _).mono ?_;rintro e w1 ⟨y,q,o,rfl,hy,hq,ho,hb1⟩;have A1:=hid (HA.out.beh (btr Bw.out hb1));have m0:=bc1 (btr Bw.out hb1) d0;have m1:=bc1 (btr Bw.out hb1) d1;have m2:=bc1 (btr Bw.out hb1) d2;have m3:=bc1 (btr Bw.out hb1) d3;have m4:=bc1 (btr Bw.out hb1) d4;have m5:=bc1 (btr Bw.out hb1) d5;have m6:=bc1 (btr Bw.out hb1) d6;have m7:=bc1 (btr Bw.out hb1) d7;have m8:=bc1 (btr Bw.out hb1) d8;have m9:=bc1 (btr Bw.out hb1) d9;have my:=bc1 (btr Bw.out hb1) x1;have me:=bc1 (btr Bw.out hb1) e1;have z0:w1.cell? ⟨w.heap.size+1+1,0,none⟩=some (.slice none 0 0):=A1.out.sq.cell 0;have z1:w1.cell? ⟨w.heap.size+1+1,1,none⟩=some (.slice none 0 0):=A1.out.sq.cell 1;have z2:w1.cell? ⟨w.heap.size+1+1,2,none⟩=some (.slice none 0 0):=A1.out.sq.cell 2;have f0:=A1.out.sq.free 0;have f1:=A1.out.sq.free 1;have f2:=A1.out.sq.free 2;have zl:=A1.out.sq.lt))
 all_goals
  go_wp2
  refine bodyPost_ret (results_cell_row rfl _ _ (w.heap.size+1+1) _ #[.slice y.a y.n y.c,.slice q.a q.n q.c,.slice o.a o.n o.c] _ _ rfl (Blk.put3 A1.out.sq rfl) Tryz.underlying100 rfl sqInfo) rfl ?_
  exact sqP_put3 A1.out.sq hy hq ho A1.out.below (by omega)
theorem atom_mark (p:PlM) (num more:Int) (a:Option Addr) (n c:Nat) (w:World) (h:PlOk w p) :
  Calls Tryz.prog 99 #[.agg p.cells.toArray,.agg #[.int .i64 4,.int .i64 num,.int .i64 more,.slice a n c]] w (SqP w p.env (p.env.whole (hasMark p.cr.l p.crop num))):=by
 have A:=AtW.start w p 4 num more a n c
 obtain ⟨W,hW⟩:∃ W,((w.alloc (.cells p.cells.toArray 98)).alloc (.cells #[.int .i64 4,.int .i64 num,.int .i64 more,.slice a n c] 24)).alloc (.cells #[.slice none 0 0,.slice none 0 0,.slice none 0 0] 100)=W:=⟨_,rfl⟩
 rw [hW] at A
 obtain ⟨kc,hkc⟩:∃ kc:Nat,p.crop=kc:=⟨p.crop.toNat,by have:=h.crop;omega⟩
 have hk:kc<p.cr.n:=by have:=h.crop;omega
 obtain ⟨b,off,ha,hb,-,c1,-⟩:=h.cr.crop hk
 have hcr:=hkc
 rw [hkc]
 have HHS:=hid fun (W':World) (q:Below w.heap.size w W')=>has_any p.cr kc num W' (h.cr.below q) hk
 have HWH:=hid fun (W':World) (q:Below w.heap.size w W') (v:Bool)=>whole_any p v W' (h.below q)
 have HA:=hid A
 obtain ⟨yr,dy,pa,cp,sc,⟨ca,cn,cc,cl⟩,⟨ia,ino,ic,il⟩,⟨za,zn,zc,zl⟩,⟨ra,rn,rc,rl⟩⟩:=p
 dsimp only at ha hcr hk
 subst ha hcr
 have x0:W.cell? ⟨w.heap.size+1,0,none⟩=some (.int .i64 4):=A.tm.cell 0
 have x1:W.cell? ⟨w.heap.size+1,1,none⟩=some (.int .i64 num):=A.tm.cell 1
 have d0:W.cell? ⟨w.heap.size,0,none⟩=some (.int .i64 yr):=A.pl.cell 0
 have d1:W.cell? ⟨w.heap.size,1,none⟩=some (.slice (some ⟨b,off,none⟩) cn cc):=A.pl.cell 1
 have d2:W.cell? ⟨w.heap.size,2,none⟩=some (.slice ia ino ic):=A.pl.cell 2
 have d3:W.cell? ⟨w.heap.size,3,none⟩=some (.slice za zn zc):=A.pl.cell 3
 have d4:W.cell? ⟨w.heap.size,4,none⟩=some (.int .i64 dy):=A.pl.cell 4
 have d5:W.cell? ⟨w.heap.size,5,none⟩=some (.int .i64 pa):=A.pl.cell 5
 have d6:W.cell? ⟨w.heap.size,6,none⟩=some (.slice ra rn rc):=A.pl.cell 6
 have d7:W.cell? ⟨w.heap.size,7,none⟩=some (.int .i64 kc):=A.pl.cell 7
 have d8:W.cell? ⟨w.heap.size,8,none⟩=some (.int .i64 sc):=A.pl.cell 8
 have d9:W.cell? ⟨w.heap.size,9,none⟩=some (.slice ra rn rc):=A.pl.cell 9
 have i0:(0:Int)≤(kc:Int):=by omega
 have i1:(kc:Int)<(cn:Int):=by omega
 clear A h c1
 go_enter Tryz.func99,Tryz.ntmps99
 go_wp2
 go_region_held3 (fun w'=>w'.cell? ⟨w.heap.size,0,none⟩=some (.int .i64 yr)∧w'.cell? ⟨w.heap.size,1,none⟩=some (.slice (some ⟨b,off,none⟩) cn cc)∧w'.cell? ⟨w.heap.size,2,none⟩=some (.slice ia ino ic)∧w'.cell? ⟨w.heap.size,3,none⟩=some (.slice za zn zc)∧w'.cell? ⟨w.heap.size,4,none⟩=some (.int .i64 dy)∧w'.cell? ⟨w.heap.size,5,none⟩=some (.int .i64 pa)∧w'.cell? ⟨w.heap.size,6,none⟩=some (.slice ra rn rc)∧w'.cell? ⟨w.heap.size,7,none⟩=some (.int .i64 kc)∧w'.cell? ⟨w.heap.size,8,none⟩=some (.int .i64 sc)∧w'.cell? ⟨w.heap.size,9,none⟩=some (.slice ra rn rc)∧w'.cell? ⟨w.heap.size+1,1,none⟩=some (.int .i64 num)) (first | exact ⟨d0,d1,d2,d3,d4,d5,d6,d7,d8,d9,x1⟩ | exact ⟨n0,n1,n2,n3,n4,n5,n6,n7,n8,n9,nx⟩ | exact ⟨m0,m1,m2,m3,m4,m5,m6,m7,m8,m9,my⟩ | simp [go_sem, *])
  (first
  | (go_at_call 150;refine (HHS.out _ (btr HA.out.below Bw.out)).mono ?_;rintro e w0 ⟨rfl,hb0⟩;have A0:=hid (HA.out.beh (btr Bw.out hb0));have n0:=bc1 (btr Bw.out hb0) d0;have n1:=bc1 (btr Bw.out hb0) d1;have n2:=bc1 (btr Bw.out hb0) d2;have n3:=bc1 (btr Bw.out hb0) d3;have n4:=bc1 (btr Bw.out hb0) d4;have n5:=bc1 (btr Bw.out hb0) d5;have n6:=bc1 (btr Bw.out hb0) d6;have n7:=bc1 (btr Bw.out hb0) d7;have n8:=bc1 (btr Bw.out hb0) d8;have n9:=bc1 (btr Bw.out hb0) d9;have nx:=bc1 (btr Bw.out hb0) x1)
  | (go_at_call 149;refine (HWH.out _ (btr A0.out.below Bw.out) _).mono ?_;rintro e w1 ⟨y,q,o,rfl,hy,hq,ho,hb1⟩;have A1:=hid (A0.out.beh (btr Bw.out hb1));have m0:=bc1 (btr Bw.out hb1) n0;have m1:=bc1 (btr Bw.out hb1) n1;have m2:=bc1 (btr Bw.out hb1) n2;have m3:=bc1 (btr Bw.out hb1) n3;have m4:=bc1 (btr Bw.out hb1) n4;have m5:=bc1 (btr Bw.out hb1) n5;have m6:=bc1 (btr Bw.out hb1) n6;have m7:=bc1 (btr Bw.out hb1) n7;have m8:=bc1 (btr Bw.out hb1) n8;have m9:=bc1 (btr Bw.out hb1) n9;have my:=bc1 (btr Bw.out hb1) nx;have z0:w1.cell? ⟨w.heap.size+1+1,0,none⟩=some (.slice none 0 0):=A1.out.sq.cell 0;have z1:w1.cell? ⟨w.heap.size+1+1,1,none⟩=some (.slice none 0 0):=A1.out.sq.cell 1;have z2:w1.cell? ⟨w.heap.size+1+1,2,none⟩=some (.slice none 0 0):=A1.out.sq.cell 2;have f0:=A1.out.sq.free 0;have f1:=A1.out.sq.free 1;have f2:=A1.out.sq.free 2;have zl:=A1.out.sq.lt))
 all_goals
  go_wp2
  refine bodyPost_ret (results_cell_row rfl _ _ (w.heap.size+1+1) _ #[.slice y.a y.n y.c,.slice q.a q.n q.c,.slice o.a o.n o.c] _ _ rfl (Blk.put3 A1.out.sq rfl) Tryz.underlying100 rfl sqInfo) rfl ?_
  exact sqP_put3 A1.out.sq hy hq ho A1.out.below (by omega)
theorem atom1_any (bt:Nat) (k num:Int) (w:World) (h:w.cell? ⟨bt,1,none⟩=some (.int .i64 num)):Calls Tryz.prog 152 #[.int .i64 k,.pointer (some ⟨bt,0,none⟩)] w fun e w'=>e=.returned (.bool (decide (k=num)))∧Below w.heap.size w w':=by
 go_enter Tryz.func152,Tryz.ntmps152
 go_wp2
 go_ret
 exact ⟨ret_bool (by first | rfl | simp),Below.refl _ _⟩
theorem any_any (k:Int) (w:World):Calls Tryz.prog 158 #[.int .i64 k] w fun e w'=>e=.returned (.bool true)∧Below w.heap.size w w':=by
 go_enter Tryz.func158,Tryz.ntmps158
 go_wp2
 go_ret
 exact ⟨rfl,Below.refl _ _⟩
theorem atom2_any (bp bt:Nat) (s:Sc Crp) (k:Nat) (m:Int) (w:World) (h1:w.cell? ⟨bp,1,none⟩=some (.slice s.a s.n s.c)) (h2:w.cell? ⟨bt,2,none⟩=some (.int .i64 m)) (hR:Rws encCrp w s 40) (hk:k<s.n) :
  Calls Tryz.prog 156 #[.int .i64 k,.pointer (some ⟨bp,0,none⟩),.pointer (some ⟨bt,0,none⟩)] w fun e w'=>e=.returned (.bool (hasMark s.l k m))∧Below w.heap.size w w':=by
 have HH:=hid (has_any s k m w hR hk)
 clear hR hk
 go_enter Tryz.func156,Tryz.ntmps156
 go_wp2_with (go_at_call 150;refine HH.out.mono ?_;rintro e w1 ⟨rfl,hb1⟩)
 go_ret
 exact ⟨rfl,hb1⟩
theorem atom3_any (bp bt:Nat) (s:Sc Crp) (k:Nat) (m:Int) (w:World) (h1:w.cell? ⟨bp,1,none⟩=some (.slice s.a s.n s.c)) (h2:w.cell? ⟨bt,2,none⟩=some (.int .i64 m)) (hR:Rws encCrp w s 40) (hk:k<s.n) :
  Calls Tryz.prog 157 #[.int .i64 k,.pointer (some ⟨bp,0,none⟩),.pointer (some ⟨bt,0,none⟩)] w fun e w'=>e=.returned (.bool (!hasMark s.l k m))∧Below w.heap.size w w':=by
 have HH:=hid (has_any s k m w hR hk)
 clear hR hk
 go_enter Tryz.func157,Tryz.ntmps157
 go_wp2_with (go_at_call 150;refine HH.out.mono ?_;rintro e w1 ⟨rfl,hb1⟩)
 go_ret
 exact ⟨rfl,hb1⟩
theorem en_atom1:Enters 152:=enters_of Tryz.func152 (by kernel_rfl) rfl
theorem en_atom2:Enters 156:=enters_of Tryz.func156 (by kernel_rfl) rfl
theorem en_atom3:Enters 157:=enters_of Tryz.func157 (by kernel_rfl) rfl
theorem en_any:Enters 158:=enters_of Tryz.func158 (by kernel_rfl) rfl
theorem PlOk.fewz {w:World} {p:PlM} (h:PlOk w p) {r:FtrM} (hr:r ∈ p.zo.l):r.s.n≤120:=by
 have hm:FtrM.pl r ∈ p.zo.l.map FtrM.pl:=List.mem_map.2 ⟨r,hr,rfl⟩
 obtain ⟨j,hj,e⟩:=List.getElem_of_mem hm
 have h1:=(h.zok.pre j hj hj).1.valid.1
 rw [e] at h1
 have h2:=(h.zos r hr).1.2.1
 have:(FtrM.pl r).rects=r.s.l:=rfl
 rw [this] at h1
 omega
theorem PlOk.widez {w:World} {p:PlM} (h:PlOk w p) {r:FtrM} (hr:r ∈ p.zo.l):Wide r.s.l:=fun q hq=>by
 have hm:FtrM.pl r ∈ p.zo.l.map FtrM.pl:=List.mem_map.2 ⟨r,hr,rfl⟩
 obtain ⟨j,hj,e⟩:=List.getElem_of_mem hm
 have h1:=(h.zok.pre j hj hj).1.valid.2.1
 rw [e] at h1
 exact (h1 q hq).2.1
theorem zone_env (p:PlM) (k x y:Int):inRc (ftrsL p.zo.l p.day fun c=>decide (c=k)) x y↔p.env.zone k x y:=by
 rw [ftrsL_in]
 unfold Env.zone PlM.env
 constructor
 ·rintro ⟨r,hr,h1,h2,h3⟩
  exact ⟨r.pl,List.mem_map.2 ⟨r,hr,rfl⟩,h1.1,h1.2,of_decide_eq_true h2,h3⟩
 ·rintro ⟨r,hr,h1,h2,h3,h4⟩
  obtain ⟨s,hs,rfl⟩:=List.mem_map.1 hr
  exact ⟨s,hs,⟨h1,h2⟩,decide_eq_true h3,h4⟩
theorem dec_pr' (R S:Sq):(⟨fun x y=>R x y∧S x y,fun x y=>R x y∧¬ (R x y∧S x y)⟩:Pr)=⟨fun x y=>R x y∧S x y,fun x y=>R x y∧¬ S x y⟩:=by
 congr 1;funext x y;exact propext ⟨fun h=>⟨h.1,fun z=>h.2 ⟨h.1,z⟩⟩,fun h=>⟨h.1,fun z=>h.2 z.2⟩⟩
theorem atom_zone (p:PlM) (num more:Int) (a:Option Addr) (n c:Nat) (w:World) (h:PlOk w p) :
  Calls Tryz.prog 99 #[.agg p.cells.toArray,.agg #[.int .i64 5,.int .i64 num,.int .i64 more,.slice a n c]] w (SqP w p.env ⟨fun x y=>p.env.R x y∧p.env.zone num x y,fun x y=>p.env.R x y∧¬ p.env.zone num x y⟩):=by
 have A:=AtW.start w p 5 num more a n c
 obtain ⟨W,hW⟩:∃ W,((w.alloc (.cells p.cells.toArray 98)).alloc (.cells #[.int .i64 5,.int .i64 num,.int .i64 more,.slice a n c] 24)).alloc (.cells #[.slice none 0 0,.slice none 0 0,.slice none 0 0] 100)=W:=⟨_,rfl⟩
 rw [hW] at A
 obtain ⟨L,hL⟩:∃ L,ftrsL p.zo.l p.day (fun c=>decide (c=num))=L:=⟨_,rfl⟩
 have hlen:L.length≤24000:=by
  have h1:=ftrsL_len (l:=p.zo.l) (fun r hr=>by have:=h.fewz hr;have:=(h.zos r hr).1.2.1;omega) p.day (fun c=>decide (c=num))
  have h2:=h.zo.len;have h3:=h.zo.few
  rw [hL] at h1
  omega
 have hwd:Wide L:=fun q hq=>by
  rw [← hL] at hq
  unfold ftrsL at hq
  obtain ⟨r,hr,hq⟩:=List.mem_flatMap.1 hq
  split at hq
  ·exact h.widez hr q hq
  ·cases hq
 have HFR:=hid fun (W':World) (q:Below W.heap.size W W')=>by
  have:=frects_any p.zo p.day 152 #[.pointer (some ⟨w.heap.size+1,0,none⟩)] en_atom1 (fun _=>True) (fun c=>decide (c=num)) W' ((h.zo.below A.below).below q) (fun r hr=>⟨((h.zos r hr).below A.below).below q,h.fewz hr,trivial⟩) (fun W2 q2 c _=>atom1_any _ c num W2 ((A.tm.below (btr q q2)).cell 1))
  rw [hL] at this
  exact this
 have HCH:=hid fun (W':World) (a4:Option Addr) (k4:Nat) (q:Below w.heap.size w W') (o:ScOk W' ⟨a4,L.length,k4,L⟩) =>
  ((choose_any p.rc.a p.rc.n p.rc.c p.rc.l a4 L.length k4 L 146 #[] en_both fBoth W' (h.rc.below q).1 o (wide_can h.can) hwd (ch_both _) rfl).mono fun e w' z=>(z.congr fun x y=>by
   rw [show (fBoth (insB p.rc.l x y) (insB L x y)=true)↔(insB p.rc.l x y=true∧insB L x y=true) by unfold fBoth;rw [Bool.and_eq_true],insB_iff,insB_iff,← hL,zone_env]
   exact Iff.rfl:NewCan W' (fun x y=>p.env.R x y∧p.env.zone num x y) e w').toS (fun x y z=>z.1) h.board)
 have HDE:=hid fun (W':World) (s:Sc Rc) (q:Below w.heap.size w W') (o:CanS W' (fun x y=>p.env.R x y∧p.env.zone num x y) s) =>
  decided_any p s _ W' (h.below q) o (fun x y z=>z.1)
 rw [← dec_pr' p.env.R (p.env.zone num)]
 have HLEN:=hid hlen
 clear hwd hL hlen
 have HA:=hid A;have H:=hid h
 obtain ⟨yr,dy,pa,cp,sc,⟨ca,cn,cc,cl⟩,⟨ia,ino,ic,il⟩,⟨za,zn,zc,zl⟩,⟨ra,rn,rc,rl⟩⟩:=p
 have x0:W.cell? ⟨w.heap.size+1,0,none⟩=some (.int .i64 5):=A.tm.cell 0
 have dx:W.cell? ⟨w.heap.size+1,1,none⟩=some (.int .i64 num):=A.tm.cell 1
 have d0:W.cell? ⟨w.heap.size,0,none⟩=some (.int .i64 yr):=A.pl.cell 0
 have d1:W.cell? ⟨w.heap.size,1,none⟩=some (.slice ca cn cc):=A.pl.cell 1
 have d2:W.cell? ⟨w.heap.size,2,none⟩=some (.slice ia ino ic):=A.pl.cell 2
 have d3:W.cell? ⟨w.heap.size,3,none⟩=some (.slice za zn zc):=A.pl.cell 3
 have d4:W.cell? ⟨w.heap.size,4,none⟩=some (.int .i64 dy):=A.pl.cell 4
 have d5:W.cell? ⟨w.heap.size,5,none⟩=some (.int .i64 pa):=A.pl.cell 5
 have d6:W.cell? ⟨w.heap.size,6,none⟩=some (.slice ra rn rc):=A.pl.cell 6
 have d7:W.cell? ⟨w.heap.size,7,none⟩=some (.int .i64 cp):=A.pl.cell 7
 have d8:W.cell? ⟨w.heap.size,8,none⟩=some (.int .i64 sc):=A.pl.cell 8
 have d9:W.cell? ⟨w.heap.size,9,none⟩=some (.slice ra rn rc):=A.pl.cell 9
 clear A h
 go_enter Tryz.func99,Tryz.ntmps99
 go_wp2_with (go_at_call 151;refine (HFR.out _ Bw.out).mono ?_;rintro e w4 ⟨v,rfl,own4,hb4⟩;obtain ⟨a4,h4,rfl,-,-,-⟩:=own_form own4;have A4:=hid (HA.out.beh (btr Bw.out hb4));have O4:=hid own4;have n0:=bc1 (btr Bw.out hb4) d0;have n1:=bc1 (btr Bw.out hb4) d1;have n2:=bc1 (btr Bw.out hb4) d2;have n3:=bc1 (btr Bw.out hb4) d3;have n4:=bc1 (btr Bw.out hb4) d4;have n5:=bc1 (btr Bw.out hb4) d5;have n6:=bc1 (btr Bw.out hb4) d6;have n7:=bc1 (btr Bw.out hb4) d7;have n8:=bc1 (btr Bw.out hb4) d8;have n9:=bc1 (btr Bw.out hb4) d9;have nx:=bc1 (btr Bw.out hb4) dx)
 go_region_held3 (fun w'=>w'.cell? ⟨w.heap.size,0,none⟩=some (.int .i64 yr)∧w'.cell? ⟨w.heap.size,1,none⟩=some (.slice ca cn cc)∧w'.cell? ⟨w.heap.size,2,none⟩=some (.slice ia ino ic)∧w'.cell? ⟨w.heap.size,3,none⟩=some (.slice za zn zc)∧w'.cell? ⟨w.heap.size,4,none⟩=some (.int .i64 dy)∧w'.cell? ⟨w.heap.size,5,none⟩=some (.int .i64 pa)∧w'.cell? ⟨w.heap.size,6,none⟩=some (.slice ra rn rc)∧w'.cell? ⟨w.heap.size,7,none⟩=some (.int .i64 cp)∧w'.cell? ⟨w.heap.size,8,none⟩=some (.int .i64 sc)∧w'.cell? ⟨w.heap.size,9,none⟩=some (.slice ra rn rc)∧w'.cell? ⟨w.heap.size+1,1,none⟩=some (.int .i64 num)) (first | exact ⟨n0,n1,n2,n3,n4,n5,n6,n7,n8,n9,nx⟩ | exact ⟨m0,m1,m2,m3,m4,m5,m6,m7,m8,m9,mx⟩ | exact ⟨k0,k1,k2,k3,k4,k5,k6,k7,k8,k9,kx⟩ | simp [go_sem, *])
  (first
  | (go_at_call 145;refine (HCH.out _ a4 h4 (btr A4.out.below Bw.out) ⟨(vw_of_own O4.out).below Bw.out,rfl,Nat.le_trans HLEN.out (by omega)⟩).mono ?_;rintro e w5 ⟨a5,j5,h5,l5,rfl,s5,i5,hb5,-⟩;have A5:=hid (A4.out.beh (btr Bw.out hb5));have S5:=hid (CanS.mk s5 i5);have m0:=bc1 (btr Bw.out hb5) n0;have m1:=bc1 (btr Bw.out hb5) n1;have m2:=bc1 (btr Bw.out hb5) n2;have m3:=bc1 (btr Bw.out hb5) n3;have m4:=bc1 (btr Bw.out hb5) n4;have m5:=bc1 (btr Bw.out hb5) n5;have m6:=bc1 (btr Bw.out hb5) n6;have m7:=bc1 (btr Bw.out hb5) n7;have m8:=bc1 (btr Bw.out hb5) n8;have m9:=bc1 (btr Bw.out hb5) n9;have mx:=bc1 (btr Bw.out hb5) nx)
  | (go_at_call 153;refine (HDE.out _ ⟨a5,j5,h5,l5⟩ (btr A5.out.below Bw.out) (S5.out.below Bw.out)).mono ?_;rintro e w1 ⟨y,q,o,rfl,hy,hq,ho,hb1⟩;have A1:=hid (A5.out.beh (btr Bw.out hb1));have k0:=bc1 (btr Bw.out hb1) m0;have k1:=bc1 (btr Bw.out hb1) m1;have k2:=bc1 (btr Bw.out hb1) m2;have k3:=bc1 (btr Bw.out hb1) m3;have k4:=bc1 (btr Bw.out hb1) m4;have k5:=bc1 (btr Bw.out hb1) m5;have k6:=bc1 (btr Bw.out hb1) m6;have k7:=bc1 (btr Bw.out hb1) m7;have k8:=bc1 (btr Bw.out hb1) m8;have k9:=bc1 (btr Bw.out hb1) m9;have kx:=bc1 (btr Bw.out hb1) mx;have z0:w1.cell? ⟨w.heap.size+1+1,0,none⟩=some (.slice none 0 0):=A1.out.sq.cell 0;have z1:w1.cell? ⟨w.heap.size+1+1,1,none⟩=some (.slice none 0 0):=A1.out.sq.cell 1;have z2:w1.cell? ⟨w.heap.size+1+1,2,none⟩=some (.slice none 0 0):=A1.out.sq.cell 2;have f0:=A1.out.sq.free 0;have f1:=A1.out.sq.free 1;have f2:=A1.out.sq.free 2;have zl:=A1.out.sq.lt))
 all_goals
  go_wp2
  refine bodyPost_ret (results_cell_row rfl _ _ (w.heap.size+1+1) _ #[.slice y.a y.n y.c,.slice q.a q.n q.c,.slice o.a o.n o.c] _ _ rfl (Blk.put3 A1.out.sq rfl) Tryz.underlying100 rfl sqInfo) rfl ?_
  exact sqP_put3 A1.out.sq hy hq ho A1.out.below (by omega)
theorem atom_before (p:PlM) (num more:Int) (a:Option Addr) (n c:Nat) (w:World) (h:PlOk w p) (hn:0≤num∧num≤1000) :
  Calls Tryz.prog 99 #[.agg p.cells.toArray,.agg #[.int .i64 7,.int .i64 num,.int .i64 more,.slice a n c]] w (SqP w p.env ⟨p.env.known num fun c=>hasMark p.cr.l c more,p.env.known num fun c=>!hasMark p.cr.l c more⟩):=by
 have A:=AtW.start w p 7 num more a n c
 obtain ⟨W,hW⟩:∃ W,((w.alloc (.cells p.cells.toArray 98)).alloc (.cells #[.int .i64 7,.int .i64 num,.int .i64 more,.slice a n c] 24)).alloc (.cells #[.slice none 0 0,.slice none 0 0,.slice none 0 0] 100)=W:=⟨_,rfl⟩
 rw [hW] at A
 have HK2:=hid fun (W':World) (q:Below W.heap.size W W') =>
  (known_any p num 156 #[.pointer (some ⟨w.heap.size,0,none⟩),.pointer (some ⟨w.heap.size+1,0,none⟩)] en_atom2 (fun c=>0≤c∧c<p.cr.n) (fun c=>hasMark p.cr.l c more) W' (h.below (btr A.below q)) hn (fun W2 q2 c hc=>by
   obtain ⟨j,rfl⟩:∃ j:Nat,c=j:=⟨c.toNat,by omega⟩
   exact atom2_any w.heap.size (w.heap.size+1) p.cr j more W2 ((A.pl.below (btr q q2)).cell 1) ((A.tm.below (btr q q2)).cell 2) (h.cr.below (btr (btr A.below q) q2)) (by omega)) (fun c a b=>⟨a,b⟩)).mono fun e w' z=>z.toS (fun x y z=>z.1) h.board
 have HK3:=hid fun (W':World) (q:Below W.heap.size W W') =>
  (known_any p num 157 #[.pointer (some ⟨w.heap.size,0,none⟩),.pointer (some ⟨w.heap.size+1,0,none⟩)] en_atom3 (fun c=>0≤c∧c<p.cr.n) (fun c=>!hasMark p.cr.l c more) W' (h.below (btr A.below q)) hn (fun W2 q2 c hc=>by
   obtain ⟨j,rfl⟩:∃ j:Nat,c=j:=⟨c.toNat,by omega⟩
   exact atom3_any w.heap.size (w.heap.size+1) p.cr j more W2 ((A.pl.below (btr q q2)).cell 1) ((A.tm.below (btr q q2)).cell 2) (h.cr.below (btr (btr A.below q) q2)) (by omega)) (fun c a b=>⟨a,b⟩)).mono fun e w' z=>z.toS (fun x y z=>z.1) h.board
 have HRS:=hid fun (W':World) (y n:Sc Rc) (q:Below w.heap.size w W') (o:CanS W' (p.env.known num fun c=>hasMark p.cr.l c more) y) (o2:CanS W' (p.env.known num fun c=>!hasMark p.cr.l c more) n) =>
  (rest_any p y.a y.n y.c y.l n.a n.n n.c n.l _ _ W' (h.below q) o.ok o.can o2.ok o2.can).mono fun e w' z=>sqP_rest (w:=W') (y:=y) (n:=n) (p:=⟨_,_⟩) z (Below.refl _ _) o o2
 have HA:=hid A;have H:=hid h
 obtain ⟨yr,dy,pa,cp,sc,⟨ca,cn,cc,cl⟩,⟨ia,ino,ic,il⟩,⟨za,zn,zc,zl⟩,⟨ra,rn,rc,rl⟩⟩:=p
 have x0:W.cell? ⟨w.heap.size+1,0,none⟩=some (.int .i64 7):=A.tm.cell 0
 have dx:W.cell? ⟨w.heap.size+1,1,none⟩=some (.int .i64 num):=A.tm.cell 1
 have d0:W.cell? ⟨w.heap.size,0,none⟩=some (.int .i64 yr):=A.pl.cell 0
 have d1:W.cell? ⟨w.heap.size,1,none⟩=some (.slice ca cn cc):=A.pl.cell 1
 have d2:W.cell? ⟨w.heap.size,2,none⟩=some (.slice ia ino ic):=A.pl.cell 2
 have d3:W.cell? ⟨w.heap.size,3,none⟩=some (.slice za zn zc):=A.pl.cell 3
 have d4:W.cell? ⟨w.heap.size,4,none⟩=some (.int .i64 dy):=A.pl.cell 4
 have d5:W.cell? ⟨w.heap.size,5,none⟩=some (.int .i64 pa):=A.pl.cell 5
 have d6:W.cell? ⟨w.heap.size,6,none⟩=some (.slice ra rn rc):=A.pl.cell 6
 have d7:W.cell? ⟨w.heap.size,7,none⟩=some (.int .i64 cp):=A.pl.cell 7
 have d8:W.cell? ⟨w.heap.size,8,none⟩=some (.int .i64 sc):=A.pl.cell 8
 have d9:W.cell? ⟨w.heap.size,9,none⟩=some (.slice ra rn rc):=A.pl.cell 9
 clear A h
 go_enter Tryz.func99,Tryz.ntmps99
 go_wp2_with (first
  | (refine wpList_load_row rfl 98 (.tmp 2) rfl w.heap.size rfl _ #[.int .i64 yr,.slice ca cn cc,.slice ia ino ic,.slice za zn zc,.int .i64 dy,.int .i64 pa,.slice ra rn rc,.int .i64 cp,.int .i64 sc,.slice ra rn rc] _ _ HA.out.pl Tryz.underlying98 rfl plInfo ?_)
  | (go_at_call 155;refine (HK2.out _ Bw.out).mono ?_;rintro e w4 ⟨a4,j4,h4,l4,rfl,s4,i4,hb4,-⟩;have A4:=hid (HA.out.beh (btr Bw.out hb4));have B4:=hid (btr Bw.out hb4:Below W.heap.size W w4);have S4:=hid (CanS.mk s4 i4);have n0:=bc1 (btr Bw.out hb4) d0;have n1:=bc1 (btr Bw.out hb4) d1;have n2:=bc1 (btr Bw.out hb4) d2;have n3:=bc1 (btr Bw.out hb4) d3;have n4:=bc1 (btr Bw.out hb4) d4;have n5:=bc1 (btr Bw.out hb4) d5;have n6:=bc1 (btr Bw.out hb4) d6;have n7:=bc1 (btr Bw.out hb4) d7;have n8:=bc1 (btr Bw.out hb4) d8;have n9:=bc1 (btr Bw.out hb4) d9;have nx:=bc1 (btr Bw.out hb4) dx))
 go_region_held3 (fun w'=>w'.cell? ⟨w.heap.size,0,none⟩=some (.int .i64 yr)∧w'.cell? ⟨w.heap.size,1,none⟩=some (.slice ca cn cc)∧w'.cell? ⟨w.heap.size,2,none⟩=some (.slice ia ino ic)∧w'.cell? ⟨w.heap.size,3,none⟩=some (.slice za zn zc)∧w'.cell? ⟨w.heap.size,4,none⟩=some (.int .i64 dy)∧w'.cell? ⟨w.heap.size,5,none⟩=some (.int .i64 pa)∧w'.cell? ⟨w.heap.size,6,none⟩=some (.slice ra rn rc)∧w'.cell? ⟨w.heap.size,7,none⟩=some (.int .i64 cp)∧w'.cell? ⟨w.heap.size,8,none⟩=some (.int .i64 sc)∧w'.cell? ⟨w.heap.size,9,none⟩=some (.slice ra rn rc)∧w'.cell? ⟨w.heap.size+1,1,none⟩=some (.int .i64 num)) (first | exact ⟨n0,n1,n2,n3,n4,n5,n6,n7,n8,n9,nx⟩ | exact ⟨m0,m1,m2,m3,m4,m5,m6,m7,m8,m9,mx⟩ | exact ⟨k0,k1,k2,k3,k4,k5,k6,k7,k8,k9,kx⟩ | simp [go_sem, *])
  (first
  | (go_at_call 155;refine (HK3.out _ (btr B4.out Bw.out)).mono ?_;rintro e w5 ⟨a5,j5,h5,l5,rfl,s5,i5,hb5,-⟩;have A5:=hid (A4.out.beh (btr Bw.out hb5));have S5:=hid (CanS.mk s5 i5);have S4':=hid (S4.out.below (btr Bw.out hb5));have m0:=bc1 (btr Bw.out hb5) n0;have m1:=bc1 (btr Bw.out hb5) n1;have m2:=bc1 (btr Bw.out hb5) n2;have m3:=bc1 (btr Bw.out hb5) n3;have m4:=bc1 (btr Bw.out hb5) n4;have m5:=bc1 (btr Bw.out hb5) n5;have m6:=bc1 (btr Bw.out hb5) n6;have m7:=bc1 (btr Bw.out hb5) n7;have m8:=bc1 (btr Bw.out hb5) n8;have m9:=bc1 (btr Bw.out hb5) n9;have mx:=bc1 (btr Bw.out hb5) nx)
  | (go_at_call 148;refine (HRS.out _ ⟨a4,j4,h4,l4⟩ ⟨a5,j5,h5,l5⟩ (btr A5.out.below Bw.out) (S4'.out.below Bw.out) (S5.out.below Bw.out)).mono ?_;rintro e w1 ⟨y,q,o,rfl,hy,hq,ho,hb1⟩;have A1:=hid (A5.out.beh (btr Bw.out hb1));have k0:=bc1 (btr Bw.out hb1) m0;have k1:=bc1 (btr Bw.out hb1) m1;have k2:=bc1 (btr Bw.out hb1) m2;have k3:=bc1 (btr Bw.out hb1) m3;have k4:=bc1 (btr Bw.out hb1) m4;have k5:=bc1 (btr Bw.out hb1) m5;have k6:=bc1 (btr Bw.out hb1) m6;have k7:=bc1 (btr Bw.out hb1) m7;have k8:=bc1 (btr Bw.out hb1) m8;have k9:=bc1 (btr Bw.out hb1) m9;have kx:=bc1 (btr Bw.out hb1) mx;have z0:w1.cell? ⟨w.heap.size+1+1,0,none⟩=some (.slice none 0 0):=A1.out.sq.cell 0;have z1:w1.cell? ⟨w.heap.size+1+1,1,none⟩=some (.slice none 0 0):=A1.out.sq.cell 1;have z2:w1.cell? ⟨w.heap.size+1+1,2,none⟩=some (.slice none 0 0):=A1.out.sq.cell 2;have f0:=A1.out.sq.free 0;have f1:=A1.out.sq.free 1;have f2:=A1.out.sq.free 2;have zl:=A1.out.sq.lt))
 all_goals
  go_wp2
  refine bodyPost_ret (results_cell_row rfl _ _ (w.heap.size+1+1) _ #[.slice y.a y.n y.c,.slice q.a q.n q.c,.slice o.a o.n o.c] _ _ rfl (Blk.put3 A1.out.sq rfl) Tryz.underlying100 rfl sqInfo) rfl ?_
  exact sqP_put3 A1.out.sq hy hq ho A1.out.below (by omega)
theorem atom_known (p:PlM) (num more:Int) (a:Option Addr) (n c:Nat) (w:World) (h:PlOk w p) (hn:0≤num∧num≤1000) :
  Calls Tryz.prog 99 #[.agg p.cells.toArray,.agg #[.int .i64 8,.int .i64 num,.int .i64 more,.slice a n c]] w (SqP w p.env ⟨p.env.known num fun _=>true,fun x y=>p.env.R x y∧¬ p.env.known num (fun _=>true) x y⟩):=by
 have A:=AtW.start w p 8 num more a n c
 obtain ⟨W,hW⟩:∃ W,((w.alloc (.cells p.cells.toArray 98)).alloc (.cells #[.int .i64 8,.int .i64 num,.int .i64 more,.slice a n c] 24)).alloc (.cells #[.slice none 0 0,.slice none 0 0,.slice none 0 0] 100)=W:=⟨_,rfl⟩
 rw [hW] at A
 have HK2:=hid fun (W':World) (q:Below W.heap.size W W') =>
  (known_any p num 158 #[] en_any (fun c=>True) (fun c=>true) W' (h.below (btr A.below q)) hn (fun W2 q2 c hc=>any_any c W2) (fun c a b=>trivial)).mono fun e w' z=>z.toS (fun x y z=>z.1) h.board
 have HDE:=hid fun (W':World) (s:Sc Rc) (q:Below w.heap.size w W') (o:CanS W' (p.env.known num fun _=>true) s) =>
  decided_any p s _ W' (h.below q) o (fun x y z=>z.1)
 have HA:=hid A;have H:=hid h
 obtain ⟨yr,dy,pa,cp,sc,⟨ca,cn,cc,cl⟩,⟨ia,ino,ic,il⟩,⟨za,zn,zc,zl⟩,⟨ra,rn,rc,rl⟩⟩:=p
 have x0:W.cell? ⟨w.heap.size+1,0,none⟩=some (.int .i64 8):=A.tm.cell 0
 have dx:W.cell? ⟨w.heap.size+1,1,none⟩=some (.int .i64 num):=A.tm.cell 1
 have d0:W.cell? ⟨w.heap.size,0,none⟩=some (.int .i64 yr):=A.pl.cell 0
 have d1:W.cell? ⟨w.heap.size,1,none⟩=some (.slice ca cn cc):=A.pl.cell 1
 have d2:W.cell? ⟨w.heap.size,2,none⟩=some (.slice ia ino ic):=A.pl.cell 2
 have d3:W.cell? ⟨w.heap.size,3,none⟩=some (.slice za zn zc):=A.pl.cell 3
 have d4:W.cell? ⟨w.heap.size,4,none⟩=some (.int .i64 dy):=A.pl.cell 4
 have d5:W.cell? ⟨w.heap.size,5,none⟩=some (.int .i64 pa):=A.pl.cell 5
 have d6:W.cell? ⟨w.heap.size,6,none⟩=some (.slice ra rn rc):=A.pl.cell 6
 have d7:W.cell? ⟨w.heap.size,7,none⟩=some (.int .i64 cp):=A.pl.cell 7
 have d8:W.cell? ⟨w.heap.size,8,none⟩=some (.int .i64 sc):=A.pl.cell 8
 have d9:W.cell? ⟨w.heap.size,9,none⟩=some (.slice ra rn rc):=A.pl.cell 9
 clear A h
 go_enter Tryz.func99,Tryz.ntmps99
 go_wp2
 go_region_held3 (fun w'=>w'.cell? ⟨w.heap.size,0,none⟩=some (.int .i64 yr)∧w'.cell? ⟨w.heap.size,1,none⟩=some (.slice ca cn cc)∧w'.cell? ⟨w.heap.size,2,none⟩=some (.slice ia ino ic)∧w'.cell? ⟨w.heap.size,3,none⟩=some (.slice za zn zc)∧w'.cell? ⟨w.heap.size,4,none⟩=some (.int .i64 dy)∧w'.cell? ⟨w.heap.size,5,none⟩=some (.int .i64 pa)∧w'.cell? ⟨w.heap.size,6,none⟩=some (.slice ra rn rc)∧w'.cell? ⟨w.heap.size,7,none⟩=some (.int .i64 cp)∧w'.cell? ⟨w.heap.size,8,none⟩=some (.int .i64 sc)∧w'.cell? ⟨w.heap.size,9,none⟩=some (.slice ra rn rc)∧w'.cell? ⟨w.heap.size+1,1,none⟩=some (.int .i64 num)) (first | exact ⟨d0,d1,d2,d3,d4,d5,d6,d7,d8,d9,dx⟩ | exact ⟨m0,m1,m2,m3,m4,m5,m6,m7,m8,m9,mx⟩ | exact ⟨k0,k1,k2,k3,k4,k5,k6,k7,k8,k9,kx⟩ | simp [go_sem, *])
  (first
  | (go_at_call 155;refine (HK2.out _ Bw.out).mono ?_;rintro e w5 ⟨a5,n5,k5,l5,rfl,s5,i5,hb5,-⟩;have A5:=hid (HA.out.beh (btr Bw.out hb5));have S5:=hid (CanS.mk s5 i5);have m0:=bc1 (btr Bw.out hb5) d0;have m1:=bc1 (btr Bw.out hb5) d1;have m2:=bc1 (btr Bw.out hb5) d2;have m3:=bc1 (btr Bw.out hb5) d3;have m4:=bc1 (btr Bw.out hb5) d4;have m5:=bc1 (btr Bw.out hb5) d5;have m6:=bc1 (btr Bw.out hb5) d6;have m7:=bc1 (btr Bw.out hb5) d7;have m8:=bc1 (btr Bw.out hb5) d8;have m9:=bc1 (btr Bw.out hb5) d9;have mx:=bc1 (btr Bw.out hb5) dx)
  | (go_at_call 153;refine (HDE.out _ ⟨a5,n5,k5,l5⟩ (btr A5.out.below Bw.out) (S5.out.below Bw.out)).mono ?_;rintro e w1 ⟨y,q,o,rfl,hy,hq,ho,hb1⟩;have A1:=hid (A5.out.beh (btr Bw.out hb1));have k0:=bc1 (btr Bw.out hb1) m0;have k1:=bc1 (btr Bw.out hb1) m1;have k2:=bc1 (btr Bw.out hb1) m2;have k3:=bc1 (btr Bw.out hb1) m3;have k4:=bc1 (btr Bw.out hb1) m4;have k5:=bc1 (btr Bw.out hb1) m5;have k6:=bc1 (btr Bw.out hb1) m6;have k7:=bc1 (btr Bw.out hb1) m7;have k8:=bc1 (btr Bw.out hb1) m8;have k9:=bc1 (btr Bw.out hb1) m9;have kx:=bc1 (btr Bw.out hb1) mx;have z0:w1.cell? ⟨w.heap.size+1+1,0,none⟩=some (.slice none 0 0):=A1.out.sq.cell 0;have z1:w1.cell? ⟨w.heap.size+1+1,1,none⟩=some (.slice none 0 0):=A1.out.sq.cell 1;have z2:w1.cell? ⟨w.heap.size+1+1,2,none⟩=some (.slice none 0 0):=A1.out.sq.cell 2;have f0:=A1.out.sq.free 0;have f1:=A1.out.sq.free 1;have f2:=A1.out.sq.free 2;have zl:=A1.out.sq.lt))
 all_goals
  go_wp2
  refine bodyPost_ret (results_cell_row rfl _ _ (w.heap.size+1+1) _ #[.slice y.a y.n y.c,.slice q.a q.n q.c,.slice o.a o.n o.c] _ _ rfl (Blk.put3 A1.out.sq rfl) Tryz.underlying100 rfl sqInfo) rfl ?_
  exact sqP_put3 A1.out.sq hy hq ho A1.out.below (by omega)
end Go.Proofs.YtancajcelmhnkaaGreatDoor
