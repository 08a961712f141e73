/- ref16.place.eval at terms with kids;at any valid term. (Printed by gen4/rev.py.) -/
import Derived.Test.YtancajcelmhnkaaGreatDoorRvm
set_option maxRecDepth 100000
set_option maxHeartbeats 40000000
namespace Go.Proofs.YtancajcelmhnkaaGreatDoor
open Go.RowKit Go.Sort Go.Shelf
set_option linter.unusedVariables false
set_option linter.unusedSimpArgs false
abbrev S14 (g t kb ko:Nat) (v0 v1 v2 v3 v4 v5 v6 v7 v8 v9 v10 v11 v12 v13:Value) (w':World):Prop:=w'.cell? ⟨g,0,none⟩=some v0∧w'.cell? ⟨g,1,none⟩=some v1∧w'.cell? ⟨g,2,none⟩=some v2∧w'.cell? ⟨g,3,none⟩=some v3∧w'.cell? ⟨g,4,none⟩=some v4∧w'.cell? ⟨g,5,none⟩=some v5∧w'.cell? ⟨g,6,none⟩=some v6∧w'.cell? ⟨g,7,none⟩=some v7∧w'.cell? ⟨g,8,none⟩=some v8∧w'.cell? ⟨t,3,none⟩=some v9∧w'.cell? ⟨kb,ko,none⟩=some v10∧w'.cell? ⟨kb,ko+1,none⟩=some v11∧w'.cell? ⟨kb,ko+2,none⟩=some v12∧w'.cell? ⟨kb,ko+3,none⟩=some v13
theorem S14.below {g t kb ko:Nat} {v0 v1 v2 v3 v4 v5 v6 v7 v8 v9 v10 v11 v12 v13:Value} {w w':World} (h:S14 g t kb ko v0 v1 v2 v3 v4 v5 v6 v7 v8 v9 v10 v11 v12 v13 w) (hb:Below w.heap.size w w'):S14 g t kb ko v0 v1 v2 v3 v4 v5 v6 v7 v8 v9 v10 v11 v12 v13 w' :=
 ⟨bc1 hb h.1,bc1 hb h.2.1,bc1 hb h.2.2.1,bc1 hb h.2.2.2.1,bc1 hb h.2.2.2.2.1,bc1 hb h.2.2.2.2.2.1,bc1 hb h.2.2.2.2.2.2.1,bc1 hb h.2.2.2.2.2.2.2.1,bc1 hb h.2.2.2.2.2.2.2.2.1,bc1 hb h.2.2.2.2.2.2.2.2.2.1,bc1 hb h.2.2.2.2.2.2.2.2.2.2.1,bc1 hb h.2.2.2.2.2.2.2.2.2.2.2.1,bc1 hb h.2.2.2.2.2.2.2.2.2.2.2.2.1,bc1 hb h.2.2.2.2.2.2.2.2.2.2.2.2.2⟩
theorem S14.far3 {g t kb ko k:Nat} {v0 v1 v2 v3 v4 v5 v6 v7 v8 v9 v10 v11 v12 v13 u0 u1 u2:Value} {w:World} (h:S14 g t kb ko v0 v1 v2 v3 v4 v5 v6 v7 v8 v9 v10 v11 v12 v13 w) (h1:g ≠ k) (h2:t ≠ k) (h3:kb ≠ k):S14 g t kb ko v0 v1 v2 v3 v4 v5 v6 v7 v8 v9 v10 v11 v12 v13 (((w.setCell ⟨k,0,none⟩ u0).setCell ⟨k,1,none⟩ u1).setCell ⟨k,2,none⟩ u2) :=
 ⟨cell_far3 h1 (h.1),cell_far3 h1 (h.2.1),cell_far3 h1 (h.2.2.1),cell_far3 h1 (h.2.2.2.1),cell_far3 h1 (h.2.2.2.2.1),cell_far3 h1 (h.2.2.2.2.2.1),cell_far3 h1 (h.2.2.2.2.2.2.1),cell_far3 h1 (h.2.2.2.2.2.2.2.1),cell_far3 h1 (h.2.2.2.2.2.2.2.2.1),cell_far3 h2 (h.2.2.2.2.2.2.2.2.2.1),cell_far3 h3 (h.2.2.2.2.2.2.2.2.2.2.1),cell_far3 h3 (h.2.2.2.2.2.2.2.2.2.2.2.1),cell_far3 h3 (h.2.2.2.2.2.2.2.2.2.2.2.2.1),cell_far3 h3 (h.2.2.2.2.2.2.2.2.2.2.2.2.2)⟩
structure TrAt (W:World) (g:Nat) (E:Env) (p:Pr):Prop where
 ex:∃ y n o:Sc Rc,Blk W g 109 #[.slice y.a y.n y.c,.slice n.a n.n n.c,.slice o.a o.n o.c]∧CanS W p.yes y∧CanS W p.no n∧CanS W (E.rest p) o
theorem TrAt.below {W W':World} {g:Nat} {E:Env} {p:Pr} (h:TrAt W g E p) (hb:Below W.heap.size W W'):TrAt W' g E p:=by
 obtain ⟨y,n,o,h1,h2,h3,h4⟩:=h.ex
 exact ⟨y,n,o,h1.below hb,h2.below hb,h3.below hb,h4.below hb⟩
theorem TrAt.congr {W:World} {g:Nat} {E:Env} {p q:Pr} (h:TrAt W g E p) (h1:∀ x y,p.yes x y↔q.yes x y) (h2:∀ x y,p.no x y↔q.no x y):TrAt W g E q:=by
 obtain ⟨y,n,o,k0,k1,k2,k3⟩:=h.ex
 exact ⟨y,n,o,k0,k1.congr h1,k2.congr h2,k3.congr fun x y=>and_congr Iff.rfl (and_congr (not_congr (h1 x y)) (not_congr (h2 x y)))⟩
def TrC (X:World) (E:Env) (p:Pr) (s:Value) (wx:World):Prop:=∃ g:Nat,s=.pointer (some ⟨g,0,none⟩)∧X.heap.size≤g∧TrAt wx g E p∧Below X.heap.size X wx
theorem trC_new {X w:World} {E:Env} {p:Pr} {y n o:Sc Rc} (hb:Below X.heap.size X w) (hy:CanS w p.yes y) (hn:CanS w p.no n) (ho:CanS w (E.rest p) o) :
  TrC X E p (.pointer (some ⟨w.heap.size,0,none⟩)) (w.alloc (.cells #[.slice y.a y.n y.c,.slice n.a n.n n.c,.slice o.a o.n o.c] 109)) :=
 have BA:Below w.heap.size w (w.alloc (.cells #[.slice y.a y.n y.c,.slice n.a n.n n.c,.slice o.a o.n o.c] 109)):=Bw.out
 ⟨_,rfl,hb.size,⟨y,n,o,Blk.new _ _ _,hy.below BA,hn.below BA,ho.below BA⟩,btr hb BA⟩
theorem trC_put {X w:World} {g:Nat} {E:Env} {p:Pr} {y n o:Sc Rc} (hb:Below X.heap.size X w) (hB:Blk w g 109 #[.slice none 0 0,.slice none 0 0,.slice none 0 0]) (hg:X.heap.size≤g) (hy:CanS w p.yes y) (hn:CanS w p.no n) (ho:CanS w (E.rest p) o) :
  TrC X E p (.pointer (some ⟨g,0,none⟩)) (((w.setCell ⟨g,0,none⟩ (.slice y.a y.n y.c)).setCell ⟨g,1,none⟩ (.slice n.a n.n n.c)).setCell ⟨g,2,none⟩ (.slice o.a o.n o.c)) :=
 ⟨g,rfl,hg,⟨y,n,o,hB.put3 rfl,can_st3 hB hy,can_st3 hB hn,can_st3 hB ho⟩,bst (bst (bst hb _ _ _ hg) _ _ _ hg) _ _ _ hg⟩
def cumP (E:Env) (op:Int) (l:List Pr):Pr:=if op=9 then E.and l else (E.and (l.map Pr.not)).not
theorem cumP_one {E:Env} {op:Int} {p:Pr} (h:E.Fine p):(∀ x y,p.yes x y↔(cumP E op [p]).yes x y)∧(∀ x y,p.no x y↔(cumP E op [p]).no x y):=by
 unfold cumP Env.and Pr.not
 split
 ·exact ⟨fun x y=>⟨fun k=>⟨h.yes x y k,fun q hq=>by rw [List.mem_singleton.1 hq];exact k⟩,fun k=>k.2 _ (List.mem_singleton.2 rfl)⟩,fun x y=>⟨fun k=>⟨p,List.mem_singleton.2 rfl,k⟩,fun ⟨q,hq,k⟩=>by rw [List.mem_singleton.1 hq] at k;exact k⟩⟩
 ·simp only [List.map_cons,List.map_nil]
  exact ⟨fun x y=>⟨fun k=>⟨_,List.mem_singleton.2 rfl,k⟩,fun ⟨q,hq,k⟩=>by rw [List.mem_singleton.1 hq] at k;exact k⟩,fun x y=>⟨fun k=>⟨h.no x y k,fun q hq=>by rw [List.mem_singleton.1 hq];exact k⟩,fun k=>k.2 _ (List.mem_singleton.2 rfl)⟩⟩
theorem cumP_and (E:Env) (l:List Pr) (p:Pr) (x y:Int):((E.R x y∧(cumP E 9 l).yes x y∧p.yes x y)↔(cumP E 9 (l++[p])).yes x y)∧((E.R x y∧((cumP E 9 l).no x y∨p.no x y))↔(E.R x y∧(cumP E 9 (l++[p])).no x y)):=by
 unfold cumP Env.and
 rw [if_pos rfl,if_pos rfl]
 dsimp only
 constructor
 ·constructor
  ·rintro ⟨h1,⟨-,h2⟩,h3⟩
   refine ⟨h1,fun q hq=>?_⟩
   rcases List.mem_append.1 hq with hq | hq
   ·exact h2 q hq
   ·rw [List.mem_singleton.1 hq];exact h3
  ·rintro ⟨h1,h2⟩
   exact ⟨h1,⟨h1,fun q hq=>h2 q (List.mem_append.2 (.inl hq))⟩,h2 p (List.mem_append.2 (.inr (List.mem_singleton.2 rfl)))⟩
 ·refine and_congr Iff.rfl ?_
  constructor
  ·rintro (⟨q,hq,k⟩ | k)
   ·exact ⟨q,List.mem_append.2 (.inl hq),k⟩
   ·exact ⟨p,List.mem_append.2 (.inr (List.mem_singleton.2 rfl)),k⟩
  ·rintro ⟨q,hq,k⟩
   rcases List.mem_append.1 hq with hq | hq
   ·exact .inl ⟨q,hq,k⟩
   ·rw [List.mem_singleton.1 hq] at k;exact .inr k
theorem cumP_or (E:Env) (l:List Pr) (p:Pr) (x y:Int):((E.R x y∧((cumP E 10 l).yes x y∨p.yes x y))↔(E.R x y∧(cumP E 10 (l++[p])).yes x y))∧((E.R x y∧(cumP E 10 l).no x y∧p.no x y)↔(cumP E 10 (l++[p])).no x y):=by
 have h:=cumP_and E (l.map Pr.not) p.not x y
 unfold cumP at h ⊢
 rw [if_pos rfl,if_pos rfl] at h
 rw [if_neg (by decide),if_neg (by decide),List.map_append]
 exact ⟨h.2,h.1⟩
theorem cumP_no {E:Env} {op:Int} {l:List Pr} (h:∀ p ∈ l,E.Fine p):(∀ x y,(cumP E op l).yes x y→E.R x y)∧(∀ x y,(cumP E op l).no x y→E.R x y):=by
 unfold cumP
 split
 ·exact ⟨fun x y k=>k.1,fun x y ⟨p,hp,k⟩=>(h p hp).no x y k⟩
 ·refine ⟨fun x y k=>?_,fun x y k=>k.1⟩
  obtain ⟨p,hp,k⟩:=k
  obtain ⟨q,hq,rfl⟩:=List.mem_map.1 hp
  exact (h q hq).yes x y k
theorem reval_11 (year day par crop sch:Int) (ca:Option Addr) (cn cc:Nat) (cl:List Crp) (ha:Option Addr) (hn hc:Nat) (hl:List RcdM) (za:Option Addr) (zn zc:Nat) (zl:List FtrM) (ra:Option Addr) (rn rcc:Nat) (rl:List Rc) (num more:Int) (n c:Nat) (op' num' more':Int) (a':Option Addr) (n' c':Nat) (kb ko:Nat) (K:Pr) (w:World) (h:PlB w (PlM.mk year day par crop sch ⟨ca,cn,cc,cl⟩ ⟨ha,hn,hc,hl⟩ ⟨za,zn,zc,zl⟩ ⟨ra,rn,rcc,rl⟩)) (hn1:1≤n) (hkr:w.rangeAt kb ko [.int .i64 op',.int .i64 num',.int .i64 more',.slice a' n' c']) (HI:∀ W',Below w.heap.size w W'→Calls Tryz.prog 60 #[.agg #[.int .i64 par,.slice ra rn rcc,.int .i64 crop,.int .i64 sch,.int .i64 year,.slice ca cn cc,.slice ha hn hc,.slice za zn zc,.int .i64 day],.agg #[.int .i64 op',.int .i64 num',.int .i64 more',.slice a' n' c']] W' (SqP W' (PlM.mk year day par crop sch ⟨ca,cn,cc,cl⟩ ⟨ha,hn,hc,hl⟩ ⟨za,zn,zc,zl⟩ ⟨ra,rn,rcc,rl⟩).env K)) :
  Calls Tryz.prog 60 #[.agg #[.int .i64 par,.slice ra rn rcc,.int .i64 crop,.int .i64 sch,.int .i64 year,.slice ca cn cc,.slice ha hn hc,.slice za zn zc,.int .i64 day],.agg #[.int .i64 11,.int .i64 num,.int .i64 more,.slice (some ⟨kb,ko,none⟩) n c]] w (SqP w (PlM.mk year day par crop sch ⟨ca,cn,cc,cl⟩ ⟨ha,hn,hc,hl⟩ ⟨za,zn,zc,zl⟩ ⟨ra,rn,rcc,rl⟩).env K.not):=by
 obtain ⟨kc,rfl⟩:∃ kc:Nat,crop=kc:=⟨crop.toNat,by have:=h.ok.crop.1;dsimp only at this;omega⟩
 have hkc:kc<cn:=by have:=h.ok.crop.2;dsimp only at this;omega
 obtain ⟨cb,co,rfl,hcb,hcr,hcm⟩:=crop_range h.ok.cr hkc
 have HCAT:=hid hcm
 have hye:=h.ok.year
 dsimp only at hye hcr
 obtain ⟨W,hW⟩:∃ W,((w.alloc (.cells #[.int .i64 par,.slice ra rn rcc,.int .i64 kc,.int .i64 sch,.int .i64 year,.slice (some ⟨cb,co,none⟩) cn cc,.slice ha hn hc,.slice za zn zc,.int .i64 day] 111)).alloc (.cells #[.int .i64 11,.int .i64 num,.int .i64 more,.slice (some ⟨kb,ko,none⟩) n c] 24)).alloc (.cells #[.slice none 0 0,.slice none 0 0,.slice none 0 0] 109)=W:=⟨_,rfl⟩
 obtain ⟨qc,hqc⟩:∃ qc,crpAt cl kc=qc:=⟨_,rfl⟩
 have HQC:=hid hqc
 rw [hqc] at hcr hcm
 clear hqc
 obtain ⟨nm,fa,mk⟩:=qc
 have HX:=hid (RvX.start w #[.int .i64 par,.slice ra rn rcc,.int .i64 kc,.int .i64 sch,.int .i64 year,.slice (some ⟨cb,co,none⟩) cn cc,.slice ha hn hc,.slice za zn zc,.int .i64 day] #[.int .i64 11,.int .i64 num,.int .i64 more,.slice (some ⟨kb,ko,none⟩) n c] #[.string nm,.int .i64 fa,.int .i64 mk])
 rw [hW] at HX
 have BBW:Hid (Below w.heap.size w W):=by show Below _ _ _;rw [← hW];exact Bw.out
 have HRG:=hid (rangeAt_below hcr BBW.out)
 have y0:=HX.out.far
 obtain ⟨X,hX⟩:∃ X,W.alloc (.cells #[.string nm,.int .i64 fa,.int .i64 mk] 44)=X:=⟨_,rfl⟩
 rw [hX] at HX
 have W2:W.cell? ⟨w.heap.size,2,none⟩=some (.int .i64 kc):=by rw [← hW];exact (((Blk.new w 111 #[.int .i64 par,.slice ra rn rcc,.int .i64 kc,.int .i64 sch,.int .i64 year,.slice (some ⟨cb,co,none⟩) cn cc,.slice ha hn hc,.slice za zn zc,.int .i64 day]).alloc _).alloc _).cell 2
 have W5:W.cell? ⟨w.heap.size,5,none⟩=some (.slice (some ⟨cb,co,none⟩) cn cc):=by rw [← hW];exact (((Blk.new w 111 #[.int .i64 par,.slice ra rn rcc,.int .i64 kc,.int .i64 sch,.int .i64 year,.slice (some ⟨cb,co,none⟩) cn cc,.slice ha hn hc,.slice za zn zc,.int .i64 day]).alloc _).alloc _).cell 5
 have x0:X.cell? ⟨w.heap.size+1,0,none⟩=some (.int .i64 11):=HX.out.tm.cell 0
 have x1:X.cell? ⟨w.heap.size+1,1,none⟩=some (.int .i64 num):=HX.out.tm.cell 1
 have x2:X.cell? ⟨w.heap.size+1,2,none⟩=some (.int .i64 more):=HX.out.tm.cell 2
 have p1:X.cell? ⟨w.heap.size,1,none⟩=some (.slice ra rn rcc):=HX.out.pl.cell 1
 have p2:X.cell? ⟨w.heap.size,2,none⟩=some (.int .i64 kc):=HX.out.pl.cell 2
 have p4:X.cell? ⟨w.heap.size,4,none⟩=some (.int .i64 year):=HX.out.pl.cell 4
 have p5:X.cell? ⟨w.heap.size,5,none⟩=some (.slice (some ⟨cb,co,none⟩) cn cc):=HX.out.pl.cell 5
 have p6:X.cell? ⟨w.heap.size,6,none⟩=some (.slice ha hn hc):=HX.out.pl.cell 6
 have p7:X.cell? ⟨w.heap.size,7,none⟩=some (.slice za zn zc):=HX.out.pl.cell 7
 have p8:X.cell? ⟨w.heap.size,8,none⟩=some (.int .i64 day):=HX.out.pl.cell 8
 have q1:X.cell? ⟨W.heap.size,1,none⟩=some (.int .i64 fa):=HX.out.cp.cell 1
 have q2:X.cell? ⟨W.heap.size,2,none⟩=some (.int .i64 mk):=HX.out.cp.cell 2
 have i0:(0:Int)≤(kc:Int):=by omega
 have i1:(kc:Int)<(cn:Int):=by omega
 have HG:=hid (h.below HX.out.bl)
 have x3:X.cell? ⟨w.heap.size+1,3,none⟩=some (.slice (some ⟨kb,ko,none⟩) n c):=HX.out.tm.cell 3
 have hkr':=rangeAt_below hkr HX.out.bl
 have k0:X.cell? ⟨kb,ko,none⟩=some (.int .i64 op'):=hkr' 0 _ rfl
 have k1:X.cell? ⟨kb,ko+1,none⟩=some (.int .i64 num'):=hkr' 1 _ rfl
 have k2:X.cell? ⟨kb,ko+2,none⟩=some (.int .i64 more'):=hkr' 2 _ rfl
 have k3:X.cell? ⟨kb,ko+3,none⟩=some (.slice a' n' c'):=hkr' 3 _ rfl
 have hkrX:=hkr'
 have hkb:kb<w.heap.size:=World.block_lt_of_cell? w _ (hkr 0 _ rfl)
 have P0:Hid (Cells9 X w.heap.size (.int .i64 par) (.slice ra rn rcc) (.int .i64 kc) (.int .i64 sch) (.int .i64 year) (.slice (some ⟨cb,co,none⟩) cn cc) (.slice ha hn hc) (.slice za zn zc) (.int .i64 day)):=HX.out.pl.cells9
 have PB:Hid (Cells9 (X.alloc (.cells #[.slice none 0 0,.slice none 0 0,.slice none 0 0] 109)) w.heap.size (.int .i64 par) (.slice ra rn rcc) (.int .i64 kc) (.int .i64 sch) (.int .i64 year) (.slice (some ⟨cb,co,none⟩) cn cc) (.slice ha hn hc) (.slice za zn zc) (.int .i64 day)):=P0.out.below (bal (Below.refl _ _) _)
 obtain ⟨E,hE⟩:∃ E,(PlM.mk year day par kc sch ⟨some ⟨cb,co,none⟩,cn,cc,cl⟩ ⟨ha,hn,hc,hl⟩ ⟨za,zn,zc,zl⟩ ⟨ra,rn,rcc,rl⟩).env=E:=⟨_,rfl⟩
 rw [hE] at HI ⊢
 have HI:=hid fun W' (hW':Below X.heap.size X W')=>HI W' (btr HX.out.bl hW')
 clear hkr hkr' HG HRG
 have HRG:=hid (rangeAt_below hcr BBW.out)
 have n0:(0:Int)<(n:Int):=by omega
 have n0n:0<n:=by omega
 go_enter Tryz.func60,Tryz.ntmps60
 go_upto_region 24 with (first
  | (refine wpList_load_mid rfl 44 (.tmp 20) rfl cb (co+kc * 3) rfl [.string nm,.int .i64 fa,.int .i64 mk] _ HRG.out Tryz.underlying44 rfl cpInfo ?_)
  | (refine st_new rfl 44 (.tmp 5) (.tmp 21) rfl #[.string nm,.int .i64 fa,.int .i64 mk] _ _ rfl rfl cpInfo rfl (cp_one _ _ _) ?_;(try rw [hX])))
 (try dsimp only [Act.put])
 have SA:Hid (S14 w.heap.size (w.heap.size+1) kb ko (.int .i64 par) (.slice ra rn rcc) (.int .i64 kc) (.int .i64 sch) (.int .i64 year) (.slice (some ⟨cb,co,none⟩) cn cc) (.slice ha hn hc) (.slice za zn zc) (.int .i64 day) (.slice (some ⟨kb,ko,none⟩) n c) (.int .i64 op') (.int .i64 num') (.int .i64 more') (.slice a' n' c') X):=⟨(P0.out).1,(P0.out).2.1,(P0.out).2.2.1,(P0.out).2.2.2.1,(P0.out).2.2.2.2.1,(P0.out).2.2.2.2.2.1,(P0.out).2.2.2.2.2.2.1,(P0.out).2.2.2.2.2.2.2.1,(P0.out).2.2.2.2.2.2.2.2,x3,k0,k1,k2,k3⟩
 have yx:w.heap.size+1+1<X.heap.size:=HX.out.re.lt
 have hkbx:kb<w.heap.size:=hkb
 go_cut [10] (fun s wx=>TrC X E K s wx)
 case first =>
  clear x0 x1 x2 x3 p1 p2 p4 p5 p6 p7 p8 q1 q2 k0 k1 k2 k3 W2 W5 hcr HCAT HQC P0 PB i0 i1 hye hcb hkrX HRG
  go_region_held3 (fun w'=>w'.cell? ⟨w.heap.size,0,none⟩=some (.int .i64 par)∧w'.cell? ⟨w.heap.size,1,none⟩=some (.slice ra rn rcc)∧w'.cell? ⟨w.heap.size,2,none⟩=some (.int .i64 kc)∧w'.cell? ⟨w.heap.size,3,none⟩=some (.int .i64 sch)∧w'.cell? ⟨w.heap.size,4,none⟩=some (.int .i64 year)∧w'.cell? ⟨w.heap.size,5,none⟩=some (.slice (some ⟨cb,co,none⟩) cn cc)∧w'.cell? ⟨w.heap.size,6,none⟩=some (.slice ha hn hc)∧w'.cell? ⟨w.heap.size,7,none⟩=some (.slice za zn zc)∧w'.cell? ⟨w.heap.size,8,none⟩=some (.int .i64 day)∧w'.cell? ⟨w.heap.size+1,3,none⟩=some (.slice (some ⟨kb,ko,none⟩) n c)∧w'.cell? ⟨kb,ko,none⟩=some (.int .i64 op')∧w'.cell? ⟨kb,ko+1,none⟩=some (.int .i64 num')∧w'.cell? ⟨kb,ko+2,none⟩=some (.int .i64 more')∧w'.cell? ⟨kb,ko+3,none⟩=some (.slice a' n' c')) (with_reducible first | exact SA.out | exact SA.out.below (bal (Below.refl _ _) _) | exact SA.out.below (bdr (bal (Below.refl _ _) _)) | exact SA.out.below (bal (bdr (Below.refl _ _)) _) | exact SA.out.below (bdr (Below.refl _ _)) | exact SB.out | exact SB.out.below (bal (Below.refl _ _) _) | exact SB.out.below (bdr (bal (Below.refl _ _) _)) | exact SB.out.below (bal (bdr (Below.refl _ _)) _) | exact SB.out.below (bdr (Below.refl _ _)) | exact SB.out.far3 (by omega) (by omega) (by omega))
   ((go_at_call 60;refine (HI.out _ Bw.out).mono ?_;rintro e w5 ⟨⟨ya,yn,yc,yl⟩,⟨na,nn,nc,nl⟩,⟨oa,on,oc,ol⟩,rfl,h1,h2,h3,h4⟩;have Y1:=hid h1;have N1:=hid h2;have O1:=hid h3;have V5:Hid (Below X.heap.size X w5):=btr Bw.out h4;have v5:=V5.out.size;have SB:Hid (S14 w.heap.size (w.heap.size+1) kb ko (.int .i64 par) (.slice ra rn rcc) (.int .i64 kc) (.int .i64 sch) (.int .i64 year) (.slice (some ⟨cb,co,none⟩) cn cc) (.slice ha hn hc) (.slice za zn zc) (.int .i64 day) (.slice (some ⟨kb,ko,none⟩) n c) (.int .i64 op') (.int .i64 num') (.int .i64 more') (.slice a' n' c') w5):=SA.out.below V5.out;(first | (have Z5:Hid (Blk w5 X.heap.size 109 #[.slice none 0 0,.slice none 0 0,.slice none 0 0]):=(Blk.new X.drew 109 #[.slice none 0 0,.slice none 0 0,.slice none 0 0]).below h4;obtain ⟨⟨z0,z1,z2⟩,⟨f0,f1,f2⟩,zlt⟩:=Z5.out.at3) | (have Z5:Hid (Blk w5 X.heap.size 109 #[.slice none 0 0,.slice none 0 0,.slice none 0 0]):=(Blk.new X 109 #[.slice none 0 0,.slice none 0 0,.slice none 0 0]).below h4;obtain ⟨⟨z0,z1,z2⟩,⟨f0,f1,f2⟩,zlt⟩:=Z5.out.at3) | skip);clear h1 h2 h3 h4))
  all_goals go_wp2
  all_goals go_meet
  all_goals (case rel=>with_reducible first | exact trC_new (y:=⟨ya,yn,yc,yl⟩) (n:=⟨na,nn,nc,nl⟩) (o:=⟨oa,on,oc,ol⟩) V5.out Y1.out N1.out O1.out | exact trC_put (y:=⟨ya,yn,yc,yl⟩) (n:=⟨na,nn,nc,nl⟩) (o:=⟨oa,on,oc,ol⟩) V5.out Z5.out (Nat.le_refl _) Y1.out N1.out O1.out)
 case rest =>
 obtain ⟨g,rfl,hg,ht,hb⟩:=hcut
 obtain ⟨⟨ya,yn,yc,yl⟩,⟨na,nn,nc,nl⟩,⟨oa,on,oc,ol⟩,hB,h1,h2,h3⟩:=ht.ex
 have G:=hid hB;have Y1:=hid h2;have N1:=hid h1;have O1:=hid h3
 have A1:=hid (HX.out.beh hb)
 have g0:wc.cell? ⟨g,0,none⟩=some (.slice ya yn yc):=G.out.cell 0
 have g1:wc.cell? ⟨g,1,none⟩=some (.slice na nn nc):=G.out.cell 1
 have g2:wc.cell? ⟨g,2,none⟩=some (.slice oa on oc):=G.out.cell 2
 clear hB h1 h2 h3 ht
 go_wp2_with (refine wpList_store_row rfl 109 (.tmp 4) (.tmp 148) rfl (w.heap.size+1+1) #[.slice na nn nc,.slice ya yn yc,.slice oa on oc] rfl rfl _ _ A1.out.re tuInfo rfl (sq_one _ _ _ rfl rfl rfl) ?_)
 have BR:=setRow_heap wc (w.heap.size+1+1) _ #[.slice na nn nc,.slice ya yn yc,.slice oa on oc] _ _ A1.out.re
 refine bodyPost_ret (results_cell_row rfl _ _ _ _ _ _ _ rfl BR Tryz.underlying109 rfl tuInfo) rfl ?_
 exact sqP_row (p:=K.not) (y:=⟨na,nn,nc,nl⟩) (n:=⟨ya,yn,yc,yl⟩) (o:=⟨oa,on,oc,ol⟩) A1.out.re Y1.out N1.out (O1.out.congr fun x y=>⟨fun k=>⟨k.1,k.2.2,k.2.1⟩,fun k=>⟨k.1,k.2.2,k.2.1⟩⟩) A1.out.bl (by omega)
abbrev S11 (g j:Nat) (v0 v1 v2 v3 v4 v5 v6 v7 v8 a b:Value) (w':World):Prop:=w'.cell? ⟨g,0,none⟩=some v0∧w'.cell? ⟨g,1,none⟩=some v1∧w'.cell? ⟨g,2,none⟩=some v2∧w'.cell? ⟨g,3,none⟩=some v3∧w'.cell? ⟨g,4,none⟩=some v4∧w'.cell? ⟨g,5,none⟩=some v5∧w'.cell? ⟨g,6,none⟩=some v6∧w'.cell? ⟨g,7,none⟩=some v7∧w'.cell? ⟨g,8,none⟩=some v8∧w'.cell? ⟨j,0,none⟩=some a∧w'.cell? ⟨j,1,none⟩=some b
theorem S11.below {g j:Nat} {v0 v1 v2 v3 v4 v5 v6 v7 v8 a b:Value} {w w':World} (h:S11 g j v0 v1 v2 v3 v4 v5 v6 v7 v8 a b w) (hb:Below w.heap.size w w'):S11 g j v0 v1 v2 v3 v4 v5 v6 v7 v8 a b w' :=
 ⟨bc1 hb h.1,bc1 hb h.2.1,bc1 hb h.2.2.1,bc1 hb h.2.2.2.1,bc1 hb h.2.2.2.2.1,bc1 hb h.2.2.2.2.2.1,bc1 hb h.2.2.2.2.2.2.1,bc1 hb h.2.2.2.2.2.2.2.1,bc1 hb h.2.2.2.2.2.2.2.2.1,bc1 hb h.2.2.2.2.2.2.2.2.2.1,bc1 hb h.2.2.2.2.2.2.2.2.2.2⟩
theorem S11.far3 {g j k:Nat} {v0 v1 v2 v3 v4 v5 v6 v7 v8 a b u0 u1 u2:Value} {w:World} (h:S11 g j v0 v1 v2 v3 v4 v5 v6 v7 v8 a b w) (h1:g ≠ k) (h2:j ≠ k):S11 g j v0 v1 v2 v3 v4 v5 v6 v7 v8 a b (((w.setCell ⟨k,0,none⟩ u0).setCell ⟨k,1,none⟩ u1).setCell ⟨k,2,none⟩ u2) :=
 ⟨cell_far3 h1 h.1,cell_far3 h1 h.2.1,cell_far3 h1 h.2.2.1,cell_far3 h1 h.2.2.2.1,cell_far3 h1 h.2.2.2.2.1,cell_far3 h1 h.2.2.2.2.2.1,cell_far3 h1 h.2.2.2.2.2.2.1,cell_far3 h1 h.2.2.2.2.2.2.2.1,cell_far3 h1 h.2.2.2.2.2.2.2.2.1,cell_far3 h2 h.2.2.2.2.2.2.2.2.2.1,cell_far3 h2 h.2.2.2.2.2.2.2.2.2.2⟩
abbrev StepL (P:Program) (md:Region.Mode) (ops:Array Oper) (Q:Exit→Act→World→Prop) (S:World→Prop) (fuel:Nat) (listed:Array Bool) (a:Act) (w:World) (i:Nat) (o:Oper):Prop :=
 ∀ K':Act→World→Prop,Shut (∀ a w,S w→(S w→wpAnyH P md ops Q S fuel (listed.setIfInBounds i true) a w)→K' a w)→if Region.wanted o (yielded ops a.tmps)=true then Oper.wp P o a w K' Q else K' (a.put o.dst undef) w
section
variable {P:Program} {md:Region.Mode} {ops:Array Oper} {Q:Exit→Act→World→Prop} {S:World→Prop} {fuel:Nat} {listed:Array Bool} {a:Act} {w:World} {o:Oper}
theorem takeL (i:Nat) {v:Value} (hi:ops.toList[i]? = some o) (hc:(Region.noSelect ops && Region.free md ops listed i && (Region.ready md ops listed).contains i)=true)
  (hQ:∀ c a w,Q (.panic c) (a.put o.dst v) w→Q (.panic c) a w) (hy:YieldsIf P ops S o v a) (hS:S w) (h:wpAnyH P md ops Q S fuel (listed.setIfInBounds i true) (a.put o.dst v) w):wpAnyH P md ops Q S (fuel+1) listed a w:=by
 rw [Bool.and_eq_true,Bool.and_eq_true] at hc
 exact wpAnyH_take (by rw [← Array.getElem?_toList];exact hi) hc.1.1 hc.1.2 hc.2 hQ hy hS h
theorem consL {i:Nat} {rs:List Nat} (ho:ops.toList[i]? = some o) (h:StepL P md ops Q S fuel listed a w i o) (hs:AllReadyH P md ops Q S fuel listed a w rs):AllReadyH P md ops Q S fuel listed a w (i :: rs):=AllReadyH.cons (by rw [← Array.getElem?_toList];exact ho) h hs
theorem oneL (i:Nat) (hr:Region.ready md ops listed=[i]) (ho:ops.toList[i]? = some o) (h:StepL P md ops Q S fuel listed a w i o):wpAnyH P md ops Q S (fuel+1) listed a w:=wpAnyH_ready hr (by simp) (consL ho h AllReadyH.nil)
end
theorem reval_9 (year day par crop sch:Int) (ca:Option Addr) (cn cc:Nat) (cl:List Crp) (ha:Option Addr) (hn hc:Nat) (hl:List RcdM) (za:Option Addr) (zn zc:Nat) (zl:List FtrM) (ra:Option Addr) (rn rcc:Nat) (rl:List Rc) (num more:Int) (n c:Nat) (op' num' more':Int) (a':Option Addr) (n' c':Nat) (kb ko:Nat) (K:Pr) (w:World) (h:PlB w (PlM.mk year day par crop sch ⟨ca,cn,cc,cl⟩ ⟨ha,hn,hc,hl⟩ ⟨za,zn,zc,zl⟩ ⟨ra,rn,rcc,rl⟩)) (hn1:1≤n) (hkr:w.rangeAt kb ko [.int .i64 op',.int .i64 num',.int .i64 more',.slice a' n' c']) (HI:∀ W',Below w.heap.size w W'→Calls Tryz.prog 60 #[.agg #[.int .i64 par,.slice ra rn rcc,.int .i64 crop,.int .i64 sch,.int .i64 year,.slice ca cn cc,.slice ha hn hc,.slice za zn zc,.int .i64 day],.agg #[.int .i64 op',.int .i64 num',.int .i64 more',.slice a' n' c']] W' (SqP W' (PlM.mk year day par crop sch ⟨ca,cn,cc,cl⟩ ⟨ha,hn,hc,hl⟩ ⟨za,zn,zc,zl⟩ ⟨ra,rn,rcc,rl⟩).env K)) (Ks:List Pr) (kids:List TmM) (hlk:kids.length+1=n) (hks:Ks.length=kids.length) (hf:∀ p ∈ K :: Ks,(PlM.mk year day par crop sch ⟨ca,cn,cc,cl⟩ ⟨ha,hn,hc,hl⟩ ⟨za,zn,zc,zl⟩ ⟨ra,rn,rcc,rl⟩).env.Fine p) (hc1:n≤c) (hcx:c≤maxLen) (hrest:∀ i (hi:i<kids.length),∃ (hi':i<Ks.length),w.rangeAt kb (ko+(i+1) * 4) (encTm kids[i])∧∀ W',Below w.heap.size w W'→Calls Tryz.prog 60 #[.agg #[.int .i64 par,.slice ra rn rcc,.int .i64 crop,.int .i64 sch,.int .i64 year,.slice ca cn cc,.slice ha hn hc,.slice za zn zc,.int .i64 day],.agg (encTm kids[i]).toArray] W' (SqP W' (PlM.mk year day par crop sch ⟨ca,cn,cc,cl⟩ ⟨ha,hn,hc,hl⟩ ⟨za,zn,zc,zl⟩ ⟨ra,rn,rcc,rl⟩).env Ks[i])) :
  Calls Tryz.prog 60 #[.agg #[.int .i64 par,.slice ra rn rcc,.int .i64 crop,.int .i64 sch,.int .i64 year,.slice ca cn cc,.slice ha hn hc,.slice za zn zc,.int .i64 day],.agg #[.int .i64 9,.int .i64 num,.int .i64 more,.slice (some ⟨kb,ko,none⟩) n c]] w (SqP w (PlM.mk year day par crop sch ⟨ca,cn,cc,cl⟩ ⟨ha,hn,hc,hl⟩ ⟨za,zn,zc,zl⟩ ⟨ra,rn,rcc,rl⟩).env (cumP (PlM.mk year day par crop sch ⟨ca,cn,cc,cl⟩ ⟨ha,hn,hc,hl⟩ ⟨za,zn,zc,zl⟩ ⟨ra,rn,rcc,rl⟩).env 9 (K :: Ks))):=by
 obtain ⟨kc,rfl⟩:∃ kc:Nat,crop=kc:=⟨crop.toNat,by have:=h.ok.crop.1;dsimp only at this;omega⟩
 have hkc:kc<cn:=by have:=h.ok.crop.2;dsimp only at this;omega
 obtain ⟨cb,co,rfl,hcb,hcr,hcm⟩:=crop_range h.ok.cr hkc
 have HCAT:=hid hcm
 have hye:=h.ok.year
 dsimp only at hye hcr
 obtain ⟨W,hW⟩:∃ W,((w.alloc (.cells #[.int .i64 par,.slice ra rn rcc,.int .i64 kc,.int .i64 sch,.int .i64 year,.slice (some ⟨cb,co,none⟩) cn cc,.slice ha hn hc,.slice za zn zc,.int .i64 day] 111)).alloc (.cells #[.int .i64 9,.int .i64 num,.int .i64 more,.slice (some ⟨kb,ko,none⟩) n c] 24)).alloc (.cells #[.slice none 0 0,.slice none 0 0,.slice none 0 0] 109)=W:=⟨_,rfl⟩
 obtain ⟨qc,hqc⟩:∃ qc,crpAt cl kc=qc:=⟨_,rfl⟩
 have HQC:=hid hqc
 rw [hqc] at hcr hcm
 clear hqc
 obtain ⟨nm,fa,mk⟩:=qc
 have HX:=hid (RvX.start w #[.int .i64 par,.slice ra rn rcc,.int .i64 kc,.int .i64 sch,.int .i64 year,.slice (some ⟨cb,co,none⟩) cn cc,.slice ha hn hc,.slice za zn zc,.int .i64 day] #[.int .i64 9,.int .i64 num,.int .i64 more,.slice (some ⟨kb,ko,none⟩) n c] #[.string nm,.int .i64 fa,.int .i64 mk])
 rw [hW] at HX
 have BBW:Hid (Below w.heap.size w W):=by show Below _ _ _;rw [← hW];exact Bw.out
 have HRG:=hid (rangeAt_below hcr BBW.out)
 have y0:=HX.out.far
 obtain ⟨X,hX⟩:∃ X,W.alloc (.cells #[.string nm,.int .i64 fa,.int .i64 mk] 44)=X:=⟨_,rfl⟩
 rw [hX] at HX
 have W2:W.cell? ⟨w.heap.size,2,none⟩=some (.int .i64 kc):=by rw [← hW];exact (((Blk.new w 111 #[.int .i64 par,.slice ra rn rcc,.int .i64 kc,.int .i64 sch,.int .i64 year,.slice (some ⟨cb,co,none⟩) cn cc,.slice ha hn hc,.slice za zn zc,.int .i64 day]).alloc _).alloc _).cell 2
 have W5:W.cell? ⟨w.heap.size,5,none⟩=some (.slice (some ⟨cb,co,none⟩) cn cc):=by rw [← hW];exact (((Blk.new w 111 #[.int .i64 par,.slice ra rn rcc,.int .i64 kc,.int .i64 sch,.int .i64 year,.slice (some ⟨cb,co,none⟩) cn cc,.slice ha hn hc,.slice za zn zc,.int .i64 day]).alloc _).alloc _).cell 5
 have x0:X.cell? ⟨w.heap.size+1,0,none⟩=some (.int .i64 9):=HX.out.tm.cell 0
 have x1:X.cell? ⟨w.heap.size+1,1,none⟩=some (.int .i64 num):=HX.out.tm.cell 1
 have x2:X.cell? ⟨w.heap.size+1,2,none⟩=some (.int .i64 more):=HX.out.tm.cell 2
 have p1:X.cell? ⟨w.heap.size,1,none⟩=some (.slice ra rn rcc):=HX.out.pl.cell 1
 have p2:X.cell? ⟨w.heap.size,2,none⟩=some (.int .i64 kc):=HX.out.pl.cell 2
 have p4:X.cell? ⟨w.heap.size,4,none⟩=some (.int .i64 year):=HX.out.pl.cell 4
 have p5:X.cell? ⟨w.heap.size,5,none⟩=some (.slice (some ⟨cb,co,none⟩) cn cc):=HX.out.pl.cell 5
 have p6:X.cell? ⟨w.heap.size,6,none⟩=some (.slice ha hn hc):=HX.out.pl.cell 6
 have p7:X.cell? ⟨w.heap.size,7,none⟩=some (.slice za zn zc):=HX.out.pl.cell 7
 have p8:X.cell? ⟨w.heap.size,8,none⟩=some (.int .i64 day):=HX.out.pl.cell 8
 have q1:X.cell? ⟨W.heap.size,1,none⟩=some (.int .i64 fa):=HX.out.cp.cell 1
 have q2:X.cell? ⟨W.heap.size,2,none⟩=some (.int .i64 mk):=HX.out.cp.cell 2
 have i0:(0:Int)≤(kc:Int):=by omega
 have i1:(kc:Int)<(cn:Int):=by omega
 have HG:=hid (h.below HX.out.bl)
 have x3:X.cell? ⟨w.heap.size+1,3,none⟩=some (.slice (some ⟨kb,ko,none⟩) n c):=HX.out.tm.cell 3
 have hkr':=rangeAt_below hkr HX.out.bl
 have k0:X.cell? ⟨kb,ko,none⟩=some (.int .i64 op'):=hkr' 0 _ rfl
 have k1:X.cell? ⟨kb,ko+1,none⟩=some (.int .i64 num'):=hkr' 1 _ rfl
 have k2:X.cell? ⟨kb,ko+2,none⟩=some (.int .i64 more'):=hkr' 2 _ rfl
 have k3:X.cell? ⟨kb,ko+3,none⟩=some (.slice a' n' c'):=hkr' 3 _ rfl
 have hkrX:=hkr'
 have hkb:kb<w.heap.size:=World.block_lt_of_cell? w _ (hkr 0 _ rfl)
 have P0:Hid (Cells9 X w.heap.size (.int .i64 par) (.slice ra rn rcc) (.int .i64 kc) (.int .i64 sch) (.int .i64 year) (.slice (some ⟨cb,co,none⟩) cn cc) (.slice ha hn hc) (.slice za zn zc) (.int .i64 day)):=HX.out.pl.cells9
 have PB:Hid (Cells9 (X.alloc (.cells #[.slice none 0 0,.slice none 0 0,.slice none 0 0] 109)) w.heap.size (.int .i64 par) (.slice ra rn rcc) (.int .i64 kc) (.int .i64 sch) (.int .i64 year) (.slice (some ⟨cb,co,none⟩) cn cc) (.slice ha hn hc) (.slice za zn zc) (.int .i64 day)):=P0.out.below (bal (Below.refl _ _) _)
 obtain ⟨E,hE⟩:∃ E,(PlM.mk year day par kc sch ⟨some ⟨cb,co,none⟩,cn,cc,cl⟩ ⟨ha,hn,hc,hl⟩ ⟨za,zn,zc,zl⟩ ⟨ra,rn,rcc,rl⟩).env=E:=⟨_,rfl⟩
 rw [hE] at HI hf hrest ⊢
 have HI:=hid fun W' (hW':Below X.heap.size X W')=>HI W' (btr HX.out.bl hW')
 have HRS:=hid (h.below HX.out.bl).rcs
 have HRB:Hid (Board ((PlM.mk year day par kc sch ⟨some ⟨cb,co,none⟩,cn,cc,cl⟩ ⟨ha,hn,hc,hl⟩ ⟨za,zn,zc,zl⟩ ⟨ra,rn,rcc,rl⟩).env.R)):=h.rb
 have HPT:=hid fun (s t:Sc Rc) (S N:Sq) W' (hW':Below X.heap.size X W')=>rpart_any year day par kc sch (some ⟨cb,co,none⟩) cn cc cl ha hn hc hl za zn zc zl ra rn rcc rl s t S N W' (HRS.out.below hW') HRB.out
 rw [hE] at HRS HRB HPT
 have HRE:=hid hrest;have HF:=hid hf
 clear hkr hkr' HG HRG h hrest hf
 have HRG:=hid (rangeAt_below hcr BBW.out)
 have n0:(0:Int)<(n:Int):=by omega
 have n0n:0<n:=by omega
 unfold maxLen at hcx
 go_enter Tryz.func60,Tryz.ntmps60
 go_upto_region 26 with (first
  | (refine wpList_load_mid rfl 44 (.tmp 20) rfl cb (co+kc * 3) rfl [.string nm,.int .i64 fa,.int .i64 mk] _ HRG.out Tryz.underlying44 rfl cpInfo ?_)
  | (refine st_new rfl 44 (.tmp 5) (.tmp 21) rfl #[.string nm,.int .i64 fa,.int .i64 mk] _ _ rfl rfl cpInfo rfl (cp_one _ _ _) ?_;(try rw [hX])))
 (try dsimp only [Act.put])
 have SA:Hid (S14 w.heap.size (w.heap.size+1) kb ko (.int .i64 par) (.slice ra rn rcc) (.int .i64 kc) (.int .i64 sch) (.int .i64 year) (.slice (some ⟨cb,co,none⟩) cn cc) (.slice ha hn hc) (.slice za zn zc) (.int .i64 day) (.slice (some ⟨kb,ko,none⟩) n c) (.int .i64 op') (.int .i64 num') (.int .i64 more') (.slice a' n' c') X):=⟨(P0.out).1,(P0.out).2.1,(P0.out).2.2.1,(P0.out).2.2.2.1,(P0.out).2.2.2.2.1,(P0.out).2.2.2.2.2.1,(P0.out).2.2.2.2.2.2.1,(P0.out).2.2.2.2.2.2.2.1,(P0.out).2.2.2.2.2.2.2.2,x3,k0,k1,k2,k3⟩
 have yx:w.heap.size+1+1<X.heap.size:=HX.out.re.lt
 have hkbx:kb<w.heap.size:=hkb
 go_cut [11] (fun s wx=>TrC X E K s wx)
 case first =>
  clear x0 x1 x2 x3 p1 p2 p4 p5 p6 p7 p8 q1 q2 k0 k1 k2 k3 W2 W5 hcr HCAT HQC P0 PB i0 i1 hye hcb hkrX HRG
  go_region_held3 (fun w'=>w'.cell? ⟨w.heap.size,0,none⟩=some (.int .i64 par)∧w'.cell? ⟨w.heap.size,1,none⟩=some (.slice ra rn rcc)∧w'.cell? ⟨w.heap.size,2,none⟩=some (.int .i64 kc)∧w'.cell? ⟨w.heap.size,3,none⟩=some (.int .i64 sch)∧w'.cell? ⟨w.heap.size,4,none⟩=some (.int .i64 year)∧w'.cell? ⟨w.heap.size,5,none⟩=some (.slice (some ⟨cb,co,none⟩) cn cc)∧w'.cell? ⟨w.heap.size,6,none⟩=some (.slice ha hn hc)∧w'.cell? ⟨w.heap.size,7,none⟩=some (.slice za zn zc)∧w'.cell? ⟨w.heap.size,8,none⟩=some (.int .i64 day)∧w'.cell? ⟨w.heap.size+1,3,none⟩=some (.slice (some ⟨kb,ko,none⟩) n c)∧w'.cell? ⟨kb,ko,none⟩=some (.int .i64 op')∧w'.cell? ⟨kb,ko+1,none⟩=some (.int .i64 num')∧w'.cell? ⟨kb,ko+2,none⟩=some (.int .i64 more')∧w'.cell? ⟨kb,ko+3,none⟩=some (.slice a' n' c')) (with_reducible first | exact SA.out | exact SA.out.below (bal (Below.refl _ _) _) | exact SA.out.below (bdr (bal (Below.refl _ _) _)) | exact SA.out.below (bal (bdr (Below.refl _ _)) _) | exact SA.out.below (bdr (Below.refl _ _)) | exact SB.out | exact SB.out.below (bal (Below.refl _ _) _) | exact SB.out.below (bdr (bal (Below.refl _ _) _)) | exact SB.out.below (bal (bdr (Below.refl _ _)) _) | exact SB.out.below (bdr (Below.refl _ _)) | exact SB.out.far3 (by omega) (by omega) (by omega))
   ((go_at_call 60;refine (HI.out _ Bw.out).mono ?_;rintro e w5 ⟨⟨ya,yn,yc,yl⟩,⟨na,nn,nc,nl⟩,⟨oa,on,oc,ol⟩,rfl,h1,h2,h3,h4⟩;have Y1:=hid h1;have N1:=hid h2;have O1:=hid h3;have V5:Hid (Below X.heap.size X w5):=btr Bw.out h4;have v5:=V5.out.size;have SB:Hid (S14 w.heap.size (w.heap.size+1) kb ko (.int .i64 par) (.slice ra rn rcc) (.int .i64 kc) (.int .i64 sch) (.int .i64 year) (.slice (some ⟨cb,co,none⟩) cn cc) (.slice ha hn hc) (.slice za zn zc) (.int .i64 day) (.slice (some ⟨kb,ko,none⟩) n c) (.int .i64 op') (.int .i64 num') (.int .i64 more') (.slice a' n' c') w5):=SA.out.below V5.out;(first | (have Z5:Hid (Blk w5 X.heap.size 109 #[.slice none 0 0,.slice none 0 0,.slice none 0 0]):=(Blk.new X.drew 109 #[.slice none 0 0,.slice none 0 0,.slice none 0 0]).below h4;obtain ⟨⟨z0,z1,z2⟩,⟨f0,f1,f2⟩,zlt⟩:=Z5.out.at3) | (have Z5:Hid (Blk w5 X.heap.size 109 #[.slice none 0 0,.slice none 0 0,.slice none 0 0]):=(Blk.new X 109 #[.slice none 0 0,.slice none 0 0,.slice none 0 0]).below h4;obtain ⟨⟨z0,z1,z2⟩,⟨f0,f1,f2⟩,zlt⟩:=Z5.out.at3) | skip);clear h1 h2 h3 h4))
  all_goals go_wp2
  all_goals go_meet
  all_goals (case rel=>with_reducible first | exact trC_new (y:=⟨ya,yn,yc,yl⟩) (n:=⟨na,nn,nc,nl⟩) (o:=⟨oa,on,oc,ol⟩) V5.out Y1.out N1.out O1.out | exact trC_put (y:=⟨ya,yn,yc,yl⟩) (n:=⟨na,nn,nc,nl⟩) (o:=⟨oa,on,oc,ol⟩) V5.out Z5.out (Nat.le_refl _) Y1.out N1.out O1.out)
 case rest =>
 obtain ⟨g,rfl,hg,ht,hb⟩:=hcut
 have T0:=hid (ht.congr (cumP_one (op:=9) (HF.out _ List.mem_cons_self)).1 (cumP_one (op:=9) (HF.out _ List.mem_cons_self)).2)
 have HB0:=hid hb
 have A0:=hid (HX.out.beh hb)
 have x0c:wc.cell? ⟨w.heap.size+1,0,none⟩=some (.int .i64 9):=A0.out.tm.cell 0
 have x3c:wc.cell? ⟨w.heap.size+1,3,none⟩=some (.slice (some ⟨kb,ko,none⟩) n c):=A0.out.tm.cell 3
 clear ht hb HI x0 x1 x2 x3 p1 p2 p4 p5 p6 p7 p8 q1 q2 k0 k1 k2 k3 W2 W5 hcr HCAT HQC
 have hgx:X.heap.size≤g:=hg
 have ygw:w.heap.size+1+1<g:=by have:=HX.out.bl.size;have:=HX.out.far;have:=HX.out.cp.lt;omega
 by_cases hc1':c=1
 ·subst hc1'
  obtain rfl:n=1:=by omega
  have hk0:kids.length=0:=by omega
  go_wp2
  go_loopw [159] (fun v wr=>∃ k:Nat,k≤kids.length∧v=.int .i64 k∧TrAt wr g E (cumP E 9 (K :: Ks.take k))∧Below X.heap.size X wr) (fun v _=>kids.length+1 - (intOf v).toNat)
  case atStart=>exact ⟨0,Nat.zero_le _,rfl,T0.out,HB0.out⟩
  case round =>
   obtain ⟨k,hk,rfl,ht,hb⟩:=hrel
   have HT:=hid ht;have HB:=hid hb
   clear ht hb
   by_cases hlt:k<kids.length
   ·exact absurd hlt (by omega)
   ·obtain rfl:k=kids.length:=by omega
    have e:Ks.take kids.length=Ks:=List.take_of_length_le (by omega)
    rw [e] at HT
    obtain ⟨⟨ya,yn,yc,yl⟩,⟨na,nn,nc,nl⟩,⟨oa,on,oc,ol⟩,hB,h1,h2,h3⟩:=HT.out.ex
    have G:=hid hB;have Y1:=hid h1;have N1:=hid h2;have O1:=hid h3
    have A1:=hid (HX.out.beh HB.out)
    clear hB h1 h2 h3 e HT
    go_wp2_with (first
     | (refine wpList_load_row rfl 109 (.tmp 11) rfl g rfl _ #[.slice ya yn yc,.slice na nn nc,.slice oa on oc] _ _ G.out Tryz.underlying109 rfl tuInfo ?_)
     | (refine wpList_store_row rfl 109 (.tmp 4) (.tmp 194) rfl (w.heap.size+1+1) #[.slice ya yn yc,.slice na nn nc,.slice oa on oc] rfl rfl _ _ A1.out.re tuInfo rfl (sq_one _ _ _ rfl rfl rfl) ?_))
    have BR:=setRow_heap wr (w.heap.size+1+1) _ #[.slice ya yn yc,.slice na nn nc,.slice oa on oc] _ _ A1.out.re
    refine bodyPost_ret (results_cell_row rfl _ _ _ _ _ _ _ rfl BR Tryz.underlying109 rfl tuInfo) rfl ?_
    exact (sqP_row (y:=⟨ya,yn,yc,yl⟩) (n:=⟨na,nn,nc,nl⟩) (o:=⟨oa,on,oc,ol⟩) A1.out.re Y1.out N1.out O1.out A1.out.bl (by omega):SqP w _ _ _ _)
 ·have hc2:¬ (1:Nat)=c:=by omega
  have hc3:1<c:=by omega
  go_wp2
  go_loopw [159] (fun v wr=>∃ k:Nat,k≤kids.length∧v=.int .i64 k∧TrAt wr g E (cumP E 9 (K :: Ks.take k))∧Below X.heap.size X wr) (fun v _=>kids.length+1 - (intOf v).toNat)
  case atStart=>exact ⟨0,Nat.zero_le _,rfl,T0.out,HB0.out⟩
  case round =>
   obtain ⟨k,hk,rfl,ht,hb⟩:=hrel
   have HT:=hid ht;have HB:=hid hb
   clear ht hb
   by_cases hlt:k<kids.length
   ·obtain ⟨hk',hrg,hcl⟩:=HRE.out k hlt
    have ARB:=hid (HX.out.beh HB.out)
    have HKRA:Hid (wr.rangeAt kb (ko+4+k * 4) (encTm kids[k])):=by show World.rangeAt _ _ _ _;rw [show ko+4+k * 4=ko+(k+1) * 4 by omega];exact rangeAt_below (rangeAt_below hrg HX.out.bl) HB.out
    have HTK:Hid (K :: Ks.take (k+1)=(K :: Ks.take k)++[Ks[k]]):=by show _=_;rw [List.take_succ_eq_append_getElem hk',List.cons_append]
    have HFK:=hid (HF.out Ks[k] (List.mem_cons_of_mem _ (List.getElem_mem hk')))
    have HFC:=hid (cumP_no (op:=9) (l:=K :: Ks.take k) fun p hp=>HF.out p (by rcases List.mem_cons.1 hp with rfl | hp;exact List.mem_cons_self;exact List.mem_cons_of_mem _ (List.mem_of_mem_take hp)))
    have HKC:=hid fun W' (hW':Below wr.heap.size wr W')=>hcl W' (btr HX.out.bl (btr HB.out hW'))
    clear hrg hcl
    obtain ⟨kt,hkt⟩:∃ kt,kids[k]=kt:=⟨_,rfl⟩
    obtain ⟨K',hK'⟩:∃ K',Ks[k]=K':=⟨_,rfl⟩
    rw [hkt] at HKRA HKC
    rw [hK'] at HKC HTK HFK
    clear hkt hK'
    obtain ⟨op',num',more',a',n',c',kids'⟩:=kt
    dsimp only [encTm] at HKRA HKC
    obtain ⟨⟨ya,yn,yc,yl⟩,⟨na,nn,nc,nl⟩,⟨oa,on,oc,ol⟩,hB,h1,h2,h3⟩:=HT.out.ex
    have HKEY:=hid (cumP_and E (K :: Ks.take k) K')
    have HFN:=hid (cumP_no (op:=9) (l:=(K :: Ks.take k)++[K']) fun p hp=>by
     rcases List.mem_append.1 hp with hp | hp
     ·exact HF.out p (by rcases List.mem_cons.1 hp with rfl | hp;exact List.mem_cons_self;exact List.mem_cons_of_mem _ (List.mem_of_mem_take hp))
     ·rw [List.mem_singleton.1 hp];exact HFK.out)
    have HOB:Hid (Board (cumP E 9 (K :: Ks.take k)).yes):=fun x y q=>HRB.out x y (HFC.out.1 x y q)
    have HNB:Hid (Board (cumP E 9 (K :: Ks.take k)).no):=fun x y q=>HRB.out x y (HFC.out.2 x y q)
    have HKB:Hid (Board K'.yes):=fun x y q=>HRB.out x y (HFK.out.yes x y q)
    have HLB:Hid (Board K'.no):=fun x y q=>HRB.out x y (HFK.out.no x y q)
    have G:=hid hB;have Y1:=hid h1;have N1:=hid h2
    clear hB h1 h2 h3 HT
    have hwr:=HB.out.size
    have hgl:=G.out.lt
    go_upto_region 31 with (first
     | (refine wpList_load_mid rfl 24 (.tmp 161) rfl kb (ko+4+k * 4) rfl [.int .i64 op',.int .i64 num',.int .i64 more',.slice a' n' c'] _ HKRA.out Tryz.underlying24 rfl tmInfo ?_)
     | (refine st_new rfl 24 (.tmp 13) (.tmp 162) rfl #[.int .i64 op',.int .i64 num',.int .i64 more',.slice a' n' c'] _ _ rfl rfl tmInfo rfl (tm_one _ _ _ _ _ _) ?_)
     | (refine wpList_load_row rfl 111 (.tmp 2) rfl w.heap.size rfl _ #[.int .i64 par,.slice ra rn rcc,.int .i64 kc,.int .i64 sch,.int .i64 year,.slice (some ⟨cb,co,none⟩) cn cc,.slice ha hn hc,.slice za zn zc,.int .i64 day] _ _ (ARB.out.pl.alloc _) Tryz.underlying111 rfl rplInfo ?_)
     | (refine wpList_load_row rfl 24 (.tmp 13) rfl wr.heap.size rfl _ #[.int .i64 op',.int .i64 num',.int .i64 more',.slice a' n' c'] _ _ (Blk.new _ _ _) Tryz.underlying24 rfl tmInfo ?_)
     | (go_at_call 60;refine (HKC.out _ Bw.out).mono ?_;rintro e w5 ⟨⟨ea,en,ec,el⟩,⟨fa',fn,fc,fl⟩,⟨da,dn,dc,dl⟩,rfl,h1,h2,h3,h4⟩;have EY:=hid h1;have EN:=hid h2;have V5:Hid (Below wr.heap.size wr w5):=btr Bw.out h4;clear h1 h2 h3 h4)
     | (refine st_new rfl 109 (.tmp 14) (.tmp 165) rfl #[.slice ea en ec,.slice fa' fn fc,.slice da dn dc] _ _ rfl rfl tuInfo rfl (sq_one _ _ _ rfl rfl rfl) ?_))
    obtain ⟨W5,hW5⟩:∃ W5,w5.alloc (.cells #[.slice ea en ec,.slice fa' fn fc,.slice da dn dc] 109)=W5:=⟨_,rfl⟩
    have Q5:Hid (Below w5.heap.size w5 W5):=by show Below _ _ _;rw [← hW5];exact Bw.out
    have J5:Hid (Blk W5 w5.heap.size 109 #[.slice ea en ec,.slice fa' fn fc,.slice da dn dc]):=by show Blk _ _ _ _;rw [← hW5];exact Blk.new _ _ _
    have U5:=hid (btr V5.out Q5.out)
    have EY5:=hid (EY.out.below Q5.out);have EN5:=hid (EN.out.below Q5.out);have Y5:=hid (Y1.out.below U5.out);have N5:=hid (N1.out.below U5.out);have G5:=hid (G.out.below U5.out);have A5:=hid (ARB.out.beh U5.out)
    have B5:=hid (btr HB.out U5.out)
    have u5:=U5.out.size
    have hj5:w5.heap.size<W5.heap.size:=J5.out.lt
    have hv5:=V5.out.size
    rw [hW5]
    clear hW5 EY EN Y1 N1 G ARB Q5 V5 HKRA HKC
    have t0:W5.cell? ⟨w.heap.size+1,0,none⟩=some (.int .i64 9):=A5.out.tm.cell 0
    have PX:=hid (A5.out.pl.cells9)
    have j0:W5.cell? ⟨w5.heap.size,0,none⟩=some (.slice ea en ec):=J5.out.cell 0
    have j1:W5.cell? ⟨w5.heap.size,1,none⟩=some (.slice fa' fn fc):=J5.out.cell 1
    obtain ⟨⟨g0,g1,g2⟩,⟨f0,f1,f2⟩,zlt⟩:=G5.out.at3
    have HC1:=hid fun W' (hW':Below W5.heap.size W5 W')=>andS (Y5.out.below hW') (EY5.out.below hW') (HOB.out)
    have HC2:=hid fun W' (hW':Below W5.heap.size W5 W')=>orS (N5.out.below hW') (EN5.out.below hW') (HNB.out) (HLB.out)
    (try dsimp only at HC1 HC2)
    obtain ⟨YS,hYS⟩:∃ S,(cumP E 9 (K :: Ks.take k)).yes=S:=⟨_,rfl⟩
    obtain ⟨NS,hNS⟩:∃ S,(cumP E 9 (K :: Ks.take k)).no=S:=⟨_,rfl⟩
    rw [hYS] at HC1 HKEY Y5 HOB
    rw [hNS] at HC2 HKEY N5 HNB
    clear hYS hNS
    go_upto_region 32 with fail
    (try dsimp only [Act.put])
    have SA:Hid (S11 w.heap.size w5.heap.size (.int .i64 par) (.slice ra rn rcc) (.int .i64 kc) (.int .i64 sch) (.int .i64 year) (.slice (some ⟨cb,co,none⟩) cn cc) (.slice ha hn hc) (.slice za zn zc) (.int .i64 day) (.slice ea en ec) (.slice fa' fn fc) W5):=⟨PX.out.1,PX.out.2.1,PX.out.2.2.1,PX.out.2.2.2.1,PX.out.2.2.2.2.1,PX.out.2.2.2.2.2.1,PX.out.2.2.2.2.2.2.1,PX.out.2.2.2.2.2.2.2.1,PX.out.2.2.2.2.2.2.2.2,j0,j1⟩
    clear PX j0 j1 t0 EY5 EN5 Y5 N5 hj5 A5 J5 U5 HRE HF HKB HLB HRS HRB HRG
    refine wp_region_held_drew (S:=fun w'=>w'.cell? ⟨w.heap.size,0,none⟩=some (.int .i64 par)∧w'.cell? ⟨w.heap.size,1,none⟩=some (.slice ra rn rcc)∧w'.cell? ⟨w.heap.size,2,none⟩=some (.int .i64 kc)∧w'.cell? ⟨w.heap.size,3,none⟩=some (.int .i64 sch)∧w'.cell? ⟨w.heap.size,4,none⟩=some (.int .i64 year)∧w'.cell? ⟨w.heap.size,5,none⟩=some (.slice (some ⟨cb,co,none⟩) cn cc)∧w'.cell? ⟨w.heap.size,6,none⟩=some (.slice ha hn hc)∧w'.cell? ⟨w.heap.size,7,none⟩=some (.slice za zn zc)∧w'.cell? ⟨w.heap.size,8,none⟩=some (.int .i64 day)∧w'.cell? ⟨w5.heap.size,0,none⟩=some (.slice ea en ec)∧w'.cell? ⟨w5.heap.size,1,none⟩=some (.slice fa' fn fc)) (by kernel_rfl) ?_ (fun hHeld=>?_)
    ·(try dsimp only);(with_reducible first | exact SA.out | exact SA.out.below (bdr (Below.refl _ _)))
    refine takeL 0 (v:=?_) rfl (by kernel_rfl) (fun _ _ _ h=>h) (Or.inl ⟨by rfl,?_⟩) (by assumption) ?_;rotate_left;focus ((intro w hSw;(try dsimp only at hSw);go_simp) <;> with_reducible rfl)
    refine takeL 1 (v:=?_) rfl (by kernel_rfl) (fun _ _ _ h=>h) (Or.inl ⟨by rfl,?_⟩) (by assumption) ?_;rotate_left;focus ((intro w hSw;(try dsimp only at hSw);go_simp) <;> with_reducible rfl)
    refine takeL 3 (v:=?_) rfl (by kernel_rfl) (fun _ _ _ h=>h) (Or.inl ⟨by rfl,?_⟩) (by assumption) ?_;rotate_left;focus ((intro w hSw;(try dsimp only at hSw);go_simp) <;> with_reducible rfl)
    refine takeL 4 (v:=?_) rfl (by kernel_rfl) (fun _ _ _ h=>h) (Or.inl ⟨by rfl,?_⟩) (by assumption) ?_;rotate_left;focus ((intro w hSw;(try dsimp only at hSw);go_simp) <;> with_reducible rfl)
    refine takeL 6 (v:=?_) rfl (by kernel_rfl) (fun _ _ _ h=>h) (Or.inl ⟨by rfl,?_⟩) (by assumption) ?_;rotate_left;focus ((intro w hSw;(try dsimp only at hSw);go_simp) <;> with_reducible rfl)
    refine takeL 8 (v:=?_) rfl (by kernel_rfl) (fun _ _ _ h=>h) (Or.inl ⟨by rfl,?_⟩) (by assumption) ?_;rotate_left;focus ((intro w hSw;(try dsimp only at hSw);go_simp) <;> with_reducible rfl)
    refine takeL 9 (v:=?_) rfl (by kernel_rfl) (fun _ _ _ h=>h) (Or.inl ⟨by rfl,?_⟩) (by assumption) ?_;rotate_left;focus ((intro w hSw;(try dsimp only at hSw);go_simp) <;> with_reducible rfl)
    refine wpAnyH_ready (rs:=[2,7]) (by kernel_rfl) (by simp) ?_
    refine consL rfl (fun K hK=>?_) (consL rfl (fun K hK=>?_) AllReadyH.nil)
    all_goals (go_simp;refine hK.out _ _ ?_ (fun hHeld=>?_);(focus (exact hHeld));clear hK K;(try simp only [Act.put,List.setIfInBounds_toArray,List.set_cons_zero,List.set_cons_succ]))
    focus (refine wpAnyH_ready (rs:=[5,7]) (by kernel_rfl) (by simp) ?_;refine consL rfl (fun K hK=>?_) (consL rfl (fun K hK=>?_) AllReadyH.nil))
    rotate_left
    focus (go_simp;refine hK.out _ _ ?_ (fun hHeld=>?_);(focus (exact hHeld));clear hK K;(try simp only [Act.put,List.setIfInBounds_toArray,List.set_cons_zero,List.set_cons_succ]);refine oneL 5 (by kernel_rfl) rfl (fun K hK=>?_))
    rotate_left
    focus (refine oneL 2 (by kernel_rfl) rfl (fun K hK=>?_);go_simp;refine hK.out _ _ ?_ (fun hHeld=>?_);(focus (exact hHeld));clear hK K;(try simp only [Act.put,List.setIfInBounds_toArray,List.set_cons_zero,List.set_cons_succ]);refine oneL 5 (by kernel_rfl) rfl (fun K hK=>?_))
    all_goals (go_simp;go_at_call 62;(with_reducible refine (HC1.out _ Bw.out).mono ?_);rintro e w6 ⟨⟨ma,mn,mc,ml⟩,rfl,h1,h2,h3,-⟩;have M1:=hid h1;have V6:Hid (Below W5.heap.size W5 w6):=btr Bw.out h2;have SB:=hid (SA.out.below V6.out);have o0:=bc1 V6.out g0;have o1:=bc1 V6.out g1;clear h1 h2 h3;(try go_wp2_with fail);refine hK.out _ _ ?_ (fun hHeld=>?_);(focus ((try dsimp only);with_reducible exact SB.out));clear hK K;(try simp only [Act.put,List.setIfInBounds_toArray,List.set_cons_zero,List.set_cons_succ]))
    rotate_left
    focus (refine oneL 7 (by kernel_rfl) rfl (fun K hK=>?_);go_simp;refine hK.out _ _ ?_ (fun hHeld=>?_);(focus (exact hHeld));clear hK K;(try simp only [Act.put,List.setIfInBounds_toArray,List.set_cons_zero,List.set_cons_succ]))
    all_goals (refine oneL 10 (by kernel_rfl) rfl (fun K hK=>?_);go_simp;go_at_call 62;(with_reducible refine (HC2.out _ (btr V6.out Bw.out)).mono ?_);rintro e w7 ⟨⟨ha',hn',hc',hl'⟩,rfl,h1,h2,h3,-⟩;have L1:=hid h1;have V67:Hid (Below w6.heap.size w6 w7):=btr Bw.out h2;have V7:=hid (btr V6.out V67.out);have M2:=hid (M1.out.below V67.out);have SC:=hid (SA.out.below V7.out);clear h1 h2 h3;(try go_wp2_with fail);refine hK.out _ _ ?_ (fun hHeld=>?_);(focus ((try dsimp only);with_reducible exact SC.out));clear hK K;(try simp only [Act.put,List.setIfInBounds_toArray,List.set_cons_zero,List.set_cons_succ]))
    all_goals (refine oneL 11 (by kernel_rfl) rfl (fun K hK=>?_);go_simp;go_at_call 104;(with_reducible refine (HPT.out ⟨ma,mn,mc,ml⟩ ⟨ha',hn',hc',hl'⟩ _ _ _ (btr (btr B5.out V7.out) Bw.out) (M2.out.below Bw.out) (L1.out.below Bw.out)).mono ?_);rintro e w8 ⟨⟨ya',yn',yc',yl'⟩,⟨na',nn',nc',nl'⟩,⟨oa',on',oc',ol'⟩,rfl,h1,h2,h3,h4⟩;have Y8:=hid h1;have N8:=hid h2;have O8:=hid h3;have V8:Hid (Below W5.heap.size W5 w8):=btr V7.out (btr Bw.out h4);have SD:=hid (SA.out.below V8.out);have G8:=hid (G5.out.below V8.out);obtain ⟨⟨b0,b1,b2⟩,⟨c0,c1,c2⟩,dl'⟩:=G8.out.at3;clear h1 h2 h3 h4;(try go_wp2_with fail);refine hK.out _ _ ?_ (fun hHeld=>?_);(focus ((try dsimp only);with_reducible exact SD.out));clear hK K;(try simp only [Act.put,List.setIfInBounds_toArray,List.set_cons_zero,List.set_cons_succ]))
    all_goals (refine oneL 12 (by kernel_rfl) rfl (fun K hK=>?_);go_simp;refine hK.out _ _ ?_ (fun hHeld=>?_);(focus ((try dsimp only);with_reducible exact SD.out.far3 (by omega) (by omega)));clear hK K)
    all_goals refine wpAnyH_done (by kernel_rfl) ?_ _
    all_goals go_wp2
    all_goals go_roundw
    all_goals first
     | (case measure=>simp [intOf];omega)
     | (case rel =>
      have key:=HKEY.out
      refine ⟨k+1,by omega,by go_num,?_,bst (bst (bst (btr B5.out V8.out) _ _ _ (by omega)) _ _ _ (by omega)) _ _ _ (by omega)⟩
      rw [HTK.out]
      refine TrAt.congr (p:=⟨fun x y=>E.R x y∧(fun x y=>YS x y∧K'.yes x y) x y,fun x y=>E.R x y∧(fun x y=>NS x y∨K'.no x y) x y⟩) ⟨⟨ya',yn',yc',yl'⟩,⟨na',nn',nc',nl'⟩,⟨oa',on',oc',ol'⟩,G8.out.put3 rfl,can_st3 G8.out Y8.out,can_st3 G8.out N8.out,can_st3 G8.out O8.out⟩ (fun x y=>?_) (fun x y=>?_)
      ·exact (key x y).1
      ·exact ((key x y).2).trans ⟨fun q=>q.2,fun q=>⟨HFN.out.2 x y q,q⟩⟩)
   ·obtain rfl:k=kids.length:=by omega
    have e:Ks.take kids.length=Ks:=List.take_of_length_le (by omega)
    rw [e] at HT
    obtain ⟨⟨ya,yn,yc,yl⟩,⟨na,nn,nc,nl⟩,⟨oa,on,oc,ol⟩,hB,h1,h2,h3⟩:=HT.out.ex
    have G:=hid hB;have Y1:=hid h1;have N1:=hid h2;have O1:=hid h3
    have A1:=hid (HX.out.beh HB.out)
    clear hB h1 h2 h3 e HT
    go_wp2_with (first
     | (refine wpList_load_row rfl 109 (.tmp 11) rfl g rfl _ #[.slice ya yn yc,.slice na nn nc,.slice oa on oc] _ _ G.out Tryz.underlying109 rfl tuInfo ?_)
     | (refine wpList_store_row rfl 109 (.tmp 4) (.tmp 194) rfl (w.heap.size+1+1) #[.slice ya yn yc,.slice na nn nc,.slice oa on oc] rfl rfl _ _ A1.out.re tuInfo rfl (sq_one _ _ _ rfl rfl rfl) ?_))
    have BR:=setRow_heap wr (w.heap.size+1+1) _ #[.slice ya yn yc,.slice na nn nc,.slice oa on oc] _ _ A1.out.re
    refine bodyPost_ret (results_cell_row rfl _ _ _ _ _ _ _ rfl BR Tryz.underlying109 rfl tuInfo) rfl ?_
    exact (sqP_row (y:=⟨ya,yn,yc,yl⟩) (n:=⟨na,nn,nc,nl⟩) (o:=⟨oa,on,oc,ol⟩) A1.out.re Y1.out N1.out O1.out A1.out.bl (by omega):SqP w _ _ _ _)
end Go.Proofs.YtancajcelmhnkaaGreatDoor
