/- ref16.place.same. (Printed by gen4/rpl.py.) -/
import Derived.Test.YtancajcelmhnkaaGreatDoorHn
set_option maxRecDepth 100000
set_option maxHeartbeats 8000000
namespace Go.Proofs.YtancajcelmhnkaaGreatDoor
open Go.RowKit Go.Sort Go.Shelf
set_option linter.unusedVariables false
set_option linter.unusedSimpArgs false
theorem takeZ_congr {α:Type} {rc:α→List Rc} {sel sel':α→Bool} {l:List α} (h:∀ r ∈ l,sel r=sel' r) (x y:Int):takeZ rc sel l x y↔takeZ rc sel' l x y :=
 ⟨fun ⟨r,hr,h1,h2⟩=>⟨r,hr,by rw [← h r hr];exact h1,h2⟩,fun ⟨r,hr,h1,h2⟩=>⟨r,hr,by rw [h r hr];exact h1,h2⟩⟩
theorem recs_take (p:PlM) (n:Int) (ch:Int→Bool) (x y:Int):p.env.recs n ch x y↔takeZ (fun r:RcdM=>r.s.l) (fun r=>decide (r.year=p.year - n) && ch r.crop) p.hi.l x y:=by
 unfold Env.recs takeZ
 constructor
 ·rintro ⟨r,hr,h1,h2,h3⟩
  obtain ⟨q,hq,rfl⟩:=List.mem_map.1 hr
  exact ⟨q,hq,by rw [Bool.and_eq_true];exact ⟨decide_eq_true h1,h2⟩,h3⟩
 ·rintro ⟨q,hq,h1,h3⟩
  rw [Bool.and_eq_true] at h1
  exact ⟨q.pl,List.mem_map.2 ⟨q,hq,rfl⟩,of_decide_eq_true h1.1,h1.2,h3⟩
theorem recs_split {E:Env} (h:E.Dis) (n:Int) (ch:Int→Bool) (x y:Int):E.recs n (fun c=>!ch c) x y↔(E.recs n (fun _=>true) x y∧¬ E.recs n ch x y):=by
 constructor
 ·rintro ⟨r,hr,h1,h2,h3⟩
  refine ⟨⟨r,hr,h1,rfl,h3⟩,?_⟩
  rintro ⟨s,hs,k1,k2,k3⟩
  refine h r hr s hs (h1.trans k1.symm) (fun e=>?_) x y h3 k3
  have h2':(!ch r.crop)=true:=h2
  rw [e,k2] at h2'
  cases h2'
 ·rintro ⟨⟨r,hr,h1,-,h3⟩,k⟩
  refine ⟨r,hr,h1,?_,h3⟩
  cases e:ch r.crop with
  | false=>show (!ch r.crop)=true;rw [e];rfl
  | true=>exact absurd ⟨r,hr,h1,e,h3⟩ k
theorem take_fam (p:PlM) (n fam:Int) (hf:0≤fam) (x y:Int):takeZ (fun r:RcdM=>r.s.l) (selR p.cr.l (p.year - n) fam 0) p.hi.l x y↔p.env.recs n (fun c=>decide ((crpAt p.cr.l c).family=fam)) x y:=by
 rw [recs_take]
 refine takeZ_congr (fun r _=>?_) x y
 unfold selR
 rw [decide_eq_false (by omega:¬ fam<0)]
 simp
theorem take_any (p:PlM) (n:Int) (x y:Int):takeZ (fun r:RcdM=>r.s.l) (selR p.cr.l (p.year - n) (-1) 0) p.hi.l x y↔p.env.recs n (fun _=>true) x y:=by
 rw [recs_take]
 refine takeZ_congr (fun r _=>?_) x y
 unfold selR
 simp
theorem take_mark (p:PlM) (n m:Int) (hm:m ≠ 0) (hc:∀ r ∈ p.hi.l,0≤r.crop∧r.crop<p.cr.l.length) (x y:Int):takeZ (fun r:RcdM=>r.s.l) (selR p.cr.l (p.year - n) (-1) m) p.hi.l x y↔p.env.recs n (fun c=>hasMark p.cr.l c m) x y:=by
 rw [recs_take]
 refine takeZ_congr (fun r hr=>?_) x y
 have:=hc r hr
 unfold selR hasMark
 rw [decide_eq_true this,decide_eq_false hm]
 simp
def sameYr (p:PlM) (fam:Int) (i:Nat):Sq:=fun x y=>p.env.R x y∧∀ n:Int,1≤n→n≤i→takeZ (fun r:RcdM=>r.s.l) (selR p.cr.l (p.year - n) fam 0) p.hi.l x y
def sameNr (p:PlM) (fam:Int) (i:Nat):Sq:=fun x y=>∃ n:Int,1≤n∧n≤i∧takeZ (fun r:RcdM=>r.s.l) (selR p.cr.l (p.year - n) (-1) 0) p.hi.l x y∧¬ takeZ (fun r:RcdM=>r.s.l) (selR p.cr.l (p.year - n) fam 0) p.hi.l x y
theorem sameYr_succ (p:PlM) (fam:Int) (i:Nat) (x y:Int):(sameYr p fam i x y∧takeZ (fun r:RcdM=>r.s.l) (selR p.cr.l (p.year - 1 - i) fam 0) p.hi.l x y)↔sameYr p fam (i+1) x y:=by
 unfold sameYr
 have e:p.year - 1 - (i:Int)=p.year - ((i+1:Nat):Int):=by omega
 rw [e]
 constructor
 ·rintro ⟨⟨h1,h2⟩,h3⟩
  refine ⟨h1,fun n n1 n2=>?_⟩
  by_cases k:n≤i
  ·exact h2 n n1 k
  ·obtain rfl:n=((i+1:Nat):Int):=by omega
   exact h3
 ·rintro ⟨h1,h2⟩
  exact ⟨⟨h1,fun n n1 n2=>h2 n n1 (by omega)⟩,h2 _ (by omega) (Int.le_refl _)⟩
theorem sameNr_succ (p:PlM) (fam:Int) (i:Nat) (x y:Int):(sameNr p fam i x y∨(takeZ (fun r:RcdM=>r.s.l) (selR p.cr.l (p.year - 1 - i) (-1) 0) p.hi.l x y∧¬ takeZ (fun r:RcdM=>r.s.l) (selR p.cr.l (p.year - 1 - i) fam 0) p.hi.l x y))↔sameNr p fam (i+1) x y:=by
 unfold sameNr
 have e:p.year - 1 - (i:Int)=p.year - ((i+1:Nat):Int):=by omega
 rw [e]
 constructor
 ·rintro (⟨n,n1,n2,h⟩ | h)
  ·exact ⟨n,n1,by omega,h⟩
  ·exact ⟨_,by omega,Int.le_refl _,h⟩
 ·rintro ⟨n,n1,n2,h⟩
  by_cases k:n≤i
  ·exact .inl ⟨n,n1,k,h⟩
  ·obtain rfl:n=((i+1:Nat):Int):=by omega
   exact .inr h
theorem same_yes (p:PlM) (fam:Int) (hf:0≤fam) (he:(crpAt p.cr.l p.crop).family=fam) (num:Int) (i:Nat) (hi:(i:Int)=num - 1) (x y:Int):(p.env.R x y∧sameYr p fam i x y)↔(p.env.R x y∧∀ n:Int,1≤n→n<num→p.env.known n p.env.kin x y):=by
 unfold sameYr Env.known
 subst he
 constructor
 ·rintro ⟨h1,-,h2⟩
  exact ⟨h1,fun n n1 n2=>⟨h1,(take_fam p n _ hf x y).1 (h2 n n1 (by omega))⟩⟩
 ·rintro ⟨h1,h2⟩
  exact ⟨h1,h1,fun n n1 n2=>(take_fam p n _ hf x y).2 (h2 n n1 (by omega)).2⟩
theorem same_no (p:PlM) (hD:p.env.Dis) (fam:Int) (hf:0≤fam) (he:(crpAt p.cr.l p.crop).family=fam) (num:Int) (i:Nat) (hi:(i:Int)=num - 1) (x y:Int):(p.env.R x y∧sameNr p fam i x y)↔(∃ n:Int,1≤n∧n<num∧p.env.known n (fun c=>!p.env.kin c) x y):=by
 unfold sameNr Env.known
 subst he
 constructor
 ·rintro ⟨h1,n,n1,n2,h2,h3⟩
  exact ⟨n,n1,by omega,h1,(recs_split hD n _ x y).2 ⟨(take_any p n x y).1 h2,fun k=>h3 ((take_fam p n _ hf x y).2 k)⟩⟩
 ·rintro ⟨n,n1,n2,h1,h2⟩
  have h3:=(recs_split hD n _ x y).1 h2
  exact ⟨h1,n,n1,by omega,(take_any p n x y).2 h3.1,fun k=>h3.2 ((take_fam p n _ hf x y).1 k)⟩
theorem rplsame_any (year day par crop sch:Int) (ca:Option Addr) (cn cc:Nat) (cl:List Crp) (ha:Option Addr) (hn hc:Nat) (hl:List RcdM) (za:Option Addr) (zn zc:Nat) (zl:List FtrM) (ra:Option Addr) (rn rcc:Nat) (rl:List Rc) (num:Int) (n1:2≤num) (n2:num≤10) (w:World) (h:PlB w (PlM.mk year day par crop sch ⟨ca,cn,cc,cl⟩ ⟨ha,hn,hc,hl⟩ ⟨za,zn,zc,zl⟩ ⟨ra,rn,rcc,rl⟩)) (hD:(PlM.mk year day par crop sch ⟨ca,cn,cc,cl⟩ ⟨ha,hn,hc,hl⟩ ⟨za,zn,zc,zl⟩ ⟨ra,rn,rcc,rl⟩).env.Dis) (hfam:∀ c ∈ cl,0≤c.family) :
  Calls Tryz.prog 105 #[.agg #[.int .i64 par,.slice ra rn rcc,.int .i64 crop,.int .i64 sch,.int .i64 year,.slice ca cn cc,.slice ha hn hc,.slice za zn zc,.int .i64 day],.int .i64 num] w (SqP w (PlM.mk year day par crop sch ⟨ca,cn,cc,cl⟩ ⟨ha,hn,hc,hl⟩ ⟨za,zn,zc,zl⟩ ⟨ra,rn,rcc,rl⟩).env ⟨fun x y=>(PlM.mk year day par crop sch ⟨ca,cn,cc,cl⟩ ⟨ha,hn,hc,hl⟩ ⟨za,zn,zc,zl⟩ ⟨ra,rn,rcc,rl⟩).env.R x y∧∀ n:Int,1≤n→n<num→(PlM.mk year day par crop sch ⟨ca,cn,cc,cl⟩ ⟨ha,hn,hc,hl⟩ ⟨za,zn,zc,zl⟩ ⟨ra,rn,rcc,rl⟩).env.known n (PlM.mk year day par crop sch ⟨ca,cn,cc,cl⟩ ⟨ha,hn,hc,hl⟩ ⟨za,zn,zc,zl⟩ ⟨ra,rn,rcc,rl⟩).env.kin x y,fun x y=>∃ n:Int,1≤n∧n<num∧(PlM.mk year day par crop sch ⟨ca,cn,cc,cl⟩ ⟨ha,hn,hc,hl⟩ ⟨za,zn,zc,zl⟩ ⟨ra,rn,rcc,rl⟩).env.known n (fun c=>!(PlM.mk year day par crop sch ⟨ca,cn,cc,cl⟩ ⟨ha,hn,hc,hl⟩ ⟨za,zn,zc,zl⟩ ⟨ra,rn,rcc,rl⟩).env.kin c) x y⟩):=by
 obtain ⟨kc,rfl⟩:∃ kc:Nat,crop=kc:=⟨crop.toNat,by have:=h.ok.crop.1;dsimp only at this;omega⟩
 have hkc:kc<cn:=by have:=h.ok.crop.2;dsimp only at this;omega
 obtain ⟨cb,co,rfl,hcb,hcf,-⟩:=crop_cells h.ok.cr hkc
 dsimp only at hcf
 have hkl:kc<cl.length:=by have:=h.ok.cr.len;dsimp only at this;omega
 have hfm:0≤(crpAt cl kc).family:=by
  have e:crpAt cl kc=cl[kc]:=by unfold crpAt;simp [List.getD,hkl]
  rw [e];exact hfam _ (List.getElem_mem hkl)
 have hye:=h.ok.year
 dsimp only at hye
 obtain ⟨fam,hf⟩:∃ fam,(crpAt cl kc).family=fam:=⟨_,rfl⟩
 rw [hf] at hcf hfm
 have HYES:=hid (same_yes (PlM.mk year day par kc sch ⟨some ⟨cb,co,none⟩,cn,cc,cl⟩ ⟨ha,hn,hc,hl⟩ ⟨za,zn,zc,zl⟩ ⟨ra,rn,rcc,rl⟩) fam hfm hf num)
 have HNO:=hid (same_no (PlM.mk year day par kc sch ⟨some ⟨cb,co,none⟩,cn,cc,cl⟩ ⟨ha,hn,hc,hl⟩ ⟨za,zn,zc,zl⟩ ⟨ra,rn,rcc,rl⟩) hD fam hfm hf num)
 obtain ⟨W,hW⟩:∃ W,(w.alloc (.cells #[.int .i64 par,.slice ra rn rcc,.int .i64 kc,.int .i64 sch,.int .i64 year,.slice (some ⟨cb,co,none⟩) cn cc,.slice ha hn hc,.slice za zn zc,.int .i64 day] 111)).alloc (.cells #[.slice none 0 0,.slice none 0 0,.slice none 0 0] 109)=W:=⟨_,rfl⟩
 have W0:RowKit.Hid (Blk W w.heap.size 111 #[.int .i64 par,.slice ra rn rcc,.int .i64 kc,.int .i64 sch,.int .i64 year,.slice (some ⟨cb,co,none⟩) cn cc,.slice ha hn hc,.slice za zn zc,.int .i64 day]):=by show Blk _ _ _ _;rw [← hW];exact (Blk.new w _ _).alloc _
 have Z0:RowKit.Hid (Blk W (w.heap.size+1) 109 #[.slice none 0 0,.slice none 0 0,.slice none 0 0]):=by show Blk _ _ _ _;rw [← hW];exact Blk.fresh (by simp)
 have BB:RowKit.Hid (Below w.heap.size w W):=by show Below _ _ _;rw [← hW];exact Bw.out
 have y0:w.heap.size+1<W.heap.size:=Z0.out.lt
 have c1:W.cell? ⟨w.heap.size,1,none⟩=some (.slice ra rn rcc):=W0.out.cell 1
 have c2:W.cell? ⟨w.heap.size,2,none⟩=some (.int .i64 kc):=W0.out.cell 2
 have c4:W.cell? ⟨w.heap.size,4,none⟩=some (.int .i64 year):=W0.out.cell 4
 have c5:W.cell? ⟨w.heap.size,5,none⟩=some (.slice (some ⟨cb,co,none⟩) cn cc):=W0.out.cell 5
 have c6:W.cell? ⟨w.heap.size,6,none⟩=some (.slice ha hn hc):=W0.out.cell 6
 have cf:=bc1 BB.out hcf
 have H:=hid (h.below BB.out)
 have HSQ:=hid fun (yk fm:Int) W' (hW':Below W.heap.size W W')=>rsquares_any ⟨ha,hn,hc,hl⟩ ⟨some ⟨cb,co,none⟩,cn,cc,cl⟩ yk fm 0 W' (H.out.ok.hi.below hW') (H.out.ok.cr.below hW') (fun r hr=>⟨(H.out.ok.his r hr).1.below hW',(H.out.ok.his r hr).2⟩) H.out.hc
 have HPT:=hid fun (s t:Sc Rc) (S N:Sq) W' (hW':Below W.heap.size W W')=>rpart_any year day par kc sch (some ⟨cb,co,none⟩) cn cc cl ha hn hc hl za zn zc zl ra rn rcc rl s t S N W' (H.out.rcs.below hW') H.out.rb
 have HRB:RowKit.Hid (Board (PlM.mk year day par kc sch ⟨some ⟨cb,co,none⟩,cn,cc,cl⟩ ⟨ha,hn,hc,hl⟩ ⟨za,zn,zc,zl⟩ ⟨ra,rn,rcc,rl⟩).env.R):=H.out.rb
 have HRS:RowKit.Hid (CanS W (PlM.mk year day par kc sch ⟨some ⟨cb,co,none⟩,cn,cc,cl⟩ ⟨ha,hn,hc,hl⟩ ⟨za,zn,zc,zl⟩ ⟨ra,rn,rcc,rl⟩).env.R ⟨ra,rn,rcc,rl⟩):=H.out.rcs
 have HHB:=hid fun (sel:RcdM→Bool)=>(fun x y ⟨r,hr,_,h2⟩=>(H.out.hc r hr).2 x y h2:Board (takeZ (fun r:RcdM=>r.s.l) sel hl))
 have HY0:=hid (fun x y=>⟨fun k=>⟨k,fun n a b=>by omega⟩,fun k=>k.1⟩:∀ x y,(PlM.mk year day par kc sch ⟨some ⟨cb,co,none⟩,cn,cc,cl⟩ ⟨ha,hn,hc,hl⟩ ⟨za,zn,zc,zl⟩ ⟨ra,rn,rcc,rl⟩).env.R x y↔sameYr (PlM.mk year day par kc sch ⟨some ⟨cb,co,none⟩,cn,cc,cl⟩ ⟨ha,hn,hc,hl⟩ ⟨za,zn,zc,zl⟩ ⟨ra,rn,rcc,rl⟩) fam 0 x y)
 have HN0:=hid (fun x y k=>by obtain ⟨n,a,b,-⟩:=k;omega:∀ x y,¬ sameNr (PlM.mk year day par kc sch ⟨some ⟨cb,co,none⟩,cn,cc,cl⟩ ⟨ha,hn,hc,hl⟩ ⟨za,zn,zc,zl⟩ ⟨ra,rn,rcc,rl⟩) fam 0 x y)
 have HYS:=hid (sameYr_succ (PlM.mk year day par kc sch ⟨some ⟨cb,co,none⟩,cn,cc,cl⟩ ⟨ha,hn,hc,hl⟩ ⟨za,zn,zc,zl⟩ ⟨ra,rn,rcc,rl⟩) fam);have HNS:=hid (sameNr_succ (PlM.mk year day par kc sch ⟨some ⟨cb,co,none⟩,cn,cc,cl⟩ ⟨ha,hn,hc,hl⟩ ⟨za,zn,zc,zl⟩ ⟨ra,rn,rcc,rl⟩) fam)
 obtain ⟨Y,hY⟩:∃ Y,sameYr (PlM.mk year day par kc sch ⟨some ⟨cb,co,none⟩,cn,cc,cl⟩ ⟨ha,hn,hc,hl⟩ ⟨za,zn,zc,zl⟩ ⟨ra,rn,rcc,rl⟩) fam=Y:=⟨_,rfl⟩
 obtain ⟨N,hN⟩:∃ N,sameNr (PlM.mk year day par kc sch ⟨some ⟨cb,co,none⟩,cn,cc,cl⟩ ⟨ha,hn,hc,hl⟩ ⟨za,zn,zc,zl⟩ ⟨ra,rn,rcc,rl⟩) fam=N:=⟨_,rfl⟩
 have HYR:RowKit.Hid (∀ i,Board (Y i)):=fun i x y k=>by rw [← hY] at k;exact HRB.out x y k.1
 have HNR:RowKit.Hid (∀ i,Board (N i)):=fun i x y k=>by rw [← hN] at k;obtain ⟨n,-,-,k,-⟩:=k;exact HHB.out _ x y k
 rw [hY] at HYES HY0 HYS
 rw [hN] at HNO HN0 HNS
 clear h hD hfam hcf hfm hf hY hN hkl W0 H
 go_enter Tryz.func105,Tryz.ntmps105
 go_wp2
 go_loopw [6,7,8] (fun a6 a7 a8 wr=>∃ (i:Nat) (s t:Sc Rc),a6=.slice s.a s.n s.c∧a7=.slice t.a t.n t.c∧a8=.int .i64 (year - 1 - i)∧(i:Int)≤num - 1∧CanS wr (Y i) s∧CanS wr (N i) t∧Below W.heap.size W wr) (fun _ _ v _=>(intOf v - (year - num)).toNat)
 case atStart=>exact ⟨0,⟨ra,rn,rcc,rl⟩,nilSc,rfl,rfl,by simp,by omega,HRS.out.congr HY0.out,canS_nil _ HN0.out,Below.refl _ _⟩
 case round =>
  obtain ⟨i,⟨sa,sn,sc,sl⟩,⟨ta,tn,tc,tl⟩,rfl,rfl,rfl,hi,hs,ht,hb⟩:=hrel
  have HS:=hid hs;have HT:=hid ht;have HB:=hid hb
  clear hs ht hb
  have r1:=bc1 HB.out c1;have r2:=bc1 HB.out c2;have r4:=bc1 HB.out c4;have r5:=bc1 HB.out c5;have r6:=bc1 HB.out c6
  by_cases hlt:(i:Int)<num - 1
  ·have HYSI:=hid (HYS.out i);have HNSI:=hid (HNS.out i)
   (try dsimp only at HYSI HNSI)
   obtain ⟨yk,hyk⟩:∃ yk,year - 1 - (i:Int)=yk:=⟨_,rfl⟩
   rw [hyk] at HYSI HNSI
   rw [hyk]
   have hgt:year - num<yk:=by omega
   have HYK:=hid hyk
   have q1:-100≤yk:=by omega
   have q2:yk≤100:=by omega
   clear hyk
   have HQ:=hid (HSQ.out yk fam wr HB.out)
   (try dsimp only at HQ)
   go_wp2_with (first
    | (go_at_call 65;(with_reducible refine HQ.out.mono ?_);rintro e w1 ⟨⟨ma,mn,mc,ml⟩,rfl,h1,h2,h3,-⟩;have M1:=hid h1;have B1:=hid h2;have d5:=bc1 h2 r5;have d6:=bc1 h2 r6;have HA:=hid (andS (HS.out.below h2) h1 (HYR.out i));(try dsimp only at HA);clear h1 h2 h3 HQ)
    | (go_at_call 62;(with_reducible refine HA.out.mono ?_);rintro e w2 ⟨⟨ya,yn,yc,yl⟩,rfl,h1,h2,h3,-⟩;have Y2:=hid h1;have M2:=hid (M1.out.below h2);have B2:=hid (btr B1.out h2);have e5:=bc1 h2 d5;have e6:=bc1 h2 d6;have HQ2:=hid (HSQ.out yk (-1) w2 (btr HB.out B2.out));(try dsimp only at HQ2);clear h1 h2 h3 HA M1)
    | (go_at_call 65;(with_reducible refine HQ2.out.mono ?_);rintro e w3 ⟨⟨ka,kn,kc',kl⟩,rfl,h1,h2,h3,-⟩;have M3:=hid (M2.out.below h2);have Y3:=hid (Y2.out.below h2);have B3:=hid (btr B2.out h2);have HC:=hid (notS h1 M3.out (HHB.out _));(try dsimp only at HC);clear h1 h2 h3 HQ2 M2 Y2)
    | (go_at_call 62;(with_reducible refine HC.out.mono ?_);rintro e w4 ⟨⟨xa,xn,xc,xl⟩,rfl,h1,h2,h3,-⟩;have Y4:=hid (Y3.out.below h2);have B4:=hid (btr B3.out h2);have HO:=hid (orS (HT.out.below B4.out) h1 (HNR.out i) (fun x y k=>HHB.out _ x y k.1));(try dsimp only at HO);clear h1 h2 h3 HC Y3 M3)
    | (go_at_call 62;(with_reducible refine HO.out.mono ?_);rintro e w5 ⟨⟨na,nn,nc,nl⟩,rfl,h1,h2,h3,-⟩;have N5:=hid h1;have Y5:=hid (Y4.out.below h2);have B5:=hid (btr B4.out h2);clear h1 h2 h3 HO Y4))
   go_roundw
   case rel=>exact ⟨i+1,⟨ya,yn,yc,yl⟩,⟨na,nn,nc,nl⟩,rfl,rfl,(by congr 1;have:=HYK.out;omega),by omega,Y5.out.congr fun x y=>HYSI.out x y,N5.out.congr fun x y=>HNSI.out x y,btr HB.out B5.out⟩
   case measure=>simp [intOf];omega
  ·have hin:(i:Int)=num - 1:=by omega
   have hyk:year - 1 - (i:Int)=year - num:=by omega
   rw [hyk]
   have HP:=hid (HPT.out ⟨sa,sn,sc,sl⟩ ⟨ta,tn,tc,tl⟩ (Y i) (N i) wr HB.out HS.out HT.out)
   (try dsimp only at HP)
   have PB:=hid (((Blk.new w _ _).alloc _:Blk ((w.alloc (.cells #[.int .i64 par,.slice ra rn rcc,.int .i64 kc,.int .i64 sch,.int .i64 year,.slice (some ⟨cb,co,none⟩) cn cc,.slice ha hn hc,.slice za zn zc,.int .i64 day] 111)).alloc (.cells #[.slice none 0 0,.slice none 0 0,.slice none 0 0] 109)) w.heap.size 111 #[.int .i64 par,.slice ra rn rcc,.int .i64 kc,.int .i64 sch,.int .i64 year,.slice (some ⟨cb,co,none⟩) cn cc,.slice ha hn hc,.slice za zn zc,.int .i64 day]))
   rw [hW] at PB
   have PB2:=hid (PB.out.below HB.out);have ZB:=hid (Z0.out.below HB.out)
   have E1:=hid fun x y=>HYES.out i hin x y;have E2:=hid fun x y=>HNO.out i hin x y
   clear HYES HNO HYS HNS HSQ HPT
   go_wp2_with (first
    | (refine wpList_load_row rfl 111 (.tmp 2) rfl w.heap.size rfl _ #[.int .i64 par,.slice ra rn rcc,.int .i64 kc,.int .i64 sch,.int .i64 year,.slice (some ⟨cb,co,none⟩) cn cc,.slice ha hn hc,.slice za zn zc,.int .i64 day] _ _ PB2.out Tryz.underlying111 rfl rplInfo ?_)
    | (go_at_call 104;refine HP.out.mono ?_;rintro e w1 ⟨⟨ya,yn,yc,yl⟩,⟨na,nn,nc,nl⟩,⟨oa,on,oc,ol⟩,rfl,h1,h2,h3,h4⟩;have Y1:=hid h1;have N1:=hid h2;have O1:=hid h3;have Z1:=hid (ZB.out.below h4);have B1:=hid (btr (btr BB.out HB.out) h4);clear h1 h2 h3 h4)
    | (refine wpList_store_row rfl 109 (.tmp 4) (.tmp 56) rfl (w.heap.size+1) #[.slice ya yn yc,.slice na nn nc,.slice oa on oc] rfl rfl _ _ Z1.out tuInfo rfl (sq_one _ _ _ rfl rfl rfl) ?_))
   have BR:=setRow_heap w1 (w.heap.size+1) _ #[.slice ya yn yc,.slice na nn nc,.slice oa on oc] _ _ Z1.out
   refine bodyPost_ret (results_cell_row rfl _ _ _ _ _ _ _ rfl BR Tryz.underlying109 rfl tuInfo) rfl ?_
   exact (sqP_row (p:=⟨fun x y=>(PlM.mk year day par kc sch ⟨some ⟨cb,co,none⟩,cn,cc,cl⟩ ⟨ha,hn,hc,hl⟩ ⟨za,zn,zc,zl⟩ ⟨ra,rn,rcc,rl⟩).env.R x y∧Y i x y,fun x y=>(PlM.mk year day par kc sch ⟨some ⟨cb,co,none⟩,cn,cc,cl⟩ ⟨ha,hn,hc,hl⟩ ⟨za,zn,zc,zl⟩ ⟨ra,rn,rcc,rl⟩).env.R x y∧N i x y⟩) (y:=⟨ya,yn,yc,yl⟩) (n:=⟨na,nn,nc,nl⟩) (o:=⟨oa,on,oc,ol⟩) Z1.out Y1.out N1.out O1.out B1.out (by omega)).congr E1.out E2.out
structure RvX (w:World) (g:Nat) (pc tc cc:Array Value) (X:World):Prop where
 pl:Blk X w.heap.size 111 pc
 tm:Blk X (w.heap.size+1) 24 tc
 re:Blk X (w.heap.size+1+1) 109 #[.slice none 0 0,.slice none 0 0,.slice none 0 0]
 cp:Blk X g 44 cc
 bl:Below w.heap.size w X
 far:w.heap.size+1+1<g
theorem RvX.beh {w:World} {g:Nat} {pc tc cc:Array Value} {X X':World} (h:RvX w g pc tc cc X) (hb:Below X.heap.size X X'):RvX w g pc tc cc X':=⟨h.pl.below hb,h.tm.below hb,h.re.below hb,h.cp.below hb,btr h.bl hb,h.far⟩
theorem RvX.start (w:World) (pc tc cc:Array Value):RvX w (((w.alloc (.cells pc 111)).alloc (.cells tc 24)).alloc (.cells #[.slice none 0 0,.slice none 0 0,.slice none 0 0] 109)).heap.size pc tc cc ((((w.alloc (.cells pc 111)).alloc (.cells tc 24)).alloc (.cells #[.slice none 0 0,.slice none 0 0,.slice none 0 0] 109)).alloc (.cells cc 44)) :=
 ⟨((((Blk.new w _ _).alloc _).alloc _).alloc _),((Blk.fresh (by simp)).alloc _).alloc _,(Blk.fresh (by simp)).alloc _,Blk.new _ _ _,Bw.out,by simp⟩
def Cells9 (w:World) (g:Nat) (v0 v1 v2 v3 v4 v5 v6 v7 v8:Value):Prop:=w.cell? ⟨g,0,none⟩=some v0∧w.cell? ⟨g,1,none⟩=some v1∧w.cell? ⟨g,2,none⟩=some v2∧w.cell? ⟨g,3,none⟩=some v3∧w.cell? ⟨g,4,none⟩=some v4∧w.cell? ⟨g,5,none⟩=some v5∧w.cell? ⟨g,6,none⟩=some v6∧w.cell? ⟨g,7,none⟩=some v7∧w.cell? ⟨g,8,none⟩=some v8
theorem Blk.cells9 {w:World} {g:Nat} {t:TypeId} {v0 v1 v2 v3 v4 v5 v6 v7 v8:Value} (h:Blk w g t #[v0,v1,v2,v3,v4,v5,v6,v7,v8]):Cells9 w g v0 v1 v2 v3 v4 v5 v6 v7 v8:=⟨h.cell 0,h.cell 1,h.cell 2,h.cell 3,h.cell 4,h.cell 5,h.cell 6,h.cell 7,h.cell 8⟩
theorem Cells9.below {w w':World} {g:Nat} {v0 v1 v2 v3 v4 v5 v6 v7 v8:Value} (h:Cells9 w g v0 v1 v2 v3 v4 v5 v6 v7 v8) (hb:Below w.heap.size w w'):Cells9 w' g v0 v1 v2 v3 v4 v5 v6 v7 v8:=by
 obtain ⟨h0,h1,h2,h3,h4,h5,h6,h7,h8⟩:=h
 exact ⟨bc1 hb h0,bc1 hb h1,bc1 hb h2,bc1 hb h3,bc1 hb h4,bc1 hb h5,bc1 hb h6,bc1 hb h7,bc1 hb h8⟩
theorem Cells9.far3 {w:World} {k g:Nat} {v0 v1 v2 v3 v4 v5 v6 v7 v8 u0 u1 u2:Value} (h:Cells9 w k v0 v1 v2 v3 v4 v5 v6 v7 v8) (hne:k ≠ g):Cells9 (((w.setCell ⟨g,0,none⟩ u0).setCell ⟨g,1,none⟩ u1).setCell ⟨g,2,none⟩ u2) k v0 v1 v2 v3 v4 v5 v6 v7 v8:=by
 obtain ⟨h0,h1,h2,h3,h4,h5,h6,h7,h8⟩:=h
 exact ⟨cell_far3 hne h0,cell_far3 hne h1,cell_far3 hne h2,cell_far3 hne h3,cell_far3 hne h4,cell_far3 hne h5,cell_far3 hne h6,cell_far3 hne h7,cell_far3 hne h8⟩
theorem bits_mark:∀ m:Fin 32,∀ k:Fin 5,((bits .and .i64 (m.val:Int) (2 ^ k.val:Nat) != 0)=decide (bits .and .i64 (m.val:Int) (2 ^ k.val:Nat)=(2 ^ k.val:Nat))):=by decide +kernel
theorem mark_and {mk m:Int} (h0:0≤mk) (h1:mk≤31) (hm:oneMark m=true):(bits .and .i64 mk m != 0)=decide (bits .and .i64 mk m=m):=by
 obtain ⟨i,rfl⟩:=Int.eq_ofNat_of_zero_le h0
 have hi:i<32:=by omega
 have key:=bits_mark ⟨i,hi⟩
 rcases oneMark_cases hm with rfl | rfl | rfl | rfl | rfl
 ·exact key 0
 ·exact key 1
 ·exact key 2
 ·exact key 3
 ·exact key 4
theorem crop_range {w:World} {s:Sc Crp} {m:Nat} (h:Rws encCrp w s m) {k:Nat} (hk:k<s.n):∃ b off,s.a=some ⟨b,off,none⟩∧b<w.heap.size∧w.rangeAt b (off+k * 3) (encCrp (crpAt s.l k))∧crpAt s.l k ∈ s.l:=by
 have hkl:k<s.l.length:=by rw [h.len];exact hk
 obtain ⟨b,off,ha,hb,hrg⟩:=h.vw.range (k:=3) (fun x _=>encCrp_len x) (by omega) k hkl
 have e:crpAt s.l k=s.l[k]:=by unfold crpAt;simp [List.getD,hkl]
 rw [e]
 exact ⟨b,off,ha,hb,hrg,List.getElem_mem hkl⟩
theorem reval_1 (year day par crop sch:Int) (ca:Option Addr) (cn cc:Nat) (cl:List Crp) (ha:Option Addr) (hn hc:Nat) (hl:List RcdM) (za:Option Addr) (zn zc:Nat) (zl:List FtrM) (ra:Option Addr) (rn rcc:Nat) (rl:List Rc) (num more:Int) (a:Option Addr) (n c:Nat) (w:World) (h:PlB w (PlM.mk year day par crop sch ⟨ca,cn,cc,cl⟩ ⟨ha,hn,hc,hl⟩ ⟨za,zn,zc,zl⟩ ⟨ra,rn,rcc,rl⟩)) :
  Calls Tryz.prog 60 #[.agg #[.int .i64 par,.slice ra rn rcc,.int .i64 crop,.int .i64 sch,.int .i64 year,.slice ca cn cc,.slice ha hn hc,.slice za zn zc,.int .i64 day],.agg #[.int .i64 1,.int .i64 num,.int .i64 more,.slice a n c]] w (SqP w (PlM.mk year day par crop sch ⟨ca,cn,cc,cl⟩ ⟨ha,hn,hc,hl⟩ ⟨za,zn,zc,zl⟩ ⟨ra,rn,rcc,rl⟩).env ((PlM.mk year day par crop sch ⟨ca,cn,cc,cl⟩ ⟨ha,hn,hc,hl⟩ ⟨za,zn,zc,zl⟩ ⟨ra,rn,rcc,rl⟩).env.whole true)):=by
 obtain ⟨kc,rfl⟩:∃ kc:Nat,crop=kc:=⟨crop.toNat,by have:=h.ok.crop.1;dsimp only at this;omega⟩
 have hkc:kc<cn:=by have:=h.ok.crop.2;dsimp only at this;omega
 obtain ⟨cb,co,rfl,hcb,hcr,hcm⟩:=crop_range h.ok.cr hkc
 have HCAT:=hid hcm
 have hye:=h.ok.year
 dsimp only at hye hcr
 obtain ⟨W,hW⟩:∃ W,((w.alloc (.cells #[.int .i64 par,.slice ra rn rcc,.int .i64 kc,.int .i64 sch,.int .i64 year,.slice (some ⟨cb,co,none⟩) cn cc,.slice ha hn hc,.slice za zn zc,.int .i64 day] 111)).alloc (.cells #[.int .i64 1,.int .i64 num,.int .i64 more,.slice a n c] 24)).alloc (.cells #[.slice none 0 0,.slice none 0 0,.slice none 0 0] 109)=W:=⟨_,rfl⟩
 obtain ⟨qc,hqc⟩:∃ qc,crpAt cl kc=qc:=⟨_,rfl⟩
 have HQC:=hid hqc
 rw [hqc] at hcr hcm
 clear hqc
 obtain ⟨nm,fa,mk⟩:=qc
 have HX:=hid (RvX.start w #[.int .i64 par,.slice ra rn rcc,.int .i64 kc,.int .i64 sch,.int .i64 year,.slice (some ⟨cb,co,none⟩) cn cc,.slice ha hn hc,.slice za zn zc,.int .i64 day] #[.int .i64 1,.int .i64 num,.int .i64 more,.slice a n c] #[.string nm,.int .i64 fa,.int .i64 mk])
 rw [hW] at HX
 have BBW:RowKit.Hid (Below w.heap.size w W):=by show Below _ _ _;rw [← hW];exact Bw.out
 have HRG:=hid (rangeAt_below hcr BBW.out)
 have y0:=HX.out.far
 obtain ⟨X,hX⟩:∃ X,W.alloc (.cells #[.string nm,.int .i64 fa,.int .i64 mk] 44)=X:=⟨_,rfl⟩
 rw [hX] at HX
 have W2:W.cell? ⟨w.heap.size,2,none⟩=some (.int .i64 kc):=by rw [← hW];exact (((Blk.new w 111 #[.int .i64 par,.slice ra rn rcc,.int .i64 kc,.int .i64 sch,.int .i64 year,.slice (some ⟨cb,co,none⟩) cn cc,.slice ha hn hc,.slice za zn zc,.int .i64 day]).alloc _).alloc _).cell 2
 have W5:W.cell? ⟨w.heap.size,5,none⟩=some (.slice (some ⟨cb,co,none⟩) cn cc):=by rw [← hW];exact (((Blk.new w 111 #[.int .i64 par,.slice ra rn rcc,.int .i64 kc,.int .i64 sch,.int .i64 year,.slice (some ⟨cb,co,none⟩) cn cc,.slice ha hn hc,.slice za zn zc,.int .i64 day]).alloc _).alloc _).cell 5
 have x0:X.cell? ⟨w.heap.size+1,0,none⟩=some (.int .i64 1):=HX.out.tm.cell 0
 have x1:X.cell? ⟨w.heap.size+1,1,none⟩=some (.int .i64 num):=HX.out.tm.cell 1
 have x2:X.cell? ⟨w.heap.size+1,2,none⟩=some (.int .i64 more):=HX.out.tm.cell 2
 have p1:X.cell? ⟨w.heap.size,1,none⟩=some (.slice ra rn rcc):=HX.out.pl.cell 1
 have p2:X.cell? ⟨w.heap.size,2,none⟩=some (.int .i64 kc):=HX.out.pl.cell 2
 have p4:X.cell? ⟨w.heap.size,4,none⟩=some (.int .i64 year):=HX.out.pl.cell 4
 have p5:X.cell? ⟨w.heap.size,5,none⟩=some (.slice (some ⟨cb,co,none⟩) cn cc):=HX.out.pl.cell 5
 have p6:X.cell? ⟨w.heap.size,6,none⟩=some (.slice ha hn hc):=HX.out.pl.cell 6
 have p7:X.cell? ⟨w.heap.size,7,none⟩=some (.slice za zn zc):=HX.out.pl.cell 7
 have p8:X.cell? ⟨w.heap.size,8,none⟩=some (.int .i64 day):=HX.out.pl.cell 8
 have q1:X.cell? ⟨W.heap.size,1,none⟩=some (.int .i64 fa):=HX.out.cp.cell 1
 have q2:X.cell? ⟨W.heap.size,2,none⟩=some (.int .i64 mk):=HX.out.cp.cell 2
 have i0:(0:Int)≤(kc:Int):=by omega
 have i1:(kc:Int)<(cn:Int):=by omega
 have HG:=hid (h.below HX.out.bl)
 go_enter Tryz.func60,Tryz.ntmps60
 go_wp2_with (first
  | (refine wpList_load_mid rfl 44 (.tmp 20) rfl cb (co+kc * 3) rfl [.string nm,.int .i64 fa,.int .i64 mk] _ HRG.out Tryz.underlying44 rfl cpInfo ?_)
  | (refine st_new rfl 44 (.tmp 5) (.tmp 21) rfl #[.string nm,.int .i64 fa,.int .i64 mk] _ _ rfl rfl cpInfo rfl (cp_one _ _ _) ?_;(try rw [hX]))
  | (refine wpList_load_row rfl 111 (.tmp 2) rfl w.heap.size rfl _ #[.int .i64 par,.slice ra rn rcc,.int .i64 kc,.int .i64 sch,.int .i64 year,.slice (some ⟨cb,co,none⟩) cn cc,.slice ha hn hc,.slice za zn zc,.int .i64 day] _ _ HX.out.pl Tryz.underlying111 rfl rplInfo ?_)
  | (go_at_call 102;refine (rall_any year day par kc sch (some ⟨cb,co,none⟩) cn cc cl ha hn hc hl za zn zc zl ra rn rcc rl true X HG.out.rcs).mono ?_;rintro e w1 ⟨⟨ya,yn,yc,yl⟩,⟨na,nn,nc,nl⟩,⟨oa,on,oc,ol⟩,rfl,h1,h2,h3,h4⟩;have Y1:=hid h1;have N1:=hid h2;have O1:=hid h3;have A1:=hid (HX.out.beh h4);clear h1 h2 h3 h4)
  | (refine wpList_store_row rfl 109 (.tmp 4) (.tmp 27) rfl (w.heap.size+1+1) #[.slice ya yn yc,.slice na nn nc,.slice oa on oc] rfl rfl _ _ A1.out.re tuInfo rfl (sq_one _ _ _ rfl rfl rfl) ?_))
 have BR:=setRow_heap w1 (w.heap.size+1+1) _ #[.slice ya yn yc,.slice na nn nc,.slice oa on oc] _ _ A1.out.re
 refine bodyPost_ret (results_cell_row rfl _ _ _ _ _ _ _ rfl BR Tryz.underlying109 rfl tuInfo) rfl ?_
 exact (sqP_row (y:=⟨ya,yn,yc,yl⟩) (n:=⟨na,nn,nc,nl⟩) (o:=⟨oa,on,oc,ol⟩) A1.out.re Y1.out N1.out O1.out A1.out.bl (by omega):SqP w _ ((PlM.mk year day par kc sch ⟨some ⟨cb,co,none⟩,cn,cc,cl⟩ ⟨ha,hn,hc,hl⟩ ⟨za,zn,zc,zl⟩ ⟨ra,rn,rcc,rl⟩).env.whole true) _ _)
theorem reval_2 (year day par crop sch:Int) (ca:Option Addr) (cn cc:Nat) (cl:List Crp) (ha:Option Addr) (hn hc:Nat) (hl:List RcdM) (za:Option Addr) (zn zc:Nat) (zl:List FtrM) (ra:Option Addr) (rn rcc:Nat) (rl:List Rc) (num more:Int) (a:Option Addr) (n c:Nat) (w:World) (h:PlB w (PlM.mk year day par crop sch ⟨ca,cn,cc,cl⟩ ⟨ha,hn,hc,hl⟩ ⟨za,zn,zc,zl⟩ ⟨ra,rn,rcc,rl⟩)) :
  Calls Tryz.prog 60 #[.agg #[.int .i64 par,.slice ra rn rcc,.int .i64 crop,.int .i64 sch,.int .i64 year,.slice ca cn cc,.slice ha hn hc,.slice za zn zc,.int .i64 day],.agg #[.int .i64 2,.int .i64 num,.int .i64 more,.slice a n c]] w (SqP w (PlM.mk year day par crop sch ⟨ca,cn,cc,cl⟩ ⟨ha,hn,hc,hl⟩ ⟨za,zn,zc,zl⟩ ⟨ra,rn,rcc,rl⟩).env ((PlM.mk year day par crop sch ⟨ca,cn,cc,cl⟩ ⟨ha,hn,hc,hl⟩ ⟨za,zn,zc,zl⟩ ⟨ra,rn,rcc,rl⟩).env.whole (decide (crop=num)))):=by
 obtain ⟨kc,rfl⟩:∃ kc:Nat,crop=kc:=⟨crop.toNat,by have:=h.ok.crop.1;dsimp only at this;omega⟩
 have hkc:kc<cn:=by have:=h.ok.crop.2;dsimp only at this;omega
 obtain ⟨cb,co,rfl,hcb,hcr,hcm⟩:=crop_range h.ok.cr hkc
 have HCAT:=hid hcm
 have hye:=h.ok.year
 dsimp only at hye hcr
 obtain ⟨W,hW⟩:∃ W,((w.alloc (.cells #[.int .i64 par,.slice ra rn rcc,.int .i64 kc,.int .i64 sch,.int .i64 year,.slice (some ⟨cb,co,none⟩) cn cc,.slice ha hn hc,.slice za zn zc,.int .i64 day] 111)).alloc (.cells #[.int .i64 2,.int .i64 num,.int .i64 more,.slice a n c] 24)).alloc (.cells #[.slice none 0 0,.slice none 0 0,.slice none 0 0] 109)=W:=⟨_,rfl⟩
 obtain ⟨qc,hqc⟩:∃ qc,crpAt cl kc=qc:=⟨_,rfl⟩
 have HQC:=hid hqc
 rw [hqc] at hcr hcm
 clear hqc
 obtain ⟨nm,fa,mk⟩:=qc
 have HX:=hid (RvX.start w #[.int .i64 par,.slice ra rn rcc,.int .i64 kc,.int .i64 sch,.int .i64 year,.slice (some ⟨cb,co,none⟩) cn cc,.slice ha hn hc,.slice za zn zc,.int .i64 day] #[.int .i64 2,.int .i64 num,.int .i64 more,.slice a n c] #[.string nm,.int .i64 fa,.int .i64 mk])
 rw [hW] at HX
 have BBW:RowKit.Hid (Below w.heap.size w W):=by show Below _ _ _;rw [← hW];exact Bw.out
 have HRG:=hid (rangeAt_below hcr BBW.out)
 have y0:=HX.out.far
 obtain ⟨X,hX⟩:∃ X,W.alloc (.cells #[.string nm,.int .i64 fa,.int .i64 mk] 44)=X:=⟨_,rfl⟩
 rw [hX] at HX
 have W2:W.cell? ⟨w.heap.size,2,none⟩=some (.int .i64 kc):=by rw [← hW];exact (((Blk.new w 111 #[.int .i64 par,.slice ra rn rcc,.int .i64 kc,.int .i64 sch,.int .i64 year,.slice (some ⟨cb,co,none⟩) cn cc,.slice ha hn hc,.slice za zn zc,.int .i64 day]).alloc _).alloc _).cell 2
 have W5:W.cell? ⟨w.heap.size,5,none⟩=some (.slice (some ⟨cb,co,none⟩) cn cc):=by rw [← hW];exact (((Blk.new w 111 #[.int .i64 par,.slice ra rn rcc,.int .i64 kc,.int .i64 sch,.int .i64 year,.slice (some ⟨cb,co,none⟩) cn cc,.slice ha hn hc,.slice za zn zc,.int .i64 day]).alloc _).alloc _).cell 5
 have x0:X.cell? ⟨w.heap.size+1,0,none⟩=some (.int .i64 2):=HX.out.tm.cell 0
 have x1:X.cell? ⟨w.heap.size+1,1,none⟩=some (.int .i64 num):=HX.out.tm.cell 1
 have x2:X.cell? ⟨w.heap.size+1,2,none⟩=some (.int .i64 more):=HX.out.tm.cell 2
 have p1:X.cell? ⟨w.heap.size,1,none⟩=some (.slice ra rn rcc):=HX.out.pl.cell 1
 have p2:X.cell? ⟨w.heap.size,2,none⟩=some (.int .i64 kc):=HX.out.pl.cell 2
 have p4:X.cell? ⟨w.heap.size,4,none⟩=some (.int .i64 year):=HX.out.pl.cell 4
 have p5:X.cell? ⟨w.heap.size,5,none⟩=some (.slice (some ⟨cb,co,none⟩) cn cc):=HX.out.pl.cell 5
 have p6:X.cell? ⟨w.heap.size,6,none⟩=some (.slice ha hn hc):=HX.out.pl.cell 6
 have p7:X.cell? ⟨w.heap.size,7,none⟩=some (.slice za zn zc):=HX.out.pl.cell 7
 have p8:X.cell? ⟨w.heap.size,8,none⟩=some (.int .i64 day):=HX.out.pl.cell 8
 have q1:X.cell? ⟨W.heap.size,1,none⟩=some (.int .i64 fa):=HX.out.cp.cell 1
 have q2:X.cell? ⟨W.heap.size,2,none⟩=some (.int .i64 mk):=HX.out.cp.cell 2
 have i0:(0:Int)≤(kc:Int):=by omega
 have i1:(kc:Int)<(cn:Int):=by omega
 have HG:=hid (h.below HX.out.bl)
 by_cases hq:(kc:Int)=num
 ·have b1:((kc:Int) == num)=true:=by simpa using hq
  have HTR:RowKit.Hid (decide ((kc:Int)=num)=true):=decide_eq_true hq
  clear hq
  rw [show (decide ((kc:Int)=num))=true from HTR.out]
  go_enter Tryz.func60,Tryz.ntmps60
  go_wp2_with (first
   | (refine wpList_load_mid rfl 44 (.tmp 20) rfl cb (co+kc * 3) rfl [.string nm,.int .i64 fa,.int .i64 mk] _ HRG.out Tryz.underlying44 rfl cpInfo ?_)
   | (refine st_new rfl 44 (.tmp 5) (.tmp 21) rfl #[.string nm,.int .i64 fa,.int .i64 mk] _ _ rfl rfl cpInfo rfl (cp_one _ _ _) ?_;(try rw [hX]))
   | (refine wpList_load_row rfl 111 (.tmp 2) rfl w.heap.size rfl _ #[.int .i64 par,.slice ra rn rcc,.int .i64 kc,.int .i64 sch,.int .i64 year,.slice (some ⟨cb,co,none⟩) cn cc,.slice ha hn hc,.slice za zn zc,.int .i64 day] _ _ HX.out.pl Tryz.underlying111 rfl rplInfo ?_)
   | (go_at_call 102;refine (rall_any year day par kc sch (some ⟨cb,co,none⟩) cn cc cl ha hn hc hl za zn zc zl ra rn rcc rl true X HG.out.rcs).mono ?_;rintro e w1 ⟨⟨ya,yn,yc,yl⟩,⟨na,nn,nc,nl⟩,⟨oa,on,oc,ol⟩,rfl,h1,h2,h3,h4⟩;have Y1:=hid h1;have N1:=hid h2;have O1:=hid h3;have A1:=hid (HX.out.beh h4);clear h1 h2 h3 h4)
   | (refine wpList_store_row rfl 109 (.tmp 4) (.tmp 37) rfl (w.heap.size+1+1) #[.slice ya yn yc,.slice na nn nc,.slice oa on oc] rfl rfl _ _ A1.out.re tuInfo rfl (sq_one _ _ _ rfl rfl rfl) ?_))
  have BR:=setRow_heap w1 (w.heap.size+1+1) _ #[.slice ya yn yc,.slice na nn nc,.slice oa on oc] _ _ A1.out.re
  refine bodyPost_ret (results_cell_row rfl _ _ _ _ _ _ _ rfl BR Tryz.underlying109 rfl tuInfo) rfl ?_
  exact (sqP_row (y:=⟨ya,yn,yc,yl⟩) (n:=⟨na,nn,nc,nl⟩) (o:=⟨oa,on,oc,ol⟩) A1.out.re Y1.out N1.out O1.out A1.out.bl (by omega):SqP w _ ((PlM.mk year day par kc sch ⟨some ⟨cb,co,none⟩,cn,cc,cl⟩ ⟨ha,hn,hc,hl⟩ ⟨za,zn,zc,zl⟩ ⟨ra,rn,rcc,rl⟩).env.whole true) _ _)
 ·have b1:((kc:Int) == num)=false:=by simpa using hq
  have HTR:RowKit.Hid (decide ((kc:Int)=num)=false):=decide_eq_false hq
  clear hq
  rw [show (decide ((kc:Int)=num))=false from HTR.out]
  go_enter Tryz.func60,Tryz.ntmps60
  go_wp2_with (first
   | (refine wpList_load_mid rfl 44 (.tmp 20) rfl cb (co+kc * 3) rfl [.string nm,.int .i64 fa,.int .i64 mk] _ HRG.out Tryz.underlying44 rfl cpInfo ?_)
   | (refine st_new rfl 44 (.tmp 5) (.tmp 21) rfl #[.string nm,.int .i64 fa,.int .i64 mk] _ _ rfl rfl cpInfo rfl (cp_one _ _ _) ?_;(try rw [hX]))
   | (refine wpList_load_row rfl 111 (.tmp 2) rfl w.heap.size rfl _ #[.int .i64 par,.slice ra rn rcc,.int .i64 kc,.int .i64 sch,.int .i64 year,.slice (some ⟨cb,co,none⟩) cn cc,.slice ha hn hc,.slice za zn zc,.int .i64 day] _ _ HX.out.pl Tryz.underlying111 rfl rplInfo ?_)
   | (go_at_call 102;refine (rall_any year day par kc sch (some ⟨cb,co,none⟩) cn cc cl ha hn hc hl za zn zc zl ra rn rcc rl false X HG.out.rcs).mono ?_;rintro e w1 ⟨⟨ya,yn,yc,yl⟩,⟨na,nn,nc,nl⟩,⟨oa,on,oc,ol⟩,rfl,h1,h2,h3,h4⟩;have Y1:=hid h1;have N1:=hid h2;have O1:=hid h3;have A1:=hid (HX.out.beh h4);clear h1 h2 h3 h4)
   | (refine wpList_store_row rfl 109 (.tmp 4) (.tmp 37) rfl (w.heap.size+1+1) #[.slice ya yn yc,.slice na nn nc,.slice oa on oc] rfl rfl _ _ A1.out.re tuInfo rfl (sq_one _ _ _ rfl rfl rfl) ?_))
  have BR:=setRow_heap w1 (w.heap.size+1+1) _ #[.slice ya yn yc,.slice na nn nc,.slice oa on oc] _ _ A1.out.re
  refine bodyPost_ret (results_cell_row rfl _ _ _ _ _ _ _ rfl BR Tryz.underlying109 rfl tuInfo) rfl ?_
  exact (sqP_row (y:=⟨ya,yn,yc,yl⟩) (n:=⟨na,nn,nc,nl⟩) (o:=⟨oa,on,oc,ol⟩) A1.out.re Y1.out N1.out O1.out A1.out.bl (by omega):SqP w _ ((PlM.mk year day par kc sch ⟨some ⟨cb,co,none⟩,cn,cc,cl⟩ ⟨ha,hn,hc,hl⟩ ⟨za,zn,zc,zl⟩ ⟨ra,rn,rcc,rl⟩).env.whole false) _ _)
theorem reval_3 (year day par crop sch:Int) (ca:Option Addr) (cn cc:Nat) (cl:List Crp) (ha:Option Addr) (hn hc:Nat) (hl:List RcdM) (za:Option Addr) (zn zc:Nat) (zl:List FtrM) (ra:Option Addr) (rn rcc:Nat) (rl:List Rc) (num more:Int) (a:Option Addr) (n c:Nat) (w:World) (h:PlB w (PlM.mk year day par crop sch ⟨ca,cn,cc,cl⟩ ⟨ha,hn,hc,hl⟩ ⟨za,zn,zc,zl⟩ ⟨ra,rn,rcc,rl⟩)) :
  Calls Tryz.prog 60 #[.agg #[.int .i64 par,.slice ra rn rcc,.int .i64 crop,.int .i64 sch,.int .i64 year,.slice ca cn cc,.slice ha hn hc,.slice za zn zc,.int .i64 day],.agg #[.int .i64 3,.int .i64 num,.int .i64 more,.slice a n c]] w (SqP w (PlM.mk year day par crop sch ⟨ca,cn,cc,cl⟩ ⟨ha,hn,hc,hl⟩ ⟨za,zn,zc,zl⟩ ⟨ra,rn,rcc,rl⟩).env ((PlM.mk year day par crop sch ⟨ca,cn,cc,cl⟩ ⟨ha,hn,hc,hl⟩ ⟨za,zn,zc,zl⟩ ⟨ra,rn,rcc,rl⟩).env.whole (decide ((crpAt cl crop).family=num)))):=by
 obtain ⟨kc,rfl⟩:∃ kc:Nat,crop=kc:=⟨crop.toNat,by have:=h.ok.crop.1;dsimp only at this;omega⟩
 have hkc:kc<cn:=by have:=h.ok.crop.2;dsimp only at this;omega
 obtain ⟨cb,co,rfl,hcb,hcr,hcm⟩:=crop_range h.ok.cr hkc
 have HCAT:=hid hcm
 have hye:=h.ok.year
 dsimp only at hye hcr
 obtain ⟨W,hW⟩:∃ W,((w.alloc (.cells #[.int .i64 par,.slice ra rn rcc,.int .i64 kc,.int .i64 sch,.int .i64 year,.slice (some ⟨cb,co,none⟩) cn cc,.slice ha hn hc,.slice za zn zc,.int .i64 day] 111)).alloc (.cells #[.int .i64 3,.int .i64 num,.int .i64 more,.slice a n c] 24)).alloc (.cells #[.slice none 0 0,.slice none 0 0,.slice none 0 0] 109)=W:=⟨_,rfl⟩
 obtain ⟨qc,hqc⟩:∃ qc,crpAt cl kc=qc:=⟨_,rfl⟩
 have HQC:=hid hqc
 rw [hqc] at hcr hcm
 clear hqc
 obtain ⟨nm,fa,mk⟩:=qc
 have HX:=hid (RvX.start w #[.int .i64 par,.slice ra rn rcc,.int .i64 kc,.int .i64 sch,.int .i64 year,.slice (some ⟨cb,co,none⟩) cn cc,.slice ha hn hc,.slice za zn zc,.int .i64 day] #[.int .i64 3,.int .i64 num,.int .i64 more,.slice a n c] #[.string nm,.int .i64 fa,.int .i64 mk])
 rw [hW] at HX
 have BBW:RowKit.Hid (Below w.heap.size w W):=by show Below _ _ _;rw [← hW];exact Bw.out
 have HRG:=hid (rangeAt_below hcr BBW.out)
 have y0:=HX.out.far
 obtain ⟨X,hX⟩:∃ X,W.alloc (.cells #[.string nm,.int .i64 fa,.int .i64 mk] 44)=X:=⟨_,rfl⟩
 rw [hX] at HX
 have W2:W.cell? ⟨w.heap.size,2,none⟩=some (.int .i64 kc):=by rw [← hW];exact (((Blk.new w 111 #[.int .i64 par,.slice ra rn rcc,.int .i64 kc,.int .i64 sch,.int .i64 year,.slice (some ⟨cb,co,none⟩) cn cc,.slice ha hn hc,.slice za zn zc,.int .i64 day]).alloc _).alloc _).cell 2
 have W5:W.cell? ⟨w.heap.size,5,none⟩=some (.slice (some ⟨cb,co,none⟩) cn cc):=by rw [← hW];exact (((Blk.new w 111 #[.int .i64 par,.slice ra rn rcc,.int .i64 kc,.int .i64 sch,.int .i64 year,.slice (some ⟨cb,co,none⟩) cn cc,.slice ha hn hc,.slice za zn zc,.int .i64 day]).alloc _).alloc _).cell 5
 have x0:X.cell? ⟨w.heap.size+1,0,none⟩=some (.int .i64 3):=HX.out.tm.cell 0
 have x1:X.cell? ⟨w.heap.size+1,1,none⟩=some (.int .i64 num):=HX.out.tm.cell 1
 have x2:X.cell? ⟨w.heap.size+1,2,none⟩=some (.int .i64 more):=HX.out.tm.cell 2
 have p1:X.cell? ⟨w.heap.size,1,none⟩=some (.slice ra rn rcc):=HX.out.pl.cell 1
 have p2:X.cell? ⟨w.heap.size,2,none⟩=some (.int .i64 kc):=HX.out.pl.cell 2
 have p4:X.cell? ⟨w.heap.size,4,none⟩=some (.int .i64 year):=HX.out.pl.cell 4
 have p5:X.cell? ⟨w.heap.size,5,none⟩=some (.slice (some ⟨cb,co,none⟩) cn cc):=HX.out.pl.cell 5
 have p6:X.cell? ⟨w.heap.size,6,none⟩=some (.slice ha hn hc):=HX.out.pl.cell 6
 have p7:X.cell? ⟨w.heap.size,7,none⟩=some (.slice za zn zc):=HX.out.pl.cell 7
 have p8:X.cell? ⟨w.heap.size,8,none⟩=some (.int .i64 day):=HX.out.pl.cell 8
 have q1:X.cell? ⟨W.heap.size,1,none⟩=some (.int .i64 fa):=HX.out.cp.cell 1
 have q2:X.cell? ⟨W.heap.size,2,none⟩=some (.int .i64 mk):=HX.out.cp.cell 2
 have i0:(0:Int)≤(kc:Int):=by omega
 have i1:(kc:Int)<(cn:Int):=by omega
 have HG:=hid (h.below HX.out.bl)
 by_cases hq:fa=num
 ·have b1:((fa:Int) == num)=true:=by simpa using hq
  have HTR:RowKit.Hid (decide ((crpAt cl kc).family=num)=true):=by show _=_;rw [HQC.out];exact decide_eq_true hq
  clear hq
  rw [show (decide ((crpAt cl kc).family=num))=true from HTR.out]
  go_enter Tryz.func60,Tryz.ntmps60
  go_wp2_with (first
   | (refine wpList_load_mid rfl 44 (.tmp 20) rfl cb (co+kc * 3) rfl [.string nm,.int .i64 fa,.int .i64 mk] _ HRG.out Tryz.underlying44 rfl cpInfo ?_)
   | (refine st_new rfl 44 (.tmp 5) (.tmp 21) rfl #[.string nm,.int .i64 fa,.int .i64 mk] _ _ rfl rfl cpInfo rfl (cp_one _ _ _) ?_;(try rw [hX]))
   | (refine wpList_load_row rfl 111 (.tmp 2) rfl w.heap.size rfl _ #[.int .i64 par,.slice ra rn rcc,.int .i64 kc,.int .i64 sch,.int .i64 year,.slice (some ⟨cb,co,none⟩) cn cc,.slice ha hn hc,.slice za zn zc,.int .i64 day] _ _ HX.out.pl Tryz.underlying111 rfl rplInfo ?_)
   | (go_at_call 102;refine (rall_any year day par kc sch (some ⟨cb,co,none⟩) cn cc cl ha hn hc hl za zn zc zl ra rn rcc rl true X HG.out.rcs).mono ?_;rintro e w1 ⟨⟨ya,yn,yc,yl⟩,⟨na,nn,nc,nl⟩,⟨oa,on,oc,ol⟩,rfl,h1,h2,h3,h4⟩;have Y1:=hid h1;have N1:=hid h2;have O1:=hid h3;have A1:=hid (HX.out.beh h4);clear h1 h2 h3 h4)
   | (refine wpList_store_row rfl 109 (.tmp 4) (.tmp 46) rfl (w.heap.size+1+1) #[.slice ya yn yc,.slice na nn nc,.slice oa on oc] rfl rfl _ _ A1.out.re tuInfo rfl (sq_one _ _ _ rfl rfl rfl) ?_))
  have BR:=setRow_heap w1 (w.heap.size+1+1) _ #[.slice ya yn yc,.slice na nn nc,.slice oa on oc] _ _ A1.out.re
  refine bodyPost_ret (results_cell_row rfl _ _ _ _ _ _ _ rfl BR Tryz.underlying109 rfl tuInfo) rfl ?_
  exact (sqP_row (y:=⟨ya,yn,yc,yl⟩) (n:=⟨na,nn,nc,nl⟩) (o:=⟨oa,on,oc,ol⟩) A1.out.re Y1.out N1.out O1.out A1.out.bl (by omega):SqP w _ ((PlM.mk year day par kc sch ⟨some ⟨cb,co,none⟩,cn,cc,cl⟩ ⟨ha,hn,hc,hl⟩ ⟨za,zn,zc,zl⟩ ⟨ra,rn,rcc,rl⟩).env.whole true) _ _)
 ·have b1:((fa:Int) == num)=false:=by simpa using hq
  have HTR:RowKit.Hid (decide ((crpAt cl kc).family=num)=false):=by show _=_;rw [HQC.out];exact decide_eq_false hq
  clear hq
  rw [show (decide ((crpAt cl kc).family=num))=false from HTR.out]
  go_enter Tryz.func60,Tryz.ntmps60
  go_wp2_with (first
   | (refine wpList_load_mid rfl 44 (.tmp 20) rfl cb (co+kc * 3) rfl [.string nm,.int .i64 fa,.int .i64 mk] _ HRG.out Tryz.underlying44 rfl cpInfo ?_)
   | (refine st_new rfl 44 (.tmp 5) (.tmp 21) rfl #[.string nm,.int .i64 fa,.int .i64 mk] _ _ rfl rfl cpInfo rfl (cp_one _ _ _) ?_;(try rw [hX]))
   | (refine wpList_load_row rfl 111 (.tmp 2) rfl w.heap.size rfl _ #[.int .i64 par,.slice ra rn rcc,.int .i64 kc,.int .i64 sch,.int .i64 year,.slice (some ⟨cb,co,none⟩) cn cc,.slice ha hn hc,.slice za zn zc,.int .i64 day] _ _ HX.out.pl Tryz.underlying111 rfl rplInfo ?_)
   | (go_at_call 102;refine (rall_any year day par kc sch (some ⟨cb,co,none⟩) cn cc cl ha hn hc hl za zn zc zl ra rn rcc rl false X HG.out.rcs).mono ?_;rintro e w1 ⟨⟨ya,yn,yc,yl⟩,⟨na,nn,nc,nl⟩,⟨oa,on,oc,ol⟩,rfl,h1,h2,h3,h4⟩;have Y1:=hid h1;have N1:=hid h2;have O1:=hid h3;have A1:=hid (HX.out.beh h4);clear h1 h2 h3 h4)
   | (refine wpList_store_row rfl 109 (.tmp 4) (.tmp 46) rfl (w.heap.size+1+1) #[.slice ya yn yc,.slice na nn nc,.slice oa on oc] rfl rfl _ _ A1.out.re tuInfo rfl (sq_one _ _ _ rfl rfl rfl) ?_))
  have BR:=setRow_heap w1 (w.heap.size+1+1) _ #[.slice ya yn yc,.slice na nn nc,.slice oa on oc] _ _ A1.out.re
  refine bodyPost_ret (results_cell_row rfl _ _ _ _ _ _ _ rfl BR Tryz.underlying109 rfl tuInfo) rfl ?_
  exact (sqP_row (y:=⟨ya,yn,yc,yl⟩) (n:=⟨na,nn,nc,nl⟩) (o:=⟨oa,on,oc,ol⟩) A1.out.re Y1.out N1.out O1.out A1.out.bl (by omega):SqP w _ ((PlM.mk year day par kc sch ⟨some ⟨cb,co,none⟩,cn,cc,cl⟩ ⟨ha,hn,hc,hl⟩ ⟨za,zn,zc,zl⟩ ⟨ra,rn,rcc,rl⟩).env.whole false) _ _)
theorem reval_4 (year day par crop sch:Int) (ca:Option Addr) (cn cc:Nat) (cl:List Crp) (ha:Option Addr) (hn hc:Nat) (hl:List RcdM) (za:Option Addr) (zn zc:Nat) (zl:List FtrM) (ra:Option Addr) (rn rcc:Nat) (rl:List Rc) (num more:Int) (a:Option Addr) (n c:Nat) (w:World) (hm:oneMark num=true) (h:PlB w (PlM.mk year day par crop sch ⟨ca,cn,cc,cl⟩ ⟨ha,hn,hc,hl⟩ ⟨za,zn,zc,zl⟩ ⟨ra,rn,rcc,rl⟩)) :
  Calls Tryz.prog 60 #[.agg #[.int .i64 par,.slice ra rn rcc,.int .i64 crop,.int .i64 sch,.int .i64 year,.slice ca cn cc,.slice ha hn hc,.slice za zn zc,.int .i64 day],.agg #[.int .i64 4,.int .i64 num,.int .i64 more,.slice a n c]] w (SqP w (PlM.mk year day par crop sch ⟨ca,cn,cc,cl⟩ ⟨ha,hn,hc,hl⟩ ⟨za,zn,zc,zl⟩ ⟨ra,rn,rcc,rl⟩).env ((PlM.mk year day par crop sch ⟨ca,cn,cc,cl⟩ ⟨ha,hn,hc,hl⟩ ⟨za,zn,zc,zl⟩ ⟨ra,rn,rcc,rl⟩).env.whole (hasMark cl crop num))):=by
 obtain ⟨kc,rfl⟩:∃ kc:Nat,crop=kc:=⟨crop.toNat,by have:=h.ok.crop.1;dsimp only at this;omega⟩
 have hkc:kc<cn:=by have:=h.ok.crop.2;dsimp only at this;omega
 obtain ⟨cb,co,rfl,hcb,hcr,hcm⟩:=crop_range h.ok.cr hkc
 have HCAT:=hid hcm
 have hye:=h.ok.year
 dsimp only at hye hcr
 obtain ⟨W,hW⟩:∃ W,((w.alloc (.cells #[.int .i64 par,.slice ra rn rcc,.int .i64 kc,.int .i64 sch,.int .i64 year,.slice (some ⟨cb,co,none⟩) cn cc,.slice ha hn hc,.slice za zn zc,.int .i64 day] 111)).alloc (.cells #[.int .i64 4,.int .i64 num,.int .i64 more,.slice a n c] 24)).alloc (.cells #[.slice none 0 0,.slice none 0 0,.slice none 0 0] 109)=W:=⟨_,rfl⟩
 obtain ⟨qc,hqc⟩:∃ qc,crpAt cl kc=qc:=⟨_,rfl⟩
 have HQC:=hid hqc
 rw [hqc] at hcr hcm
 clear hqc
 obtain ⟨nm,fa,mk⟩:=qc
 have HX:=hid (RvX.start w #[.int .i64 par,.slice ra rn rcc,.int .i64 kc,.int .i64 sch,.int .i64 year,.slice (some ⟨cb,co,none⟩) cn cc,.slice ha hn hc,.slice za zn zc,.int .i64 day] #[.int .i64 4,.int .i64 num,.int .i64 more,.slice a n c] #[.string nm,.int .i64 fa,.int .i64 mk])
 rw [hW] at HX
 have BBW:RowKit.Hid (Below w.heap.size w W):=by show Below _ _ _;rw [← hW];exact Bw.out
 have HRG:=hid (rangeAt_below hcr BBW.out)
 have y0:=HX.out.far
 obtain ⟨X,hX⟩:∃ X,W.alloc (.cells #[.string nm,.int .i64 fa,.int .i64 mk] 44)=X:=⟨_,rfl⟩
 rw [hX] at HX
 have W2:W.cell? ⟨w.heap.size,2,none⟩=some (.int .i64 kc):=by rw [← hW];exact (((Blk.new w 111 #[.int .i64 par,.slice ra rn rcc,.int .i64 kc,.int .i64 sch,.int .i64 year,.slice (some ⟨cb,co,none⟩) cn cc,.slice ha hn hc,.slice za zn zc,.int .i64 day]).alloc _).alloc _).cell 2
 have W5:W.cell? ⟨w.heap.size,5,none⟩=some (.slice (some ⟨cb,co,none⟩) cn cc):=by rw [← hW];exact (((Blk.new w 111 #[.int .i64 par,.slice ra rn rcc,.int .i64 kc,.int .i64 sch,.int .i64 year,.slice (some ⟨cb,co,none⟩) cn cc,.slice ha hn hc,.slice za zn zc,.int .i64 day]).alloc _).alloc _).cell 5
 have x0:X.cell? ⟨w.heap.size+1,0,none⟩=some (.int .i64 4):=HX.out.tm.cell 0
 have x1:X.cell? ⟨w.heap.size+1,1,none⟩=some (.int .i64 num):=HX.out.tm.cell 1
 have x2:X.cell? ⟨w.heap.size+1,2,none⟩=some (.int .i64 more):=HX.out.tm.cell 2
 have p1:X.cell? ⟨w.heap.size,1,none⟩=some (.slice ra rn rcc):=HX.out.pl.cell 1
 have p2:X.cell? ⟨w.heap.size,2,none⟩=some (.int .i64 kc):=HX.out.pl.cell 2
 have p4:X.cell? ⟨w.heap.size,4,none⟩=some (.int .i64 year):=HX.out.pl.cell 4
 have p5:X.cell? ⟨w.heap.size,5,none⟩=some (.slice (some ⟨cb,co,none⟩) cn cc):=HX.out.pl.cell 5
 have p6:X.cell? ⟨w.heap.size,6,none⟩=some (.slice ha hn hc):=HX.out.pl.cell 6
 have p7:X.cell? ⟨w.heap.size,7,none⟩=some (.slice za zn zc):=HX.out.pl.cell 7
 have p8:X.cell? ⟨w.heap.size,8,none⟩=some (.int .i64 day):=HX.out.pl.cell 8
 have q1:X.cell? ⟨W.heap.size,1,none⟩=some (.int .i64 fa):=HX.out.cp.cell 1
 have q2:X.cell? ⟨W.heap.size,2,none⟩=some (.int .i64 mk):=HX.out.cp.cell 2
 have i0:(0:Int)≤(kc:Int):=by omega
 have i1:(kc:Int)<(cn:Int):=by omega
 have HG:=hid (h.below HX.out.bl)
 have hmk:=h.mks _ HCAT.out
 rw [HQC.out] at hmk
 have hmk2:=of_decide_eq_true hmk
 dsimp only at hmk2
 have HMA:=hid (mark_and hmk2.1 hmk2.2 hm)
 have hnz:num ≠ 0:=by rcases oneMark_cases hm with rfl | rfl | rfl | rfl | rfl <;> decide
 have HHM:RowKit.Hid (hasMark cl kc num=(!decide (num=0) && decide (bits .and .i64 mk num=num))):=by
  show _=_
  have:=hasMark_at (l:=cl) (k:=kc) (by have:=h.ok.cr.len;dsimp only at this;omega) num
  rw [HQC.out] at this
  exact this
 clear hmk hmk2
 by_cases hq:bits .and .i64 mk num=num
 ·have b1:(bits .and .i64 mk num != 0)=true:=by rw [HMA.out];exact decide_eq_true hq
  have HTR:RowKit.Hid (hasMark cl kc num=true):=by show _=_;rw [HHM.out];simp [hq,hnz]
  clear hq
  rw [show (hasMark cl kc num)=true from HTR.out]
  go_enter Tryz.func60,Tryz.ntmps60
  go_wp2_with (first
   | (refine wpList_load_mid rfl 44 (.tmp 20) rfl cb (co+kc * 3) rfl [.string nm,.int .i64 fa,.int .i64 mk] _ HRG.out Tryz.underlying44 rfl cpInfo ?_)
   | (refine st_new rfl 44 (.tmp 5) (.tmp 21) rfl #[.string nm,.int .i64 fa,.int .i64 mk] _ _ rfl rfl cpInfo rfl (cp_one _ _ _) ?_;(try rw [hX]))
   | (refine wpList_load_row rfl 111 (.tmp 2) rfl w.heap.size rfl _ #[.int .i64 par,.slice ra rn rcc,.int .i64 kc,.int .i64 sch,.int .i64 year,.slice (some ⟨cb,co,none⟩) cn cc,.slice ha hn hc,.slice za zn zc,.int .i64 day] _ _ HX.out.pl Tryz.underlying111 rfl rplInfo ?_)
   | (go_at_call 102;refine (rall_any year day par kc sch (some ⟨cb,co,none⟩) cn cc cl ha hn hc hl za zn zc zl ra rn rcc rl true X HG.out.rcs).mono ?_;rintro e w1 ⟨⟨ya,yn,yc,yl⟩,⟨na,nn,nc,nl⟩,⟨oa,on,oc,ol⟩,rfl,h1,h2,h3,h4⟩;have Y1:=hid h1;have N1:=hid h2;have O1:=hid h3;have A1:=hid (HX.out.beh h4);clear h1 h2 h3 h4)
   | (refine wpList_store_row rfl 109 (.tmp 4) (.tmp 56) rfl (w.heap.size+1+1) #[.slice ya yn yc,.slice na nn nc,.slice oa on oc] rfl rfl _ _ A1.out.re tuInfo rfl (sq_one _ _ _ rfl rfl rfl) ?_))
  have BR:=setRow_heap w1 (w.heap.size+1+1) _ #[.slice ya yn yc,.slice na nn nc,.slice oa on oc] _ _ A1.out.re
  refine bodyPost_ret (results_cell_row rfl _ _ _ _ _ _ _ rfl BR Tryz.underlying109 rfl tuInfo) rfl ?_
  exact (sqP_row (y:=⟨ya,yn,yc,yl⟩) (n:=⟨na,nn,nc,nl⟩) (o:=⟨oa,on,oc,ol⟩) A1.out.re Y1.out N1.out O1.out A1.out.bl (by omega):SqP w _ ((PlM.mk year day par kc sch ⟨some ⟨cb,co,none⟩,cn,cc,cl⟩ ⟨ha,hn,hc,hl⟩ ⟨za,zn,zc,zl⟩ ⟨ra,rn,rcc,rl⟩).env.whole true) _ _)
 ·have b1:(bits .and .i64 mk num != 0)=false:=by rw [HMA.out];exact decide_eq_false hq
  have HTR:RowKit.Hid (hasMark cl kc num=false):=by show _=_;rw [HHM.out];simp [hq]
  clear hq
  rw [show (hasMark cl kc num)=false from HTR.out]
  go_enter Tryz.func60,Tryz.ntmps60
  go_wp2_with (first
   | (refine wpList_load_mid rfl 44 (.tmp 20) rfl cb (co+kc * 3) rfl [.string nm,.int .i64 fa,.int .i64 mk] _ HRG.out Tryz.underlying44 rfl cpInfo ?_)
   | (refine st_new rfl 44 (.tmp 5) (.tmp 21) rfl #[.string nm,.int .i64 fa,.int .i64 mk] _ _ rfl rfl cpInfo rfl (cp_one _ _ _) ?_;(try rw [hX]))
   | (refine wpList_load_row rfl 111 (.tmp 2) rfl w.heap.size rfl _ #[.int .i64 par,.slice ra rn rcc,.int .i64 kc,.int .i64 sch,.int .i64 year,.slice (some ⟨cb,co,none⟩) cn cc,.slice ha hn hc,.slice za zn zc,.int .i64 day] _ _ HX.out.pl Tryz.underlying111 rfl rplInfo ?_)
   | (go_at_call 102;refine (rall_any year day par kc sch (some ⟨cb,co,none⟩) cn cc cl ha hn hc hl za zn zc zl ra rn rcc rl false X HG.out.rcs).mono ?_;rintro e w1 ⟨⟨ya,yn,yc,yl⟩,⟨na,nn,nc,nl⟩,⟨oa,on,oc,ol⟩,rfl,h1,h2,h3,h4⟩;have Y1:=hid h1;have N1:=hid h2;have O1:=hid h3;have A1:=hid (HX.out.beh h4);clear h1 h2 h3 h4)
   | (refine wpList_store_row rfl 109 (.tmp 4) (.tmp 56) rfl (w.heap.size+1+1) #[.slice ya yn yc,.slice na nn nc,.slice oa on oc] rfl rfl _ _ A1.out.re tuInfo rfl (sq_one _ _ _ rfl rfl rfl) ?_))
  have BR:=setRow_heap w1 (w.heap.size+1+1) _ #[.slice ya yn yc,.slice na nn nc,.slice oa on oc] _ _ A1.out.re
  refine bodyPost_ret (results_cell_row rfl _ _ _ _ _ _ _ rfl BR Tryz.underlying109 rfl tuInfo) rfl ?_
  exact (sqP_row (y:=⟨ya,yn,yc,yl⟩) (n:=⟨na,nn,nc,nl⟩) (o:=⟨oa,on,oc,ol⟩) A1.out.re Y1.out N1.out O1.out A1.out.bl (by omega):SqP w _ ((PlM.mk year day par kc sch ⟨some ⟨cb,co,none⟩,cn,cc,cl⟩ ⟨ha,hn,hc,hl⟩ ⟨za,zn,zc,zl⟩ ⟨ra,rn,rcc,rl⟩).env.whole false) _ _)
end Go.Proofs.YtancajcelmhnkaaGreatDoor
