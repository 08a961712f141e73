/- Plain Lean: how many squares canonical rectangles have,by counting the squares of a board;how many rectangles there are at most. -/
import Derived.Test.YtancajcelmhnkaaGreatDoorGg
namespace Go.Proofs.YtancajcelmhnkaaGreatDoor
set_option linter.unusedVariables false
def sumTo:Nat→(Nat→Int)→Int
 | 0,_=>0
 | n+1,f=>sumTo n f+f n
theorem sumTo_congr {n:Nat} {f g:Nat→Int} (h:∀ i,i<n→f i=g i):sumTo n f=sumTo n g:=by
 induction n with
 | zero=>rfl
 | succ n ih=>simp only [sumTo];rw [ih fun i hi=>h i (by omega),h n (by omega)]
theorem sumTo_add (n:Nat) (f g:Nat→Int):sumTo n (fun i=>f i+g i)=sumTo n f+sumTo n g:=by
 induction n with
 | zero=>rfl
 | succ n ih=>simp only [sumTo];rw [ih];omega
theorem sumTo_le {n:Nat} {f:Nat→Int} {c:Int} (h:∀ i,i<n→f i≤c):sumTo n f≤n * c:=by
 induction n with
 | zero=>simp [sumTo]
 | succ n ih =>
  have h1:=ih fun i hi=>h i (by omega)
  have h2:=h n (by omega)
  have e:((n+1:Nat):Int) * c=n * c+c:=by rw [Int.natCast_add,Int.add_mul];simp
  simp only [sumTo];omega
theorem sumTo_zero {n:Nat} {f:Nat→Int} (h:∀ i,i<n→f i=0):sumTo n f=0:=by
 induction n with
 | zero=>rfl
 | succ n ih=>simp only [sumTo];rw [ih fun i hi=>h i (by omega),h n (by omega)];rfl
theorem sumTo_span (n:Nat) (a b c:Int) (h0:0≤a) (h1:a≤b):sumTo n (fun i=>if a≤(i:Int)∧(i:Int)<b then c else 0)=(min b n - min a n) * c:=by
 induction n with
 | zero =>
  have:min b ((0:Nat):Int) - min a ((0:Nat):Int)=0:=by omega
  rw [this];simp [sumTo]
 | succ n ih =>
  simp only [sumTo]
  rw [ih]
  by_cases h:a≤(n:Int)∧(n:Int)<b
  ·rw [if_pos h]
   have e:min b ((n+1:Nat):Int) - min a ((n+1:Nat):Int)=(min b (n:Int) - min a (n:Int))+1:=by omega
   rw [e,Int.add_mul,Int.one_mul]
  ·rw [if_neg h]
   have e:min b ((n+1:Nat):Int) - min a ((n+1:Nat):Int)=min b (n:Int) - min a (n:Int):=by omega
   rw [e];omega
def cnt (M:Nat) (p:Int→Int→Bool):Int:=sumTo M fun y=>sumTo M fun x=>if p x y then 1 else 0
theorem cnt_le (M:Nat) (p:Int→Int→Bool):cnt M p≤M * M :=
 sumTo_le fun y _=>by
  have:=sumTo_le (n:=M) (f:=fun x=>if p (x:Int) (y:Int) then (1:Int) else 0) (c:=1) fun x _=>by
   split <;> omega
  omega
theorem cnt_or {M:Nat} {p q r:Int→Int→Bool} (h:∀ x y:Int,p x y=(q x y || r x y)) (hd:∀ x y:Int,q x y=true→r x y=true→False):cnt M p=cnt M q+cnt M r:=by
 unfold cnt
 rw [← sumTo_add]
 refine sumTo_congr fun y _=>?_
 rw [← sumTo_add]
 refine sumTo_congr fun x _=>?_
 have h1:=h x y
 have h2:=hd x y
 cases hq:q (x:Int) (y:Int) <;> cases hr:r (x:Int) (y:Int) <;> simp [hq,hr] at h1 h2 <;> simp [h1]
def inOne (q:Rc) (x y:Int):Bool:=decide (q.1≤x∧x<q.2.2.1∧q.2.1≤y∧y<q.2.2.2)
theorem cnt_one (M:Nat) (q:Rc) (h0:0≤q.1) (h1:q.1≤q.2.2.1) (h2:q.2.2.1≤M) (h3:0≤q.2.1) (h4:q.2.1≤q.2.2.2) (h5:q.2.2.2≤M):cnt M (inOne q)=(q.2.2.1 - q.1) * (q.2.2.2 - q.2.1):=by
 have e:cnt M (inOne q)=sumTo M fun y=>if q.2.1≤(y:Int)∧(y:Int)<q.2.2.2 then (q.2.2.1 - q.1) else 0:=by
  refine sumTo_congr fun y _=>?_
  by_cases hy:q.2.1≤(y:Int)∧(y:Int)<q.2.2.2
  ·rw [if_pos hy]
   have:=sumTo_span M q.1 q.2.2.1 1 h0 h1
   rw [show (min q.2.2.1 (M:Int) - min q.1 (M:Int)) * 1=q.2.2.1 - q.1 by omega] at this
   rw [← this]
   refine sumTo_congr fun x _=>?_
   simp only [inOne,decide_eq_true_eq]
   by_cases hx:q.1≤(x:Int)∧(x:Int)<q.2.2.1
   ·rw [if_pos hx,if_pos ⟨hx.1,hx.2,hy⟩]
   ·rw [if_neg hx,if_neg fun c=>hx ⟨c.1,c.2.1⟩]
  ·rw [if_neg hy]
   refine sumTo_zero fun x _=>?_
   rw [if_neg]
   simp only [inOne,decide_eq_true_eq]
   exact fun c=>hy c.2.2
 rw [e,sumTo_span M _ _ _ h3 h4,show min q.2.2.2 (M:Int) - min q.2.1 (M:Int)=q.2.2.2 - q.2.1 by omega,Int.mul_comm]
def Apt:List Rc→Prop
 | []=>True
 | q :: l=>(∀ x y,inOne q x y=true→inRc l x y→False)∧Apt l
theorem inRc_cons (q:Rc) (l:List Rc) (x y:Int):inRc (q :: l) x y↔inOne q x y=true∨inRc l x y:=by
 unfold inRc inOne
 simp
theorem size_cnt (M:Nat) (l:List Rc) (h:Apt l) (hp:∀ q ∈ l,0≤q.1∧q.1≤q.2.2.1∧q.2.2.1≤M∧0≤q.2.1∧q.2.1≤q.2.2.2∧q.2.2.2≤M):sizeRc l=cnt M (insB l):=by
 induction l with
 | nil =>
  refine (sumTo_zero fun y _=>sumTo_zero fun x _=>?_).symm
  rfl
 | cons q l ih =>
  obtain ⟨p0,p1,p2,p3,p4,p5⟩:=hp q List.mem_cons_self
  have h1:=ih h.2 fun r hr=>hp r (List.mem_cons_of_mem _ hr)
  have h2:=cnt_one M q p0 p1 p2 p3 p4 p5
  rw [cnt_or (M:=M) (p:=insB (q :: l)) (q:=inOne q) (r:=insB l) (fun x y=>?_) (fun x y a b=>h.1 x y a ((insB_iff l x y).1 b))]
  ·rw [h2,← h1];rfl
  ·rw [Bool.eq_iff_iff,insB_iff,inRc_cons,Bool.or_eq_true,insB_iff]
theorem apt_row (lo hi:Int):∀ (s:List Sp),Gap s→Apt (s.map fun t=>(t.1,lo,t.2,hi))
 | [],_=>trivial
 | t :: s,h=>by
  refine ⟨fun x y hx ⟨q,hq,hq2⟩=>?_,apt_row lo hi s h.2.2⟩
  obtain ⟨u,hu,rfl⟩:=List.mem_map.1 hq
  have:=h.2.1 u hu
  simp [inOne] at hx
  dsimp only at hq2
  omega
theorem apt_append {l m:List Rc} (hl:Apt l) (hm:Apt m) (h:∀ x y,inRc l x y→inRc m x y→False):Apt (l++m):=by
 induction l with
 | nil=>exact hm
 | cons q l ih =>
  refine ⟨fun x y hx hy=>?_,ih hl.2 fun x y hx hy=>h x y ((inRc_cons _ _ _ _).2 (.inr hx)) hy⟩
  obtain ⟨r,hr,hr2⟩:=hy
  rcases List.mem_append.1 hr with hr | hr
  ·exact hl.1 x y hx ⟨r,hr,hr2⟩
  ·exact h x y ((inRc_cons _ _ _ _).2 (.inl hx)) ⟨r,hr,hr2⟩
theorem apt_can:∀ (B:List Bd),Can B→Apt (flat B)
 | [],_=>trivial
 | b :: l,h=>by
  have e:flat (b :: l)=(b.2.2.map fun s=>(s.1,b.1,s.2,b.2.1))++flat l:=by simp [flat]
  rw [e]
  refine apt_append (apt_row _ _ _ h.2.2.1) (apt_can l h.2.2.2.2.2) fun x y hx hy=>?_
  obtain ⟨q,hq,h1⟩:=hx
  obtain ⟨s,_,rfl⟩:=List.mem_map.1 hq
  obtain ⟨c,hc,h2⟩:=(inRc_flat l x y).1 hy
  have:=h.2.2.2.1 c hc
  dsimp only at h1
  omega
theorem apt_isCan {S:Int→Int→Prop} {l:List Rc} (h:IsCan S l):Apt l:=by
 obtain ⟨B,h1,rfl,_⟩:=h
 exact apt_can B h1
theorem isCan_pos {S:Int→Int→Prop} {l:List Rc} (h:IsCan S l):∀ q ∈ l,q.1<q.2.2.1∧q.2.1<q.2.2.2:=by
 obtain ⟨B,h1,rfl,hh⟩:=h
 clear hh
 induction B with
 | nil=>intro q hq;simp [flat] at hq
 | cons b B ih =>
  intro q hq
  have e:flat (b :: B)=(b.2.2.map fun s=>(s.1,b.1,s.2,b.2.1))++flat B:=by simp [flat]
  rw [e] at hq
  rcases List.mem_append.1 hq with hq | hq
  ·obtain ⟨s,hs,rfl⟩:=List.mem_map.1 hq
   refine ⟨?_,h1.1⟩
   have hg:∀ (l:List Sp),Gap l→∀ s ∈ l,s.1<s.2:=by
    intro l
    induction l with
    | nil=>intro _ s hs;cases hs
    | cons t l ih =>
     intro h s hs
     rcases List.mem_cons.1 hs with rfl | hs
     ·exact h.1
     ·exact ih h.2.2 s hs
   exact hg _ h1.2.2.1 s hs
  ·exact ih h1.2.2.2.2.2 q hq
theorem isCan_few {S:Int→Int→Prop} {l:List Rc} (h:IsCan S l) (M:Nat) (hS:∀ x y,S x y→0≤x∧x<M∧0≤y∧y<M):l.length≤M * M∧∀ q ∈ l,0≤q.1∧q.1<q.2.2.1∧q.2.2.1≤M∧0≤q.2.1∧q.2.1<q.2.2.2∧q.2.2.2≤M:=by
 have hp:=isCan_pos h
 have hb:∀ q ∈ l,0≤q.1∧q.1<q.2.2.1∧q.2.2.1≤M∧0≤q.2.1∧q.2.1<q.2.2.2∧q.2.2.2≤M:=fun q hq=>by
  obtain ⟨p1,p2⟩:=hp q hq
  have a1:=hS q.1 q.2.1 ((h.iff _ _).1 ⟨q,hq,by omega⟩)
  have a2:=hS (q.2.2.1 - 1) (q.2.2.2 - 1) ((h.iff _ _).1 ⟨q,hq,by omega⟩)
  omega
 refine ⟨?_,hb⟩
 have h1:=size_cnt M l (apt_isCan h) fun q hq=>by have:=hb q hq;omega
 have h2:=cnt_le M (insB l)
 have h3:∀ l:List Rc,(∀ q ∈ l,q.1<q.2.2.1∧q.2.1<q.2.2.2)→(l.length:Int)≤sizeRc l:=by
  intro l
  induction l with
  | nil=>intro _;simp [sizeRc]
  | cons q l ih =>
   intro h
   have h4:=ih fun r hr=>h r (List.mem_cons_of_mem _ hr)
   obtain ⟨p1,p2⟩:=h q List.mem_cons_self
   have:=Int.mul_le_mul (show (1:Int)≤q.2.2.1 - q.1 by omega) (show (1:Int)≤q.2.2.2 - q.2.1 by omega) (by omega) (by omega)
   simp only [sizeRc,List.length_cons]
   omega
 have h4:=h3 l hp
 have h5:(l.length:Int)≤((M * M:Nat):Int):=by rw [Int.natCast_mul];omega
 omega
inductive Tm where
 | mk (op num more:Int) (kids:List Tm):Tm
def Tm.op:Tm→Int | .mk o _ _ _=>o
def Tm.num:Tm→Int | .mk _ n _ _=>n
def Tm.more:Tm→Int | .mk _ _ m _=>m
def Tm.kids:Tm→List Tm | .mk _ _ _ k=>k
theorem Tm.ind {P:Tm→Prop} (h:∀ op num more kids,(∀ k ∈ kids,P k)→P (.mk op num more kids)) (t:Tm):P t :=
 Tm.rec (motive_1:=P) (motive_2:=fun l=>∀ k ∈ l,P k) (fun op num more kids ih=>h op num more kids ih) (fun k hk=>by cases hk) (fun a l h1 h2 k hk=>by
  rcases List.mem_cons.1 hk with rfl | hk
  ·exact h1
  ·exact h2 k hk) t
structure Crp where
 name:ByteArray
 family:Int
 marks:Int
structure Rcd where
 year:Int
 crop:Int
 rects:List Rc
structure Ftr where
 number:Int
 kind:Int
 since:Int
 till:Int
 rects:List Rc
structure Env where
 rects:List Rc
 crop:Int
 year:Int
 crops:List Crp
 hist:List Rcd
 zones:List Ftr
 day:Int
abbrev Sq:=Int→Int→Prop
def Env.R (E:Env):Sq:=inRc E.rects
def crpAt (l:List Crp) (c:Int):Crp:=l.getD c.toNat ⟨⟨#[]⟩,0,0⟩
def hasMark (l:List Crp) (c m:Int):Bool:=decide (0≤c∧c<l.length) && !decide (m=0) && decide (bits .and .i64 (crpAt l c).marks m=m)
def Env.recs (E:Env) (n:Int) (ch:Int→Bool):Sq:=fun x y=>∃ r ∈ E.hist,r.year=E.year - n∧ch r.crop=true∧inRc r.rects x y
def Env.known (E:Env) (n:Int) (ch:Int→Bool):Sq:=fun x y=>E.R x y∧E.recs n ch x y
def Env.zone (E:Env) (k:Int):Sq:=fun x y=>∃ f ∈ E.zones,f.since≤E.day∧E.day<f.till∧f.kind=k∧inRc f.rects x y
def Env.kin (E:Env) (c:Int):Bool:=decide ((crpAt E.crops c).family=(crpAt E.crops E.crop).family)
structure Pr where
 yes:Sq
 no:Sq
def Env.whole (E:Env) (b:Bool):Pr:=if b then ⟨E.R,fun _ _=>False⟩ else ⟨fun _ _=>False,E.R⟩
def Env.atom (E:Env) (op num more:Int):Pr :=
 if op=2 then E.whole (decide (E.crop=num))
 else if op=3 then E.whole (decide ((crpAt E.crops E.crop).family=num))
 else if op=4 then E.whole (hasMark E.crops E.crop num)
 else if op=5 then ⟨fun x y=>E.R x y∧E.zone num x y,fun x y=>E.R x y∧¬ E.zone num x y⟩
 else if op=6 then ⟨fun x y=>E.R x y∧∀ n:Int,1≤n→n<num→E.known n E.kin x y,fun x y=>∃ n:Int,1≤n∧n<num∧E.known n (fun c=>!E.kin c) x y⟩
 else if op=7 then ⟨E.known num fun c=>hasMark E.crops c more,E.known num fun c=>!hasMark E.crops c more⟩
 else if op=8 then ⟨E.known num fun _=>true,fun x y=>E.R x y∧¬ E.known num (fun _=>true) x y⟩
 else E.whole true
def Pr.not (p:Pr):Pr:=⟨p.no,p.yes⟩
def Env.and (E:Env) (l:List Pr):Pr:=⟨fun x y=>E.R x y∧∀ p ∈ l,p.yes x y,fun x y=>∃ p ∈ l,p.no x y⟩
mutual
def Env.ev (E:Env):Tm→Pr
 | .mk op num more kids =>
  if op=9 then E.and (Env.evs E kids)
  else if op=10 then (E.and ((Env.evs E kids).map Pr.not)).not
  else if op=11 then (Env.evs E kids).head?.elim ⟨fun _ _=>False,fun _ _=>False⟩ Pr.not
  else E.atom op num more
def Env.evs (E:Env):List Tm→List Pr
 | []=>[]
 | t :: l=>Env.ev E t :: Env.evs E l
end
theorem Env.evs_map (E:Env) (l:List Tm):E.evs l=l.map E.ev:=by
 induction l with
 | nil=>rw [Env.evs];rfl
 | cons t l ih=>rw [Env.evs,ih];rfl
theorem Env.ev_mk (E:Env) (op num more:Int) (kids:List Tm):E.ev (.mk op num more kids) =
  if op=9 then E.and (kids.map E.ev)
  else if op=10 then (E.and ((kids.map E.ev).map Pr.not)).not
  else if op=11 then (kids.map E.ev).head?.elim ⟨fun _ _=>False,fun _ _=>False⟩ Pr.not
  else E.atom op num more:=by
 rw [Env.ev,Env.evs_map]
def Env.rest (E:Env) (p:Pr):Sq:=fun x y=>E.R x y∧¬ p.yes x y∧¬ p.no x y
def oneMark (n:Int):Bool:=decide (n=1∨n=2∨n=4∨n=8∨n=16)
def formB (op num more:Int) (n:Nat):Bool :=
  (if op=1 then decide (num=0) else if op=2 then decide (0≤num∧num≤39) else if op=3 then decide (0≤num∧num≤40) else if op=4 then oneMark num
   else if op=5 then decide (0≤num∧num≤15) else if op=6 then decide (2≤num∧num≤10) else if op=7 then decide (1≤num∧num≤10) else if op=8 then decide (1≤num∧num≤10)
   else if op=9∨op=10 then decide (num=0∧0<n) else if op=11 then decide (num=0∧n=1) else false) &&
  (if op=7 then oneMark more else decide (more=0)) && (if op=9∨op=10∨op=11 then true else decide (n=0))
mutual
def Tm.size:Tm→Nat
 | .mk _ _ _ kids=>1+Tm.sizes kids
def Tm.sizes:List Tm→Nat
 | []=>0
 | t :: l=>Tm.size t+Tm.sizes l
end
mutual
def Tm.form:Tm→Bool
 | .mk op num more kids=>formB op num more kids.length && Tm.forms kids
def Tm.forms:List Tm→Bool
 | []=>true
 | t :: l=>Tm.form t && Tm.forms l
end
mutual
def Tm.depth:Tm→Nat
 | .mk _ _ _ kids=>1+Tm.depths kids
def Tm.depths:List Tm→Nat
 | []=>0
 | t :: l=>max (Tm.depth t) (Tm.depths l)
end
mutual
def Tm.back:Tm→Int
 | .mk op num _ kids=>max (if op=6 then num - 1 else if op=7∨op=8 then num else 0) (Tm.backs kids)
def Tm.backs:List Tm→Int
 | []=>0
 | t :: l=>max (Tm.back t) (Tm.backs l)
end
theorem Tm.forms_all (l:List Tm):Tm.forms l=l.all Tm.form:=by
 induction l with
 | nil=>rw [Tm.forms];rfl
 | cons t l ih=>rw [Tm.forms,ih];rfl
theorem Tm.form_mk (op num more:Int) (kids:List Tm):Tm.form (.mk op num more kids)=(formB op num more kids.length && kids.all Tm.form):=by rw [Tm.form,Tm.forms_all]
def Env.Dis (E:Env):Prop:=∀ r ∈ E.hist,∀ s ∈ E.hist,r.year=s.year→r.crop ≠ s.crop→∀ x y,inRc r.rects x y→inRc s.rects x y→False
theorem Env.known_apart {E:Env} (h:E.Dis) {n:Int} {f g:Int→Bool} (hfg:∀ c,f c=true→g c=true→False) {x y:Int} (a:E.known n f x y) (b:E.known n g x y):False:=by
 obtain ⟨_,r,hr,h1,h2,h3⟩:=a
 obtain ⟨_,s,hs,h4,h5,h6⟩:=b
 refine h r hr s hs (h1.trans h4.symm) (fun e=>?_) x y h3 h6
 rw [e] at h2
 exact hfg _ h2 h5
structure Env.Fine (E:Env) (p:Pr):Prop where
 apart:∀ x y,p.yes x y→p.no x y→False
 yes:∀ x y,p.yes x y→E.R x y
 no:∀ x y,p.no x y→E.R x y
theorem Env.Fine.not {E:Env} {p:Pr} (h:E.Fine p):E.Fine p.not:=⟨fun x y a b=>h.apart x y b a,h.no,h.yes⟩
theorem Env.fine_whole (E:Env) (b:Bool):E.Fine (E.whole b):=by
 cases b
 ·exact ⟨fun _ _ a _=>a,fun _ _ a=>a.elim,fun _ _ a=>a⟩
 ·exact ⟨fun _ _ _ a=>a,fun _ _ a=>a,fun _ _ a=>a.elim⟩
theorem Env.fine_and {E:Env} {l:List Pr} (h:∀ p ∈ l,E.Fine p):E.Fine (E.and l) :=
 ⟨fun x y a ⟨p,hp,b⟩=>(h p hp).apart x y (a.2 p hp) b,fun x y a=>a.1,fun x y ⟨p,hp,b⟩=>(h p hp).no x y b⟩
theorem Env.fine_atom {E:Env} (h:E.Dis) (op num more:Int) (hs:op=6→2≤num):E.Fine (E.atom op num more):=by
 unfold Env.atom
 split
 ·exact E.fine_whole _
 split
 ·exact E.fine_whole _
 split
 ·exact E.fine_whole _
 split
 ·exact ⟨fun x y a b=>b.2 a.2,fun x y a=>a.1,fun x y a=>a.1⟩
 split
 ·exact ⟨fun x y a ⟨n,h1,h2,b⟩=>E.known_apart h (fun c p q=>by rw [p] at q;cases q) (a.2 n h1 h2) b,fun x y a=>a.1,fun x y ⟨n,_,_,b⟩=>b.1⟩
 split
 ·exact ⟨fun x y a b=>E.known_apart h (fun c p q=>by rw [p] at q;cases q) a b,fun x y a=>a.1,fun x y a=>a.1⟩
 split
 ·exact ⟨fun x y a b=>b.2 a,fun x y a=>a.1,fun x y a=>a.1⟩
 ·exact E.fine_whole _
theorem formB_same {op num more:Int} {n:Nat} (h:formB op num more n=true):op=6→2≤num:=by
 intro e
 subst e
 unfold formB at h
 simp at h
 omega
theorem Env.fine {E:Env} (h:E.Dis) (t:Tm):Tm.form t=true→E.Fine (E.ev t):=by
 induction t using Tm.ind with
 | h op num more kids ih =>
  intro hf
  rw [Tm.form_mk,Bool.and_eq_true,List.all_eq_true] at hf
  have hk:∀ p ∈ kids.map E.ev,E.Fine p:=fun p hp=>by
   obtain ⟨t,ht,rfl⟩:=List.mem_map.1 hp
   exact ih t ht (hf.2 t ht)
  rw [Env.ev_mk]
  split
  ·exact E.fine_and hk
  split
  ·refine (E.fine_and fun p hp=>?_).not
   obtain ⟨q,hq,rfl⟩:=List.mem_map.1 hp
   exact (hk q hq).not
  split
  ·cases hh:(kids.map E.ev).head? with
   | none=>exact ⟨fun _ _ a _=>a,fun _ _ a=>a.elim,fun _ _ a=>a.elim⟩
   | some p=>exact (hk p (List.mem_of_head? hh)).not
  ·exact E.fine_atom h op num more (formB_same hf.1)
inductive Tm.Asks:Tm→Prop
 | here (num more kids):Tm.Asks (.mk 8 num more kids)
 | kid (op num more kids k):k ∈ kids→Tm.Asks k→Tm.Asks (.mk op num more kids)
structure Env.Less (E E':Env):Prop where
 rects:E'.rects=E.rects
 crop:E'.crop=E.crop
 crops:E'.crops=E.crops
 year:E'.year=E.year
 zones:E'.zones=E.zones
 day:E'.day=E.day
 hist:∀ r ∈ E.hist,∀ x y,inRc r.rects x y→∃ s ∈ E'.hist,s.year=r.year∧s.crop=r.crop∧inRc s.rects x y
theorem Env.Less.known {E E':Env} (h:E.Less E') {n:Int} {f:Int→Bool} {x y:Int} (a:E.known n f x y):E'.known n f x y:=by
 obtain ⟨h1,r,hr,h2,h3,h4⟩:=a
 obtain ⟨s,hs,e1,e2,h5⟩:=h.hist r hr x y h4
 exact ⟨by unfold Env.R at h1 ⊢;rw [h.rects];exact h1,s,hs,by rw [e1,h.year];exact h2,by rw [e2];exact h3,h5⟩
def Pr.Le (p q:Pr):Prop:=(∀ x y,p.yes x y→q.yes x y)∧∀ x y,p.no x y→q.no x y
theorem Env.Less.R {E E':Env} (h:E.Less E'):E'.R=E.R:=by unfold Env.R;rw [h.rects]
theorem Env.Less.whole {E E':Env} (h:E.Less E') (b:Bool):E'.whole b=E.whole b:=by unfold Env.whole;rw [h.R]
theorem Pr.Le.refl (p:Pr):p.Le p:=⟨fun _ _ h=>h,fun _ _ h=>h⟩
structure Env.Late (E E':Env) (n:Int):Prop where
 rects:E'.rects=E.rects
 crop:E'.crop=E.crop
 crops:E'.crops=E.crops
 year:E'.year=E.year
 zones:E'.zones=E.zones
 day:E'.day=E.day
 hist:∀ r:Rcd,r ∈ E'.hist↔(r ∈ E.hist∧E.year - n≤r.year)
theorem Env.Late.known {E E':Env} {b:Int} (h:E.Late E' b) {n:Int} (hn:n≤b) (f:Int→Bool):E'.known n f=E.known n f:=by
 funext x y
 unfold Env.known Env.recs Env.R
 rw [h.rects,h.year]
 apply propext
 constructor
 ·rintro ⟨h1,r,hr,h2,h3,h4⟩
  exact ⟨h1,r,((h.hist r).1 hr).1,h2,h3,h4⟩
 ·rintro ⟨h1,r,hr,h2,h3,h4⟩
  exact ⟨h1,r,(h.hist r).2 ⟨hr,by omega⟩,h2,h3,h4⟩
def Rcd.lt (a b:Rcd):Prop:=a.year<b.year∨(a.year=b.year∧a.crop<b.crop)
theorem Rcd.lt_trans {a b c:Rcd} (h:a.lt b) (k:b.lt c):a.lt c:=by unfold Rcd.lt at *;omega
structure Rcd.Ok (r:Rcd):Prop where
 year:0≤r.year∧r.year≤100
 crop:0≤r.crop∧r.crop<40
 some:r.rects ≠ []
 valid:Vld r.rects
def Rcd.Err (r:Rcd) (e:Int):Prop :=
 (¬ (0≤r.year∧r.year≤100)∧e=18)∨((0≤r.year∧r.year≤100)∧¬ (0≤r.crop∧r.crop<40)∧e=13) ∨
 ((0≤r.year∧r.year≤100)∧(0≤r.crop∧r.crop<40)∧(r.rects=[]∨¬ Vld r.rects)∧e=7)∨(r.Ok∧e=0)
theorem Rcd.Err.uniq {r:Rcd} {e f:Int} (h:r.Err e) (k:r.Err f):e=f:=by
 rcases h with ⟨h1,rfl⟩ | ⟨h1,h2,rfl⟩ | ⟨h1,h2,h3,rfl⟩ | ⟨h1,rfl⟩ <;> rcases k with ⟨k1,rfl⟩ | ⟨k1,k2,rfl⟩ | ⟨k1,k2,k3,rfl⟩ | ⟨k1,rfl⟩ <;> first
  | rfl
  | exact absurd k1 h1
  | exact absurd h1 k1
  | exact absurd k1.year h1
  | exact absurd k2 h2
  | exact absurd h2 k2
  | exact absurd k1.crop h2
  | exact absurd h1.year k1
  | exact absurd h1.crop k2
  | (exfalso;rcases h3 with h3 | h3;exact k1.some h3;exact h3 k1.valid)
  | (exfalso;rcases k3 with k3 | k3;exact h1.some k3;exact k3 h1.valid)
theorem Rcd.Err.ok {r:Rcd} (h:r.Err 0):r.Ok:=by
 rcases h with ⟨_,h⟩ | ⟨_,_,h⟩ | ⟨_,_,_,h⟩ | ⟨h,_⟩
 ·cases h
 ·cases h
 ·cases h
 ·exact h
def Meet (a b:List Rc):Prop:=∃ x y,inRc a x y∧inRc b x y
def HLap (l:List Rcd):Prop:=∃ i j,∃ (hj:j<l.length) (hi:i<j),l[i].year=l[j].year∧Meet l[i].rects l[j].rects
def HPre (l:List Rcd) (k:Nat):Prop:=∀ j (hj:j<l.length),j<k→l[j].Ok∧(∀ h:0<j,l[j - 1].lt l[j])
structure HistOk (l:List Rcd):Prop where
 len:l.length≤200
 pre:HPre l l.length
 lap:¬ HLap l
def HErr (l:List Rcd) (e:Int):Prop :=
 (200<l.length∧e=1) ∨
 (l.length≤200∧∃ k,∃ hk:k<l.length,HPre l k∧((e ≠ 0∧l[k].Err e)∨(l[k].Ok∧(∃ h:0<k,¬ l[k - 1].lt l[k])∧e=3))) ∨
 (l.length≤200∧HPre l l.length∧HLap l∧e=11)∨(HistOk l∧e=0)
theorem Rcd.Err.of_ok {r:Rcd} {e:Int} (h:r.Ok) (k:r.Err e):e=0:=k.uniq (.inr (.inr (.inr ⟨h,rfl⟩)))
theorem hpre_stop {l:List Rcd} {k k':Nat} {hk:k<l.length} (h:HPre l k') (hlt:k<k') {e:Int} (b:(e ≠ 0∧l[k].Err e)∨(l[k].Ok∧(∃ h:0<k,¬ l[k - 1].lt l[k])∧e=3)):False:=by
 obtain ⟨h1,h2⟩:=h k hk hlt
 rcases b with ⟨b1,b2⟩ | ⟨_,⟨b1,b2⟩,_⟩
 ·exact b1 (b2.of_ok h1)
 ·exact b2 (h2 b1)
theorem HErr.uniq {l:List Rcd} {e f:Int} (h:HErr l e) (k:HErr l f):e=f:=by
 rcases h with ⟨h1,rfl⟩ | ⟨h1,a,ha,h2,h3⟩ | ⟨h1,h2,h3,rfl⟩ | ⟨h1,rfl⟩ <;> rcases k with ⟨k1,rfl⟩ | ⟨k1,b,hb,k2,k3⟩ | ⟨k1,k2,k3,rfl⟩ | ⟨k1,rfl⟩
 ·rfl
 ·omega
 ·omega
 ·have:=k1.len;omega
 ·omega
 ·rcases Nat.lt_trichotomy a b with c | rfl | c
  ·exact (hpre_stop k2 c h3).elim
  ·rcases h3 with ⟨h3,h4⟩ | ⟨h3,h4,rfl⟩ <;> rcases k3 with ⟨k3,k4⟩ | ⟨k3,k4,rfl⟩
   ·exact h4.uniq k4
   ·exact (h3 (h4.of_ok k3)).elim
   ·exact (k3 (k4.of_ok h3)).elim
   ·rfl
  ·exact (hpre_stop h2 c k3).elim
 ·exact (hpre_stop k2 ha h3).elim
 ·exact (hpre_stop k1.pre ha h3).elim
 ·omega
 ·exact (hpre_stop h2 hb k3).elim
 ·rfl
 ·exact (k1.lap h3).elim
 ·have:=h1.len;omega
 ·exact (hpre_stop h1.pre hb k3).elim
 ·exact (h1.lap k3).elim
 ·rfl
theorem HErr.of_ok {l:List Rcd} {e:Int} (h:HistOk l) (k:HErr l e):e=0:=k.uniq (.inr (.inr (.inr ⟨h,rfl⟩)))
theorem HErr.ok {l:List Rcd} (h:HErr l 0):HistOk l:=by
 rcases h with ⟨_,h⟩ | ⟨_,k,hk,_,⟨h,_⟩ | ⟨_,_,h⟩⟩ | ⟨_,_,_,h⟩ | ⟨h,_⟩
 ·cases h
 ·exact absurd rfl h
 ·cases h
 ·cases h
 ·exact h
theorem hpre_lt {l:List Rcd} (h:HPre l l.length):∀ i j (hj:j<l.length) (hi:i<j),l[i].lt l[j]:=by
 intro i j hj hi
 induction j with
 | zero=>omega
 | succ j ih =>
  have h1:=(h (j+1) hj hj).2 (by omega)
  by_cases e:i=j
  ·subst e;exact h1
  ·exact Rcd.lt_trans (ih (by omega) (by omega)) h1
theorem HistOk.lt {l:List Rcd} (h:HistOk l):∀ i j (hj:j<l.length) (hi:i<j),l[i].lt l[j]:=hpre_lt h.pre
theorem HistOk.mem {l:List Rcd} (h:HistOk l) {r:Rcd} (hr:r ∈ l):r.Ok:=by
 obtain ⟨j,hj,rfl⟩:=List.getElem_of_mem hr
 exact (h.pre j hj hj).1
theorem HistOk.dis {l:List Rcd} (h:HistOk l):∀ r ∈ l,∀ s ∈ l,r.year=s.year→r.crop ≠ s.crop→∀ x y,inRc r.rects x y→inRc s.rects x y→False:=by
 intro r hr s hs hy hc x y h1 h2
 obtain ⟨i,hi,rfl⟩:=List.getElem_of_mem hr
 obtain ⟨j,hj,rfl⟩:=List.getElem_of_mem hs
 rcases Nat.lt_trichotomy i j with c | rfl | c
 ·exact h.lap ⟨i,j,hj,c,hy,x,y,h1,h2⟩
 ·exact hc rfl
 ·exact h.lap ⟨j,i,hi,c,hy.symm,x,y,h2,h1⟩
theorem HistOk.of {l:List Rcd} (h1:l.length≤200) (h2:∀ r ∈ l,r.Ok) (h3:l.Pairwise fun a b=>a.lt b∧(a.year=b.year→¬ Meet a.rects b.rects)):HistOk l:=by
 refine ⟨h1,fun j hj _=>⟨h2 _ (List.getElem_mem hj),fun h=>?_⟩,fun ⟨i,j,hj,hi,hy,hm⟩=>?_⟩
 ·exact (List.pairwise_iff_getElem.1 h3 (j - 1) j (by omega) hj (by omega)).1
 ·exact (List.pairwise_iff_getElem.1 h3 i j (by omega) hj hi).2 hy hm
theorem HistOk.pair {l:List Rcd} (h:HistOk l):l.Pairwise fun a b=>a.lt b∧(a.year=b.year→¬ Meet a.rects b.rects) :=
 List.pairwise_iff_getElem.2 fun i j hi hj hij=>⟨h.lt i j hj hij,fun e m=>h.lap ⟨i,j,hj,hij,e,m⟩⟩
theorem histOk_nil:HistOk []:=.of (by simp) (fun r hr=>by cases hr) .nil
structure Ftr.Ok (f:Ftr):Prop where
 number:1≤f.number∧f.number≤1073741824
 kind:0≤f.kind∧f.kind≤15
 days:0≤f.since∧f.since<f.till∧f.till≤36865
 some:f.rects ≠ []
 valid:Vld f.rects
def Ftr.Err (f:Ftr) (e:Int):Prop :=
 (¬ (1≤f.number∧f.number≤1073741824)∧e=2)∨((1≤f.number∧f.number≤1073741824)∧¬ (0≤f.kind∧f.kind≤15)∧e=14) ∨
 ((1≤f.number∧f.number≤1073741824)∧(0≤f.kind∧f.kind≤15)∧¬ (0≤f.since∧f.since<f.till∧f.till≤36865)∧e=9) ∨
 ((1≤f.number∧f.number≤1073741824)∧(0≤f.kind∧f.kind≤15)∧(0≤f.since∧f.since<f.till∧f.till≤36865)∧(f.rects=[]∨¬ Vld f.rects)∧e=7)∨(f.Ok∧e=0)
theorem Ftr.Err.of_ok {f:Ftr} {e:Int} (h:f.Ok) (k:f.Err e):e=0:=by
 rcases k with ⟨k,_⟩ | ⟨_,k,_⟩ | ⟨_,_,k,_⟩ | ⟨_,_,_,k,_⟩ | ⟨_,k⟩
 ·exact absurd h.number k
 ·exact absurd h.kind k
 ·exact absurd h.days k
 ·rcases k with k | k
  ·exact absurd k h.some
  ·exact absurd h.valid k
 ·exact k
theorem Ftr.Err.ok {f:Ftr} (h:f.Err 0):f.Ok:=by
 rcases h with ⟨_,h⟩ | ⟨_,_,h⟩ | ⟨_,_,_,h⟩ | ⟨_,_,_,_,h⟩ | ⟨h,_⟩
 ·cases h
 ·cases h
 ·cases h
 ·cases h
 ·exact h
theorem Ftr.Err.uniq {f:Ftr} {e g:Int} (h:f.Err e) (k:f.Err g):e=g:=by
 rcases h with ⟨h1,rfl⟩ | ⟨h1,h2,rfl⟩ | ⟨h1,h2,h3,rfl⟩ | ⟨h1,h2,h3,h4,rfl⟩ | ⟨h1,rfl⟩
 ·rcases k with ⟨k1,rfl⟩ | ⟨k1,_⟩ | ⟨k1,_⟩ | ⟨k1,_⟩ | ⟨k1,_⟩
  ·rfl
  ·exact absurd k1 h1
  ·exact absurd k1 h1
  ·exact absurd k1 h1
  ·exact absurd k1.number h1
 ·rcases k with ⟨k1,_⟩ | ⟨k1,k2,rfl⟩ | ⟨k1,k2,_⟩ | ⟨k1,k2,_⟩ | ⟨k1,_⟩
  ·exact absurd h1 k1
  ·rfl
  ·exact absurd k2 h2
  ·exact absurd k2 h2
  ·exact absurd k1.kind h2
 ·rcases k with ⟨k1,_⟩ | ⟨k1,k2,_⟩ | ⟨k1,k2,k3,rfl⟩ | ⟨k1,k2,k3,_⟩ | ⟨k1,_⟩
  ·exact absurd h1 k1
  ·exact absurd h2 k2
  ·rfl
  ·exact absurd k3 h3
  ·exact absurd k1.days h3
 ·rcases k with ⟨k1,_⟩ | ⟨k1,k2,_⟩ | ⟨k1,k2,k3,_⟩ | ⟨k1,k2,k3,k4,rfl⟩ | ⟨k1,_⟩
  ·exact absurd h1 k1
  ·exact absurd h2 k2
  ·exact absurd h3 k3
  ·rfl
  ·rcases h4 with h4 | h4
   ·exact absurd h4 k1.some
   ·exact absurd k1.valid h4
 ·exact (k.of_ok h1).symm
def FPre (l:List Ftr) (k:Nat):Prop:=∀ j (hj:j<l.length),j<k→l[j].Ok∧(∀ h:0<j,l[j - 1].number<l[j].number)
structure LayOk (l:List Ftr):Prop where
 len:l.length≤60
 pre:FPre l l.length
def FErr (l:List Ftr) (e:Int):Prop :=
 (60<l.length∧e=1)∨(l.length≤60∧∃ k,∃ hk:k<l.length,FPre l k∧((e ≠ 0∧l[k].Err e)∨(l[k].Ok∧(∃ h:0<k,¬ l[k - 1].number<l[k].number)∧e=3)))∨(LayOk l∧e=0)
theorem fpre_stop {l:List Ftr} {k k':Nat} {hk:k<l.length} (h:FPre l k') (hlt:k<k') {e:Int} (b:(e ≠ 0∧l[k].Err e)∨(l[k].Ok∧(∃ h:0<k,¬ l[k - 1].number<l[k].number)∧e=3)):False:=by
 obtain ⟨h1,h2⟩:=h k hk hlt
 rcases b with ⟨b1,b2⟩ | ⟨_,⟨b1,b2⟩,_⟩
 ·exact b1 (b2.of_ok h1)
 ·exact b2 (h2 b1)
theorem FErr.uniq {l:List Ftr} {e f:Int} (h:FErr l e) (k:FErr l f):e=f:=by
 rcases h with ⟨h1,rfl⟩ | ⟨h1,a,ha,h2,h3⟩ | ⟨h1,rfl⟩ <;> rcases k with ⟨k1,rfl⟩ | ⟨k1,b,hb,k2,k3⟩ | ⟨k1,rfl⟩
 ·rfl
 ·omega
 ·have:=k1.len;omega
 ·omega
 ·rcases Nat.lt_trichotomy a b with c | rfl | c
  ·exact (fpre_stop k2 c h3).elim
  ·rcases h3 with ⟨h3,h4⟩ | ⟨h3,h4,rfl⟩ <;> rcases k3 with ⟨k3,k4⟩ | ⟨k3,k4,rfl⟩
   ·exact h4.uniq k4
   ·exact (h3 (h4.of_ok k3)).elim
   ·exact (k3 (k4.of_ok h3)).elim
   ·rfl
  ·exact (fpre_stop h2 c k3).elim
 ·exact (fpre_stop k1.pre ha h3).elim
 ·have:=h1.len;omega
 ·exact (fpre_stop h1.pre hb k3).elim
 ·rfl
theorem FErr.of_ok {l:List Ftr} {e:Int} (h:LayOk l) (k:FErr l e):e=0:=k.uniq (.inr (.inr ⟨h,rfl⟩))
theorem FErr.ok {l:List Ftr} (h:FErr l 0):LayOk l:=by
 rcases h with ⟨_,h⟩ | ⟨_,k,hk,_,⟨h,_⟩ | ⟨_,_,h⟩⟩ | ⟨h,_⟩
 ·cases h
 ·exact absurd rfl h
 ·cases h
 ·exact h
theorem layOk_nil:LayOk []:=⟨by simp,fun j hj=>by simp at hj⟩
def nameB (s:List UInt8):Bool:=decide (1≤s.length) && decide (s.length≤12) && (match s with | []=>false | c :: _=>decide (97≤c.toNat∧c.toNat≤122)) && s.all fun c=>decide (97≤c.toNat∧c.toNat≤122) || decide (48≤c.toNat∧c.toNat≤57)
structure Crp.Ok (c:Crp):Prop where
 name:nameB c.name.data.toList=true
 family:0≤c.family∧c.family≤40
 marks:0≤c.marks∧c.marks≤31
theorem vld_can {S:Sq} {l:List Rc} (h:IsCan S l) (hS:∀ x y,S x y→0≤x∧x<10∧0≤y∧y<10):Vld l:=by
 obtain ⟨h1,h2⟩:=isCan_few h 10 hS
 exact ⟨by omega,fun q hq=>by have:=h2 q hq;unfold Prp;omega,h.self⟩
structure HPut (l:List Rcd) (year crop:Int) (A:Sq) (out:List Rcd):Prop where
 src:∀ s ∈ out,∃ r ∈ l,s.year=r.year∧s.crop=r.crop∧¬ (r.year=year∧r.crop=crop)∧(∀ x y,inRc s.rects x y↔inRc r.rects x y∧(r.year=year→¬ A x y))∧s.Ok
 pair:out.Pairwise fun a b=>a.lt b∧(a.year=b.year→¬ Meet a.rects b.rects)
 all:∀ r ∈ l,¬ (r.year=year∧r.crop=crop)→∀ x y,inRc r.rects x y→(r.year=year→¬ A x y)→∃ s ∈ out,s.year=r.year∧s.crop=r.crop∧inRc s.rects x y
 len:out.length≤l.length
def mineS (l:List Rcd) (year crop:Int) (A:Sq):Sq:=fun x y=>A x y∨∃ r ∈ l,(r.year=year∧r.crop=crop)∧inRc r.rects x y
theorem HPut.nil (year crop:Int) (A:Sq):HPut [] year crop A []:=⟨(fun s hs=>by cases hs),.nil,(fun r hr=>by cases hr),Nat.le_refl _⟩
theorem mineS_other {l:List Rcd} {year crop:Int} {A:Sq} {r:Rcd} (h:¬ (r.year=year∧r.crop=crop)) (x y:Int):mineS l year crop A x y↔mineS (l++[r]) year crop A x y:=by
 unfold mineS
 constructor
 ·rintro (h1 | ⟨s,hs,h1⟩)
  ·exact .inl h1
  ·exact .inr ⟨s,List.mem_append_left _ hs,h1⟩
 ·rintro (h1 | ⟨s,hs,h1⟩)
  ·exact .inl h1
  ·rcases List.mem_append.1 hs with hs | hs
   ·exact .inr ⟨s,hs,h1⟩
   ·rw [List.mem_singleton.1 hs] at h1;exact absurd h1.1 h
theorem HPut.drop {l out:List Rcd} {year crop:Int} {A:Sq} (h:HPut l year crop A out) {r:Rcd} (he:∀ x y,¬ (inRc r.rects x y∧(r.year=year→¬ A x y))):HPut (l++[r]) year crop A out :=
 ⟨fun s hs=>by obtain ⟨q,hq,k⟩:=h.src s hs;exact ⟨q,List.mem_append_left _ hq,k⟩,h.pair,fun q hq hn x y hx ha=>by
  rcases List.mem_append.1 hq with hq | hq
  ·exact h.all q hq hn x y hx ha
  ·rw [List.mem_singleton.1 hq] at hx ha;exact absurd ⟨hx,ha⟩ (he x y),by rw [List.length_append];have:=h.len;omega⟩
theorem HPut.keep {l out:List Rcd} {year crop:Int} {A:Sq} (h:HPut l year crop A out) {r s:Rcd} (hp:(l++[r]).Pairwise fun a b=>a.lt b∧(a.year=b.year→¬ Meet a.rects b.rects)) (hr:¬ (r.year=year∧r.crop=crop))
  (h1:s.year=r.year) (h2:s.crop=r.crop) (h3:∀ x y,inRc s.rects x y↔inRc r.rects x y∧(r.year=year→¬ A x y)) (h4:s.Ok):HPut (l++[r]) year crop A (out++[s]):=by
 refine ⟨fun t ht=>?_,?_,fun q hq hn x y hx ha=>?_,by rw [List.length_append,List.length_append];have:=h.len;simp;omega⟩
 ·rcases List.mem_append.1 ht with ht | ht
  ·obtain ⟨q,hq,k⟩:=h.src t ht
   exact ⟨q,List.mem_append_left _ hq,k⟩
  ·rw [List.mem_singleton.1 ht]
   exact ⟨r,List.mem_append_right _ List.mem_cons_self,h1,h2,hr,h3,h4⟩
 ·rw [List.pairwise_append]
  refine ⟨h.pair,List.pairwise_singleton _ _,fun a ha b hb=>?_⟩
  rw [List.mem_singleton.1 hb]
  obtain ⟨q,hq,k1,k2,-,k3,-⟩:=h.src a ha
  obtain ⟨p1,p2⟩:=(List.pairwise_append.1 hp).2.2 q hq r List.mem_cons_self
  refine ⟨?_,fun e ⟨x,y,m1,m2⟩=>p2 (by rw [← k1,← h1];exact e) ⟨x,y,((k3 x y).1 m1).1,((h3 x y).1 m2).1⟩⟩
  unfold Rcd.lt at *
  rw [k1,k2,h1,h2];exact p1
 ·rcases List.mem_append.1 hq with hq | hq
  ·obtain ⟨s',hs',k⟩:=h.all q hq hn x y hx ha
   exact ⟨s',List.mem_append_left _ hs',k⟩
  ·rw [List.mem_singleton.1 hq] at hx ha ⊢
   exact ⟨s,List.mem_append_right _ List.mem_cons_self,h1,h2,(h3 x y).2 ⟨hx,ha⟩⟩
structure HAdded (l:List Rcd) (year crop:Int) (A:Sq) (out:List Rcd):Prop where
 ok:HistOk out
 src:∀ s ∈ out,(∃ r ∈ l,s.crop=r.crop∧s.year=r.year)∨(s.crop=crop∧s.year=year)
 board:∀ s ∈ out,∀ x y,inRc s.rects x y→A x y∨∃ r ∈ l,inRc r.rects x y
 all:∀ r ∈ l,∀ x y,inRc r.rects x y→(r.year=year→¬ A x y∨r.crop=crop)→∃ s ∈ out,s.year=r.year∧s.crop=r.crop∧inRc s.rects x y
 len:out.length≤l.length+1
theorem HPut.ok {l out:List Rcd} {year crop:Int} {A:Sq} (h:HPut l year crop A out) (hl:l.length≤199):HistOk out :=
 .of (by have:=h.len;omega) (fun r hr=>by obtain ⟨_,_,_,_,_,_,k⟩:=h.src r hr;exact k) h.pair
theorem HPut.none {l out:List Rcd} {year crop:Int} {A:Sq} (h:HPut l year crop A out) (hl:l.length≤199) (hm:∀ x y,¬ mineS l year crop A x y):HAdded l year crop A out :=
 ⟨h.ok hl,fun s hs=>by obtain ⟨q,hq,k1,k2,_⟩:=h.src s hs;exact .inl ⟨q,hq,k2,k1⟩,fun s hs x y hx=>by obtain ⟨q,hq,_,_,_,k,_⟩:=h.src s hs;exact .inr ⟨q,hq,((k x y).1 hx).1⟩,
  fun r hr x y hx ha=>by
   by_cases hc:r.year=year∧r.crop=crop
   ·exact absurd (.inr ⟨r,hr,hc,hx⟩) (hm x y)
   ·exact h.all r hr hc x y hx fun e=>(ha e).elim id fun e'=>absurd ⟨e,e'⟩ hc,by have:=h.len;omega⟩
theorem LayOk.lt {l:List Ftr} (h:LayOk l):∀ i j (hj:j<l.length) (hi:i<j),l[i].number<l[j].number:=by
 intro i j hj hi
 induction j with
 | zero=>omega
 | succ j ih =>
  have h1:=(h.pre (j+1) hj hj).2 (by omega)
  by_cases e:i=j
  ·subst e;exact h1
  ·have:=ih (by omega) (by omega)
   simp only [Nat.add_sub_cancel] at h1
   omega
theorem LayOk.mem {l:List Ftr} (h:LayOk l) {r:Ftr} (hr:r ∈ l):r.Ok:=by
 obtain ⟨j,hj,rfl⟩:=List.getElem_of_mem hr
 exact (h.pre j hj hj).1
theorem LayOk.pair {l:List Ftr} (h:LayOk l):l.Pairwise fun a b=>a.number<b.number:=List.pairwise_iff_getElem.2 fun i j hi hj hij=>h.lt i j hj hij
theorem LayOk.of {l:List Ftr} (h1:l.length≤60) (h2:∀ r ∈ l,r.Ok) (h3:l.Pairwise fun a b=>a.number<b.number):LayOk l :=
 ⟨h1,fun j hj _=>⟨h2 _ (List.getElem_mem hj),fun h=>List.pairwise_iff_getElem.1 h3 (j - 1) j (by omega) hj (by omega)⟩⟩
def wTrue:ByteArray:=⟨#[116,114,117,101]⟩
def wCrop:ByteArray:=⟨#[99,114,111,112]⟩
def wFamily:ByteArray:=⟨#[102,97,109,105,108,121]⟩
def wMark:ByteArray:=⟨#[109,97,114,107]⟩
def wZone:ByteArray:=⟨#[122,111,110,101]⟩
def wSame:ByteArray:=⟨#[115,97,109,101]⟩
def wBefore:ByteArray:=⟨#[98,101,102,111,114,101]⟩
def wKnown:ByteArray:=⟨#[107,110,111,119,110]⟩
def wAnd:ByteArray:=⟨#[97,110,100]⟩
def wOr:ByteArray:=⟨#[111,114]⟩
def wNot:ByteArray:=⟨#[110,111,116]⟩
def wOpen:ByteArray:=⟨#[40]⟩
def wClose:ByteArray:=⟨#[41]⟩
def opWord (op:Int):ByteArray :=
 if op=1 then wTrue else if op=2 then wCrop else if op=3 then wFamily else if op=4 then wMark else if op=5 then wZone else if op=6 then wSame
 else if op=7 then wBefore else if op=8 then wKnown else if op=9 then wAnd else if op=10 then wOr else wNot
def markWord (m:Int):ByteArray:=if m=1 then ⟨#[112]⟩ else if m=2 then ⟨#[103]⟩ else if m=4 then ⟨#[99]⟩ else if m=8 then ⟨#[102]⟩ else ⟨#[108]⟩
def numWord (n:Int):ByteArray:=⟨(Lib.decDigits n.toNat).toArray⟩
def leafWords (op num more:Int):List ByteArray :=
 if op=1 then [] else if op=4 then [markWord num] else if op=7 then [numWord num,markWord more] else [numWord num]
mutual
def Tm.words:Tm→List ByteArray
 | .mk op num more kids =>
  opWord op :: (if op=11 then Tm.wordss kids else if op=9∨op=10 then wOpen :: (Tm.wordss kids++[wClose]) else leafWords op num more)
def Tm.wordss:List Tm→List ByteArray
 | []=>[]
 | t :: l=>Tm.words t++Tm.wordss l
end
theorem Tm.wordss_map (l:List Tm):Tm.wordss l=l.flatMap Tm.words:=by
 induction l with
 | nil=>rw [Tm.wordss];rfl
 | cons t l ih=>rw [Tm.wordss,ih];rfl
theorem Tm.words_mk (op num more:Int) (kids:List Tm):Tm.words (.mk op num more kids) =
  opWord op :: (if op=11 then kids.flatMap Tm.words else if op=9∨op=10 then wOpen :: (kids.flatMap Tm.words++[wClose]) else leafWords op num more):=by
 rw [Tm.words,Tm.wordss_map]
theorem Tm.words_cons (t:Tm):∃ l,t.words=opWord t.op :: l:=by
 cases t with
 | mk op num more kids=>rw [Tm.words_mk];exact ⟨_,rfl⟩
def joinW:List ByteArray→ByteArray
 | []=>⟨#[]⟩
 | [a]=>a
 | a :: b :: l=>a++(⟨#[32]⟩:ByteArray)++joinW (b :: l)
theorem joinW_cons (a:ByteArray) {l:List ByteArray} (h:l ≠ []):joinW (a :: l)=a++(⟨#[32]⟩:ByteArray)++joinW l:=by
 cases l with
 | nil=>exact absurd rfl h
 | cons b l=>rfl
theorem joinW_snoc {l:List ByteArray} (h:l ≠ []) (a:ByteArray):joinW (l++[a])=joinW l++(⟨#[32]⟩:ByteArray)++a:=by
 induction l with
 | nil=>exact absurd rfl h
 | cons b l ih =>
  by_cases e:l=[]
  ·subst e;rfl
  ·rw [List.cons_append,joinW_cons b (by simp),ih e,joinW_cons b e]
   simp only [ByteArray.append_assoc]
theorem joinW_size {l:List ByteArray} (h:∀ s ∈ l,s.size≤6):(joinW l).size≤7 * l.length:=by
 induction l with
 | nil=>exact Nat.zero_le _
 | cons a l ih =>
  have h1:=h a List.mem_cons_self
  have h2:=ih fun s hs=>h s (List.mem_cons_of_mem _ hs)
  by_cases e:l=[]
  ·subst e;show a.size≤_;simp;omega
  ·rw [joinW_cons a e,ByteArray.size_append,ByteArray.size_append,List.length_cons]
   have:(⟨#[32]⟩:ByteArray).size=1:=rfl
   omega
theorem Tm.words_len (t:Tm):t.words.length≤3 * t.size:=by
 induction t using Tm.ind with
 | h op num more kids ih =>
  have key:∀ l:List Tm,(∀ k ∈ l,k.words.length≤3 * k.size)→(l.flatMap Tm.words).length≤3 * Tm.sizes l:=by
   intro l
   induction l with
   | nil=>intro _;exact Nat.zero_le _
   | cons k l ihl =>
    intro h
    have h1:=h k List.mem_cons_self
    have h2:=ihl fun x hx=>h x (List.mem_cons_of_mem _ hx)
    rw [List.flatMap_cons,List.length_append,Tm.sizes]
    omega
  have hk:=key kids ih
  rw [Tm.words_mk,Tm.size,List.length_cons]
  split
  ·omega
  ·split
   ·rw [List.length_cons,List.length_append,List.length_singleton];omega
   ·unfold leafWords
    split
    ·simp;omega
    ·split
     ·simp;omega
     ·split <;> simp <;> omega
theorem dig_size:∀ i:Fin 100,(Lib.decDigits i.val).length≤2:=by decide +kernel
theorem numWord_size {n:Int} (h0:0≤n) (h1:n<100):(numWord n).size≤2:=by
 have:=dig_size ⟨n.toNat,by omega⟩
 show (Lib.decDigits n.toNat).toArray.size≤2
 simpa using this
theorem opWord_size (op:Int):(opWord op).size≤6:=by
 unfold opWord
 repeat' split
 all_goals decide
theorem markWord_size (m:Int):(markWord m).size≤6:=by
 unfold markWord
 repeat' split
 all_goals decide
theorem formB_num {op num more:Int} (h:formB op num more 0=true):0≤num∧num<100:=by
 unfold formB at h
 rw [Bool.and_eq_true,Bool.and_eq_true] at h
 have h1:=h.1.1
 repeat' split at h1
 all_goals first
  | (have:=of_decide_eq_true h1;omega)
  | (unfold oneMark at h1;have:=of_decide_eq_true h1;omega)
  | cases h1
theorem Tm.words_small (t:Tm):t.form=true→∀ s ∈ t.words,s.size≤6:=by
 induction t using Tm.ind with
 | h op num more kids ih =>
  intro hf s hs
  rw [Tm.form_mk,Bool.and_eq_true,List.all_eq_true] at hf
  have hk:∀ s ∈ kids.flatMap Tm.words,s.size≤6:=fun s hs=>by
   obtain ⟨k,hk,hs⟩:=List.mem_flatMap.1 hs
   exact ih k hk (hf.2 k hk) s hs
  rw [Tm.words_mk] at hs
  rcases List.mem_cons.1 hs with rfl | hs
  ·exact opWord_size op
  split at hs
  ·exact hk s hs
  ·split at hs
   ·rcases List.mem_cons.1 hs with rfl | hs
    ·decide
    ·rcases List.mem_append.1 hs with hs | hs
     ·exact hk s hs
     ·rw [List.mem_singleton.1 hs];decide
   ·rename_i h11 h9
    have hl:kids.length=0:=by
     have:=hf.1
     unfold formB at this
     rw [Bool.and_eq_true,Bool.and_eq_true] at this
     have h2:=this.2
     rw [if_neg (by omega)] at h2
     exact of_decide_eq_true h2
    have hn:=formB_num (hl ▸ hf.1)
    have hw:=numWord_size hn.1 hn.2
    have hm:=markWord_size num
    have hm2:=markWord_size more
    unfold leafWords at hs
    split at hs
    ·cases hs
    ·split at hs
     ·rw [List.mem_singleton.1 hs];exact hm
     ·split at hs
      ·rcases List.mem_cons.1 hs with rfl | hs
       ·omega
       ·rw [List.mem_singleton.1 hs];exact hm2
      ·rw [List.mem_singleton.1 hs];omega
end Go.Proofs.YtancajcelmhnkaaGreatDoor
