/- Regions,in plain Lean: rectangles in canonical order are determined by their squares. -/
import Derived.Test.YtancajcelmhnkaaGreatDoorRows
import Derived.WalkSpells
import Derived.WalkLawsBesides
import Derived.Lib.Hide
import Derived.BigQuiet
import Derived.Deep.RegionHeld3
import Derived.Deep.DeepCutAuto
import Derived.Deep.CutBlock
set_option maxHeartbeats 1000000
namespace Go.Proofs.YtancajcelmhnkaaGreatDoor
abbrev Sp:=Int × Int
abbrev Rc:=Int × Int × Int × Int
abbrev Bd:=Int × Int × List Sp
def inSp (l:List Sp) (x:Int):Prop:=∃ s ∈ l,s.1≤x∧x<s.2
def inRc (l:List Rc) (x y:Int):Prop:=∃ q ∈ l,q.1≤x∧x<q.2.2.1∧q.2.1≤y∧y<q.2.2.2
def inBd (l:List Bd) (x y:Int):Prop:=∃ b ∈ l,b.1≤y∧y<b.2.1∧inSp b.2.2 x
def Gap:List Sp→Prop
 | []=>True
 | s :: l=>s.1<s.2∧(∀ t ∈ l,s.2<t.1)∧Gap l
theorem inSp_nil (x:Int):¬ inSp [] x:=fun ⟨_,h,_⟩=>by cases h
theorem inSp_cons (s:Sp) (l:List Sp) (x:Int):inSp (s :: l) x↔(s.1≤x∧x<s.2)∨inSp l x:=by
 unfold inSp;simp
theorem inSp_append (l m:List Sp) (x:Int):inSp (l++m) x↔inSp l x∨inSp m x:=by
 unfold inSp;constructor
 ·rintro ⟨s,hs,h⟩
  rcases List.mem_append.1 hs with h1 | h1
  ·exact .inl ⟨s,h1,h⟩
  ·exact .inr ⟨s,h1,h⟩
 ·rintro (⟨s,hs,h⟩ | ⟨s,hs,h⟩)
  ·exact ⟨s,List.mem_append_left _ hs,h⟩
  ·exact ⟨s,List.mem_append_right _ hs,h⟩
theorem Gap.lt {l:List Sp} (h:Gap l):∀ s ∈ l,s.1<s.2:=by
 induction l with
 | nil=>intro s hs;cases hs
 | cons a l ih =>
  intro s hs
  rcases List.mem_cons.1 hs with rfl | h1
  ·exact h.1
  ·exact ih h.2.2 s h1
theorem Gap.first {s:Sp} {l:List Sp} (h:Gap (s :: l)) {x:Int} (hx:inSp (s :: l) x):s.1≤x:=by
 rcases (inSp_cons _ _ _).1 hx with h1 | ⟨t,ht,h1⟩
 ·exact h1.1
 ·have:=h.2.1 t ht;have:=h.1;omega
theorem Gap.behind {s:Sp} {l:List Sp} (h:Gap (s :: l)) {x:Int} (hx:inSp l x):s.2<x:=by
 obtain ⟨t,ht,h1⟩:=hx
 have:=h.2.1 t ht;omega
theorem gap_uniq {a b:List Sp} (ha:Gap a) (hb:Gap b) (h:∀ x,inSp a x↔inSp b x):a=b:=by
 induction a generalizing b with
 | nil =>
  cases b with
  | nil=>rfl
  | cons t b=>exact absurd ((h t.1).2 ((inSp_cons _ _ _).2 (.inl ⟨Int.le_refl _,hb.1⟩))) (inSp_nil _)
 | cons s a ih =>
  cases b with
  | nil=>exact absurd ((h s.1).1 ((inSp_cons _ _ _).2 (.inl ⟨Int.le_refl _,ha.1⟩))) (inSp_nil _)
  | cons t b =>
   have h1:s.1=t.1:=by
    have q1:=hb.first ((h s.1).1 ((inSp_cons _ _ _).2 (.inl ⟨Int.le_refl _,ha.1⟩)))
    have q2:=ha.first ((h t.1).2 ((inSp_cons _ _ _).2 (.inl ⟨Int.le_refl _,hb.1⟩)))
    omega
   have h2:s.2=t.2:=by
    rcases Int.lt_trichotomy s.2 t.2 with c | c | c
    ·have q:=(h s.2).2 ((inSp_cons _ _ _).2 (.inl ⟨by have:=ha.1;omega,c⟩))
     rcases (inSp_cons _ _ _).1 q with q | q
     ·omega
     ·have:=ha.behind q;omega
    ·exact c
    ·have q:=(h t.2).1 ((inSp_cons _ _ _).2 (.inl ⟨by have:=hb.1;omega,c⟩))
     rcases (inSp_cons _ _ _).1 q with q | q
     ·omega
     ·have:=hb.behind q;omega
   have e:s=t:=Prod.ext h1 h2
   subst e
   rw [ih ha.2.2 hb.2.2 fun x=>?_]
   constructor
   ·intro q
    have q1:=ha.behind q
    rcases (inSp_cons _ _ _).1 ((h x).1 ((inSp_cons _ _ _).2 (.inr q))) with q2 | q2
    ·omega
    ·exact q2
   ·intro q
    have q1:=hb.behind q
    rcases (inSp_cons _ _ _).1 ((h x).2 ((inSp_cons _ _ _).2 (.inr q))) with q2 | q2
    ·omega
    ·exact q2
theorem gap_snoc {l:List Sp} {t:Sp} (h:Gap l) (ht:t.1<t.2) (hl:∀ s ∈ l,s.2<t.1):Gap (l++[t]):=by
 induction l with
 | nil=>exact ⟨ht,fun _ h=>(by cases h),trivial⟩
 | cons s l ih =>
  refine ⟨h.1,fun u hu=>?_,ih h.2.2 fun u hu=>hl u (List.mem_cons_of_mem _ hu)⟩
  rcases List.mem_append.1 hu with h1 | h1
  ·exact h.2.1 u h1
  ·rw [List.mem_singleton.1 h1];exact hl s (List.mem_cons_self ..)
theorem gap_last {l:List Sp} {s:Sp} {r:Int} (h:Gap (l++[s])) (hr:s.2≤r):Gap (l++[(s.1,r)]):=by
 induction l with
 | nil=>exact ⟨by have:=h.1;show s.1<r;omega,fun _ h=>(by cases h),trivial⟩
 | cons u l ih =>
  refine ⟨h.1,fun v hv=>?_,ih h.2.2⟩
  rcases List.mem_append.1 hv with h1 | h1
  ·exact h.2.1 v (List.mem_append_left _ h1)
  ·rw [List.mem_singleton.1 h1];exact h.2.1 s (List.mem_append_right _ (List.mem_singleton.2 rfl))
theorem gap_lt_last {l:List Sp} {s:Sp} (h:Gap (l++[s])):∀ t ∈ l,t.2<s.1:=by
 induction l with
 | nil=>intro t ht;cases ht
 | cons u l ih =>
  intro t ht
  rcases List.mem_cons.1 ht with rfl | h1
  ·exact h.2.1 s (List.mem_append_right _ (List.mem_singleton.2 rfl))
  ·exact ih h.2.2 t h1
theorem gap_end {l:List Sp} {s:Sp} (h:Gap (l++[s])):s.1<s.2:=h.lt s (List.mem_append_right _ (List.mem_singleton.2 rfl))
def Can:List Bd→Prop
 | []=>True
 | b :: l=>b.1<b.2.1∧b.2.2 ≠ []∧Gap b.2.2∧(∀ c ∈ l,b.2.1≤c.1)∧(∀ c,l.head? = some c→b.2.1=c.1→b.2.2 ≠ c.2.2)∧Can l
theorem inBd_cons (b:Bd) (l:List Bd) (x y:Int):inBd (b :: l) x y↔(b.1≤y∧y<b.2.1∧inSp b.2.2 x)∨inBd l x y:=by
 unfold inBd;simp
theorem inBd_nil (x y:Int):¬ inBd [] x y:=fun ⟨_,h,_⟩=>by cases h
theorem gap_mem {l:List Sp} (h:Gap l) (hn:l ≠ []):∃ x,inSp l x:=by
 cases l with
 | nil=>exact absurd rfl hn
 | cons s l=>exact ⟨s.1,(inSp_cons _ _ _).2 (.inl ⟨Int.le_refl _,h.1⟩)⟩
theorem Can.first {b:Bd} {l:List Bd} (h:Can (b :: l)) {x y:Int} (hx:inBd (b :: l) x y):b.1≤y:=by
 rcases (inBd_cons _ _ _ _).1 hx with h1 | ⟨c,hc,h1⟩
 ·exact h1.1
 ·have:=h.2.2.2.1 c hc;have:=h.1;omega
theorem Can.behind {b:Bd} {l:List Bd} (h:Can (b :: l)) {x y:Int} (hx:inBd l x y):b.2.1≤y:=by
 obtain ⟨c,hc,h1⟩:=hx
 have:=h.2.2.2.1 c hc;omega
theorem Can.row {b:Bd} {l:List Bd} (h:Can (b :: l)) {x y:Int} (h1:b.1≤y) (h2:y<b.2.1):inBd (b :: l) x y↔inSp b.2.2 x:=by
 rw [inBd_cons]
 constructor
 ·rintro (q | q)
  ·exact q.2.2
  ·have:=h.behind q;omega
 ·exact fun q=>.inl ⟨h1,h2,q⟩
theorem can_high {b c:Bd} {l m:List Bd} (hb:Can (b :: l)) (hc:Can (c :: m)) (h1:b.1=c.1) (h2:b.2.2=c.2.2) (h:∀ x y,inBd (b :: l) x y↔inBd (c :: m) x y):¬ b.2.1<c.2.1:=by
 intro hlt
 have hrow:∀ x,inBd l x b.2.1↔inSp c.2.2 x:=fun x=>by
  rw [← hc.row (x:=x) (y:=b.2.1) (by have:=hb.1;omega) hlt,← h,inBd_cons]
  constructor
  ·exact .inr
  ·rintro (q | q)
   ·omega
   ·exact q
 obtain ⟨x,hx⟩:=gap_mem hc.2.2.1 hc.2.1
 have hx1:=(hrow x).2 hx
 cases l with
 | nil=>exact inBd_nil _ _ hx1
 | cons d l =>
  have hd:=hb.2.2.2.2.2
  have h3:=hd.first hx1
  have h4:=hb.2.2.2.1 d (List.mem_cons_self ..)
  have h5:b.2.1=d.1:=by omega
  refine hb.2.2.2.2.1 d rfl h5 ?_
  rw [h2]
  refine (gap_uniq hd.2.2.1 hc.2.2.1 fun x=>?_).symm
  rw [← hrow x,hd.row (by omega) (by have:=hd.1;omega)]
theorem can_uniq {a b:List Bd} (ha:Can a) (hb:Can b) (h:∀ x y,inBd a x y↔inBd b x y):a=b:=by
 induction a generalizing b with
 | nil =>
  cases b with
  | nil=>rfl
  | cons c b =>
   obtain ⟨x,hx⟩:=gap_mem hb.2.2.1 hb.2.1
   exact absurd ((h x c.1).2 ((inBd_cons _ _ _ _).2 (.inl ⟨Int.le_refl _,hb.1,hx⟩))) (inBd_nil _ _)
 | cons c a ih =>
  cases b with
  | nil =>
   obtain ⟨x,hx⟩:=gap_mem ha.2.2.1 ha.2.1
   exact absurd ((h x c.1).1 ((inBd_cons _ _ _ _).2 (.inl ⟨Int.le_refl _,ha.1,hx⟩))) (inBd_nil _ _)
  | cons d b =>
   have h1:c.1=d.1:=by
    obtain ⟨x,hx⟩:=gap_mem ha.2.2.1 ha.2.1
    obtain ⟨y,hy⟩:=gap_mem hb.2.2.1 hb.2.1
    have q1:=hb.first ((h x c.1).1 ((inBd_cons _ _ _ _).2 (.inl ⟨Int.le_refl _,ha.1,hx⟩)))
    have q2:=ha.first ((h y d.1).2 ((inBd_cons _ _ _ _).2 (.inl ⟨Int.le_refl _,hb.1,hy⟩)))
    omega
   have h2:c.2.2=d.2.2:=gap_uniq ha.2.2.1 hb.2.2.1 fun x=>by
    rw [← ha.row (x:=x) (Int.le_refl _) ha.1,← hb.row (x:=x) (y:=c.1) (by omega) (by have:=hb.1;omega),h]
   have h3:c.2.1=d.2.1:=by
    have q1:=can_high ha hb h1 h2 h
    have q2:=can_high hb ha h1.symm h2.symm fun x y=>(h x y).symm
    omega
   have e:c=d:=Prod.ext h1 (Prod.ext h3 h2)
   subst e
   rw [ih ha.2.2.2.2.2 hb.2.2.2.2.2 fun x y=>?_]
   constructor
   ·intro q
    have q1:=ha.behind q
    rcases (inBd_cons _ _ _ _).1 ((h x y).1 ((inBd_cons _ _ _ _).2 (.inr q))) with q2 | q2
    ·omega
    ·exact q2
   ·intro q
    have q1:=hb.behind q
    rcases (inBd_cons _ _ _ _).1 ((h x y).2 ((inBd_cons _ _ _ _).2 (.inr q))) with q2 | q2
    ·omega
    ·exact q2
def flat (l:List Bd):List Rc:=l.flatMap fun b=>b.2.2.map fun s=>(s.1,b.1,s.2,b.2.1)
theorem inRc_flat (l:List Bd) (x y:Int):inRc (flat l) x y↔inBd l x y:=by
 unfold inRc flat inBd inSp
 constructor
 ·rintro ⟨q,hq,h⟩
  obtain ⟨b,hb,h1⟩:=List.mem_flatMap.1 hq
  obtain ⟨s,hs,rfl⟩:=List.mem_map.1 h1
  exact ⟨b,hb,h.2.2.1,h.2.2.2,s,hs,h.1,h.2.1⟩
 ·rintro ⟨b,hb,h1,h2,s,hs,h3,h4⟩
  exact ⟨_,List.mem_flatMap.2 ⟨b,hb,List.mem_map.2 ⟨s,hs,rfl⟩⟩,h3,h4,h1,h2⟩
def IsCan (S:Int→Int→Prop) (r:List Rc):Prop:=∃ B,Can B∧r=flat B∧∀ x y,inBd B x y↔S x y
theorem IsCan.uniq {S:Int→Int→Prop} {r r':List Rc} (h:IsCan S r) (h':IsCan S r'):r=r':=by
 obtain ⟨B,h1,rfl,h2⟩:=h
 obtain ⟨C,h3,rfl,h4⟩:=h'
 rw [can_uniq h1 h3 fun x y=>(h2 x y).trans (h4 x y).symm]
theorem IsCan.iff {S:Int→Int→Prop} {r:List Rc} (h:IsCan S r) (x y:Int):inRc r x y↔S x y:=by
 obtain ⟨B,_,rfl,h2⟩:=h;rw [inRc_flat];exact h2 x y
theorem IsCan.congr {S T:Int→Int→Prop} {r:List Rc} (h:IsCan S r) (e:∀ x y,S x y↔T x y):IsCan T r:=by
 obtain ⟨B,h1,rfl,h2⟩:=h;exact ⟨B,h1,rfl,fun x y=>(h2 x y).trans (e x y)⟩
theorem IsCan.self {S:Int→Int→Prop} {r:List Rc} (h:IsCan S r):IsCan (inRc r) r:=h.congr fun x y=>(h.iff x y).symm
def Con:List Bd→Prop
 | []=>True
 | b :: l=>b.1<b.2.1∧Gap b.2.2∧(∀ c,l.head? = some c→b.2.1=c.1∧b.2.2 ≠ c.2.2)∧Con l
def full (b:Bd):Bool:=!b.2.2.isEmpty
theorem flat_full (l:List Bd):flat (l.filter full)=flat l:=by
 induction l with
 | nil=>rfl
 | cons b l ih =>
  rw [List.filter_cons]
  unfold flat at ih ⊢
  split
  ·rw [List.flatMap_cons,List.flatMap_cons,ih]
  ·next h =>
   have:b.2.2=[]:=by simpa [full] using h
   rw [List.flatMap_cons,ih,this];rfl
theorem inBd_full (l:List Bd) (x y:Int):inBd (l.filter full) x y↔inBd l x y:=by
 rw [← inRc_flat,flat_full,inRc_flat]
theorem Con.above {b:Bd} {l:List Bd} (h:Con (b :: l)):∀ c ∈ l,b.2.1≤c.1:=by
 induction l generalizing b with
 | nil=>intro c hc;cases hc
 | cons d l ih =>
  intro c hc
  have h1:=(h.2.2.1 d rfl).1
  rcases List.mem_cons.1 hc with rfl | h2
  ·omega
  ·have:=ih h.2.2.2 c h2;have:=h.2.2.2.1;omega
theorem Con.can {l:List Bd} (h:Con l):Can (l.filter full):=by
 induction l with
 | nil=>trivial
 | cons b l ih =>
  have hi:=ih h.2.2.2
  rw [List.filter_cons]
  split
  ·next hb =>
   refine ⟨h.1,by simpa [full] using hb,h.2.1,fun c hc=>h.above c (List.mem_filter.1 hc).1,fun c hc e=>?_,hi⟩
   cases l with
   | nil=>cases hc
   | cons d l =>
    rw [List.filter_cons] at hc
    split at hc
    ·simp at hc;subst hc;exact (h.2.2.1 d rfl).2
    ·have hm:c ∈ l:=(List.mem_filter.1 (List.mem_of_head? hc)).1
     have h1:=h.2.2.2.above c hm
     have h2:=h.2.2.2.1
     have h3:=(h.2.2.1 d rfl).1
     omega
  ·exact hi
theorem con_snoc {l:List Bd} {b:Bd} (h:Con l) (h1:b.1<b.2.1) (h2:Gap b.2.2) (h3:∀ c,l.getLast? = some c→c.2.1=b.1∧c.2.2 ≠ b.2.2):Con (l++[b]):=by
 induction l with
 | nil=>exact ⟨h1,h2,fun _ h=>(by simp at h),trivial⟩
 | cons a l ih =>
  refine ⟨h.1,h.2.1,fun c hc=>?_,ih h.2.2.2 fun c hc=>h3 c ?_⟩
  ·cases l with
   | nil=>simp at hc;subst hc;exact h3 a rfl
   | cons d l=>exact h.2.2.1 c (by simpa using hc)
  ·cases l with
   | nil=>cases hc
   | cons d l=>rw [List.getLast?_cons_cons];exact hc
theorem con_last {l:List Bd} {b:Bd} {t:Int} (h:Con (l++[b])) (ht:b.2.1≤t):Con (l++[(b.1,t,b.2.2)]):=by
 induction l with
 | nil=>exact ⟨by have:=h.1;show b.1<t;omega,h.2.1,fun _ h=>(by simp at h),trivial⟩
 | cons a l ih =>
  refine ⟨h.1,h.2.1,fun c hc=>?_,ih h.2.2.2⟩
  cases l with
  | nil=>simp at hc;subst hc;exact h.2.2.1 b rfl
  | cons d l=>exact h.2.2.1 c (by simpa using hc)
theorem isCan_of_con {l:List Bd} (h:Con l) {S:Int→Int→Prop} (hS:∀ x y,inBd l x y↔S x y):IsCan S (flat l) :=
 ⟨_,h.can,(flat_full l).symm,fun x y=>(inBd_full l x y).trans (hS x y)⟩
set_option linter.unusedVariables false
def RowI (p out:List Sp):Prop:=Gap out∧(∀ x,inSp out x↔inSp p x)∧∀ t ∈ out,∃ q ∈ p,t.1≤q.1
theorem RowI.nil:RowI [] []:=⟨trivial,fun _=>Iff.rfl,fun _ h=>(by cases h)⟩
theorem inSp_one (s:Sp) (x:Int):inSp [s] x↔s.1≤x∧x<s.2:=by unfold inSp;simp
theorem RowI.start {p:List Sp} {s:Sp} (h:RowI p []) (hs:s.1<s.2):RowI (p++[s]) [s]:=by
 refine ⟨⟨hs,fun _ h=>(by cases h),trivial⟩,fun x=>?_,fun t ht=>⟨s,by simp,by rw [List.mem_singleton.1 ht];exact Int.le_refl _⟩⟩
 rw [inSp_append,← h.2.1 x]
 constructor
 ·exact .inr
 ·rintro (q | q)
  ·exact absurd q (inSp_nil _)
  ·exact q
theorem RowI.meet {p o:List Sp} {u s:Sp} (h:RowI p (o++[u])) (hs:s.1<s.2) (hle:∀ q ∈ p,q.1≤s.1) (hm:s.1≤u.2):RowI (p++[s]) (o++[(u.1,max u.2 s.2)]):=by
 have hu:u.1≤s.1:=by obtain ⟨q,hq,h1⟩:=h.2.2 u (by simp);have:=hle q hq;omega
 refine ⟨gap_last h.1 (by omega),fun x=>?_,fun t ht=>?_⟩
 ·have h1:=h.2.1 x
  rw [inSp_append,inSp_one] at h1
  rw [inSp_append,inSp_append,← h1,inSp_one,inSp_one]
  constructor
  ·rintro (q | q)
   ·exact .inl (.inl q)
   ·by_cases c:x<u.2
    ·exact .inl (.inr ⟨q.1,c⟩)
    ·exact .inr ⟨by omega,by have:=q.2;simp only at this;omega⟩
  ·rintro ((q | q) | q)
   ·exact .inl q
   ·exact .inr ⟨q.1,by simp only;omega⟩
   ·exact .inr ⟨by simp only;omega,by simp only;omega⟩
 ·rcases List.mem_append.1 ht with h1 | h1
  ·obtain ⟨q,hq,h2⟩:=h.2.2 t (List.mem_append_left _ h1);exact ⟨q,List.mem_append_left _ hq,h2⟩
  ·rw [List.mem_singleton.1 h1];exact ⟨s,by simp,hu⟩
theorem RowI.apart {p o:List Sp} {u s:Sp} (h:RowI p (o++[u])) (hs:s.1<s.2) (hm:u.2<s.1):RowI (p++[s]) (o++[u]++[s]):=by
 refine ⟨gap_snoc h.1 hs fun t ht=>?_,fun x=>?_,fun t ht=>?_⟩
 ·rcases List.mem_append.1 ht with h1 | h1
  ·have:=gap_lt_last h.1 t h1;have:=gap_end h.1;omega
  ·rw [List.mem_singleton.1 h1];exact hm
 ·rw [inSp_append,inSp_append p,h.2.1 x]
 ·rcases List.mem_append.1 ht with h1 | h1
  ·obtain ⟨q,hq,h2⟩:=h.2.2 t h1;exact ⟨q,List.mem_append_left _ hq,h2⟩
  ·rw [List.mem_singleton.1 h1];exact ⟨s,by simp,Int.le_refl _⟩
def Asc (c:List Int):Prop:=∀ i j,i<j→j<c.length→c.getD i 0<c.getD j 0
theorem asc_le {c:List Int} (h:Asc c) {i j:Nat} (hij:i≤j) (hj:j<c.length):c.getD i 0≤c.getD j 0:=by
 rcases Nat.lt_or_ge i j with h1 | h1
 ·have:=h i j h1 hj;omega
 ·have:i=j:=by omega
  rw [this];exact Int.le_refl _
theorem mem_at {c:List Int} {a:Int} (h:a ∈ c):∃ i,i<c.length∧c.getD i 0=a:=by
 obtain ⟨i,hi,e⟩:=List.mem_iff_getElem.1 h
 exact ⟨i,hi,by rw [List.getD_eq_getElem?_getD,List.getElem?_eq_getElem hi];exact e⟩
theorem cut_lo {c:List Int} (h:Asc c) {a y:Int} (ha:a ∈ c) {k:Nat} (hk:k+1<c.length) (h1:c.getD k 0≤y) (h2:y<c.getD (k+1) 0):a≤y↔a≤c.getD k 0:=by
 obtain ⟨i,hi,rfl⟩:=mem_at ha
 constructor
 ·intro h3
  by_cases c1:i≤k
  ·exact asc_le h c1 (by omega)
  ·have:=asc_le h (show k+1≤i by omega) hi;omega
 ·intro h3;omega
theorem cut_hi {c:List Int} (h:Asc c) {b y:Int} (hb:b ∈ c) {k:Nat} (hk:k+1<c.length) (h1:c.getD k 0≤y) (h2:y<c.getD (k+1) 0):y<b↔c.getD k 0<b:=by
 obtain ⟨i,hi,rfl⟩:=mem_at hb
 constructor
 ·intro h3;omega
 ·intro h3
  by_cases c1:i≤k
  ·have:=asc_le h c1 (by omega);omega
  ·have:=asc_le h (show k+1≤i by omega) hi;omega
theorem cut_at {c:List Int} {y:Int} (n:Nat) (h0:c.getD 0 0≤y) (hn:y<c.getD n 0):∃ k,k<n∧c.getD k 0≤y∧y<c.getD (k+1) 0:=by
 induction n with
 | zero=>omega
 | succ n ih =>
  by_cases h:y<c.getD n 0
  ·obtain ⟨k,hk,q⟩:=ih h;exact ⟨k,by omega,q⟩
  ·exact ⟨n,by omega,by omega,hn⟩
theorem cut_find {c:List Int} (h:Asc c) {a b y:Int} (ha:a ∈ c) (hb:b ∈ c) (h1:a≤y) (h2:y<b):∃ k,k+1<c.length∧c.getD k 0≤y∧y<c.getD (k+1) 0:=by
 obtain ⟨i,hi,rfl⟩:=mem_at ha
 obtain ⟨j,hj,rfl⟩:=mem_at hb
 obtain ⟨k,hk,q⟩:=cut_at j (by have:=asc_le h (Nat.zero_le i) hi;omega) h2
 exact ⟨k,by omega,q⟩
def BuI (c:List Int) (R:Int→Int→Prop) (i:Nat) (B:List Bd):Prop :=
 Con B∧(∀ x y,inBd B x y↔∃ k,k+1<i∧c.getD k 0≤y∧y<c.getD (k+1) 0∧R (c.getD k 0) x)∧∀ b,B.getLast? = some b→b.2.1=c.getD (i - 1) 0
theorem BuI.start (c:List Int) (R:Int→Int→Prop):BuI c R 1 [] :=
 ⟨trivial,fun x y=>⟨fun h=>absurd h (inBd_nil _ _),fun ⟨k,hk,_⟩=>absurd hk (by omega)⟩,fun _ h=>(by cases h)⟩
theorem inBd_append (l m:List Bd) (x y:Int):inBd (l++m) x y↔inBd l x y∨inBd m x y:=by
 induction l with
 | nil=>simp only [List.nil_append];exact ⟨.inr,fun h=>h.elim (fun h=>absurd h (inBd_nil _ _)) id⟩
 | cons b l ih=>rw [List.cons_append,inBd_cons,inBd_cons,ih,or_assoc]
theorem inBd_one (b:Bd) (x y:Int):inBd [b] x y↔b.1≤y∧y<b.2.1∧inSp b.2.2 x:=by
 rw [inBd_cons];exact ⟨fun h=>h.elim id (fun h=>absurd h (inBd_nil _ _)),.inl⟩
theorem bu_more {c:List Int} {R:Int→Int→Prop} {i:Nat} (hi:1≤i) (x y:Int) (Q:Prop)
  (hQ:Q↔∃ k,k+1<i∧c.getD k 0≤y∧y<c.getD (k+1) 0∧R (c.getD k 0) x) :
  (Q∨(c.getD (i - 1) 0≤y∧y<c.getD i 0∧R (c.getD (i - 1) 0) x))↔∃ k,k+1<i+1∧c.getD k 0≤y∧y<c.getD (k+1) 0∧R (c.getD k 0) x:=by
 rw [hQ]
 constructor
 ·rintro (⟨k,hk,h⟩ | h)
  ·exact ⟨k,by omega,h⟩
  ·exact ⟨i - 1,by omega,by rw [show i - 1+1=i by omega];exact h⟩
 ·rintro ⟨k,hk,h⟩
  by_cases e:k+1<i
  ·exact .inl ⟨k,e,h⟩
  ·have e2:k=i - 1:=by omega
   subst e2
   rw [show i - 1+1=i by omega] at h
   exact .inr h
theorem BuI.add {c:List Int} {R:Int→Int→Prop} {i:Nat} {B:List Bd} {s:List Sp} (h:BuI c R i B) (hc:Asc c) (h1:1≤i) (hi:i<c.length) (hs:Gap s) (hR:∀ x,inSp s x↔R (c.getD (i - 1) 0) x)
  (hd:∀ b,B.getLast? = some b→b.2.2 ≠ s):BuI c R (i+1) (B++[(c.getD (i - 1) 0,c.getD i 0,s)]):=by
 refine ⟨con_snoc h.1 (hc _ _ (by omega) hi) hs fun b hb=>⟨h.2.2 b hb,hd b hb⟩,fun x y=>?_,fun b hb=>?_⟩
 ·rw [inBd_append,inBd_one,← bu_more h1 x y _ (h.2.1 x y),hR]
 ·simp at hb;rw [← hb];rfl
theorem BuI.join {c:List Int} {R:Int→Int→Prop} {i:Nat} {B:List Bd} {b:Bd} (h:BuI c R i (B++[b])) (hc:Asc c) (h1:1≤i) (hi:i<c.length) (hR:∀ x,inSp b.2.2 x↔R (c.getD (i - 1) 0) x) :
  BuI c R (i+1) (B++[(b.1,c.getD i 0,b.2.2)]):=by
 have hl:=h.2.2 b (by simp)
 have hlt:=hc (i - 1) i (by omega) hi
 refine ⟨con_last h.1 (by omega),fun x y=>?_,fun d hd=>by simp at hd;rw [← hd];rfl⟩
 have hb:b.1<b.2.1:=by
  have:=h.1
  clear hl hlt hR h
  induction B with
  | nil=>exact this.1
  | cons a B ih=>exact ih this.2.2.2
 rw [inBd_append,inBd_one,← bu_more h1 x y _ (h.2.1 x y),inBd_append,inBd_one,← hR]
 constructor
 ·rintro (q | ⟨q1,q2,q3⟩)
  ·exact .inl (.inl q)
  ·by_cases e:y<b.2.1
   ·exact .inl (.inr ⟨q1,e,q3⟩)
   ·exact .inr ⟨by omega,q2,q3⟩
 ·rintro ((q | ⟨q1,q2,q3⟩) | ⟨q1,q2,q3⟩)
  ·exact .inl q
  ·exact .inr ⟨q1,by simp only;omega,q3⟩
  ·exact .inr ⟨by simp only;omega,q2,q3⟩
theorem BuI.done {c:List Int} {R S:Int→Int→Prop} {B:List Bd} (h:BuI c R c.length B) (hin:∀ k,k+1<c.length→∀ x y,c.getD k 0≤y→y<c.getD (k+1) 0→(S x y↔R (c.getD k 0) x))
  (hout:∀ x y,S x y→∃ k,k+1<c.length∧c.getD k 0≤y∧y<c.getD (k+1) 0):IsCan S (flat B) :=
 isCan_of_con h.1 fun x y=>by
  rw [h.2.1 x y]
  constructor
  ·rintro ⟨k,hk,h1,h2,h3⟩;exact (hin k hk x y h1 h2).2 h3
  ·intro hs
   obtain ⟨k,hk,h1,h2⟩:=hout x y hs
   exact ⟨k,hk,h1,h2,(hin k hk x y h1 h2).1 hs⟩
def inRow (l:List Rc) (y x:Int):Prop:=∃ q ∈ l,q.2.1≤y∧y<q.2.2.2∧q.1≤x∧x<q.2.2.1
theorem inRow_iff (l:List Rc) (x y:Int):inRow l y x↔inRc l x y :=
 ⟨fun ⟨q,hq,h1,h2,h3,h4⟩=>⟨q,hq,h3,h4,h1,h2⟩,fun ⟨q,hq,h3,h4,h1,h2⟩=>⟨q,hq,h1,h2,h3,h4⟩⟩
def Cutting (c:List Int) (l:List Rc):Prop:=∀ q ∈ l,q.2.1 ∈ c∧q.2.2.2 ∈ c
theorem row_const {c:List Int} {l:List Rc} (hc:Asc c) (hl:Cutting c l) {k:Nat} (hk:k+1<c.length) {x y:Int} (h1:c.getD k 0≤y) (h2:y<c.getD (k+1) 0):inRc l x y↔inRow l (c.getD k 0) x:=by
 rw [← inRow_iff]
 constructor
 ·rintro ⟨q,hq,a,b,r⟩
  exact ⟨q,hq,(cut_lo hc (hl q hq).1 hk h1 h2).1 a,(cut_hi hc (hl q hq).2 hk h1 h2).1 b,r⟩
 ·rintro ⟨q,hq,a,b,r⟩
  exact ⟨q,hq,(cut_lo hc (hl q hq).1 hk h1 h2).2 a,(cut_hi hc (hl q hq).2 hk h1 h2).2 b,r⟩
theorem row_out {c:List Int} {l:List Rc} (hc:Asc c) (hl:Cutting c l) {x y:Int} (h:inRc l x y):∃ k,k+1<c.length∧c.getD k 0≤y∧y<c.getD (k+1) 0:=by
 obtain ⟨q,hq,_,_,a,b⟩:=h
 exact cut_find hc (hl q hq).1 (hl q hq).2 a b
def SpI (c:List Int) (K:Int→Prop) (i:Nat) (s:List Sp):Prop :=
 Gap s∧(∀ x,inSp s x↔∃ k,k+1<i∧c.getD k 0≤x∧x<c.getD (k+1) 0∧K (c.getD k 0))∧∀ t,s.getLast? = some t→t.2≤c.getD (i - 1) 0
theorem SpI.start (c:List Int) (K:Int→Prop) {i:Nat} (hi:i≤1):SpI c K i [] :=
 ⟨trivial,fun x=>⟨fun h=>absurd h (inSp_nil _),fun ⟨k,hk,_⟩=>absurd hk (by omega)⟩,fun _ h=>(by cases h)⟩
theorem sp_more {c:List Int} {K:Int→Prop} {i:Nat} (hi:1≤i) (x:Int) (Q:Prop) (hQ:Q↔∃ k,k+1<i∧c.getD k 0≤x∧x<c.getD (k+1) 0∧K (c.getD k 0)) :
  (Q∨(c.getD (i - 1) 0≤x∧x<c.getD i 0∧K (c.getD (i - 1) 0)))↔∃ k,k+1<i+1∧c.getD k 0≤x∧x<c.getD (k+1) 0∧K (c.getD k 0):=by
 rw [hQ]
 constructor
 ·rintro (⟨k,hk,h⟩ | h)
  ·exact ⟨k,by omega,h⟩
  ·exact ⟨i - 1,by omega,by rw [show i - 1+1=i by omega];exact h⟩
 ·rintro ⟨k,hk,h⟩
  by_cases e:k+1<i
  ·exact .inl ⟨k,e,h⟩
  ·have e2:k=i - 1:=by omega
   subst e2
   rw [show i - 1+1=i by omega] at h
   exact .inr h
theorem gap_all_lt {o:List Sp} {t:Sp} {m:Int} (h:Gap (o++[t])) (ht:t.2<m):∀ s ∈ o++[t],s.2<m:=fun s hs=>by
 rcases List.mem_append.1 hs with h1 | h1
 ·have:=gap_lt_last h s h1;have:=gap_end h;omega
 ·rw [List.mem_singleton.1 h1];exact ht
theorem SpI.skip {c:List Int} {K:Int→Prop} {i:Nat} {s:List Sp} (h:SpI c K i s) (hc:Asc c) (h1:1≤i) (hi:i<c.length) (hK:¬ K (c.getD (i - 1) 0)):SpI c K (i+1) s:=by
 refine ⟨h.1,fun x=>?_,fun t ht=>?_⟩
 ·rw [← sp_more h1 x _ (h.2.1 x)]
  exact ⟨.inl,fun q=>q.elim id fun q=>absurd q.2.2 hK⟩
 ·have:=h.2.2 t ht;have:=hc (i - 1) i (by omega) hi;show t.2≤c.getD i 0;omega
theorem SpI.add {c:List Int} {K:Int→Prop} {i:Nat} {s:List Sp} (h:SpI c K i s) (hc:Asc c) (h1:1≤i) (hi:i<c.length) (hK:K (c.getD (i - 1) 0)) (hn:∀ t,s.getLast? = some t→t.2 ≠ c.getD (i - 1) 0):SpI c K (i+1) (s++[(c.getD (i - 1) 0,c.getD i 0)]):=by
 refine ⟨gap_snoc h.1 (hc _ _ (by omega) hi) fun t ht=>?_,fun x=>?_,fun t ht=>by simp at ht;rw [← ht];exact Int.le_refl _⟩
 ·rcases List.eq_nil_or_concat s with e | ⟨o,u,e⟩
  ·rw [e] at ht;cases ht
  ·rw [List.concat_eq_append] at e
   subst e
   have q1:=h.2.2 u (by simp);have q2:=hn u (by simp)
   exact gap_all_lt h.1 (show u.2<c.getD (i - 1) 0 by omega) t ht
 ·rw [inSp_append,inSp_one,← sp_more h1 x _ (h.2.1 x)]
  exact ⟨fun q=>q.elim .inl fun q=>.inr ⟨q.1,q.2,hK⟩,fun q=>q.elim .inl fun q=>.inr ⟨q.1,q.2.1⟩⟩
theorem SpI.join {c:List Int} {K:Int→Prop} {i:Nat} {o:List Sp} {u:Sp} (h:SpI c K i (o++[u])) (hc:Asc c) (h1:1≤i) (hi:i<c.length) (hK:K (c.getD (i - 1) 0)) (hu:u.2=c.getD (i - 1) 0):SpI c K (i+1) (o++[(u.1,c.getD i 0)]):=by
 have hlt:=hc (i - 1) i (by omega) hi
 have hul:=gap_end h.1
 refine ⟨gap_last h.1 (by omega),fun x=>?_,fun t ht=>by simp at ht;rw [← ht];exact Int.le_refl _⟩
 rw [inSp_append,inSp_one,← sp_more h1 x _ (h.2.1 x),inSp_append,inSp_one]
 constructor
 ·rintro (q | ⟨q1,q2⟩)
  ·exact .inl (.inl q)
  ·by_cases e:x<u.2
   ·exact .inl (.inr ⟨q1,e⟩)
   ·exact .inr ⟨by omega,q2,hK⟩
 ·rintro ((q | ⟨q1,q2⟩) | ⟨q1,q2,_⟩)
  ·exact .inl q
  ·exact .inr ⟨q1,by simp only;omega⟩
  ·exact .inr ⟨by simp only;omega,q2⟩
theorem SpI.done {c:List Int} {K S:Int→Prop} {s:List Sp} (h:SpI c K c.length s) (hin:∀ k,k+1<c.length→∀ x,c.getD k 0≤x→x<c.getD (k+1) 0→(S x↔K (c.getD k 0)))
  (hout:∀ x,S x→∃ k,k+1<c.length∧c.getD k 0≤x∧x<c.getD (k+1) 0):Gap s∧∀ x,inSp s x↔S x :=
 ⟨h.1,fun x=>by
  rw [h.2.1 x]
  constructor
  ·rintro ⟨k,hk,h1,h2,h3⟩;exact (hin k hk x h1 h2).2 h3
  ·intro hs
   obtain ⟨k,hk,h1,h2⟩:=hout x hs
   exact ⟨k,hk,h1,h2,(hin k hk x h1 h2).1 hs⟩⟩
def Edging (c:List Int) (l:List Sp):Prop:=∀ s ∈ l,s.1 ∈ c∧s.2 ∈ c
theorem sp_const {c:List Int} {l:List Sp} (hc:Asc c) (hl:Edging c l) {k:Nat} (hk:k+1<c.length) {x:Int} (h1:c.getD k 0≤x) (h2:x<c.getD (k+1) 0):inSp l x↔inSp l (c.getD k 0):=by
 constructor
 ·rintro ⟨s,hs,a,b⟩;exact ⟨s,hs,(cut_lo hc (hl s hs).1 hk h1 h2).1 a,(cut_hi hc (hl s hs).2 hk h1 h2).1 b⟩
 ·rintro ⟨s,hs,a,b⟩;exact ⟨s,hs,(cut_lo hc (hl s hs).1 hk h1 h2).2 a,(cut_hi hc (hl s hs).2 hk h1 h2).2 b⟩
theorem sp_out {c:List Int} {l:List Sp} (hc:Asc c) (hl:Edging c l) {x:Int} (h:inSp l x):∃ k,k+1<c.length∧c.getD k 0≤x∧x<c.getD (k+1) 0:=by
 obtain ⟨s,hs,a,b⟩:=h;exact cut_find hc (hl s hs).1 (hl s hs).2 a b
def Siding (c:List Int) (l:List Rc):Prop:=∀ q ∈ l,q.1 ∈ c∧q.2.2.1 ∈ c
theorem side_const {c:List Int} {l:List Rc} (hc:Asc c) (hl:Siding c l) {k:Nat} (hk:k+1<c.length) {x y:Int} (h1:c.getD k 0≤x) (h2:x<c.getD (k+1) 0):inRc l x y↔inRc l (c.getD k 0) y:=by
 constructor
 ·rintro ⟨q,hq,a,b,r⟩;exact ⟨q,hq,(cut_lo hc (hl q hq).1 hk h1 h2).1 a,(cut_hi hc (hl q hq).2 hk h1 h2).1 b,r⟩
 ·rintro ⟨q,hq,a,b,r⟩;exact ⟨q,hq,(cut_lo hc (hl q hq).1 hk h1 h2).2 a,(cut_hi hc (hl q hq).2 hk h1 h2).2 b,r⟩
theorem side_out {c:List Int} {l:List Rc} (hc:Asc c) (hl:Siding c l) {x y:Int} (h:inRc l x y):∃ k,k+1<c.length∧c.getD k 0≤x∧x<c.getD (k+1) 0:=by
 obtain ⟨q,hq,a,b,_⟩:=h;exact cut_find hc (hl q hq).1 (hl q hq).2 a b
def CoI (c:List Int) (R:Int→Int→Prop) (i:Nat) (out last:List Rc):Prop :=
 (i≤1∧out=[]∧last=[]∧BuI c R 1 [])∨∃ B b,BuI c R i (B++[b])∧out=flat B∧last=flat [b]
theorem flat_append (l m:List Bd):flat (l++m)=flat l++flat m:=by unfold flat;rw [List.flatMap_append]
theorem flat_one (b:Bd):flat [b]=b.2.2.map fun s=>(s.1,b.1,s.2,b.2.1):=by unfold flat;simp
theorem CoI.add {c:List Int} {R:Int→Int→Prop} {i:Nat} {out last:List Rc} {s:List Sp} (h:CoI c R i out last) (hc:Asc c) (h1:1≤i) (hi:i<c.length) (hs:Gap s) (hR:∀ x,inSp s x↔R (c.getD (i - 1) 0) x)
  (hd:last ≠ []→last.map (fun q=>(q.1,q.2.2.1)) ≠ s):CoI c R (i+1) (out++last) (flat [(c.getD (i - 1) 0,c.getD i 0,s)]):=by
 rcases h with ⟨h0,rfl,rfl,hB⟩ | ⟨B,b,hB,rfl,rfl⟩
 ·have e:i=1:=by omega
  subst e
  exact .inr ⟨[],_,by have:=hB.add hc h1 hi hs hR (fun _ h=>by cases h);simpa using this,rfl,rfl⟩
 ·by_cases hb:b.2.2=[]
  ·by_cases hs0:s=[]
   ·subst hs0
    have:=hB.join hc h1 hi (by rw [hb];exact hR)
    refine .inr ⟨B,_,this,?_,?_⟩
    ·rw [flat_one,hb];simp
    ·rw [flat_one,flat_one,hb];rfl
   ·refine .inr ⟨B++[b],_,hB.add hc h1 hi hs hR fun d hd=>?_,by rw [flat_append],rfl⟩
    simp at hd;subst hd;rw [hb];exact fun e=>hs0 e.symm
  ·refine .inr ⟨B++[b],_,hB.add hc h1 hi hs hR fun d hd'=>?_,by rw [flat_append],rfl⟩
   simp at hd';subst hd'
   have:=hd (by rw [flat_one];simpa using hb)
   intro e
   apply this
   rw [flat_one,List.map_map,← e]
   exact (List.map_congr_left (fun _ _=>rfl)).trans (List.map_id _)
theorem CoI.join {c:List Int} {R:Int→Int→Prop} {i:Nat} {out last:List Rc} {s:List Sp} (h:CoI c R i out last) (hc:Asc c) (h1:1≤i) (hi:i<c.length) (hR:∀ x,inSp s x↔R (c.getD (i - 1) 0) x)
  (hl:last ≠ []) (hd:last.map (fun q=>(q.1,q.2.2.1))=s):CoI c R (i+1) out (last.map fun q=>(q.1,q.2.1,q.2.2.1,c.getD i 0)):=by
 rcases h with ⟨h0,rfl,rfl,hB⟩ | ⟨B,b,hB,rfl,rfl⟩
 ·exact absurd rfl hl
 ·have e:b.2.2=s:=by
   rw [flat_one,List.map_map] at hd
   rw [← hd]
   exact ((List.map_congr_left (fun _ _=>rfl)).trans (List.map_id _)).symm
  refine .inr ⟨B,_,hB.join hc h1 hi (by rw [e];exact hR),rfl,?_⟩
  rw [flat_one,flat_one,List.map_map]
  rfl
theorem CoI.done {c:List Int} {R S:Int→Int→Prop} {out last:List Rc} {i:Nat} (h:CoI c R i out last) (hi:i=c.length∨(i≤1∧c.length≤1)) (hin:∀ k,k+1<c.length→∀ x y,c.getD k 0≤y→y<c.getD (k+1) 0→(S x y↔R (c.getD k 0) x))
  (hout:∀ x y,S x y→∃ k,k+1<c.length∧c.getD k 0≤y∧y<c.getD (k+1) 0):IsCan S (out++last):=by
 have hempty:c.length≤1→IsCan S []:=fun h0=>⟨[],trivial,rfl,fun x y=>⟨fun h=>absurd h (inBd_nil _ _),fun h=>by obtain ⟨k,hk,_⟩:=hout x y h;omega⟩⟩
 rcases h with ⟨h0,rfl,rfl,hB⟩ | ⟨B,b,hB,rfl,rfl⟩
 ·exact hempty (by omega)
 ·rw [← flat_append]
  rcases hi with rfl | ⟨h1,h2⟩
  ·exact hB.done hin hout
  ·refine isCan_of_con hB.1 fun x y=>?_
   rw [hB.2.1 x y]
   constructor
   ·rintro ⟨k,hk,_⟩;omega
   ·intro h;obtain ⟨k,hk,_⟩:=hout x y h;omega
end Go.Proofs.YtancajcelmhnkaaGreatDoor
namespace Go.Proofs.YtancajcelmhnkaaGreatDoor
open Go.RowKit
theorem hid {p:Prop} (h:p):RowKit.Hid p:=Lib.hid h
section
variable {a w w1:World}
theorem bal (h:Below a.heap.size a w) (o:Obj):Below a.heap.size a (w.alloc o):=h.alloc h.size o
theorem bdr (h:Below a.heap.size a w):Below a.heap.size a w.drew:=h.drew
theorem bst (h:Below a.heap.size a w) (b o:Nat) (u:Value) (hp:a.heap.size≤b):Below a.heap.size a (w.setCell ⟨b,o,none⟩ u):=h.setCell hp u
theorem btr (h:Below a.heap.size a w) (k:Below w.heap.size w w1):Below a.heap.size a w1:=h.trans (k.mono h.size)
end
theorem bc1 {W w1:World} {b o:Nat} {v:Value} (hb:Below W.heap.size W w1) (h:W.cell? ⟨b,o,none⟩=some v):w1.cell? ⟨b,o,none⟩=some v :=
 (hb.cell (p:=⟨b,o,none⟩) (World.block_lt_of_cell? W _ h)).trans h
theorem bf1 {W w1:World} {b o:Nat} {v:Value} (hb:Below W.heap.size W w1) (h:W.cell? ⟨b,o,none⟩=some v) (hf:W.frozen? ⟨b,o,none⟩=false):w1.frozen? ⟨b,o,none⟩=false :=
 (hb.frozen (p:=⟨b,o,none⟩) (World.block_lt_of_cell? W _ h)).trans hf
theorem ret_bool {a b:Bool} (h:a=b):Ending.returned (.bool a)=.returned (.bool b):=by rw [h]
theorem ret_int {k:IntKind} {a b:Int} (h:a=b):Ending.returned (.int k a)=.returned (.int k b):=by rw [h]
def modI (k n:Int):Int:=if k.tmod n<0 then k.tmod n+n else k.tmod n
theorem modI_lo (k n:Int) (h:1≤n):0≤modI k n:=by
 unfold modI
 split
 ·have:=Int.lt_tmod_of_pos k (show 0<n by omega);omega
 ·omega
theorem modI_hi (k n:Int) (h:1≤n):modI k n<n:=by
 unfold modI
 have:=Int.tmod_lt_of_pos k (show 0<n by omega)
 split <;> omega
theorem mod_any (k n:Int) (w:World) (h1:1≤n) (h2:n≤1000000000000) :
  Calls Tryz.prog 17 #[.int .i64 k,.int .i64 n] w fun e w'=>e=.returned (.int .i64 (modI k n))∧w'=w:=by
 unfold modI
 have t1:=Int.lt_tmod_of_pos k (show 0<n by omega)
 have t2:=Int.tmod_lt_of_pos k (show 0<n by omega)
 have n0:(n == 0)=false:=by simp;omega
 by_cases h:0≤k
 ·have e:=Int.tmod_eq_emod_of_nonneg (b:=n) h
  have e0:0≤k % n:=Int.emod_nonneg _ (by omega)
  rw [e] at t1 t2 ⊢
  rw [if_neg (by omega)]
  clear e
  go_enter Tryz.func17,Tryz.ntmps17
  go_wp2
  all_goals go_ret
  all_goals exact ⟨rfl,rfl⟩
 ·go_enter Tryz.func17,Tryz.ntmps17
  go_wp2
  all_goals go_ret
  all_goals exact ⟨rfl,rfl⟩
def Tape (w:World) (b:Nat):Prop :=
 ∃ (a:Option Addr) (len cap k:Nat),w.heap[b]? = some (.cells #[.slice a len cap,.int .i64 k] 90 (0,0))∧k≤len∧len≤400 ∧
  (0<len→∃ x:Addr,a=some x∧x.block<b∧∀ i,i<len→∃ z:Int,w.cell? (x.add i)=some (.int .i64 z))
theorem Tape.lt {w:World} {b:Nat} (h:Tape w b):b<w.heap.size:=by
 obtain ⟨_,_,_,_,h,_⟩:=h
 exact lt_of_block h
theorem Tape.keep {w w':World} {b:Nat} (h:Tape w b) (hk:∀ i,i≤b→w'.heap[i]? = w.heap[i]?):Tape w' b:=by
 obtain ⟨a,len,cap,k,hb,h1,h2,h3⟩:=h
 refine ⟨a,len,cap,k,(hk b (Nat.le_refl _)).trans hb,h1,h2,fun hl=>?_⟩
 obtain ⟨x,ha,hx,hc⟩:=h3 hl
 refine ⟨x,ha,hx,fun i hi=>?_⟩
 obtain ⟨z,hz⟩:=hc i hi
 refine ⟨z,(World.cell?_of_block (w:=w) (hk _ ?_)).trans hz⟩
 have:(x.add i).block=x.block:=by unfold Addr.add;split <;> rfl
 omega
theorem Tape.below {w w':World} {b:Nat} (h:Tape w b) (hb:Below w.heap.size w w'):Tape w' b :=
 h.keep fun i hi=>hb.block i (Nat.lt_of_le_of_lt hi h.lt)
theorem Tape.drew {w:World} {b:Nat} (h:Tape w b):Tape w.drew b:=h
theorem Tape.drewN {w:World} {b:Nat} (h:Tape w b) (n:Nat):Tape (w.drewN n) b:=h
theorem Tape.alloc {w:World} {b:Nat} (h:Tape w b) (o:Obj):Tape (w.alloc o) b:=h.below ((Below.refl _ _).alloc (Nat.le_refl _) o)
structure Steps1 (b:Nat) (w w':World):Prop where
 was:Tape w b
 grown:w.grownBy w' (some b)
 now:Tape w' b
theorem Steps1.refl {b:Nat} {w:World} (h:Tape w b):Steps1 b w w:=⟨h,⟨rfl,rfl,rfl,Nat.le_refl _,fun _ _ _=>rfl⟩,h⟩
theorem Steps1.lt {b:Nat} {w w':World} (h:Steps1 b w w'):b<w.heap.size:=h.was.lt
theorem Steps1.size {b:Nat} {w w':World} (h:Steps1 b w w'):w.heap.size≤w'.heap.size:=h.grown.size
theorem Steps1.trans {b:Nat} {w1 w2 w3:World} (h:Steps1 b w1 w2) (k:Steps1 b w2 w3):Steps1 b w1 w3 :=
 ⟨h.was,⟨k.grown.os.trans h.grown.os,k.grown.tape.trans h.grown.tape,k.grown.output.trans h.grown.output,Nat.le_trans h.grown.size k.grown.size,
  fun i hi hn=>(k.grown.block i (Nat.lt_of_lt_of_le hi h.grown.size) hn).trans (h.grown.block i hi hn)⟩,k.now⟩
theorem Steps1.of_below {b:Nat} {w w':World} (h:Tape w b) (hb:Below w.heap.size w w'):Steps1 b w w' :=
 ⟨h,⟨hb.os,hb.tape,hb.output,hb.size,fun i hi _=>hb.block i hi⟩,h.below hb⟩
theorem Steps1.drew {b:Nat} {w w':World} (h:Steps1 b w w'):Steps1 b w w'.drew:=⟨h.was,⟨h.grown.os,h.grown.tape,h.grown.output,h.grown.size,h.grown.block⟩,h.now⟩
theorem Steps1.drewN {b:Nat} {w w':World} (h:Steps1 b w w') (n:Nat):Steps1 b w (w'.drewN n):=⟨h.was,⟨h.grown.os,h.grown.tape,h.grown.output,h.grown.size,h.grown.block⟩,h.now⟩
section
variable {b:Nat} {a w w1:World}
theorem sal (h:Steps1 b a w) (o:Obj):Steps1 b a (w.alloc o):=h.trans (.of_below h.now ((Below.refl _ _).alloc (Nat.le_refl _) o))
theorem sdr (h:Steps1 b a w):Steps1 b a w.drew:=h.drew
theorem sst (h:Steps1 b a w) (k o:Nat) (u:Value) (hk:a.heap.size≤k):Steps1 b a (w.setCell ⟨k,o,none⟩ u) :=
 ⟨h.was,⟨h.grown.os,h.grown.tape,h.grown.output,by simpa [World.setCell] using h.grown.size,
  fun i hi hn=>(Below.heap_setCell w ⟨k,o,none⟩ u i (by show i ≠ k;omega)).trans (h.grown.block i hi hn)⟩,
  h.now.keep fun i hi=>Below.heap_setCell w ⟨k,o,none⟩ u i (by show i ≠ k;have:=h.lt;omega)⟩
theorem stb (h:Steps1 b a w) (k:Below w.heap.size w w1):Steps1 b a w1:=h.trans (.of_below h.now k)
theorem sts (h:Steps1 b a w) (k:Steps1 b w w1):Steps1 b a w1:=h.trans k
theorem sc1 {k o:Nat} {v:Value} (hs:Steps1 b w w1) (h:w.cell? ⟨k,o,none⟩=some v) (hne:k ≠ b):w1.cell? ⟨k,o,none⟩=some v :=
 (World.cell?_of_block (w:=w) (hs.grown.block k (World.block_lt_of_cell? w _ h) (by simpa using hne))).trans h
theorem sf1 {k o:Nat} {v:Value} (hs:Steps1 b w w1) (h:w.cell? ⟨k,o,none⟩=some v) (hf:w.frozen? ⟨k,o,none⟩=false) (hne:k ≠ b):w1.frozen? ⟨k,o,none⟩=false :=
 (World.frozen?_of_block (w:=w) (hs.grown.block k (World.block_lt_of_cell? w _ h) (by simpa using hne))).trans hf
theorem bos {W:World} (hb:Below W.heap.size W w) (hk:W.heap.size≤b) (h:Steps1 b w w1):Below W.heap.size W w1 :=
 hb.trans ⟨h.grown.os,h.grown.tape,h.grown.output,h.grown.size,fun i hi=>h.grown.block i (Nat.lt_of_lt_of_le hi hb.size) (by simp;omega)⟩
end
def NextPost (b:Nat) (n:Int) (w:World) (e:Ending) (w':World):Prop:=∃ r:Int,0≤r∧r<n∧e=.returned (.int .i64 r)∧Steps1 b w w'
theorem next_any (b:Nat) (n:Int) (w:World) (hT:Tape w b) (h1:1≤n) (h2:n≤1000000000000) :
  Calls Tryz.prog 16 #[.pointer (some ⟨b,0,none⟩),.int .i64 n] w (NextPost b n w):=by
 have hT':=hT
 obtain ⟨a,len,cap,k,hb,hk,hl,hx⟩:=hT
 have c0:w.cell? ⟨b,0,none⟩=some (.slice a len cap):=by simp [World.cell?,hb]
 have c1:w.cell? ⟨b,1,none⟩=some (.int .i64 k):=by simp [World.cell?,hb]
 have f1:w.frozen? ⟨b,1,none⟩=false:=by simp [World.frozen?,hb]
 have TT:=Lib.hid hT'
 have HB:=Lib.hid hb
 clear hT' hb
 by_cases hlt:k<len
 ·obtain ⟨x,rfl,hxb,hc⟩:=hx (by omega)
  obtain ⟨z,hz⟩:=hc k hlt
  obtain ⟨tb,off,spot⟩:=x
  have hspot:spot=none:=by
   obtain ⟨z0,hz0⟩:=hc 0 (by omega)
   simpa [Addr.add] using World.cell?_spot hz0
  subst hspot
  have hz':w.cell? ⟨tb,off+k,none⟩=some (.int .i64 z):=by
   have e:Addr.add ⟨tb,off,none⟩ k=⟨tb,off+k,none⟩:=by unfold Addr.add;split <;> simp_all
   rwa [e] at hz
  have hne:tb ≠ b:=by have:tb<b:=hxb;omega
  have hkk:(k:Int)<(len:Int):=by omega
  have hX:=Lib.hid hc
  have hZ:(w.setCell ⟨b,1,none⟩ (.int .i64 (k+1))).cell? ⟨tb,off+k,none⟩=some (.int .i64 z):=by
   rw [World.cell?_setCell_other _ _ _ _ (by intro e;injection e;omega)];exact hz'
  clear hc hz
  go_enter Tryz.func16,Tryz.ntmps16
  go_wp2
  go_quiet (fail)
  go_wp2
  go_quiet ((go_at_call 17;exact Calls.quiet_of_same (mod_any _ _ _ h1 h2)))
  go_wp2
  go_ret
  refine ⟨modI z n,modI_lo _ _ h1,modI_hi _ _ h1,rfl,?_⟩
  have hs:Steps1 b w (w.setCell ⟨b,1,none⟩ (.int .i64 (k+1))):=by
   refine ⟨TT.out,⟨rfl,rfl,rfl,by simp [World.setCell],fun i _ hn=>Below.heap_setCell _ _ _ _ (by simpa using hn)⟩,some ⟨tb,off,none⟩,len,cap,k+1,?_,hlt,hl,fun _=>⟨_,rfl,hxb,fun i hi=>?_⟩⟩
   ·have hlb:=lt_of_block HB.out
    have hg:w.heap[b]=.cells #[.slice (some ⟨tb,off,none⟩) len cap,.int .i64 k] 90 (0,0):=by simpa [Array.getElem?_eq_getElem hlb] using HB.out
    show (w.heap.modify b _)[b]? = _
    rw [Array.getElem?_eq_getElem (by simpa using hlb),Array.getElem_modify_self,hg]
    rfl
   ·obtain ⟨z',hz''⟩:=hX.out i hi
    refine ⟨z',?_⟩
    rw [World.cell?_setCell_other _ _ _ _ ?_]
    ·exact hz''
    ·intro e
     have e2:=congrArg Addr.block e
     have e3:(Addr.add ⟨tb,off,none⟩ i).block=tb:=by unfold Addr.add;split <;> rfl
     rw [e3] at e2
     exact hne e2.symm
  first | exact hs.drewN _ | exact hs.drew.drewN _ | exact (hs.drewN _).drewN _ | exact (hs.drewN _).drew
 ·have hge:(len:Int)≤(k:Int):=by omega
  clear hx
  go_enter Tryz.func16,Tryz.ntmps16
  go_wp2
  go_quiet (fail)
  go_wp2
  go_ret
  exact ⟨0,by omega,by omega,rfl,(Steps1.refl TT.out).drewN _⟩
def RangePost (b:Nat) (lo hi:Int) (w:World) (e:Ending) (w':World):Prop:=∃ r:Int,lo≤r∧r≤hi∧e=.returned (.int .i64 r)∧Steps1 b w w'
def OnePost (b:Nat) (w:World) (e:Ending) (w':World):Prop:=∃ v:Bool,e=.returned (.bool v)∧Steps1 b w w'
theorem range_any (b:Nat) (lo hi:Int) (w:World) (hT:Tape w b) (h1:lo≤hi) (h2:-100000000000≤lo) (h3:hi≤100000000000) :
  Calls Tryz.prog 48 #[.pointer (some ⟨b,0,none⟩),.int .i64 lo,.int .i64 hi] w (RangePost b lo hi w):=by
 have TT:=Lib.hid hT
 clear hT
 go_enter Tryz.func48,Tryz.ntmps48
 go_wp2_with (go_at_call 16;refine (next_any _ _ _ TT.out (by omega) (by omega)).mono ?_;rintro e w1 ⟨r,r1,r2,rfl,hs⟩)
 go_ret
 exact ⟨lo+r,by omega,by omega,rfl,hs⟩
theorem one_any (b:Nat) (n:Int) (w:World) (hT:Tape w b) (h1:1≤n) (h2:n≤100000000000) :
  Calls Tryz.prog 51 #[.pointer (some ⟨b,0,none⟩),.int .i64 n] w (OnePost b w):=by
 have TT:=Lib.hid hT
 clear hT
 go_enter Tryz.func51,Tryz.ntmps51
 go_wp2_with (go_at_call 16;refine (next_any _ _ _ TT.out (by omega) (by omega)).mono ?_;rintro e w1 ⟨r,r1,r2,rfl,hs⟩)
 go_ret
 exact ⟨_,rfl,hs⟩
set_option linter.unusedVariables false
def Blk (w:World) (g:Nat) (t:TypeId) (cs:Array Value):Prop:=w.heap[g]? = some (.cells cs t (0,0))
section
variable {w w':World} {g b:Nat} {t:TypeId} {cs:Array Value}
theorem Blk.lt (h:Blk w g t cs):g<w.heap.size:=lt_of_block h
theorem Blk.cell (h:Blk w g t cs) (i:Nat):w.cell? ⟨g,i,none⟩=cs[i]?:=cell_of_row w g i cs t (0,0) h
theorem Blk.free (h:Blk w g t cs) (i:Nat):w.frozen? ⟨g,i,none⟩=false:=by
 unfold Blk at h
 simp [World.frozen?,h]
theorem Blk.new (w:World) (t:TypeId) (cs:Array Value):Blk (w.alloc (.cells cs t)) w.heap.size t cs:=heap_alloc_new w _
theorem Blk.drew (h:Blk w g t cs):Blk w.drew g t cs:=h
theorem Blk.drewN (h:Blk w g t cs) (n:Nat):Blk (w.drewN n) g t cs:=h
theorem Blk.alloc (h:Blk w g t cs) (o:Obj):Blk (w.alloc o) g t cs:=(Below.heap_alloc w o g h.lt).trans h
theorem Blk.put (h:Blk w g t cs) (i:Nat) (u:Value):Blk (w.setCell ⟨g,i,none⟩ u) g t (cs.setIfInBounds i u):=by
 unfold Blk at h ⊢
 simp [World.setCell,Array.getElem?_modify,h]
theorem Blk.far (h:Blk w g t cs) (k o:Nat) (u:Value) (hk:g ≠ k):Blk (w.setCell ⟨k,o,none⟩ u) g t cs:=(Below.heap_setCell w ⟨k,o,none⟩ u g hk).trans h
theorem Blk.below (h:Blk w g t cs) (hb:Below w.heap.size w w'):Blk w' g t cs:=(hb.block g h.lt).trans h
theorem Blk.step (h:Blk w g t cs) (hs:Steps1 b w w') (hg:g ≠ b):Blk w' g t cs:=(hs.grown.block g h.lt (by simpa using hg)).trans h
end
theorem Blk.fresh {w:World} {g:Nat} {t:TypeId} {cs:Array Value} (h:g=w.heap.size):Blk (w.alloc (.cells cs t)) g t cs:=h ▸ Blk.new w t cs
theorem Blk.put3 {w:World} {g:Nat} {t:TypeId} {cs cs':Array Value} {v0 v1 v2:Value} (h:Blk w g t cs) (e:((cs.setIfInBounds 0 v0).setIfInBounds 1 v1).setIfInBounds 2 v2=cs') :
  Blk (((w.setCell ⟨g,0,none⟩ v0).setCell ⟨g,1,none⟩ v1).setCell ⟨g,2,none⟩ v2) g t cs':=e ▸ ((h.put 0 _).put 1 _).put 2 _
def Cs (w:World) (g:Nat) (cs:List Value):Prop:=0<cs.length∧∀ i v,cs[i]? = some v→w.cell? ⟨g,i,none⟩=some v
section
variable {w wx:World} {g:Nat} {cs:List Value}
theorem Cs.cell (h:Cs w g cs) (i:Nat) {v:Value} (e:cs[i]? = some v:=by rfl):w.cell? ⟨g,i,none⟩=some v:=h.2 i v e
theorem Cs.lt (h:Cs w g cs):g<w.heap.size:=by
 obtain ⟨h0,hc⟩:=h
 exact World.block_lt_of_cell? w _ (hc 0 _ (List.getElem?_eq_getElem h0))
theorem Cs.below (h:Cs w g cs) (hb:Below w.heap.size w wx):Cs wx g cs:=⟨h.1,fun i v e=>bc1 hb (h.2 i v e)⟩
theorem Cs.drew (h:Cs w g cs):Cs w.drew g cs:=h
theorem Cs.alloc (h:Cs w g cs) (o:Obj):Cs (w.alloc o) g cs:=h.below ((Below.refl _ _).alloc (Nat.le_refl _) o)
theorem Cs.far (h:Cs w g cs) (k o:Nat) (u:Value) (hk:g ≠ k):Cs (w.setCell ⟨k,o,none⟩ u) g cs :=
 ⟨h.1,fun i v e=>(World.cell?_of_block (w:=w) (a:=⟨g,i,none⟩) (Below.heap_setCell w ⟨k,o,none⟩ u g hk)).trans (h.2 i v e)⟩
end
def IB (w:World) (g n:Nat):Prop:=∃ (t:TypeId) (cs:Array Value),Blk w g t cs∧∀ j,j<n→∃ z:Int,cs[j]? = some (.int .i64 z)
section
variable {w wx wy:World} {g n:Nat}
theorem IB.lt (h:IB w g n):g<w.heap.size:=by obtain ⟨t,cs,hb,_⟩:=h;exact hb.lt
theorem IB.below (h:IB w g n) (hb:Below w.heap.size w wx):IB wx g n:=by obtain ⟨t,cs,h1,h2⟩:=h;exact ⟨t,cs,h1.below hb,h2⟩
theorem IB.drew (h:IB w g n):IB w.drew g n:=h
theorem IB.far (h:IB w g n) (k o:Nat) (u:Value) (hk:g ≠ k):IB (w.setCell ⟨k,o,none⟩ u) g n:=by obtain ⟨t,cs,h1,h2⟩:=h;exact ⟨t,cs,h1.far _ _ _ hk,h2⟩
theorem IB.put (h:IB w g n) (o:Nat) (z:Int):IB (w.setCell ⟨g,o,none⟩ (.int .i64 z)) g n:=by
 obtain ⟨t,cs,h1,h2⟩:=h
 refine ⟨t,_,h1.put o _,fun j hj=>?_⟩
 obtain ⟨y,hy⟩:=h2 j hj
 by_cases e:o=j
 ·subst e
  refine ⟨z,?_⟩
  have:=(Array.getElem?_eq_some_iff.1 hy).1
  simp [this]
 ·exact ⟨y,by rw [Array.getElem?_setIfInBounds_ne e];exact hy⟩
theorem IB.at_ (h:IB w g n) (j:Nat) (hj:j<n):∃ z:Int,w.cell? ⟨g,j,none⟩=some (.int .i64 z)∧w.frozen? ⟨g,j,none⟩=false:=by
 obtain ⟨t,cs,h1,h2⟩:=h
 obtain ⟨z,hz⟩:=h2 j hj
 exact ⟨z,(h1.cell j).trans hz,h1.free j⟩
end
structure Al (w:World) (hi:Nat) (gs:List (Nat × Nat)) (wx:World):Prop where
 below:Below w.heap.size w wx
 lo:w.heap.size≤hi
 le:hi≤wx.heap.size
 ib:∀ p,p ∈ gs→p.1<hi∧IB wx p.1 p.2
section
variable {w wx wy:World} {hi hj:Nat} {gs fs:List (Nat × Nat)}
theorem Al.step (h:Al w hi gs wx) (hb:Below wx.heap.size wx wy):Al w hi gs wy:=⟨btr h.below hb,h.lo,Nat.le_trans h.le hb.size,fun p hp=>⟨(h.ib p hp).1,(h.ib p hp).2.below hb⟩⟩
theorem Al.drew (h:Al w hi gs wx):Al w hi gs wx.drew:=⟨bdr h.below,h.lo,h.le,h.ib⟩
theorem Al.alloc (h:Al w hi gs wx) (o:Obj):Al w hi gs (wx.alloc o):=h.step ((Below.refl _ _).alloc (Nat.le_refl _) o)
theorem Al.far (h:Al w hi gs wx) (k o:Nat) (u:Value) (hk:hi≤k):Al w hi gs (wx.setCell ⟨k,o,none⟩ u) :=
 ⟨bst h.below _ _ _ (Nat.le_trans h.lo hk),h.lo,by simpa [World.setCell] using h.le,fun p hp=>⟨(h.ib p hp).1,(h.ib p hp).2.far _ _ _ (by have:=(h.ib p hp).1;omega)⟩⟩
theorem Al.less (h:Al w hi gs wx) (hs:∀ p,p ∈ fs→p ∈ gs):Al w hi fs wx:=⟨h.below,h.lo,h.le,fun p hp=>h.ib p (hs p hp)⟩
theorem Al.more {g n:Nat} (h:Al w hi gs wx) (hg:IB wx g n) (h1:hi≤hj) (h2:hj≤wx.heap.size) (h3:g<hj):Al w hj ((g,n) :: gs) wx :=
 ⟨h.below,Nat.le_trans h.lo h1,h2,fun p hp=>by
  rcases List.mem_cons.1 hp with rfl | hp
  ·exact ⟨h3,hg⟩
  ·exact ⟨Nat.lt_of_lt_of_le (h.ib p hp).1 h1,(h.ib p hp).2⟩⟩
theorem Al.put {g n:Nat} (h:Al w hi gs wx) (hg:(g,n) ∈ gs) (o:Nat) (z:Int) (hw:w.heap.size≤g):Al w hi gs (wx.setCell ⟨g,o,none⟩ (.int .i64 z)) :=
 ⟨bst h.below _ _ _ hw,h.lo,by simpa [World.setCell] using h.le,fun p hp=>⟨(h.ib p hp).1,by
  by_cases e:p.1=g
  ·rw [e];have:=(h.ib p hp).2;rw [e] at this;exact this.put o z
  ·exact (h.ib p hp).2.far _ _ _ e⟩⟩
theorem Al.at_ {g n:Nat} (h:Al w hi gs wx) (hg:(g,n) ∈ gs) (j:Nat) (hj:j<n):∃ z:Int,wx.cell? ⟨g,j,none⟩=some (.int .i64 z)∧wx.frozen? ⟨g,j,none⟩=false:=(h.ib _ hg).2.at_ j hj
theorem Al.lt {g n:Nat} (h:Al w hi gs wx) (hg:(g,n) ∈ gs):g<wx.heap.size:=Nat.lt_of_lt_of_le (h.ib _ hg).1 h.le
end
def IsRow (k:IntKind) (w:World) (a:Option Addr) (len cap:Nat) (zs:List Int):Prop :=
 (a=none∧len=0∧cap=0∧zs=[]) ∨
 ∃ x,a=some x∧len≤cap∧cap≤maxLen∧zs.length=cap∧(∀ i,i<zs.length→w.cell? (x.add i)=some (.int k (zs.getD i 0)))∧∀ n ∈ zs,(Lit.int k n).wf=true
def NewPost (w:World) (e:Ending) (w':World):Prop:=e=.returned (.pointer (some ⟨w.heap.size,0,none⟩))∧Below w.heap.size w w'∧Tape w' w.heap.size
theorem tape_new (w:World) (a:Option Addr) (len cap:Nat) (h400:len≤400) (hc:0<len→∃ x:Addr,a=some x∧x.block<w.heap.size∧∀ i,i<len→∃ z:Int,w.cell? (x.add i)=some (.int .i64 z)) :
  Tape (w.alloc (.cells #[.slice a len cap,.int .i64 0] 90)) w.heap.size:=by
 refine ⟨a,len,cap,0,heap_alloc_new w _,Nat.zero_le _,h400,fun hl=>?_⟩
 obtain ⟨x,hx,hb,hz⟩:=hc hl
 refine ⟨x,hx,hb,fun i hi=>?_⟩
 obtain ⟨z,h⟩:=hz i hi
 refine ⟨z,(World.cell?_alloc_lt w _ _ ?_).trans h⟩
 have:(x.add i).block=x.block:=by unfold Addr.add;split <;> rfl
 omega
theorem new_any (a:Option Addr) (len cap:Nat) (zs:List Int) (w:World) (hr:IsRow .i64 w a len cap zs) :
  Calls Tryz.prog 11 #[.slice a len cap] w (NewPost w):=by
 rcases hr with ⟨rfl,rfl,rfl,rfl⟩ | ⟨x,rfl,hl,hm,hz,hcell,hwz⟩
 ·go_enter Tryz.func11,Tryz.ntmps11
  go_wp2
  go_ret
  exact ⟨rfl,(Below.refl _ _).alloc (Nat.le_refl _) _,tape_new w _ _ _ (by omega) (by omega)⟩
 ·unfold maxLen at hm
  have HC:=Lib.hid hcell
  have HZ:=Lib.hid hz
  clear hcell hz hwz
  by_cases h4:len≤400
  ·go_enter Tryz.func11,Tryz.ntmps11
   go_wp2
   go_ret
   refine ⟨rfl,(Below.refl _ _).alloc (Nat.le_refl _) _,tape_new w _ _ _ (by omega) (fun hl'=>⟨x,rfl,?_,fun i hi=>⟨_,HC.out i (by have:=HZ.out;omega)⟩⟩)⟩
   have h0:=HC.out 0 (by have:=HZ.out;omega)
   exact World.block_lt_of_cell? w x (by simpa [Addr.add] using h0)
  ·go_enter Tryz.func11,Tryz.ntmps11
   go_wp2
   go_ret
   refine ⟨rfl,(Below.refl _ _).alloc (Nat.le_refl _) _,tape_new w _ _ _ (by omega) (fun hl'=>⟨x,rfl,?_,fun i hi=>⟨_,HC.out i (by have:=HZ.out;omega)⟩⟩)⟩
   have h0:=HC.out 0 (by have:=HZ.out;omega)
   exact World.block_lt_of_cell? w x (by simpa [Addr.add] using h0)
theorem IsRow.alloc {k:IntKind} {w:World} {a:Option Addr} {len cap:Nat} {zs:List Int} (h:IsRow k w a len cap zs) (o:Obj):IsRow k (w.alloc o) a len cap zs:=by
 rcases h with h | ⟨x,h1,h2,h3,h4,h5,h6⟩
 ·exact .inl h
 ·refine .inr ⟨x,h1,h2,h3,h4,fun i hi=>?_,h6⟩
  have hc:=h5 i hi
  exact (World.cell?_alloc_lt w o _ (World.block_lt_of_cell? w _ hc)).trans hc
end Go.Proofs.YtancajcelmhnkaaGreatDoor
