/- Plain Lean: a record written down in a history;a feature put into a layer. -/
import Derived.Test.YtancajcelmhnkaaGreatDoorGj
set_option maxRecDepth 100000
set_option maxHeartbeats 4000000
namespace Go.Proofs.YtancajcelmhnkaaGreatDoor
set_option linter.unusedVariables false
theorem vld_can {S:Sq} {l:List Rc} (h:IsCan S l) (hS:∀ x y,S x y→0≤x∧x<10∧0≤y∧y<10):Vld l:=by
 obtain ⟨h1,h2⟩:=isCan_few h 10 hS
 exact ⟨by omega,fun q hq=>by have:=h2 q hq;unfold Prp;omega,h.self⟩
structure HPut (l:List Rcd) (year crop:Int) (A:Sq) (out:List Rcd):Prop where
 src:∀ s ∈ out,∃ r ∈ l,s.year=r.year∧s.crop=r.crop∧¬ (r.year=year∧r.crop=crop)∧(∀ x y,inRc s.rects x y↔inRc r.rects x y∧(r.year=year→¬ A x y))∧s.Ok
 pair:out.Pairwise fun a b=>a.lt b∧(a.year=b.year→¬ Meet a.rects b.rects)
 all:∀ r ∈ l,¬ (r.year=year∧r.crop=crop)→∀ x y,inRc r.rects x y→(r.year=year→¬ A x y)→∃ s ∈ out,s.year=r.year∧s.crop=r.crop∧inRc s.rects x y
 len:out.length≤l.length
def mineS (l:List Rcd) (year crop:Int) (A:Sq):Sq:=fun x y=>A x y∨∃ r ∈ l,(r.year=year∧r.crop=crop)∧inRc r.rects x y
theorem HPut.nil (year crop:Int) (A:Sq):HPut [] year crop A []:=⟨(fun s hs=>by cases hs),.nil,(fun r hr=>by cases hr),Nat.le_refl _⟩
theorem mineS_nil (year crop:Int) (A:Sq) (x y:Int):A x y↔mineS [] year crop A x y:=⟨.inl,fun h=>h.elim id fun ⟨r,hr,_⟩=>by cases hr⟩
theorem mineS_same {l:List Rcd} {year crop:Int} {A:Sq} {r:Rcd} (h:r.year=year∧r.crop=crop) (x y:Int):(mineS l year crop A x y∨inRc r.rects x y)↔mineS (l++[r]) year crop A x y:=by
 unfold mineS
 constructor
 ·rintro ((h1 | ⟨s,hs,h1⟩) | h1)
  ·exact .inl h1
  ·exact .inr ⟨s,List.mem_append_left _ hs,h1⟩
  ·exact .inr ⟨r,List.mem_append_right _ List.mem_cons_self,h,h1⟩
 ·rintro (h1 | ⟨s,hs,h1⟩)
  ·exact .inl (.inl h1)
  ·rcases List.mem_append.1 hs with hs | hs
   ·exact .inl (.inr ⟨s,hs,h1⟩)
   ·rw [List.mem_singleton.1 hs] at h1;exact .inr h1.2
theorem mineS_other {l:List Rcd} {year crop:Int} {A:Sq} {r:Rcd} (h:¬ (r.year=year∧r.crop=crop)) (x y:Int):mineS l year crop A x y↔mineS (l++[r]) year crop A x y:=by
 unfold mineS
 constructor
 ·rintro (h1 | ⟨s,hs,h1⟩)
  ·exact .inl h1
  ·exact .inr ⟨s,List.mem_append_left _ hs,h1⟩
 ·rintro (h1 | ⟨s,hs,h1⟩)
  ·exact .inl h1
  ·rcases List.mem_append.1 hs with hs | hs
   ·exact .inr ⟨s,hs,h1⟩
   ·rw [List.mem_singleton.1 hs] at h1;exact absurd h1.1 h
theorem HPut.same {l out:List Rcd} {year crop:Int} {A:Sq} (h:HPut l year crop A out) {r:Rcd} (hr:r.year=year∧r.crop=crop):HPut (l++[r]) year crop A out :=
 ⟨fun s hs=>by obtain ⟨q,hq,k⟩:=h.src s hs;exact ⟨q,List.mem_append_left _ hq,k⟩,h.pair,fun q hq hn x y hx ha=>by
  rcases List.mem_append.1 hq with hq | hq
  ·exact h.all q hq hn x y hx ha
  ·rw [List.mem_singleton.1 hq] at hn;exact absurd hr hn,by rw [List.length_append];have:=h.len;omega⟩
theorem HPut.drop {l out:List Rcd} {year crop:Int} {A:Sq} (h:HPut l year crop A out) {r:Rcd} (he:∀ x y,¬ (inRc r.rects x y∧(r.year=year→¬ A x y))):HPut (l++[r]) year crop A out :=
 ⟨fun s hs=>by obtain ⟨q,hq,k⟩:=h.src s hs;exact ⟨q,List.mem_append_left _ hq,k⟩,h.pair,fun q hq hn x y hx ha=>by
  rcases List.mem_append.1 hq with hq | hq
  ·exact h.all q hq hn x y hx ha
  ·rw [List.mem_singleton.1 hq] at hx ha;exact absurd ⟨hx,ha⟩ (he x y),by rw [List.length_append];have:=h.len;omega⟩
theorem HPut.keep {l out:List Rcd} {year crop:Int} {A:Sq} (h:HPut l year crop A out) {r s:Rcd} (hp:(l++[r]).Pairwise fun a b=>a.lt b∧(a.year=b.year→¬ Meet a.rects b.rects)) (hr:¬ (r.year=year∧r.crop=crop))
  (h1:s.year=r.year) (h2:s.crop=r.crop) (h3:∀ x y,inRc s.rects x y↔inRc r.rects x y∧(r.year=year→¬ A x y)) (h4:s.Ok):HPut (l++[r]) year crop A (out++[s]):=by
 refine ⟨fun t ht=>?_,?_,fun q hq hn x y hx ha=>?_,by rw [List.length_append,List.length_append];have:=h.len;simp;omega⟩
 ·rcases List.mem_append.1 ht with ht | ht
  ·obtain ⟨q,hq,k⟩:=h.src t ht
   exact ⟨q,List.mem_append_left _ hq,k⟩
  ·rw [List.mem_singleton.1 ht]
   exact ⟨r,List.mem_append_right _ List.mem_cons_self,h1,h2,hr,h3,h4⟩
 ·rw [List.pairwise_append]
  refine ⟨h.pair,List.pairwise_singleton _ _,fun a ha b hb=>?_⟩
  rw [List.mem_singleton.1 hb]
  obtain ⟨q,hq,k1,k2,-,k3,-⟩:=h.src a ha
  obtain ⟨p1,p2⟩:=(List.pairwise_append.1 hp).2.2 q hq r List.mem_cons_self
  refine ⟨?_,fun e ⟨x,y,m1,m2⟩=>p2 (by rw [← k1,← h1];exact e) ⟨x,y,((k3 x y).1 m1).1,((h3 x y).1 m2).1⟩⟩
  unfold Rcd.lt at *
  rw [k1,k2,h1,h2];exact p1
 ·rcases List.mem_append.1 hq with hq | hq
  ·obtain ⟨s',hs',k⟩:=h.all q hq hn x y hx ha
   exact ⟨s',List.mem_append_left _ hs',k⟩
  ·rw [List.mem_singleton.1 hq] at hx ha ⊢
   exact ⟨s,List.mem_append_right _ List.mem_cons_self,h1,h2,(h3 x y).2 ⟨hx,ha⟩⟩
structure HAdded (l:List Rcd) (year crop:Int) (A:Sq) (out:List Rcd):Prop where
 ok:HistOk out
 src:∀ s ∈ out,(∃ r ∈ l,s.crop=r.crop∧s.year=r.year)∨(s.crop=crop∧s.year=year)
 board:∀ s ∈ out,∀ x y,inRc s.rects x y→A x y∨∃ r ∈ l,inRc r.rects x y
 all:∀ r ∈ l,∀ x y,inRc r.rects x y→(r.year=year→¬ A x y∨r.crop=crop)→∃ s ∈ out,s.year=r.year∧s.crop=r.crop∧inRc s.rects x y
 len:out.length≤l.length+1
theorem HPut.ok {l out:List Rcd} {year crop:Int} {A:Sq} (h:HPut l year crop A out) (hl:l.length≤199):HistOk out :=
 .of (by have:=h.len;omega) (fun r hr=>by obtain ⟨_,_,_,_,_,_,k⟩:=h.src r hr;exact k) h.pair
theorem HPut.none {l out:List Rcd} {year crop:Int} {A:Sq} (h:HPut l year crop A out) (hl:l.length≤199) (hm:∀ x y,¬ mineS l year crop A x y):HAdded l year crop A out :=
 ⟨h.ok hl,fun s hs=>by obtain ⟨q,hq,k1,k2,_⟩:=h.src s hs;exact .inl ⟨q,hq,k2,k1⟩,fun s hs x y hx=>by obtain ⟨q,hq,_,_,_,k,_⟩:=h.src s hs;exact .inr ⟨q,hq,((k x y).1 hx).1⟩,
  fun r hr x y hx ha=>by
   by_cases hc:r.year=year∧r.crop=crop
   ·exact absurd (.inr ⟨r,hr,hc,hx⟩) (hm x y)
   ·exact h.all r hr hc x y hx fun e=>(ha e).elim id fun e'=>absurd ⟨e,e'⟩ hc,by have:=h.len;omega⟩
theorem HPut.ins {l l1 l2:List Rcd} {year crop:Int} {A:Sq} {m:Rcd} (h:HPut l year crop A (l1++l2)) (hl:l.length≤199) (hok:HistOk l) (my:m.year=year) (mc:m.crop=crop) (hm:∀ x y,inRc m.rects x y↔mineS l year crop A x y) (mok:m.Ok)
  (h1:∀ a ∈ l1,a.lt m) (h2:∀ b,l2.head? = some b→¬ b.lt m):HAdded l year crop A (l1++[m]++l2):=by
 obtain ⟨p1,p2,p3⟩:=List.pairwise_append.1 h.pair
 have hdis:∀ a ∈ l1++l2,a.year=m.year→¬ Meet a.rects m.rects:=fun a ha e ⟨x,y,m1,m2⟩=>by
  obtain ⟨q,hq,k1,k2,k3,k4,-⟩:=h.src a ha
  obtain ⟨k5,k6⟩:=(k4 x y).1 m1
  have qy:q.year=year:=by rw [← k1,e,my]
  rcases (hm x y).1 m2 with c | ⟨r,hr,c1,c2⟩
  ·exact k6 qy c
  ·exact hok.dis q hq r hr (by rw [qy,c1.1]) (fun c=>k3 ⟨qy,by rw [c,c1.2]⟩) x y k5 c2
 have hne:∀ a ∈ l1++l2,¬ (a.year=m.year∧a.crop=m.crop):=fun a ha e=>by
  obtain ⟨q,hq,k1,k2,k3,-⟩:=h.src a ha
  exact k3 ⟨by rw [← k1,e.1,my],by rw [← k2,e.2,mc]⟩
 have h3:∀ b ∈ l2,m.lt b:=by
  cases l2 with
  | nil=>intro b hb;cases hb
  | cons c t =>
   have hc:m.lt c:=by
    have e1:=h2 c rfl
    have e2:=hne c (List.mem_append_right _ List.mem_cons_self)
    unfold Rcd.lt at *
    omega
   intro b hb
   rcases List.mem_cons.1 hb with rfl | hb
   ·exact hc
   ·exact Rcd.lt_trans hc ((List.pairwise_cons.1 p2).1 b hb).1
 have hsym:∀ b ∈ l2,m.year=b.year→¬ Meet m.rects b.rects:=fun b hb e ⟨x,y,m1,m2⟩=>hdis b (List.mem_append_right _ hb) e.symm ⟨x,y,m2,m1⟩
 have hmem:∀ s ∈ l1++[m]++l2,s=m∨s ∈ l1++l2:=fun s hs=>by
  rcases List.mem_append.1 hs with hs | hs
  ·rcases List.mem_append.1 hs with hs | hs
   ·exact .inr (List.mem_append_left _ hs)
   ·exact .inl (List.mem_singleton.1 hs)
  ·exact .inr (List.mem_append_right _ hs)
 have hin:∀ s ∈ l1++l2,s ∈ l1++[m]++l2:=fun s hs=>by
  rcases List.mem_append.1 hs with hs | hs
  ·exact List.mem_append_left _ (List.mem_append_left _ hs)
  ·exact List.mem_append_right _ hs
 have hmm:m ∈ l1++[m]++l2:=List.mem_append_left _ (List.mem_append_right _ List.mem_cons_self)
 have hlen:(l1++[m]++l2).length≤l.length+1:=by have:=h.len;simp at this ⊢;omega
 refine ⟨.of (by omega) (fun s hs=>?_) ?_,fun s hs=>?_,fun s hs x y hx=>?_,fun r hr x y hx ha=>?_,hlen⟩
 ·rcases hmem s hs with rfl | hs
  ·exact mok
  ·obtain ⟨_,_,_,_,_,_,k⟩:=h.src s hs;exact k
 ·rw [List.pairwise_append]
  refine ⟨?_,p2,fun a ha b hb=>?_⟩
  ·rw [List.pairwise_append]
   exact ⟨p1,List.pairwise_singleton _ _,fun a ha b hb=>by rw [List.mem_singleton.1 hb];exact ⟨h1 a ha,hdis a (List.mem_append_left _ ha)⟩⟩
  ·rcases List.mem_append.1 ha with ha | ha
   ·exact p3 a ha b hb
   ·rw [List.mem_singleton.1 ha];exact ⟨h3 b hb,hsym b hb⟩
 ·rcases hmem s hs with rfl | hs
  ·exact .inr ⟨mc,my⟩
  ·obtain ⟨q,hq,k1,k2,_⟩:=h.src s hs;exact .inl ⟨q,hq,k2,k1⟩
 ·rcases hmem s hs with rfl | hs
  ·rcases (hm x y).1 hx with c | ⟨r,hr,_,c⟩
   ·exact .inl c
   ·exact .inr ⟨r,hr,c⟩
  ·obtain ⟨q,hq,_,_,_,k,_⟩:=h.src s hs;exact .inr ⟨q,hq,((k x y).1 hx).1⟩
 ·by_cases hc:r.year=year∧r.crop=crop
  ·exact ⟨m,hmm,by rw [my,hc.1],by rw [mc,hc.2],(hm x y).2 (.inr ⟨r,hr,hc,hx⟩)⟩
  ·obtain ⟨s,hs,k⟩:=h.all r hr hc x y hx fun e=>(ha e).elim id fun e'=>absurd ⟨e,e'⟩ hc
   exact ⟨s,hin s hs,k⟩
theorem LayOk.lt {l:List Ftr} (h:LayOk l):∀ i j (hj:j<l.length) (hi:i<j),l[i].number<l[j].number:=by
 intro i j hj hi
 induction j with
 | zero=>omega
 | succ j ih =>
  have h1:=(h.pre (j+1) hj hj).2 (by omega)
  by_cases e:i=j
  ·subst e;exact h1
  ·have:=ih (by omega) (by omega)
   simp only [Nat.add_sub_cancel] at h1
   omega
theorem LayOk.mem {l:List Ftr} (h:LayOk l) {r:Ftr} (hr:r ∈ l):r.Ok:=by
 obtain ⟨j,hj,rfl⟩:=List.getElem_of_mem hr
 exact (h.pre j hj hj).1
theorem LayOk.pair {l:List Ftr} (h:LayOk l):l.Pairwise fun a b=>a.number<b.number:=List.pairwise_iff_getElem.2 fun i j hi hj hij=>h.lt i j hj hij
theorem LayOk.of {l:List Ftr} (h1:l.length≤60) (h2:∀ r ∈ l,r.Ok) (h3:l.Pairwise fun a b=>a.number<b.number):LayOk l :=
 ⟨h1,fun j hj _=>⟨h2 _ (List.getElem_mem hj),fun h=>List.pairwise_iff_getElem.1 h3 (j - 1) j (by omega) hj (by omega)⟩⟩
theorem layOk_ins {l1 l2:List Ftr} {m:Ftr} (h:LayOk (l1++l2)) (hl:(l1++l2).length≤59) (mok:m.Ok) (h1:∀ a ∈ l1,a.number<m.number) (h2:∀ b,l2.head? = some b→m.number<b.number):LayOk (l1++[m]++l2):=by
 obtain ⟨p1,p2,p3⟩:=List.pairwise_append.1 h.pair
 have h3:∀ b ∈ l2,m.number<b.number:=by
  cases l2 with
  | nil=>intro b hb;cases hb
  | cons c t =>
   intro b hb
   have hc:=h2 c rfl
   rcases List.mem_cons.1 hb with rfl | hb
   ·exact hc
   ·have:=(List.pairwise_cons.1 p2).1 b hb;omega
 refine .of (by simp at hl ⊢;omega) (fun s hs=>?_) ?_
 ·rcases List.mem_append.1 hs with hs | hs
  ·rcases List.mem_append.1 hs with hs | hs
   ·exact h.mem (List.mem_append_left _ hs)
   ·rw [List.mem_singleton.1 hs];exact mok
  ·exact h.mem (List.mem_append_right _ hs)
 ·rw [List.pairwise_append]
  refine ⟨?_,p2,fun a ha b hb=>?_⟩
  ·rw [List.pairwise_append]
   exact ⟨p1,List.pairwise_singleton _ _,fun a ha b hb=>by rw [List.mem_singleton.1 hb];exact h1 a ha⟩
  ·rcases List.mem_append.1 ha with ha | ha
   ·exact p3 a ha b hb
   ·rw [List.mem_singleton.1 ha];exact h3 b hb
end Go.Proofs.YtancajcelmhnkaaGreatDoor
namespace Go.Proofs.YtancajcelmhnkaaGreatDoor
open Go.RowKit Go.Sort Go.Shelf
set_option linter.unusedVariables false
set_option linter.unusedSimpArgs false
theorem rgInfo:(Tryz.prog.info? 38).map (·.size)=some 1:=by kernel_rfl
theorem rg_one (a:Option Addr) (n c:Nat):(#[.slice a n c]:Array Value).all (·.oneCell')=true:=by
 rw [List.all_toArray];rfl
def RegP (w:World) (S:Sq) (e:Ending) (w':World):Prop:=∃ a n c l,e=.returned (.tuple #[.agg #[.slice a n c],.int .i64 0])∧ScOk2 w' ⟨a,n,c,l⟩∧IsCan S l∧Below w.heap.size w w'∧∀ b off,a=some ⟨b,off,none⟩→w.heap.size≤b
theorem RegP.congr {w:World} {S T:Sq} {e:Ending} {w':World} (h:RegP w S e w') (k:∀ x y,S x y↔T x y):RegP w T e w':=by
 obtain ⟨a,n,c,l,h1,h2,h3,h4⟩:=h
 exact ⟨a,n,c,l,h1,h2,h3.congr k,h4⟩
def Board (S:Sq):Prop:=∀ x y,S x y→0≤x∧x<10∧0≤y∧y<10
theorem can_120 {S:Sq} {l:List Rc} (h:IsCan S l) (hb:Board S):l.length≤120:=by have:=(isCan_few h 10 fun x y k=>by have:=hb x y k;omega).1;omega
theorem bound_any (a:Option Addr) (n c:Nat) (w:World) (h:n≤120) :
  Calls Tryz.prog 64 #[.slice a n c] w fun e w'=>e=.returned (.tuple #[.agg #[.slice a n c],.int .i64 0])∧Below w.heap.size w w':=by
 have h1:¬ (120:Int)<(n:Int):=by omega
 go_enter Tryz.func64,Tryz.ntmps64
 go_wp2_with (refine st_new rfl 38 (.tmp 2) (.tmp 9) rfl #[.slice a n c] _ _ rfl rfl rgInfo rfl (rg_one _ _ _) ?_)
 refine bodyPost_ret (v:=.tuple #[.agg #[.slice a n c],.int .i64 0]) (by simp [results,Tryz.results64,go_sem]) rfl ⟨rfl,Bw.out⟩
theorem comb_any (a1:Option Addr) (n1 c1:Nat) (l1:List Rc) (a2:Option Addr) (n2 c2:Nat) (l2:List Rc) (how:Int) (S:Sq) (w:World) (h1:ScOk w ⟨a1,n1,c1,l1⟩) (h2:ScOk w ⟨a2,n2,c2,l2⟩) (hS:∀ x y,keepB how (insB l1 x y) (insB l2 x y)=true↔S x y) :
  Calls Tryz.prog 62 #[.slice a1 n1 c1,.slice a2 n2 c2,.int .i64 how] w (NewCan w S) :=
 (combine_any a1 n1 c1 l1 a2 n2 c2 l2 how w h1 h2).mono fun e w' h=>h.congr hS
theorem keep_or (l1 l2:List Rc) (x y:Int):keepB 1 (insB l1 x y) (insB l2 x y)=true↔(inRc l1 x y∨inRc l2 x y):=by
 rw [← insB_iff,← insB_iff];simp [keepB]
theorem keep_and (l1 l2:List Rc) (x y:Int):keepB 2 (insB l1 x y) (insB l2 x y)=true↔(inRc l1 x y∧inRc l2 x y):=by
 rw [← insB_iff,← insB_iff];simp [keepB]
theorem keep_not (l1 l2:List Rc) (x y:Int):keepB 3 (insB l1 x y) (insB l2 x y)=true↔(inRc l1 x y∧¬ inRc l2 x y):=by
 rw [← insB_iff,← insB_iff];simp [keepB]
theorem NewCan.toB {w:World} {S:Sq} {e:Ending} {w':World} (h:NewCan w S e w') (hb:Board S):∃ a n c l,e=.returned (.slice a n c)∧ScOk2 w' ⟨a,n,c,l⟩∧IsCan S l∧Below w.heap.size w w'∧(∀ b off,a=some ⟨b,off,none⟩→w.heap.size≤b)∧n≤120:=by
 obtain ⟨a,n,c,l,h1,h2,h3,h4,h5⟩:=h.toS (fun x y k=>k) fun x y k=>by have:=hb x y k;omega
 exact ⟨a,n,c,l,h1,h2,h3,h4,h5,by have:=can_120 h3 hb;have:=h2.1.2.1;dsimp only at this;omega⟩
section
variable (a1:Option Addr) (n1 c1:Nat) (l1:List Rc) (a2:Option Addr) (n2 c2:Nat) (l2:List Rc) (w:World)
theorem rmeets_any (h1:ScOk w ⟨a1,n1,c1,l1⟩) (h2:ScOk w ⟨a2,n2,c2,l2⟩) :
  Calls Tryz.prog 25 #[.agg #[.slice a1 n1 c1],.agg #[.slice a2 n2 c2]] w (Says w (Vld l1∧Vld l2∧Meet l1 l2)):=by
 obtain ⟨W,hW⟩:∃ W,(w.alloc (.cells #[.slice a1 n1 c1] 38)).alloc (.cells #[.slice a2 n2 c2] 38)=W:=⟨_,rfl⟩
 have B1:RowKit.Hid (Blk W w.heap.size 38 #[.slice a1 n1 c1]):=by show Blk _ _ _ _;rw [← hW];exact (Blk.new w _ _).alloc _
 have B2:RowKit.Hid (Blk W (w.heap.size+1) 38 #[.slice a2 n2 c2]):=by show Blk _ _ _ _;rw [← hW];exact Blk.fresh (by simp)
 have BB:RowKit.Hid (Below w.heap.size w W):=by show Below _ _ _;rw [← hW];exact Bw.out
 have m1:n1≤100000:=h1.2.2
 have m2:n2≤100000:=h2.2.2
 have HV1:=hid fun W' (hW':Below W.heap.size W W')=>rvalid_any a1 n1 c1 l1 W' (h1.1.below (btr BB.out hW')) h1.2.1 (by omega)
 have HV2:=hid fun W' (hW':Below W.heap.size W W')=>rvalid_any a2 n2 c2 l2 W' (h2.1.below (btr BB.out hW')) h2.2.1 (by omega)
 have HC:=hid fun W' (hW':Below W.heap.size W W')=>comb_any a1 n1 c1 l1 a2 n2 c2 l2 2 _ W' (h1.below (btr BB.out hW')) (h2.below (btr BB.out hW')) (keep_and l1 l2)
 clear h1 h2
 have x1:W.cell? ⟨w.heap.size,0,none⟩=some (.slice a1 n1 c1):=B1.out.cell 0
 have x2:W.cell? ⟨w.heap.size+1,0,none⟩=some (.slice a2 n2 c2):=B2.out.cell 0
 by_cases v1:Vld l1
 ·have V1:=hid v1
  clear v1
  by_cases v2:Vld l2
  ·have V2:=hid v2
   clear v2
   go_enter Tryz.func25,Tryz.ntmps25
   go_wp2_with (first
    | (go_at_call 59;first
     | ((with_reducible refine (HV1.out _ (Below.refl _ _)).mono ?_);rintro e w1 ⟨b1,rfl,hi,hb1⟩;obtain rfl:b1=true:=hi.2 V1.out;clear hi;have y1:=bc1 hb1 x1;have y2:=bc1 hb1 x2;have HB1:=hid hb1;clear hb1)
     | ((with_reducible refine (HV2.out _ HB1.out).mono ?_);rintro e w2 ⟨b2,rfl,hi,hb2⟩;obtain rfl:b2=true:=hi.2 V2.out;clear hi;have z1:=bc1 hb2 y1;have z2:=bc1 hb2 y2;have HB2:=hid (btr HB1.out hb2);clear hb2))
    | (go_at_call 62;refine (HC.out _ HB2.out).mono ?_;rintro e w3 ⟨l3,i3,q3,v3,rfl,o3,hb3⟩;obtain ⟨a3,c3,rfl,-,-,-⟩:=own_form o3;have I3:=hid i3;clear i3 o3))
   go_ret
   refine ⟨_,rfl,(?_:_↔_),btr (btr BB.out HB2.out) hb3⟩
   have hl:=isCan_len I3.out
   rw [decide_eq_true_eq]
   constructor
   ·intro h
    refine ⟨V1.out,V2.out,Classical.byContradiction fun hn=>?_⟩
    have:=hl.2 fun x y k=>hn ⟨x,y,k⟩
    omega
   ·rintro ⟨-,-,x,y,k⟩
    have:¬ l3.length=0:=fun e=>hl.1 e x y k
    omega
  ·have V2:=hid v2
   clear v2
   go_enter Tryz.func25,Tryz.ntmps25
   go_wp2_with (first
    | (go_at_call 59;first
     | ((with_reducible refine (HV1.out _ (Below.refl _ _)).mono ?_);rintro e w1 ⟨b1,rfl,hi,hb1⟩;obtain rfl:b1=true:=hi.2 V1.out;clear hi;have y1:=bc1 hb1 x1;have y2:=bc1 hb1 x2;have HB1:=hid hb1;clear hb1)
     | ((with_reducible refine (HV2.out _ HB1.out).mono ?_);rintro e w2 ⟨b2,rfl,hi,hb2⟩;obtain rfl:b2=false:=no_true fun h=>V2.out (hi.1 h);clear hi;have HB2:=hid (btr HB1.out hb2);clear hb2)))
   go_ret
   exact ⟨false,rfl,⟨(fun h=>by cases h),fun h=>absurd h.2.1 V2.out⟩,btr BB.out HB2.out⟩
 ·have V1:=hid v1
  clear v1
  go_enter Tryz.func25,Tryz.ntmps25
  go_wp2_with (go_at_call 59;refine (HV1.out _ (Below.refl _ _)).mono ?_;rintro e w1 ⟨b1,rfl,hi,hb1⟩;obtain rfl:b1=false:=no_true fun h=>V1.out (hi.1 h);clear hi;have HB1:=hid hb1;clear hb1)
  go_ret
  exact ⟨false,rfl,⟨(fun h=>by cases h),fun h=>absurd h.1 V1.out⟩,btr BB.out HB1.out⟩
theorem rwithin_any (h1:ScOk w ⟨a1,n1,c1,l1⟩) (h2:ScOk w ⟨a2,n2,c2,l2⟩) :
  Calls Tryz.prog 26 #[.agg #[.slice a1 n1 c1],.agg #[.slice a2 n2 c2]] w (Says w (Vld l1∧Vld l2∧∀ x y,inRc l1 x y→inRc l2 x y)):=by
 obtain ⟨W,hW⟩:∃ W,(w.alloc (.cells #[.slice a1 n1 c1] 38)).alloc (.cells #[.slice a2 n2 c2] 38)=W:=⟨_,rfl⟩
 have B1:RowKit.Hid (Blk W w.heap.size 38 #[.slice a1 n1 c1]):=by show Blk _ _ _ _;rw [← hW];exact (Blk.new w _ _).alloc _
 have B2:RowKit.Hid (Blk W (w.heap.size+1) 38 #[.slice a2 n2 c2]):=by show Blk _ _ _ _;rw [← hW];exact Blk.fresh (by simp)
 have BB:RowKit.Hid (Below w.heap.size w W):=by show Below _ _ _;rw [← hW];exact Bw.out
 have m1:n1≤100000:=h1.2.2
 have m2:n2≤100000:=h2.2.2
 have HV1:=hid fun W' (hW':Below W.heap.size W W')=>rvalid_any a1 n1 c1 l1 W' (h1.1.below (btr BB.out hW')) h1.2.1 (by omega)
 have HV2:=hid fun W' (hW':Below W.heap.size W W')=>rvalid_any a2 n2 c2 l2 W' (h2.1.below (btr BB.out hW')) h2.2.1 (by omega)
 have HC:=hid fun W' (hW':Below W.heap.size W W')=>comb_any a1 n1 c1 l1 a2 n2 c2 l2 3 _ W' (h1.below (btr BB.out hW')) (h2.below (btr BB.out hW')) (keep_not l1 l2)
 clear h1 h2
 have x1:W.cell? ⟨w.heap.size,0,none⟩=some (.slice a1 n1 c1):=B1.out.cell 0
 have x2:W.cell? ⟨w.heap.size+1,0,none⟩=some (.slice a2 n2 c2):=B2.out.cell 0
 by_cases v1:Vld l1
 ·have V1:=hid v1
  clear v1
  by_cases v2:Vld l2
  ·have V2:=hid v2
   clear v2
   go_enter Tryz.func26,Tryz.ntmps26
   go_wp2_with (first
    | (go_at_call 59;first
     | ((with_reducible refine (HV1.out _ (Below.refl _ _)).mono ?_);rintro e w1 ⟨b1,rfl,hi,hb1⟩;obtain rfl:b1=true:=hi.2 V1.out;clear hi;have y1:=bc1 hb1 x1;have y2:=bc1 hb1 x2;have HB1:=hid hb1;clear hb1)
     | ((with_reducible refine (HV2.out _ HB1.out).mono ?_);rintro e w2 ⟨b2,rfl,hi,hb2⟩;obtain rfl:b2=true:=hi.2 V2.out;clear hi;have z1:=bc1 hb2 y1;have z2:=bc1 hb2 y2;have HB2:=hid (btr HB1.out hb2);clear hb2))
    | (go_at_call 62;refine (HC.out _ HB2.out).mono ?_;rintro e w3 ⟨l3,i3,q3,v3,rfl,o3,hb3⟩;obtain ⟨a3,c3,rfl,-,-,-⟩:=own_form o3;have I3:=hid i3;clear i3 o3))
   go_ret
   refine ⟨_,rfl,(?_:_↔_),btr (btr BB.out HB2.out) hb3⟩
   have hl:=isCan_len I3.out
   simp only [beq_iff_eq]
   constructor
   ·intro h
    refine ⟨V1.out,V2.out,fun x y k=>Classical.byContradiction fun hn=>?_⟩
    exact hl.1 (by omega) x y ⟨k,hn⟩
   ·rintro ⟨-,-,k⟩
    have:=hl.2 fun x y c=>c.2 (k x y c.1)
    omega
  ·have V2:=hid v2
   clear v2
   go_enter Tryz.func26,Tryz.ntmps26
   go_wp2_with (first
    | (go_at_call 59;first
     | ((with_reducible refine (HV1.out _ (Below.refl _ _)).mono ?_);rintro e w1 ⟨b1,rfl,hi,hb1⟩;obtain rfl:b1=true:=hi.2 V1.out;clear hi;have y1:=bc1 hb1 x1;have y2:=bc1 hb1 x2;have HB1:=hid hb1;clear hb1)
     | ((with_reducible refine (HV2.out _ HB1.out).mono ?_);rintro e w2 ⟨b2,rfl,hi,hb2⟩;obtain rfl:b2=false:=no_true fun h=>V2.out (hi.1 h);clear hi;have HB2:=hid (btr HB1.out hb2);clear hb2)))
   go_ret
   exact ⟨false,rfl,⟨(fun h=>by cases h),fun h=>absurd h.2.1 V2.out⟩,btr BB.out HB2.out⟩
 ·have V1:=hid v1
  clear v1
  go_enter Tryz.func26,Tryz.ntmps26
  go_wp2_with (go_at_call 59;refine (HV1.out _ (Below.refl _ _)).mono ?_;rintro e w1 ⟨b1,rfl,hi,hb1⟩;obtain rfl:b1=false:=no_true fun h=>V1.out (hi.1 h);clear hi;have HB1:=hid hb1;clear hb1)
  go_ret
  exact ⟨false,rfl,⟨(fun h=>by cases h),fun h=>absurd h.1 V1.out⟩,btr BB.out HB1.out⟩
theorem rsame_any (h1:ScOk w ⟨a1,n1,c1,l1⟩) (h2:ScOk w ⟨a2,n2,c2,l2⟩) :
  Calls Tryz.prog 28 #[.agg #[.slice a1 n1 c1],.agg #[.slice a2 n2 c2]] w (Says w (l1=l2)):=by
 obtain ⟨W,hW⟩:∃ W,(w.alloc (.cells #[.slice a1 n1 c1] 38)).alloc (.cells #[.slice a2 n2 c2] 38)=W:=⟨_,rfl⟩
 have B1:RowKit.Hid (Blk W w.heap.size 38 #[.slice a1 n1 c1]):=by show Blk _ _ _ _;rw [← hW];exact (Blk.new w _ _).alloc _
 have B2:RowKit.Hid (Blk W (w.heap.size+1) 38 #[.slice a2 n2 c2]):=by show Blk _ _ _ _;rw [← hW];exact Blk.fresh (by simp)
 have BB:RowKit.Hid (Below w.heap.size w W):=by show Below _ _ _;rw [← hW];exact Bw.out
 have HC:RowKit.Hid (Calls Tryz.prog 63 #[.slice a1 n1 c1,.slice a2 n2 c2] W fun e w'=>e=.returned (.bool (decide (l1=l2)))∧∃ q,w'=W.drewN q) :=
  rects_eq a1 n1 c1 l1 a2 n2 c2 l2 W (h1.1.below BB.out) h1.2.1 (by have:n1≤100000:=h1.2.2;omega) (h2.1.below BB.out) h2.2.1 (by have:n2≤100000:=h2.2.2;omega)
 clear h1 h2
 have x1:W.cell? ⟨w.heap.size,0,none⟩=some (.slice a1 n1 c1):=B1.out.cell 0
 have x2:W.cell? ⟨w.heap.size+1,0,none⟩=some (.slice a2 n2 c2):=B2.out.cell 0
 obtain ⟨v,hv⟩:∃ v,decide (l1=l2)=v:=⟨_,rfl⟩
 rw [hv] at HC
 have HD:=hid hv
 clear hv
 go_enter Tryz.func28,Tryz.ntmps28
 go_wp2_with (go_at_call 63;refine HC.out.mono ?_;rintro e w3 ⟨rfl,q3,rfl⟩)
 go_ret
 exact ⟨v,rfl,by rw [← HD.out,decide_eq_true_eq],(by (repeat (with_reducible first | exact BB.out | exact Below.refl _ _ | refine bdr ?_ | refine bdn ?_ _ | refine bal ?_ _)))⟩
end
section
variable (a1:Option Addr) (n1 c1:Nat) (l1:List Rc) (a2:Option Addr) (n2 c2:Nat) (l2:List Rc) (w:World)
theorem rhas_any (x y:Int) (h1:ScOk w ⟨a1,n1,c1,l1⟩) :
  Calls Tryz.prog 47 #[.agg #[.slice a1 n1 c1],.int .i64 x,.int .i64 y] w (Says w (Vld l1∧inRc l1 x y)):=by
 obtain ⟨W,hW⟩:∃ W,w.alloc (.cells #[.slice a1 n1 c1] 38)=W:=⟨_,rfl⟩
 have B1:RowKit.Hid (Blk W w.heap.size 38 #[.slice a1 n1 c1]):=by show Blk _ _ _ _;rw [← hW];exact Blk.new w _ _
 have BB:RowKit.Hid (Below w.heap.size w W):=by show Below _ _ _;rw [← hW];exact Bw.out
 have m1:n1≤100000:=h1.2.2
 have HV1:=hid fun W' (hW':Below W.heap.size W W')=>rvalid_any a1 n1 c1 l1 W' (h1.1.below (btr BB.out hW')) h1.2.1 (by omega)
 have HI:=hid fun W' (hW':Below W.heap.size W W')=>inside_any a1 n1 c1 l1 x y W' (h1.1.below (btr BB.out hW')) h1.2.1 (by omega)
 clear h1
 have x1:W.cell? ⟨w.heap.size,0,none⟩=some (.slice a1 n1 c1):=B1.out.cell 0
 by_cases v1:Vld l1
 ·have V1:=hid v1
  clear v1
  go_enter Tryz.func47,Tryz.ntmps47
  go_wp2_with (first
   | (go_at_call 59;(with_reducible refine (HV1.out _ (Below.refl _ _)).mono ?_);rintro e w1 ⟨b1,rfl,hi,hb1⟩;obtain rfl:b1=true:=hi.2 V1.out;clear hi;have y1:=bc1 hb1 x1;have HB1:=hid hb1;clear hb1)
   | (go_at_call 87;refine (HI.out _ HB1.out).mono ?_;rintro e w3 ⟨rfl,hb3⟩))
  go_ret
  refine ⟨_,rfl,(?_:_↔_),btr (btr BB.out HB1.out) hb3⟩
  rw [insB_iff]
  exact ⟨fun h=>⟨V1.out,h⟩,fun h=>h.2⟩
 ·have V1:=hid v1
  clear v1
  go_enter Tryz.func47,Tryz.ntmps47
  go_wp2_with (go_at_call 59;refine (HV1.out _ (Below.refl _ _)).mono ?_;rintro e w1 ⟨b1,rfl,hi,hb1⟩;obtain rfl:b1=false:=no_true fun h=>V1.out (hi.1 h);clear hi;have HB1:=hid hb1;clear hb1)
  go_ret
  exact ⟨false,rfl,⟨(fun h=>by cases h),fun h=>absurd h.1 V1.out⟩,btr BB.out HB1.out⟩
end
end Go.Proofs.YtancajcelmhnkaaGreatDoor
