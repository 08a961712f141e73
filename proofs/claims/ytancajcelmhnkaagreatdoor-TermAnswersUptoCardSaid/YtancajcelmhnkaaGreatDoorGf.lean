/- The reference's sorted lists of integers: one more put in its place. -/
import Derived.Test.YtancajcelmhnkaaGreatDoorGc
set_option maxRecDepth 100000
set_option maxHeartbeats 4000000
namespace Go.Proofs.YtancajcelmhnkaaGreatDoor
open Go.RowKit Go.Sort
set_option linter.unusedVariables false
set_option linter.unusedSimpArgs false
def putI:List Int→Int→List Int
 | [],n=>[n]
 | x :: l,n=>if x<n then x :: putI l n else if x=n then x :: l else n :: x :: l
theorem putI_len (l:List Int) (n:Int):(putI l n).length≤l.length+1:=by
 induction l with
 | nil=>simp [putI]
 | cons x l ih=>unfold putI;split <;> (try split) <;> simp <;> omega
theorem putI_mem (l:List Int) (n m:Int):m ∈ putI l n↔m=n∨m ∈ l:=by
 induction l with
 | nil=>simp [putI]
 | cons x l ih =>
  unfold putI
  split
  ·simp [ih];constructor <;> rintro (h | h | h) <;> simp [h]
  ·split
   ·rename_i h;subst h;simp
   ·simp
theorem putI_asc {l:List Int} {n:Int} (h:l.Pairwise (· < ·)):(putI l n).Pairwise (· < ·):=by
 induction l with
 | nil=>simp [putI]
 | cons x l ih =>
  have h1:=List.pairwise_cons.1 h
  unfold putI
  split
  ·refine List.pairwise_cons.2 ⟨fun m hm=>?_,ih h1.2⟩
   rcases (putI_mem l n m).1 hm with rfl | hm
   ·assumption
   ·exact h1.1 m hm
  ·split
   ·exact h
   ·refine List.pairwise_cons.2 ⟨fun m hm=>?_,h⟩
    rcases List.mem_cons.1 hm with rfl | hm
    ·omega
    ·have:=h1.1 m hm;omega
theorem putI_at {l:List Int} {n:Int} {k:Nat} (hk:k≤l.length) (h:∀ j (hj:j<l.length),j<k→l[j]<n) (he:∀ hj:k<l.length,¬ l[k]<n) :
  putI l n=if h:∃ hj:k<l.length,l[k]=n then l else l.take k++n :: l.drop k:=by
 induction l generalizing k with
 | nil=>simp [putI] at hk ⊢
 | cons x l ih =>
  cases k with
  | zero =>
   have h0:=he (by simp)
   simp at h0
   unfold putI
   rw [if_neg (by omega)]
   by_cases hx:x=n
   ·rw [if_pos hx,dif_pos ⟨by simp,by simpa using hx⟩]
   ·rw [if_neg hx,dif_neg (by rintro ⟨_,h⟩;exact hx (by simpa using h))];simp
  | succ k =>
   have h0:=h 0 (by simp) (by omega)
   simp at h0
   unfold putI
   rw [if_pos h0,ih (k:=k) (by simpa using hk) (fun j hj hjk=>by have:=h (j+1) (by simp;omega) (by omega);simpa using this) (fun hj=>by have:=he (by simp;omega);simpa using this)]
   by_cases hx:∃ hj:k<l.length,l[k]=n
   ·obtain ⟨hj,hx⟩:=hx
    rw [dif_pos ⟨hj,hx⟩,dif_pos ⟨by simp;omega,by simpa using hx⟩]
   ·rw [dif_neg hx,dif_neg (by rintro ⟨hj,h⟩;exact hx ⟨by simpa using hj,by simpa using h⟩)];simp
theorem Vw.drop {w:World} {b off:Nat} {xs:List Value} (h:Vw w (some ⟨b,off,none⟩) xs) (k:Nat):Vw w (some ⟨b,off+k,none⟩) (xs.drop k):=fun i v hi=>by
 rw [List.getElem?_drop] at hi
 obtain ⟨b',off',e,hc⟩:=h _ _ hi
 cases e
 exact ⟨b,off+k,rfl,by rwa [Nat.add_assoc]⟩
def VwInt (w:World) (l:List Int) (e:Ending) (w':World):Prop:=∃ a cap,e=.returned (.slice a l.length cap)∧Vw w' a (intCells l)∧l.length≤cap∧cap≤maxLen∧(a=none→cap=0)∧Below w.heap.size w w'
theorem oneC_take {l:List Value} (h:OneC l) (n:Nat):OneC (l.take n):=fun u hu=>h u (List.mem_of_mem_take hu)
theorem vwInt_of {w w':World} {l:List Int} {a:Option Addr} {n cap base:Nat} {t:TypeId} {xs:List Value} (hn:n=l.length) (h:w'.ownsRow base t 1 (.slice a n cap) n xs) (hx:xs=intCells l) (hb:Below w.heap.size w w'):VwInt w l (.returned (.slice a n cap)) w':=by
 subst hn hx
 obtain ⟨a',cap',e,h1,h2,h3⟩:=own_form h
 cases e
 refine ⟨_,_,rfl,vw_of_own h,h1,h2,fun hn=>?_,hb⟩
 rcases h3 with ⟨_,_,h⟩ | ⟨g,h,_⟩
 ·exact h
 ·rw [hn] at h;cases h
theorem put_any (a:Option Addr) (len cap:Nat) (l:List Int) (n:Int) (w:World) (hV:Vw w a (intCells l)) (hn:l.length=len) (hc:len≤cap) (hm:cap≤maxLen) (hl:len≤1000000000000) (h0:a=none→cap=0) :
  Calls Tryz.prog 106 #[.slice a len cap,.int .i64 n] w (VwInt w (putI l n)):=by
 unfold maxLen at hm
 have HV:=hid hV;have HN:=hid hn;have H0:=hid h0
 clear hV hn h0
 go_enter Tryz.func106,Tryz.ntmps106
 go_wp2
 go_loop [5] (fun i=>∃ k:Nat,k≤len∧i=.int .i64 k∧∀ j (hj:j<l.length),j<k→l[j]<n) (fun i=>len - (intOf i).toNat)
 case atStart=>exact ⟨0,Nat.zero_le _,rfl,fun j _ h=>by omega⟩
 case round =>
  obtain ⟨k,hk,rfl,hno⟩:=hrel
  have NO:=hid hno
  clear hno
  by_cases hlt:k<len
  ·have hlt':(k:Int)<(len:Int):=by omega
   have g1:k<l.length:=by have:=HN.out;omega
   obtain ⟨b,off,rfl,hbl,c0⟩:=HV.out.int k g1
   obtain ⟨x,hx⟩:∃ x,l[k]'g1=x:=⟨_,rfl⟩
   rw [hx] at c0
   have HX:=hid hx
   clear hx
   by_cases hxn:x<n
   ·go_wp2
    go_round
    case rel =>
     refine ⟨k+1,by omega,by go_num,fun j hj hjk=>?_⟩
     by_cases e:j=k
     ·subst e;rw [HX.out];exact hxn
     ·exact NO.out j hj (by omega)
    case measure=>simp [intOf];omega
   ·by_cases hxe:x=n
    ·subst hxe
     go_wp2
     go_ret
     have e:putI l x=l:=by
      rw [putI_at (k:=k) (by omega) NO.out (fun hj=>by rw [HX.out];omega),dif_pos ⟨g1,HX.out⟩]
     rw [e]
     have hN:=HN.out
     subst hN
     exact ⟨_,_,rfl,HV.out,hc,by unfold maxLen;omega,by simp,Below.refl _ _⟩
    ·have be:(x == n)=false:=by simpa using hxe
     have HXE:=hid hxe
     clear hxe
     go_wp2
     have EQ:RowKit.Hid (putI l n=l.take k++n :: l.drop k):=by
      show putI l n=_
      rw [putI_at (k:=k) (by omega) NO.out (fun hj=>by rw [HX.out];omega),dif_neg (by rintro ⟨hj,h⟩;exact HXE.out (HX.out.symm.trans h))]
     have LEN:RowKit.Hid (k+1+(len - k)=(putI l n).length):=by
      show _=(putI l n).length
      have:=HN.out
      rw [EQ.out,List.length_append,List.length_cons,List.length_take,List.length_drop];omega
     have VP:=hid (HV.out.take k)
     have LP:RowKit.Hid (((intCells l).take k).length=k * 1):=by have:=HN.out;show ((intCells l).take k).length=_;rw [List.length_take,List.length_map];omega
     have LS:RowKit.Hid (((intCells l).drop k).length=(len - k) * 1):=by have:=HN.out;show ((intCells l).drop k).length=_;rw [List.length_drop,List.length_map];omega
     have O2:RowKit.Hid (OneC ((intCells l).drop k)):=fun u hu=>oneC_int l u (List.mem_of_mem_drop hu)
     have VS:=hid (HV.out.drop k)
     have hck:¬ cap=k:=by omega
     have i1:(0:Int)≤(k:Int):=by omega
     have i2:(k:Int)≤(cap:Int):=by omega
     have i3:(k:Int)≤(len:Int):=by omega
     go_region_held3 (fun _=>True) (trivial) (first
      | (refine app_step elInt (by rfl) _ _ (by rfl) w.heap.size (.slice (some ⟨w.heap.size,0,none⟩) 0 0) 0 [] (by rfl) (own_lit0 (t:=3) (by first | exact Blk.fresh (by simp) | exact (Blk.fresh (by simp)).drew | exact (Blk.fresh (by simp)).alloc _ | exact ((Blk.fresh (by simp)).alloc _).drew) (by omega)) _ k _ ((intCells l).take k) (by rfl) (VP.out.below (by (repeat (with_reducible first | exact Below.refl _ _ | refine bdr ?_ | refine bal ?_ _)))) (by simp) LP.out (oneC_take (oneC_int _) _) (by omega) (by (simp <;> omega)) ?_;intro v1 w1 hown1 hg1 hat1;have K1:=fun g cs (h:Blk _ g 3 cs) (hne:g ≠ w.heap.size)=>Eq.trans (hg1.block g (Blk.lt h) (by simpa [Value.ownBlock] using hne)) h;have B1:Below w.heap.size w w1:=Below.grown (by (repeat (with_reducible first | exact Below.refl _ _ | refine bdr ?_ | refine bal ?_ _))) hg1 (by (simp <;> omega)) (by intro q hq;simp [Value.ownBlock] at hq;omega);have z1:=B1.size)
      | (refine app_step elInt (by rfl) _ _ (by rfl) w.heap.size (.slice (some ⟨w.heap.size+1,0,none⟩) 0 0) 0 [] (by rfl) (own_lit0 (t:=3) (by first | exact Blk.fresh (by simp) | exact (Blk.fresh (by simp)).drew | exact (Blk.fresh (by simp)).alloc _ | exact ((Blk.fresh (by simp)).alloc _).drew) (by omega)) _ k _ ((intCells l).take k) (by rfl) (VP.out.below (by (repeat (with_reducible first | exact Below.refl _ _ | refine bdr ?_ | refine bal ?_ _)))) (by simp) LP.out (oneC_take (oneC_int _) _) (by omega) (by (simp <;> omega)) ?_;intro v1 w1 hown1 hg1 hat1;have K1:=fun g cs (h:Blk _ g 3 cs) (hne:g ≠ w.heap.size+1)=>Eq.trans (hg1.block g (Blk.lt h) (by simpa [Value.ownBlock] using hne)) h;have B1:Below w.heap.size w w1:=Below.grown (by (repeat (with_reducible first | exact Below.refl _ _ | refine bdr ?_ | refine bal ?_ _))) hg1 (by (simp <;> omega)) (by intro q hq;simp [Value.ownBlock] at hq;omega);have z1:=B1.size)
      | (refine app_step elInt (by rfl) _ _ (by rfl) w.heap.size v1 (0+k) _ (by rfl) (by first | exact hown1 | exact hown1.alloc _) _ 1 _ [.int .i64 n] (by rfl) (by first | exact vw_blk (Blk.fresh (by simp)) | exact vw_blk (K1 (w.heap.size+1) #[.int .i64 n] (by first | exact Blk.fresh (by simp) | exact (Blk.fresh (by simp)).drew | exact (Blk.fresh (by simp)).alloc _ | exact ((Blk.fresh (by simp)).alloc _).drew) (by omega)) | exact vw_blk (K1 w.heap.size #[.int .i64 n] (by first | exact Blk.fresh (by simp) | exact (Blk.fresh (by simp)).drew | exact (Blk.fresh (by simp)).alloc _ | exact ((Blk.fresh (by simp)).alloc _).drew) (by omega))) (by simp) (by rfl) (by intro u hu;simp at hu;(try rcases hu with rfl | rfl | rfl | rfl | rfl | rfl | rfl) <;> (try subst hu) <;> rfl) (by omega) (by first | exact z1 | (simp;omega)) ?_;intro v2 w2 hown2 hg2 hat2;have B2:Below w.heap.size w w2:=Below.grown (by (repeat (with_reducible first | exact B1 | exact Below.refl _ _ | refine bdr ?_ | refine bal ?_ _))) hg2 (by first | exact z1 | (simp;omega)) (by intro q hq;exact (hown1.lt q hq).1);have z2:=B2.size)
      | (refine app_step elInt (by rfl) _ _ (by rfl) w.heap.size v2 (0+k+1) _ (by rfl) hown2 _ (len - k) _ ((intCells l).drop k) (by rfl) (VS.out.below B2) (by simp) LS.out O2.out (by omega) z2 ?_;intro v3 w3 hown3 hg3 hat3;have B3:Below w.heap.size w w3:=Below.grown B2 hg3 z2 (by intro q hq;exact (hown2.lt q hq).1);obtain ⟨a3,cap3,rfl,q31,q32,q33⟩:=own_form hown3))
     all_goals
      go_wp2
      go_ret
      (try simp only [Nat.zero_add,Nat.add_zero] at hown3)
      exact vwInt_of LEN.out hown3 (by rw [EQ.out];simp [intCells]) B3
  ·obtain rfl:k=len:=by omega
   have hge:¬ (k:Int)<(k:Int):=by omega
   have EQ:RowKit.Hid (putI l n=l.take k++n :: l.drop k):=by
    show putI l n=_
    rw [putI_at (k:=k) (by have:=HN.out;omega) NO.out (fun hj=>by have:=HN.out;omega),dif_neg (by rintro ⟨hj,h⟩;have:=HN.out;omega)]
   have LEN:RowKit.Hid (k+1=(putI l n).length):=by
    show _=(putI l n).length
    have:=HN.out
    rw [EQ.out,List.length_append,List.length_cons,List.length_take,List.length_drop];omega
   have VP:=hid (HV.out.take k)
   have LP:RowKit.Hid (((intCells l).take k).length=k * 1):=by have:=HN.out;show ((intCells l).take k).length=_;rw [List.length_take,List.length_map];omega
   have LS:RowKit.Hid (((intCells l).drop k).length=0 * 1):=by have:=HN.out;show ((intCells l).drop k).length=_;rw [List.length_drop,List.length_map];omega
   have O2:RowKit.Hid (OneC ((intCells l).drop k)):=fun u hu=>oneC_int l u (List.mem_of_mem_drop hu)
   have VS:RowKit.Hid (∀ a,Vw w a ((intCells l).drop k)):=fun a=>by
    have e:(intCells l).drop k=[]:=List.eq_nil_of_length_eq_zero (by simpa using LS.out)
    rw [e];exact Vw.nil _ _
   have i1:(0:Int)≤(k:Int):=by omega
   have i2:(k:Int)≤(cap:Int):=by omega
   by_cases hck:cap=k
   ·obtain rfl:k=cap:=hck.symm
    go_wp2
    go_region_held3 (fun _=>True) (trivial) (first
      | (refine app_step elInt (by rfl) _ _ (by rfl) w.heap.size (.slice (some ⟨w.heap.size,0,none⟩) 0 0) 0 [] (by rfl) (own_lit0 (t:=3) (by first | exact Blk.fresh (by simp) | exact (Blk.fresh (by simp)).drew | exact (Blk.fresh (by simp)).alloc _ | exact ((Blk.fresh (by simp)).alloc _).drew) (by omega)) _ k _ ((intCells l).take k) (by rfl) (VP.out.below (by (repeat (with_reducible first | exact Below.refl _ _ | refine bdr ?_ | refine bal ?_ _)))) (by intro h;have:=H0.out h;omega) LP.out (oneC_take (oneC_int _) _) (by omega) (by (simp <;> omega)) ?_;intro v1 w1 hown1 hg1 hat1;have K1:=fun g cs (h:Blk _ g 3 cs) (hne:g ≠ w.heap.size)=>Eq.trans (hg1.block g (Blk.lt h) (by simpa [Value.ownBlock] using hne)) h;have B1:Below w.heap.size w w1:=Below.grown (by (repeat (with_reducible first | exact Below.refl _ _ | refine bdr ?_ | refine bal ?_ _))) hg1 (by (simp <;> omega)) (by intro q hq;simp [Value.ownBlock] at hq;omega);have z1:=B1.size)
      | (refine app_step elInt (by rfl) _ _ (by rfl) w.heap.size (.slice (some ⟨w.heap.size+1,0,none⟩) 0 0) 0 [] (by rfl) (own_lit0 (t:=3) (by first | exact Blk.fresh (by simp) | exact (Blk.fresh (by simp)).drew | exact (Blk.fresh (by simp)).alloc _ | exact ((Blk.fresh (by simp)).alloc _).drew) (by omega)) _ k _ ((intCells l).take k) (by rfl) (VP.out.below (by (repeat (with_reducible first | exact Below.refl _ _ | refine bdr ?_ | refine bal ?_ _)))) (by intro h;have:=H0.out h;omega) LP.out (oneC_take (oneC_int _) _) (by omega) (by (simp <;> omega)) ?_;intro v1 w1 hown1 hg1 hat1;have K1:=fun g cs (h:Blk _ g 3 cs) (hne:g ≠ w.heap.size+1)=>Eq.trans (hg1.block g (Blk.lt h) (by simpa [Value.ownBlock] using hne)) h;have B1:Below w.heap.size w w1:=Below.grown (by (repeat (with_reducible first | exact Below.refl _ _ | refine bdr ?_ | refine bal ?_ _))) hg1 (by (simp <;> omega)) (by intro q hq;simp [Value.ownBlock] at hq;omega);have z1:=B1.size)
      | (refine app_step elInt (by rfl) _ _ (by rfl) w.heap.size v1 (0+k) _ (by rfl) (by first | exact hown1 | exact hown1.alloc _) _ 1 _ [.int .i64 n] (by rfl) (by first | exact vw_blk (Blk.fresh (by simp)) | exact vw_blk (K1 (w.heap.size+1) #[.int .i64 n] (by first | exact Blk.fresh (by simp) | exact (Blk.fresh (by simp)).drew | exact (Blk.fresh (by simp)).alloc _ | exact ((Blk.fresh (by simp)).alloc _).drew) (by omega)) | exact vw_blk (K1 w.heap.size #[.int .i64 n] (by first | exact Blk.fresh (by simp) | exact (Blk.fresh (by simp)).drew | exact (Blk.fresh (by simp)).alloc _ | exact ((Blk.fresh (by simp)).alloc _).drew) (by omega))) (by simp) (by rfl) (by intro u hu;simp at hu;(try rcases hu with rfl | rfl | rfl | rfl | rfl | rfl | rfl) <;> (try subst hu) <;> rfl) (by omega) (by first | exact z1 | (simp;omega)) ?_;intro v2 w2 hown2 hg2 hat2;have B2:Below w.heap.size w w2:=Below.grown (by (repeat (with_reducible first | exact B1 | exact Below.refl _ _ | refine bdr ?_ | refine bal ?_ _))) hg2 (by first | exact z1 | (simp;omega)) (by intro q hq;exact (hown1.lt q hq).1);have z2:=B2.size)
      | (refine app_step elInt (by rfl) _ _ (by rfl) w.heap.size v2 (0+k+1) _ (by rfl) hown2 _ (0) _ ((intCells l).drop k) (by rfl) ((VS.out _).below B2) (by simp) LS.out O2.out (by omega) z2 ?_;intro v3 w3 hown3 hg3 hat3;have B3:Below w.heap.size w w3:=Below.grown B2 hg3 z2 (by intro q hq;exact (hown2.lt q hq).1);obtain ⟨a3,cap3,rfl,q31,q32,q33⟩:=own_form hown3))
    all_goals
     go_wp2
     go_ret
     (try simp only [Nat.zero_add,Nat.add_zero] at hown3)
     exact vwInt_of LEN.out hown3 (by rw [EQ.out];simp [intCells]) B3
   ·go_wp2
    go_region_held3 (fun _=>True) (trivial) (first
      | (refine app_step elInt (by rfl) _ _ (by rfl) w.heap.size (.slice (some ⟨w.heap.size,0,none⟩) 0 0) 0 [] (by rfl) (own_lit0 (t:=3) (by first | exact Blk.fresh (by simp) | exact (Blk.fresh (by simp)).drew | exact (Blk.fresh (by simp)).alloc _ | exact ((Blk.fresh (by simp)).alloc _).drew) (by omega)) _ k _ ((intCells l).take k) (by rfl) (VP.out.below (by (repeat (with_reducible first | exact Below.refl _ _ | refine bdr ?_ | refine bal ?_ _)))) (by intro h;have:=H0.out h;omega) LP.out (oneC_take (oneC_int _) _) (by omega) (by (simp <;> omega)) ?_;intro v1 w1 hown1 hg1 hat1;have K1:=fun g cs (h:Blk _ g 3 cs) (hne:g ≠ w.heap.size)=>Eq.trans (hg1.block g (Blk.lt h) (by simpa [Value.ownBlock] using hne)) h;have B1:Below w.heap.size w w1:=Below.grown (by (repeat (with_reducible first | exact Below.refl _ _ | refine bdr ?_ | refine bal ?_ _))) hg1 (by (simp <;> omega)) (by intro q hq;simp [Value.ownBlock] at hq;omega);have z1:=B1.size)
      | (refine app_step elInt (by rfl) _ _ (by rfl) w.heap.size (.slice (some ⟨w.heap.size+1,0,none⟩) 0 0) 0 [] (by rfl) (own_lit0 (t:=3) (by first | exact Blk.fresh (by simp) | exact (Blk.fresh (by simp)).drew | exact (Blk.fresh (by simp)).alloc _ | exact ((Blk.fresh (by simp)).alloc _).drew) (by omega)) _ k _ ((intCells l).take k) (by rfl) (VP.out.below (by (repeat (with_reducible first | exact Below.refl _ _ | refine bdr ?_ | refine bal ?_ _)))) (by intro h;have:=H0.out h;omega) LP.out (oneC_take (oneC_int _) _) (by omega) (by (simp <;> omega)) ?_;intro v1 w1 hown1 hg1 hat1;have K1:=fun g cs (h:Blk _ g 3 cs) (hne:g ≠ w.heap.size+1)=>Eq.trans (hg1.block g (Blk.lt h) (by simpa [Value.ownBlock] using hne)) h;have B1:Below w.heap.size w w1:=Below.grown (by (repeat (with_reducible first | exact Below.refl _ _ | refine bdr ?_ | refine bal ?_ _))) hg1 (by (simp <;> omega)) (by intro q hq;simp [Value.ownBlock] at hq;omega);have z1:=B1.size)
      | (refine app_step elInt (by rfl) _ _ (by rfl) w.heap.size v1 (0+k) _ (by rfl) (by first | exact hown1 | exact hown1.alloc _) _ 1 _ [.int .i64 n] (by rfl) (by first | exact vw_blk (Blk.fresh (by simp)) | exact vw_blk (K1 (w.heap.size+1) #[.int .i64 n] (by first | exact Blk.fresh (by simp) | exact (Blk.fresh (by simp)).drew | exact (Blk.fresh (by simp)).alloc _ | exact ((Blk.fresh (by simp)).alloc _).drew) (by omega)) | exact vw_blk (K1 w.heap.size #[.int .i64 n] (by first | exact Blk.fresh (by simp) | exact (Blk.fresh (by simp)).drew | exact (Blk.fresh (by simp)).alloc _ | exact ((Blk.fresh (by simp)).alloc _).drew) (by omega))) (by simp) (by rfl) (by intro u hu;simp at hu;(try rcases hu with rfl | rfl | rfl | rfl | rfl | rfl | rfl) <;> (try subst hu) <;> rfl) (by omega) (by first | exact z1 | (simp;omega)) ?_;intro v2 w2 hown2 hg2 hat2;have B2:Below w.heap.size w w2:=Below.grown (by (repeat (with_reducible first | exact B1 | exact Below.refl _ _ | refine bdr ?_ | refine bal ?_ _))) hg2 (by first | exact z1 | (simp;omega)) (by intro q hq;exact (hown1.lt q hq).1);have z2:=B2.size)
      | (refine app_step elInt (by rfl) _ _ (by rfl) w.heap.size v2 (0+k+1) _ (by rfl) hown2 _ (0) _ ((intCells l).drop k) (by rfl) ((VS.out _).below B2) (by simp) LS.out O2.out (by omega) z2 ?_;intro v3 w3 hown3 hg3 hat3;have B3:Below w.heap.size w w3:=Below.grown B2 hg3 z2 (by intro q hq;exact (hown2.lt q hq).1);obtain ⟨a3,cap3,rfl,q31,q32,q33⟩:=own_form hown3))
    all_goals
     go_wp2
     go_ret
     (try simp only [Nat.zero_add,Nat.add_zero] at hown3)
     exact vwInt_of LEN.out hown3 (by rw [EQ.out];simp [intCells]) B3
def inq (q:Rc) (x y:Int):Prop:=q.1≤x∧x<q.2.2.1∧q.2.1≤y∧y<q.2.2.2
instance (q:Rc) (x y:Int):Decidable (inq q x y):=by unfold inq;infer_instance
def insB (l:List Rc) (x y:Int):Bool:=l.any fun q=>decide (inq q x y)
theorem insB_iff (l:List Rc) (x y:Int):insB l x y=true↔inRc l x y:=by
 unfold insB inRc inq
 rw [List.any_eq_true]
 constructor
 ·rintro ⟨q,hq,h⟩;exact ⟨q,hq,by have:=of_decide_eq_true h;exact this⟩
 ·rintro ⟨q,hq,h⟩;exact ⟨q,hq,decide_eq_true h⟩
theorem insB_no {l:List Rc} {x y:Int} (h:∀ j (hj:j<l.length),¬ inq l[j] x y):insB l x y=false:=by
 unfold insB
 rw [List.any_eq_false]
 intro q hq
 obtain ⟨j,hj,rfl⟩:=List.getElem_of_mem hq
 simpa using h j hj
theorem insB_yes {l:List Rc} {x y:Int} (j:Nat) (hj:j<l.length) (h:inq l[j] x y):insB l x y=true:=by
 unfold insB
 rw [List.any_eq_true]
 exact ⟨l[j],List.getElem_mem hj,by simpa using h⟩
def LookI (w:World) (n:Nat) (P:Nat→Prop) (i:Value) (wr:World):Prop:=∃ k:Nat,k≤n∧i=.int .i64 k∧Below w.heap.size w wr∧P k
theorem inside_any (a:Option Addr) (n cap:Nat) (l:List Rc) (x y:Int) (w:World) (hV:Vw w a (rcCells l)) (hn:l.length=n) (hc:n≤9223372036854775807) :
    Calls Tryz.prog 87 #[.slice a n cap,.int .i64 x,.int .i64 y] w fun e w'=>e=.returned (.bool (insB l x y))∧Below w.heap.size w w':=by
  have HV:=hid hV;have HN:=hid hn
  clear hV hn
  go_enter Tryz.func87,Tryz.ntmps87
  go_wp2
  go_loopw [11] (fun i wr=>LookI w n (fun k=>∀ j (hj:j<l.length),j<k→¬ inq l[j] x y) i wr) (fun i _=>n - (intOf i).toNat)
  case atStart=>exact ⟨0,Nat.zero_le _,rfl,Below.refl _ _,fun j _ h=>by omega⟩
  case round =>
    obtain ⟨k,hk,rfl,hb,hno⟩:=hrel
    have NO:=hid hno
    clear hno
    by_cases hlt:k<n
    · have hlt':(k:Int)<(n:Int):=by omega
      obtain ⟨b,off,rfl,hbl,c0,c1,c2,c3⟩:=(HV.out.below hb).rc k (by have:=HN.out;omega)
      obtain ⟨q,hq⟩:∃ q,l[k]'(by have:=HN.out;omega)=q:=⟨_,rfl⟩
      rw [hq] at c0 c1 c2 c3
      have HQ:=hid hq
      clear hq
      obtain ⟨q0,q1,q2,q3⟩:=q
      dsimp only at c0 c1 c2 c3
      have HB:=hid hb
      clear hb
      go_wp2
      all_goals first
        | (go_ret
           refine ⟨ret_bool (insB_yes k (by have:=HN.out;omega) ?_).symm,?_⟩
           · rw [HQ.out];exact ⟨by assumption,by assumption,by assumption,by assumption⟩
           · exact bal HB.out _)
        | (go_roundw
           case rel =>
             refine ⟨k+1,by omega,by go_num,bal HB.out _,fun j hj hjk=>?_⟩
             by_cases e:j=k
             · subst e;rw [HQ.out];unfold inq;dsimp only;omega
             · exact NO.out j hj (by omega)
           case measure=>simp [intOf];omega)
    · have hge:¬ (k:Int)<(n:Int):=by omega
      have HB:=hid hb
      clear hb
      go_wp2
      go_ret
      exact ⟨ret_bool (insB_no fun j hj=>NO.out j hj (by have:=HN.out;omega)).symm,HB.out⟩
def keepB (how:Int) (p q:Bool):Bool:=if how=1 then p || q else if how=2 then p && q else p && !q
theorem keep_any (p q:Bool) (how:Int) (w:World):Calls Tryz.prog 107 #[.bool p,.bool q,.int .i64 how] w fun e w'=>e=.returned (.bool (keepB how p q))∧w'=w:=by
 by_cases h1:how=1
 ·subst h1
  cases p <;> cases q <;>
  ·go_enter Tryz.func107,Tryz.ntmps107
   go_wp2
   go_ret
   exact ⟨rfl,rfl⟩
 ·have b1:(how == 1)=false:=by simpa using h1
  by_cases h2:how=2
  ·subst h2
   cases p <;> cases q <;>
   ·go_enter Tryz.func107,Tryz.ntmps107
    go_wp2
    go_ret
    exact ⟨rfl,rfl⟩
  ·have b2:(how == 2)=false:=by simpa using h2
   have e:∀ p q,keepB how p q=(p && !q):=fun p q=>by unfold keepB;rw [if_neg h1,if_neg h2]
   rw [e]
   have K1:=hid h1;have K2:=hid h2
   clear h1 h2 e
   cases p <;> cases q <;>
   ·go_enter Tryz.func107,Tryz.ntmps107
    go_wp2
    go_ret
    exact ⟨rfl,rfl⟩
def sameB (l m:List Rc):Bool:=decide (l.map (fun q=>(q.1,q.2.2.1))=m.map fun q=>(q.1,q.2.2.1))
theorem sameB_len {l m:List Rc} (h:l.length ≠ m.length):sameB l m=false:=by
 unfold sameB
 rw [decide_eq_false_iff_not]
 intro c
 have:=congrArg List.length c
 simp at this;exact h this
theorem sameB_yes {l m:List Rc} (hl:l.length=m.length) (h:∀ j (h1:j<l.length) (h2:j<m.length),l[j].1=m[j].1∧l[j].2.2.1=m[j].2.2.1):sameB l m=true:=by
 unfold sameB
 rw [decide_eq_true_eq]
 apply List.ext_getElem (by simpa using hl)
 intro j h1 h2
 simp at h1 h2 ⊢
 exact h j h1 h2
theorem sameB_no {l m:List Rc} (j:Nat) (h1:j<l.length) (h2:j<m.length) (h:¬ (l[j].1=m[j].1∧l[j].2.2.1=m[j].2.2.1)):sameB l m=false:=by
 unfold sameB
 rw [decide_eq_false_iff_not]
 intro c
 have:=congrArg (fun z=>z[j]?) c
 simp [h1,h2] at this
 exact h this
def LookQ (w:World) (n:Nat) (P:Nat→Prop) (i:Value) (wr:World):Prop:=∃ k:Nat,k≤n∧i=.int .i64 k∧(∃ q,wr=w.drewN q)∧P k
theorem dq (w:World) (a b:Nat):∃ q,(w.drewN a).drewN b=w.drewN q:=⟨a+b,World.drewN_drewN _ _ _⟩
theorem Vw.drewN {w:World} {a:Option Addr} {xs:List Value} (h:Vw w a xs) (q:Nat):Vw (w.drewN q) a xs:=h
theorem same_any (a1:Option Addr) (n1 c1:Nat) (l1:List Rc) (a2:Option Addr) (n2 c2:Nat) (l2:List Rc) (w:World) (hV:Vw w a1 (rcCells l1)) (hn:l1.length=n1) (hc:n1≤9223372036854775807)
  (hV2:Vw w a2 (rcCells l2)) (hn2:l2.length=n2) (hc2:n2≤9223372036854775807) :
  Calls Tryz.prog 108 #[.slice a1 n1 c1,.slice a2 n2 c2] w fun e w'=>e=.returned (.bool (sameB l1 l2))∧∃ q,w'=w.drewN q:=by
 have HV:=hid hV;have HN:=hid hn;have HV2:=hid hV2;have HN2:=hid hn2
 clear hV hn hV2 hn2
 by_cases hne:n1=n2
 ·subst hne
  go_enter Tryz.func108,Tryz.ntmps108
  go_wp2
  go_loopw [13] (fun i wr=>LookQ w n1 (fun k=>∀ j (h1:j<l1.length) (h2:j<l2.length),j<k→l1[j].1=l2[j].1∧l1[j].2.2.1=l2[j].2.2.1) i wr) (fun i _=>n1 - (intOf i).toNat)
  case atStart=>exact ⟨0,Nat.zero_le _,rfl,⟨0,rfl⟩,fun j _ _ h=>by omega⟩
  case round =>
   obtain ⟨k,hk,rfl,⟨qq,rfl⟩,hno⟩:=hrel
   have NO:=hid hno
   clear hno
   by_cases hlt:k<n1
   ·have hlt':(k:Int)<(n1:Int):=by omega
    have g1:k<l1.length:=by have:=HN.out;omega
    have g2:k<l2.length:=by have:=HN2.out;omega
    obtain ⟨b,off,rfl,hbl,p0,-,p2,-⟩:=HV.out.rc k g1
    obtain ⟨b',off',rfl,hbl',r0,-,r2,-⟩:=HV2.out.rc k g2
    obtain ⟨q,hq⟩:∃ q,l1[k]'g1=q:=⟨_,rfl⟩
    obtain ⟨r,hr⟩:∃ r,l2[k]'g2=r:=⟨_,rfl⟩
    rw [hq] at p0 p2
    rw [hr] at r0 r2
    have HQ:=hid hq;have HR:=hid hr
    clear hq hr
    obtain ⟨q0,q1,q2,q3⟩:=q
    obtain ⟨s0,s1,s2,s3⟩:=r
    dsimp only at p0 p2 r0 r2
    by_cases e0:q0=s0
    ·subst e0
     by_cases e2:q2=s2
     ·subst e2
      go_wp2
      go_quiet (fail)
      go_wp2
      go_roundw
      case rel =>
       refine ⟨k+1,by omega,by go_num,⟨_,rfl⟩,fun j h1 h2 hjk=>?_⟩
       by_cases e:j=k
       ·subst e;rw [HQ.out,HR.out];exact ⟨rfl,rfl⟩
       ·exact NO.out j h1 h2 (by omega)
      case measure=>simp [intOf];omega
     ·have b2:(q2 != s2)=true:=by simpa using e2
      have E2:=hid e2
      clear e2
      go_wp2
      go_quiet (fail)
      go_wp2
      go_ret
      exact ⟨ret_bool (sameB_no k (by have:=HN.out;omega) (by have:=HN2.out;omega) (by rw [HQ.out,HR.out];exact fun c=>E2.out c.2)).symm,dq _ _ _⟩
    ·have b0:(q0 != s0)=true:=by simpa using e0
     have E0:=hid e0
     clear e0
     go_wp2
     go_quiet (fail)
     go_wp2
     go_ret
     exact ⟨ret_bool (sameB_no k (by have:=HN.out;omega) (by have:=HN2.out;omega) (by rw [HQ.out,HR.out];exact fun c=>E0.out c.1)).symm,dq _ _ _⟩
   ·have hge:¬ (k:Int)<(n1:Int):=by omega
    go_wp2
    go_ret
    exact ⟨ret_bool (sameB_yes (by rw [HN.out,HN2.out]) fun j h1 h2=>NO.out j h1 h2 (by have:=HN.out;omega)).symm,_,rfl⟩
 ·have hne':((n1:Int) != (n2:Int))=true:=by simp;omega
  have NE:=hid hne
  clear hne
  go_enter Tryz.func108,Tryz.ntmps108
  go_wp2
  go_ret
  exact ⟨ret_bool (sameB_len (by rw [HN.out,HN2.out];exact NE.out)).symm,0,rfl⟩
theorem neqRc (x y:Rc) (w:World):Sem.run Tryz.prog (binOp .neq 87 (.agg #[.int .i64 x.1,.int .i64 x.2.1,.int .i64 x.2.2.1,.int .i64 x.2.2.2]) (.agg #[.int .i64 y.1,.int .i64 y.2.1,.int .i64 y.2.2.1,.int .i64 y.2.2.2])) w=.ok (.bool (!decide (x=y))) w:=by
 have hS:Tryz.prog.underlying 87=some (.struct (Tryz.prog.fieldsOf 87)):=by kernel_rfl
 have hp:Tryz.prog.stoodInHeld 87=false:=by kernel_rfl
 obtain ⟨a,b,c,d⟩:=x
 obtain ⟨a',b',c',d'⟩:=y
 rw [run_neq_struct,show (10000:Nat)=9999+1 from rfl,run_equalIn_agg w 9999 87 _ _ hS hp]
 simp only [Program.fieldsOf,Tryz.underlying87]
 go_simp
 by_cases h1:a=a' <;> by_cases h2:b=b' <;> by_cases h3:c=c' <;> by_cases h4:d=d' <;> simp [h1,h2,h3,h4]
theorem rects_eq (a1:Option Addr) (n1 c1:Nat) (l1:List Rc) (a2:Option Addr) (n2 c2:Nat) (l2:List Rc) (w:World) (hV:Vw w a1 (rcCells l1)) (hn:l1.length=n1) (hc:n1≤9223372036854775807)
  (hV2:Vw w a2 (rcCells l2)) (hn2:l2.length=n2) (hc2:n2≤9223372036854775807) :
  Calls Tryz.prog 63 #[.slice a1 n1 c1,.slice a2 n2 c2] w fun e w'=>e=.returned (.bool (decide (l1=l2)))∧∃ q,w'=w.drewN q:=by
 have HV:=hid hV;have HN:=hid hn;have HV2:=hid hV2;have HN2:=hid hn2
 clear hV hn hV2 hn2
 by_cases hne:n1=n2
 ·subst hne
  go_enter Tryz.func63,Tryz.ntmps63
  go_wp2
  go_loopw [13] (fun i wr=>LookQ w n1 (fun k=>∀ j (h1:j<l1.length) (h2:j<l2.length),j<k→l1[j]=l2[j]) i wr) (fun i _=>n1 - (intOf i).toNat)
  case atStart=>exact ⟨0,Nat.zero_le _,rfl,⟨0,rfl⟩,fun j _ _ h=>by omega⟩
  case round =>
   obtain ⟨k,hk,rfl,⟨qq,rfl⟩,hno⟩:=hrel
   have NO:=hid hno
   clear hno
   by_cases hlt:k<n1
   ·have hlt':(k:Int)<(n1:Int):=by omega
    have g1:k<l1.length:=by have:=HN.out;omega
    have g2:k<l2.length:=by have:=HN2.out;omega
    obtain ⟨b,off,rfl,hbl,p0,p1,p2,p3⟩:=HV.out.rc k g1
    obtain ⟨b',off',rfl,hbl',r0,r1,r2,r3⟩:=HV2.out.rc k g2
    obtain ⟨q,hq⟩:∃ q,l1[k]'g1=q:=⟨_,rfl⟩
    obtain ⟨r,hr⟩:∃ r,l2[k]'g2=r:=⟨_,rfl⟩
    rw [hq] at p0 p1 p2 p3
    rw [hr] at r0 r1 r2 r3
    have HQ:=hid hq;have HR:=hid hr
    clear hq hr
    have hnq:=neqRc q r
    obtain ⟨dd,hdd⟩:∃ dd,decide (q=r)=dd:=⟨_,rfl⟩
    rw [hdd] at hnq
    have HD:=hid hdd
    clear hdd
    obtain ⟨q0,q1,q2,q3⟩:=q
    obtain ⟨s0,s1,s2,s3⟩:=r
    dsimp only at p0 p1 p2 p3 r0 r1 r2 r3 hnq
    cases dd with
    | true =>
     go_wp2
     go_quiet (fail)
     go_wp2
     go_roundw
     case rel =>
      refine ⟨k+1,by omega,by go_num,⟨_,rfl⟩,fun j h1 h2 hjk=>?_⟩
      by_cases e:j=k
      ·subst e;rw [HQ.out,HR.out];exact of_decide_eq_true HD.out
      ·exact NO.out j h1 h2 (by omega)
     case measure=>simp [intOf];omega
    | false =>
     go_wp2
     go_quiet (fail)
     go_wp2
     go_ret
     refine ⟨ret_bool ?_,dq _ _ _⟩
     refine (decide_eq_false ?_).symm
     intro c
     have:=HD.out
     rw [← HQ.out,← HR.out] at this
     subst c
     simp at this
   ·have hge:¬ (k:Int)<(n1:Int):=by omega
    go_wp2
    go_ret
    exact ⟨ret_bool (decide_eq_true (List.ext_getElem (by rw [HN.out,HN2.out]) fun j h1 h2=>NO.out j h1 h2 (by have:=HN.out;omega))).symm,_,rfl⟩
 ·have hne':((n1:Int) != (n2:Int))=true:=by simp;omega
  have NE:=hid hne
  clear hne
  go_enter Tryz.func63,Tryz.ntmps63
  go_wp2
  go_ret
  exact ⟨ret_bool (decide_eq_false (fun c=>NE.out (by rw [← HN.out,← HN2.out,c]))).symm,0,rfl⟩
end Go.Proofs.YtancajcelmhnkaaGreatDoor
