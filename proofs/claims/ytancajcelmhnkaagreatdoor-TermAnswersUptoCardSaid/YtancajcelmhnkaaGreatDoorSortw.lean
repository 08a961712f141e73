/- Rows of the call's own,sorted by the library,and equal neighbours struck. -/
import Derived.Test.YtancajcelmhnkaaGreatDoorGc
import Derived.Test.YtancajcelmhnkaaGreatDoorShelf
import Derived.Test.YtancajcelmhnkaaGreatDoorShq
import Derived.Shelf.SlSortCmp.NoneTotal
set_option maxHeartbeats 1000000
namespace Go.Proofs.YtancajcelmhnkaaGreatDoor
open Go.RowKit Go.Sort Go.Shelf
set_option linter.unusedVariables false
theorem sort_ints (w:World) (base n:Nat) (v:Value) (zs:List Int) (h:w.ownsRow base 3 1 v n (intCells zs)) (hn:n≤1000000000000) :
  Calls Tryz.prog 202 #[v] w fun e w'=>e=.returned (.tuple #[])∧w'.ownsRow base 3 1 v n (intCells (zs.mergeSort fun x y=>decide (x≤y)))∧w.grownBy w' v.ownBlock:=by
 have hl:zs.length=n:=by have:=h.1;simpa using this
 rcases h.2 with ⟨rfl,rfl⟩ | ⟨g,cap,cur,rfl,hb,hg,hnc,hm,hc,ht⟩
 ·obtain rfl:zs=[]:=List.eq_nil_of_length_eq_zero hl
  exact (Tryz.slices_Sort_int_none none 0 w).mono fun e w' ⟨he,hw⟩=>by
   subst hw;exact ⟨he,by simpa using h,World.grownBy.refl _ _⟩
 ·subst hl
  have hH:=own_holds (d:=zs.toArray) (Value.int .i64) (by simpa using h)
  refine (Tryz.slices_Sort_int g 0 cap zs w hH (lt_of_block hg) (by omega)).mono fun e w' ⟨he,q,os,hw⟩=>?_
  subst hw
  have hp:=own_put (Value.int .i64) h (zs.mergeSort fun x y=>decide (x≤y)).toArray (by simp) q os
  exact ⟨he,by simpa using hp.1,hp.2⟩
theorem compact_ints (w:World) (base n:Nat) (v:Value) (zs:List Int) (h:w.ownsRow base 3 1 v n (intCells zs)) (hn:n≤1000000000000) :
  Calls Tryz.prog 203 #[v] w fun e w'=>∃ v',e=.returned v'∧w'.ownsRow base 3 1 v' (Lib.compact zs).length (intCells (Lib.compact zs))∧w.grownBy w' v.ownBlock:=by
 have hl:zs.length=n:=by have:=h.1;simpa using this
 rcases h.2 with ⟨rfl,rfl⟩ | ⟨g,cap,cur,rfl,hb,hg,hnc,hm,hc,ht⟩
 ·obtain rfl:zs=[]:=List.eq_nil_of_length_eq_zero hl
  exact (Tryz.slices_Compact_int_empty none 0 w).mono fun e w' ⟨he,hw⟩=>by
   subst hw;exact ⟨_,he,World.ownsRow_nil _ _ _ _,World.grownBy.refl _ _⟩
 ·subst hl
  have hH:=own_holds (d:=zs.toArray) (Value.int .i64) (by simpa using h)
  refine (Tryz.slices_Compact_int g 0 cap zs w hH (by omega) hnc).mono fun e w' ⟨he,q,hw⟩=>?_
  subst hw
  have hle:=Lib.compact_length_le zs
  have hp:=own_put (Value.int .i64) h (Lib.compact zs++List.replicate (zs.length - (Lib.compact zs).length) 0).toArray (by simp;omega) q #[]
  rw [grow_empty] at hp
  refine ⟨_,he,?_,hp.2⟩
  have h2:=own_cut hp.1 hle
  simpa [intCells] using h2
theorem upTo_mem (d:Array Int) (m:Nat) (hm:m≤d.size) (x:Int):x ∈ Lib.compactUpTo d m↔∃ j,j<m∧d[j]! = x:=by
 induction m with
 | zero=>simp [Lib.compactUpTo]
 | succ m ih =>
  rw [Lib.compactUpTo_succ,List.mem_append,ih (by omega)]
  by_cases hk:Lib.keeps d m=true
  ·rw [if_pos hk,List.mem_singleton]
   constructor
   ·rintro (⟨j,hj,e⟩ | e)
    ·exact ⟨j,by omega,e⟩
    ·exact ⟨m,by omega,e.symm⟩
   ·rintro ⟨j,hj,e⟩
    by_cases hjm:j=m
    ·subst hjm;exact .inr e.symm
    ·exact .inl ⟨j,by omega,e⟩
  ·rw [if_neg hk]
   have h0:¬ (m=0∨d[m]! ≠ d[m - 1]!):=by simpa [Lib.keeps] using hk
   have h1:m ≠ 0:=fun c=>h0 (.inl c)
   have h2:d[m]! = d[m - 1]!:=by
    by_cases c:d[m]! = d[m - 1]!
    ·exact c
    ·exact absurd (.inr c) h0
   constructor
   ·rintro (⟨j,hj,e⟩ | e)
    ·exact ⟨j,by omega,e⟩
    ·simp at e
   ·rintro ⟨j,hj,e⟩
    by_cases hjm:j=m
    ·exact .inl ⟨m - 1,by omega,by rw [← h2,← hjm];exact e⟩
    ·exact .inl ⟨j,by omega,e⟩
theorem upTo_asc (d:Array Int) (hd:∀ i j,i≤j→j<d.size→d[i]!≤d[j]!) (m:Nat) (hm:m≤d.size):(Lib.compactUpTo d m).Pairwise (· < ·)∧∀ x ∈ Lib.compactUpTo d m,0<m∧x≤d[m - 1]!:=by
 induction m with
 | zero=>simp [Lib.compactUpTo]
 | succ m ih =>
  obtain ⟨h1,h2⟩:=ih (by omega)
  rw [Lib.compactUpTo_succ]
  by_cases hk:Lib.keeps d m=true
  ·rw [if_pos hk]
   refine ⟨List.pairwise_append.2 ⟨h1,by simp,fun a ha b hb=>?_⟩,fun x hx=>⟨by omega,?_⟩⟩
   ·rw [List.mem_singleton.1 hb]
    obtain ⟨h3,h4⟩:=h2 a ha
    have h5:m=0∨d[m]! ≠ d[m - 1]!:=by simpa [Lib.keeps] using hk
    have h6:=hd (m - 1) m (by omega) (by omega)
    rcases h5 with h5 | h5 <;> omega
   ·rcases List.mem_append.1 hx with hx | hx
    ·obtain ⟨h3,h4⟩:=h2 x hx
     have h6:=hd (m - 1) m (by omega) (by omega)
     have:d[m+1 - 1]! = d[m]!:=rfl
     omega
    ·rw [List.mem_singleton.1 hx];exact Int.le_refl _
  ·rw [if_neg hk,List.append_nil]
   refine ⟨h1,fun x hx=>⟨by omega,?_⟩⟩
   obtain ⟨h3,h4⟩:=h2 x hx
   have h6:=hd (m - 1) m (by omega) (by omega)
   have:d[m+1 - 1]! = d[m]!:=rfl
   omega
def ascOf (zs:List Int):List Int:=Lib.compact (zs.mergeSort fun x y=>decide (x≤y))
theorem sorted_int (zs:List Int):(zs.mergeSort fun x y=>decide (x≤y)).Pairwise (·≤·):=by
 have:=List.pairwise_mergeSort (le:=fun x y:Int=>decide (x≤y)) (by intro a b c;simp;omega) (by intro a b;simp;omega) zs
 exact this.imp (by intro a b h;simpa using h)
theorem ascOf_mem (zs:List Int) (x:Int):x ∈ ascOf zs↔x ∈ zs:=by
 unfold ascOf Lib.compact
 rw [upTo_mem _ _ (by simp)]
 constructor
 ·rintro ⟨j,hj,rfl⟩
  have:(zs.mergeSort fun x y=>decide (x≤y)).toArray[j]! ∈ zs.mergeSort fun x y=>decide (x≤y):=by
   simp at hj
   simp [hj]
  exact (List.mergeSort_perm zs _).mem_iff.1 this
 ·intro hx
  obtain ⟨j,hj,e⟩:=List.getElem_of_mem ((List.mergeSort_perm zs fun x y=>decide (x≤y)).mem_iff.2 hx)
  refine ⟨j,hj,?_⟩
  rw [getElem!_pos _ j (by simpa using hj)]
  simpa using e
theorem ascOf_asc (zs:List Int):(ascOf zs).Pairwise (· < ·):=by
 unfold ascOf Lib.compact
 refine (upTo_asc _ (fun i j hij hj=>?_) _ (by simp)).1
 have hs:=sorted_int zs
 simp only [List.size_toArray] at hj
 have e:∀ i,i<(zs.mergeSort fun x y=>decide (x≤y)).length→(zs.mergeSort fun x y=>decide (x≤y)).toArray[i]! = (zs.mergeSort fun x y=>decide (x≤y))[i]!:=fun i hi=>by simp
 rw [e i (by omega),e j hj]
 by_cases h:i=j
 ·subst h;exact Int.le_refl _
 ·have:=List.pairwise_iff_getElem.1 hs i j (by omega) hj (by omega)
  rw [getElem!_pos _ i (by omega),getElem!_pos _ j hj];exact this
theorem ascOf_len (zs:List Int):(ascOf zs).length≤zs.length:=by
 unfold ascOf
 have:=Lib.compact_length_le (zs.mergeSort fun x y=>decide (x≤y))
 simpa using this
theorem flatK_cells {α:Type} [Inhabited α] (enc:α→List Value) (k:Nat) (hk:∀ x,(enc x).length=k) (d:Array α):flatK enc k d=(cellsOf enc d.toList).toArray:=by
  refine ext_get! (by simp [cellsOf_length hk]) fun t ht=>?_
  have ht':t<d.size * k:=by simpa using ht
  have k0 : 0 < k := by rcases Nat.eq_zero_or_pos k with h | h; · subst h; simp at ht'
                        · exact h
  rw [get_flatK _ _ _ _ ht']
  have hdiv:t / k<d.size:=(Nat.div_lt_iff_lt_mul k0).2 ht'
  have hmod:=Nat.mod_lt t k0
  have h1:=cellsOf_at hk d.toList (t / k) (t % k) (by simpa using hdiv) hmod
  rw [show t / k * k+t % k=t from by rw [Nat.mul_comm];exact Nat.div_add_mod t k] at h1
  have h2:(cellsOf enc d.toList).toArray[t]! = (cellsOf enc d.toList)[t]?.getD default:=by simp [Array.getElem!_eq_getD,Array.getD_eq_getD_getElem?]
  have h3:(enc d[t / k]!)[t % k]! = (enc d[t / k]!)[t % k]?.getD default:=by simp [getElem!_def];split <;> simp_all
  rw [h2,h1,h3,getElem!_pos d _ hdiv]
  simp
def spCmp (x y:Sp):Int:=Lib.compareInt x.1 y.1
theorem spCmp_lt (x y:Sp):ltOf spCmp x y=decide (x.1<y.1):=by
 unfold ltOf spCmp Lib.compareInt
 rw [Bool.eq_iff_iff,decide_eq_true_eq,decide_eq_true_eq]
 (repeat' split) <;> omega
theorem spCmp_swo:SWO (ltOf spCmp):=by
 refine ⟨fun x=>?_,fun x y z=>?_,fun x y z=>?_⟩ <;> simp only [spCmp_lt,decide_eq_true_eq,decide_eq_false_iff_not] <;> omega
theorem row1_any (x y:Sp) (W:World):Calls Tryz.prog 205 #[.agg #[.int .i64 x.1,.int .i64 x.2],.agg #[.int .i64 y.1,.int .i64 y.2]] W fun e w'=>e=.returned (.int .i64 (spCmp x y))∧∃ q os',w'=grow (W.drewN q) os':=by
 have hcon:=fun W'=>Tryz.cmp_Compare_int x.1 y.1 W'
 show Calls Tryz.prog _ _ _ fun e w'=>e=.returned (.int .i64 (Lib.compareInt x.1 y.1))∧_
 generalize Lib.compareInt x.1 y.1=r at hcon ⊢
 go_enter Tryz.func205,Tryz.ntmps205
 go_wp2_with (go_at_call 173;refine (hcon _).mono ?_;rintro e w' ⟨rfl,rfl⟩)
 go_ret
 exact ⟨rfl,0,_,by rw [alloc_eq_grow,alloc_eq_grow,grow_grow];rfl⟩
theorem sort_spans (w:World) (base n:Nat) (v:Value) (l:List Sp) (h:w.ownsRow base 243 2 v n (spCells l)) (hn:n≤1000000000000) :
  Calls Tryz.prog 204 #[v,.func (.func 205) #[] #[]] w fun e w'=>e=.returned (.tuple #[])∧∃ l':List Sp,l'.Perm l∧l'.Pairwise (fun a b=>a.1≤b.1)∧w'.ownsRow base 243 2 v n (spCells l')∧w.grownBy w' v.ownBlock:=by
 have hl:l.length=n:=by have:=h.1;rw [cellsOf_length encSp_len] at this;omega
 rcases h.2 with ⟨rfl,rfl⟩ | ⟨g,cap,cur,rfl,hb,hg,hnc,hm,hc,ht⟩
 ·obtain rfl:l=[]:=List.eq_nil_of_length_eq_zero hl
  have hcon:=AnyF.slices_SortFunc_none Tryz.sortSpan none 0 (.func (.func 205) #[] #[]) w
  change Calls Tryz.prog 204 _ _ _ at hcon
  exact hcon.mono fun e w' ⟨he,hw⟩=>by
   subst hw;exact ⟨he,[],.refl _,.nil,h,World.grownBy.refl _ _⟩
 ·have hd:l.toArray.size=n:=by simpa using hl
  have hH:HoldsK encSp 2 w g 0 l.toArray:=by
   unfold HoldsK
   rw [flatK_cells encSp 2 encSp_len]
   exact own_holds (d:=(cellsOf encSp l.toArray.toList).toArray) id (by simpa using h)
  have eg:∀ args w,(callFunc 205 args).run Tryz.prog w=.ok (.enter 205 args) w:=enters_of Tryz.func205 (by kernel_rfl) rfl
  have hcon:=AnyQ.slices_SortFunc Tryz.sortSpan 2 Tryz.isAgg243 Tryz.sizeOf243 encSp (fun _=>rfl) (fun x v hv=>oneC_sp x v hv) spCmp spCmp_swo 205 #[] g 0 cap l.toArray w eg (fun _ _ _ _ x y=>row1_any x y _) hH (lt_of_block hg) (by omega)
  rw [hd] at hcon
  change Calls Tryz.prog 204 _ _ _ at hcon
  refine hcon.mono fun e w' ⟨he,d',q,os,hp,hs,hw⟩=>?_
  subst hw
  obtain ⟨p1,_,p3⟩:=hp
  have hsz:d'.size=n:=p1.trans hd
  have e1:(d'.extract 0 n).toList=d'.toList:=by simp [← hsz]
  have e2:(l.toArray.extract 0 n).toList=l:=by simp [← hl]
  rw [e1,e2] at p3
  have hp2:=own_put id h (flatK encSp 2 d') (by simp [hsz]) q os
  refine ⟨he,d'.toList,p3,?_,?_,?_⟩
  ·rw [List.pairwise_iff_getElem]
   intro i j hi hj hij
   simp at hi hj
   have:=hs i j (by omega) hij (by omega)
   rw [spCmp_lt,getElem!_pos d' j hj,getElem!_pos d' i hi] at this
   simp at this ⊢
   omega
  ·have:=hp2.1
   rw [flatK_cells encSp 2 encSp_len] at this
   unfold sortWorldK putRowK
   rw [flatK_cells encSp 2 encSp_len]
   simpa using this
  ·exact hp2.2
end Go.Proofs.YtancajcelmhnkaaGreatDoor
