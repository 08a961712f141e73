/- Regions of the program: which rectangle is proper. -/
import Derived.Test.YtancajcelmhnkaaGreatDoorGa
import Derived.Shelf.SlicesQ.IndexFunc
import Derived.Shelf.GgSortFunc.RowK
import Derived.Lib.SlicesCompact
import Derived.Deep.AppendLies
import Derived.Great.BuildSlice
set_option maxRecDepth 100000
set_option maxHeartbeats 2000000
namespace Go.Proofs.YtancajcelmhnkaaGreatDoor
open Go.RowKit
set_option linter.unusedVariables false
def SlF {α:Type} (k:Nat) (f:α→Nat→Int) (w:World) (a:Option Addr) (l:List α):Prop :=
 ∀ i (h:i<l.length),∃ b off:Nat,a=some ⟨b,off,none⟩∧∀ j,j<k→w.cell? ⟨b,off+i * k+j,none⟩=some (.int .i64 (f l[i] j))
theorem SlF.below {α:Type} {k:Nat} {f:α→Nat→Int} {w wx:World} {a:Option Addr} {l:List α} (h:SlF k f w a l) (hb:Below w.heap.size w wx):SlF k f wx a l:=fun i hi=>by
 obtain ⟨b,off,e,hc⟩:=h i hi
 exact ⟨b,off,e,fun j hj=>bc1 hb (hc j hj)⟩
theorem SlF.alloc {α:Type} {k:Nat} {f:α→Nat→Int} {w:World} {a:Option Addr} {l:List α} (h:SlF k f w a l) (o:Obj):SlF k f (w.alloc o) a l:=h.below (bal (Below.refl _ _) o)
theorem SlF.drew {α:Type} {k:Nat} {f:α→Nat→Int} {w:World} {a:Option Addr} {l:List α} (h:SlF k f w a l):SlF k f w.drew a l:=h
def rcF (q:Rc):Nat→Int
 | 0=>q.1
 | 1=>q.2.1
 | 2=>q.2.2.1
 | _=>q.2.2.2
abbrev Rcs:=SlF 4 rcF
theorem Rcs.at {w:World} {a:Option Addr} {l:List Rc} (h:Rcs w a l) (i:Nat) (hi:i<l.length):∃ b off:Nat,a=some ⟨b,off,none⟩∧w.cell? ⟨b,off+i * 4,none⟩=some (.int .i64 l[i].1)∧w.cell? ⟨b,off+i * 4+1,none⟩=some (.int .i64 l[i].2.1) ∧
  w.cell? ⟨b,off+i * 4+2,none⟩=some (.int .i64 l[i].2.2.1)∧w.cell? ⟨b,off+i * 4+3,none⟩=some (.int .i64 l[i].2.2.2):=by
 obtain ⟨b,off,e,hc⟩:=h i hi
 exact ⟨b,off,e,hc 0 (by omega),hc 1 (by omega),hc 2 (by omega),hc 3 (by omega)⟩
def Prp (q:Rc):Prop:=0≤q.1∧q.1<q.2.2.1∧q.2.2.1≤16384∧0≤q.2.1∧q.2.1<q.2.2.2∧q.2.2.2≤16384
instance (q:Rc):Decidable (Prp q):=by unfold Prp;infer_instance
theorem pproper_any (q:Rc) (w:World):Calls Tryz.prog 142 #[.agg #[.int .i64 q.1,.int .i64 q.2.1,.int .i64 q.2.2.1,.int .i64 q.2.2.2]] w fun e w'=>e=.returned (.bool (decide (Prp q)))∧Below w.heap.size w w':=by
 obtain ⟨l,b,r,t⟩:=q
 dsimp only
 go_enter Tryz.func142,Tryz.ntmps142
 go_wp2
 all_goals go_ret
 all_goals (refine ⟨ret_bool ?_,bal (Below.refl _ _) _⟩)
 all_goals (rw [Bool.eq_iff_iff,decide_eq_true_eq (p:=Prp _)];simp [Prp] <;> omega)
theorem rproper_any (q:Rc) (w:World):Calls Tryz.prog 101 #[.agg #[.int .i64 q.1,.int .i64 q.2.1,.int .i64 q.2.2.1,.int .i64 q.2.2.2]] w fun e w'=>e=.returned (.bool (decide (Prp q)))∧Below w.heap.size w w':=by
 obtain ⟨l,b,r,t⟩:=q
 dsimp only
 go_enter Tryz.func101,Tryz.ntmps101
 go_wp2
 all_goals go_ret
 all_goals (refine ⟨ret_bool ?_,bal (Below.refl _ _) _⟩)
 all_goals (rw [Bool.eq_iff_iff,decide_eq_true_eq (p:=Prp _)];simp [Prp] <;> omega)
end Go.Proofs.YtancajcelmhnkaaGreatDoor
namespace Go.Proofs.YtancajcelmhnkaaGreatDoor
open Go.RowKit Go.Shelf
set_option linter.unusedVariables false
def encRc (q:Rc):List Value:=[.int .i64 q.1,.int .i64 q.2.1,.int .i64 q.2.2.1,.int .i64 q.2.2.2]
theorem valid1_pred (w:World):PredBelow Tryz.prog 141 #[] (fun q=>.agg (encRc q).toArray) (fun q=>!decide (Prp q)) w:=fun W q hb=>by
 show Calls Tryz.prog 141 #[.agg #[.int .i64 q.1,.int .i64 q.2.1,.int .i64 q.2.2.1,.int .i64 q.2.2.2]] W _
 generalize hd:decide (Prp q)=d
 go_enter Tryz.func141,Tryz.ntmps141
 go_wp2_with (go_at_call 142;refine (pproper_any q _).mono ?_;rw [hd];rintro e w1 ⟨rfl,h1⟩)
 all_goals go_ret
 all_goals exact ⟨by simp_all,hb.trans ((btr (bal (Below.refl _ _) _) h1).mono hb.size)⟩
end Go.Proofs.YtancajcelmhnkaaGreatDoor
namespace Go.Proofs.YtancajcelmhnkaaGreatDoor
open Go.RowKit Go.Sort
set_option linter.unusedVariables false
theorem own_put {α:Type} [Inhabited α] (enc:α→Value) {w:World} {base g n cap size:Nat} {e:TypeId} {xs:List Value} (h:w.ownsRow base e size (.slice (some ⟨g,0,none⟩) n cap) n xs)
  (d:Array α) (hd:d.size=n * size) (q:Nat) (os:Array Obj) :
  (grow (putRow enc (Sort.ahead w q) g 0 d) os).ownsRow base e size (.slice (some ⟨g,0,none⟩) n cap) n (d.toList.map enc)∧w.grownBy (grow (putRow enc (Sort.ahead w q) g 0 d) os) (some g):=by
 have hs:(putRow enc (Sort.ahead w q) g 0 d).heap.size=w.heap.size:=size_putRow enc (Sort.ahead w q) g 0 d
 have hgr:w.grownBy (grow (putRow enc (Sort.ahead w q) g 0 d) os) (some g):=by
  refine ⟨rfl,rfl,rfl,by simp [grow],fun k hk hne=>?_⟩
  have hk':k<(putRow enc (Sort.ahead w q) g 0 d).heap.size:=by rw [hs];exact hk
  show ((putRow enc (Sort.ahead w q) g 0 d).heap++os)[k]? = _
  rw [Array.getElem?_append_left hk']
  show (w.heap.modify g _)[k]? = _
  have:g ≠ k:=fun c=>hne (by rw [c])
  rw [Array.getElem?_modify,if_neg this]
 refine ⟨⟨by simp [hd],.inr ?_⟩,hgr⟩
 rcases h.2 with ⟨h0,_⟩ | ⟨g',cap',cur,hv,hb,hg,hn,hm,hc,ht⟩
 ·cases h0
 ·cases hv
  refine ⟨g,cap,putCells enc 0 d cur,rfl,hb,?_,hn,hm,by simp [putCells,hc],?_⟩
  ·have hl:=lt_of_block hg
   show ((putRow enc (Sort.ahead w q) g 0 d).heap++os)[g]? = _
   rw [Array.getElem?_append_left (by rw [hs];exact hl)]
   show (w.heap.modify g _)[g]? = _
   rw [Array.getElem?_modify,if_pos rfl,hg];rfl
  ·have hle:n * size≤cap * size:=Nat.mul_le_mul_right _ hn
   apply List.ext_getElem?
   intro i
   rw [List.getElem?_take,List.getElem?_map]
   by_cases hi:i<n * size
   ·rw [if_pos hi]
    have h1:(putCells enc 0 d cur).toList[i]? = some (enc d[i]!):=by
     rw [Array.getElem?_toList]
     simp only [putCells,Array.getElem?_mapIdx]
     rw [Array.getElem?_eq_getElem (by omega)]
     simp [hd,hi]
    rw [h1,Array.getElem?_toList,Array.getElem?_eq_getElem (by omega)]
    simp [hd,hi]
   ·rw [if_neg hi,Array.getElem?_toList,Array.getElem?_eq_none (by omega)];rfl
theorem own_holds {α:Type} [Inhabited α] (enc:α→Value) {w:World} {base g n cap size:Nat} {e:TypeId} {d:Array α} (h:w.ownsRow base e size (.slice (some ⟨g,0,none⟩) n cap) n (d.toList.map enc)):Holds enc w g 0 d:=fun j hj=>by
 have hl:d.size=n * size:=by simpa using h.1
 refine ⟨?_,h.frozenAt _⟩
 rw [Nat.zero_add,h.cellAt j (by omega)]
 simp [hj]
theorem own_cut {w:World} {base g n m cap size:Nat} {e:TypeId} {xs:List Value} (h:w.ownsRow base e size (.slice (some ⟨g,0,none⟩) n cap) n xs) (hm:m≤n) :
  w.ownsRow base e size (.slice (some ⟨g,0,none⟩) m cap) m (xs.take (m * size)):=by
 rcases h.2 with ⟨h0,_⟩ | ⟨g',cap',cur,hv,hb,hg,hn,hmm,hc,ht⟩
 ·cases h0
 ·cases hv
  have hle:m * size≤n * size:=Nat.mul_le_mul_right _ hm
  refine ⟨by rw [List.length_take,h.1];omega,.inr ⟨g,cap,cur,rfl,hb,hg,by omega,hmm,hc,?_⟩⟩
  rw [← ht,List.take_take,Nat.min_eq_left hle]
theorem own_lt {w:World} {base g n cap size:Nat} {e:TypeId} {xs:List Value} (h:w.ownsRow base e size (.slice (some ⟨g,0,none⟩) n cap) n xs):base≤g∧g<w.heap.size:=h.lt g rfl
theorem own_form {w:World} {base n size:Nat} {v:Value} {e:TypeId} {xs:List Value} (h:w.ownsRow base e size v n xs):∃ a cap,v=.slice a n cap∧n≤cap∧cap≤maxLen∧((a=none∧n=0∧cap=0)∨∃ g,a=some ⟨g,0,none⟩∧base≤g∧g<w.heap.size):=by
 rcases h.2 with ⟨rfl,rfl⟩ | ⟨g,cap,cur,rfl,hb,hg,hn,hm,_⟩
 ·exact ⟨none,0,rfl,Nat.le_refl _,by unfold maxLen;omega,.inl ⟨rfl,rfl,rfl⟩⟩
 ·exact ⟨_,cap,rfl,hn,hm,.inr ⟨g,rfl,hb,lt_of_block hg⟩⟩
def cellsOf {α:Type} (enc:α→List Value) (l:List α):List Value:=l.flatMap enc
section
variable {α:Type} {enc:α→List Value} {k:Nat}
theorem cellsOf_length (hk:∀ x,(enc x).length=k) (l:List α):(cellsOf enc l).length=l.length * k:=by
 induction l with
 | nil=>simp [cellsOf]
 | cons x l ih=>simp only [cellsOf,List.flatMap_cons,List.length_append,List.length_cons] at ih ⊢;rw [ih,hk,Nat.add_mul,Nat.one_mul,Nat.add_comm]
theorem cellsOf_at (hk:∀ x,(enc x).length=k) (l:List α) (i j:Nat) (hi:i<l.length) (hj:j<k):(cellsOf enc l)[i * k+j]? = (enc l[i])[j]?:=by
 induction l generalizing i with
 | nil=>simp at hi
 | cons x l ih =>
  have e:cellsOf enc (x :: l)=enc x++cellsOf enc l:=by simp [cellsOf]
  cases i with
  | zero=>rw [e,Nat.zero_mul,Nat.zero_add,List.getElem?_append_left (by rw [hk];exact hj)];rfl
  | succ i =>
   rw [e,List.getElem?_append_right (by rw [hk,Nat.add_mul];omega),hk,show (i+1) * k+j - k=i * k+j by rw [Nat.add_mul];omega]
   simpa using ih i (by simpa using hi)
theorem cellsOf_snoc (l:List α) (x:α):cellsOf enc (l++[x])=cellsOf enc l++enc x:=by simp [cellsOf]
theorem cellsOf_append (l m:List α):cellsOf enc (l++m)=cellsOf enc l++cellsOf enc m:=by simp [cellsOf]
theorem cellsOf_take (hk:∀ x,(enc x).length=k) (l:List α) (m:Nat):(cellsOf enc l).take (m * k)=cellsOf enc (l.take m):=by
 induction l generalizing m with
 | nil=>simp [cellsOf]
 | cons x l ih =>
  have e:cellsOf enc (x :: l)=enc x++cellsOf enc l:=by simp [cellsOf]
  cases m with
  | zero=>simp [cellsOf]
  | succ m =>
   have e2:cellsOf enc (x :: l.take m)=enc x++cellsOf enc (l.take m):=by simp [cellsOf]
   rw [e,List.take_succ_cons,e2,List.take_append,hk,List.take_of_length_le (by rw [hk,Nat.add_mul];omega),show (m+1) * k - k=m * k by rw [Nat.add_mul];omega,ih]
end
abbrev intCells (l:List Int):List Value:=l.map (Value.int .i64)
def Vw (w:World) (a:Option Addr) (xs:List Value):Prop:=∀ i v,xs[i]? = some v→∃ b off:Nat,a=some ⟨b,off,none⟩∧w.cell? ⟨b,off+i,none⟩=some v
section
variable {w wx:World} {a:Option Addr} {xs:List Value}
theorem Vw.below (h:Vw w a xs) (hb:Below w.heap.size w wx):Vw wx a xs:=fun i v hi=>by
 obtain ⟨b,off,e,hc⟩:=h i v hi
 exact ⟨b,off,e,bc1 hb hc⟩
theorem Vw.alloc (h:Vw w a xs) (o:Obj):Vw (w.alloc o) a xs:=h.below (bal (Below.refl _ _) o)
theorem Vw.drew (h:Vw w a xs):Vw w.drew a xs:=h
theorem Vw.nil (w:World) (a:Option Addr):Vw w a []:=fun i v hi=>by simp at hi
theorem Vw.all (h:Vw w a xs) (h0:0<xs.length):∃ b off:Nat,a=some ⟨b,off,none⟩∧b<w.heap.size∧∀ i v,xs[i]? = some v→w.cell? ⟨b,off+i,none⟩=some v:=by
 obtain ⟨b,off,rfl,hc⟩:=h 0 _ (List.getElem?_eq_getElem h0)
 refine ⟨b,off,rfl,World.block_lt_of_cell? w _ hc,fun i v hi=>?_⟩
 obtain ⟨b',off',e,hc'⟩:=h i v hi
 cases e
 exact hc'
theorem Vw.take (h:Vw w a xs) (n:Nat):Vw w a (xs.take n):=fun i v hi=>by
 rw [List.getElem?_take] at hi
 split at hi
 ·exact h i v hi
 ·cases hi
end
theorem vw_of_own {w:World} {base n cap size:Nat} {e:TypeId} {a:Option Addr} {xs:List Value} (h:w.ownsRow base e size (.slice a n cap) n xs):Vw w a xs:=fun i v hi=>by
 rcases h.2 with ⟨h0,hn⟩ | ⟨g,cap',cur,hv,hb,hg,_⟩
 ·have:=h.1;rw [hn,Nat.zero_mul] at this
  rw [List.eq_nil_of_length_eq_zero this] at hi;simp at hi
 ·cases hv
  have hl:i<n * size:=by rw [← h.1];exact (List.getElem?_eq_some_iff.1 hi).1
  refine ⟨g,0,rfl,?_⟩
  rw [Nat.zero_add,h.cellAt i hl,hi]
theorem Vw.elem {α:Type} {enc:α→List Value} {k:Nat} {w:World} {a:Option Addr} {l:List α} (h:Vw w a (cellsOf enc l)) (hk:∀ x,(enc x).length=k) (hk0:0<k) (i:Nat) (hi:i<l.length) :
  ∃ b off:Nat,a=some ⟨b,off,none⟩∧b<w.heap.size∧∀ j v,(enc l[i])[j]? = some v→w.cell? ⟨b,off+i * k+j,none⟩=some v:=by
 have hl:=cellsOf_length hk l
 have h1:i * k+k≤l.length * k:=by have:=Nat.mul_le_mul_right k (show i+1≤l.length from hi);rwa [Nat.add_mul,Nat.one_mul] at this
 obtain ⟨b,off,rfl,hb,hc⟩:=h.all (by omega)
 refine ⟨b,off,rfl,hb,fun j v hj=>?_⟩
 have hjk:j<k:=by rw [← hk l[i]];exact (List.getElem?_eq_some_iff.1 hj).1
 have:=hc (i * k+j) v ((cellsOf_at hk l i j hi hjk).trans hj)
 rwa [← Nat.add_assoc] at this
def encSp (s:Sp):List Value:=[.int .i64 s.1,.int .i64 s.2]
theorem encRc_len (q:Rc):(encRc q).length=4:=rfl
theorem encSp_len (s:Sp):(encSp s).length=2:=rfl
abbrev rcCells (l:List Rc):List Value:=cellsOf encRc l
abbrev spCells (l:List Sp):List Value:=cellsOf encSp l
theorem Vw.rc {w:World} {a:Option Addr} {l:List Rc} (h:Vw w a (rcCells l)) (i:Nat) (hi:i<l.length):∃ b off:Nat,a=some ⟨b,off,none⟩∧b<w.heap.size∧w.cell? ⟨b,off+i * 4,none⟩=some (.int .i64 l[i].1)∧w.cell? ⟨b,off+i * 4+1,none⟩=some (.int .i64 l[i].2.1) ∧
  w.cell? ⟨b,off+i * 4+2,none⟩=some (.int .i64 l[i].2.2.1)∧w.cell? ⟨b,off+i * 4+3,none⟩=some (.int .i64 l[i].2.2.2):=by
 obtain ⟨b,off,e,hb,hc⟩:=h.elem encRc_len (by omega) i hi
 exact ⟨b,off,e,hb,hc 0 _ rfl,hc 1 _ rfl,hc 2 _ rfl,hc 3 _ rfl⟩
theorem Vw.sp {w:World} {a:Option Addr} {l:List Sp} (h:Vw w a (spCells l)) (i:Nat) (hi:i<l.length):∃ b off:Nat,a=some ⟨b,off,none⟩∧b<w.heap.size∧w.cell? ⟨b,off+i * 2,none⟩=some (.int .i64 l[i].1)∧w.cell? ⟨b,off+i * 2+1,none⟩=some (.int .i64 l[i].2):=by
 obtain ⟨b,off,e,hb,hc⟩:=h.elem encSp_len (by omega) i hi
 exact ⟨b,off,e,hb,hc 0 _ rfl,hc 1 _ rfl⟩
theorem Vw.int {w:World} {a:Option Addr} {l:List Int} (h:Vw w a (intCells l)) (i:Nat) (hi:i<l.length):∃ b off:Nat,a=some ⟨b,off,none⟩∧b<w.heap.size∧w.cell? ⟨b,off+i,none⟩=some (.int .i64 l[i]):=by
 obtain ⟨b,off,e,hb,hc⟩:=h.all (by simp;omega)
 exact ⟨b,off,e,hb,hc i _ (by simp [hi])⟩
theorem rcs_of_vw {w:World} {a:Option Addr} {l:List Rc} (h:Vw w a (rcCells l)):Rcs w a l:=fun i hi=>by
 obtain ⟨b,off,e,_,h0,h1,h2,h3⟩:=h.rc i hi
 exact ⟨b,off,e,fun j hj=>by
  match j,hj with
  | 0,_=>exact h0
  | 1,_=>exact h1
  | 2,_=>exact h2
  | 3,_=>exact h3⟩
def NewRc (w:World) (l:List Rc) (e:Ending) (w':World):Prop:=∃ v,e=.returned v∧w'.ownsRow w.heap.size 87 4 v l.length (rcCells l)∧Below w.heap.size w w'
def NewSp (w:World) (l:List Sp) (e:Ending) (w':World):Prop:=∃ v,e=.returned v∧w'.ownsRow w.heap.size 243 2 v l.length (spCells l)∧Below w.heap.size w w'
def NewInt (w:World) (l:List Int) (e:Ending) (w':World):Prop:=∃ v,e=.returned v∧w'.ownsRow w.heap.size 3 1 v l.length (intCells l)∧Below w.heap.size w w'
structure RowG (w:World) (t:TypeId) (k:Nat) (n:Nat) (xs:List Value) (v:Value) (wr:World):Prop where
 own:wr.ownsRow w.heap.size t k v n xs
 below:Below w.heap.size w wr
theorem RowG.nil (w:World) (t:TypeId) (k:Nat) {wr:World} (h:Below w.heap.size w wr):RowG w t k 0 [] (.slice none 0 0) wr:=⟨World.ownsRow_nil _ _ _ _,h⟩
theorem below_app {w wr w2:World} {t:TypeId} {k n:Nat} {xs:List Value} {v:Value} (h:wr.ownsRow w.heap.size t k v n xs) (hb:Below w.heap.size w wr) (hg:wr.grownBy w2 v.ownBlock):Below w.heap.size w w2 :=
 hb.grown hg hb.size fun i hi=>(h.lt i hi).1
theorem infoRc:(Tryz.prog.info? 87).map (fun i=>(i.zero,i.size,i.bytes))=some (some (.agg #[.int .i64 0,.int .i64 0,.int .i64 0,.int .i64 0]),4,32):=by kernel_rfl
theorem infoSp:(Tryz.prog.info? 243).map (fun i=>(i.zero,i.size,i.bytes))=some (some (.agg #[.int .i64 0,.int .i64 0]),2,16):=by kernel_rfl
theorem infoInt:(Tryz.prog.info? 3).map (fun i=>(i.zero,i.size,i.bytes))=some (some (.int .i64 0),1,8):=by kernel_rfl
structure ElT (P:Program) (t e:TypeId) (size bytes:Nat):Prop where
 ex:∃ (i:TypeInfo) (z:Value),P.underlying t=some (.slice e)∧P.info? e=some i∧i.zero=some z∧i.size=size∧i.bytes=bytes∧z.cells.size=size
 pos:0<size
 bpos:0<bytes
theorem ElT.mk' {P:Program} {t e:TypeId} {size bytes:Nat} {z:Value} (ht:P.underlying t=some (.slice e)) (hi:(P.info? e).map (fun i=>(i.zero,i.size,i.bytes))=some (some z,size,bytes)) (hz:z.cells.size=size) (hs:0<size) (hb:0<bytes):ElT P t e size bytes:=by
 obtain ⟨i,h1,h2,h3,h4⟩:=info_parts hi
 exact ⟨⟨i,z,ht,h1,h2,h3,h4,hz⟩,hs,hb⟩
def OneC (xs:List Value):Prop:=∀ u ∈ xs,u.oneCell'=true
section
variable {P:Program} {w:World} {t e:TypeId} {size bytes:Nat}
theorem app_run (T:ElT P t e size bytes) (ty:TypeId) (base:Nat) (v:Value) (n:Nat) (xs:List Value) (hown:w.ownsRow base e size v n xs) (A:Option Addr) (m c:Nat) (news:List Value) (hv:Vw w A news) (hA:A=none→m=0) (hl:news.length=m * size) (h1:OneC news)
  (hN:(n+m) * bytes≤140737488355328) (hbase:base≤w.heap.size) :
  ∃ v' w',(Builtin.append_ #[t,t] ty #[v,.slice A m c]).run P w=.ok v' w'∧w'.ownsRow base e size v' (n+m) (xs++news)∧w.grownBy w' v.ownBlock∧(v'.ownBlock=v.ownBlock∨v'.ownBlock=some w.heap.size):=by
 obtain ⟨⟨i,z,ht,hi,hz,hsz,hb,hzs⟩,hs0,hb0⟩:=T
 have hmax:n+m≤maxLen:=by
  have:=Nat.le_mul_of_pos_right (n+m) hb0
  unfold maxLen;omega
 cases A with
 | none =>
  obtain rfl:=hA rfl
  obtain rfl:news=[]:=List.eq_nil_of_length_eq_zero (by simpa using hl)
  have hrun:(Builtin.append_ #[t,t] ty #[v,.slice none 0 c]).run P w=.ok v w:=by
   rcases hown.2 with ⟨rfl,rfl⟩ | ⟨g,cap,cur,rfl,_,_,hnc,_⟩
   ·simp [Builtin.append_,run_underlying ht,sizeOf,typeInfo,hi,Builtin.lenOf,Builtin.firstCells]
   ·simp [Builtin.append_,run_underlying ht,sizeOf,typeInfo,hi,Builtin.lenOf,Builtin.firstCells,hnc,storeCells]
  exact ⟨v,w,hrun,by simpa using hown,World.grownBy.refl w _,.inl rfl⟩
 | some ad =>
  have hcells:∀ j u,news[j]? = some u→w.cell? (ad.add j)=some u:=by
   intro j u hu
   obtain ⟨b,off,e1,h2⟩:=hv j u hu
   cases e1
   have e3:(⟨b,off,none⟩:Addr).add j=⟨b,off+j,none⟩:=by unfold Addr.add;split <;> simp_all
   rw [e3];exact h2
  obtain ⟨v',w',hrun,h2,h3,_,h5⟩:=run_append_own_at (P:=P) w base t ty e i z size bytes ht hi hz hsz hb hzs hs0 v n xs hown ad m c news hl hcells h1 hmax hN hbase
  exact ⟨v',w',hrun,h2,h3,h5⟩
theorem app_wp (T:ElT P t e size bytes) {o:Oper} {a:Act} {K:Act→World→Prop} {Q:Exit→Act→World→Prop} (s x:Operand) (ho:o.op=.call { callee:=.builtin .append,args:=#[s,x],argTypes:=#[t,t] })
  (base:Nat) (v:Value) (n:Nat) (xs:List Value) (hs:a.eval s=v) (hown:w.ownsRow base e size v n xs) (A:Option Addr) (m c:Nat) (news:List Value) (hx:a.eval x=.slice A m c) (hv:Vw w A news) (hA:A=none→m=0) (hl:news.length=m * size) (h1:OneC news)
  (hN:(n+m) * bytes≤140737488355328) (hbase:base≤w.heap.size)
  (h:∀ v' w',w'.ownsRow base e size v' (n+m) (xs++news)→w.grownBy w' v.ownBlock→(v'.ownBlock=v.ownBlock∨v'.ownBlock=some w.heap.size)→K (a.put o.dst v') w'):o.wp P a w K Q:=by
 obtain ⟨v',w',hrun,h2,h3,h4⟩:=app_run T o.type base v n xs hown A m c news hv hA hl h1 hN hbase
 unfold Oper.wp execOp
 simp only [ho,resolve,invoke,builtin,Sem.run_bind,Sem.run_pure,Result.andThen_ok,List.map_toArray,List.map_cons,List.map_nil,hs,hx,hrun]
 exact h v' w' h2 h3 h4
theorem app_list (T:ElT P t e size bytes) {ops:Array Oper} {rest:List Oper} {o:Oper} {a:Act} {Q:Exit→Act→World→Prop} (hgd:o.guard=none) (s x:Operand) (ho:o.op=.call { callee:=.builtin .append,args:=#[s,x],argTypes:=#[t,t] })
  (base:Nat) (v:Value) (n:Nat) (xs:List Value) (hs:a.eval s=v) (hown:w.ownsRow base e size v n xs) (A:Option Addr) (m c:Nat) (news:List Value) (hx:a.eval x=.slice A m c) (hv:Vw w A news) (hA:A=none→m=0) (hl:news.length=m * size) (h1:OneC news)
  (hN:(n+m) * bytes≤140737488355328) (hbase:base≤w.heap.size)
  (h:∀ v' w',w'.ownsRow base e size v' (n+m) (xs++news)→w.grownBy w' v.ownBlock→(v'.ownBlock=v.ownBlock∨v'.ownBlock=some w.heap.size)→wpList P ops Q rest (a.put o.dst v') w'):wpList P ops Q (o :: rest) a w :=
 wpList_plain hgd fun _ hK=>app_wp T s x ho base v n xs hs hown A m c news hx hv hA hl h1 hN hbase fun v' w' h2 h3 h4=>hK _ _ (h v' w' h2 h3 h4)
theorem app_step (T:ElT P t e size bytes) {ops:Array Oper} {o:Oper} {a:Act} {K:Act→World→Prop} {Q:Exit→Act→World→Prop} {E:Prop} (hgd:o.guard=none) (s x:Operand) (ho:o.op=.call { callee:=.builtin .append,args:=#[s,x],argTypes:=#[t,t] })
  (base:Nat) (v:Value) (n:Nat) (xs:List Value) (hs:a.eval s=v) (hown:w.ownsRow base e size v n xs) (A:Option Addr) (m c:Nat) (news:List Value) (hx:a.eval x=.slice A m c) (hv:Vw w A news) (hA:A=none→m=0) (hl:news.length=m * size) (h1:OneC news)
  (hN:(n+m) * bytes≤140737488355328) (hbase:base≤w.heap.size)
  (h:∀ v' w',w'.ownsRow base e size v' (n+m) (xs++news)→w.grownBy w' v.ownBlock→(v'.ownBlock=v.ownBlock∨v'.ownBlock=some w.heap.size)→K (a.put o.dst v') w') :
  if Region.wanted o (yielded ops a.tmps)=true then Oper.wp P o a w K Q else E:=by
 have hw:Region.wanted o (yielded ops a.tmps)=true:=by simp [Region.wanted,hgd]
 rw [if_pos hw]
 exact app_wp T s x ho base v n xs hs hown A m c news hx hv hA hl h1 hN hbase h
end
theorem vw_blk {w:World} {g:Nat} {t:TypeId} {cs:Array Value} (h:Blk w g t cs):Vw w (some ⟨g,0,none⟩) cs.toList:=fun i v hi=>⟨g,0,rfl,by rw [Nat.zero_add,h.cell i];simpa using hi⟩
theorem oneC_int (l:List Int):OneC (intCells l):=fun u hu=>by
 obtain ⟨x,_,rfl⟩:=List.mem_map.1 hu;rfl
theorem oneC_cells {α:Type} {enc:α→List Value} (h:∀ x,OneC (enc x)) (l:List α):OneC (cellsOf enc l):=fun u hu=>by
 obtain ⟨x,_,hx⟩:=List.mem_flatMap.1 hu
 exact h x u hx
theorem oneC_rc (q:Rc):OneC (encRc q):=fun u hu=>by simp [encRc] at hu;rcases hu with rfl | rfl | rfl | rfl <;> rfl
theorem oneC_sp (q:Sp):OneC (encSp q):=fun u hu=>by simp [encSp] at hu;rcases hu with rfl | rfl <;> rfl
theorem own_lit0 {w:World} {g base:Nat} {t:TypeId} {k:Nat} (h:Blk w g t #[]) (hb:base≤g):w.ownsRow base t k (.slice (some ⟨g,0,none⟩) 0 0) 0 []:=⟨by simp,.inr ⟨g,0,#[],rfl,hb,h,Nat.le_refl _,Nat.zero_le _,by simp,by simp⟩⟩
theorem blk_app {w w':World} {g base k n:Nat} {t e:TypeId} {cs:Array Value} {v:Value} {xs:List Value} (h:Blk w g t cs) (ho:w.ownsRow base e k v n xs) (hg:w.grownBy w' v.ownBlock) (hne:t ≠ e):Blk w' g t cs:=by
 refine (hg.block g h.lt ?_).trans h
 rcases ho.2 with ⟨rfl,_⟩ | ⟨g',cap,cur,rfl,_,hh,_⟩
 ·simp [Value.ownBlock]
 ·intro c
  have:g=g':=by simpa [Value.ownBlock] using c
  subst this
  rw [show w.heap[g]? = _ from h] at hh
  cases hh;exact hne rfl
theorem bdn {a w:World} (h:Below a.heap.size a w) (n:Nat):Below a.heap.size a (w.drewN n):=⟨h.os,h.tape,h.output,h.size,h.block⟩
class Bw (a w:World):Prop where
 out:Below a.heap.size a w
instance bwR {a:World}:Bw a a:=⟨Below.refl _ _⟩
instance bwD {a w:World} [h:Bw a w]:Bw a w.drew:=⟨bdr h.out⟩
instance bwN {a w:World} {n:Nat} [h:Bw a w]:Bw a (w.drewN n):=⟨bdn h.out n⟩
instance bwA {a w:World} {o:Obj} [h:Bw a w]:Bw a (w.alloc o):=⟨bal h.out o⟩
theorem own_keep {w w':World} {base n size:Nat} {v:Value} {e:TypeId} {xs:List Value} (h:w.ownsRow base e size v n xs) (hb:Below w.heap.size w w'):w'.ownsRow base e size v n xs :=
 h.kept (row:=none) ⟨hb.os,hb.tape,hb.output,hb.size,fun k hk _=>hb.block k hk⟩ (by cases h:v.ownBlock <;> simp)
theorem own_some {w:World} {base n size:Nat} {v:Value} {e:TypeId} {xs:List Value} (h:w.ownsRow base e size v (n+1) xs):∃ g cap,v=.slice (some ⟨g,0,none⟩) (n+1) cap∧n+1≤cap∧cap≤maxLen∧base≤g∧g<w.heap.size:=by
 obtain ⟨a,cap,rfl,h1,h2,h3⟩:=own_form h
 rcases h3 with ⟨_,h4,_⟩ | ⟨g,rfl,h4,h5⟩
 ·omega
 ·exact ⟨g,cap,rfl,h1,h2,h4,h5⟩
theorem own_base {w:World} {b b':Nat} {e:TypeId} {size:Nat} {v:Value} {n:Nat} {xs:List Value} (h:w.ownsRow b e size v n xs) (hb:b'≤b):w.ownsRow b' e size v n xs:=by
 refine ⟨h.1,?_⟩
 rcases h.2 with h | ⟨g,cap,cur,h1,h2,h3⟩
 ·exact .inl h
 ·exact .inr ⟨g,cap,cur,h1,Nat.le_trans hb h2,h3⟩
theorem below_put {w wr:World} {t:TypeId} {k n g cap:Nat} {xs:List Value} (h:wr.ownsRow w.heap.size t k (.slice (some ⟨g,0,none⟩) n cap) n xs) (hb:Below w.heap.size w wr) (o:Nat) (u:Value):Below w.heap.size w (wr.setCell ⟨g,o,none⟩ u) :=
 bst hb g o u (own_lt h).1
theorem rcCells_snoc (l:List Rc) (x:Rc):rcCells (l++[x])=rcCells l++encRc x:=cellsOf_snoc l x
theorem spCells_snoc (l:List Sp) (x:Sp):spCells (l++[x])=spCells l++encSp x:=cellsOf_snoc l x
theorem elRc:ElT Tryz.prog 36 87 4 32:=.mk' Tryz.underlying36 infoRc rfl (by decide) (by decide)
theorem elSp:ElT Tryz.prog 226 243 2 16:=.mk' Tryz.underlying226 infoSp rfl (by decide) (by decide)
theorem elInt:ElT Tryz.prog 25 3 1 8:=.mk' Tryz.underlying25 infoInt rfl (by decide) (by decide)
theorem setRow_alloc (w:World) (z cs:Array Value) (t:TypeId):(w.alloc (.cells z t)).setRow w.heap.size cs=w.alloc (.cells cs t):=by
 have h:(w.alloc (.cells z t)).heap[w.heap.size]? = some (.cells z t (0,0)):=heap_alloc_new w _
 have e:((w.alloc (.cells z t)).setRow w.heap.size cs).heap=(w.alloc (.cells cs t)).heap:=by
  apply Array.ext_getElem?
  intro i
  by_cases hi:i=w.heap.size
  ·subst hi
   rw [setRow_heap _ _ _ _ _ _ h,heap_alloc_new]
  ·rw [setRow_other _ _ _ _ hi]
   by_cases hl:i<w.heap.size
   ·rw [Below.heap_alloc _ _ _ hl,Below.heap_alloc _ _ _ hl]
   ·rw [Array.getElem?_eq_none (by simp;omega),Array.getElem?_eq_none (by simp;omega)]
 cases w
 simp only [World.alloc,World.setRow] at e ⊢
 rw [e]
theorem st_new {P:Program} {ops:Array Oper} {rest:List Oper} {o:Oper} {a:Act} {w:World} {Q:Exit→Act→World→Prop} (hgd:o.guard=none) (ty:TypeId) (x y:Operand) (ho:o.op=.store ty x y)
  (cells z:Array Value) (t:TypeId) (hx:a.eval x=.pointer (some ⟨w.heap.size,0,none⟩)) (hy:a.eval y=.agg cells) (hi:(P.info? ty).map (·.size)=some cells.size) (hold:z.size=cells.size) (h1:cells.all (·.oneCell')=true)
  (h:wpList P ops Q rest (a.put o.dst undef) (w.alloc (.cells cells t))):wpList P ops Q (o :: rest) a (w.alloc (.cells z t)):=by
 refine wpList_store_row hgd ty x y ho w.heap.size cells hx hy t z (heap_alloc_new w _) hi hold h1 ?_
 rw [setRow_alloc]
 exact h
theorem ld_row_w {P:Program} {ops:Array Oper} {rest:List Oper} {o:Oper} {a:Act} {w:World} {Q:Exit→Act→World→Prop} (hw:Region.wanted o (yielded ops a.tmps)=true) (ty:TypeId) (x:Operand) (ho:o.op=.load ty x)
  (g:Nat) (hx:a.eval x=.pointer (some ⟨g,0,none⟩)) (t:TypeId) (cs:Array Value) (fr:Nat × Nat) (d:TypeDesc) (hg:w.heap[g]? = some (.cells cs t fr))
  (hu:P.underlying ty=some d) (hd:(match d with | .struct _ | .array _ _=>true | _=>false)=true) (hi:(P.info? ty).map (·.size)=some cs.size)
  (h:wpList P ops Q rest (a.put o.dst (.agg cs)) w):wpList P ops Q (o :: rest) a w :=
 wpList_step fun K hK=>by rw [if_pos hw];exact wp_load_row ty x ho g hx t cs fr d hg hu hd hi (hK _ _ h)
theorem bs_one {P:Program} {t e:TypeId} {size bytes:Nat} (T:ElT P t e size bytes) (hsz:size≤1000) {ops:Array Oper} {rest:List Oper} {o:Oper} {a:Act} {w:World} {Q:Exit→Act→World→Prop} (hg:o.guard=none) (x:Operand) (ho:o.op=.buildSlice t 1 #[(0,x)])
  (cells:Array Value) (hx:a.eval x=.agg cells) (hc:cells.size=size)
  (h:wpList P ops Q rest (a.put o.dst (.slice (some ⟨w.heap.size,0,none⟩) 1 1)) (w.alloc (.cells cells e))):wpList P ops Q (o :: rest) a w:=by
 obtain ⟨⟨i,z,ht,hi,hz,hs,hb,hzs⟩,hs0,hb0⟩:=T
 refine wpList_buildSlice hg t e 1 #[(0,x)] ho cells i z ht hi hz (by rw [hs];omega) (by rw [hs];omega) ?_ h
 have:=Great.fill_whole (s:=i.size) (by omega) [.agg cells] ((Array.range (1 * i.size)).map (z.cells[· % z.cells.size]!)) (by simp [Value.cells,hs,hc]) (by simp)
 simpa [Value.cells,hx] using this
theorem Vw.range {α:Type} {enc:α→List Value} {k:Nat} {w:World} {a:Option Addr} {l:List α} (h:Vw w a (cellsOf enc l)) (hk:∀ x ∈ l,(enc x).length=k) (hk0:0<k) (i:Nat) (hi:i<l.length) :
  ∃ b off:Nat,a=some ⟨b,off,none⟩∧b<w.heap.size∧w.rangeAt b (off+i * k) (enc l[i]):=by
 have key:∀ (l:List α),(∀ x ∈ l,(enc x).length=k)→∀ i (hi:i<l.length) j,j<k→(cellsOf enc l)[i * k+j]? = (enc l[i])[j]?:=by
  intro l
  induction l with
  | nil=>intro _ i hi;simp at hi
  | cons x l ih =>
   intro hk i hi j hj
   have hx:=hk x List.mem_cons_self
   cases i with
   | zero =>
    simp only [cellsOf,List.flatMap_cons,Nat.zero_mul,Nat.zero_add,List.getElem_cons_zero]
    exact List.getElem?_append_left (by omega)
   | succ i =>
    have:=ih (fun y hy=>hk y (List.mem_cons_of_mem _ hy)) i (by simpa using hi) j hj
    simp only [cellsOf,List.flatMap_cons,List.getElem_cons_succ] at this ⊢
    rw [List.getElem?_append_right (by rw [hx,Nat.add_mul];omega),← this,hx]
    congr 1
    rw [Nat.add_mul];omega
 have e0:=key l hk i hi 0 hk0
 have hxl:=hk l[i] (List.getElem_mem hi)
 rw [List.getElem?_eq_getElem (show 0<(enc l[i]).length by omega)] at e0
 obtain ⟨b,off,rfl,hc⟩:=h (i * k+0) _ e0
 refine ⟨b,off,rfl,World.block_lt_of_cell? w _ hc,fun j v hj=>?_⟩
 have hjk:j<k:=by rw [← hxl];exact (List.getElem?_eq_some_iff.1 hj).1
 obtain ⟨b',off',e,hc'⟩:=h (i * k+j) v ((key l hk i hi j hjk).trans hj)
 cases e
 rwa [← Nat.add_assoc] at hc'
theorem rangeAt_below {w wx:World} {b o:Nat} {cs:List Value} (h:w.rangeAt b o cs) (hb:Below w.heap.size w wx):wx.rangeAt b o cs:=fun j v hj=>bc1 hb (h j v hj)
set_option linter.unusedSimpArgs false
structure Bn where
 lo:Int
 hi:Int
 a:Option Addr
 m:Nat
 c:Nat
 sp:List Sp
def encBn (b:Bn):List Value:=[.int .i64 b.lo,.int .i64 b.hi,.slice b.a b.m b.c]
theorem encBn_len (b:Bn):(encBn b).length=3:=rfl
def Bn.bd (b:Bn):Bd:=(b.lo,b.hi,b.sp)
def bds (l:List Bn):List Bd:=l.map Bn.bd
def bandRc (b:Bn) (l:List Sp):List Rc:=l.map fun s=>(s.1,b.lo,s.2,b.hi)
theorem flat_snoc (l:List Bn) (b:Bn):flat (bds (l++[b]))=flat (bds l)++bandRc b b.sp:=by
 simp [bds,flat,Bn.bd,bandRc]
theorem flat_take_succ {l:List Bn} {k:Nat} {b:Bn} (h:l[k]? = some b):flat (bds (l.take (k+1)))=flat (bds (l.take k))++bandRc b b.sp:=by
 rw [List.take_add_one,h];exact flat_snoc _ _
theorem bandRc_snoc {b:Bn} {l:List Sp} {j:Nat} {s:Sp} (h:l[j]? = some s):bandRc b (l.take (j+1))=bandRc b (l.take j)++[(s.1,b.lo,s.2,b.hi)]:=by
 unfold bandRc;rw [List.take_add_one,h];simp
theorem flat_le {l:List Bn} (k:Nat):(flat (bds (l.take k))).length≤(flat (bds l)).length:=by
 have e:flat (bds l)=flat (bds (l.take k))++flat (bds (l.drop k)):=by
  simp only [bds,flat,List.map_take,List.map_drop,← List.flatMap_append,List.take_append_drop]
 rw [e,List.length_append];omega
theorem bandRc_len (b:Bn) (l:List Sp):(bandRc b l).length=l.length:=by simp [bandRc]
theorem Vw.el {α:Type} {enc:α→List Value} {k:Nat} {w:World} {a:Option Addr} {l:List α} (h:Vw w a (cellsOf enc l)) (hk:∀ x,(enc x).length=k) (hk0:0<k) (i:Nat) (hi:i<l.length) :
  ∃ (x:α) (b off:Nat),l[i]? = some x∧a=some ⟨b,off,none⟩∧b<w.heap.size∧∀ j v,(enc x)[j]? = some v→w.cell? ⟨b,off+i * k+j,none⟩=some v:=by
 obtain ⟨b,off,e,hb,hc⟩:=h.elem hk hk0 i hi
 exact ⟨l[i],b,off,List.getElem?_eq_getElem hi,e,hb,hc⟩
def RowW (w:World) (t:TypeId) (k:Nat) (n:Nat) (L:Nat→List Value) (N:Nat→Nat) (v i:Value) (wr:World):Prop:=∃ j:Nat,j≤n∧i=.int .i64 j∧wr.ownsRow w.heap.size t k v (N j) (L j)∧Below w.heap.size w wr
theorem rects_any (a:Option Addr) (n cap:Nat) (bs:List Bn) (w:World) (hV:Vw w a (cellsOf encBn bs)) (hn:bs.length=n) (hc:n≤1000000000000) (hS:∀ b ∈ bs,Vw w b.a (spCells b.sp)∧b.sp.length=b.m) (hF:(flat (bds bs)).length≤1000000000000) :
  Calls Tryz.prog 201 #[.slice a n cap] w (NewRc w (flat (bds bs))):=by
 have HV:=hid hV;have HN:=hid hn;have HS:=hid hS;have HF:=hid hF
 clear hV hn hS hF
 go_enter Tryz.func201,Tryz.ntmps201
 go_wp2
 go_loopw [3,10] (fun v i wr=>RowW w 87 4 n (fun j=>rcCells (flat (bds (bs.take j)))) (fun j=>(flat (bds (bs.take j))).length) v i wr) (fun _ i _=>n - (intOf i).toNat)
 case atStart=>exact ⟨0,Nat.zero_le _,rfl,World.ownsRow_nil _ _ _ _,Below.refl _ _⟩
 case round =>
  obtain ⟨k,hk,rfl,hown,hb⟩:=hrel
  dsimp only at hown
  obtain ⟨L0,hL0⟩:∃ L0,flat (bds (bs.take k))=L0:=⟨_,rfl⟩
  rw [hL0] at hown
  obtain ⟨a0,cap0,rfl,-,-,-⟩:=own_form hown
  have HL0:=hid hL0
  clear hL0
  by_cases hlt:k<n
  ·have hlt':(k:Int)<(n:Int):=by omega
   obtain ⟨x,b,off,hx,rfl,hbl,hcx⟩:=(HV.out.below hb).el encBn_len (by omega) k (by have:=HN.out;omega)
   obtain ⟨hxv,hxm⟩:=HS.out x (List.mem_of_getElem? hx)
   have c0:wr.cell? ⟨b,off+k * 3,none⟩=_:=hcx 0 _ rfl;have c1:=hcx 1 _ rfl;have c2:=hcx 2 _ rfl
   have XV:=hid hxv;have XM:=hid hxm;have HX:=hid hx
   have hlen:L0.length+x.m≤1000000000000:=by
    have:=flat_le (l:=bs) (k+1)
    rw [flat_take_succ hx,List.length_append,bandRc_len,hxm,HL0.out] at this
    have:=HF.out;omega
   clear hx hxv hxm hcx
   obtain ⟨xlo,xhi,xa,xm,xc,xsp⟩:=x
   dsimp only at c0 c1 c2 hlen
   have OWN:=hid hown;have HB:=hid hb
   clear hown hb
   go_wp2
   obtain ⟨wo,rfl⟩:∃ wo:World,wo=wr:=⟨_,rfl⟩
   go_loopw [3,17] (fun v i wx=>RowW w 87 4 xm (fun j=>rcCells (L0++bandRc ⟨xlo,xhi,xa,xm,xc,xsp⟩ (xsp.take j))) (fun j=>(L0++bandRc ⟨xlo,xhi,xa,xm,xc,xsp⟩ (xsp.take j)).length) v i wx∧Blk wx wo.heap.size 240 #[.int .i64 xlo,.int .i64 xhi,.slice xa xm xc]) (fun _ i _=>xm - (intOf i).toNat)
   case atStart=>exact ⟨⟨0,Nat.zero_le _,rfl,by simpa [bandRc] using OWN.out.alloc _,bal HB.out _⟩,Blk.fresh rfl⟩
   case round =>
    clear OWN
    obtain ⟨⟨j,hj,rfl,hown,hb⟩,hbox⟩:=hrel
    dsimp only at hown
    have d0:wr.cell? ⟨wo.heap.size,0,none⟩=some (.int .i64 xlo):=hbox.cell 0
    have d1:wr.cell? ⟨wo.heap.size,1,none⟩=some (.int .i64 xhi):=hbox.cell 1
    have yd:=hbox.lt
    have hlj:(L0++bandRc ⟨xlo,xhi,xa,xm,xc,xsp⟩ (xsp.take j)).length≤(L0).length+j:=by
     rw [List.length_append,bandRc_len,List.length_take];omega
    obtain ⟨L,hL⟩:∃ L,L0++bandRc ⟨xlo,xhi,xa,xm,xc,xsp⟩ (xsp.take j)=L:=⟨_,rfl⟩
    rw [hL] at hown hlj
    obtain ⟨a1,cap1,rfl,-,-,-⟩:=own_form hown
    have BX:=hid hbox
    clear hbox
    by_cases hlt2:j<xm
    ·have hlt2':(j:Int)<(xm:Int):=by omega
     obtain ⟨s,b',off',hs,rfl,hbl',hcs⟩:=(XV.out.below hb).el encSp_len (by omega) j (by have:=XM.out;omega)
     have e0:wr.cell? ⟨b',off'+j * 2,none⟩=_:=hcs 0 _ rfl;have e1:=hcs 1 _ rfl
     have HS2:=hid hs
     have HL:=hid hL
     clear hcs hs hL
     obtain ⟨s0,s1⟩:=s
     dsimp only at e0 e1
     have OWN:=hid hown;have HB2:=hid hb
     clear hown hb
     go_wp2_with (at_builtin;refine app_list elRc rfl _ _ rfl w.heap.size _ L.length (rcCells L) rfl ((OWN.out.alloc _).alloc _) _ 1 _ (encRc (s0,xlo,s1,xhi)) rfl (vw_blk (Blk.fresh (by simp))) (by simp) rfl (oneC_rc _) (by omega) (by have:=HB2.out.size;simp;omega) ?_;intro v2 w2 hown2 hg2 _;obtain ⟨a2,cap2,rfl,-,-,-⟩:=own_form hown2)
     go_roundw
     case rel =>
      have eL:L0++bandRc ⟨xlo,xhi,some ⟨b',off',none⟩,xm,xc,xsp⟩ (xsp.take (j+1))=L++[(s0,xlo,s1,xhi)]:=by
       rw [bandRc_snoc HS2.out,← List.append_assoc,HL.out]
      refine ⟨⟨j+1,by omega,by go_num,?_,below_app ((OWN.out.alloc _).alloc _) (bal (bal HB2.out _) _) hg2⟩,blk_app ((BX.out.alloc _).alloc _) ((OWN.out.alloc _).alloc _) hg2 (by decide)⟩
      dsimp only
      rw [eL,rcCells_snoc,List.length_append]
      exact hown2
     case measure=>simp [intOf];omega
    ·have hge2:¬ (j:Int)<(xm:Int):=by omega
     rw [List.take_of_length_le (by have:=XM.out;omega)] at hL
     have HL:=hid hL
     have OWN:=hid hown;have HB2:=hid hb
     clear hown hb hL
     go_wp2
     go_roundw
     case rel =>
      refine ⟨k+1,by omega,by go_num,?_,HB2.out⟩
      dsimp only
      rw [flat_take_succ HX.out,HL0.out]
      dsimp only
      rw [HL.out]
      exact OWN.out
     case measure=>simp [intOf];omega
  ·have hge:¬ (k:Int)<(n:Int):=by omega
   have OWN:=hid hown;have HB:=hid hb
   clear hown hb
   go_wp2
   go_ret
   have e:=HL0.out
   rw [List.take_of_length_le (by have:=HN.out;omega)] at e
   rw [e]
   exact ⟨_,rfl,OWN.out,HB.out⟩
def Wrt (w:World) (a:Option Addr):Prop:=∀ g off,a=some ⟨g,off,none⟩→off=0∧∃ T cs,Blk w g T cs
theorem Wrt.below {w w':World} {a:Option Addr} (h:Wrt w a) (hb:Below w.heap.size w w'):Wrt w' a:=fun g off e=>by
 obtain ⟨h0,T,cs,k⟩:=h g off e
 exact ⟨h0,T,cs,k.below hb⟩
theorem Wrt.step {w w':World} {b:Nat} {a:Option Addr} (h:Wrt w a) (hs:Steps1 b w w') (hn:∀ g off,a=some ⟨g,off,none⟩→g ≠ b):Wrt w' a:=fun g off e=>by
 obtain ⟨h0,T,cs,k⟩:=h g off e
 exact ⟨h0,T,cs,k.step hs (hn g off e)⟩
end Go.Proofs.YtancajcelmhnkaaGreatDoor
