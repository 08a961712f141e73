/- The keeper's rectangles and regions;what is made beside the tape. -/
import Derived.Test.YtancajcelmhnkaaGreatDoorGk
import Derived.Test.YtancajcelmhnkaaGreatDoorGm
namespace Go.Proofs.YtancajcelmhnkaaGreatDoor
open Go.RowKit Go.Sort Go.Shelf
set_option linter.unusedVariables false
set_option linter.unusedSimpArgs false
theorem own_step {w w':World} {b base n size:Nat} {v:Value} {e:TypeId} {xs:List Value} (h:w.ownsRow base e size v n xs) (hs:Steps1 b w w') (hb:b<base):w'.ownsRow base e size v n xs :=
 h.kept hs.grown (by
  cases hv:v.ownBlock with
  | none=>exact .inl rfl
  | some g=>have:=(h.lt g hv).1;exact .inr fun e=>by cases e;omega)
theorem steps_app {w wr w2:World} {b k n:Nat} {t:TypeId} {v:Value} {xs:List Value} (hs:Steps1 b w wr) (ho:wr.ownsRow w.heap.size t k v n xs) (hg:wr.grownBy w2 v.ownBlock):Steps1 b w w2:=by
 have hk:∀ i,i<w.heap.size→w2.heap[i]? = wr.heap[i]?:=fun i hi=>hg.block i (Nat.lt_of_lt_of_le hi hs.size) fun e=>by
  have:=(ho.lt i e.symm).1
  omega
 refine ⟨hs.was,⟨hg.os.trans hs.grown.os,hg.tape.trans hs.grown.tape,hg.output.trans hs.grown.output,Nat.le_trans hs.size hg.size,fun i hi hn=>(hk i hi).trans (hs.grown.block i hi hn)⟩,hs.now.keep fun i hi=>hk i (Nat.lt_of_le_of_lt hi hs.lt)⟩
theorem steps_setRow {w w1:World} {b g:Nat} (hs:Steps1 b w w1) (hg:w.heap.size≤g) (cs:Array Value):Steps1 b w (w1.setRow g cs):=by
 have hk:∀ i,i<w.heap.size→(w1.setRow g cs).heap[i]? = w1.heap[i]?:=fun i hi=>setRow_other _ _ _ _ (by omega)
 exact ⟨hs.was,⟨hs.grown.os,hs.grown.tape,hs.grown.output,by simpa [World.setRow] using hs.size,fun i hi hn=>(hk i hi).trans (hs.grown.block i hi hn)⟩,hs.now.keep fun i hi=>hk i (Nat.lt_of_le_of_lt hi hs.lt)⟩
theorem ftInfo:(Tryz.prog.info? 49).map (·.size)=some 5:=by kernel_rfl
theorem infoFt:(Tryz.prog.info? 49).map (fun i=>(i.zero,i.size,i.bytes))=some (some (.agg #[.int .i64 0,.int .i64 0,.int .i64 0,.int .i64 0,.slice none 0 0]),5,56):=by kernel_rfl
theorem elFt:ElT Tryz.prog 34 49 5 56:=.mk' Tryz.underlying34 infoFt rfl (by decide) (by decide)
theorem ft_one (a b c d:Int) (s:Option Addr) (n k:Nat):(#[.int .i64 a,.int .i64 b,.int .i64 c,.int .i64 d,.slice s n k]:Array Value).all (·.oneCell')=true:=by
 rw [List.all_toArray];rfl
theorem oneC_ft (f:FtrM):OneC (encFtr f):=fun u hu=>by simp [encFtr] at hu;rcases hu with rfl | rfl | rfl | rfl | rfl <;> rfl
structure FGood (f:Ftr):Prop where
 number:1≤f.number∧f.number≤1073741824
 days:0≤f.since∧f.since<f.till∧f.till≤36865
 some:f.rects ≠ []
 valid:Vld f.rects
def kindOk (k:Int):Bool:=decide (0≤k∧k≤15)
structure LGood (l:List Ftr):Prop where
 len:l.length≤60
 good:∀ f ∈ l,FGood f
 pair:l.Pairwise fun a b=>a.number<b.number
def LChk (l:List Ftr) (x:Int):Prop:=((∀ f ∈ l,kindOk f.kind=true)→x=0)∧((∃ f ∈ l,kindOk f.kind=false)→x=14)
end Go.Proofs.YtancajcelmhnkaaGreatDoor
