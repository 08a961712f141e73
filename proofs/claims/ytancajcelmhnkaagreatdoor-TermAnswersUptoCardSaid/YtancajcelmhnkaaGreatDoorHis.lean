/- The reference's histories: which are right (but for their order);what is known in a year. -/
import Derived.Test.YtancajcelmhnkaaGreatDoorGn
namespace Go.Proofs.YtancajcelmhnkaaGreatDoor
open Go.RowKit Go.Sort Go.Shelf
set_option linter.unusedVariables false
set_option linter.unusedSimpArgs false
theorem rdInfo:(Tryz.prog.info? 47).map (·.size)=some 3:=by kernel_rfl
theorem infoRd:(Tryz.prog.info? 47).map (fun i=>(i.zero,i.size,i.bytes))=some (some (.agg #[.int .i64 0,.int .i64 0,.slice none 0 0]),3,40):=by kernel_rfl
theorem elRd:ElT Tryz.prog 32 47 3 40:=.mk' Tryz.underlying32 infoRd rfl (by decide) (by decide)
theorem rd_one (a b:Int) (s:Option Addr) (n k:Nat):(#[.int .i64 a,.int .i64 b,.slice s n k]:Array Value).all (·.oneCell')=true:=by
 rw [List.all_toArray];rfl
theorem oneC_rd (r:RcdM):OneC (encRcd r):=fun u hu=>by simp [encRcd] at hu;rcases hu with rfl | rfl | rfl <;> rfl
structure HGood (l:List Rcd):Prop where
 len:l.length≤200
 ok:∀ r ∈ l,r.Ok
 lap:∀ i j (hj:j<l.length) (hi:i<j),l[i].year=l[j].year→¬ Meet l[i].rects l[j].rects
def HSort (l:List Rcd):Prop:=∀ j (hj:j<l.length) (h:0<j),l[j - 1].lt l[j]
def HChk (l:List Rcd) (x:Int):Prop:=(HSort l→x=0)∧(¬ HSort l→x=3)
theorem HistOk.good {l:List Rcd} (h:HistOk l):HGood l:=⟨h.len,fun r hr=>h.mem hr,fun i j hj hi e m=>h.lap ⟨i,j,hj,hi,e,m⟩⟩
theorem HistOk.sort {l:List Rcd} (h:HistOk l):HSort l:=fun j hj h0=>(h.pre j hj hj).2 h0
theorem hsort_bad {l:List Rcd} {m:Nat} (hm:m+1<l.length) (h:¬ l[m].lt l[m+1]):HChk l 3:=⟨fun hs=>absurd (hs (m+1) hm (by omega)) h,fun _=>rfl⟩
end Go.Proofs.YtancajcelmhnkaaGreatDoor
