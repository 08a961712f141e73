/- A slice of integers that came in; a new tape over it. -/
import Derived.Test.YtglhenobodndjaaGreatDoorMemo
namespace Go.Proofs.YtglhenobodndjaaGreatDoor
open Go.RowKit

/-- A slice of integers that came in. -/
def IsRow (k : IntKind) (w : World) (a : Option Addr) (len cap : Nat) (zs : List Int) : Prop :=
  (a = none ∧ len = 0 ∧ cap = 0 ∧ zs = []) ∨
  ∃ x, a = some x ∧ len ≤ cap ∧ cap ≤ maxLen ∧ zs.length = cap ∧ (∀ i, i < zs.length → w.cell? (x.add i) = some (.int k (zs.getD i 0))) ∧ ∀ n ∈ zs, (Lit.int k n).wf = true

/-- What New answers: the tape is the next block. -/
def NewPost (w : World) (e : Ending) (w' : World) : Prop := e = .returned (.pointer (some ⟨w.heap.size, 0, none⟩)) ∧ Below w.heap.size w w' ∧ Tape w' w.heap.size

theorem tape_new (w : World) (a : Option Addr) (len cap : Nat) (h400 : len ≤ 400) (hc : 0 < len → ∃ x : Addr, a = some x ∧ x.block < w.heap.size ∧ ∀ i, i < len → ∃ z : Int, w.cell? (x.add i) = some (.int .i64 z)) :
    Tape (w.alloc (.cells #[.slice a len cap, .int .i64 0] 65)) w.heap.size := by
  refine ⟨a, len, cap, 0, heap_alloc_new w _, Nat.zero_le _, h400, fun hl => ?_⟩
  obtain ⟨x, hx, hb, hz⟩ := hc hl
  refine ⟨x, hx, hb, fun i hi => ?_⟩
  obtain ⟨z, h⟩ := hz i hi
  refine ⟨z, (World.cell?_alloc_lt w _ _ ?_).trans h⟩
  have : (x.add i).block = x.block := by unfold Addr.add; split <;> rfl
  omega

set_option maxHeartbeats 1000000 in
theorem new_any (a : Option Addr) (len cap : Nat) (zs : List Int) (w : World) (hr : IsRow .i64 w a len cap zs) :
    Calls Tryz.prog 8 #[.slice a len cap] w (NewPost w) := by
  rcases hr with ⟨rfl, rfl, rfl, rfl⟩ | ⟨x, rfl, hl, hm, hz, hcell, hwz⟩
  · go_enter Tryz.func8, Tryz.ntmps8
    go_wp2
    go_ret
    exact ⟨rfl, (Below.refl _ _).alloc (Nat.le_refl _) _, tape_new w _ _ _ (by omega) (by omega)⟩
  · unfold maxLen at hm
    have HC := Lib.hid hcell
    have HZ := Lib.hid hz
    clear hcell hz hwz
    by_cases h4 : len ≤ 400
    · go_enter Tryz.func8, Tryz.ntmps8
      go_wp2
      go_ret
      refine ⟨rfl, (Below.refl _ _).alloc (Nat.le_refl _) _, tape_new w _ _ _ (by omega) (fun hl' => ⟨x, rfl, ?_, fun i hi => ⟨_, HC.out i (by have := HZ.out; omega)⟩⟩)⟩
      have h0 := HC.out 0 (by have := HZ.out; omega)
      exact World.block_lt_of_cell? w x (by simpa [Addr.add] using h0)
    · go_enter Tryz.func8, Tryz.ntmps8
      go_wp2
      go_ret
      refine ⟨rfl, (Below.refl _ _).alloc (Nat.le_refl _) _, tape_new w _ _ _ (by omega) (fun hl' => ⟨x, rfl, ?_, fun i hi => ⟨_, HC.out i (by have := HZ.out; omega)⟩⟩)⟩
      have h0 := HC.out 0 (by have := HZ.out; omega)
      exact World.block_lt_of_cell? w x (by simpa [Addr.add] using h0)
theorem IsRow.alloc {k : IntKind} {w : World} {a : Option Addr} {len cap : Nat} {zs : List Int} (h : IsRow k w a len cap zs) (o : Obj) : IsRow k (w.alloc o) a len cap zs := by
  rcases h with h | ⟨x, h1, h2, h3, h4, h5, h6⟩
  · exact .inl h
  · refine .inr ⟨x, h1, h2, h3, h4, fun i hi => ?_, h6⟩
    have hc := h5 i hi
    exact (World.cell?_alloc_lt w o _ (World.block_lt_of_cell? w _ hc)).trans hc
end Go.Proofs.YtglhenobodndjaaGreatDoor
