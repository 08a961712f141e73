/- Small lemmas of the walks: what a call leaves as it was. -/
import Derived.Test.YtglhenobodndjaaGreatDoorRows
import Derived.WalkKit
import Derived.WalkSpells
import Derived.WalkLawsBesides
import Derived.Lib.Hide
import Derived.Deep.QuietTactic
import Derived.BigQuiet
import Derived.Deep.RegionWith
import Derived.Deep.RegionHeld3
import Derived.Deep.CutRange
import Derived.Deep.DeepCutAuto
import Derived.Deep.CutBlock
import Derived.Deep.Draws
import Derived.Laws.OwnMore
import Derived.Laws.Rows
namespace Go.Proofs.YtglhenobodndjaaGreatDoor
open Go.RowKit

theorem bcell {W w1 : World} (hb : Below W.heap.size W w1) : (∀ b o, b < W.heap.size → w1.cell? ⟨b, o, none⟩ = W.cell? ⟨b, o, none⟩) ∧ (∀ b o, b < W.heap.size → w1.frozen? ⟨b, o, none⟩ = W.frozen? ⟨b, o, none⟩) :=
  ⟨fun b o h => hb.cell (p := ⟨b, o, none⟩) h, fun b o h => hb.frozen (p := ⟨b, o, none⟩) h⟩
section
variable {a w w1 : World}
theorem bal (h : Below a.heap.size a w) (o : Obj) : Below a.heap.size a (w.alloc o) := h.alloc h.size o
theorem bdr (h : Below a.heap.size a w) : Below a.heap.size a w.drew := h.drew
theorem bst (h : Below a.heap.size a w) (b o : Nat) (u : Value) (hp : a.heap.size ≤ b) : Below a.heap.size a (w.setCell ⟨b, o, none⟩ u) := h.setCell hp u
theorem btr (h : Below a.heap.size a w) (k : Below w.heap.size w w1) : Below a.heap.size a w1 := h.trans (k.mono h.size)
end
theorem bc1 {W w1 : World} {b o : Nat} {v : Value} (hb : Below W.heap.size W w1) (h : W.cell? ⟨b, o, none⟩ = some v) : w1.cell? ⟨b, o, none⟩ = some v :=
  (hb.cell (p := ⟨b, o, none⟩) (World.block_lt_of_cell? W _ h)).trans h
theorem bf1 {W w1 : World} {b o : Nat} {v : Value} (hb : Below W.heap.size W w1) (h : W.cell? ⟨b, o, none⟩ = some v) (hf : W.frozen? ⟨b, o, none⟩ = false) : w1.frozen? ⟨b, o, none⟩ = false :=
  (hb.frozen (p := ⟨b, o, none⟩) (World.block_lt_of_cell? W _ h)).trans hf
theorem ret_bool {a b : Bool} (h : a = b) : Ending.returned (.bool a) = .returned (.bool b) := by rw [h]
theorem ret_int {k : IntKind} {a b : Int} (h : a = b) : Ending.returned (.int k a) = .returned (.int k b) := by rw [h]

theorem into {p g : Prop} (h : p) (k : p → g) : g := k h

end Go.Proofs.YtglhenobodndjaaGreatDoor
