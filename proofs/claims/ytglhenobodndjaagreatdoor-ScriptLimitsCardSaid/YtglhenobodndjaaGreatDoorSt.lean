/- A struct stored into a block just made; an element of a slice of structs as a range; a builder behind what makes memory. -/
import Derived.Test.YtglhenobodndjaaGreatDoorApp
import Derived.Deep.MidRow
import Derived.Laws.Tables
import Derived.Laws.Rows
import Derived.Lib.Builder
import Derived.Great.BuildSlice
import Derived.Great.FillDense
namespace Go.Proofs.YtglhenobodndjaaGreatDoor
open Go.RowKit
set_option linter.unusedVariables false

theorem setRow_alloc (w : World) (z cs : Array Value) (t : TypeId) : (w.alloc (.cells z t)).setRow w.heap.size cs = w.alloc (.cells cs t) := by
  have h : (w.alloc (.cells z t)).heap[w.heap.size]? = some (.cells z t (0, 0)) := heap_alloc_new w _
  have e : ((w.alloc (.cells z t)).setRow w.heap.size cs).heap = (w.alloc (.cells cs t)).heap := by
    apply Array.ext_getElem?
    intro i
    by_cases hi : i = w.heap.size
    · subst hi
      rw [setRow_heap _ _ _ _ _ _ h, heap_alloc_new]
    · rw [setRow_other _ _ _ _ hi]
      by_cases hl : i < w.heap.size
      · rw [Below.heap_alloc _ _ _ hl, Below.heap_alloc _ _ _ hl]
      · rw [Array.getElem?_eq_none (by simp; omega), Array.getElem?_eq_none (by simp; omega)]
  cases w
  simp only [World.alloc, World.setRow] at e ⊢
  rw [e]
/-- A struct goes into a block just made. -/
theorem st_new {P : Program} {ops : Array Oper} {rest : List Oper} {o : Oper} {a : Act} {w : World} {Q : Exit → Act → World → Prop} (hgd : o.guard = none) (ty : TypeId) (x y : Operand) (ho : o.op = .store ty x y)
    (cells z : Array Value) (t : TypeId) (hx : a.eval x = .pointer (some ⟨w.heap.size, 0, none⟩)) (hy : a.eval y = .agg cells) (hi : (P.info? ty).map (·.size) = some cells.size) (hold : z.size = cells.size) (h1 : cells.all (·.oneCell') = true)
    (h : wpList P ops Q rest (a.put o.dst undef) (w.alloc (.cells cells t))) : wpList P ops Q (o :: rest) a (w.alloc (.cells z t)) := by
  refine wpList_store_row hgd ty x y ho w.heap.size cells hx hy t z (heap_alloc_new w _) hi hold h1 ?_
  rw [setRow_alloc]
  exact h
/-- A struct loaded by a guarded operation. -/
theorem ld_row_w {P : Program} {ops : Array Oper} {rest : List Oper} {o : Oper} {a : Act} {w : World} {Q : Exit → Act → World → Prop} (hw : Region.wanted o (yielded ops a.tmps) = true) (ty : TypeId) (x : Operand) (ho : o.op = .load ty x)
    (g : Nat) (hx : a.eval x = .pointer (some ⟨g, 0, none⟩)) (t : TypeId) (cs : Array Value) (fr : Nat × Nat) (d : TypeDesc) (hg : w.heap[g]? = some (.cells cs t fr))
    (hu : P.underlying ty = some d) (hd : (match d with | .struct _ | .array _ _ => true | _ => false) = true) (hi : (P.info? ty).map (·.size) = some cs.size)
    (h : wpList P ops Q rest (a.put o.dst (.agg cs)) w) : wpList P ops Q (o :: rest) a w :=
  wpList_step fun K hK => by rw [if_pos hw]; exact wp_load_row ty x ho g hx t cs fr d hg hu hd hi (hK _ _ h)
/-- A slice literal of one struct. -/
theorem bs_one {P : Program} {t e : TypeId} {size bytes : Nat} (T : ElT P t e size bytes) (hsz : size ≤ 1000) {ops : Array Oper} {rest : List Oper} {o : Oper} {a : Act} {w : World} {Q : Exit → Act → World → Prop} (hg : o.guard = none) (x : Operand) (ho : o.op = .buildSlice t 1 #[(0, x)])
    (cells : Array Value) (hx : a.eval x = .agg cells) (hc : cells.size = size)
    (h : wpList P ops Q rest (a.put o.dst (.slice (some ⟨w.heap.size, 0, none⟩) 1 1)) (w.alloc (.cells cells e))) : wpList P ops Q (o :: rest) a w := by
  obtain ⟨⟨i, z, ht, hi, hz, hs, hb, hzs⟩, hs0, hb0⟩ := T
  refine wpList_buildSlice hg t e 1 #[(0, x)] ho cells i z ht hi hz (by rw [hs]; omega) (by rw [hs]; omega) ?_ h
  have := Great.fill_whole (s := i.size) (by omega) [.agg cells] ((Array.range (1 * i.size)).map (z.cells[· % z.cells.size]!)) (by simp [Value.cells, hs, hc]) (by simp)
  simpa [Value.cells, hx] using this
theorem Vw.range {α : Type} {enc : α → List Value} {k : Nat} {w : World} {a : Option Addr} {l : List α} (h : Vw w a (cellsOf enc l)) (hk : ∀ x ∈ l, (enc x).length = k) (hk0 : 0 < k) (i : Nat) (hi : i < l.length) :
    ∃ b off : Nat, a = some ⟨b, off, none⟩ ∧ b < w.heap.size ∧ w.rangeAt b (off + i * k) (enc l[i]) := by
  have key : ∀ (l : List α), (∀ x ∈ l, (enc x).length = k) → ∀ i (hi : i < l.length) j, j < k → (cellsOf enc l)[i * k + j]? = (enc l[i])[j]? := by
    intro l
    induction l with
    | nil => intro _ i hi; simp at hi
    | cons x l ih =>
      intro hk i hi j hj
      have hx := hk x List.mem_cons_self
      cases i with
      | zero =>
        simp only [cellsOf, List.flatMap_cons, Nat.zero_mul, Nat.zero_add, List.getElem_cons_zero]
        exact List.getElem?_append_left (by omega)
      | succ i =>
        have := ih (fun y hy => hk y (List.mem_cons_of_mem _ hy)) i (by simpa using hi) j hj
        simp only [cellsOf, List.flatMap_cons, List.getElem_cons_succ] at this ⊢
        rw [List.getElem?_append_right (by rw [hx, Nat.add_mul]; omega), ← this, hx]
        congr 1
        rw [Nat.add_mul]; omega
  have e0 := key l hk i hi 0 hk0
  have hxl := hk l[i] (List.getElem_mem hi)
  rw [List.getElem?_eq_getElem (show 0 < (enc l[i]).length by omega)] at e0
  obtain ⟨b, off, rfl, hc⟩ := h (i * k + 0) _ e0
  refine ⟨b, off, rfl, World.block_lt_of_cell? w _ hc, fun j v hj => ?_⟩
  have hjk : j < k := by rw [← hxl]; exact (List.getElem?_eq_some_iff.1 hj).1
  obtain ⟨b', off', e, hc'⟩ := h (i * k + j) v ((key l hk i hi j hjk).trans hj)
  cases e
  rwa [← Nat.add_assoc] at hc'
theorem rangeAt_below {w wx : World} {b o : Nat} {cs : List Value} (h : w.rangeAt b o cs) (hb : Below w.heap.size w wx) : wx.rangeAt b o cs := fun j v hj => bc1 hb (h j v hj)
theorem bld_below {T e : TypeId} {B b : Nat} {bs : List Value} {w w' : World} (h : Lib.IsBuilder T e B b bs w) (hb : Below w.heap.size w w') : Lib.IsBuilder T e B b bs w' := by
  rcases h with h | h
  · obtain ⟨hB, v, h1, h2, h3⟩ := h
    exact .inl ⟨hB, v, (hb.block b (lt_of_block h1)).trans h1, own_keep h2 hb, h3⟩
  · obtain ⟨hB, v, h1, h2, h3⟩ := h
    exact .inr ⟨hB, v, (hb.block b (lt_of_block h1)).trans h1, own_keep h2 hb, h3⟩
theorem bld_new {T e : TypeId} {B : Nat} (w : World) (hB : B ≤ w.heap.size) : Lib.IsBuilder T e B w.heap.size [] (w.alloc (.cells #[.pointer none, .slice none 0 0] T)) :=
  .inl ⟨hB, _, heap_alloc_new w _, World.ownsRow_nil _ _ _ _, by simp [Value.ownBlock]⟩
theorem bld_lt {T e : TypeId} {B b : Nat} {bs : List Value} {w : World} (h : Lib.IsBuilder T e B b bs w) : b < w.heap.size := by
  rcases h with h | h <;> exact h.lt
end Go.Proofs.YtglhenobodndjaaGreatDoor
