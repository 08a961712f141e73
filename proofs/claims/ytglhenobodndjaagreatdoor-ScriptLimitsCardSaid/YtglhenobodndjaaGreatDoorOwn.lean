/- Rows of the call's own: sorted, cut, read. -/
import Derived.Test.YtglhenobodndjaaGreatDoorRvalid
import Derived.Sort.Row
import Derived.Sort.Grow
import Derived.Shelf.GgSortFunc.RowK
import Derived.Lib.SlicesCompact
namespace Go.Proofs.YtglhenobodndjaaGreatDoor
open Go.RowKit Go.Sort
set_option linter.unusedVariables false

/-- The row's cells laid anew (a sort), some draws, some new blocks. -/
theorem own_put {α : Type} [Inhabited α] (enc : α → Value) {w : World} {base g n cap size : Nat} {e : TypeId} {xs : List Value} (h : w.ownsRow base e size (.slice (some ⟨g, 0, none⟩) n cap) n xs)
    (d : Array α) (hd : d.size = n * size) (q : Nat) (os : Array Obj) :
    (grow (putRow enc (Sort.ahead w q) g 0 d) os).ownsRow base e size (.slice (some ⟨g, 0, none⟩) n cap) n (d.toList.map enc) ∧ w.grownBy (grow (putRow enc (Sort.ahead w q) g 0 d) os) (some g) := by
  have hs : (putRow enc (Sort.ahead w q) g 0 d).heap.size = w.heap.size := size_putRow enc (Sort.ahead w q) g 0 d
  have hgr : w.grownBy (grow (putRow enc (Sort.ahead w q) g 0 d) os) (some g) := by
    refine ⟨rfl, rfl, rfl, by simp [grow], fun k hk hne => ?_⟩
    have hk' : k < (putRow enc (Sort.ahead w q) g 0 d).heap.size := by rw [hs]; exact hk
    show ((putRow enc (Sort.ahead w q) g 0 d).heap ++ os)[k]? = _
    rw [Array.getElem?_append_left hk']
    show (w.heap.modify g _)[k]? = _
    have : g ≠ k := fun c => hne (by rw [c])
    rw [Array.getElem?_modify, if_neg this]
  refine ⟨⟨by simp [hd], .inr ?_⟩, hgr⟩
  rcases h.2 with ⟨h0, _⟩ | ⟨g', cap', cur, hv, hb, hg, hn, hm, hc, ht⟩
  · cases h0
  · cases hv
    refine ⟨g, cap, putCells enc 0 d cur, rfl, hb, ?_, hn, hm, by simp [putCells, hc], ?_⟩
    · have hl := lt_of_block hg
      show ((putRow enc (Sort.ahead w q) g 0 d).heap ++ os)[g]? = _
      rw [Array.getElem?_append_left (by rw [hs]; exact hl)]
      show (w.heap.modify g _)[g]? = _
      rw [Array.getElem?_modify, if_pos rfl, hg]; rfl
    · have hle : n * size ≤ cap * size := Nat.mul_le_mul_right _ hn
      apply List.ext_getElem?
      intro i
      rw [List.getElem?_take, List.getElem?_map]
      by_cases hi : i < n * size
      · rw [if_pos hi]
        have h1 : (putCells enc 0 d cur).toList[i]? = some (enc d[i]!) := by
          rw [Array.getElem?_toList]
          simp only [putCells, Array.getElem?_mapIdx]
          rw [Array.getElem?_eq_getElem (by omega)]
          simp [hd, hi]
        rw [h1, Array.getElem?_toList, Array.getElem?_eq_getElem (by omega)]
        simp [hd, hi]
      · rw [if_neg hi, Array.getElem?_toList, Array.getElem?_eq_none (by omega)]; rfl
theorem own_holds {α : Type} [Inhabited α] (enc : α → Value) {w : World} {base g n cap size : Nat} {e : TypeId} {d : Array α} (h : w.ownsRow base e size (.slice (some ⟨g, 0, none⟩) n cap) n (d.toList.map enc)) : Holds enc w g 0 d := fun j hj => by
  have hl : d.size = n * size := by simpa using h.1
  refine ⟨?_, h.frozenAt _⟩
  rw [Nat.zero_add, h.cellAt j (by omega)]
  simp [hj]
/-- The first m of a row's elements. -/
theorem own_cut {w : World} {base g n m cap size : Nat} {e : TypeId} {xs : List Value} (h : w.ownsRow base e size (.slice (some ⟨g, 0, none⟩) n cap) n xs) (hm : m ≤ n) :
    w.ownsRow base e size (.slice (some ⟨g, 0, none⟩) m cap) m (xs.take (m * size)) := by
  rcases h.2 with ⟨h0, _⟩ | ⟨g', cap', cur, hv, hb, hg, hn, hmm, hc, ht⟩
  · cases h0
  · cases hv
    have hle : m * size ≤ n * size := Nat.mul_le_mul_right _ hm
    refine ⟨by rw [List.length_take, h.1]; omega, .inr ⟨g, cap, cur, rfl, hb, hg, by omega, hmm, hc, ?_⟩⟩
    rw [← ht, List.take_take, Nat.min_eq_left hle]
/-- An empty row. -/
theorem own_zero {w : World} {base g n cap size : Nat} {e : TypeId} {xs : List Value} (h : w.ownsRow base e size (.slice (some ⟨g, 0, none⟩) n cap) n xs) :
    w.ownsRow base e size (.slice (some ⟨g, 0, none⟩) 0 cap) 0 [] := by simpa using own_cut h (Nat.zero_le n)
theorem own_lt {w : World} {base g n cap size : Nat} {e : TypeId} {xs : List Value} (h : w.ownsRow base e size (.slice (some ⟨g, 0, none⟩) n cap) n xs) : base ≤ g ∧ g < w.heap.size := h.lt g rfl
/-- A row of the call's own is a slice. -/
theorem own_form {w : World} {base n size : Nat} {v : Value} {e : TypeId} {xs : List Value} (h : w.ownsRow base e size v n xs) : ∃ a cap, v = .slice a n cap ∧ n ≤ cap ∧ cap ≤ maxLen ∧ ((a = none ∧ n = 0 ∧ cap = 0) ∨ ∃ g, a = some ⟨g, 0, none⟩ ∧ base ≤ g ∧ g < w.heap.size) := by
  rcases h.2 with ⟨rfl, rfl⟩ | ⟨g, cap, cur, rfl, hb, hg, hn, hm, _⟩
  · exact ⟨none, 0, rfl, Nat.le_refl _, by unfold maxLen; omega, .inl ⟨rfl, rfl, rfl⟩⟩
  · exact ⟨_, cap, rfl, hn, hm, .inr ⟨g, rfl, hb, lt_of_block hg⟩⟩
/-- Elements as cells. -/
def cellsOf {α : Type} (enc : α → List Value) (l : List α) : List Value := l.flatMap enc
section
variable {α : Type} {enc : α → List Value} {k : Nat}
theorem cellsOf_length (hk : ∀ x, (enc x).length = k) (l : List α) : (cellsOf enc l).length = l.length * k := by
  induction l with
  | nil => simp [cellsOf]
  | cons x l ih => simp only [cellsOf, List.flatMap_cons, List.length_append, List.length_cons] at ih ⊢; rw [ih, hk, Nat.add_mul, Nat.one_mul, Nat.add_comm]
theorem cellsOf_at (hk : ∀ x, (enc x).length = k) (l : List α) (i j : Nat) (hi : i < l.length) (hj : j < k) : (cellsOf enc l)[i * k + j]? = (enc l[i])[j]? := by
  induction l generalizing i with
  | nil => simp at hi
  | cons x l ih =>
    have e : cellsOf enc (x :: l) = enc x ++ cellsOf enc l := by simp [cellsOf]
    cases i with
    | zero => rw [e, Nat.zero_mul, Nat.zero_add, List.getElem?_append_left (by rw [hk]; exact hj)]; rfl
    | succ i =>
      rw [e, List.getElem?_append_right (by rw [hk, Nat.add_mul]; omega), hk, show (i + 1) * k + j - k = i * k + j by rw [Nat.add_mul]; omega]
      simpa using ih i (by simpa using hi)
theorem cellsOf_snoc (l : List α) (x : α) : cellsOf enc (l ++ [x]) = cellsOf enc l ++ enc x := by simp [cellsOf]
theorem cellsOf_append (l m : List α) : cellsOf enc (l ++ m) = cellsOf enc l ++ cellsOf enc m := by simp [cellsOf]
theorem cellsOf_take (hk : ∀ x, (enc x).length = k) (l : List α) (m : Nat) : (cellsOf enc l).take (m * k) = cellsOf enc (l.take m) := by
  induction l generalizing m with
  | nil => simp [cellsOf]
  | cons x l ih =>
    have e : cellsOf enc (x :: l) = enc x ++ cellsOf enc l := by simp [cellsOf]
    cases m with
    | zero => simp [cellsOf]
    | succ m =>
      have e2 : cellsOf enc (x :: l.take m) = enc x ++ cellsOf enc (l.take m) := by simp [cellsOf]
      rw [e, List.take_succ_cons, e2, List.take_append, hk, List.take_of_length_le (by rw [hk, Nat.add_mul]; omega), show (m + 1) * k - k = m * k by rw [Nat.add_mul]; omega, ih]
end
/-- Ints as cells. -/
abbrev intCells (l : List Int) : List Value := l.map (Value.int .i64)
theorem one_cells (l : List Int) : cellsOf (fun x => [Value.int .i64 x]) l = intCells l := by
  induction l with
  | nil => rfl
  | cons x l ih => simp [cellsOf, intCells] at ih ⊢; exact ih
end Go.Proofs.YtglhenobodndjaaGreatDoor
