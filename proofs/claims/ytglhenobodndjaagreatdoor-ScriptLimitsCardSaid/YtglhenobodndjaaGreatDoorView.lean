/- Slices read: a view of cells; new rows of rectangles, spans, integers. -/
import Derived.Test.YtglhenobodndjaaGreatDoorOwn
namespace Go.Proofs.YtglhenobodndjaaGreatDoor
open Go.RowKit Go.Sort
set_option linter.unusedVariables false

/-- These cells stand behind the slice's address. -/
def Vw (w : World) (a : Option Addr) (xs : List Value) : Prop := ∀ i v, xs[i]? = some v → ∃ b off : Nat, a = some ⟨b, off, none⟩ ∧ w.cell? ⟨b, off + i, none⟩ = some v
section
variable {w wx : World} {a : Option Addr} {xs : List Value}
theorem Vw.below (h : Vw w a xs) (hb : Below w.heap.size w wx) : Vw wx a xs := fun i v hi => by
  obtain ⟨b, off, e, hc⟩ := h i v hi
  exact ⟨b, off, e, bc1 hb hc⟩
theorem Vw.alloc (h : Vw w a xs) (o : Obj) : Vw (w.alloc o) a xs := h.below (bal (Below.refl _ _) o)
theorem Vw.drew (h : Vw w a xs) : Vw w.drew a xs := h
theorem Vw.nil (w : World) (a : Option Addr) : Vw w a [] := fun i v hi => by simp at hi
/-- The address and all cells, where there is one. -/
theorem Vw.all (h : Vw w a xs) (h0 : 0 < xs.length) : ∃ b off : Nat, a = some ⟨b, off, none⟩ ∧ b < w.heap.size ∧ ∀ i v, xs[i]? = some v → w.cell? ⟨b, off + i, none⟩ = some v := by
  obtain ⟨b, off, rfl, hc⟩ := h 0 _ (List.getElem?_eq_getElem h0)
  refine ⟨b, off, rfl, World.block_lt_of_cell? w _ hc, fun i v hi => ?_⟩
  obtain ⟨b', off', e, hc'⟩ := h i v hi
  cases e
  exact hc'
theorem Vw.take (h : Vw w a xs) (n : Nat) : Vw w a (xs.take n) := fun i v hi => by
  rw [List.getElem?_take] at hi
  split at hi
  · exact h i v hi
  · cases hi
end
theorem vw_of_own {w : World} {base n cap size : Nat} {e : TypeId} {a : Option Addr} {xs : List Value} (h : w.ownsRow base e size (.slice a n cap) n xs) : Vw w a xs := fun i v hi => by
  rcases h.2 with ⟨h0, hn⟩ | ⟨g, cap', cur, hv, hb, hg, _⟩
  · have := h.1; rw [hn, Nat.zero_mul] at this
    rw [List.eq_nil_of_length_eq_zero this] at hi; simp at hi
  · cases hv
    have hl : i < n * size := by rw [← h.1]; exact (List.getElem?_eq_some_iff.1 hi).1
    refine ⟨g, 0, rfl, ?_⟩
    rw [Nat.zero_add, h.cellAt i hl, hi]
/-- The cells of one element. -/
theorem Vw.elem {α : Type} {enc : α → List Value} {k : Nat} {w : World} {a : Option Addr} {l : List α} (h : Vw w a (cellsOf enc l)) (hk : ∀ x, (enc x).length = k) (hk0 : 0 < k) (i : Nat) (hi : i < l.length) :
    ∃ b off : Nat, a = some ⟨b, off, none⟩ ∧ b < w.heap.size ∧ ∀ j v, (enc l[i])[j]? = some v → w.cell? ⟨b, off + i * k + j, none⟩ = some v := by
  have hl := cellsOf_length hk l
  have h1 : i * k + k ≤ l.length * k := by have := Nat.mul_le_mul_right k (show i + 1 ≤ l.length from hi); rwa [Nat.add_mul, Nat.one_mul] at this
  obtain ⟨b, off, rfl, hb, hc⟩ := h.all (by omega)
  refine ⟨b, off, rfl, hb, fun j v hj => ?_⟩
  have hjk : j < k := by rw [← hk l[i]]; exact (List.getElem?_eq_some_iff.1 hj).1
  have := hc (i * k + j) v ((cellsOf_at hk l i j hi hjk).trans hj)
  rwa [← Nat.add_assoc] at this
def encSp (s : Sp) : List Value := [.int .i64 s.1, .int .i64 s.2]
theorem encRc_len (q : Rc) : (encRc q).length = 4 := rfl
theorem encSp_len (s : Sp) : (encSp s).length = 2 := rfl
abbrev rcCells (l : List Rc) : List Value := cellsOf encRc l
abbrev spCells (l : List Sp) : List Value := cellsOf encSp l
theorem Vw.rc {w : World} {a : Option Addr} {l : List Rc} (h : Vw w a (rcCells l)) (i : Nat) (hi : i < l.length) : ∃ b off : Nat, a = some ⟨b, off, none⟩ ∧ b < w.heap.size ∧ w.cell? ⟨b, off + i * 4, none⟩ = some (.int .i64 l[i].1) ∧ w.cell? ⟨b, off + i * 4 + 1, none⟩ = some (.int .i64 l[i].2.1) ∧
    w.cell? ⟨b, off + i * 4 + 2, none⟩ = some (.int .i64 l[i].2.2.1) ∧ w.cell? ⟨b, off + i * 4 + 3, none⟩ = some (.int .i64 l[i].2.2.2) := by
  obtain ⟨b, off, e, hb, hc⟩ := h.elem encRc_len (by omega) i hi
  exact ⟨b, off, e, hb, hc 0 _ rfl, hc 1 _ rfl, hc 2 _ rfl, hc 3 _ rfl⟩
theorem Vw.sp {w : World} {a : Option Addr} {l : List Sp} (h : Vw w a (spCells l)) (i : Nat) (hi : i < l.length) : ∃ b off : Nat, a = some ⟨b, off, none⟩ ∧ b < w.heap.size ∧ w.cell? ⟨b, off + i * 2, none⟩ = some (.int .i64 l[i].1) ∧ w.cell? ⟨b, off + i * 2 + 1, none⟩ = some (.int .i64 l[i].2) := by
  obtain ⟨b, off, e, hb, hc⟩ := h.elem encSp_len (by omega) i hi
  exact ⟨b, off, e, hb, hc 0 _ rfl, hc 1 _ rfl⟩
theorem Vw.int {w : World} {a : Option Addr} {l : List Int} (h : Vw w a (intCells l)) (i : Nat) (hi : i < l.length) : ∃ b off : Nat, a = some ⟨b, off, none⟩ ∧ b < w.heap.size ∧ w.cell? ⟨b, off + i, none⟩ = some (.int .i64 l[i]) := by
  obtain ⟨b, off, e, hb, hc⟩ := h.all (by simp; omega)
  exact ⟨b, off, e, hb, hc i _ (by simp [hi])⟩
theorem rcs_of_vw {w : World} {a : Option Addr} {l : List Rc} (h : Vw w a (rcCells l)) : Rcs w a l := fun i hi => by
  obtain ⟨b, off, e, _, h0, h1, h2, h3⟩ := h.rc i hi
  exact ⟨b, off, e, fun j hj => by
    match j, hj with
    | 0, _ => exact h0
    | 1, _ => exact h1
    | 2, _ => exact h2
    | 3, _ => exact h3⟩
/-- A new row of rectangles, of spans, of integers; nothing older turned. -/
def NewRc (w : World) (l : List Rc) (e : Ending) (w' : World) : Prop := ∃ v, e = .returned v ∧ w'.ownsRow w.heap.size 73 4 v l.length (rcCells l) ∧ Below w.heap.size w w'
def NewSp (w : World) (l : List Sp) (e : Ending) (w' : World) : Prop := ∃ v, e = .returned v ∧ w'.ownsRow w.heap.size 195 2 v l.length (spCells l) ∧ Below w.heap.size w w'
def NewInt (w : World) (l : List Int) (e : Ending) (w' : World) : Prop := ∃ v, e = .returned v ∧ w'.ownsRow w.heap.size 3 1 v l.length (intCells l) ∧ Below w.heap.size w w'
/-- A row of the call's own, grown so far. -/
structure RowG (w : World) (t : TypeId) (k : Nat) (n : Nat) (xs : List Value) (v : Value) (wr : World) : Prop where
  own : wr.ownsRow w.heap.size t k v n xs
  below : Below w.heap.size w wr
theorem RowG.nil (w : World) (t : TypeId) (k : Nat) {wr : World} (h : Below w.heap.size w wr) : RowG w t k 0 [] (.slice none 0 0) wr := ⟨World.ownsRow_nil _ _ _ _, h⟩
/-- An append onto a row of the call's own leaves what is older than the call. -/
theorem below_app {w wr w2 : World} {t : TypeId} {k n : Nat} {xs : List Value} {v : Value} (h : wr.ownsRow w.heap.size t k v n xs) (hb : Below w.heap.size w wr) (hg : wr.grownBy w2 v.ownBlock) : Below w.heap.size w w2 :=
  hb.grown hg hb.size fun i hi => (h.lt i hi).1
theorem infoRc : (Tryz.prog.info? 73).map (fun i => (i.zero, i.size, i.bytes)) = some (some (.agg #[.int .i64 0, .int .i64 0, .int .i64 0, .int .i64 0]), 4, 32) := by kernel_rfl
theorem infoSp : (Tryz.prog.info? 195).map (fun i => (i.zero, i.size, i.bytes)) = some (some (.agg #[.int .i64 0, .int .i64 0]), 2, 16) := by kernel_rfl
theorem infoInt : (Tryz.prog.info? 3).map (fun i => (i.zero, i.size, i.bytes)) = some (some (.int .i64 0), 1, 8) := by kernel_rfl
end Go.Proofs.YtglhenobodndjaaGreatDoor
