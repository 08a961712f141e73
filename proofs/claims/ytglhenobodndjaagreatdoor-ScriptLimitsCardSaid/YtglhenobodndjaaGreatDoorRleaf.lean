/- Regions of the program: which rectangle is proper. -/
import Derived.Test.YtglhenobodndjaaGreatDoorCanonc
import Derived.Test.YtglhenobodndjaaGreatDoorNewt
namespace Go.Proofs.YtglhenobodndjaaGreatDoor
open Go.RowKit
set_option linter.unusedVariables false

/-- A slice of structs of k integers, read. -/
def SlF {α : Type} (k : Nat) (f : α → Nat → Int) (w : World) (a : Option Addr) (l : List α) : Prop :=
  ∀ i (h : i < l.length), ∃ b off : Nat, a = some ⟨b, off, none⟩ ∧ ∀ j, j < k → w.cell? ⟨b, off + i * k + j, none⟩ = some (.int .i64 (f l[i] j))
theorem SlF.below {α : Type} {k : Nat} {f : α → Nat → Int} {w wx : World} {a : Option Addr} {l : List α} (h : SlF k f w a l) (hb : Below w.heap.size w wx) : SlF k f wx a l := fun i hi => by
  obtain ⟨b, off, e, hc⟩ := h i hi
  exact ⟨b, off, e, fun j hj => bc1 hb (hc j hj)⟩
theorem SlF.alloc {α : Type} {k : Nat} {f : α → Nat → Int} {w : World} {a : Option Addr} {l : List α} (h : SlF k f w a l) (o : Obj) : SlF k f (w.alloc o) a l := h.below (bal (Below.refl _ _) o)
theorem SlF.drew {α : Type} {k : Nat} {f : α → Nat → Int} {w : World} {a : Option Addr} {l : List α} (h : SlF k f w a l) : SlF k f w.drew a l := h
def rcF (q : Rc) : Nat → Int
  | 0 => q.1
  | 1 => q.2.1
  | 2 => q.2.2.1
  | _ => q.2.2.2
def spF (s : Sp) : Nat → Int
  | 0 => s.1
  | _ => s.2
abbrev Rcs := SlF 4 rcF
abbrev Sps := SlF 2 spF
theorem Rcs.at {w : World} {a : Option Addr} {l : List Rc} (h : Rcs w a l) (i : Nat) (hi : i < l.length) : ∃ b off : Nat, a = some ⟨b, off, none⟩ ∧ w.cell? ⟨b, off + i * 4, none⟩ = some (.int .i64 l[i].1) ∧ w.cell? ⟨b, off + i * 4 + 1, none⟩ = some (.int .i64 l[i].2.1) ∧
    w.cell? ⟨b, off + i * 4 + 2, none⟩ = some (.int .i64 l[i].2.2.1) ∧ w.cell? ⟨b, off + i * 4 + 3, none⟩ = some (.int .i64 l[i].2.2.2) := by
  obtain ⟨b, off, e, hc⟩ := h i hi
  exact ⟨b, off, e, hc 0 (by omega), hc 1 (by omega), hc 2 (by omega), hc 3 (by omega)⟩
/-- A rectangle is proper. -/
def Prp (q : Rc) : Prop := 0 ≤ q.1 ∧ q.1 < q.2.2.1 ∧ q.2.2.1 ≤ 16384 ∧ 0 ≤ q.2.1 ∧ q.2.1 < q.2.2.2 ∧ q.2.2.2 ≤ 16384
instance (q : Rc) : Decidable (Prp q) := by unfold Prp; infer_instance
set_option maxHeartbeats 1000000 in
theorem pproper_any (q : Rc) (w : World) : Calls Tryz.prog 112 #[.agg #[.int .i64 q.1, .int .i64 q.2.1, .int .i64 q.2.2.1, .int .i64 q.2.2.2]] w fun e w' => e = .returned (.bool (decide (Prp q))) ∧ Below w.heap.size w w' := by
  obtain ⟨l, b, r, t⟩ := q
  dsimp only
  go_enter Tryz.func112, Tryz.ntmps112
  go_wp2
  all_goals go_ret
  all_goals (refine ⟨ret_bool ?_, bal (Below.refl _ _) _⟩)
  all_goals (rw [Bool.eq_iff_iff, decide_eq_true_eq (p := Prp _)]; simp [Prp] <;> omega)
set_option maxHeartbeats 1000000 in
theorem rproper_any (q : Rc) (w : World) : Calls Tryz.prog 77 #[.agg #[.int .i64 q.1, .int .i64 q.2.1, .int .i64 q.2.2.1, .int .i64 q.2.2.2]] w fun e w' => e = .returned (.bool (decide (Prp q))) ∧ Below w.heap.size w w' := by
  obtain ⟨l, b, r, t⟩ := q
  dsimp only
  go_enter Tryz.func77, Tryz.ntmps77
  go_wp2
  all_goals go_ret
  all_goals (refine ⟨ret_bool ?_, bal (Below.refl _ _) _⟩)
  all_goals (rw [Bool.eq_iff_iff, decide_eq_true_eq (p := Prp _)]; simp [Prp] <;> omega)
end Go.Proofs.YtglhenobodndjaaGreatDoor
