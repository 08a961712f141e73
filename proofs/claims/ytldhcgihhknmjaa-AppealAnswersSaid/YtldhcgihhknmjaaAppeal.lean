/- Walks of the functions of the appeal layer: each computes the plain function that stands beside it, and turns nothing that was there. -/
import Derived.Test.YtldhcgihhknmjaaRows
import Derived.WalkKit
import Derived.WalkSpells
import Derived.WalkLawsBesides
import Derived.Lib.Hide
namespace Go.Proofs.Ytldhcgihhknmjaa
open Go.RowKit

theorem bcell {W w1 : World} (hb : Below W.heap.size W w1) : (∀ b o, b < W.heap.size → w1.cell? ⟨b, o, none⟩ = W.cell? ⟨b, o, none⟩) ∧ (∀ b o, b < W.heap.size → w1.frozen? ⟨b, o, none⟩ = W.frozen? ⟨b, o, none⟩) :=
  ⟨fun b o h => hb.cell (p := ⟨b, o, none⟩) h, fun b o h => hb.frozen (p := ⟨b, o, none⟩) h⟩
section
variable {a w w1 : World}
theorem bal (h : Below a.heap.size a w) (o : Obj) : Below a.heap.size a (w.alloc o) := h.alloc h.size o
theorem bdr (h : Below a.heap.size a w) : Below a.heap.size a w.drew := h.drew
theorem bst (h : Below a.heap.size a w) (b o : Nat) (u : Value) (hp : a.heap.size ≤ b) : Below a.heap.size a (w.setCell ⟨b, o, none⟩ u) := h.setCell hp u
theorem btr (h : Below a.heap.size a w) (k : Below w.heap.size w w1) : Below a.heap.size a w1 := h.trans (k.mono h.size)
end
theorem bc1 {W w1 : World} {b o : Nat} {v : Value} (hb : Below W.heap.size W w1) (h : W.cell? ⟨b, o, none⟩ = some v) : w1.cell? ⟨b, o, none⟩ = some v :=
  (hb.cell (p := ⟨b, o, none⟩) (World.block_lt_of_cell? W _ h)).trans h
theorem bf1 {W w1 : World} {b o : Nat} {v : Value} (hb : Below W.heap.size W w1) (h : W.cell? ⟨b, o, none⟩ = some v) (hf : W.frozen? ⟨b, o, none⟩ = false) : w1.frozen? ⟨b, o, none⟩ = false :=
  (hb.frozen (p := ⟨b, o, none⟩) (World.block_lt_of_cell? W _ h)).trans hf
theorem ret_bool {a b : Bool} (h : a = b) : Ending.returned (.bool a) = .returned (.bool b) := by rw [h]
theorem ret_int {k : IntKind} {a b : Int} (h : a = b) : Ending.returned (.int k a) = .returned (.int k b) := by rw [h]

def TermsOK (L A : Int) : Prop := 1 ≤ L ∧ L ≤ 400 ∧ 1 ≤ A ∧ A ≤ 400
def Days (K T : Int) : Prop := 0 ≤ K ∧ K ≤ 36864 ∧ K ≤ T ∧ T ≤ 36864
def sinceB (L A K S T : Int) : Bool := if S = 1 then decide (T = K) else if S = 2 then decide (T ≤ K + L) else if S = 5 then decide (T = K + L + 1) else if S = 3 ∨ S = 4 then decide (T ≤ K + L + A) else false
def Good (L A K S T : Int) : Prop := TermsOK L A ∧ Days K T ∧ sinceB L A K S T = true
instance (L A : Int) : Decidable (TermsOK L A) := by unfold TermsOK; infer_instance
instance (K T : Int) : Decidable (Days K T) := by unfold Days; infer_instance
instance (L A K S T : Int) : Decidable (Good L A K S T) := by unfold Good; infer_instance
def chkE (L A K S T : Int) : Int := if TermsOK L A then (if Good L A K S T then 0 else 22) else 66
theorem chk_ok {L A K S T : Int} (h : Good L A K S T) : chkE L A K S T = 0 := by unfold chkE; rw [if_pos h.1, if_pos h]
theorem chk_66 {L A K S T : Int} (h : ¬ TermsOK L A) : chkE L A K S T = 66 := by unfold chkE; rw [if_neg h]
theorem chk_22 {L A K S T : Int} (hL : TermsOK L A) (h : ¬ Good L A K S T) : chkE L A K S T = 22 := by unfold chkE; rw [if_pos hL, if_neg h]
theorem chk_ne {L A K S T : Int} (h : ¬ Good L A K S T) : chkE L A K S T ≠ 0 := by unfold chkE; rw [if_neg h]; split <;> omega
theorem good_lim {L A K S T : Int} (h : Good L A K S T) : 1 ≤ L ∧ L ≤ 400 ∧ 1 ≤ A ∧ A ≤ 400 ∧ 0 ≤ K ∧ K ≤ 36864 ∧ K ≤ T ∧ T ≤ 36864 := by
  obtain ⟨⟨l1, l2, l3, l4⟩, ⟨d1, d2, d3, d4⟩, _⟩ := h
  exact ⟨l1, l2, l3, l4, d1, d2, d3, d4⟩
def dueI (L A K S T : Int) : Int := if S = 1 then K + L else if S = 2 then T + A else -1
/-- What the functions that make a new appeal answer: it, and the error. -/
structure Ans where
  k : Int
  s : Int
  t : Int
  e : Int
def Ans.val (r : Ans) : Value := .tuple #[.agg #[.int .i64 r.k, .int .i64 r.s, .int .i64 r.t], .int .i64 r.e]
def moveR (L A K S T f g d : Int) : Ans :=
  if Good L A K S T then (if S ≠ f then ⟨K, S, T, 61⟩ else if d < T ∨ 36864 < d then ⟨K, S, T, 9⟩ else if dueI L A K S T < d then ⟨K, S, T, 21⟩ else ⟨K, g, d, 0⟩) else ⟨K, S, T, chkE L A K S T⟩
def tickR (L A K S T d : Int) : Ans :=
  if Good L A K S T then (if d < T ∨ 36864 < d then ⟨K, S, T, 9⟩ else if S = 1 ∧ K + L < d then ⟨K, 5, K + L + 1, 0⟩ else if S = 2 ∧ T + A < d then ⟨K, 4, T + A, 0⟩ else ⟨K, S, T, 0⟩) else ⟨K, S, T, chkE L A K S T⟩
def knownR (L A d : Int) : Ans :=
  if TermsOK L A then (if d < 0 ∨ 36864 - L - A - 1 < d then ⟨0, 0, 0, 9⟩ else ⟨d, 1, d, 0⟩) else ⟨0, 0, 0, 66⟩
def settledB (S : Int) : Bool := decide (S = 3 ∨ S = 4 ∨ S = 5)

set_option maxHeartbeats 400000 in
theorem law_ok (L A : Int) (w : World) (h1 : 1 ≤ L) (h2 : L ≤ 400) (h3 : 1 ≤ A) (h4 : A ≤ 400) :
    Calls Try.prog 30 #[.agg #[.int .i64 L, .int .i64 A]] w fun e w' => e = .returned (.int .i64 0) ∧ Below w.heap.size w w' := by
  have t1 : decide (L < 1) = false := by simp; omega
  have t2 : decide (400 < L) = false := by simp; omega
  have t3 : decide (A < 1) = false := by simp; omega
  have t4 : decide (400 < A) = false := by simp; omega
  go_enter Try.func30, Try.ntmps30
  go_wp2
  go_ret
  exact ⟨rfl, by (repeat (with_reducible first | (refine bst ?_ _ _ _ (by omega)) | refine bal ?_ _ | refine bdr ?_ | exact Below.refl _ _))⟩

set_option maxHeartbeats 400000 in
theorem law_bad (L A : Int) (w : World) (h : ¬ TermsOK L A) :
    Calls Try.prog 30 #[.agg #[.int .i64 L, .int .i64 A]] w fun e w' => e = .returned (.int .i64 66) ∧ Below w.heap.size w w' := by
  unfold TermsOK at h
  have H := Lib.hid h
  clear h
  go_enter Try.func30, Try.ntmps30
  go_wp2
  all_goals first
    | (exfalso; have := H.out; omega)
    | (go_ret; exact ⟨rfl, by (repeat (with_reducible first | (refine bst ?_ _ _ _ (by omega)) | refine bal ?_ _ | refine bdr ?_ | exact Below.refl _ _))⟩)

set_option maxHeartbeats 400000 in
theorem since_any (L A K S T : Int) (w : World) (hL : TermsOK L A) (hD : Days K T) :
    Calls Try.prog 31 #[.agg #[.int .i64 L, .int .i64 A], .agg #[.int .i64 K, .int .i64 S, .int .i64 T]] w fun e w' => e = .returned (.bool (sinceB L A K S T)) ∧ Below w.heap.size w w' := by
  obtain ⟨l1, l2, l3, l4⟩ := hL
  obtain ⟨d1, d2, d3, d4⟩ := hD
  go_enter Try.func31, Try.ntmps31
  go_wp2
  all_goals go_ret
  all_goals (refine ⟨ret_bool ?_, by (repeat (with_reducible first | (refine bst ?_ _ _ _ (by omega)) | refine bal ?_ _ | refine bdr ?_ | exact Below.refl _ _))⟩)
  all_goals (rw [Bool.eq_iff_iff])
  all_goals (simp_all [sinceB] <;> omega)

set_option maxHeartbeats 400000 in
theorem check_law (L A K S T : Int) (w : World) (h : ¬ TermsOK L A) :
    Calls Try.prog 14 #[.agg #[.int .i64 L, .int .i64 A], .agg #[.int .i64 K, .int .i64 S, .int .i64 T]] w fun e w' => e = .returned (.int .i64 66) ∧ Below w.heap.size w w' := by
  go_enter Try.func14, Try.ntmps14
  go_wp2_with (go_at_call 30; refine (law_bad _ _ _ h).mono ?_; rintro e w1 ⟨rfl, hb1⟩; obtain ⟨hc1, hf1⟩ := bcell hb1)
  go_ret
  exact ⟨rfl, by (repeat (with_reducible first | (refine bst ?_ _ _ _ (by omega)) | refine bal ?_ _ | refine bdr ?_ | exact Below.refl _ _ | refine btr ?_ hb1))⟩

set_option maxHeartbeats 400000 in
theorem check_days (L A K S T : Int) (w : World) (hL : TermsOK L A) (h : ¬ Days K T) :
    Calls Try.prog 14 #[.agg #[.int .i64 L, .int .i64 A], .agg #[.int .i64 K, .int .i64 S, .int .i64 T]] w fun e w' => e = .returned (.int .i64 22) ∧ Below w.heap.size w w' := by
  obtain ⟨l1, l2, l3, l4⟩ := hL
  unfold Days at h
  have H := Lib.hid h
  clear h
  go_enter Try.func14, Try.ntmps14
  go_wp2_with (first | (go_at_call 30; refine (law_ok _ _ _ l1 l2 l3 l4).mono ?_; rintro e w1 ⟨rfl, hb1⟩; obtain ⟨hc1, hf1⟩ := bcell hb1) | (go_at_call 31; exfalso; have := H.out; omega))
  all_goals first
    | (exfalso; have := H.out; omega)
    | (go_ret; exact ⟨rfl, by (repeat (with_reducible first | (refine bst ?_ _ _ _ (by omega)) | refine bal ?_ _ | refine bdr ?_ | exact Below.refl _ _ | refine btr ?_ hb1))⟩)

set_option maxHeartbeats 400000 in
theorem check_since (L A K S T : Int) (w : World) (hL : TermsOK L A) (hD : Days K T) :
    Calls Try.prog 14 #[.agg #[.int .i64 L, .int .i64 A], .agg #[.int .i64 K, .int .i64 S, .int .i64 T]] w fun e w' => e = .returned (.int .i64 (if sinceB L A K S T then 0 else 22)) ∧ Below w.heap.size w w' := by
  have hL' := hL
  have hD' := hD
  obtain ⟨l1, l2, l3, l4⟩ := hL
  obtain ⟨d1, d2, d3, d4⟩ := hD
  have t1 : decide (K < 0) = false := by simp; omega
  have t2 : decide (36864 < K) = false := by simp; omega
  have t3 : decide (T < K) = false := by simp; omega
  have t4 : decide (36864 < T) = false := by simp; omega
  cases hs : sinceB L A K S T
  all_goals
    go_enter Try.func14, Try.ntmps14
    go_wp2_with (first | (go_at_call 30; refine (law_ok _ _ _ l1 l2 l3 l4).mono ?_; rintro e w1 ⟨rfl, hb1⟩; obtain ⟨hc1, hf1⟩ := bcell hb1) | (go_at_call 31; refine (since_any _ _ _ _ _ _ hL' hD').mono ?_; rintro e w2 ⟨rfl, hb2⟩; obtain ⟨hc2, hf2⟩ := bcell hb2))
    go_ret
    refine ⟨rfl, ?_⟩
    (repeat (with_reducible first | (refine bst ?_ _ _ _ (by omega)) | refine bal ?_ _ | refine bdr ?_ | exact Below.refl _ _ | refine btr ?_ hb2 | refine btr ?_ hb1))

theorem pcheck_any (L A K S T : Int) (w : World) :
    Calls Try.prog 14 #[.agg #[.int .i64 L, .int .i64 A], .agg #[.int .i64 K, .int .i64 S, .int .i64 T]] w fun e w' => e = .returned (.int .i64 (chkE L A K S T)) ∧ Below w.heap.size w w' := by
  by_cases hL : TermsOK L A
  · by_cases hD : Days K T
    · refine (check_since _ _ _ _ _ w hL hD).mono fun e w' ⟨he, hb⟩ => ⟨he.trans (ret_int ?_), hb⟩
      by_cases hs : sinceB L A K S T = true
      · rw [if_pos hs, chk_ok ⟨hL, hD, hs⟩]
      · rw [if_neg hs, chk_22 hL (fun h => hs h.2.2)]
    · rw [chk_22 hL (fun h => hD h.2.1)]
      exact check_days _ _ _ _ _ w hL hD
  · rw [chk_66 hL]
    exact check_law _ _ _ _ _ w hL

set_option maxHeartbeats 400000 in
theorem due_any (L A K S T : Int) (w : World) (hG : Good L A K S T) :
    Calls Try.prog 29 #[.agg #[.int .i64 L, .int .i64 A], .agg #[.int .i64 K, .int .i64 S, .int .i64 T]] w fun e w' => e = .returned (.int .i64 (dueI L A K S T)) ∧ Below w.heap.size w w' := by
  obtain ⟨⟨l1, l2, l3, l4⟩, ⟨d1, d2, d3, d4⟩, _⟩ := hG
  go_enter Try.func29, Try.ntmps29
  go_wp2
  all_goals go_ret
  all_goals (refine ⟨ret_int ?_, by (repeat (with_reducible first | (refine bst ?_ _ _ _ (by omega)) | refine bal ?_ _ | refine bdr ?_ | exact Below.refl _ _))⟩)
  all_goals simp_all [dueI]

end Go.Proofs.Ytldhcgihhknmjaa
