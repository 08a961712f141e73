/- Which phases are right, and the bounds on any day, in the season layer: program and reference. -/
import Derived.Test.YtlfcdjgmegfjoaaSbnd
namespace Go.Proofs.Ytlfcdjgmegfjoaa
open Go.RowKit
set_option linter.unusedVariables false

set_option maxHeartbeats 1000000 in
theorem pphase_k1 (k f u v : Int) (w : World) (h : k < 1) :
    Calls Try.prog 18 #[.agg #[.int .i64 k, .int .i64 f, .int .i64 u, .int .i64 v]] w fun e w' => e = .returned (.int .i64 14) ∧ Below w.heap.size w w' := by
  go_enter Try.func18, Try.ntmps18
  go_wp2_with (first | (go_at_call 31; refine (pday_any _ _).mono ?_; rintro e wd ⟨rfl, rfl⟩) | (go_at_call 32; refine (pgreen_any _ _).mono ?_; rintro e wd ⟨rfl, rfl⟩))
  all_goals first | (exfalso; omega) | (go_ret; exact ⟨rfl, by (repeat (with_reducible first | (refine bst ?_ _ _ _ (by omega)) | refine bal ?_ _ | refine bdr ?_ | exact Below.refl _ _))⟩)

set_option maxHeartbeats 1000000 in
theorem pphase_k2 (k f u v : Int) (w : World) (h0 : 1 ≤ k) (h : 4 < k) :
    Calls Try.prog 18 #[.agg #[.int .i64 k, .int .i64 f, .int .i64 u, .int .i64 v]] w fun e w' => e = .returned (.int .i64 14) ∧ Below w.heap.size w w' := by
  go_enter Try.func18, Try.ntmps18
  go_wp2_with (first | (go_at_call 31; refine (pday_any _ _).mono ?_; rintro e wd ⟨rfl, rfl⟩) | (go_at_call 32; refine (pgreen_any _ _).mono ?_; rintro e wd ⟨rfl, rfl⟩))
  all_goals first | (exfalso; omega) | (go_ret; exact ⟨rfl, by (repeat (with_reducible first | (refine bst ?_ _ _ _ (by omega)) | refine bal ?_ _ | refine bdr ?_ | exact Below.refl _ _))⟩)

set_option maxHeartbeats 1000000 in
theorem pphase_f1 (k f u v : Int) (w : World) (h0 : 1 ≤ k) (h1 : k ≤ 4) (h : f < 0) :
    Calls Try.prog 18 #[.agg #[.int .i64 k, .int .i64 f, .int .i64 u, .int .i64 v]] w fun e w' => e = .returned (.int .i64 2) ∧ Below w.heap.size w w' := by
  go_enter Try.func18, Try.ntmps18
  go_wp2_with (first | (go_at_call 31; refine (pday_any _ _).mono ?_; rintro e wd ⟨rfl, rfl⟩) | (go_at_call 32; refine (pgreen_any _ _).mono ?_; rintro e wd ⟨rfl, rfl⟩))
  all_goals first | (exfalso; omega) | (go_ret; exact ⟨rfl, by (repeat (with_reducible first | (refine bst ?_ _ _ _ (by omega)) | refine bal ?_ _ | refine bdr ?_ | exact Below.refl _ _))⟩)

set_option maxHeartbeats 1000000 in
theorem pphase_f2 (k f u v : Int) (w : World) (h0 : 1 ≤ k) (h1 : k ≤ 4) (h2 : 0 ≤ f) (h : u < f) :
    Calls Try.prog 18 #[.agg #[.int .i64 k, .int .i64 f, .int .i64 u, .int .i64 v]] w fun e w' => e = .returned (.int .i64 2) ∧ Below w.heap.size w w' := by
  go_enter Try.func18, Try.ntmps18
  go_wp2_with (first | (go_at_call 31; refine (pday_any _ _).mono ?_; rintro e wd ⟨rfl, rfl⟩) | (go_at_call 32; refine (pgreen_any _ _).mono ?_; rintro e wd ⟨rfl, rfl⟩))
  all_goals first | (exfalso; omega) | (go_ret; exact ⟨rfl, by (repeat (with_reducible first | (refine bst ?_ _ _ _ (by omega)) | refine bal ?_ _ | refine bdr ?_ | exact Below.refl _ _))⟩)

set_option maxHeartbeats 1000000 in
theorem pphase_u (k f u v : Int) (w : World) (h0 : 1 ≤ k) (h1 : k ≤ 4) (h2 : 0 ≤ f) (h3 : f ≤ u) (h : ¬ dayOK u) :
    Calls Try.prog 18 #[.agg #[.int .i64 k, .int .i64 f, .int .i64 u, .int .i64 v]] w fun e w' => e = .returned (.int .i64 2) ∧ Below w.heap.size w w' := by
  have q2 : decide (dayOK u) = false := decide_eq_false h
  clear h
  go_enter Try.func18, Try.ntmps18
  go_wp2_with (first | (go_at_call 31; refine (pday_any _ _).mono ?_; rintro e wd ⟨rfl, rfl⟩) | (go_at_call 32; refine (pgreen_any _ _).mono ?_; rintro e wd ⟨rfl, rfl⟩))
  all_goals first | (exfalso; omega) | (go_ret; exact ⟨rfl, by (repeat (with_reducible first | (refine bst ?_ _ _ _ (by omega)) | refine bal ?_ _ | refine bdr ?_ | exact Below.refl _ _))⟩)

set_option maxHeartbeats 1000000 in
theorem pphase_v (k f u v : Int) (w : World) (h0 : 1 ≤ k) (h1 : k ≤ 4) (h2 : 0 ≤ f) (h3 : f ≤ u) (h4 : dayOK u) (h : ¬ greenOK v) :
    Calls Try.prog 18 #[.agg #[.int .i64 k, .int .i64 f, .int .i64 u, .int .i64 v]] w fun e w' => e = .returned (.int .i64 2) ∧ Below w.heap.size w w' := by
  have q2 : decide (dayOK u) = true := decide_eq_true h4
  clear h4
  have q3 : decide (greenOK v) = false := decide_eq_false h
  clear h
  go_enter Try.func18, Try.ntmps18
  go_wp2_with (first | (go_at_call 31; refine (pday_any _ _).mono ?_; rintro e wd ⟨rfl, rfl⟩) | (go_at_call 32; refine (pgreen_any _ _).mono ?_; rintro e wd ⟨rfl, rfl⟩))
  all_goals first | (exfalso; omega) | (go_ret; exact ⟨rfl, by (repeat (with_reducible first | (refine bst ?_ _ _ _ (by omega)) | refine bal ?_ _ | refine bdr ?_ | exact Below.refl _ _))⟩)

set_option maxHeartbeats 1000000 in
theorem pphase_ok (k f u v : Int) (w : World) (h0 : 1 ≤ k) (h1 : k ≤ 4) (h2 : 0 ≤ f) (h3 : f ≤ u) (h4 : dayOK u) (h5 : greenOK v) :
    Calls Try.prog 18 #[.agg #[.int .i64 k, .int .i64 f, .int .i64 u, .int .i64 v]] w fun e w' => e = .returned (.int .i64 0) ∧ Below w.heap.size w w' := by
  have q2 : decide (dayOK u) = true := decide_eq_true h4
  clear h4
  have q3 : decide (greenOK v) = true := decide_eq_true h5
  clear h5
  go_enter Try.func18, Try.ntmps18
  go_wp2_with (first | (go_at_call 31; refine (pday_any _ _).mono ?_; rintro e wd ⟨rfl, rfl⟩) | (go_at_call 32; refine (pgreen_any _ _).mono ?_; rintro e wd ⟨rfl, rfl⟩))
  all_goals first | (exfalso; omega) | (go_ret; exact ⟨rfl, by (repeat (with_reducible first | (refine bst ?_ _ _ _ (by omega)) | refine bal ?_ _ | refine bdr ?_ | exact Below.refl _ _))⟩)

theorem pphase_any (k f u v : Int) (w : World) :
    Calls Try.prog 18 #[.agg #[.int .i64 k, .int .i64 f, .int .i64 u, .int .i64 v]] w fun e w' => e = .returned (.int .i64 (phE k f u v)) ∧ Below w.heap.size w w' := by
  unfold phE
  by_cases h : k < 1 ∨ 4 < k
  · rw [if_pos h]
    by_cases h1 : k < 1
    · exact pphase_k1 _ _ _ _ w h1
    · exact pphase_k2 _ _ _ _ w (by omega) (by omega)
  · rw [if_neg h]
    by_cases h1 : f < 0 ∨ u < f ∨ ¬ dayOK u ∨ ¬ greenOK v
    · rw [if_pos h1]
      by_cases h2 : f < 0
      · exact pphase_f1 _ _ _ _ w (by omega) (by omega) h2
      · by_cases h3 : u < f
        · exact pphase_f2 _ _ _ _ w (by omega) (by omega) (by omega) h3
        · by_cases h4 : dayOK u
          · exact pphase_v _ _ _ _ w (by omega) (by omega) (by omega) (by omega) h4 (fun c => by rcases h1 with h | h | h | h <;> first | exact h2 h | exact h3 h | exact h h4 | exact h c)
          · exact pphase_u _ _ _ _ w (by omega) (by omega) (by omega) (by omega) h4
    · rw [if_neg h1]
      have h4 : dayOK u := Decidable.byContradiction fun c => h1 (.inr (.inr (.inl c)))
      have h5 : greenOK v := Decidable.byContradiction fun c => h1 (.inr (.inr (.inr c)))
      have h6 : ¬ f < 0 := fun c => h1 (.inl c)
      have h7 : ¬ u < f := fun c => h1 (.inr (.inl c))
      exact pphase_ok _ _ _ _ w (by omega) (by omega) (by omega) (by omega) h4 h5

set_option maxHeartbeats 1000000 in
theorem rphase_k1 (k f u v : Int) (w : World) (h : k < 1) :
    Calls Try.prog 19 #[.agg #[.int .i64 k, .int .i64 f, .int .i64 u, .int .i64 v]] w fun e w' => e = .returned (.int .i64 14) ∧ Below w.heap.size w w' := by
  have q1 : decide (1 ≤ k ∧ k ≤ 4) = false := decide_eq_false (by omega)
  go_enter Try.func19, Try.ntmps19
  go_wp2_with (go_at_call 34; refine (rin_any _ _ _ _).mono ?_; rintro e wd ⟨rfl, rfl⟩)
  all_goals first | (exfalso; omega) | (go_ret; exact ⟨rfl, by (repeat (with_reducible first | (refine bst ?_ _ _ _ (by omega)) | refine bal ?_ _ | refine bdr ?_ | exact Below.refl _ _))⟩)

set_option maxHeartbeats 1000000 in
theorem rphase_k2 (k f u v : Int) (w : World) (h0 : 1 ≤ k) (h : 4 < k) :
    Calls Try.prog 19 #[.agg #[.int .i64 k, .int .i64 f, .int .i64 u, .int .i64 v]] w fun e w' => e = .returned (.int .i64 14) ∧ Below w.heap.size w w' := by
  have q0 : decide (k ≤ 4) = false := decide_eq_false (by omega)
  have q1 : decide (1 ≤ k ∧ k ≤ 4) = false := decide_eq_false (by omega)
  go_enter Try.func19, Try.ntmps19
  go_wp2_with (go_at_call 34; refine (rin_any _ _ _ _).mono ?_; rintro e wd ⟨rfl, rfl⟩)
  all_goals first | (exfalso; omega) | (go_ret; exact ⟨rfl, by (repeat (with_reducible first | (refine bst ?_ _ _ _ (by omega)) | refine bal ?_ _ | refine bdr ?_ | exact Below.refl _ _))⟩)

set_option maxHeartbeats 1000000 in
theorem rphase_f1 (k f u v : Int) (w : World) (h0 : 1 ≤ k) (h1 : k ≤ 4) (h : f < 0) :
    Calls Try.prog 19 #[.agg #[.int .i64 k, .int .i64 f, .int .i64 u, .int .i64 v]] w fun e w' => e = .returned (.int .i64 2) ∧ Below w.heap.size w w' := by
  have q1 : decide (1 ≤ k ∧ k ≤ 4) = true := decide_eq_true ⟨h0, h1⟩
  go_enter Try.func19, Try.ntmps19
  go_wp2_with (go_at_call 34; refine (rin_any _ _ _ _).mono ?_; rintro e wd ⟨rfl, rfl⟩)
  all_goals first | (exfalso; omega) | (go_ret; exact ⟨rfl, by (repeat (with_reducible first | (refine bst ?_ _ _ _ (by omega)) | refine bal ?_ _ | refine bdr ?_ | exact Below.refl _ _))⟩)

set_option maxHeartbeats 1000000 in
theorem rphase_f2 (k f u v : Int) (w : World) (h0 : 1 ≤ k) (h1 : k ≤ 4) (h2 : 0 ≤ f) (h : u < f) :
    Calls Try.prog 19 #[.agg #[.int .i64 k, .int .i64 f, .int .i64 u, .int .i64 v]] w fun e w' => e = .returned (.int .i64 2) ∧ Below w.heap.size w w' := by
  have q1 : decide (1 ≤ k ∧ k ≤ 4) = true := decide_eq_true ⟨h0, h1⟩
  go_enter Try.func19, Try.ntmps19
  go_wp2_with (go_at_call 34; refine (rin_any _ _ _ _).mono ?_; rintro e wd ⟨rfl, rfl⟩)
  all_goals first | (exfalso; omega) | (go_ret; exact ⟨rfl, by (repeat (with_reducible first | (refine bst ?_ _ _ _ (by omega)) | refine bal ?_ _ | refine bdr ?_ | exact Below.refl _ _))⟩)

set_option maxHeartbeats 1000000 in
theorem rphase_u (k f u v : Int) (w : World) (h0 : 1 ≤ k) (h1 : k ≤ 4) (h2 : 0 ≤ f) (h3 : f ≤ u) (h : ¬ dayOK u) :
    Calls Try.prog 19 #[.agg #[.int .i64 k, .int .i64 f, .int .i64 u, .int .i64 v]] w fun e w' => e = .returned (.int .i64 2) ∧ Below w.heap.size w w' := by
  have q1 : decide (1 ≤ k ∧ k ≤ 4) = true := decide_eq_true ⟨h0, h1⟩
  have q2 : 364 < u := by unfold dayOK at h; omega
  clear h
  go_enter Try.func19, Try.ntmps19
  go_wp2_with (go_at_call 34; refine (rin_any _ _ _ _).mono ?_; rintro e wd ⟨rfl, rfl⟩)
  all_goals first | (exfalso; omega) | (go_ret; exact ⟨rfl, by (repeat (with_reducible first | (refine bst ?_ _ _ _ (by omega)) | refine bal ?_ _ | refine bdr ?_ | exact Below.refl _ _))⟩)

set_option maxHeartbeats 1000000 in
theorem rphase_v (k f u v : Int) (w : World) (h0 : 1 ≤ k) (h1 : k ≤ 4) (h2 : 0 ≤ f) (h3 : f ≤ u) (h4 : dayOK u) (h : ¬ greenOK v) :
    Calls Try.prog 19 #[.agg #[.int .i64 k, .int .i64 f, .int .i64 u, .int .i64 v]] w fun e w' => e = .returned (.int .i64 2) ∧ Below w.heap.size w w' := by
  have q1 : decide (1 ≤ k ∧ k ≤ 4) = true := decide_eq_true ⟨h0, h1⟩
  have q2 : u ≤ 364 := by have := h4.2; omega
  clear h4
  have q3 : decide (0 ≤ v ∧ v ≤ 1000) = false := decide_eq_false h
  clear h
  go_enter Try.func19, Try.ntmps19
  go_wp2_with (go_at_call 34; refine (rin_any _ _ _ _).mono ?_; rintro e wd ⟨rfl, rfl⟩)
  all_goals first | (exfalso; omega) | (go_ret; exact ⟨rfl, by (repeat (with_reducible first | (refine bst ?_ _ _ _ (by omega)) | refine bal ?_ _ | refine bdr ?_ | exact Below.refl _ _))⟩)

set_option maxHeartbeats 1000000 in
theorem rphase_ok (k f u v : Int) (w : World) (h0 : 1 ≤ k) (h1 : k ≤ 4) (h2 : 0 ≤ f) (h3 : f ≤ u) (h4 : dayOK u) (h5 : greenOK v) :
    Calls Try.prog 19 #[.agg #[.int .i64 k, .int .i64 f, .int .i64 u, .int .i64 v]] w fun e w' => e = .returned (.int .i64 0) ∧ Below w.heap.size w w' := by
  have q1 : decide (1 ≤ k ∧ k ≤ 4) = true := decide_eq_true ⟨h0, h1⟩
  have q2 : u ≤ 364 := by have := h4.2; omega
  clear h4
  have q3 : decide (0 ≤ v ∧ v ≤ 1000) = true := decide_eq_true h5
  clear h5
  go_enter Try.func19, Try.ntmps19
  go_wp2_with (go_at_call 34; refine (rin_any _ _ _ _).mono ?_; rintro e wd ⟨rfl, rfl⟩)
  all_goals first | (exfalso; omega) | (go_ret; exact ⟨rfl, by (repeat (with_reducible first | (refine bst ?_ _ _ _ (by omega)) | refine bal ?_ _ | refine bdr ?_ | exact Below.refl _ _))⟩)

theorem rphase_any (k f u v : Int) (w : World) :
    Calls Try.prog 19 #[.agg #[.int .i64 k, .int .i64 f, .int .i64 u, .int .i64 v]] w fun e w' => e = .returned (.int .i64 (phE k f u v)) ∧ Below w.heap.size w w' := by
  unfold phE
  by_cases h : k < 1 ∨ 4 < k
  · rw [if_pos h]
    by_cases h1 : k < 1
    · exact rphase_k1 _ _ _ _ w h1
    · exact rphase_k2 _ _ _ _ w (by omega) (by omega)
  · rw [if_neg h]
    by_cases h1 : f < 0 ∨ u < f ∨ ¬ dayOK u ∨ ¬ greenOK v
    · rw [if_pos h1]
      by_cases h2 : f < 0
      · exact rphase_f1 _ _ _ _ w (by omega) (by omega) h2
      · by_cases h3 : u < f
        · exact rphase_f2 _ _ _ _ w (by omega) (by omega) (by omega) h3
        · by_cases h4 : dayOK u
          · exact rphase_v _ _ _ _ w (by omega) (by omega) (by omega) (by omega) h4 (fun c => by rcases h1 with h | h | h | h <;> first | exact h2 h | exact h3 h | exact h h4 | exact h c)
          · exact rphase_u _ _ _ _ w (by omega) (by omega) (by omega) (by omega) h4
    · rw [if_neg h1]
      have h4 : dayOK u := Decidable.byContradiction fun c => h1 (.inr (.inr (.inl c)))
      have h5 : greenOK v := Decidable.byContradiction fun c => h1 (.inr (.inr (.inr c)))
      have h6 : ¬ f < 0 := fun c => h1 (.inl c)
      have h7 : ¬ u < f := fun c => h1 (.inr (.inl c))
      exact rphase_ok _ _ _ _ w (by omega) (by omega) (by omega) (by omega) h4 h5

def lowAny (s : Int) (l : List (Int × Int)) (d : Int) : Int := if chkS s l = 0 ∧ dayOK d then lowB s l d else 0
def highAny (s : Int) (l : List (Int × Int)) (d : Int) : Int := if chkS s l = 0 ∧ dayOK d then highB s l d else 0

set_option maxHeartbeats 1000000 in
theorem pBounds_bad (s : Int) (a : Option Addr) (len cap : Nat) (l : List (Int × Int)) (w : World) (hS : Ser w a l) (hl : l.length = len) (hcap : len ≤ 9223372036854775807) (d c : Int) (hc : chkS s l = c) (h : c ≠ 0) :
    Calls Try.prog 16 #[.agg #[.int .i64 s, .slice a len cap], .int .i64 d] w fun e w' => e = .returned (.tuple #[.int .i64 0, .int .i64 0]) ∧ Below w.heap.size w w' := by
  have SS := Lib.hid hS
  clear hS
  have HC := Lib.hid hc
  have hb : (c != 0) = true := by simpa using h
  clear hc h
  go_enter Try.func16, Try.ntmps16
  go_wp2_with (go_at_call 14; refine (pcheck_any _ _ _ _ _ _ (SS.out.alloc _) hl hcap).mono ?_; rw [HC.out]; rintro e w1 ⟨rfl, hbw1⟩; have zw1 := hbw1.size; (try simp at zw1); have pw1x0 := bc1 (b := w.heap.size) (o := 0) (v := .int .i64 s) hbw1 (by simp [go_sem]); have pw1x1 := bc1 (b := w.heap.size) (o := 1) (v := .slice a len cap) hbw1 (by simp [go_sem]))
  go_ret2
  exact ⟨rfl, by (repeat (with_reducible first | (refine bst ?_ _ _ _ (by omega)) | refine bal ?_ _ | refine bdr ?_ | exact Below.refl _ _ | refine btr ?_ hbw1))⟩

set_option maxHeartbeats 1000000 in
theorem pBounds_day (s : Int) (a : Option Addr) (len cap : Nat) (l : List (Int × Int)) (w : World) (hS : Ser w a l) (hl : l.length = len) (hcap : len ≤ 9223372036854775807) (d : Int) (hc : chkS s l = 0) (h : ¬ dayOK d) :
    Calls Try.prog 16 #[.agg #[.int .i64 s, .slice a len cap], .int .i64 d] w fun e w' => e = .returned (.tuple #[.int .i64 0, .int .i64 0]) ∧ Below w.heap.size w w' := by
  have SS := Lib.hid hS
  clear hS
  have HC := Lib.hid hc
  have q1 : decide (dayOK d) = false := decide_eq_false h
  clear hc h
  go_enter Try.func16, Try.ntmps16
  go_wp2_with (first | (go_at_call 14; refine (pcheck_any _ _ _ _ _ _ (SS.out.alloc _) hl hcap).mono ?_; rw [HC.out]; rintro e w1 ⟨rfl, hbw1⟩; have zw1 := hbw1.size; (try simp at zw1); have pw1x0 := bc1 (b := w.heap.size) (o := 0) (v := .int .i64 s) hbw1 (by simp [go_sem]); have pw1x1 := bc1 (b := w.heap.size) (o := 1) (v := .slice a len cap) hbw1 (by simp [go_sem])) | (go_at_call 31; refine (pday_any _ _).mono ?_; rintro e wd ⟨rfl, rfl⟩))
  go_ret2
  exact ⟨rfl, by (repeat (with_reducible first | (refine bst ?_ _ _ _ (by omega)) | refine bal ?_ _ | refine bdr ?_ | exact Below.refl _ _ | refine btr ?_ hbw1))⟩

set_option maxHeartbeats 1000000 in
theorem pBounds_ok (s : Int) (a : Option Addr) (len cap : Nat) (l : List (Int × Int)) (w : World) (hS : Ser w a l) (hl : l.length = len) (hcap : len ≤ 9223372036854775807) (d : Int) (hc : chkS s l = 0) (h : dayOK d) :
    Calls Try.prog 16 #[.agg #[.int .i64 s, .slice a len cap], .int .i64 d] w fun e w' => e = .returned (.tuple #[.int .i64 (lowB s l d), .int .i64 (highB s l d)]) ∧ Below w.heap.size w w' := by
  have SS := Lib.hid hS
  clear hS
  have HC := Lib.hid hc
  have HD := Lib.hid h
  have q1 : decide (dayOK d) = true := decide_eq_true h
  clear hc h
  go_enter Try.func16, Try.ntmps16
  go_wp2_with (first | (go_at_call 14; refine (pcheck_any _ _ _ _ _ _ (SS.out.alloc _) hl hcap).mono ?_; rw [HC.out]; rintro e w1 ⟨rfl, hbw1⟩; have zw1 := hbw1.size; (try simp at zw1); have pw1x0 := bc1 (b := w.heap.size) (o := 0) (v := .int .i64 s) hbw1 (by simp [go_sem]); have pw1x1 := bc1 (b := w.heap.size) (o := 1) (v := .slice a len cap) hbw1 (by simp [go_sem])) | (go_at_call 31; refine (pday_any _ _).mono ?_; rintro e wd ⟨rfl, rfl⟩) | (go_at_call 35; refine (pbounds_any _ _ _ _ _ _ ((SS.out.alloc _).below hbw1) hl HC.out _ HD.out).mono ?_; rintro e w2 ⟨rfl, hbw2⟩))
  go_ret2
  exact ⟨rfl, by (repeat (with_reducible first | (refine bst ?_ _ _ _ (by omega)) | refine bal ?_ _ | refine bdr ?_ | exact Below.refl _ _ | refine btr ?_ hbw2 | refine btr ?_ hbw1))⟩

theorem pBounds_any (s : Int) (a : Option Addr) (len cap : Nat) (l : List (Int × Int)) (w : World) (hS : Ser w a l) (hl : l.length = len) (hcap : len ≤ 9223372036854775807) (d : Int) :
    Calls Try.prog 16 #[.agg #[.int .i64 s, .slice a len cap], .int .i64 d] w fun e w' => e = .returned (.tuple #[.int .i64 (lowAny s l d), .int .i64 (highAny s l d)]) ∧ Below w.heap.size w w' := by
  unfold lowAny highAny
  by_cases hc : chkS s l = 0
  · by_cases hd : dayOK d
    · rw [if_pos ⟨hc, hd⟩, if_pos ⟨hc, hd⟩]; exact pBounds_ok _ _ _ _ _ _ hS hl hcap _ hc hd
    · rw [if_neg (fun c => hd c.2), if_neg (fun c => hd c.2)]; exact pBounds_day _ _ _ _ _ _ hS hl hcap _ hc hd
  · rw [if_neg (fun c => hc c.1), if_neg (fun c => hc c.1)]; exact pBounds_bad _ _ _ _ _ _ hS hl hcap _ _ rfl hc

set_option maxHeartbeats 1000000 in
theorem rBounds_bad (s : Int) (a : Option Addr) (len cap : Nat) (l : List (Int × Int)) (w : World) (hS : Ser w a l) (hl : l.length = len) (hcap : len ≤ 9223372036854775807) (d c : Int) (hc : chkS s l = c) (h : c ≠ 0) :
    Calls Try.prog 17 #[.agg #[.int .i64 s, .slice a len cap], .int .i64 d] w fun e w' => e = .returned (.tuple #[.int .i64 0, .int .i64 0]) ∧ Below w.heap.size w w' := by
  have SS := Lib.hid hS
  clear hS
  have HC := Lib.hid hc
  have hb : (c != 0) = true := by simpa using h
  clear hc h
  go_enter Try.func17, Try.ntmps17
  go_wp2_with (go_at_call 15; refine (rcheck_any _ _ _ _ _ _ (SS.out.alloc _) hl hcap).mono ?_; rw [HC.out]; rintro e w1 ⟨rfl, hbw1⟩; have zw1 := hbw1.size; (try simp at zw1); have pw1x0 := bc1 (b := w.heap.size) (o := 0) (v := .int .i64 s) hbw1 (by simp [go_sem]); have pw1x1 := bc1 (b := w.heap.size) (o := 1) (v := .slice a len cap) hbw1 (by simp [go_sem]))
  go_ret2
  exact ⟨rfl, by (repeat (with_reducible first | (refine bst ?_ _ _ _ (by omega)) | refine bal ?_ _ | refine bdr ?_ | exact Below.refl _ _ | refine btr ?_ hbw1))⟩

set_option maxHeartbeats 1000000 in
theorem rBounds_day (s : Int) (a : Option Addr) (len cap : Nat) (l : List (Int × Int)) (w : World) (hS : Ser w a l) (hl : l.length = len) (hcap : len ≤ 9223372036854775807) (d : Int) (hc : chkS s l = 0) (h : ¬ dayOK d) :
    Calls Try.prog 17 #[.agg #[.int .i64 s, .slice a len cap], .int .i64 d] w fun e w' => e = .returned (.tuple #[.int .i64 0, .int .i64 0]) ∧ Below w.heap.size w w' := by
  have SS := Lib.hid hS
  clear hS
  have HC := Lib.hid hc
  have q1 : decide (0 ≤ d ∧ d ≤ 364) = false := decide_eq_false (fun c => h ⟨c.1, by have := c.2; omega⟩)
  clear hc h
  go_enter Try.func17, Try.ntmps17
  go_wp2_with (first | (go_at_call 15; refine (rcheck_any _ _ _ _ _ _ (SS.out.alloc _) hl hcap).mono ?_; rw [HC.out]; rintro e w1 ⟨rfl, hbw1⟩; have zw1 := hbw1.size; (try simp at zw1); have pw1x0 := bc1 (b := w.heap.size) (o := 0) (v := .int .i64 s) hbw1 (by simp [go_sem]); have pw1x1 := bc1 (b := w.heap.size) (o := 1) (v := .slice a len cap) hbw1 (by simp [go_sem])) | (go_at_call 34; refine (rin_any _ _ _ _).mono ?_; rintro e wd ⟨rfl, rfl⟩))
  go_ret2
  exact ⟨rfl, by (repeat (with_reducible first | (refine bst ?_ _ _ _ (by omega)) | refine bal ?_ _ | refine bdr ?_ | exact Below.refl _ _ | refine btr ?_ hbw1))⟩

set_option maxHeartbeats 1000000 in
theorem rBounds_ok (s : Int) (a : Option Addr) (len cap : Nat) (l : List (Int × Int)) (w : World) (hS : Ser w a l) (hl : l.length = len) (hcap : len ≤ 9223372036854775807) (d : Int) (hc : chkS s l = 0) (h : dayOK d) :
    Calls Try.prog 17 #[.agg #[.int .i64 s, .slice a len cap], .int .i64 d] w fun e w' => e = .returned (.tuple #[.int .i64 (lowB s l d), .int .i64 (highB s l d)]) ∧ Below w.heap.size w w' := by
  have SS := Lib.hid hS
  clear hS
  have HC := Lib.hid hc
  have HD := Lib.hid h
  have q1 : decide (0 ≤ d ∧ d ≤ 364) = true := decide_eq_true ⟨h.1, by have := h.2; omega⟩
  clear hc h
  go_enter Try.func17, Try.ntmps17
  go_wp2_with (first | (go_at_call 15; refine (rcheck_any _ _ _ _ _ _ (SS.out.alloc _) hl hcap).mono ?_; rw [HC.out]; rintro e w1 ⟨rfl, hbw1⟩; have zw1 := hbw1.size; (try simp at zw1); have pw1x0 := bc1 (b := w.heap.size) (o := 0) (v := .int .i64 s) hbw1 (by simp [go_sem]); have pw1x1 := bc1 (b := w.heap.size) (o := 1) (v := .slice a len cap) hbw1 (by simp [go_sem])) | (go_at_call 34; refine (rin_any _ _ _ _).mono ?_; rintro e wd ⟨rfl, rfl⟩) | (go_at_call 36; refine (rbounds_any _ _ _ _ _ _ ((SS.out.alloc _).below hbw1) hl HC.out _ HD.out).mono ?_; rintro e w2 ⟨rfl, hbw2⟩))
  go_ret2
  exact ⟨rfl, by (repeat (with_reducible first | (refine bst ?_ _ _ _ (by omega)) | refine bal ?_ _ | refine bdr ?_ | exact Below.refl _ _ | refine btr ?_ hbw2 | refine btr ?_ hbw1))⟩

theorem rBounds_any (s : Int) (a : Option Addr) (len cap : Nat) (l : List (Int × Int)) (w : World) (hS : Ser w a l) (hl : l.length = len) (hcap : len ≤ 9223372036854775807) (d : Int) :
    Calls Try.prog 17 #[.agg #[.int .i64 s, .slice a len cap], .int .i64 d] w fun e w' => e = .returned (.tuple #[.int .i64 (lowAny s l d), .int .i64 (highAny s l d)]) ∧ Below w.heap.size w w' := by
  unfold lowAny highAny
  by_cases hc : chkS s l = 0
  · by_cases hd : dayOK d
    · rw [if_pos ⟨hc, hd⟩, if_pos ⟨hc, hd⟩]; exact rBounds_ok _ _ _ _ _ _ hS hl hcap _ hc hd
    · rw [if_neg (fun c => hd c.2), if_neg (fun c => hd c.2)]; exact rBounds_day _ _ _ _ _ _ hS hl hcap _ hc hd
  · rw [if_neg (fun c => hc c.1), if_neg (fun c => hc c.1)]; exact rBounds_bad _ _ _ _ _ _ hS hl hcap _ _ rfl hc

end Go.Proofs.Ytlfcdjgmegfjoaa
