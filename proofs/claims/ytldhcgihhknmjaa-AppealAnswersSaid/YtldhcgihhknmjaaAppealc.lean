/- The walks of the reference's functions of the appeal layer: they answer what the program's answer. -/
import Derived.Test.YtldhcgihhknmjaaAppeal
namespace Go.Proofs.Ytldhcgihhknmjaa
open Go.RowKit

set_option maxHeartbeats 1000000 in
theorem terms_ok (L A : Int) (w : World) (h1 : 1 ≤ L) (h2 : L ≤ 400) (h3 : 1 ≤ A) (h4 : A ≤ 400) :
    Calls Try.prog 32 #[.agg #[.int .i64 L, .int .i64 A]] w fun e w' => e = .returned (.bool true) ∧ Below w.heap.size w w' := by
  have t1 : decide (1 ≤ L) = true := by simp; omega
  have t2 : decide (L ≤ 400) = true := by simp; omega
  have t3 : decide (1 ≤ A) = true := by simp; omega
  have t4 : decide (A ≤ 400) = true := by simp; omega
  go_enter Try.func32, Try.ntmps32
  go_wp2
  go_ret
  exact ⟨rfl, by (repeat (with_reducible first | (refine bst ?_ _ _ _ (by omega)) | refine bal ?_ _ | refine bdr ?_ | exact Below.refl _ _))⟩

set_option maxHeartbeats 1000000 in
theorem terms_bad (L A : Int) (w : World) (h : ¬ TermsOK L A) :
    Calls Try.prog 32 #[.agg #[.int .i64 L, .int .i64 A]] w fun e w' => e = .returned (.bool false) ∧ Below w.heap.size w w' := by
  unfold TermsOK at h
  have H := Lib.hid h
  clear h
  go_enter Try.func32, Try.ntmps32
  go_wp2
  all_goals go_ret
  all_goals (refine ⟨ret_bool ?_, by (repeat (with_reducible first | (refine bst ?_ _ _ _ (by omega)) | refine bal ?_ _ | refine bdr ?_ | exact Below.refl _ _))⟩)
  all_goals (have := H.out; simp <;> omega)

set_option maxHeartbeats 1000000 in
theorem rcheck_law (L A K S T : Int) (w : World) (h : ¬ TermsOK L A) :
    Calls Try.prog 15 #[.agg #[.int .i64 L, .int .i64 A], .agg #[.int .i64 K, .int .i64 S, .int .i64 T]] w fun e w' => e = .returned (.int .i64 66) ∧ Below w.heap.size w w' := by
  go_enter Try.func15, Try.ntmps15
  go_wp2_with (go_at_call 32; refine (terms_bad _ _ _ h).mono ?_; rintro e w1 ⟨rfl, hbw1⟩; have zw1 := hbw1.size; (try simp at zw1); have pw1a0 := bc1 (b := w.heap.size) (o := 0) (v := .int .i64 L) hbw1 (by simp); have pw1a1 := bc1 (b := w.heap.size) (o := 1) (v := .int .i64 A) hbw1 (by simp); have pw1b0 := bc1 (b := w.heap.size + 1) (o := 0) (v := .int .i64 K) hbw1 (by simp); have pw1b1 := bc1 (b := w.heap.size + 1) (o := 1) (v := .int .i64 S) hbw1 (by simp); have pw1b2 := bc1 (b := w.heap.size + 1) (o := 2) (v := .int .i64 T) hbw1 (by simp))
  go_ret
  exact ⟨rfl, by (repeat (with_reducible first | (refine bst ?_ _ _ _ (by omega)) | refine bal ?_ _ | refine bdr ?_ | exact Below.refl _ _ | refine btr ?_ hbw1))⟩

set_option maxHeartbeats 1000000 in
theorem rcheck_days (L A K S T : Int) (w : World) (hL : TermsOK L A) (h : ¬ Days K T) :
    Calls Try.prog 15 #[.agg #[.int .i64 L, .int .i64 A], .agg #[.int .i64 K, .int .i64 S, .int .i64 T]] w fun e w' => e = .returned (.int .i64 22) ∧ Below w.heap.size w w' := by
  obtain ⟨l1, l2, l3, l4⟩ := hL
  unfold Days at h
  have H := Lib.hid h
  by_cases h1 : K < 0
  · clear h H
    go_enter Try.func15, Try.ntmps15
    go_wp2_with (go_at_call 32; refine (terms_ok _ _ _ l1 l2 l3 l4).mono ?_; rintro e w1 ⟨rfl, hbw1⟩; have zw1 := hbw1.size; (try simp at zw1); have pw1a0 := bc1 (b := w.heap.size) (o := 0) (v := .int .i64 L) hbw1 (by simp); have pw1a1 := bc1 (b := w.heap.size) (o := 1) (v := .int .i64 A) hbw1 (by simp); have pw1b0 := bc1 (b := w.heap.size + 1) (o := 0) (v := .int .i64 K) hbw1 (by simp); have pw1b1 := bc1 (b := w.heap.size + 1) (o := 1) (v := .int .i64 S) hbw1 (by simp); have pw1b2 := bc1 (b := w.heap.size + 1) (o := 2) (v := .int .i64 T) hbw1 (by simp))
    go_ret
    exact ⟨rfl, by (repeat (with_reducible first | (refine bst ?_ _ _ _ (by omega)) | refine bal ?_ _ | refine bdr ?_ | exact Below.refl _ _ | refine btr ?_ hbw1))⟩
  · by_cases h2 : 36864 < K
    · clear h H
      go_enter Try.func15, Try.ntmps15
      go_wp2_with (go_at_call 32; refine (terms_ok _ _ _ l1 l2 l3 l4).mono ?_; rintro e w1 ⟨rfl, hbw1⟩; have zw1 := hbw1.size; (try simp at zw1); have pw1a0 := bc1 (b := w.heap.size) (o := 0) (v := .int .i64 L) hbw1 (by simp); have pw1a1 := bc1 (b := w.heap.size) (o := 1) (v := .int .i64 A) hbw1 (by simp); have pw1b0 := bc1 (b := w.heap.size + 1) (o := 0) (v := .int .i64 K) hbw1 (by simp); have pw1b1 := bc1 (b := w.heap.size + 1) (o := 1) (v := .int .i64 S) hbw1 (by simp); have pw1b2 := bc1 (b := w.heap.size + 1) (o := 2) (v := .int .i64 T) hbw1 (by simp))
      go_ret
      exact ⟨rfl, by (repeat (with_reducible first | (refine bst ?_ _ _ _ (by omega)) | refine bal ?_ _ | refine bdr ?_ | exact Below.refl _ _ | refine btr ?_ hbw1))⟩
    · by_cases h3 : T < K
      · clear h H
        go_enter Try.func15, Try.ntmps15
        go_wp2_with (go_at_call 32; refine (terms_ok _ _ _ l1 l2 l3 l4).mono ?_; rintro e w1 ⟨rfl, hbw1⟩; have zw1 := hbw1.size; (try simp at zw1); have pw1a0 := bc1 (b := w.heap.size) (o := 0) (v := .int .i64 L) hbw1 (by simp); have pw1a1 := bc1 (b := w.heap.size) (o := 1) (v := .int .i64 A) hbw1 (by simp); have pw1b0 := bc1 (b := w.heap.size + 1) (o := 0) (v := .int .i64 K) hbw1 (by simp); have pw1b1 := bc1 (b := w.heap.size + 1) (o := 1) (v := .int .i64 S) hbw1 (by simp); have pw1b2 := bc1 (b := w.heap.size + 1) (o := 2) (v := .int .i64 T) hbw1 (by simp))
        go_ret
        exact ⟨rfl, by (repeat (with_reducible first | (refine bst ?_ _ _ _ (by omega)) | refine bal ?_ _ | refine bdr ?_ | exact Below.refl _ _ | refine btr ?_ hbw1))⟩
      · have h4 : 36864 < T := by omega
        clear h H
        go_enter Try.func15, Try.ntmps15
        go_wp2_with (go_at_call 32; refine (terms_ok _ _ _ l1 l2 l3 l4).mono ?_; rintro e w1 ⟨rfl, hbw1⟩; have zw1 := hbw1.size; (try simp at zw1); have pw1a0 := bc1 (b := w.heap.size) (o := 0) (v := .int .i64 L) hbw1 (by simp); have pw1a1 := bc1 (b := w.heap.size) (o := 1) (v := .int .i64 A) hbw1 (by simp); have pw1b0 := bc1 (b := w.heap.size + 1) (o := 0) (v := .int .i64 K) hbw1 (by simp); have pw1b1 := bc1 (b := w.heap.size + 1) (o := 1) (v := .int .i64 S) hbw1 (by simp); have pw1b2 := bc1 (b := w.heap.size + 1) (o := 2) (v := .int .i64 T) hbw1 (by simp))
        go_ret
        exact ⟨rfl, by (repeat (with_reducible first | (refine bst ?_ _ _ _ (by omega)) | refine bal ?_ _ | refine bdr ?_ | exact Below.refl _ _ | refine btr ?_ hbw1))⟩

set_option maxHeartbeats 1000000 in
theorem rcheck_since (L A K S T : Int) (w : World) (hL : TermsOK L A) (hD : Days K T) (c : Int) (hc : (if sinceB L A K S T then (0 : Int) else 22) = c) :
    Calls Try.prog 15 #[.agg #[.int .i64 L, .int .i64 A], .agg #[.int .i64 K, .int .i64 S, .int .i64 T]] w fun e w' => e = .returned (.int .i64 c) ∧ Below w.heap.size w w' := by
  obtain ⟨l1, l2, l3, l4⟩ := hL
  obtain ⟨d1, d2, d3, d4⟩ := hD
  have HC := Lib.hid hc
  clear hc
  have t1 : decide (K < 0) = false := by simp; omega
  have t2 : decide (36864 < K) = false := by simp; omega
  have t3 : decide (T < K) = false := by simp; omega
  have t4 : decide (36864 < T) = false := by simp; omega
  go_enter Try.func15, Try.ntmps15
  go_wp2_with (go_at_call 32; refine (terms_ok _ _ _ l1 l2 l3 l4).mono ?_; rintro e w1 ⟨rfl, hbw1⟩; have zw1 := hbw1.size; (try simp at zw1); have pw1a0 := bc1 (b := w.heap.size) (o := 0) (v := .int .i64 L) hbw1 (by simp); have pw1a1 := bc1 (b := w.heap.size) (o := 1) (v := .int .i64 A) hbw1 (by simp); have pw1b0 := bc1 (b := w.heap.size + 1) (o := 0) (v := .int .i64 K) hbw1 (by simp); have pw1b1 := bc1 (b := w.heap.size + 1) (o := 1) (v := .int .i64 S) hbw1 (by simp); have pw1b2 := bc1 (b := w.heap.size + 1) (o := 2) (v := .int .i64 T) hbw1 (by simp))
  all_goals go_ret
  all_goals (refine ⟨ret_int ?_, by (repeat (with_reducible first | (refine bst ?_ _ _ _ (by omega)) | refine bal ?_ _ | refine bdr ?_ | exact Below.refl _ _ | refine btr ?_ hbw1))⟩)
  all_goals (have q := HC.out; clear HC; simp_all [sinceB] <;> omega)

theorem rcheck_any (L A K S T : Int) (w : World) :
    Calls Try.prog 15 #[.agg #[.int .i64 L, .int .i64 A], .agg #[.int .i64 K, .int .i64 S, .int .i64 T]] w fun e w' => e = .returned (.int .i64 (chkE L A K S T)) ∧ Below w.heap.size w w' := by
  by_cases hL : TermsOK L A
  · by_cases hD : Days K T
    · refine (rcheck_since _ _ _ _ _ w hL hD _ rfl).mono fun e w' ⟨he, hb⟩ => ⟨he.trans (ret_int ?_), hb⟩
      by_cases hs : sinceB L A K S T = true
      · rw [if_pos hs, chk_ok ⟨hL, hD, hs⟩]
      · rw [if_neg hs, chk_22 hL (fun h => hs h.2.2)]
    · rw [chk_22 hL (fun h => hD h.2.1)]
      exact rcheck_days _ _ _ _ _ w hL hD
  · rw [chk_66 hL]
    exact rcheck_law _ _ _ _ _ w hL

set_option maxHeartbeats 1000000 in
theorem rlodge_bad (L A K S T d : Int) (w : World) (c : Int) (hk : chkE L A K S T = c) (hc : (c != 0) = true) :
    Calls Try.prog 21 #[.agg #[.int .i64 L, .int .i64 A], .agg #[.int .i64 K, .int .i64 S, .int .i64 T], .int .i64 d] w fun e w' => e = .returned (.tuple #[.agg #[.int .i64 K, .int .i64 S, .int .i64 T], .int .i64 c]) ∧ Below w.heap.size w w' := by
  go_enter Try.func21, Try.ntmps21
  go_wp2_with (go_at_call 15; refine (rcheck_any _ _ _ _ _ _).mono ?_; rintro e w1 ⟨rfl, hbw1⟩; have zw1 := hbw1.size; (try simp at zw1); have pw1a0 := bc1 (b := w.heap.size) (o := 0) (v := .int .i64 L) hbw1 (by simp [go_sem]); have pw1a1 := bc1 (b := w.heap.size) (o := 1) (v := .int .i64 A) hbw1 (by simp [go_sem]); have pw1b0 := bc1 (b := w.heap.size + 1) (o := 0) (v := .int .i64 K) hbw1 (by simp [go_sem]); have qw1b0 := bf1 (b := w.heap.size + 1) (o := 0) (v := .int .i64 K) hbw1 (by simp [go_sem]) (by simp [go_sem]); have pw1b1 := bc1 (b := w.heap.size + 1) (o := 1) (v := .int .i64 S) hbw1 (by simp [go_sem]); have qw1b1 := bf1 (b := w.heap.size + 1) (o := 1) (v := .int .i64 S) hbw1 (by simp [go_sem]) (by simp [go_sem]); have pw1b2 := bc1 (b := w.heap.size + 1) (o := 2) (v := .int .i64 T) hbw1 (by simp [go_sem]); have qw1b2 := bf1 (b := w.heap.size + 1) (o := 2) (v := .int .i64 T) hbw1 (by simp [go_sem]) (by simp [go_sem]); have pw1r0 := bc1 (b := w.heap.size + 1 + 1) (o := 0) (v := .int .i64 0) hbw1 (by simp [go_sem]); have qw1r0 := bf1 (b := w.heap.size + 1 + 1) (o := 0) (v := .int .i64 0) hbw1 (by simp [go_sem]) (by simp [go_sem]); have pw1r1 := bc1 (b := w.heap.size + 1 + 1) (o := 1) (v := .int .i64 0) hbw1 (by simp [go_sem]); have qw1r1 := bf1 (b := w.heap.size + 1 + 1) (o := 1) (v := .int .i64 0) hbw1 (by simp [go_sem]) (by simp [go_sem]); have pw1r2 := bc1 (b := w.heap.size + 1 + 1) (o := 2) (v := .int .i64 0) hbw1 (by simp [go_sem]); have qw1r2 := bf1 (b := w.heap.size + 1 + 1) (o := 2) (v := .int .i64 0) hbw1 (by simp [go_sem]) (by simp [go_sem]); have yw1a0 : w.heap.size < w1.heap.size := World.block_lt_of_cell? w1 _ pw1a0; have yw1b0 : w.heap.size + 1 < w1.heap.size := World.block_lt_of_cell? w1 _ pw1b0; have yw1r0 : w.heap.size + 1 + 1 < w1.heap.size := World.block_lt_of_cell? w1 _ pw1r0)
  exact bodyPost_ret (v := .tuple #[.agg #[.int .i64 K, .int .i64 S, .int .i64 T], .int .i64 c]) (by simp [results, Try.results21, go_sem, *]) rfl ⟨rfl, by (repeat (with_reducible first | (refine bst ?_ _ _ _ (by omega)) | refine bal ?_ _ | refine bdr ?_ | exact Below.refl _ _ | refine btr ?_ hbw1))⟩

set_option maxHeartbeats 1000000 in
theorem rlodge_state (L A K S T d : Int) (w : World) (hG : Good L A K S T) (hf : (S != 1) = true) :
    Calls Try.prog 21 #[.agg #[.int .i64 L, .int .i64 A], .agg #[.int .i64 K, .int .i64 S, .int .i64 T], .int .i64 d] w fun e w' => e = .returned (.tuple #[.agg #[.int .i64 K, .int .i64 S, .int .i64 T], .int .i64 61]) ∧ Below w.heap.size w w' := by
  have hk := chk_ok hG
  have hG' := Lib.hid hG
  have lim := good_lim hG
  clear hG
  go_enter Try.func21, Try.ntmps21
  go_wp2_with (go_at_call 15; refine (rcheck_any _ _ _ _ _ _).mono ?_; rintro e w1 ⟨rfl, hbw1⟩; have zw1 := hbw1.size; (try simp at zw1); have pw1a0 := bc1 (b := w.heap.size) (o := 0) (v := .int .i64 L) hbw1 (by simp [go_sem]); have pw1a1 := bc1 (b := w.heap.size) (o := 1) (v := .int .i64 A) hbw1 (by simp [go_sem]); have pw1b0 := bc1 (b := w.heap.size + 1) (o := 0) (v := .int .i64 K) hbw1 (by simp [go_sem]); have qw1b0 := bf1 (b := w.heap.size + 1) (o := 0) (v := .int .i64 K) hbw1 (by simp [go_sem]) (by simp [go_sem]); have pw1b1 := bc1 (b := w.heap.size + 1) (o := 1) (v := .int .i64 S) hbw1 (by simp [go_sem]); have qw1b1 := bf1 (b := w.heap.size + 1) (o := 1) (v := .int .i64 S) hbw1 (by simp [go_sem]) (by simp [go_sem]); have pw1b2 := bc1 (b := w.heap.size + 1) (o := 2) (v := .int .i64 T) hbw1 (by simp [go_sem]); have qw1b2 := bf1 (b := w.heap.size + 1) (o := 2) (v := .int .i64 T) hbw1 (by simp [go_sem]) (by simp [go_sem]); have pw1r0 := bc1 (b := w.heap.size + 1 + 1) (o := 0) (v := .int .i64 0) hbw1 (by simp [go_sem]); have qw1r0 := bf1 (b := w.heap.size + 1 + 1) (o := 0) (v := .int .i64 0) hbw1 (by simp [go_sem]) (by simp [go_sem]); have pw1r1 := bc1 (b := w.heap.size + 1 + 1) (o := 1) (v := .int .i64 0) hbw1 (by simp [go_sem]); have qw1r1 := bf1 (b := w.heap.size + 1 + 1) (o := 1) (v := .int .i64 0) hbw1 (by simp [go_sem]) (by simp [go_sem]); have pw1r2 := bc1 (b := w.heap.size + 1 + 1) (o := 2) (v := .int .i64 0) hbw1 (by simp [go_sem]); have qw1r2 := bf1 (b := w.heap.size + 1 + 1) (o := 2) (v := .int .i64 0) hbw1 (by simp [go_sem]) (by simp [go_sem]); have yw1a0 : w.heap.size < w1.heap.size := World.block_lt_of_cell? w1 _ pw1a0; have yw1b0 : w.heap.size + 1 < w1.heap.size := World.block_lt_of_cell? w1 _ pw1b0; have yw1r0 : w.heap.size + 1 + 1 < w1.heap.size := World.block_lt_of_cell? w1 _ pw1r0)
  exact bodyPost_ret (v := .tuple #[.agg #[.int .i64 K, .int .i64 S, .int .i64 T], .int .i64 61]) (by simp [results, Try.results21, go_sem, *]) rfl ⟨rfl, by (repeat (with_reducible first | (refine bst ?_ _ _ _ (by omega)) | refine bal ?_ _ | refine bdr ?_ | exact Below.refl _ _ | refine btr ?_ hbw1))⟩

set_option maxHeartbeats 1000000 in
theorem rlodge_day1 (L A K S T d : Int) (w : World) (hG : Good L A K S T) (hf : (S != 1) = false) (h1 : d < T) :
    Calls Try.prog 21 #[.agg #[.int .i64 L, .int .i64 A], .agg #[.int .i64 K, .int .i64 S, .int .i64 T], .int .i64 d] w fun e w' => e = .returned (.tuple #[.agg #[.int .i64 K, .int .i64 S, .int .i64 T], .int .i64 9]) ∧ Below w.heap.size w w' := by
  have hk := chk_ok hG
  have hG' := Lib.hid hG
  have lim := good_lim hG
  clear hG
  go_enter Try.func21, Try.ntmps21
  go_wp2_with (go_at_call 15; refine (rcheck_any _ _ _ _ _ _).mono ?_; rintro e w1 ⟨rfl, hbw1⟩; have zw1 := hbw1.size; (try simp at zw1); have pw1a0 := bc1 (b := w.heap.size) (o := 0) (v := .int .i64 L) hbw1 (by simp [go_sem]); have pw1a1 := bc1 (b := w.heap.size) (o := 1) (v := .int .i64 A) hbw1 (by simp [go_sem]); have pw1b0 := bc1 (b := w.heap.size + 1) (o := 0) (v := .int .i64 K) hbw1 (by simp [go_sem]); have qw1b0 := bf1 (b := w.heap.size + 1) (o := 0) (v := .int .i64 K) hbw1 (by simp [go_sem]) (by simp [go_sem]); have pw1b1 := bc1 (b := w.heap.size + 1) (o := 1) (v := .int .i64 S) hbw1 (by simp [go_sem]); have qw1b1 := bf1 (b := w.heap.size + 1) (o := 1) (v := .int .i64 S) hbw1 (by simp [go_sem]) (by simp [go_sem]); have pw1b2 := bc1 (b := w.heap.size + 1) (o := 2) (v := .int .i64 T) hbw1 (by simp [go_sem]); have qw1b2 := bf1 (b := w.heap.size + 1) (o := 2) (v := .int .i64 T) hbw1 (by simp [go_sem]) (by simp [go_sem]); have pw1r0 := bc1 (b := w.heap.size + 1 + 1) (o := 0) (v := .int .i64 0) hbw1 (by simp [go_sem]); have qw1r0 := bf1 (b := w.heap.size + 1 + 1) (o := 0) (v := .int .i64 0) hbw1 (by simp [go_sem]) (by simp [go_sem]); have pw1r1 := bc1 (b := w.heap.size + 1 + 1) (o := 1) (v := .int .i64 0) hbw1 (by simp [go_sem]); have qw1r1 := bf1 (b := w.heap.size + 1 + 1) (o := 1) (v := .int .i64 0) hbw1 (by simp [go_sem]) (by simp [go_sem]); have pw1r2 := bc1 (b := w.heap.size + 1 + 1) (o := 2) (v := .int .i64 0) hbw1 (by simp [go_sem]); have qw1r2 := bf1 (b := w.heap.size + 1 + 1) (o := 2) (v := .int .i64 0) hbw1 (by simp [go_sem]) (by simp [go_sem]); have yw1a0 : w.heap.size < w1.heap.size := World.block_lt_of_cell? w1 _ pw1a0; have yw1b0 : w.heap.size + 1 < w1.heap.size := World.block_lt_of_cell? w1 _ pw1b0; have yw1r0 : w.heap.size + 1 + 1 < w1.heap.size := World.block_lt_of_cell? w1 _ pw1r0)
  exact bodyPost_ret (v := .tuple #[.agg #[.int .i64 K, .int .i64 S, .int .i64 T], .int .i64 9]) (by simp [results, Try.results21, go_sem, *]) rfl ⟨rfl, by (repeat (with_reducible first | (refine bst ?_ _ _ _ (by omega)) | refine bal ?_ _ | refine bdr ?_ | exact Below.refl _ _ | refine btr ?_ hbw1))⟩

set_option maxHeartbeats 1000000 in
theorem rlodge_day2 (L A K S T d : Int) (w : World) (hG : Good L A K S T) (hf : (S != 1) = false) (h1 : 36864 < d) (h2 : T ≤ d) :
    Calls Try.prog 21 #[.agg #[.int .i64 L, .int .i64 A], .agg #[.int .i64 K, .int .i64 S, .int .i64 T], .int .i64 d] w fun e w' => e = .returned (.tuple #[.agg #[.int .i64 K, .int .i64 S, .int .i64 T], .int .i64 9]) ∧ Below w.heap.size w w' := by
  have hk := chk_ok hG
  have hG' := Lib.hid hG
  have lim := good_lim hG
  clear hG
  go_enter Try.func21, Try.ntmps21
  go_wp2_with (go_at_call 15; refine (rcheck_any _ _ _ _ _ _).mono ?_; rintro e w1 ⟨rfl, hbw1⟩; have zw1 := hbw1.size; (try simp at zw1); have pw1a0 := bc1 (b := w.heap.size) (o := 0) (v := .int .i64 L) hbw1 (by simp [go_sem]); have pw1a1 := bc1 (b := w.heap.size) (o := 1) (v := .int .i64 A) hbw1 (by simp [go_sem]); have pw1b0 := bc1 (b := w.heap.size + 1) (o := 0) (v := .int .i64 K) hbw1 (by simp [go_sem]); have qw1b0 := bf1 (b := w.heap.size + 1) (o := 0) (v := .int .i64 K) hbw1 (by simp [go_sem]) (by simp [go_sem]); have pw1b1 := bc1 (b := w.heap.size + 1) (o := 1) (v := .int .i64 S) hbw1 (by simp [go_sem]); have qw1b1 := bf1 (b := w.heap.size + 1) (o := 1) (v := .int .i64 S) hbw1 (by simp [go_sem]) (by simp [go_sem]); have pw1b2 := bc1 (b := w.heap.size + 1) (o := 2) (v := .int .i64 T) hbw1 (by simp [go_sem]); have qw1b2 := bf1 (b := w.heap.size + 1) (o := 2) (v := .int .i64 T) hbw1 (by simp [go_sem]) (by simp [go_sem]); have pw1r0 := bc1 (b := w.heap.size + 1 + 1) (o := 0) (v := .int .i64 0) hbw1 (by simp [go_sem]); have qw1r0 := bf1 (b := w.heap.size + 1 + 1) (o := 0) (v := .int .i64 0) hbw1 (by simp [go_sem]) (by simp [go_sem]); have pw1r1 := bc1 (b := w.heap.size + 1 + 1) (o := 1) (v := .int .i64 0) hbw1 (by simp [go_sem]); have qw1r1 := bf1 (b := w.heap.size + 1 + 1) (o := 1) (v := .int .i64 0) hbw1 (by simp [go_sem]) (by simp [go_sem]); have pw1r2 := bc1 (b := w.heap.size + 1 + 1) (o := 2) (v := .int .i64 0) hbw1 (by simp [go_sem]); have qw1r2 := bf1 (b := w.heap.size + 1 + 1) (o := 2) (v := .int .i64 0) hbw1 (by simp [go_sem]) (by simp [go_sem]); have yw1a0 : w.heap.size < w1.heap.size := World.block_lt_of_cell? w1 _ pw1a0; have yw1b0 : w.heap.size + 1 < w1.heap.size := World.block_lt_of_cell? w1 _ pw1b0; have yw1r0 : w.heap.size + 1 + 1 < w1.heap.size := World.block_lt_of_cell? w1 _ pw1r0)
  exact bodyPost_ret (v := .tuple #[.agg #[.int .i64 K, .int .i64 S, .int .i64 T], .int .i64 9]) (by simp [results, Try.results21, go_sem, *]) rfl ⟨rfl, by (repeat (with_reducible first | (refine bst ?_ _ _ _ (by omega)) | refine bal ?_ _ | refine bdr ?_ | exact Below.refl _ _ | refine btr ?_ hbw1))⟩

set_option maxHeartbeats 1000000 in
theorem rlodge_late (L A K S T d : Int) (w : World) (hG : Good L A K S T) (hf : (S != 1) = false) (h1 : T ≤ d) (h2 : d ≤ 36864) (h3 : K + L < d) :
    Calls Try.prog 21 #[.agg #[.int .i64 L, .int .i64 A], .agg #[.int .i64 K, .int .i64 S, .int .i64 T], .int .i64 d] w fun e w' => e = .returned (.tuple #[.agg #[.int .i64 K, .int .i64 S, .int .i64 T], .int .i64 21]) ∧ Below w.heap.size w w' := by
  have hk := chk_ok hG
  have hG' := Lib.hid hG
  have lim := good_lim hG
  clear hG
  obtain ⟨l1, l2, l3, l4, d1, d2, d3, d4⟩ := lim
  go_enter Try.func21, Try.ntmps21
  go_wp2_with (go_at_call 15; refine (rcheck_any _ _ _ _ _ _).mono ?_; rintro e w1 ⟨rfl, hbw1⟩; have zw1 := hbw1.size; (try simp at zw1); have pw1a0 := bc1 (b := w.heap.size) (o := 0) (v := .int .i64 L) hbw1 (by simp [go_sem]); have pw1a1 := bc1 (b := w.heap.size) (o := 1) (v := .int .i64 A) hbw1 (by simp [go_sem]); have pw1b0 := bc1 (b := w.heap.size + 1) (o := 0) (v := .int .i64 K) hbw1 (by simp [go_sem]); have qw1b0 := bf1 (b := w.heap.size + 1) (o := 0) (v := .int .i64 K) hbw1 (by simp [go_sem]) (by simp [go_sem]); have pw1b1 := bc1 (b := w.heap.size + 1) (o := 1) (v := .int .i64 S) hbw1 (by simp [go_sem]); have qw1b1 := bf1 (b := w.heap.size + 1) (o := 1) (v := .int .i64 S) hbw1 (by simp [go_sem]) (by simp [go_sem]); have pw1b2 := bc1 (b := w.heap.size + 1) (o := 2) (v := .int .i64 T) hbw1 (by simp [go_sem]); have qw1b2 := bf1 (b := w.heap.size + 1) (o := 2) (v := .int .i64 T) hbw1 (by simp [go_sem]) (by simp [go_sem]); have pw1r0 := bc1 (b := w.heap.size + 1 + 1) (o := 0) (v := .int .i64 0) hbw1 (by simp [go_sem]); have qw1r0 := bf1 (b := w.heap.size + 1 + 1) (o := 0) (v := .int .i64 0) hbw1 (by simp [go_sem]) (by simp [go_sem]); have pw1r1 := bc1 (b := w.heap.size + 1 + 1) (o := 1) (v := .int .i64 0) hbw1 (by simp [go_sem]); have qw1r1 := bf1 (b := w.heap.size + 1 + 1) (o := 1) (v := .int .i64 0) hbw1 (by simp [go_sem]) (by simp [go_sem]); have pw1r2 := bc1 (b := w.heap.size + 1 + 1) (o := 2) (v := .int .i64 0) hbw1 (by simp [go_sem]); have qw1r2 := bf1 (b := w.heap.size + 1 + 1) (o := 2) (v := .int .i64 0) hbw1 (by simp [go_sem]) (by simp [go_sem]); have yw1a0 : w.heap.size < w1.heap.size := World.block_lt_of_cell? w1 _ pw1a0; have yw1b0 : w.heap.size + 1 < w1.heap.size := World.block_lt_of_cell? w1 _ pw1b0; have yw1r0 : w.heap.size + 1 + 1 < w1.heap.size := World.block_lt_of_cell? w1 _ pw1r0)
  exact bodyPost_ret (v := .tuple #[.agg #[.int .i64 K, .int .i64 S, .int .i64 T], .int .i64 21]) (by simp [results, Try.results21, go_sem, *]) rfl ⟨rfl, by (repeat (with_reducible first | (refine bst ?_ _ _ _ (by omega)) | refine bal ?_ _ | refine bdr ?_ | exact Below.refl _ _ | refine btr ?_ hbw1))⟩

set_option maxHeartbeats 1000000 in
theorem rlodge_ok (L A K S T d : Int) (w : World) (hG : Good L A K S T) (hf : (S != 1) = false) (h1 : T ≤ d) (h2 : d ≤ 36864) (h3 : d ≤ K + L) :
    Calls Try.prog 21 #[.agg #[.int .i64 L, .int .i64 A], .agg #[.int .i64 K, .int .i64 S, .int .i64 T], .int .i64 d] w fun e w' => e = .returned (.tuple #[.agg #[.int .i64 K, .int .i64 2, .int .i64 d], .int .i64 0]) ∧ Below w.heap.size w w' := by
  have hk := chk_ok hG
  have hG' := Lib.hid hG
  have lim := good_lim hG
  clear hG
  obtain ⟨l1, l2, l3, l4, d1, d2, d3, d4⟩ := lim
  go_enter Try.func21, Try.ntmps21
  go_wp2_with (go_at_call 15; refine (rcheck_any _ _ _ _ _ _).mono ?_; rintro e w1 ⟨rfl, hbw1⟩; have zw1 := hbw1.size; (try simp at zw1); have pw1a0 := bc1 (b := w.heap.size) (o := 0) (v := .int .i64 L) hbw1 (by simp [go_sem]); have pw1a1 := bc1 (b := w.heap.size) (o := 1) (v := .int .i64 A) hbw1 (by simp [go_sem]); have pw1b0 := bc1 (b := w.heap.size + 1) (o := 0) (v := .int .i64 K) hbw1 (by simp [go_sem]); have qw1b0 := bf1 (b := w.heap.size + 1) (o := 0) (v := .int .i64 K) hbw1 (by simp [go_sem]) (by simp [go_sem]); have pw1b1 := bc1 (b := w.heap.size + 1) (o := 1) (v := .int .i64 S) hbw1 (by simp [go_sem]); have qw1b1 := bf1 (b := w.heap.size + 1) (o := 1) (v := .int .i64 S) hbw1 (by simp [go_sem]) (by simp [go_sem]); have pw1b2 := bc1 (b := w.heap.size + 1) (o := 2) (v := .int .i64 T) hbw1 (by simp [go_sem]); have qw1b2 := bf1 (b := w.heap.size + 1) (o := 2) (v := .int .i64 T) hbw1 (by simp [go_sem]) (by simp [go_sem]); have pw1r0 := bc1 (b := w.heap.size + 1 + 1) (o := 0) (v := .int .i64 0) hbw1 (by simp [go_sem]); have qw1r0 := bf1 (b := w.heap.size + 1 + 1) (o := 0) (v := .int .i64 0) hbw1 (by simp [go_sem]) (by simp [go_sem]); have pw1r1 := bc1 (b := w.heap.size + 1 + 1) (o := 1) (v := .int .i64 0) hbw1 (by simp [go_sem]); have qw1r1 := bf1 (b := w.heap.size + 1 + 1) (o := 1) (v := .int .i64 0) hbw1 (by simp [go_sem]) (by simp [go_sem]); have pw1r2 := bc1 (b := w.heap.size + 1 + 1) (o := 2) (v := .int .i64 0) hbw1 (by simp [go_sem]); have qw1r2 := bf1 (b := w.heap.size + 1 + 1) (o := 2) (v := .int .i64 0) hbw1 (by simp [go_sem]) (by simp [go_sem]); have yw1a0 : w.heap.size < w1.heap.size := World.block_lt_of_cell? w1 _ pw1a0; have yw1b0 : w.heap.size + 1 < w1.heap.size := World.block_lt_of_cell? w1 _ pw1b0; have yw1r0 : w.heap.size + 1 + 1 < w1.heap.size := World.block_lt_of_cell? w1 _ pw1r0)
  exact bodyPost_ret (v := .tuple #[.agg #[.int .i64 K, .int .i64 2, .int .i64 d], .int .i64 0]) (by simp [results, Try.results21, go_sem, *]) rfl ⟨rfl, by (repeat (with_reducible first | (refine bst ?_ _ _ _ (by omega)) | refine bal ?_ _ | refine bdr ?_ | exact Below.refl _ _ | refine btr ?_ hbw1))⟩

theorem rlodge_any (L A K S T d : Int) (w : World) :
    Calls Try.prog 21 #[.agg #[.int .i64 L, .int .i64 A], .agg #[.int .i64 K, .int .i64 S, .int .i64 T], .int .i64 d] w fun e w' => e = .returned (.tuple #[.agg #[.int .i64 (moveR L A K S T 1 2 d).k, .int .i64 (moveR L A K S T 1 2 d).s, .int .i64 (moveR L A K S T 1 2 d).t], .int .i64 (moveR L A K S T 1 2 d).e]) ∧ Below w.heap.size w w' := by
  generalize hR : moveR L A K S T 1 2 d = R
  unfold moveR at hR
  by_cases hG : Good L A K S T
  · rw [if_pos hG] at hR
    by_cases hs : S = 1
    · rw [if_neg (by omega)] at hR
      have hf : (S != 1) = false := by simpa using hs
      have hd : dueI L A K S T = K + L := by simp [dueI, hs]
      rw [hd] at hR
      by_cases h1 : d < T
      · rw [if_pos (.inl h1)] at hR; subst hR; exact rlodge_day1 _ _ _ _ _ _ w hG hf h1
      · by_cases h2 : 36864 < d
        · rw [if_pos (.inr h2)] at hR; subst hR; exact rlodge_day2 _ _ _ _ _ _ w hG hf h2 (by omega)
        · rw [if_neg (by omega)] at hR
          by_cases h3 : K + L < d
          · rw [if_pos h3] at hR; subst hR; exact rlodge_late _ _ _ _ _ _ w hG hf (by omega) (by omega) h3
          · rw [if_neg h3] at hR; subst hR
            exact rlodge_ok _ _ _ _ _ _ w hG hf (by omega) (by omega) (by omega)
    · rw [if_pos hs] at hR; subst hR; exact rlodge_state _ _ _ _ _ _ w hG (by simpa using hs)
  · rw [if_neg hG] at hR; subst hR; exact rlodge_bad _ _ _ _ _ _ w _ rfl (by simpa using chk_ne hG)

set_option maxHeartbeats 1000000 in
theorem rdecide_bad (L A K S T d : Int) (b : Bool) (w : World) (c : Int) (hk : chkE L A K S T = c) (hc : (c != 0) = true) :
    Calls Try.prog 23 #[.agg #[.int .i64 L, .int .i64 A], .agg #[.int .i64 K, .int .i64 S, .int .i64 T], .int .i64 d, .bool b] w fun e w' => e = .returned (.tuple #[.agg #[.int .i64 K, .int .i64 S, .int .i64 T], .int .i64 c]) ∧ Below w.heap.size w w' := by
  go_enter Try.func23, Try.ntmps23
  go_wp2_with (go_at_call 15; refine (rcheck_any _ _ _ _ _ _).mono ?_; rintro e w1 ⟨rfl, hbw1⟩; have zw1 := hbw1.size; (try simp at zw1); have pw1a0 := bc1 (b := w.heap.size) (o := 0) (v := .int .i64 L) hbw1 (by simp [go_sem]); have pw1a1 := bc1 (b := w.heap.size) (o := 1) (v := .int .i64 A) hbw1 (by simp [go_sem]); have pw1b0 := bc1 (b := w.heap.size + 1) (o := 0) (v := .int .i64 K) hbw1 (by simp [go_sem]); have qw1b0 := bf1 (b := w.heap.size + 1) (o := 0) (v := .int .i64 K) hbw1 (by simp [go_sem]) (by simp [go_sem]); have pw1b1 := bc1 (b := w.heap.size + 1) (o := 1) (v := .int .i64 S) hbw1 (by simp [go_sem]); have qw1b1 := bf1 (b := w.heap.size + 1) (o := 1) (v := .int .i64 S) hbw1 (by simp [go_sem]) (by simp [go_sem]); have pw1b2 := bc1 (b := w.heap.size + 1) (o := 2) (v := .int .i64 T) hbw1 (by simp [go_sem]); have qw1b2 := bf1 (b := w.heap.size + 1) (o := 2) (v := .int .i64 T) hbw1 (by simp [go_sem]) (by simp [go_sem]); have pw1r0 := bc1 (b := w.heap.size + 1 + 1) (o := 0) (v := .int .i64 0) hbw1 (by simp [go_sem]); have qw1r0 := bf1 (b := w.heap.size + 1 + 1) (o := 0) (v := .int .i64 0) hbw1 (by simp [go_sem]) (by simp [go_sem]); have pw1r1 := bc1 (b := w.heap.size + 1 + 1) (o := 1) (v := .int .i64 0) hbw1 (by simp [go_sem]); have qw1r1 := bf1 (b := w.heap.size + 1 + 1) (o := 1) (v := .int .i64 0) hbw1 (by simp [go_sem]) (by simp [go_sem]); have pw1r2 := bc1 (b := w.heap.size + 1 + 1) (o := 2) (v := .int .i64 0) hbw1 (by simp [go_sem]); have qw1r2 := bf1 (b := w.heap.size + 1 + 1) (o := 2) (v := .int .i64 0) hbw1 (by simp [go_sem]) (by simp [go_sem]); have yw1a0 : w.heap.size < w1.heap.size := World.block_lt_of_cell? w1 _ pw1a0; have yw1b0 : w.heap.size + 1 < w1.heap.size := World.block_lt_of_cell? w1 _ pw1b0; have yw1r0 : w.heap.size + 1 + 1 < w1.heap.size := World.block_lt_of_cell? w1 _ pw1r0)
  exact bodyPost_ret (v := .tuple #[.agg #[.int .i64 K, .int .i64 S, .int .i64 T], .int .i64 c]) (by simp [results, Try.results23, go_sem, *]) rfl ⟨rfl, by (repeat (with_reducible first | (refine bst ?_ _ _ _ (by omega)) | refine bal ?_ _ | refine bdr ?_ | exact Below.refl _ _ | refine btr ?_ hbw1))⟩

set_option maxHeartbeats 1000000 in
theorem rdecide_state (L A K S T d : Int) (b : Bool) (w : World) (hG : Good L A K S T) (hf : (S != 2) = true) :
    Calls Try.prog 23 #[.agg #[.int .i64 L, .int .i64 A], .agg #[.int .i64 K, .int .i64 S, .int .i64 T], .int .i64 d, .bool b] w fun e w' => e = .returned (.tuple #[.agg #[.int .i64 K, .int .i64 S, .int .i64 T], .int .i64 61]) ∧ Below w.heap.size w w' := by
  have hk := chk_ok hG
  have hG' := Lib.hid hG
  have lim := good_lim hG
  clear hG
  go_enter Try.func23, Try.ntmps23
  go_wp2_with (go_at_call 15; refine (rcheck_any _ _ _ _ _ _).mono ?_; rintro e w1 ⟨rfl, hbw1⟩; have zw1 := hbw1.size; (try simp at zw1); have pw1a0 := bc1 (b := w.heap.size) (o := 0) (v := .int .i64 L) hbw1 (by simp [go_sem]); have pw1a1 := bc1 (b := w.heap.size) (o := 1) (v := .int .i64 A) hbw1 (by simp [go_sem]); have pw1b0 := bc1 (b := w.heap.size + 1) (o := 0) (v := .int .i64 K) hbw1 (by simp [go_sem]); have qw1b0 := bf1 (b := w.heap.size + 1) (o := 0) (v := .int .i64 K) hbw1 (by simp [go_sem]) (by simp [go_sem]); have pw1b1 := bc1 (b := w.heap.size + 1) (o := 1) (v := .int .i64 S) hbw1 (by simp [go_sem]); have qw1b1 := bf1 (b := w.heap.size + 1) (o := 1) (v := .int .i64 S) hbw1 (by simp [go_sem]) (by simp [go_sem]); have pw1b2 := bc1 (b := w.heap.size + 1) (o := 2) (v := .int .i64 T) hbw1 (by simp [go_sem]); have qw1b2 := bf1 (b := w.heap.size + 1) (o := 2) (v := .int .i64 T) hbw1 (by simp [go_sem]) (by simp [go_sem]); have pw1r0 := bc1 (b := w.heap.size + 1 + 1) (o := 0) (v := .int .i64 0) hbw1 (by simp [go_sem]); have qw1r0 := bf1 (b := w.heap.size + 1 + 1) (o := 0) (v := .int .i64 0) hbw1 (by simp [go_sem]) (by simp [go_sem]); have pw1r1 := bc1 (b := w.heap.size + 1 + 1) (o := 1) (v := .int .i64 0) hbw1 (by simp [go_sem]); have qw1r1 := bf1 (b := w.heap.size + 1 + 1) (o := 1) (v := .int .i64 0) hbw1 (by simp [go_sem]) (by simp [go_sem]); have pw1r2 := bc1 (b := w.heap.size + 1 + 1) (o := 2) (v := .int .i64 0) hbw1 (by simp [go_sem]); have qw1r2 := bf1 (b := w.heap.size + 1 + 1) (o := 2) (v := .int .i64 0) hbw1 (by simp [go_sem]) (by simp [go_sem]); have yw1a0 : w.heap.size < w1.heap.size := World.block_lt_of_cell? w1 _ pw1a0; have yw1b0 : w.heap.size + 1 < w1.heap.size := World.block_lt_of_cell? w1 _ pw1b0; have yw1r0 : w.heap.size + 1 + 1 < w1.heap.size := World.block_lt_of_cell? w1 _ pw1r0)
  exact bodyPost_ret (v := .tuple #[.agg #[.int .i64 K, .int .i64 S, .int .i64 T], .int .i64 61]) (by simp [results, Try.results23, go_sem, *]) rfl ⟨rfl, by (repeat (with_reducible first | (refine bst ?_ _ _ _ (by omega)) | refine bal ?_ _ | refine bdr ?_ | exact Below.refl _ _ | refine btr ?_ hbw1))⟩

set_option maxHeartbeats 1000000 in
theorem rdecide_day1 (L A K S T d : Int) (b : Bool) (w : World) (hG : Good L A K S T) (hf : (S != 2) = false) (h1 : d < T) :
    Calls Try.prog 23 #[.agg #[.int .i64 L, .int .i64 A], .agg #[.int .i64 K, .int .i64 S, .int .i64 T], .int .i64 d, .bool b] w fun e w' => e = .returned (.tuple #[.agg #[.int .i64 K, .int .i64 S, .int .i64 T], .int .i64 9]) ∧ Below w.heap.size w w' := by
  have hk := chk_ok hG
  have hG' := Lib.hid hG
  have lim := good_lim hG
  clear hG
  go_enter Try.func23, Try.ntmps23
  go_wp2_with (go_at_call 15; refine (rcheck_any _ _ _ _ _ _).mono ?_; rintro e w1 ⟨rfl, hbw1⟩; have zw1 := hbw1.size; (try simp at zw1); have pw1a0 := bc1 (b := w.heap.size) (o := 0) (v := .int .i64 L) hbw1 (by simp [go_sem]); have pw1a1 := bc1 (b := w.heap.size) (o := 1) (v := .int .i64 A) hbw1 (by simp [go_sem]); have pw1b0 := bc1 (b := w.heap.size + 1) (o := 0) (v := .int .i64 K) hbw1 (by simp [go_sem]); have qw1b0 := bf1 (b := w.heap.size + 1) (o := 0) (v := .int .i64 K) hbw1 (by simp [go_sem]) (by simp [go_sem]); have pw1b1 := bc1 (b := w.heap.size + 1) (o := 1) (v := .int .i64 S) hbw1 (by simp [go_sem]); have qw1b1 := bf1 (b := w.heap.size + 1) (o := 1) (v := .int .i64 S) hbw1 (by simp [go_sem]) (by simp [go_sem]); have pw1b2 := bc1 (b := w.heap.size + 1) (o := 2) (v := .int .i64 T) hbw1 (by simp [go_sem]); have qw1b2 := bf1 (b := w.heap.size + 1) (o := 2) (v := .int .i64 T) hbw1 (by simp [go_sem]) (by simp [go_sem]); have pw1r0 := bc1 (b := w.heap.size + 1 + 1) (o := 0) (v := .int .i64 0) hbw1 (by simp [go_sem]); have qw1r0 := bf1 (b := w.heap.size + 1 + 1) (o := 0) (v := .int .i64 0) hbw1 (by simp [go_sem]) (by simp [go_sem]); have pw1r1 := bc1 (b := w.heap.size + 1 + 1) (o := 1) (v := .int .i64 0) hbw1 (by simp [go_sem]); have qw1r1 := bf1 (b := w.heap.size + 1 + 1) (o := 1) (v := .int .i64 0) hbw1 (by simp [go_sem]) (by simp [go_sem]); have pw1r2 := bc1 (b := w.heap.size + 1 + 1) (o := 2) (v := .int .i64 0) hbw1 (by simp [go_sem]); have qw1r2 := bf1 (b := w.heap.size + 1 + 1) (o := 2) (v := .int .i64 0) hbw1 (by simp [go_sem]) (by simp [go_sem]); have yw1a0 : w.heap.size < w1.heap.size := World.block_lt_of_cell? w1 _ pw1a0; have yw1b0 : w.heap.size + 1 < w1.heap.size := World.block_lt_of_cell? w1 _ pw1b0; have yw1r0 : w.heap.size + 1 + 1 < w1.heap.size := World.block_lt_of_cell? w1 _ pw1r0)
  exact bodyPost_ret (v := .tuple #[.agg #[.int .i64 K, .int .i64 S, .int .i64 T], .int .i64 9]) (by simp [results, Try.results23, go_sem, *]) rfl ⟨rfl, by (repeat (with_reducible first | (refine bst ?_ _ _ _ (by omega)) | refine bal ?_ _ | refine bdr ?_ | exact Below.refl _ _ | refine btr ?_ hbw1))⟩

set_option maxHeartbeats 1000000 in
theorem rdecide_day2 (L A K S T d : Int) (b : Bool) (w : World) (hG : Good L A K S T) (hf : (S != 2) = false) (h1 : 36864 < d) (h2 : T ≤ d) :
    Calls Try.prog 23 #[.agg #[.int .i64 L, .int .i64 A], .agg #[.int .i64 K, .int .i64 S, .int .i64 T], .int .i64 d, .bool b] w fun e w' => e = .returned (.tuple #[.agg #[.int .i64 K, .int .i64 S, .int .i64 T], .int .i64 9]) ∧ Below w.heap.size w w' := by
  have hk := chk_ok hG
  have hG' := Lib.hid hG
  have lim := good_lim hG
  clear hG
  go_enter Try.func23, Try.ntmps23
  go_wp2_with (go_at_call 15; refine (rcheck_any _ _ _ _ _ _).mono ?_; rintro e w1 ⟨rfl, hbw1⟩; have zw1 := hbw1.size; (try simp at zw1); have pw1a0 := bc1 (b := w.heap.size) (o := 0) (v := .int .i64 L) hbw1 (by simp [go_sem]); have pw1a1 := bc1 (b := w.heap.size) (o := 1) (v := .int .i64 A) hbw1 (by simp [go_sem]); have pw1b0 := bc1 (b := w.heap.size + 1) (o := 0) (v := .int .i64 K) hbw1 (by simp [go_sem]); have qw1b0 := bf1 (b := w.heap.size + 1) (o := 0) (v := .int .i64 K) hbw1 (by simp [go_sem]) (by simp [go_sem]); have pw1b1 := bc1 (b := w.heap.size + 1) (o := 1) (v := .int .i64 S) hbw1 (by simp [go_sem]); have qw1b1 := bf1 (b := w.heap.size + 1) (o := 1) (v := .int .i64 S) hbw1 (by simp [go_sem]) (by simp [go_sem]); have pw1b2 := bc1 (b := w.heap.size + 1) (o := 2) (v := .int .i64 T) hbw1 (by simp [go_sem]); have qw1b2 := bf1 (b := w.heap.size + 1) (o := 2) (v := .int .i64 T) hbw1 (by simp [go_sem]) (by simp [go_sem]); have pw1r0 := bc1 (b := w.heap.size + 1 + 1) (o := 0) (v := .int .i64 0) hbw1 (by simp [go_sem]); have qw1r0 := bf1 (b := w.heap.size + 1 + 1) (o := 0) (v := .int .i64 0) hbw1 (by simp [go_sem]) (by simp [go_sem]); have pw1r1 := bc1 (b := w.heap.size + 1 + 1) (o := 1) (v := .int .i64 0) hbw1 (by simp [go_sem]); have qw1r1 := bf1 (b := w.heap.size + 1 + 1) (o := 1) (v := .int .i64 0) hbw1 (by simp [go_sem]) (by simp [go_sem]); have pw1r2 := bc1 (b := w.heap.size + 1 + 1) (o := 2) (v := .int .i64 0) hbw1 (by simp [go_sem]); have qw1r2 := bf1 (b := w.heap.size + 1 + 1) (o := 2) (v := .int .i64 0) hbw1 (by simp [go_sem]) (by simp [go_sem]); have yw1a0 : w.heap.size < w1.heap.size := World.block_lt_of_cell? w1 _ pw1a0; have yw1b0 : w.heap.size + 1 < w1.heap.size := World.block_lt_of_cell? w1 _ pw1b0; have yw1r0 : w.heap.size + 1 + 1 < w1.heap.size := World.block_lt_of_cell? w1 _ pw1r0)
  exact bodyPost_ret (v := .tuple #[.agg #[.int .i64 K, .int .i64 S, .int .i64 T], .int .i64 9]) (by simp [results, Try.results23, go_sem, *]) rfl ⟨rfl, by (repeat (with_reducible first | (refine bst ?_ _ _ _ (by omega)) | refine bal ?_ _ | refine bdr ?_ | exact Below.refl _ _ | refine btr ?_ hbw1))⟩

set_option maxHeartbeats 1000000 in
theorem rdecide_late (L A K S T d : Int) (b : Bool) (w : World) (hG : Good L A K S T) (hf : (S != 2) = false) (h1 : T ≤ d) (h2 : d ≤ 36864) (h3 : T + A < d) :
    Calls Try.prog 23 #[.agg #[.int .i64 L, .int .i64 A], .agg #[.int .i64 K, .int .i64 S, .int .i64 T], .int .i64 d, .bool b] w fun e w' => e = .returned (.tuple #[.agg #[.int .i64 K, .int .i64 S, .int .i64 T], .int .i64 21]) ∧ Below w.heap.size w w' := by
  have hk := chk_ok hG
  have hG' := Lib.hid hG
  have lim := good_lim hG
  clear hG
  obtain ⟨l1, l2, l3, l4, d1, d2, d3, d4⟩ := lim
  go_enter Try.func23, Try.ntmps23
  go_wp2_with (go_at_call 15; refine (rcheck_any _ _ _ _ _ _).mono ?_; rintro e w1 ⟨rfl, hbw1⟩; have zw1 := hbw1.size; (try simp at zw1); have pw1a0 := bc1 (b := w.heap.size) (o := 0) (v := .int .i64 L) hbw1 (by simp [go_sem]); have pw1a1 := bc1 (b := w.heap.size) (o := 1) (v := .int .i64 A) hbw1 (by simp [go_sem]); have pw1b0 := bc1 (b := w.heap.size + 1) (o := 0) (v := .int .i64 K) hbw1 (by simp [go_sem]); have qw1b0 := bf1 (b := w.heap.size + 1) (o := 0) (v := .int .i64 K) hbw1 (by simp [go_sem]) (by simp [go_sem]); have pw1b1 := bc1 (b := w.heap.size + 1) (o := 1) (v := .int .i64 S) hbw1 (by simp [go_sem]); have qw1b1 := bf1 (b := w.heap.size + 1) (o := 1) (v := .int .i64 S) hbw1 (by simp [go_sem]) (by simp [go_sem]); have pw1b2 := bc1 (b := w.heap.size + 1) (o := 2) (v := .int .i64 T) hbw1 (by simp [go_sem]); have qw1b2 := bf1 (b := w.heap.size + 1) (o := 2) (v := .int .i64 T) hbw1 (by simp [go_sem]) (by simp [go_sem]); have pw1r0 := bc1 (b := w.heap.size + 1 + 1) (o := 0) (v := .int .i64 0) hbw1 (by simp [go_sem]); have qw1r0 := bf1 (b := w.heap.size + 1 + 1) (o := 0) (v := .int .i64 0) hbw1 (by simp [go_sem]) (by simp [go_sem]); have pw1r1 := bc1 (b := w.heap.size + 1 + 1) (o := 1) (v := .int .i64 0) hbw1 (by simp [go_sem]); have qw1r1 := bf1 (b := w.heap.size + 1 + 1) (o := 1) (v := .int .i64 0) hbw1 (by simp [go_sem]) (by simp [go_sem]); have pw1r2 := bc1 (b := w.heap.size + 1 + 1) (o := 2) (v := .int .i64 0) hbw1 (by simp [go_sem]); have qw1r2 := bf1 (b := w.heap.size + 1 + 1) (o := 2) (v := .int .i64 0) hbw1 (by simp [go_sem]) (by simp [go_sem]); have yw1a0 : w.heap.size < w1.heap.size := World.block_lt_of_cell? w1 _ pw1a0; have yw1b0 : w.heap.size + 1 < w1.heap.size := World.block_lt_of_cell? w1 _ pw1b0; have yw1r0 : w.heap.size + 1 + 1 < w1.heap.size := World.block_lt_of_cell? w1 _ pw1r0)
  exact bodyPost_ret (v := .tuple #[.agg #[.int .i64 K, .int .i64 S, .int .i64 T], .int .i64 21]) (by simp [results, Try.results23, go_sem, *]) rfl ⟨rfl, by (repeat (with_reducible first | (refine bst ?_ _ _ _ (by omega)) | refine bal ?_ _ | refine bdr ?_ | exact Below.refl _ _ | refine btr ?_ hbw1))⟩

set_option maxHeartbeats 1000000 in
theorem rdecide_ok3 (L A K S T d : Int) (b : Bool) (w : World) (hG : Good L A K S T) (hf : (S != 2) = false) (h1 : T ≤ d) (h2 : d ≤ 36864) (h3 : d ≤ T + A) (hb : b = false) :
    Calls Try.prog 23 #[.agg #[.int .i64 L, .int .i64 A], .agg #[.int .i64 K, .int .i64 S, .int .i64 T], .int .i64 d, .bool b] w fun e w' => e = .returned (.tuple #[.agg #[.int .i64 K, .int .i64 3, .int .i64 d], .int .i64 0]) ∧ Below w.heap.size w w' := by
  have hk := chk_ok hG
  have hG' := Lib.hid hG
  have lim := good_lim hG
  clear hG
  obtain ⟨l1, l2, l3, l4, d1, d2, d3, d4⟩ := lim
  subst hb
  go_enter Try.func23, Try.ntmps23
  go_wp2_with (go_at_call 15; refine (rcheck_any _ _ _ _ _ _).mono ?_; rintro e w1 ⟨rfl, hbw1⟩; have zw1 := hbw1.size; (try simp at zw1); have pw1a0 := bc1 (b := w.heap.size) (o := 0) (v := .int .i64 L) hbw1 (by simp [go_sem]); have pw1a1 := bc1 (b := w.heap.size) (o := 1) (v := .int .i64 A) hbw1 (by simp [go_sem]); have pw1b0 := bc1 (b := w.heap.size + 1) (o := 0) (v := .int .i64 K) hbw1 (by simp [go_sem]); have qw1b0 := bf1 (b := w.heap.size + 1) (o := 0) (v := .int .i64 K) hbw1 (by simp [go_sem]) (by simp [go_sem]); have pw1b1 := bc1 (b := w.heap.size + 1) (o := 1) (v := .int .i64 S) hbw1 (by simp [go_sem]); have qw1b1 := bf1 (b := w.heap.size + 1) (o := 1) (v := .int .i64 S) hbw1 (by simp [go_sem]) (by simp [go_sem]); have pw1b2 := bc1 (b := w.heap.size + 1) (o := 2) (v := .int .i64 T) hbw1 (by simp [go_sem]); have qw1b2 := bf1 (b := w.heap.size + 1) (o := 2) (v := .int .i64 T) hbw1 (by simp [go_sem]) (by simp [go_sem]); have pw1r0 := bc1 (b := w.heap.size + 1 + 1) (o := 0) (v := .int .i64 0) hbw1 (by simp [go_sem]); have qw1r0 := bf1 (b := w.heap.size + 1 + 1) (o := 0) (v := .int .i64 0) hbw1 (by simp [go_sem]) (by simp [go_sem]); have pw1r1 := bc1 (b := w.heap.size + 1 + 1) (o := 1) (v := .int .i64 0) hbw1 (by simp [go_sem]); have qw1r1 := bf1 (b := w.heap.size + 1 + 1) (o := 1) (v := .int .i64 0) hbw1 (by simp [go_sem]) (by simp [go_sem]); have pw1r2 := bc1 (b := w.heap.size + 1 + 1) (o := 2) (v := .int .i64 0) hbw1 (by simp [go_sem]); have qw1r2 := bf1 (b := w.heap.size + 1 + 1) (o := 2) (v := .int .i64 0) hbw1 (by simp [go_sem]) (by simp [go_sem]); have yw1a0 : w.heap.size < w1.heap.size := World.block_lt_of_cell? w1 _ pw1a0; have yw1b0 : w.heap.size + 1 < w1.heap.size := World.block_lt_of_cell? w1 _ pw1b0; have yw1r0 : w.heap.size + 1 + 1 < w1.heap.size := World.block_lt_of_cell? w1 _ pw1r0)
  exact bodyPost_ret (v := .tuple #[.agg #[.int .i64 K, .int .i64 3, .int .i64 d], .int .i64 0]) (by simp [results, Try.results23, go_sem, *]) rfl ⟨rfl, by (repeat (with_reducible first | (refine bst ?_ _ _ _ (by omega)) | refine bal ?_ _ | refine bdr ?_ | exact Below.refl _ _ | refine btr ?_ hbw1))⟩

set_option maxHeartbeats 1000000 in
theorem rdecide_ok4 (L A K S T d : Int) (b : Bool) (w : World) (hG : Good L A K S T) (hf : (S != 2) = false) (h1 : T ≤ d) (h2 : d ≤ 36864) (h3 : d ≤ T + A) (hb : b = true) :
    Calls Try.prog 23 #[.agg #[.int .i64 L, .int .i64 A], .agg #[.int .i64 K, .int .i64 S, .int .i64 T], .int .i64 d, .bool b] w fun e w' => e = .returned (.tuple #[.agg #[.int .i64 K, .int .i64 4, .int .i64 d], .int .i64 0]) ∧ Below w.heap.size w w' := by
  have hk := chk_ok hG
  have hG' := Lib.hid hG
  have lim := good_lim hG
  clear hG
  obtain ⟨l1, l2, l3, l4, d1, d2, d3, d4⟩ := lim
  subst hb
  go_enter Try.func23, Try.ntmps23
  go_wp2_with (go_at_call 15; refine (rcheck_any _ _ _ _ _ _).mono ?_; rintro e w1 ⟨rfl, hbw1⟩; have zw1 := hbw1.size; (try simp at zw1); have pw1a0 := bc1 (b := w.heap.size) (o := 0) (v := .int .i64 L) hbw1 (by simp [go_sem]); have pw1a1 := bc1 (b := w.heap.size) (o := 1) (v := .int .i64 A) hbw1 (by simp [go_sem]); have pw1b0 := bc1 (b := w.heap.size + 1) (o := 0) (v := .int .i64 K) hbw1 (by simp [go_sem]); have qw1b0 := bf1 (b := w.heap.size + 1) (o := 0) (v := .int .i64 K) hbw1 (by simp [go_sem]) (by simp [go_sem]); have pw1b1 := bc1 (b := w.heap.size + 1) (o := 1) (v := .int .i64 S) hbw1 (by simp [go_sem]); have qw1b1 := bf1 (b := w.heap.size + 1) (o := 1) (v := .int .i64 S) hbw1 (by simp [go_sem]) (by simp [go_sem]); have pw1b2 := bc1 (b := w.heap.size + 1) (o := 2) (v := .int .i64 T) hbw1 (by simp [go_sem]); have qw1b2 := bf1 (b := w.heap.size + 1) (o := 2) (v := .int .i64 T) hbw1 (by simp [go_sem]) (by simp [go_sem]); have pw1r0 := bc1 (b := w.heap.size + 1 + 1) (o := 0) (v := .int .i64 0) hbw1 (by simp [go_sem]); have qw1r0 := bf1 (b := w.heap.size + 1 + 1) (o := 0) (v := .int .i64 0) hbw1 (by simp [go_sem]) (by simp [go_sem]); have pw1r1 := bc1 (b := w.heap.size + 1 + 1) (o := 1) (v := .int .i64 0) hbw1 (by simp [go_sem]); have qw1r1 := bf1 (b := w.heap.size + 1 + 1) (o := 1) (v := .int .i64 0) hbw1 (by simp [go_sem]) (by simp [go_sem]); have pw1r2 := bc1 (b := w.heap.size + 1 + 1) (o := 2) (v := .int .i64 0) hbw1 (by simp [go_sem]); have qw1r2 := bf1 (b := w.heap.size + 1 + 1) (o := 2) (v := .int .i64 0) hbw1 (by simp [go_sem]) (by simp [go_sem]); have yw1a0 : w.heap.size < w1.heap.size := World.block_lt_of_cell? w1 _ pw1a0; have yw1b0 : w.heap.size + 1 < w1.heap.size := World.block_lt_of_cell? w1 _ pw1b0; have yw1r0 : w.heap.size + 1 + 1 < w1.heap.size := World.block_lt_of_cell? w1 _ pw1r0)
  exact bodyPost_ret (v := .tuple #[.agg #[.int .i64 K, .int .i64 4, .int .i64 d], .int .i64 0]) (by simp [results, Try.results23, go_sem, *]) rfl ⟨rfl, by (repeat (with_reducible first | (refine bst ?_ _ _ _ (by omega)) | refine bal ?_ _ | refine bdr ?_ | exact Below.refl _ _ | refine btr ?_ hbw1))⟩

theorem rdecide_any (L A K S T d : Int) (b : Bool) (w : World) :
    Calls Try.prog 23 #[.agg #[.int .i64 L, .int .i64 A], .agg #[.int .i64 K, .int .i64 S, .int .i64 T], .int .i64 d, .bool b] w fun e w' => e = .returned (.tuple #[.agg #[.int .i64 (moveR L A K S T 2 (if b then 4 else 3) d).k, .int .i64 (moveR L A K S T 2 (if b then 4 else 3) d).s, .int .i64 (moveR L A K S T 2 (if b then 4 else 3) d).t], .int .i64 (moveR L A K S T 2 (if b then 4 else 3) d).e]) ∧ Below w.heap.size w w' := by
  generalize hR : moveR L A K S T 2 (if b then 4 else 3) d = R
  unfold moveR at hR
  by_cases hG : Good L A K S T
  · rw [if_pos hG] at hR
    by_cases hs : S = 2
    · rw [if_neg (by omega)] at hR
      have hf : (S != 2) = false := by simpa using hs
      have hd : dueI L A K S T = T + A := by simp [dueI, hs]
      rw [hd] at hR
      by_cases h1 : d < T
      · rw [if_pos (.inl h1)] at hR; subst hR; exact rdecide_day1 _ _ _ _ _ _ _ w hG hf h1
      · by_cases h2 : 36864 < d
        · rw [if_pos (.inr h2)] at hR; subst hR; exact rdecide_day2 _ _ _ _ _ _ _ w hG hf h2 (by omega)
        · rw [if_neg (by omega)] at hR
          by_cases h3 : T + A < d
          · rw [if_pos h3] at hR; subst hR; exact rdecide_late _ _ _ _ _ _ _ w hG hf (by omega) (by omega) h3
          · rw [if_neg h3] at hR; subst hR
            cases hb : b
            · exact rdecide_ok3 _ _ _ _ _ _ _ w hG hf (by omega) (by omega) (by omega) rfl
            · exact rdecide_ok4 _ _ _ _ _ _ _ w hG hf (by omega) (by omega) (by omega) rfl
    · rw [if_pos hs] at hR; subst hR; exact rdecide_state _ _ _ _ _ _ _ w hG (by simpa using hs)
  · rw [if_neg hG] at hR; subst hR; exact rdecide_bad _ _ _ _ _ _ _ w _ rfl (by simpa using chk_ne hG)

set_option maxHeartbeats 1000000 in
theorem rtick_bad (L A K S T d : Int) (w : World) (c : Int) (hk : chkE L A K S T = c) (hc : (c != 0) = true) :
    Calls Try.prog 24 #[.agg #[.int .i64 L, .int .i64 A], .agg #[.int .i64 K, .int .i64 S, .int .i64 T], .int .i64 d] w fun e w' => e = .returned (.tuple #[.agg #[.int .i64 K, .int .i64 S, .int .i64 T], .int .i64 c]) ∧ Below w.heap.size w w' := by
  go_enter Try.func24, Try.ntmps24
  go_wp2_with (go_at_call 15; refine (rcheck_any _ _ _ _ _ _).mono ?_; rintro e w1 ⟨rfl, hbw1⟩; have zw1 := hbw1.size; (try simp at zw1); have pw1a0 := bc1 (b := w.heap.size) (o := 0) (v := .int .i64 L) hbw1 (by simp [go_sem]); have pw1a1 := bc1 (b := w.heap.size) (o := 1) (v := .int .i64 A) hbw1 (by simp [go_sem]); have pw1b0 := bc1 (b := w.heap.size + 1) (o := 0) (v := .int .i64 K) hbw1 (by simp [go_sem]); have qw1b0 := bf1 (b := w.heap.size + 1) (o := 0) (v := .int .i64 K) hbw1 (by simp [go_sem]) (by simp [go_sem]); have pw1b1 := bc1 (b := w.heap.size + 1) (o := 1) (v := .int .i64 S) hbw1 (by simp [go_sem]); have qw1b1 := bf1 (b := w.heap.size + 1) (o := 1) (v := .int .i64 S) hbw1 (by simp [go_sem]) (by simp [go_sem]); have pw1b2 := bc1 (b := w.heap.size + 1) (o := 2) (v := .int .i64 T) hbw1 (by simp [go_sem]); have qw1b2 := bf1 (b := w.heap.size + 1) (o := 2) (v := .int .i64 T) hbw1 (by simp [go_sem]) (by simp [go_sem]); have pw1r0 := bc1 (b := w.heap.size + 1 + 1) (o := 0) (v := .int .i64 0) hbw1 (by simp [go_sem]); have qw1r0 := bf1 (b := w.heap.size + 1 + 1) (o := 0) (v := .int .i64 0) hbw1 (by simp [go_sem]) (by simp [go_sem]); have pw1r1 := bc1 (b := w.heap.size + 1 + 1) (o := 1) (v := .int .i64 0) hbw1 (by simp [go_sem]); have qw1r1 := bf1 (b := w.heap.size + 1 + 1) (o := 1) (v := .int .i64 0) hbw1 (by simp [go_sem]) (by simp [go_sem]); have pw1r2 := bc1 (b := w.heap.size + 1 + 1) (o := 2) (v := .int .i64 0) hbw1 (by simp [go_sem]); have qw1r2 := bf1 (b := w.heap.size + 1 + 1) (o := 2) (v := .int .i64 0) hbw1 (by simp [go_sem]) (by simp [go_sem]); have yw1a0 : w.heap.size < w1.heap.size := World.block_lt_of_cell? w1 _ pw1a0; have yw1b0 : w.heap.size + 1 < w1.heap.size := World.block_lt_of_cell? w1 _ pw1b0; have yw1r0 : w.heap.size + 1 + 1 < w1.heap.size := World.block_lt_of_cell? w1 _ pw1r0)
  exact bodyPost_ret (v := .tuple #[.agg #[.int .i64 K, .int .i64 S, .int .i64 T], .int .i64 c]) (by simp [results, Try.results24, go_sem, *]) rfl ⟨rfl, by (repeat (with_reducible first | (refine bst ?_ _ _ _ (by omega)) | refine bal ?_ _ | refine bdr ?_ | exact Below.refl _ _ | refine btr ?_ hbw1))⟩

set_option maxHeartbeats 1000000 in
theorem rtick_day1 (L A K S T d : Int) (w : World) (hG : Good L A K S T) (h1 : d < T) :
    Calls Try.prog 24 #[.agg #[.int .i64 L, .int .i64 A], .agg #[.int .i64 K, .int .i64 S, .int .i64 T], .int .i64 d] w fun e w' => e = .returned (.tuple #[.agg #[.int .i64 K, .int .i64 S, .int .i64 T], .int .i64 9]) ∧ Below w.heap.size w w' := by
  have hk := chk_ok hG
  have hG' := Lib.hid hG
  have lim := good_lim hG
  clear hG
  go_enter Try.func24, Try.ntmps24
  go_wp2_with (go_at_call 15; refine (rcheck_any _ _ _ _ _ _).mono ?_; rintro e w1 ⟨rfl, hbw1⟩; have zw1 := hbw1.size; (try simp at zw1); have pw1a0 := bc1 (b := w.heap.size) (o := 0) (v := .int .i64 L) hbw1 (by simp [go_sem]); have pw1a1 := bc1 (b := w.heap.size) (o := 1) (v := .int .i64 A) hbw1 (by simp [go_sem]); have pw1b0 := bc1 (b := w.heap.size + 1) (o := 0) (v := .int .i64 K) hbw1 (by simp [go_sem]); have qw1b0 := bf1 (b := w.heap.size + 1) (o := 0) (v := .int .i64 K) hbw1 (by simp [go_sem]) (by simp [go_sem]); have pw1b1 := bc1 (b := w.heap.size + 1) (o := 1) (v := .int .i64 S) hbw1 (by simp [go_sem]); have qw1b1 := bf1 (b := w.heap.size + 1) (o := 1) (v := .int .i64 S) hbw1 (by simp [go_sem]) (by simp [go_sem]); have pw1b2 := bc1 (b := w.heap.size + 1) (o := 2) (v := .int .i64 T) hbw1 (by simp [go_sem]); have qw1b2 := bf1 (b := w.heap.size + 1) (o := 2) (v := .int .i64 T) hbw1 (by simp [go_sem]) (by simp [go_sem]); have pw1r0 := bc1 (b := w.heap.size + 1 + 1) (o := 0) (v := .int .i64 0) hbw1 (by simp [go_sem]); have qw1r0 := bf1 (b := w.heap.size + 1 + 1) (o := 0) (v := .int .i64 0) hbw1 (by simp [go_sem]) (by simp [go_sem]); have pw1r1 := bc1 (b := w.heap.size + 1 + 1) (o := 1) (v := .int .i64 0) hbw1 (by simp [go_sem]); have qw1r1 := bf1 (b := w.heap.size + 1 + 1) (o := 1) (v := .int .i64 0) hbw1 (by simp [go_sem]) (by simp [go_sem]); have pw1r2 := bc1 (b := w.heap.size + 1 + 1) (o := 2) (v := .int .i64 0) hbw1 (by simp [go_sem]); have qw1r2 := bf1 (b := w.heap.size + 1 + 1) (o := 2) (v := .int .i64 0) hbw1 (by simp [go_sem]) (by simp [go_sem]); have yw1a0 : w.heap.size < w1.heap.size := World.block_lt_of_cell? w1 _ pw1a0; have yw1b0 : w.heap.size + 1 < w1.heap.size := World.block_lt_of_cell? w1 _ pw1b0; have yw1r0 : w.heap.size + 1 + 1 < w1.heap.size := World.block_lt_of_cell? w1 _ pw1r0)
  exact bodyPost_ret (v := .tuple #[.agg #[.int .i64 K, .int .i64 S, .int .i64 T], .int .i64 9]) (by simp [results, Try.results24, go_sem, *]) rfl ⟨rfl, by (repeat (with_reducible first | (refine bst ?_ _ _ _ (by omega)) | refine bal ?_ _ | refine bdr ?_ | exact Below.refl _ _ | refine btr ?_ hbw1))⟩

set_option maxHeartbeats 1000000 in
theorem rtick_day2 (L A K S T d : Int) (w : World) (hG : Good L A K S T) (h1 : 36864 < d) (h2 : T ≤ d) :
    Calls Try.prog 24 #[.agg #[.int .i64 L, .int .i64 A], .agg #[.int .i64 K, .int .i64 S, .int .i64 T], .int .i64 d] w fun e w' => e = .returned (.tuple #[.agg #[.int .i64 K, .int .i64 S, .int .i64 T], .int .i64 9]) ∧ Below w.heap.size w w' := by
  have hk := chk_ok hG
  have hG' := Lib.hid hG
  have lim := good_lim hG
  clear hG
  go_enter Try.func24, Try.ntmps24
  go_wp2_with (go_at_call 15; refine (rcheck_any _ _ _ _ _ _).mono ?_; rintro e w1 ⟨rfl, hbw1⟩; have zw1 := hbw1.size; (try simp at zw1); have pw1a0 := bc1 (b := w.heap.size) (o := 0) (v := .int .i64 L) hbw1 (by simp [go_sem]); have pw1a1 := bc1 (b := w.heap.size) (o := 1) (v := .int .i64 A) hbw1 (by simp [go_sem]); have pw1b0 := bc1 (b := w.heap.size + 1) (o := 0) (v := .int .i64 K) hbw1 (by simp [go_sem]); have qw1b0 := bf1 (b := w.heap.size + 1) (o := 0) (v := .int .i64 K) hbw1 (by simp [go_sem]) (by simp [go_sem]); have pw1b1 := bc1 (b := w.heap.size + 1) (o := 1) (v := .int .i64 S) hbw1 (by simp [go_sem]); have qw1b1 := bf1 (b := w.heap.size + 1) (o := 1) (v := .int .i64 S) hbw1 (by simp [go_sem]) (by simp [go_sem]); have pw1b2 := bc1 (b := w.heap.size + 1) (o := 2) (v := .int .i64 T) hbw1 (by simp [go_sem]); have qw1b2 := bf1 (b := w.heap.size + 1) (o := 2) (v := .int .i64 T) hbw1 (by simp [go_sem]) (by simp [go_sem]); have pw1r0 := bc1 (b := w.heap.size + 1 + 1) (o := 0) (v := .int .i64 0) hbw1 (by simp [go_sem]); have qw1r0 := bf1 (b := w.heap.size + 1 + 1) (o := 0) (v := .int .i64 0) hbw1 (by simp [go_sem]) (by simp [go_sem]); have pw1r1 := bc1 (b := w.heap.size + 1 + 1) (o := 1) (v := .int .i64 0) hbw1 (by simp [go_sem]); have qw1r1 := bf1 (b := w.heap.size + 1 + 1) (o := 1) (v := .int .i64 0) hbw1 (by simp [go_sem]) (by simp [go_sem]); have pw1r2 := bc1 (b := w.heap.size + 1 + 1) (o := 2) (v := .int .i64 0) hbw1 (by simp [go_sem]); have qw1r2 := bf1 (b := w.heap.size + 1 + 1) (o := 2) (v := .int .i64 0) hbw1 (by simp [go_sem]) (by simp [go_sem]); have yw1a0 : w.heap.size < w1.heap.size := World.block_lt_of_cell? w1 _ pw1a0; have yw1b0 : w.heap.size + 1 < w1.heap.size := World.block_lt_of_cell? w1 _ pw1b0; have yw1r0 : w.heap.size + 1 + 1 < w1.heap.size := World.block_lt_of_cell? w1 _ pw1r0)
  exact bodyPost_ret (v := .tuple #[.agg #[.int .i64 K, .int .i64 S, .int .i64 T], .int .i64 9]) (by simp [results, Try.results24, go_sem, *]) rfl ⟨rfl, by (repeat (with_reducible first | (refine bst ?_ _ _ _ (by omega)) | refine bal ?_ _ | refine bdr ?_ | exact Below.refl _ _ | refine btr ?_ hbw1))⟩

set_option maxHeartbeats 1000000 in
theorem rtick_open (L A K S T d : Int) (w : World) (hG : Good L A K S T) (h1 : T ≤ d) (h2 : d ≤ 36864) (hs : (S == 1) = true) (h3 : K + L < d) :
    Calls Try.prog 24 #[.agg #[.int .i64 L, .int .i64 A], .agg #[.int .i64 K, .int .i64 S, .int .i64 T], .int .i64 d] w fun e w' => e = .returned (.tuple #[.agg #[.int .i64 K, .int .i64 5, .int .i64 (K + L + 1)], .int .i64 0]) ∧ Below w.heap.size w w' := by
  have hk := chk_ok hG
  have hG' := Lib.hid hG
  have lim := good_lim hG
  clear hG
  obtain ⟨l1, l2, l3, l4, d1, d2, d3, d4⟩ := lim
  go_enter Try.func24, Try.ntmps24
  go_wp2_with (go_at_call 15; refine (rcheck_any _ _ _ _ _ _).mono ?_; rintro e w1 ⟨rfl, hbw1⟩; have zw1 := hbw1.size; (try simp at zw1); have pw1a0 := bc1 (b := w.heap.size) (o := 0) (v := .int .i64 L) hbw1 (by simp [go_sem]); have pw1a1 := bc1 (b := w.heap.size) (o := 1) (v := .int .i64 A) hbw1 (by simp [go_sem]); have pw1b0 := bc1 (b := w.heap.size + 1) (o := 0) (v := .int .i64 K) hbw1 (by simp [go_sem]); have qw1b0 := bf1 (b := w.heap.size + 1) (o := 0) (v := .int .i64 K) hbw1 (by simp [go_sem]) (by simp [go_sem]); have pw1b1 := bc1 (b := w.heap.size + 1) (o := 1) (v := .int .i64 S) hbw1 (by simp [go_sem]); have qw1b1 := bf1 (b := w.heap.size + 1) (o := 1) (v := .int .i64 S) hbw1 (by simp [go_sem]) (by simp [go_sem]); have pw1b2 := bc1 (b := w.heap.size + 1) (o := 2) (v := .int .i64 T) hbw1 (by simp [go_sem]); have qw1b2 := bf1 (b := w.heap.size + 1) (o := 2) (v := .int .i64 T) hbw1 (by simp [go_sem]) (by simp [go_sem]); have pw1r0 := bc1 (b := w.heap.size + 1 + 1) (o := 0) (v := .int .i64 0) hbw1 (by simp [go_sem]); have qw1r0 := bf1 (b := w.heap.size + 1 + 1) (o := 0) (v := .int .i64 0) hbw1 (by simp [go_sem]) (by simp [go_sem]); have pw1r1 := bc1 (b := w.heap.size + 1 + 1) (o := 1) (v := .int .i64 0) hbw1 (by simp [go_sem]); have qw1r1 := bf1 (b := w.heap.size + 1 + 1) (o := 1) (v := .int .i64 0) hbw1 (by simp [go_sem]) (by simp [go_sem]); have pw1r2 := bc1 (b := w.heap.size + 1 + 1) (o := 2) (v := .int .i64 0) hbw1 (by simp [go_sem]); have qw1r2 := bf1 (b := w.heap.size + 1 + 1) (o := 2) (v := .int .i64 0) hbw1 (by simp [go_sem]) (by simp [go_sem]); have yw1a0 : w.heap.size < w1.heap.size := World.block_lt_of_cell? w1 _ pw1a0; have yw1b0 : w.heap.size + 1 < w1.heap.size := World.block_lt_of_cell? w1 _ pw1b0; have yw1r0 : w.heap.size + 1 + 1 < w1.heap.size := World.block_lt_of_cell? w1 _ pw1r0)
  exact bodyPost_ret (v := .tuple #[.agg #[.int .i64 K, .int .i64 5, .int .i64 (K + L + 1)], .int .i64 0]) (by simp [results, Try.results24, go_sem, *]) rfl ⟨rfl, by (repeat (with_reducible first | (refine bst ?_ _ _ _ (by omega)) | refine bal ?_ _ | refine bdr ?_ | exact Below.refl _ _ | refine btr ?_ hbw1))⟩

set_option maxHeartbeats 1000000 in
theorem rtick_lodged (L A K S T d : Int) (w : World) (hG : Good L A K S T) (h1 : T ≤ d) (h2 : d ≤ 36864) (hs : (S == 1) = false) (hs2 : (S == 2) = true) (h3 : T + A < d) :
    Calls Try.prog 24 #[.agg #[.int .i64 L, .int .i64 A], .agg #[.int .i64 K, .int .i64 S, .int .i64 T], .int .i64 d] w fun e w' => e = .returned (.tuple #[.agg #[.int .i64 K, .int .i64 4, .int .i64 (T + A)], .int .i64 0]) ∧ Below w.heap.size w w' := by
  have hk := chk_ok hG
  have hG' := Lib.hid hG
  have lim := good_lim hG
  clear hG
  obtain ⟨l1, l2, l3, l4, d1, d2, d3, d4⟩ := lim
  go_enter Try.func24, Try.ntmps24
  go_wp2_with (go_at_call 15; refine (rcheck_any _ _ _ _ _ _).mono ?_; rintro e w1 ⟨rfl, hbw1⟩; have zw1 := hbw1.size; (try simp at zw1); have pw1a0 := bc1 (b := w.heap.size) (o := 0) (v := .int .i64 L) hbw1 (by simp [go_sem]); have pw1a1 := bc1 (b := w.heap.size) (o := 1) (v := .int .i64 A) hbw1 (by simp [go_sem]); have pw1b0 := bc1 (b := w.heap.size + 1) (o := 0) (v := .int .i64 K) hbw1 (by simp [go_sem]); have qw1b0 := bf1 (b := w.heap.size + 1) (o := 0) (v := .int .i64 K) hbw1 (by simp [go_sem]) (by simp [go_sem]); have pw1b1 := bc1 (b := w.heap.size + 1) (o := 1) (v := .int .i64 S) hbw1 (by simp [go_sem]); have qw1b1 := bf1 (b := w.heap.size + 1) (o := 1) (v := .int .i64 S) hbw1 (by simp [go_sem]) (by simp [go_sem]); have pw1b2 := bc1 (b := w.heap.size + 1) (o := 2) (v := .int .i64 T) hbw1 (by simp [go_sem]); have qw1b2 := bf1 (b := w.heap.size + 1) (o := 2) (v := .int .i64 T) hbw1 (by simp [go_sem]) (by simp [go_sem]); have pw1r0 := bc1 (b := w.heap.size + 1 + 1) (o := 0) (v := .int .i64 0) hbw1 (by simp [go_sem]); have qw1r0 := bf1 (b := w.heap.size + 1 + 1) (o := 0) (v := .int .i64 0) hbw1 (by simp [go_sem]) (by simp [go_sem]); have pw1r1 := bc1 (b := w.heap.size + 1 + 1) (o := 1) (v := .int .i64 0) hbw1 (by simp [go_sem]); have qw1r1 := bf1 (b := w.heap.size + 1 + 1) (o := 1) (v := .int .i64 0) hbw1 (by simp [go_sem]) (by simp [go_sem]); have pw1r2 := bc1 (b := w.heap.size + 1 + 1) (o := 2) (v := .int .i64 0) hbw1 (by simp [go_sem]); have qw1r2 := bf1 (b := w.heap.size + 1 + 1) (o := 2) (v := .int .i64 0) hbw1 (by simp [go_sem]) (by simp [go_sem]); have yw1a0 : w.heap.size < w1.heap.size := World.block_lt_of_cell? w1 _ pw1a0; have yw1b0 : w.heap.size + 1 < w1.heap.size := World.block_lt_of_cell? w1 _ pw1b0; have yw1r0 : w.heap.size + 1 + 1 < w1.heap.size := World.block_lt_of_cell? w1 _ pw1r0)
  exact bodyPost_ret (v := .tuple #[.agg #[.int .i64 K, .int .i64 4, .int .i64 (T + A)], .int .i64 0]) (by simp [results, Try.results24, go_sem, *]) rfl ⟨rfl, by (repeat (with_reducible first | (refine bst ?_ _ _ _ (by omega)) | refine bal ?_ _ | refine bdr ?_ | exact Below.refl _ _ | refine btr ?_ hbw1))⟩

set_option maxHeartbeats 1000000 in
theorem rtick_same1 (L A K S T d : Int) (w : World) (hG : Good L A K S T) (h1 : T ≤ d) (h2 : d ≤ 36864) (hs : (S == 1) = true) (hs2 : (S == 2) = false) (h3 : d ≤ K + L) :
    Calls Try.prog 24 #[.agg #[.int .i64 L, .int .i64 A], .agg #[.int .i64 K, .int .i64 S, .int .i64 T], .int .i64 d] w fun e w' => e = .returned (.tuple #[.agg #[.int .i64 K, .int .i64 S, .int .i64 T], .int .i64 0]) ∧ Below w.heap.size w w' := by
  have hk := chk_ok hG
  have hG' := Lib.hid hG
  have lim := good_lim hG
  clear hG
  obtain ⟨l1, l2, l3, l4, d1, d2, d3, d4⟩ := lim
  go_enter Try.func24, Try.ntmps24
  go_wp2_with (go_at_call 15; refine (rcheck_any _ _ _ _ _ _).mono ?_; rintro e w1 ⟨rfl, hbw1⟩; have zw1 := hbw1.size; (try simp at zw1); have pw1a0 := bc1 (b := w.heap.size) (o := 0) (v := .int .i64 L) hbw1 (by simp [go_sem]); have pw1a1 := bc1 (b := w.heap.size) (o := 1) (v := .int .i64 A) hbw1 (by simp [go_sem]); have pw1b0 := bc1 (b := w.heap.size + 1) (o := 0) (v := .int .i64 K) hbw1 (by simp [go_sem]); have qw1b0 := bf1 (b := w.heap.size + 1) (o := 0) (v := .int .i64 K) hbw1 (by simp [go_sem]) (by simp [go_sem]); have pw1b1 := bc1 (b := w.heap.size + 1) (o := 1) (v := .int .i64 S) hbw1 (by simp [go_sem]); have qw1b1 := bf1 (b := w.heap.size + 1) (o := 1) (v := .int .i64 S) hbw1 (by simp [go_sem]) (by simp [go_sem]); have pw1b2 := bc1 (b := w.heap.size + 1) (o := 2) (v := .int .i64 T) hbw1 (by simp [go_sem]); have qw1b2 := bf1 (b := w.heap.size + 1) (o := 2) (v := .int .i64 T) hbw1 (by simp [go_sem]) (by simp [go_sem]); have pw1r0 := bc1 (b := w.heap.size + 1 + 1) (o := 0) (v := .int .i64 0) hbw1 (by simp [go_sem]); have qw1r0 := bf1 (b := w.heap.size + 1 + 1) (o := 0) (v := .int .i64 0) hbw1 (by simp [go_sem]) (by simp [go_sem]); have pw1r1 := bc1 (b := w.heap.size + 1 + 1) (o := 1) (v := .int .i64 0) hbw1 (by simp [go_sem]); have qw1r1 := bf1 (b := w.heap.size + 1 + 1) (o := 1) (v := .int .i64 0) hbw1 (by simp [go_sem]) (by simp [go_sem]); have pw1r2 := bc1 (b := w.heap.size + 1 + 1) (o := 2) (v := .int .i64 0) hbw1 (by simp [go_sem]); have qw1r2 := bf1 (b := w.heap.size + 1 + 1) (o := 2) (v := .int .i64 0) hbw1 (by simp [go_sem]) (by simp [go_sem]); have yw1a0 : w.heap.size < w1.heap.size := World.block_lt_of_cell? w1 _ pw1a0; have yw1b0 : w.heap.size + 1 < w1.heap.size := World.block_lt_of_cell? w1 _ pw1b0; have yw1r0 : w.heap.size + 1 + 1 < w1.heap.size := World.block_lt_of_cell? w1 _ pw1r0)
  exact bodyPost_ret (v := .tuple #[.agg #[.int .i64 K, .int .i64 S, .int .i64 T], .int .i64 0]) (by simp [results, Try.results24, go_sem, *]) rfl ⟨rfl, by (repeat (with_reducible first | (refine bst ?_ _ _ _ (by omega)) | refine bal ?_ _ | refine bdr ?_ | exact Below.refl _ _ | refine btr ?_ hbw1))⟩

set_option maxHeartbeats 1000000 in
theorem rtick_same2 (L A K S T d : Int) (w : World) (hG : Good L A K S T) (h1 : T ≤ d) (h2 : d ≤ 36864) (hs : (S == 1) = false) (hs2 : (S == 2) = true) (h3 : d ≤ T + A) :
    Calls Try.prog 24 #[.agg #[.int .i64 L, .int .i64 A], .agg #[.int .i64 K, .int .i64 S, .int .i64 T], .int .i64 d] w fun e w' => e = .returned (.tuple #[.agg #[.int .i64 K, .int .i64 S, .int .i64 T], .int .i64 0]) ∧ Below w.heap.size w w' := by
  have hk := chk_ok hG
  have hG' := Lib.hid hG
  have lim := good_lim hG
  clear hG
  obtain ⟨l1, l2, l3, l4, d1, d2, d3, d4⟩ := lim
  go_enter Try.func24, Try.ntmps24
  go_wp2_with (go_at_call 15; refine (rcheck_any _ _ _ _ _ _).mono ?_; rintro e w1 ⟨rfl, hbw1⟩; have zw1 := hbw1.size; (try simp at zw1); have pw1a0 := bc1 (b := w.heap.size) (o := 0) (v := .int .i64 L) hbw1 (by simp [go_sem]); have pw1a1 := bc1 (b := w.heap.size) (o := 1) (v := .int .i64 A) hbw1 (by simp [go_sem]); have pw1b0 := bc1 (b := w.heap.size + 1) (o := 0) (v := .int .i64 K) hbw1 (by simp [go_sem]); have qw1b0 := bf1 (b := w.heap.size + 1) (o := 0) (v := .int .i64 K) hbw1 (by simp [go_sem]) (by simp [go_sem]); have pw1b1 := bc1 (b := w.heap.size + 1) (o := 1) (v := .int .i64 S) hbw1 (by simp [go_sem]); have qw1b1 := bf1 (b := w.heap.size + 1) (o := 1) (v := .int .i64 S) hbw1 (by simp [go_sem]) (by simp [go_sem]); have pw1b2 := bc1 (b := w.heap.size + 1) (o := 2) (v := .int .i64 T) hbw1 (by simp [go_sem]); have qw1b2 := bf1 (b := w.heap.size + 1) (o := 2) (v := .int .i64 T) hbw1 (by simp [go_sem]) (by simp [go_sem]); have pw1r0 := bc1 (b := w.heap.size + 1 + 1) (o := 0) (v := .int .i64 0) hbw1 (by simp [go_sem]); have qw1r0 := bf1 (b := w.heap.size + 1 + 1) (o := 0) (v := .int .i64 0) hbw1 (by simp [go_sem]) (by simp [go_sem]); have pw1r1 := bc1 (b := w.heap.size + 1 + 1) (o := 1) (v := .int .i64 0) hbw1 (by simp [go_sem]); have qw1r1 := bf1 (b := w.heap.size + 1 + 1) (o := 1) (v := .int .i64 0) hbw1 (by simp [go_sem]) (by simp [go_sem]); have pw1r2 := bc1 (b := w.heap.size + 1 + 1) (o := 2) (v := .int .i64 0) hbw1 (by simp [go_sem]); have qw1r2 := bf1 (b := w.heap.size + 1 + 1) (o := 2) (v := .int .i64 0) hbw1 (by simp [go_sem]) (by simp [go_sem]); have yw1a0 : w.heap.size < w1.heap.size := World.block_lt_of_cell? w1 _ pw1a0; have yw1b0 : w.heap.size + 1 < w1.heap.size := World.block_lt_of_cell? w1 _ pw1b0; have yw1r0 : w.heap.size + 1 + 1 < w1.heap.size := World.block_lt_of_cell? w1 _ pw1r0)
  exact bodyPost_ret (v := .tuple #[.agg #[.int .i64 K, .int .i64 S, .int .i64 T], .int .i64 0]) (by simp [results, Try.results24, go_sem, *]) rfl ⟨rfl, by (repeat (with_reducible first | (refine bst ?_ _ _ _ (by omega)) | refine bal ?_ _ | refine bdr ?_ | exact Below.refl _ _ | refine btr ?_ hbw1))⟩

set_option maxHeartbeats 1000000 in
theorem rtick_none (L A K S T d : Int) (w : World) (hG : Good L A K S T) (h1 : T ≤ d) (h2 : d ≤ 36864) (hs : (S == 1) = false) (hs2 : (S == 2) = false) :
    Calls Try.prog 24 #[.agg #[.int .i64 L, .int .i64 A], .agg #[.int .i64 K, .int .i64 S, .int .i64 T], .int .i64 d] w fun e w' => e = .returned (.tuple #[.agg #[.int .i64 K, .int .i64 S, .int .i64 T], .int .i64 0]) ∧ Below w.heap.size w w' := by
  have hk := chk_ok hG
  have hG' := Lib.hid hG
  have lim := good_lim hG
  clear hG
  obtain ⟨l1, l2, l3, l4, d1, d2, d3, d4⟩ := lim
  go_enter Try.func24, Try.ntmps24
  go_wp2_with (go_at_call 15; refine (rcheck_any _ _ _ _ _ _).mono ?_; rintro e w1 ⟨rfl, hbw1⟩; have zw1 := hbw1.size; (try simp at zw1); have pw1a0 := bc1 (b := w.heap.size) (o := 0) (v := .int .i64 L) hbw1 (by simp [go_sem]); have pw1a1 := bc1 (b := w.heap.size) (o := 1) (v := .int .i64 A) hbw1 (by simp [go_sem]); have pw1b0 := bc1 (b := w.heap.size + 1) (o := 0) (v := .int .i64 K) hbw1 (by simp [go_sem]); have qw1b0 := bf1 (b := w.heap.size + 1) (o := 0) (v := .int .i64 K) hbw1 (by simp [go_sem]) (by simp [go_sem]); have pw1b1 := bc1 (b := w.heap.size + 1) (o := 1) (v := .int .i64 S) hbw1 (by simp [go_sem]); have qw1b1 := bf1 (b := w.heap.size + 1) (o := 1) (v := .int .i64 S) hbw1 (by simp [go_sem]) (by simp [go_sem]); have pw1b2 := bc1 (b := w.heap.size + 1) (o := 2) (v := .int .i64 T) hbw1 (by simp [go_sem]); have qw1b2 := bf1 (b := w.heap.size + 1) (o := 2) (v := .int .i64 T) hbw1 (by simp [go_sem]) (by simp [go_sem]); have pw1r0 := bc1 (b := w.heap.size + 1 + 1) (o := 0) (v := .int .i64 0) hbw1 (by simp [go_sem]); have qw1r0 := bf1 (b := w.heap.size + 1 + 1) (o := 0) (v := .int .i64 0) hbw1 (by simp [go_sem]) (by simp [go_sem]); have pw1r1 := bc1 (b := w.heap.size + 1 + 1) (o := 1) (v := .int .i64 0) hbw1 (by simp [go_sem]); have qw1r1 := bf1 (b := w.heap.size + 1 + 1) (o := 1) (v := .int .i64 0) hbw1 (by simp [go_sem]) (by simp [go_sem]); have pw1r2 := bc1 (b := w.heap.size + 1 + 1) (o := 2) (v := .int .i64 0) hbw1 (by simp [go_sem]); have qw1r2 := bf1 (b := w.heap.size + 1 + 1) (o := 2) (v := .int .i64 0) hbw1 (by simp [go_sem]) (by simp [go_sem]); have yw1a0 : w.heap.size < w1.heap.size := World.block_lt_of_cell? w1 _ pw1a0; have yw1b0 : w.heap.size + 1 < w1.heap.size := World.block_lt_of_cell? w1 _ pw1b0; have yw1r0 : w.heap.size + 1 + 1 < w1.heap.size := World.block_lt_of_cell? w1 _ pw1r0)
  exact bodyPost_ret (v := .tuple #[.agg #[.int .i64 K, .int .i64 S, .int .i64 T], .int .i64 0]) (by simp [results, Try.results24, go_sem, *]) rfl ⟨rfl, by (repeat (with_reducible first | (refine bst ?_ _ _ _ (by omega)) | refine bal ?_ _ | refine bdr ?_ | exact Below.refl _ _ | refine btr ?_ hbw1))⟩

theorem rtick_any (L A K S T d : Int) (w : World) :
    Calls Try.prog 24 #[.agg #[.int .i64 L, .int .i64 A], .agg #[.int .i64 K, .int .i64 S, .int .i64 T], .int .i64 d] w fun e w' => e = .returned (.tuple #[.agg #[.int .i64 (tickR L A K S T d).k, .int .i64 (tickR L A K S T d).s, .int .i64 (tickR L A K S T d).t], .int .i64 (tickR L A K S T d).e]) ∧ Below w.heap.size w w' := by
  generalize hR : tickR L A K S T d = R
  unfold tickR at hR
  by_cases hG : Good L A K S T
  · rw [if_pos hG] at hR
    by_cases h1 : d < T ∨ 36864 < d
    · rw [if_pos h1] at hR; subst hR
      by_cases h2 : d < T
      · exact rtick_day1 _ _ _ _ _ _ w hG h2
      · exact rtick_day2 _ _ _ _ _ _ w hG (by omega) (by omega)
    · rw [if_neg h1] at hR
      by_cases hs : S = 1
      · have hb : (S == 1) = true := by simpa using hs
        have hb2 : (S == 2) = false := by simp; omega
        by_cases h3 : K + L < d
        · rw [if_pos ⟨hs, h3⟩] at hR; subst hR; exact rtick_open _ _ _ _ _ _ w hG (by omega) (by omega) hb h3
        · rw [if_neg (fun h => h3 h.2), if_neg (fun h => by omega)] at hR; subst hR; exact rtick_same1 _ _ _ _ _ _ w hG (by omega) (by omega) hb hb2 (by omega)
      · have hb : (S == 1) = false := by simpa using hs
        rw [if_neg (fun h => hs h.1)] at hR
        by_cases hs2 : S = 2
        · have hb2 : (S == 2) = true := by simpa using hs2
          by_cases h3 : T + A < d
          · rw [if_pos ⟨hs2, h3⟩] at hR; subst hR; exact rtick_lodged _ _ _ _ _ _ w hG (by omega) (by omega) hb hb2 h3
          · rw [if_neg (fun h => h3 h.2)] at hR; subst hR; exact rtick_same2 _ _ _ _ _ _ w hG (by omega) (by omega) hb hb2 (by omega)
        · have hb2 : (S == 2) = false := by simpa using hs2
          rw [if_neg (fun h => hs2 h.1)] at hR; subst hR
          exact rtick_none _ _ _ _ _ _ w hG (by omega) (by omega) hb hb2
  · rw [if_neg hG] at hR; subst hR; exact rtick_bad _ _ _ _ _ _ w _ rfl (by simpa using chk_ne hG)

set_option maxHeartbeats 1000000 in
theorem rknown_bad (L A d : Int) (w : World) (hL : ¬ TermsOK L A) :
    Calls Try.prog 26 #[.agg #[.int .i64 L, .int .i64 A], .int .i64 d] w fun e w' => e = .returned (.tuple #[.agg #[.int .i64 0, .int .i64 0, .int .i64 0], .int .i64 66]) ∧ Below w.heap.size w w' := by
  go_enter Try.func26, Try.ntmps26
  go_wp2_with (go_at_call 32; refine (terms_bad _ _ _ hL).mono ?_; rintro e w1 ⟨rfl, hbw1⟩; have zw1 := hbw1.size; (try simp at zw1); have pw1a0 := bc1 (b := w.heap.size) (o := 0) (v := .int .i64 L) hbw1 (by simp [go_sem]); have pw1a1 := bc1 (b := w.heap.size) (o := 1) (v := .int .i64 A) hbw1 (by simp [go_sem]); have pw1r0 := bc1 (b := w.heap.size + 1) (o := 0) (v := .int .i64 0) hbw1 (by simp [go_sem]); have qw1r0 := bf1 (b := w.heap.size + 1) (o := 0) (v := .int .i64 0) hbw1 (by simp [go_sem]) (by simp [go_sem]); have pw1r1 := bc1 (b := w.heap.size + 1) (o := 1) (v := .int .i64 0) hbw1 (by simp [go_sem]); have qw1r1 := bf1 (b := w.heap.size + 1) (o := 1) (v := .int .i64 0) hbw1 (by simp [go_sem]) (by simp [go_sem]); have pw1r2 := bc1 (b := w.heap.size + 1) (o := 2) (v := .int .i64 0) hbw1 (by simp [go_sem]); have qw1r2 := bf1 (b := w.heap.size + 1) (o := 2) (v := .int .i64 0) hbw1 (by simp [go_sem]) (by simp [go_sem]))
  exact bodyPost_ret (v := .tuple #[.agg #[.int .i64 0, .int .i64 0, .int .i64 0], .int .i64 66]) (by simp [results, Try.results26, go_sem, *]) rfl ⟨rfl, by (repeat (with_reducible first | (refine bst ?_ _ _ _ (by omega)) | refine bal ?_ _ | refine bdr ?_ | exact Below.refl _ _ | refine btr ?_ hbw1))⟩

set_option maxHeartbeats 1000000 in
theorem rknown_day1 (L A d : Int) (w : World) (l1 : 1 ≤ L) (l2 : L ≤ 400) (l3 : 1 ≤ A) (l4 : A ≤ 400) (h1 : d < 0) :
    Calls Try.prog 26 #[.agg #[.int .i64 L, .int .i64 A], .int .i64 d] w fun e w' => e = .returned (.tuple #[.agg #[.int .i64 0, .int .i64 0, .int .i64 0], .int .i64 9]) ∧ Below w.heap.size w w' := by
  go_enter Try.func26, Try.ntmps26
  go_wp2_with (go_at_call 32; refine (terms_ok _ _ _ l1 l2 l3 l4).mono ?_; rintro e w1 ⟨rfl, hbw1⟩; have zw1 := hbw1.size; (try simp at zw1); have pw1a0 := bc1 (b := w.heap.size) (o := 0) (v := .int .i64 L) hbw1 (by simp [go_sem]); have pw1a1 := bc1 (b := w.heap.size) (o := 1) (v := .int .i64 A) hbw1 (by simp [go_sem]); have pw1r0 := bc1 (b := w.heap.size + 1) (o := 0) (v := .int .i64 0) hbw1 (by simp [go_sem]); have qw1r0 := bf1 (b := w.heap.size + 1) (o := 0) (v := .int .i64 0) hbw1 (by simp [go_sem]) (by simp [go_sem]); have pw1r1 := bc1 (b := w.heap.size + 1) (o := 1) (v := .int .i64 0) hbw1 (by simp [go_sem]); have qw1r1 := bf1 (b := w.heap.size + 1) (o := 1) (v := .int .i64 0) hbw1 (by simp [go_sem]) (by simp [go_sem]); have pw1r2 := bc1 (b := w.heap.size + 1) (o := 2) (v := .int .i64 0) hbw1 (by simp [go_sem]); have qw1r2 := bf1 (b := w.heap.size + 1) (o := 2) (v := .int .i64 0) hbw1 (by simp [go_sem]) (by simp [go_sem]))
  exact bodyPost_ret (v := .tuple #[.agg #[.int .i64 0, .int .i64 0, .int .i64 0], .int .i64 9]) (by simp [results, Try.results26, go_sem, *]) rfl ⟨rfl, by (repeat (with_reducible first | (refine bst ?_ _ _ _ (by omega)) | refine bal ?_ _ | refine bdr ?_ | exact Below.refl _ _ | refine btr ?_ hbw1))⟩

set_option maxHeartbeats 1000000 in
theorem rknown_day2 (L A d : Int) (w : World) (l1 : 1 ≤ L) (l2 : L ≤ 400) (l3 : 1 ≤ A) (l4 : A ≤ 400) (h1 : 0 ≤ d) (h2 : 36864 - L - A - 1 < d) :
    Calls Try.prog 26 #[.agg #[.int .i64 L, .int .i64 A], .int .i64 d] w fun e w' => e = .returned (.tuple #[.agg #[.int .i64 0, .int .i64 0, .int .i64 0], .int .i64 9]) ∧ Below w.heap.size w w' := by
  go_enter Try.func26, Try.ntmps26
  go_wp2_with (go_at_call 32; refine (terms_ok _ _ _ l1 l2 l3 l4).mono ?_; rintro e w1 ⟨rfl, hbw1⟩; have zw1 := hbw1.size; (try simp at zw1); have pw1a0 := bc1 (b := w.heap.size) (o := 0) (v := .int .i64 L) hbw1 (by simp [go_sem]); have pw1a1 := bc1 (b := w.heap.size) (o := 1) (v := .int .i64 A) hbw1 (by simp [go_sem]); have pw1r0 := bc1 (b := w.heap.size + 1) (o := 0) (v := .int .i64 0) hbw1 (by simp [go_sem]); have qw1r0 := bf1 (b := w.heap.size + 1) (o := 0) (v := .int .i64 0) hbw1 (by simp [go_sem]) (by simp [go_sem]); have pw1r1 := bc1 (b := w.heap.size + 1) (o := 1) (v := .int .i64 0) hbw1 (by simp [go_sem]); have qw1r1 := bf1 (b := w.heap.size + 1) (o := 1) (v := .int .i64 0) hbw1 (by simp [go_sem]) (by simp [go_sem]); have pw1r2 := bc1 (b := w.heap.size + 1) (o := 2) (v := .int .i64 0) hbw1 (by simp [go_sem]); have qw1r2 := bf1 (b := w.heap.size + 1) (o := 2) (v := .int .i64 0) hbw1 (by simp [go_sem]) (by simp [go_sem]))
  exact bodyPost_ret (v := .tuple #[.agg #[.int .i64 0, .int .i64 0, .int .i64 0], .int .i64 9]) (by simp [results, Try.results26, go_sem, *]) rfl ⟨rfl, by (repeat (with_reducible first | (refine bst ?_ _ _ _ (by omega)) | refine bal ?_ _ | refine bdr ?_ | exact Below.refl _ _ | refine btr ?_ hbw1))⟩

set_option maxHeartbeats 1000000 in
theorem rknown_ok (L A d : Int) (w : World) (l1 : 1 ≤ L) (l2 : L ≤ 400) (l3 : 1 ≤ A) (l4 : A ≤ 400) (h1 : 0 ≤ d) (h2 : d ≤ 36864 - L - A - 1) :
    Calls Try.prog 26 #[.agg #[.int .i64 L, .int .i64 A], .int .i64 d] w fun e w' => e = .returned (.tuple #[.agg #[.int .i64 d, .int .i64 1, .int .i64 d], .int .i64 0]) ∧ Below w.heap.size w w' := by
  go_enter Try.func26, Try.ntmps26
  go_wp2_with (go_at_call 32; refine (terms_ok _ _ _ l1 l2 l3 l4).mono ?_; rintro e w1 ⟨rfl, hbw1⟩; have zw1 := hbw1.size; (try simp at zw1); have pw1a0 := bc1 (b := w.heap.size) (o := 0) (v := .int .i64 L) hbw1 (by simp [go_sem]); have pw1a1 := bc1 (b := w.heap.size) (o := 1) (v := .int .i64 A) hbw1 (by simp [go_sem]); have pw1r0 := bc1 (b := w.heap.size + 1) (o := 0) (v := .int .i64 0) hbw1 (by simp [go_sem]); have qw1r0 := bf1 (b := w.heap.size + 1) (o := 0) (v := .int .i64 0) hbw1 (by simp [go_sem]) (by simp [go_sem]); have pw1r1 := bc1 (b := w.heap.size + 1) (o := 1) (v := .int .i64 0) hbw1 (by simp [go_sem]); have qw1r1 := bf1 (b := w.heap.size + 1) (o := 1) (v := .int .i64 0) hbw1 (by simp [go_sem]) (by simp [go_sem]); have pw1r2 := bc1 (b := w.heap.size + 1) (o := 2) (v := .int .i64 0) hbw1 (by simp [go_sem]); have qw1r2 := bf1 (b := w.heap.size + 1) (o := 2) (v := .int .i64 0) hbw1 (by simp [go_sem]) (by simp [go_sem]))
  exact bodyPost_ret (v := .tuple #[.agg #[.int .i64 d, .int .i64 1, .int .i64 d], .int .i64 0]) (by simp [results, Try.results26, go_sem, *]) rfl ⟨rfl, by (repeat (with_reducible first | (refine bst ?_ _ _ _ (by omega)) | refine bal ?_ _ | refine bdr ?_ | exact Below.refl _ _ | refine btr ?_ hbw1))⟩

theorem rknown_any (L A d : Int) (w : World) :
    Calls Try.prog 26 #[.agg #[.int .i64 L, .int .i64 A], .int .i64 d] w fun e w' => e = .returned (.tuple #[.agg #[.int .i64 (knownR L A d).k, .int .i64 (knownR L A d).s, .int .i64 (knownR L A d).t], .int .i64 (knownR L A d).e]) ∧ Below w.heap.size w w' := by
  generalize hR : knownR L A d = R
  unfold knownR at hR
  by_cases hL : TermsOK L A
  · rw [if_pos hL] at hR
    obtain ⟨l1, l2, l3, l4⟩ := hL
    by_cases h1 : d < 0
    · rw [if_pos (.inl h1)] at hR; subst hR; exact rknown_day1 _ _ _ w l1 l2 l3 l4 h1
    · by_cases h2 : 36864 - L - A - 1 < d
      · rw [if_pos (.inr h2)] at hR; subst hR; exact rknown_day2 _ _ _ w l1 l2 l3 l4 (by omega) h2
      · rw [if_neg (by omega)] at hR; subst hR; exact rknown_ok _ _ _ w l1 l2 l3 l4 (by omega) (by omega)
  · rw [if_neg hL] at hR; subst hR; exact rknown_bad _ _ _ w hL

set_option maxHeartbeats 1000000 in
theorem rdue_bad (L A K S T : Int) (w : World) (c : Int) (hk : chkE L A K S T = c) (hc : (c != 0) = true) :
    Calls Try.prog 17 #[.agg #[.int .i64 L, .int .i64 A], .agg #[.int .i64 K, .int .i64 S, .int .i64 T]] w fun e w' => e = .returned (.int .i64 (-1)) ∧ Below w.heap.size w w' := by
  go_enter Try.func17, Try.ntmps17
  go_wp2_with (go_at_call 15; refine (rcheck_any _ _ _ _ _ _).mono ?_; rintro e w1 ⟨rfl, hbw1⟩; have zw1 := hbw1.size; (try simp at zw1); have pw1a0 := bc1 (b := w.heap.size) (o := 0) (v := .int .i64 L) hbw1 (by simp [go_sem]); have pw1a1 := bc1 (b := w.heap.size) (o := 1) (v := .int .i64 A) hbw1 (by simp [go_sem]); have pw1b0 := bc1 (b := w.heap.size + 1) (o := 0) (v := .int .i64 K) hbw1 (by simp [go_sem]); have pw1b1 := bc1 (b := w.heap.size + 1) (o := 1) (v := .int .i64 S) hbw1 (by simp [go_sem]); have pw1b2 := bc1 (b := w.heap.size + 1) (o := 2) (v := .int .i64 T) hbw1 (by simp [go_sem]))
  go_ret
  exact ⟨rfl, by (repeat (with_reducible first | (refine bst ?_ _ _ _ (by omega)) | refine bal ?_ _ | refine bdr ?_ | exact Below.refl _ _ | refine btr ?_ hbw1))⟩

set_option maxHeartbeats 1000000 in
theorem rdue_good (L A K S T : Int) (w : World) (hG : Good L A K S T) :
    Calls Try.prog 17 #[.agg #[.int .i64 L, .int .i64 A], .agg #[.int .i64 K, .int .i64 S, .int .i64 T]] w fun e w' => e = .returned (.int .i64 (dueI L A K S T)) ∧ Below w.heap.size w w' := by
  have hk := chk_ok hG
  have hG' := Lib.hid hG
  have lim := good_lim hG
  clear hG
  obtain ⟨l1, l2, l3, l4, d1, d2, d3, d4⟩ := lim
  go_enter Try.func17, Try.ntmps17
  go_wp2_with (go_at_call 15; refine (rcheck_any _ _ _ _ _ _).mono ?_; rintro e w1 ⟨rfl, hbw1⟩; have zw1 := hbw1.size; (try simp at zw1); have pw1a0 := bc1 (b := w.heap.size) (o := 0) (v := .int .i64 L) hbw1 (by simp [go_sem]); have pw1a1 := bc1 (b := w.heap.size) (o := 1) (v := .int .i64 A) hbw1 (by simp [go_sem]); have pw1b0 := bc1 (b := w.heap.size + 1) (o := 0) (v := .int .i64 K) hbw1 (by simp [go_sem]); have pw1b1 := bc1 (b := w.heap.size + 1) (o := 1) (v := .int .i64 S) hbw1 (by simp [go_sem]); have pw1b2 := bc1 (b := w.heap.size + 1) (o := 2) (v := .int .i64 T) hbw1 (by simp [go_sem]))
  all_goals go_ret
  all_goals (refine ⟨ret_int ?_, by (repeat (with_reducible first | (refine bst ?_ _ _ _ (by omega)) | refine bal ?_ _ | refine bdr ?_ | exact Below.refl _ _ | refine btr ?_ hbw1))⟩)
  all_goals simp_all [dueI]

theorem rdue_any (L A K S T : Int) (w : World) :
    Calls Try.prog 17 #[.agg #[.int .i64 L, .int .i64 A], .agg #[.int .i64 K, .int .i64 S, .int .i64 T]] w fun e w' => e = .returned (.int .i64 (if Good L A K S T then dueI L A K S T else -1)) ∧ Below w.heap.size w w' := by
  by_cases hG : Good L A K S T
  · rw [if_pos hG]; exact rdue_good _ _ _ _ _ w hG
  · rw [if_neg hG]; exact rdue_bad _ _ _ _ _ w _ rfl (by simpa using chk_ne hG)

set_option maxHeartbeats 1000000 in
theorem rsettled_any (K S T : Int) (w : World) :
    Calls Try.prog 19 #[.agg #[.int .i64 K, .int .i64 S, .int .i64 T]] w fun e w' => e = .returned (.bool (settledB S)) ∧ Below w.heap.size w w' := by
  go_enter Try.func19, Try.ntmps19
  go_wp2
  all_goals go_ret
  all_goals (refine ⟨ret_bool ?_, by (repeat (with_reducible first | (refine bst ?_ _ _ _ (by omega)) | refine bal ?_ _ | refine bdr ?_ | exact Below.refl _ _))⟩)
  all_goals (rw [Bool.eq_iff_iff])
  all_goals (simp_all [settledB])

end Go.Proofs.Ytldhcgihhknmjaa
