/- The tape, more: a number in a range, a chance, a new tape; and the terms that the second keeper makes. -/
import Derived.Test.YtldhcgihhknmjaaKeep
namespace Go.Proofs.Ytldhcgihhknmjaa
open Go.RowKit

def RangePost (b : Nat) (lo hi : Int) (w : World) (e : Ending) (w' : World) : Prop := ∃ r : Int, lo ≤ r ∧ r ≤ hi ∧ e = .returned (.int .i64 r) ∧ Steps1 b w w'
def OnePost (b : Nat) (w : World) (e : Ending) (w' : World) : Prop := ∃ v : Bool, e = .returned (.bool v) ∧ Steps1 b w w'

set_option maxHeartbeats 1000000 in
theorem range_any (b : Nat) (lo hi : Int) (w : World) (hT : Tape w b) (h1 : lo ≤ hi) (h2 : -100000000000 ≤ lo) (h3 : hi ≤ 100000000000) :
    Calls Try.prog 28 #[.pointer (some ⟨b, 0, none⟩), .int .i64 lo, .int .i64 hi] w (RangePost b lo hi w) := by
  have TT := Lib.hid hT
  clear hT
  go_enter Try.func28, Try.ntmps28
  go_wp2_with (go_at_call 12; refine (next_any _ _ _ TT.out (by omega) (by omega)).mono ?_; rintro e w1 ⟨r, r1, r2, rfl, hs⟩)
  go_ret
  exact ⟨lo + r, by omega, by omega, rfl, hs⟩

set_option maxHeartbeats 1000000 in
theorem one_any (b : Nat) (n : Int) (w : World) (hT : Tape w b) (h1 : 1 ≤ n) (h2 : n ≤ 100000000000) :
    Calls Try.prog 27 #[.pointer (some ⟨b, 0, none⟩), .int .i64 n] w (OnePost b w) := by
  have TT := Lib.hid hT
  clear hT
  go_enter Try.func27, Try.ntmps27
  go_wp2_with (go_at_call 12; refine (next_any _ _ _ TT.out (by omega) (by omega)).mono ?_; rintro e w1 ⟨r, r1, r2, rfl, hs⟩)
  go_ret
  exact ⟨_, rfl, hs⟩

def TermsPost (b : Nat) (w : World) (e : Ending) (w' : World) : Prop :=
  ∃ L A : Int, 1 ≤ L ∧ L ≤ 12 ∧ 1 ≤ A ∧ A ≤ 12 ∧ e = .returned (.agg #[.int .i64 L, .int .i64 A]) ∧ Steps1 b w w'

set_option maxHeartbeats 1000000 in
theorem terms_any (b : Nat) (w : World) (hT : Tape w b) :
    Calls Try.prog 8 #[.pointer (some ⟨b, 0, none⟩)] w (TermsPost b w) := by
  have TT := Lib.hid hT
  have hbw := hT.lt
  clear hT
  go_enter Try.func8, Try.ntmps8
  go_wp2_with fail
  refine (range_any b 1 12 _ (TT.out.alloc _) (by omega) (by omega) (by omega)).mono ?_; rintro e w1 ⟨L, L1, L2, rfl, hsw1⟩; have zw1 := hsw1.size; (try simp at zw1); have pw1r0 := sc1 (k := w.heap.size) (o := 0) (v := .int .i64 0) hsw1 (by simp [go_sem]) (by omega); have qw1r0 := sf1 (k := w.heap.size) (o := 0) (v := .int .i64 0) hsw1 (by simp [go_sem]) (by simp [go_sem]) (by omega); have pw1r1 := sc1 (k := w.heap.size) (o := 1) (v := .int .i64 0) hsw1 (by simp [go_sem]) (by omega); have qw1r1 := sf1 (k := w.heap.size) (o := 1) (v := .int .i64 0) hsw1 (by simp [go_sem]) (by simp [go_sem]) (by omega)
  go_wp2_with fail
  refine (range_any b 1 12 _ hsw1.now (by omega) (by omega) (by omega)).mono ?_; rintro e w2 ⟨A, A1, A2, rfl, hsw2⟩; have zw2 := hsw2.size; (try simp at zw2); have pw2r0 := sc1 (k := w.heap.size) (o := 0) (v := .int .i64 0) hsw2 pw1r0 (by omega); have qw2r0 := sf1 (k := w.heap.size) (o := 0) (v := .int .i64 0) hsw2 pw1r0 qw1r0 (by omega); have pw2r1 := sc1 (k := w.heap.size) (o := 1) (v := .int .i64 0) hsw2 pw1r1 (by omega); have qw2r1 := sf1 (k := w.heap.size) (o := 1) (v := .int .i64 0) hsw2 pw1r1 qw1r1 (by omega)
  go_wp2
  refine bodyPost_ret (v := .agg #[.int .i64 L, .int .i64 A]) (by simp [results, Try.results8, go_sem, *]) rfl ⟨L, A, by omega, by omega, by omega, by omega, rfl, by (repeat (with_reducible first | (refine sst ?_ _ _ _ (by omega)) | refine sal ?_ _ | refine sdr ?_ | refine sdn ?_ _ | exact Steps1.refl TT.out | refine sts ?_ hsw2 | refine sts ?_ hsw1))⟩
end Go.Proofs.Ytldhcgihhknmjaa
