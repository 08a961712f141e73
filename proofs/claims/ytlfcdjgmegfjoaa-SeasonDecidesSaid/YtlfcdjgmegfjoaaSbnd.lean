/- The bounds on a day, and which phases are right, in the season layer: program and reference. -/
import Derived.Test.YtlfcdjgmegfjoaaSchecr
namespace Go.Proofs.Ytlfcdjgmegfjoaa
open Go.RowKit
set_option linter.unusedVariables false

theorem right_lim {s : Int} {l : List (Int × Int)} (h : chkS s l = 0) : 1 ≤ s ∧ s ≤ 100 ∧ l.length ≤ 60 ∧ chkUp (errAt s l) l.length = 0 := by
  unfold chkS at h
  by_cases c : s < 1 ∨ 100 < s
  · rw [if_pos c] at h; exact absurd h (by omega)
  · rw [if_neg c] at h
    by_cases c2 : 60 < l.length
    · rw [if_pos c2] at h; exact absurd h (by omega)
    · rw [if_neg c2] at h; exact ⟨by omega, by omega, by omega, h⟩
theorem right_at {s : Int} {l : List (Int × Int)} (h : chkS s l = 0) (j : Nat) (hj : j < l.length) : 0 ≤ (ob l j).1 ∧ (ob l j).1 ≤ 364 ∧ 0 ≤ (ob l j).2 ∧ (ob l j).2 ≤ 1000 := by
  obtain ⟨⟨a, b⟩, c, d⟩ := err_ok (chkUp_zero (right_lim h).2.2.2 j hj)
  exact ⟨a, by omega, c, d⟩
theorem dist_lim {a b : Int} (h1 : 0 ≤ a) (h2 : a ≤ 364) (h3 : 0 ≤ b) (h4 : b ≤ 364) : 0 ≤ dist a b ∧ dist a b ≤ 364 := by unfold dist; omega
theorem span_lim {s a b : Int} (hs1 : 1 ≤ s) (hs2 : s ≤ 100) (h1 : 0 ≤ a) (h2 : a ≤ 364) (h3 : 0 ≤ b) (h4 : b ≤ 364) : 0 ≤ s * dist a b ∧ s * dist a b ≤ 36400 := by
  have hd := dist_lim h1 h2 h3 h4
  exact ⟨Int.mul_nonneg (by omega) hd.1, by have := Int.mul_le_mul hs2 hd.2 hd.1 (by omega : (0 : Int) ≤ 100); omega⟩
theorem span_lim2 {s a b : Int} (hs1 : 1 ≤ s) (hs2 : s ≤ 100) (h1 : 0 ≤ a) (h2 : a ≤ 364) (h3 : 0 ≤ b) (h4 : b ≤ 364) : -36400 ≤ s * (a - b) ∧ s * (a - b) ≤ 36400 := by
  have h := span_lim hs1 hs2 h1 h2 h3 h4
  by_cases c : b ≤ a
  · have e : dist a b = a - b := by unfold dist; omega
    rw [e] at h; omega
  · have e : dist a b = b - a := by unfold dist; omega
    rw [e] at h
    have e2 : s * (a - b) = -(s * (b - a)) := by rw [← Int.mul_neg]; congr 1; omega
    omega
theorem bnd_lim {s : Int} {l : List (Int × Int)} {d : Int} (h : chkS s l = 0) (hd : dayOK d) (k : Nat) (hk : k ≤ l.length) : 0 ≤ lowTo s l d k ∧ lowTo s l d k ≤ 1000 ∧ 0 ≤ highTo s l d k ∧ highTo s l d k ≤ 1000 := by
  induction k with
  | zero => simp [lowTo, highTo]
  | succ k ih =>
    have ih := ih (by omega)
    have r := right_at h k (by omega)
    have hl := right_lim h
    have sp := span_lim hl.1 hl.2.1 r.1 r.2.1 hd.1 (by have := hd.2; omega)
    simp only [lowTo, highTo]
    omega

structure SBnd (w : World) (s : Int) (a : Option Addr) (len cap : Nat) (l : List (Int × Int)) (d : Int) (lo hi v : Value) (wr : World) : Prop where
  ex : ∃ k : Nat, v = .int .i64 k ∧ k ≤ len ∧ lo = .int .i64 (lowTo s l d k) ∧ hi = .int .i64 (highTo s l d k)
  below : Below w.heap.size w wr
  box : Blk wr w.heap.size 25 #[.int .i64 s, .slice a len cap]
set_option maxHeartbeats 1000000 in
theorem pbounds_any (s : Int) (a : Option Addr) (len cap : Nat) (l : List (Int × Int)) (w : World) (hS : Ser w a l) (hl : l.length = len) (hR : chkS s l = 0) (d : Int) (hd : dayOK d) :
    Calls Try.prog 35 #[.agg #[.int .i64 s, .slice a len cap], .int .i64 d] w fun e w' => e = .returned (.tuple #[.int .i64 (lowB s l d), .int .i64 (highB s l d)]) ∧ Below w.heap.size w w' := by
  have hlen := Lib.hid hl
  have lim := right_lim hR
  have HR := Lib.hid hR
  have HD := Lib.hid hd
  have hS0 := Lib.hid hS
  obtain ⟨s1, s2, n1, _⟩ := lim
  have dd1 := hd.1; have dd2 := hd.2
  have n2 : len ≤ 60 := by omega
  clear hS hl hR hd n1
  go_enter Try.func35, Try.ntmps35
  go_wp2
  go_loopw [6, 7, 14] (fun lo hi v wr => SBnd w s a len cap l d lo hi v wr) (fun _ _ v _ => len - (intOf v).toNat)
  case atStart => exact ⟨⟨0, rfl, by omega, rfl, rfl⟩, bal (Below.refl _ _) _, Blk.new _ _ _⟩
  case round =>
    obtain ⟨⟨k, rfl, hk, rfl, rfl⟩, hB, hX⟩ := hrel
    have HB := Lib.hid hB
    have HX := Lib.hid hX
    have x0 : wr.cell? ⟨w.heap.size, 0, none⟩ = some (.int .i64 s) := hX.cell 0; have x1 : wr.cell? ⟨w.heap.size, 1, none⟩ = some (.slice a len cap) := hX.cell 1; have yx := hX.lt
    clear hX
    by_cases hlt : k < len
    · have hlt' : (k : Int) < (len : Int) := by omega
      obtain ⟨b, off, rfl, c0, c1⟩ := (hS0.out.below hB) k (by rw [hlen.out]; exact hlt)
      have yb : b < wr.heap.size := World.block_lt_of_cell? wr _ c0
      have r := right_at HR.out k (by rw [hlen.out]; exact hlt)
      have bl := bnd_lim HR.out HD.out k (by rw [hlen.out]; omega)
      have e1 : Hid (lowTo s l d (k + 1) = max (lowTo s l d k) ((ob l k).2 - s * dist (ob l k).1 d)) := rfl
      have e2 : Hid (highTo s l d (k + 1) = min (highTo s l d k) ((ob l k).2 + s * dist (ob l k).1 d)) := rfl
      clear hB
      generalize (ob l k).1 = od at c0 r e1 e2
      generalize (ob l k).2 = og at c1 r e1 e2
      generalize lowTo s l d k = lo at bl e1
      generalize highTo s l d k = hi at bl e2
      obtain ⟨r1, r2, r3, r4⟩ := r
      obtain ⟨b1, b2, b3, b4⟩ := bl
      have sp := span_lim s1 s2 r1 r2 dd1 (by omega : d ≤ 364)
      have hm : IntKind.i64.wrap (s * dist od d) = s * dist od d := IntWalk.i64_in _ (by omega)
      go_wp2_with fail
      go_quiet ((go_at_call 33; exact Calls.quiet_of_same (papart_any _ _ _ (by omega) (by omega) (by omega) (by omega))))
      clear hm
      obtain ⟨p, hp⟩ : ∃ p, p = s * dist od d := ⟨_, rfl⟩
      rw [← hp] at sp e1 e2 ⊢
      clear hp
      obtain ⟨p1, p2⟩ := sp
      have q1 : IntKind.i64.wrap (og - p) = og - p := IntWalk.i64_in _ (by omega)
      have q2 : IntKind.i64.wrap (og + p) = og + p := IntWalk.i64_in _ (by omega)
      go_wp2
      go_quiet (fail)
      go_wp2
      go_roundw
      case rel => exact ⟨⟨k + 1, by go_num, by omega, by rw [e1.out]; congr 1; split <;> omega, by rw [e2.out]; congr 1; split <;> omega⟩, bdn (bal HB.out _) _, (HX.out.alloc _).drewN _⟩
      case measure => simp [intOf]; omega
    · have hkl : k = len := by omega
      subst hkl
      have hq : ¬ (k : Int) < (k : Int) := by omega
      go_wp2
      go_ret2
      exact ⟨by rw [← hlen.out]; rfl, HB.out⟩

set_option maxHeartbeats 1000000 in
theorem rbounds_any (s : Int) (a : Option Addr) (len cap : Nat) (l : List (Int × Int)) (w : World) (hS : Ser w a l) (hl : l.length = len) (hR : chkS s l = 0) (d : Int) (hd : dayOK d) :
    Calls Try.prog 36 #[.agg #[.int .i64 s, .slice a len cap], .int .i64 d] w fun e w' => e = .returned (.tuple #[.int .i64 (lowB s l d), .int .i64 (highB s l d)]) ∧ Below w.heap.size w w' := by
  have hlen := Lib.hid hl
  have lim := right_lim hR
  have HR := Lib.hid hR
  have HD := Lib.hid hd
  have hS0 := Lib.hid hS
  obtain ⟨s1, s2, n1, _⟩ := lim
  have dd1 := hd.1; have dd2 := hd.2
  have n2 : len ≤ 60 := by omega
  clear hS hl hR hd n1
  go_enter Try.func36, Try.ntmps36
  go_wp2
  go_loopw [6, 7, 8] (fun lo hi v wr => SBnd w s a len cap l d lo hi v wr) (fun _ _ v _ => len - (intOf v).toNat)
  case atStart => exact ⟨⟨0, rfl, by omega, rfl, rfl⟩, bal (Below.refl _ _) _, Blk.new _ _ _⟩
  case round =>
    obtain ⟨⟨k, rfl, hk, rfl, rfl⟩, hB, hX⟩ := hrel
    have HB := Lib.hid hB
    have HX := Lib.hid hX
    have x0 : wr.cell? ⟨w.heap.size, 0, none⟩ = some (.int .i64 s) := hX.cell 0; have x1 : wr.cell? ⟨w.heap.size, 1, none⟩ = some (.slice a len cap) := hX.cell 1; have yx := hX.lt
    clear hX
    by_cases hlt : k < len
    · have hlt' : (k : Int) < (len : Int) := by omega
      obtain ⟨b, off, rfl, c0, c1⟩ := (hS0.out.below hB) k (by rw [hlen.out]; exact hlt)
      have yb : b < wr.heap.size := World.block_lt_of_cell? wr _ c0
      have r := right_at HR.out k (by rw [hlen.out]; exact hlt)
      have bl := bnd_lim HR.out HD.out k (by rw [hlen.out]; omega)
      have e1 : Hid (lowTo s l d (k + 1) = max (lowTo s l d k) ((ob l k).2 - s * dist (ob l k).1 d)) := rfl
      have e2 : Hid (highTo s l d (k + 1) = min (highTo s l d k) ((ob l k).2 + s * dist (ob l k).1 d)) := rfl
      clear hB
      generalize (ob l k).1 = od at c0 r e1 e2
      generalize (ob l k).2 = og at c1 r e1 e2
      generalize lowTo s l d k = lo at bl e1
      generalize highTo s l d k = hi at bl e2
      obtain ⟨r1, r2, r3, r4⟩ := r
      obtain ⟨b1, b2, b3, b4⟩ := bl
      have sp := span_lim s1 s2 r1 r2 dd1 (by omega : d ≤ 364)
      have hm : IntKind.i64.wrap (s * dist od d) = s * dist od d := IntWalk.i64_in _ (by omega)
      clear hm
      have mA := span_lim2 s1 s2 r1 r2 dd1 (by omega : d ≤ 364); have mB := span_lim2 s1 s2 dd1 (by omega : d ≤ 364) r1 r2
      have hmA : wrap64 (s * (od - d)) = s * (od - d) := IntWalk.wrap64_in _ (by omega)
      have hmB : wrap64 (s * (d - od)) = s * (d - od) := IntWalk.wrap64_in _ (by omega)
      clear mA mB
      go_wp2_with fail
      all_goals
        first
        | (have hmx : dist od d = od - d := (by unfold dist; omega)
           rw [hmx] at sp e1 e2
           clear hmx hmA hmB
           obtain ⟨p, hp⟩ : ∃ p, p = s * (od - d) := ⟨_, rfl⟩
           rw [← hp] at sp e1 e2 ⊢
           clear hp
           obtain ⟨p1, p2⟩ := sp
           have q1 : IntKind.i64.wrap (og - p) = og - p := IntWalk.i64_in _ (by omega)
           have q2 : IntKind.i64.wrap (og + p) = og + p := IntWalk.i64_in _ (by omega)
           go_quiet (fail)
           go_wp2
           go_roundw
           case rel => exact ⟨⟨k + 1, by go_num, by omega, by rw [e1.out]; congr 1; split <;> omega, by rw [e2.out]; congr 1; split <;> omega⟩, bdn (bal HB.out _) _, (HX.out.alloc _).drewN _⟩
           case measure => simp [intOf]; omega)
        | (have hmx : dist od d = d - od := (by unfold dist; omega)
           rw [hmx] at sp e1 e2
           clear hmx hmA hmB
           obtain ⟨p, hp⟩ : ∃ p, p = s * (d - od) := ⟨_, rfl⟩
           rw [← hp] at sp e1 e2 ⊢
           clear hp
           obtain ⟨p1, p2⟩ := sp
           have q1 : IntKind.i64.wrap (og - p) = og - p := IntWalk.i64_in _ (by omega)
           have q2 : IntKind.i64.wrap (og + p) = og + p := IntWalk.i64_in _ (by omega)
           go_quiet (fail)
           go_wp2
           go_roundw
           case rel => exact ⟨⟨k + 1, by go_num, by omega, by rw [e1.out]; congr 1; split <;> omega, by rw [e2.out]; congr 1; split <;> omega⟩, bdn (bal HB.out _) _, (HX.out.alloc _).drewN _⟩
           case measure => simp [intOf]; omega)
    · have hkl : k = len := by omega
      subst hkl
      have hq : ¬ (k : Int) < (k : Int) := by omega
      go_wp2
      go_ret2
      exact ⟨by rw [← hlen.out]; rfl, HB.out⟩

end Go.Proofs.Ytlfcdjgmegfjoaa
