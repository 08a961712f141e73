/- The reference's Check of the season layer: the first error of a series. -/
import Derived.Test.YtlfcdjgmegfjoaaScheck
namespace Go.Proofs.Ytlfcdjgmegfjoaa
open Go.RowKit
set_option linter.unusedVariables false

set_option maxHeartbeats 1000000 in
theorem rcheck_slope (s : Int) (a : Option Addr) (len cap : Nat) (l : List (Int × Int)) (w : World) (hS : Ser w a l) (hl : l.length = len) (hcap : len ≤ 9223372036854775807) (h : s < 1 ∨ 100 < s) :
    Calls Try.prog 15 #[.agg #[.int .i64 s, .slice a len cap]] w fun e w' => e = .returned (.int .i64 (2)) ∧ Below w.heap.size w w' := by
  have b0 : decide (1 ≤ s ∧ s ≤ 100) = false := decide_eq_false (by omega)
  clear h
  go_enter Try.func15, Try.ntmps15
  go_wp2_with (go_at_call 34; refine (rin_any _ _ _ _).mono ?_; rintro e wd ⟨rfl, rfl⟩)
  go_ret
  exact ⟨rfl, by (repeat (with_reducible first | (refine bst ?_ _ _ _ (by omega)) | refine bal ?_ _ | refine bdr ?_ | exact Below.refl _ _))⟩

set_option maxHeartbeats 1000000 in
theorem rcheck_limit (s : Int) (a : Option Addr) (len cap : Nat) (l : List (Int × Int)) (w : World) (hS : Ser w a l) (hl : l.length = len) (hcap : len ≤ 9223372036854775807) (h1 : 1 ≤ s) (h2 : s ≤ 100) (h : 60 < len) :
    Calls Try.prog 15 #[.agg #[.int .i64 s, .slice a len cap]] w fun e w' => e = .returned (.int .i64 (1)) ∧ Below w.heap.size w w' := by
  have b0 : decide (1 ≤ s ∧ s ≤ 100) = true := decide_eq_true ⟨h1, h2⟩
  have h3 : (60 : Int) < (len : Int) := by omega
  go_enter Try.func15, Try.ntmps15
  go_wp2_with (go_at_call 34; refine (rin_any _ _ _ _).mono ?_; rintro e wd ⟨rfl, rfl⟩)
  go_ret
  exact ⟨rfl, by (repeat (with_reducible first | (refine bst ?_ _ _ _ (by omega)) | refine bal ?_ _ | refine bdr ?_ | exact Below.refl _ _))⟩

set_option maxHeartbeats 1000000 in
theorem rcheck_loop (s : Int) (a : Option Addr) (len cap : Nat) (l : List (Int × Int)) (w : World) (hS : Ser w a l) (hl : l.length = len) (hcap : len ≤ 9223372036854775807) (h1 : 1 ≤ s) (h2 : s ≤ 100) (h : len ≤ 60) :
    Calls Try.prog 15 #[.agg #[.int .i64 s, .slice a len cap]] w fun e w' => e = .returned (.int .i64 (chkUp (errAt s l) l.length)) ∧ Below w.heap.size w w' := by
  have hS0 := Lib.hid hS
  have hlen := Lib.hid hl
  clear hS hl
  have hp : (len : Int) ≤ 60 := by omega
  have b0 : decide (1 ≤ s ∧ s ≤ 100) = true := decide_eq_true ⟨h1, h2⟩
  go_enter Try.func15, Try.ntmps15
  go_wp2_with (go_at_call 34; refine (rin_any _ _ _ _).mono ?_; rintro e wd ⟨rfl, rfl⟩)
  go_loopw [3] (fun v wr => SChk w s a len cap l v wr) (fun v _ => len - (intOf v).toNat)
  case atStart => exact ⟨⟨0, rfl, by omega, rfl⟩, bal (Below.refl _ _) _, Blk.new _ _ _⟩
  case round =>
    obtain ⟨⟨k, rfl, hk, h0⟩, hB, hX⟩ := hrel
    have hSr := Lib.hid (hS0.out.below hB)
    have H0 := Lib.hid h0
    have HB := Lib.hid hB
    have HX := Lib.hid hX
    have x0 : wr.cell? ⟨w.heap.size, 0, none⟩ = some (.int .i64 s) := hX.cell 0; have x1 : wr.cell? ⟨w.heap.size, 1, none⟩ = some (.slice a len cap) := hX.cell 1; have yx := hX.lt
    clear h0 hB hX
    by_cases hlt : k < len
    · have hlt' : (k : Int) < (len : Int) := by omega
      obtain ⟨b, off, rfl, c0, c1⟩ := hSr.out k (by rw [hlen.out]; exact hlt)
      have yb : b < wr.heap.size := World.block_lt_of_cell? wr _ c0
      generalize hd : (ob l k).1 = d at c0
      generalize hg : (ob l k).2 = g at c1
      have HD := Lib.hid hd
      have HG := Lib.hid hg
      clear hd hg
      by_cases a1 : dayOK d
      · by_cases a2 : greenOK g
        · have b1 : decide (0 ≤ d ∧ d ≤ 364) = true := decide_eq_true ⟨a1.1, by have := a1.2; omega⟩
          have b2 : decide (0 ≤ g ∧ g ≤ 1000) = true := decide_eq_true a2
          cases k with
          | zero =>
            simp only [Nat.zero_mul, Nat.add_zero] at c0 c1
            have E0 : Hid (errAt s l 0 = 0) := by
              show errAt s l 0 = 0
              unfold errAt
              rw [HD.out, HG.out, if_neg (by simp [a1, a2]), if_pos rfl]
            go_wp2_with (go_at_call 34; refine (rin_any _ _ _ _).mono ?_; rintro e wd ⟨rfl, rfl⟩)
            go_roundw
            case rel => exact ⟨⟨1, by go_num, by omega, chkUp_step H0.out E0.out⟩, bal HB.out _, HX.out.alloc _⟩
            case measure => simp [intOf]; omega
          | succ m =>
            have em := chkUp_zero H0.out m (by omega)
            obtain ⟨b', off', e', p0, p1⟩ := hSr.out m (by rw [hlen.out]; omega)
            injection e' with e'; injection e' with e1 e2; subst e1; subst e2
            obtain ⟨a3, a4⟩ := err_ok em
            generalize hpd : (ob l m).1 = pd at p0 a3
            generalize hpg : (ob l m).2 = pg at p1 a4
            have HPD := Lib.hid hpd
            have HPG := Lib.hid hpg
            clear hpd hpg em
            have r1 := a1.1; have r2 := a1.2; have r3 := a2.1; have r4 := a2.2; have r5 := a3.1; have r6 := a3.2; have r7 := a4.1; have r8 := a4.2
            clear a1 a2 a3 a4
            by_cases a5 : d ≤ pd
            · have E0 : Hid (errAt s l (m + 1) = 9) := err_9 ⟨HD.out ▸ ⟨r1, r2⟩, HG.out ▸ ⟨r3, r4⟩⟩ (by rw [HD.out]; show d ≤ (ob l m).1; rw [HPD.out]; exact a5)
              go_wp2_with (go_at_call 34; refine (rin_any _ _ _ _).mono ?_; rintro e wd ⟨rfl, rfl⟩)
              go_ret
              exact ⟨ret_int (by rw [hlen.out]; exact ((chkUp_stop H0.out (by rw [E0.out]; omega) hlt).trans E0.out).symm), by (repeat (with_reducible first | refine bdn ?_ _ | refine bal ?_ _ | refine bdr ?_ | exact HB.out))⟩
            · have hm0 : 0 ≤ s * (d - pd) := Int.mul_nonneg (by omega) (by omega)
              have hm1 : s * (d - pd) ≤ 100 * 364 := Int.mul_le_mul (by omega) (by omega) (by omega) (by omega)
              have hm : IntKind.i64.wrap (s * (d - pd)) = s * (d - pd) := IntWalk.i64_in _ (by omega)
              by_cases a6 : s * (d - pd) < dist g pg
              · have E0 : Hid (errAt s l (m + 1) = 60) := err_60 ⟨HD.out ▸ ⟨r1, r2⟩, HG.out ▸ ⟨r3, r4⟩⟩ (by rw [HD.out]; show ¬ d ≤ (ob l m).1; rw [HPD.out]; exact a5) (by rw [HD.out, HG.out]; show s * (d - (ob l m).1) < dist g (ob l m).2; rw [HPD.out, HPG.out]; exact a6)
                go_wp2_with (go_at_call 34; refine (rin_any _ _ _ _).mono ?_; rintro e wd ⟨rfl, rfl⟩)
                all_goals first
                  | (go_ret; exact ⟨ret_int (by rw [hlen.out]; exact ((chkUp_stop H0.out (by rw [E0.out]; omega) hlt).trans E0.out).symm), by (repeat (with_reducible first | refine bdn ?_ _ | refine bal ?_ _ | refine bdr ?_ | exact HB.out))⟩)
                  | (exfalso; unfold dist at a6; omega)
              · have E0 : Hid (errAt s l (m + 1) = 0) := err_0 ⟨HD.out ▸ ⟨r1, r2⟩, HG.out ▸ ⟨r3, r4⟩⟩ (by rw [HD.out]; show ¬ d ≤ (ob l m).1; rw [HPD.out]; exact a5) (by rw [HD.out, HG.out]; show ¬ s * (d - (ob l m).1) < dist g (ob l m).2; rw [HPD.out, HPG.out]; exact a6)
                go_wp2_with (go_at_call 34; refine (rin_any _ _ _ _).mono ?_; rintro e wd ⟨rfl, rfl⟩)
                all_goals first
                  | (exfalso; unfold dist at a6; omega)
                  | (go_roundw; (case rel => exact ⟨⟨m + 1 + 1, by go_num, by omega, chkUp_step H0.out E0.out⟩, bal (bal HB.out _) _, (HX.out.alloc _).alloc _⟩); (case measure => simp [intOf]; omega))
        · have b1 : decide (0 ≤ d ∧ d ≤ 364) = true := decide_eq_true ⟨a1.1, by have := a1.2; omega⟩
          have b2 : decide (0 ≤ g ∧ g ≤ 1000) = false := decide_eq_false a2
          have E0 : Hid (errAt s l k = 2) := err_2 (fun h => a2 (HG.out ▸ h.2))
          go_wp2_with (go_at_call 34; refine (rin_any _ _ _ _).mono ?_; rintro e wd ⟨rfl, rfl⟩)
          go_ret
          exact ⟨ret_int (by rw [hlen.out]; exact ((chkUp_stop H0.out (by rw [E0.out]; omega) hlt).trans E0.out).symm), by (repeat (with_reducible first | refine bdn ?_ _ | refine bal ?_ _ | refine bdr ?_ | exact HB.out))⟩
      · have b1 : decide (0 ≤ d ∧ d ≤ 364) = false := decide_eq_false (fun c => a1 ⟨c.1, by have := c.2; omega⟩)
        have E0 : Hid (errAt s l k = 2) := err_2 (fun h => a1 (HD.out ▸ h.1))
        go_wp2_with (go_at_call 34; refine (rin_any _ _ _ _).mono ?_; rintro e wd ⟨rfl, rfl⟩)
        go_ret
        exact ⟨ret_int (by rw [hlen.out]; exact ((chkUp_stop H0.out (by rw [E0.out]; omega) hlt).trans E0.out).symm), by (repeat (with_reducible first | refine bdn ?_ _ | refine bal ?_ _ | refine bdr ?_ | exact HB.out))⟩
    · have hkl : k = len := by omega
      subst hkl
      have hq : ¬ (k : Int) < (k : Int) := by omega
      go_wp2
      go_ret
      exact ⟨ret_int (by rw [hlen.out, H0.out]), HB.out⟩

theorem rcheck_any (s : Int) (a : Option Addr) (len cap : Nat) (l : List (Int × Int)) (w : World) (hS : Ser w a l) (hl : l.length = len) (hcap : len ≤ 9223372036854775807) :
    Calls Try.prog 15 #[.agg #[.int .i64 s, .slice a len cap]] w fun e w' => e = .returned (.int .i64 (chkS s l)) ∧ Below w.heap.size w w' := by
  unfold chkS
  by_cases h : s < 1 ∨ 100 < s
  · rw [if_pos h]; exact rcheck_slope _ _ _ _ _ _ hS hl hcap h
  · rw [if_neg h]
    by_cases h2 : 60 < l.length
    · rw [if_pos h2]; exact rcheck_limit _ _ _ _ _ _ hS hl hcap (by omega) (by omega) (by omega)
    · rw [if_neg h2]; exact rcheck_loop _ _ _ _ _ _ hS hl hcap (by omega) (by omega) (by omega)

end Go.Proofs.Ytlfcdjgmegfjoaa
