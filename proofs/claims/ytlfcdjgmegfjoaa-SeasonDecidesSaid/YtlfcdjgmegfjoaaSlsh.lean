/- Whether a curve shows a phase: the law package's shows. -/
import Derived.Test.YtlfcdjgmegfjoaaSplain
namespace Go.Proofs.Ytlfcdjgmegfjoaa
open Go.RowKit Go.Shelf
set_option linter.unusedVariables false
set_option linter.unusedSimpArgs false

/-- A curve lies in memory: an index a day. -/
def CurV (w : World) (gl : Nat) (g : Int → Int) : Prop := ∀ j : Nat, j < 365 → w.cell? ⟨gl, j, none⟩ = some (.int .i64 (g j))
theorem CurV.below {w wx : World} {gl : Nat} {g : Int → Int} (h : CurV w gl g) (hb : Below w.heap.size w wx) : CurV wx gl g := fun j hj => bc1 hb (h j hj)
theorem CurV.alloc {w : World} {gl : Nat} {g : Int → Int} (h : CurV w gl g) (o : Obj) : CurV (w.alloc o) gl g := h.below ((Below.refl _ _).alloc (Nat.le_refl _) o)
theorem CurV.lt {w : World} {gl : Nat} {g : Int → Int} (h : CurV w gl g) : gl < w.heap.size := World.block_lt_of_cell? w _ (h 0 (by omega))

structure LSh (w : World) (k0 : Int) (fn : Nat) (u v : Int) (g : Int → Int) (so al d : Value) (wr : World) : Prop where
  ex : ∃ k : Nat, k ≤ (u + 1 - fn).toNat ∧ d = .int .i64 ((fn + k : Nat) : Int) ∧ so = .bool (anyD g k0 v (upto (fun j : Nat => (fn : Int) + (j : Int)) k)) ∧ al = .bool (allD g k0 v (upto (fun j : Nat => (fn : Int) + (j : Int)) k))
  below : Below w.heap.size w wr
  boxp : Blk wr w.heap.size 27 #[.int .i64 k0, .int .i64 fn, .int .i64 u, .int .i64 v]

set_option maxRecDepth 100000 in
set_option maxHeartbeats 8000000 in
theorem lshows_any (gl cap : Nat) (g : Int → Int) (k0 f u v : Int) (w : World) (hC : CurV w gl g) (hp : phE k0 f u v = 0) :
    Calls Try.prog 28 #[.slice (some ⟨gl, 0, none⟩) 365 cap, .agg #[.int .i64 k0, .int .i64 f, .int .i64 u, .int .i64 v]] w fun e w' => e = .returned (.bool (shw g k0 v (dayL f u))) ∧ Below w.heap.size w w' := by
  obtain ⟨hk1, hk4, hf0, hfu, hu, hv⟩ := phE_ok hp
  have hu1 := hu.1; have hu2 := hu.2; have hv1 := hv.1; have hv2 := hv.2
  obtain ⟨fn, rfl⟩ := Int.eq_ofNat_of_zero_le hf0
  have CC := Lib.hid hC
  clear hC hp hu hv
  go_enter Try.func28, Try.ntmps28
  go_wp2
  go_loopw [5, 6, 7] (fun so al d wr => LSh w k0 fn u v g so al d wr) (fun _ _ d _ => (u + 1 - intOf d).toNat)
  case atStart => exact ⟨⟨0, by omega, by simp, by simp [anyD, upto], by simp [allD, upto]⟩, bal (Below.refl _ _) _, Blk.fresh rfl⟩
  case round =>
    obtain ⟨⟨k, hk, rfl, rfl, rfl⟩, hB, hP⟩ := hrel
    have HB := Lib.hid hB; have HP := Lib.hid hP
    have p0 : wr.cell? ⟨w.heap.size, 0, none⟩ = some (.int .i64 k0) := hP.cell 0
    have p1 : wr.cell? ⟨w.heap.size, 2, none⟩ = some (.int .i64 u) := hP.cell 2
    have p3 : wr.cell? ⟨w.heap.size, 3, none⟩ = some (.int .i64 v) := hP.cell 3
    have yp := hP.lt
    clear hB hP
    by_cases hlt : ((fn + k : Nat) : Int) ≤ u
    · have hlt2 : fn + k < 365 := by omega
      have hlt3 : ((fn + k : Nat) : Int) < ((365 : Nat) : Int) := by omega
      have hd0 : (0 : Int) ≤ ((fn + k : Nat) : Int) := by omega
      have c0 : wr.cell? ⟨gl, fn + k, none⟩ = some (.int .i64 (g ((fn + k : Nat) : Int))) := (CC.out.below HB.out) (fn + k) hlt2
      have yg : gl < wr.heap.size := World.block_lt_of_cell? wr _ c0
      have ea : RowKit.Hid (anyD g k0 v (upto (fun j : Nat => (fn : Int) + (j : Int)) (k + 1)) = (anyD g k0 v (upto (fun j : Nat => (fn : Int) + (j : Int)) k) || okAt k0 v (g ((fn + k : Nat) : Int)))) := by
        rw [upto_succ, anyD_snoc]; exact Lib.hid (by simp)
      have eb : RowKit.Hid (allD g k0 v (upto (fun j : Nat => (fn : Int) + (j : Int)) (k + 1)) = (allD g k0 v (upto (fun j : Nat => (fn : Int) + (j : Int)) k) && okAt k0 v (g ((fn + k : Nat) : Int)))) := by
        rw [upto_succ, allD_snoc]; exact Lib.hid (by simp)
      generalize anyD g k0 v (upto (fun j : Nat => (fn : Int) + (j : Int)) k) = ba at ea ⊢
      generalize allD g k0 v (upto (fun j : Nat => (fn : Int) + (j : Int)) k) = bb at eb ⊢
      generalize g ((fn + k : Nat) : Int) = gx at ea eb c0
      obtain ⟨dd, hdd⟩ : ∃ dd : Nat, fn + k = dd := ⟨_, rfl⟩
      have HDD := Lib.hid hdd
      rw [hdd] at hlt hlt2 hlt3 hd0 c0 ⊢
      clear hdd
      obtain rfl | rfl | rfl | rfl : k0 = 1 ∨ k0 = 2 ∨ k0 = 3 ∨ k0 = 4 := by omega
      all_goals
        cases ba <;> cases bb
        all_goals
          go_wp2
          go_quiet (fail)
          go_wp2
          (try (go_quiet (fail); go_wp2))
          go_roundw
          case rel => exact ⟨⟨k + 1, by have := HDD.out; omega, by rw [← HDD.out]; congr 1, by rw [ea.out]; simp [okAt], by rw [eb.out]; simp [okAt]⟩, by first | exact bdn HB.out _ | exact bdn (bdn HB.out _) _, by first | exact HP.out.drewN _ | exact (HP.out.drewN _).drewN _⟩
          case measure => simp [intOf]; omega
    · have hkk : k = (u + 1 - fn).toNat := by omega
      have hdl : RowKit.Hid ((upto (fun j : Nat => (fn : Int) + (j : Int)) k) = dayL fn u) := by rw [hkk]; exact Lib.hid rfl
      clear hkk
      obtain rfl | rfl | rfl | rfl : k0 = 1 ∨ k0 = 2 ∨ k0 = 3 ∨ k0 = 4 := by omega
      all_goals
        go_wp2
        go_ret
        exact ⟨ret_bool (by rw [hdl.out]; simp [shw]), HB.out⟩
end Go.Proofs.Ytlfcdjgmegfjoaa
