/- What the lowest or the highest curve shows, and what is decided: the reference's. -/
import Derived.Test.YtlfcdjgmegfjoaaSop
namespace Go.Proofs.Ytlfcdjgmegfjoaa
open Go.RowKit Go.Shelf
set_option linter.unusedVariables false

/-- Whether an index is as a phase of this kind asks. -/
def okAt (k0 v x : Int) : Bool := if k0 = 2 ∨ k0 = 4 then decide (x ≤ v) else decide (v ≤ x)
def anyD (g : Int → Int) (k0 v : Int) (xs : List Int) : Bool := xs.any fun d => okAt k0 v (g d)
def allD (g : Int → Int) (k0 v : Int) (xs : List Int) : Bool := xs.all fun d => okAt k0 v (g d)
theorem anyD_snoc (g : Int → Int) (k0 v : Int) (xs : List Int) (x : Int) : anyD g k0 v (xs ++ [x]) = (anyD g k0 v xs || okAt k0 v (g x)) := by simp [anyD]
theorem allD_snoc (g : Int → Int) (k0 v : Int) (xs : List Int) (x : Int) : allD g k0 v (xs ++ [x]) = (allD g k0 v xs && okAt k0 v (g x)) := by simp [allD]
/-- Whether a curve shows a phase. -/
def shw (g : Int → Int) (k0 v : Int) (xs : List Int) : Bool := if k0 = 1 ∨ k0 = 2 then anyD g k0 v xs else allD g k0 v xs
def gB (s : Int) (l : List (Int × Int)) (hi : Bool) (x : Int) : Int := if hi then highB s l x else lowB s l x
def decR (s : Int) (l : List (Int × Int)) (k0 f u v : Int) : Int :=
  if shw (lowB s l) k0 v (dayL f u) && shw (highB s l) k0 v (dayL f u) then 1 else if !shw (lowB s l) k0 v (dayL f u) && !shw (highB s l) k0 v (dayL f u) then -1 else 0
def decRAny (s : Int) (l : List (Int × Int)) (k0 f u v : Int) : Int := if chkS s l = 0 then if phE k0 f u v = 0 then decR s l k0 f u v else 0 else 0

structure RSh (w : World) (s : Int) (a : Option Addr) (len cap : Nat) (l : List (Int × Int)) (k0 f u v : Int) (hi : Bool) (so al d : Value) (wr : World) : Prop where
  ex : ∃ k : Nat, k ≤ (u + 1 - f).toNat ∧ d = .int .i64 (f + k) ∧ so = .bool (anyD (gB s l hi) k0 v (upto (fun j : Nat => f + (j : Int)) k)) ∧ al = .bool (allD (gB s l hi) k0 v (upto (fun j : Nat => f + (j : Int)) k))
  below : Below w.heap.size w wr
  box : Blk wr w.heap.size 25 #[.int .i64 s, .slice a len cap]
  boxp : Blk wr (w.heap.size + 1) 27 #[.int .i64 k0, .int .i64 f, .int .i64 u, .int .i64 v]

set_option maxRecDepth 100000 in
set_option maxHeartbeats 8000000 in
theorem rshows_any (s : Int) (a : Option Addr) (len cap : Nat) (l : List (Int × Int)) (w : World) (hS : Ser w a l) (hl : l.length = len) (hcap : len ≤ 9223372036854775807) (k0 f u v : Int) (hc : chkS s l = 0) (hp : phE k0 f u v = 0) (hi : Bool) :
    Calls Try.prog 39 #[.agg #[.int .i64 s, .slice a len cap], .agg #[.int .i64 k0, .int .i64 f, .int .i64 u, .int .i64 v], .bool hi] w fun e w' => e = .returned (.bool (shw (gB s l hi) k0 v (dayL f u))) ∧ Below w.heap.size w w' := by
  obtain ⟨hk1, hk4, hf0, hfu, hu, hv⟩ := phE_ok hp
  have hu1 := hu.1; have hu2 := hu.2; have hv1 := hv.1; have hv2 := hv.2
  have SS := Lib.hid hS; have HC := Lib.hid hc; have HL := Lib.hid hl
  clear hS hc hl hp hu hv
  go_enter Try.func39, Try.ntmps39
  go_wp2
  go_loopw [7, 8, 9] (fun so al d wr => RSh w s a len cap l k0 f u v hi so al d wr) (fun _ _ d _ => (u + 1 - intOf d).toNat)
  case atStart => exact ⟨⟨0, by omega, by simp, by simp [anyD, upto], by simp [allD, upto]⟩, bal (bal (Below.refl _ _) _) _, Blk.alloc (Blk.fresh rfl) _, Blk.fresh (by simp)⟩
  case round =>
    obtain ⟨⟨k, hk, rfl, rfl, rfl⟩, hB, hX, hP⟩ := hrel
    have HB := Lib.hid hB; have HX := Lib.hid hX; have HP := Lib.hid hP
    have x0 : wr.cell? ⟨w.heap.size, 0, none⟩ = some (.int .i64 s) := hX.cell 0; have x1 : wr.cell? ⟨w.heap.size, 1, none⟩ = some (.slice a len cap) := hX.cell 1
    have p0 : wr.cell? ⟨w.heap.size + 1, 0, none⟩ = some (.int .i64 k0) := hP.cell 0
    have p1 : wr.cell? ⟨w.heap.size + 1, 2, none⟩ = some (.int .i64 u) := hP.cell 2
    have p3 : wr.cell? ⟨w.heap.size + 1, 3, none⟩ = some (.int .i64 v) := hP.cell 3
    have yx := hX.lt; have yp := hP.lt
    clear hB hX hP
    by_cases hlt : f + (k : Int) ≤ u
    · have HD : RowKit.Hid (dayOK (f + (k : Int))) := Lib.hid ⟨by omega, by omega⟩
      have ea : RowKit.Hid (anyD (gB s l hi) k0 v (upto (fun j : Nat => f + (j : Int)) (k + 1)) = (anyD (gB s l hi) k0 v (upto (fun j : Nat => f + (j : Int)) k) || okAt k0 v (gB s l hi (f + k)))) := by
        rw [upto_succ]; exact anyD_snoc _ _ _ _ _
      have eb : RowKit.Hid (allD (gB s l hi) k0 v (upto (fun j : Nat => f + (j : Int)) (k + 1)) = (allD (gB s l hi) k0 v (upto (fun j : Nat => f + (j : Int)) k) && okAt k0 v (gB s l hi (f + k)))) := by
        rw [upto_succ]; exact allD_snoc _ _ _ _ _
      generalize anyD (gB s l hi) k0 v (upto (fun j : Nat => f + (j : Int)) k) = ba at ea ⊢
      generalize allD (gB s l hi) k0 v (upto (fun j : Nat => f + (j : Int)) k) = bb at eb ⊢
      obtain rfl | rfl | rfl | rfl : k0 = 1 ∨ k0 = 2 ∨ k0 = 3 ∨ k0 = 4 := by omega
      all_goals
        cases hi <;> cases ba <;> cases bb
        all_goals
          go_wp2_with (go_at_call 36; refine (rbounds_any s a len cap l wr (SS.out.below HB.out) HL.out HC.out (f + k) HD.out).mono ?_; rintro e w1 ⟨rfl, hb1⟩; have HB1 := Lib.hid hb1; have z1 := hb1.size; have P1 := HP.out.below hb1; have r0 : w1.cell? ⟨w.heap.size + 1, 0, none⟩ = some (.int .i64 _) := P1.cell 0; have r2 : w1.cell? ⟨w.heap.size + 1, 2, none⟩ = some (.int .i64 u) := P1.cell 2; have r3 : w1.cell? ⟨w.heap.size + 1, 3, none⟩ = some (.int .i64 v) := P1.cell 3; have yp1 := P1.lt; clear hb1; replace P1 := Lib.hid P1)
          go_roundw
          case rel => exact ⟨⟨k + 1, by omega, by congr 1; omega, by rw [ea.out]; simp [okAt, gB], by rw [eb.out]; simp [okAt, gB]⟩, btr HB.out HB1.out, HX.out.below HB1.out, P1.out⟩
          case measure => simp [intOf]; omega
    · have hkk : k = (u + 1 - f).toNat := by omega
      have hdl : RowKit.Hid (upto (fun j : Nat => f + (j : Int)) k = dayL f u) := by rw [hkk]; exact Lib.hid rfl
      clear hkk
      obtain rfl | rfl | rfl | rfl : k0 = 1 ∨ k0 = 2 ∨ k0 = 3 ∨ k0 = 4 := by omega
      all_goals
        go_wp2
        go_ret
        exact ⟨ret_bool (by rw [hdl.out]; simp [shw]), HB.out⟩

end Go.Proofs.Ytlfcdjgmegfjoaa
