/- The season layer in plain words: which series are right, the bounds on a day, what is decided of a phase. -/
import Derived.Test.YtlfcdjgmegfjoaaMemo
namespace Go.Proofs.Ytlfcdjgmegfjoaa
open Go.RowKit

def ob (l : List (Int × Int)) (j : Nat) : Int × Int := l.getD j (0, 0)
def dist (a b : Int) : Int := max (a - b) (b - a)
def dayOK (n : Int) : Prop := 0 ≤ n ∧ n < 365
def greenOK (n : Int) : Prop := 0 ≤ n ∧ n ≤ 1000
instance (n : Int) : Decidable (dayOK n) := by unfold dayOK; infer_instance
instance (n : Int) : Decidable (greenOK n) := by unfold greenOK; infer_instance
def errAt (s : Int) (l : List (Int × Int)) (j : Nat) : Int :=
  if ¬ (dayOK (ob l j).1 ∧ greenOK (ob l j).2) then 2
  else if j = 0 then 0
  else if (ob l j).1 ≤ (ob l (j - 1)).1 then 9
  else if s * ((ob l j).1 - (ob l (j - 1)).1) < dist (ob l j).2 (ob l (j - 1)).2 then 60 else 0
/-- The first error of the first n. -/
def chkUp (e : Nat → Int) : Nat → Int
  | 0 => 0
  | n + 1 => if chkUp e n = 0 then e n else chkUp e n
theorem chkUp_stop {e : Nat → Int} {k n : Nat} (h0 : chkUp e k = 0) (h1 : e k ≠ 0) (hk : k < n) : chkUp e n = e k := by
  induction n with
  | zero => omega
  | succ n ih =>
    by_cases hkn : k = n
    · subst hkn; simp [chkUp, h0]
    · have := ih (by omega)
      simp only [chkUp]
      rw [this, if_neg h1]
theorem chkUp_step {e : Nat → Int} {k : Nat} (h0 : chkUp e k = 0) (h1 : e k = 0) : chkUp e (k + 1) = 0 := by simp [chkUp, h0, h1]
theorem chkUp_zero {e : Nat → Int} {n : Nat} (h : chkUp e n = 0) : ∀ j, j < n → e j = 0 := by
  induction n with
  | zero => intro j hj; omega
  | succ n ih =>
    simp only [chkUp] at h
    by_cases hc : chkUp e n = 0
    · rw [if_pos hc] at h
      intro j hj
      by_cases hjn : j = n
      · subst hjn; exact h
      · exact ih hc j (by omega)
    · rw [if_neg hc] at h; exact absurd h hc
def chkS (s : Int) (l : List (Int × Int)) : Int := if s < 1 ∨ 100 < s then 2 else if 60 < l.length then 1 else chkUp (errAt s l) l.length
def lowTo (s : Int) (l : List (Int × Int)) (d : Int) : Nat → Int
  | 0 => 0
  | k + 1 => max (lowTo s l d k) ((ob l k).2 - s * dist (ob l k).1 d)
def highTo (s : Int) (l : List (Int × Int)) (d : Int) : Nat → Int
  | 0 => 1000
  | k + 1 => min (highTo s l d k) ((ob l k).2 + s * dist (ob l k).1 d)
def lowB (s : Int) (l : List (Int × Int)) (d : Int) : Int := lowTo s l d l.length
def highB (s : Int) (l : List (Int × Int)) (d : Int) : Int := highTo s l d l.length
def phE (kind from_ until_ level : Int) : Int := if kind < 1 ∨ 4 < kind then 14 else if from_ < 0 ∨ until_ < from_ ∨ ¬ dayOK until_ ∨ ¬ greenOK level then 2 else 0

/-- The observations lie in memory. -/
def Ser (w : World) (a : Option Addr) (l : List (Int × Int)) : Prop :=
  ∀ j, j < l.length → ∃ b off : Nat, a = some ⟨b, off, none⟩ ∧ w.cell? ⟨b, off + j * 2, none⟩ = some (.int .i64 (ob l j).1) ∧ w.cell? ⟨b, off + j * 2 + 1, none⟩ = some (.int .i64 (ob l j).2)
theorem Ser.below {w wx : World} {a : Option Addr} {l : List (Int × Int)} (h : Ser w a l) (hb : Below w.heap.size w wx) : Ser wx a l := fun j hj => by
  obtain ⟨b, off, e, h1, h2⟩ := h j hj
  exact ⟨b, off, e, bc1 hb h1, bc1 hb h2⟩
theorem Ser.alloc {w : World} {a : Option Addr} {l : List (Int × Int)} (h : Ser w a l) (o : Obj) : Ser (w.alloc o) a l := h.below ((Below.refl _ _).alloc (Nat.le_refl _) o)
theorem Ser.drew {w : World} {a : Option Addr} {l : List (Int × Int)} (h : Ser w a l) : Ser w.drew a l := h
theorem Ser.drewN {w : World} {a : Option Addr} {l : List (Int × Int)} (h : Ser w a l) (n : Nat) : Ser (w.drewN n) a l := h
end Go.Proofs.Ytlfcdjgmegfjoaa
