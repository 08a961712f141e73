/- words.Number, at the decimal text of a number below 100. -/
import Derived.Test.YtglhenobodndjaaGreatDoorRdn
import Derived.Lib.SmallJoins
namespace Go.Proofs.YtglhenobodndjaaGreatDoor
open Go.RowKit
set_option linter.unusedVariables false
set_option linter.unusedSimpArgs false

/-- The decimal text of a small number. -/
def digs (i : Nat) : ByteArray := ⟨(Lib.decDigits i).toArray⟩
theorem atoi_digs : ∀ i : Fin 100, Lib.atoi (Lib.decDigits i.val) = some (i.val : Int) ∧ (Lib.decDigits i.val).length ≤ 18 := by decide +kernel
set_option maxHeartbeats 2000000 in
theorem num_small (w : World) (i : Nat) (hi : i < 100) : NumAt w (digs i) (i, true) := fun W hW => by
  obtain ⟨h1, h2⟩ := atoi_digs ⟨i, hi⟩
  have hs : (digs i).data.toList = Lib.decDigits i := by simp [digs]
  have hA := fun W' => Tryz.strconv_Atoi (digs i) i (by show (digs i).data.size ≤ 18; rw [← Array.length_toList, hs]; exact h2) (by rw [hs]; exact h1) W'
  have hI := fun W' => Tryz.strconv_Itoa_small i hi W'
  rw [show (⟨(Lib.decDigits i).toArray⟩ : ByteArray) = digs i from rfl] at hI
  generalize digs i = s at hA hI ⊢
  have HA := Lib.hid hA; have HI := Lib.hid hI
  clear hA hI hs h1 h2
  have i0 : ¬ (i : Int) < 0 := by omega
  have i1 : ¬ (1125899906842624 : Int) < (i : Int) := by omega
  have i2 : ¬ (i : Int) > 1125899906842624 := by omega
  go_enter Tryz.func198, Tryz.ntmps198
  go_wp2_with (first
    | (go_at_call 201; refine (HA.out _).mono ?_; rintro e w1 ⟨rfl, t, rfl⟩)
    | (go_at_call 76; refine (HI.out _).mono ?_; rintro e w2 ⟨rfl, rfl⟩))
  go_ret2
  exact ⟨rfl, Joins.below_bytesWorld _ W _ t (Nat.le_refl _)⟩
end Go.Proofs.YtglhenobodndjaaGreatDoor
