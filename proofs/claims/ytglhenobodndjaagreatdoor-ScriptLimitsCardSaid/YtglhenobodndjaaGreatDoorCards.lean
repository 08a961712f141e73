/-
  DERIVED. GIVEN WITH THE SEED: THE CARDS: each row of YtglhenobodndjaaGreatDoorRows.lean that lists a variable, with what it lists TIED to the program's text (the seventh form; the later family's looks); each row that meets fmt, with fmt's text TOLD by the authors' own Lean function (tested against real Go, not proved from fmt's source: count such statements apart). THE CARD IS WHAT COUNTS. Prove the row's statement (the work); the ties are given (YtglhenobodndjaaGreatDoorTie.lean); close each card by the builder's one call (the guide's Derived/Test/ToyasCard.lean, 'card_holds'). Laid BY PROGRAM, IN A SANDBOX (cutbox-door.mjs). By AI agents, Wed Nov 11 2026. No macro, syntax, notation, axiom, sorry.
-/
import Derived.Test.YtglhenobodndjaaGreatDoorRows
import GoSem.ClaimSeven
namespace Go.Proofs.YtglhenobodndjaaGreatDoor
namespace Rows

/-- THE TIED CARD OF 'landaidlaw42.ScriptAnswers'. -/
def scriptAnswersCard : Claim7 := { stood := { row := scriptAnswersRow, standIns := [], harness := (true, "d6fe8e794ba38d7fde8584b841d9e991a0547b45e2bd9c9bc4456ebaf6546492"), looks := true }, kinds := [], alts := [], laidByText := true, laidKinds := [.data, .data, .data, .data, .pinned], laidTests := true, laidLooks := .later }
def ScriptAnswersCardSaid : Prop := Claim7.holds Tryz.pinned (.plain (OpenSpec.ofChange scriptAnswersSpec)) scriptAnswersCard

/-- THE TIED CARD OF 'landaidlaw42.ScriptTexts'. -/
def scriptTextsCard : Claim7 := { stood := { row := scriptTextsRow, standIns := [], harness := (true, "d6fe8e794ba38d7fde8584b841d9e991a0547b45e2bd9c9bc4456ebaf6546492"), looks := true }, kinds := [], alts := [], laidByText := true, laidKinds := [.data, .data, .data, .data, .pinned], laidTests := true, laidLooks := .later }
def ScriptTextsCardSaid : Prop := Claim7.holds Tryz.pinned (.plain (OpenSpec.ofChange scriptTextsSpec)) scriptTextsCard

/-- THE TIED CARD OF 'landaidlaw42.ScriptBack'. -/
def scriptBackCard : Claim7 := { stood := { row := scriptBackRow, standIns := [], harness := (true, "d6fe8e794ba38d7fde8584b841d9e991a0547b45e2bd9c9bc4456ebaf6546492"), looks := true }, kinds := [], alts := [], laidByText := true, laidKinds := [.data, .pinned], laidTests := true, laidLooks := .later }
def ScriptBackCardSaid : Prop := Claim7.holds Tryz.pinned (.plain (OpenSpec.ofChange scriptBackSpec)) scriptBackCard

/-- THE TIED CARD OF 'landaidlaw42.ScriptLimits'. -/
def scriptLimitsCard : Claim7 := { stood := { row := scriptLimitsRow, standIns := [], harness := (true, "d6fe8e794ba38d7fde8584b841d9e991a0547b45e2bd9c9bc4456ebaf6546492"), looks := true }, kinds := [], alts := [], laidByText := true, laidKinds := [.data, .pinned], laidTests := true, laidLooks := .later }
def ScriptLimitsCardSaid : Prop := Claim7.holds Tryz.pinned (.plain (OpenSpec.ofChange scriptLimitsSpec)) scriptLimitsCard

/-- THE SECOND FORM's CARD OF 'landaidlaw42.ScriptAnswers'. -/
def scriptAnswersUptoCard : Claim7 := { stood := { row := scriptAnswersUptoRow, standIns := [], harness := (true, "d6fe8e794ba38d7fde8584b841d9e991a0547b45e2bd9c9bc4456ebaf6546492"), looks := true }, kinds := [], alts := [], laidByText := true, laidKinds := [.data, .data, .data, .data, .pinned], laidTests := true, laidLooks := .later }
def ScriptAnswersUptoCardSaid : Prop := Claim7.holds Tryz.pinned (.plain (OpenSpec.upto scriptAnswersSpec)) scriptAnswersUptoCard

/-- THE SECOND FORM's CARD OF 'landaidlaw42.ScriptTexts'. -/
def scriptTextsUptoCard : Claim7 := { stood := { row := scriptTextsUptoRow, standIns := [], harness := (true, "d6fe8e794ba38d7fde8584b841d9e991a0547b45e2bd9c9bc4456ebaf6546492"), looks := true }, kinds := [], alts := [], laidByText := true, laidKinds := [.data, .data, .data, .data, .pinned], laidTests := true, laidLooks := .later }
def ScriptTextsUptoCardSaid : Prop := Claim7.holds Tryz.pinned (.plain (OpenSpec.upto scriptTextsSpec)) scriptTextsUptoCard

/-- THE SECOND FORM's CARD OF 'landaidlaw42.ScriptBack'. -/
def scriptBackUptoCard : Claim7 := { stood := { row := scriptBackUptoRow, standIns := [], harness := (true, "d6fe8e794ba38d7fde8584b841d9e991a0547b45e2bd9c9bc4456ebaf6546492"), looks := true }, kinds := [], alts := [], laidByText := true, laidKinds := [.data, .pinned], laidTests := true, laidLooks := .later }
def ScriptBackUptoCardSaid : Prop := Claim7.holds Tryz.pinned (.plain (OpenSpec.upto scriptBackSpec)) scriptBackUptoCard

/-- THE SECOND FORM's CARD OF 'landaidlaw42.ScriptLimits'. -/
def scriptLimitsUptoCard : Claim7 := { stood := { row := scriptLimitsUptoRow, standIns := [], harness := (true, "d6fe8e794ba38d7fde8584b841d9e991a0547b45e2bd9c9bc4456ebaf6546492"), looks := true }, kinds := [], alts := [], laidByText := true, laidKinds := [.data, .pinned], laidTests := true, laidLooks := .later }
def ScriptLimitsUptoCardSaid : Prop := Claim7.holds Tryz.pinned (.plain (OpenSpec.upto scriptLimitsSpec)) scriptLimitsUptoCard
end Rows
end Go.Proofs.YtglhenobodndjaaGreatDoor
