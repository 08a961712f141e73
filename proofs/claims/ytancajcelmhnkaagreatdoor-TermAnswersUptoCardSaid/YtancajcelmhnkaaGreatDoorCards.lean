/-
  DERIVED. GIVEN WITH THE SEED: THE CARDS: each row of YtancajcelmhnkaaGreatDoorRows.lean that lists a variable, with what it lists TIED to the program's text (the seventh form; the later family's looks); each row that meets fmt, with fmt's text TOLD by the authors' own Lean function (tested against real Go, not proved from fmt's source: count such statements apart). THE CARD IS WHAT COUNTS. Prove the row's statement (the work); the ties are given (YtancajcelmhnkaaGreatDoorTie.lean); close each card by the builder's one call (the guide's Derived/Test/ToyasCard.lean, 'card_holds'). Laid BY PROGRAM, IN A SANDBOX (cutbox-door.mjs). By AI agents, Wed Nov 11 2026. No macro, syntax, notation, axiom, sorry.
-/
import Derived.Test.YtancajcelmhnkaaGreatDoorRows
import GoSem.ClaimSeven
namespace Go.Proofs.YtancajcelmhnkaaGreatDoor
namespace Rows

/-- THE TIED CARD OF 'landaidlaw16.TermHolds'. -/
def termHoldsCard : Claim7 := { stood := { row := termHoldsRow, standIns := [], harness := (true, "8cd369689c0c92864b45d0be6d29f494f2660f6abc233c9e406ec4d4b63f40d0"), looks := true }, kinds := [], alts := [], laidByText := true, laidKinds := [.data, .data, .data, .sentinel, .sentinel], laidTests := true, laidLooks := .later }
def TermHoldsCardSaid : Prop := Claim7.holds Tryz.pinned (.plain (OpenSpec.ofChange termHoldsSpec)) termHoldsCard

/-- THE TIED CARD OF 'landaidlaw16.TermDivides'. -/
def termDividesCard : Claim7 := { stood := { row := termDividesRow, standIns := [], harness := (true, "8cd369689c0c92864b45d0be6d29f494f2660f6abc233c9e406ec4d4b63f40d0"), looks := true }, kinds := [], alts := [], laidByText := true, laidKinds := [.data, .data, .data, .sentinel, .sentinel], laidTests := true, laidLooks := .later }
def TermDividesCardSaid : Prop := Claim7.holds Tryz.pinned (.plain (OpenSpec.ofChange termDividesSpec)) termDividesCard

/-- THE TIED CARD OF 'landaidlaw16.TermLogic'. -/
def termLogicCard : Claim7 := { stood := { row := termLogicRow, standIns := [], harness := (true, "8cd369689c0c92864b45d0be6d29f494f2660f6abc233c9e406ec4d4b63f40d0"), looks := true }, kinds := [], alts := [], laidByText := true, laidKinds := [.data, .data, .data, .sentinel, .sentinel], laidTests := true, laidLooks := .later }
def TermLogicCardSaid : Prop := Claim7.holds Tryz.pinned (.plain (OpenSpec.ofChange termLogicSpec)) termLogicCard

/-- THE TIED CARD OF 'landaidlaw16.TermLearns'. -/
def termLearnsCard : Claim7 := { stood := { row := termLearnsRow, standIns := [], harness := (true, "8cd369689c0c92864b45d0be6d29f494f2660f6abc233c9e406ec4d4b63f40d0"), looks := true }, kinds := [], alts := [], laidByText := true, laidKinds := [.data, .data, .data, .sentinel, .sentinel], laidTests := true, laidLooks := .later }
def TermLearnsCardSaid : Prop := Claim7.holds Tryz.pinned (.plain (OpenSpec.ofChange termLearnsSpec)) termLearnsCard

/-- THE TIED CARD OF 'landaidlaw16.TermBack'. -/
def termBackCard : Claim7 := { stood := { row := termBackRow, standIns := [], harness := (true, "8cd369689c0c92864b45d0be6d29f494f2660f6abc233c9e406ec4d4b63f40d0"), looks := true }, kinds := [], alts := [], laidByText := true, laidKinds := [.data, .data, .data, .sentinel, .sentinel, .listed, .data], laidTests := true, laidLooks := .later }
def TermBackCardSaid : Prop := Claim7.holds Tryz.pinned (.plain (OpenSpec.ofChange termBackSpec)) termBackCard

/-- THE TIED CARD OF 'landaidlaw16.TermAnswers'. -/
def termAnswersCard : Claim7 := { stood := { row := termAnswersRow, standIns := [], harness := (true, "8cd369689c0c92864b45d0be6d29f494f2660f6abc233c9e406ec4d4b63f40d0"), looks := true }, kinds := [], alts := [], laidByText := true, laidKinds := [.data, .data, .data, .sentinel, .sentinel, .listed, .data], laidTests := true, laidLooks := .later }
def TermAnswersCardSaid : Prop := Claim7.holds Tryz.pinned (.plain (OpenSpec.ofChange termAnswersSpec)) termAnswersCard

/-- THE SECOND FORM's CARD OF 'landaidlaw16.TermHolds'. -/
def termHoldsUptoCard : Claim7 := { stood := { row := termHoldsUptoRow, standIns := [], harness := (true, "8cd369689c0c92864b45d0be6d29f494f2660f6abc233c9e406ec4d4b63f40d0"), looks := true }, kinds := [], alts := [], laidByText := true, laidKinds := [.data, .data, .data, .sentinel, .sentinel], laidTests := true, laidLooks := .later }
def TermHoldsUptoCardSaid : Prop := Claim7.holds Tryz.pinned (.plain (OpenSpec.upto termHoldsSpec)) termHoldsUptoCard

/-- THE SECOND FORM's CARD OF 'landaidlaw16.TermDivides'. -/
def termDividesUptoCard : Claim7 := { stood := { row := termDividesUptoRow, standIns := [], harness := (true, "8cd369689c0c92864b45d0be6d29f494f2660f6abc233c9e406ec4d4b63f40d0"), looks := true }, kinds := [], alts := [], laidByText := true, laidKinds := [.data, .data, .data, .sentinel, .sentinel], laidTests := true, laidLooks := .later }
def TermDividesUptoCardSaid : Prop := Claim7.holds Tryz.pinned (.plain (OpenSpec.upto termDividesSpec)) termDividesUptoCard

/-- THE SECOND FORM's CARD OF 'landaidlaw16.TermLogic'. -/
def termLogicUptoCard : Claim7 := { stood := { row := termLogicUptoRow, standIns := [], harness := (true, "8cd369689c0c92864b45d0be6d29f494f2660f6abc233c9e406ec4d4b63f40d0"), looks := true }, kinds := [], alts := [], laidByText := true, laidKinds := [.data, .data, .data, .sentinel, .sentinel], laidTests := true, laidLooks := .later }
def TermLogicUptoCardSaid : Prop := Claim7.holds Tryz.pinned (.plain (OpenSpec.upto termLogicSpec)) termLogicUptoCard

/-- THE SECOND FORM's CARD OF 'landaidlaw16.TermLearns'. -/
def termLearnsUptoCard : Claim7 := { stood := { row := termLearnsUptoRow, standIns := [], harness := (true, "8cd369689c0c92864b45d0be6d29f494f2660f6abc233c9e406ec4d4b63f40d0"), looks := true }, kinds := [], alts := [], laidByText := true, laidKinds := [.data, .data, .data, .sentinel, .sentinel], laidTests := true, laidLooks := .later }
def TermLearnsUptoCardSaid : Prop := Claim7.holds Tryz.pinned (.plain (OpenSpec.upto termLearnsSpec)) termLearnsUptoCard

/-- THE SECOND FORM's CARD OF 'landaidlaw16.TermBack'. -/
def termBackUptoCard : Claim7 := { stood := { row := termBackUptoRow, standIns := [], harness := (true, "8cd369689c0c92864b45d0be6d29f494f2660f6abc233c9e406ec4d4b63f40d0"), looks := true }, kinds := [], alts := [], laidByText := true, laidKinds := [.data, .data, .data, .sentinel, .sentinel, .listed, .data], laidTests := true, laidLooks := .later }
def TermBackUptoCardSaid : Prop := Claim7.holds Tryz.pinned (.plain (OpenSpec.upto termBackSpec)) termBackUptoCard

/-- THE SECOND FORM's CARD OF 'landaidlaw16.TermAnswers'. -/
def termAnswersUptoCard : Claim7 := { stood := { row := termAnswersUptoRow, standIns := [], harness := (true, "8cd369689c0c92864b45d0be6d29f494f2660f6abc233c9e406ec4d4b63f40d0"), looks := true }, kinds := [], alts := [], laidByText := true, laidKinds := [.data, .data, .data, .sentinel, .sentinel, .listed, .data], laidTests := true, laidLooks := .later }
def TermAnswersUptoCardSaid : Prop := Claim7.holds Tryz.pinned (.plain (OpenSpec.upto termAnswersSpec)) termAnswersUptoCard
end Rows
end Go.Proofs.YtancajcelmhnkaaGreatDoor
