/-
  No cell of these rows narrows 'for every input' (looked for: loops, veiled, ifaces, maps, wideKeys, modest, calm, conditions, laid).
  DERIVED. THE GIVEN ROWS OF THIS SEAT. 4 by the template 'for every input the law returns true; each argument reads behind the call as it read before'; 0 by the template 'total and deterministic' (their statements: YtldhcgihhknmjaaTotals.lean).
  GIVEN WITH THE SEED: the statements are not yours to turn. If you find one false, say at which input.
  Laid BY PROGRAM, IN A SANDBOX (cutbox-rows.mjs): the forced cells as the released guide's own fill.sh prints them over the translation a9f11e80cee839fb… (all of the seat's roots in one cut). By AI agents, Wed Nov 11 2026. No macro, syntax, notation, axiom, sorry.
-/
import Derived.Test.YtldhcgihhknmjaaChecked
import GoSem.Claim
import GoSem.ClaimJoined
import GoSem.ClaimMapViews
import Derived.JoinedTies
import Derived.KernelRfl
namespace Go.Proofs.Ytldhcgihhknmjaa
/- THE CELL 'sum', in the pinned program and in every row, IS THE sha256 OF THE DUMP (.gsa) THAT YtldhcgihhknmjaaProg.lean LOADS. Nothing in Lean hashes anything: it is a label: what it is worth is what the hold of that sum in a sandbox is worth. -/
noncomputable def Try.pinned : Pinned := { name := "ytldhcgihhknmjaa", sum := "a9f11e80cee839fb5dcb1e6ab79e60b9399698b91156d4bfb848167e117e2c55", checked := Try.checked }
namespace Rows
def none {H : Type} : Left H := { results := [], args := [] }

/-- 'landaidlaw37.AppealTicks': WHATEVER THE INPUT: true; the input reads as it did. -/
def appealTicksSpec : ChangeSpec := { name := "appealTicks", fn := fun _ => fun
  | [d1, d2] => { results := [.lit (.bool true)], args := [d1, d2] }
  | _ => none }
def appealTicksRow : OpenClaim := { program := "ytldhcgihhknmjaa", sum := "a9f11e80cee839fb5dcb1e6ab79e60b9399698b91156d4bfb848167e117e2c55", func := "landaid/landaidlaw37.AppealTicks", spec := "appealTicks", apart := false }
def AppealTicksSaid : Prop := appealTicksRow.holds Try.pinned (OpenSpec.ofChange appealTicksSpec)

/-- ITS FALSE NEIGHBOUR: 'it returns false'. Refute it at one input. -/
def appealTicksWrong : ChangeSpec := { name := "appealTicks", fn := fun _ => fun
  | [d1, d2] => { results := [.lit (.bool false)], args := [d1, d2] }
  | _ => none }
def AppealTicksWrongFalsely : Prop := appealTicksRow.holds Try.pinned (OpenSpec.ofChange appealTicksWrong)

/-- 'landaidlaw37.AppealAnswers': WHATEVER THE INPUT: true; the input reads as it did. -/
def appealAnswersSpec : ChangeSpec := { name := "appealAnswers", fn := fun _ => fun
  | [d1, d2, d3, d4, d5, d6] => { results := [.lit (.bool true)], args := [d1, d2, d3, d4, d5, d6] }
  | _ => none }
def appealAnswersRow : OpenClaim := { program := "ytldhcgihhknmjaa", sum := "a9f11e80cee839fb5dcb1e6ab79e60b9399698b91156d4bfb848167e117e2c55", func := "landaid/landaidlaw37.AppealAnswers", spec := "appealAnswers", apart := false }
def AppealAnswersSaid : Prop := appealAnswersRow.holds Try.pinned (OpenSpec.ofChange appealAnswersSpec)

/-- ITS FALSE NEIGHBOUR: 'it returns false'. Refute it at one input. -/
def appealAnswersWrong : ChangeSpec := { name := "appealAnswers", fn := fun _ => fun
  | [d1, d2, d3, d4, d5, d6] => { results := [.lit (.bool false)], args := [d1, d2, d3, d4, d5, d6] }
  | _ => none }
def AppealAnswersWrongFalsely : Prop := appealAnswersRow.holds Try.pinned (OpenSpec.ofChange appealAnswersWrong)

/-- 'landaidlaw37.AppealEnds': WHATEVER THE INPUT: true; the input reads as it did. -/
def appealEndsSpec : ChangeSpec := { name := "appealEnds", fn := fun _ => fun
  | [d] => { results := [.lit (.bool true)], args := [d] }
  | _ => none }
def appealEndsRow : OpenClaim := { program := "ytldhcgihhknmjaa", sum := "a9f11e80cee839fb5dcb1e6ab79e60b9399698b91156d4bfb848167e117e2c55", func := "landaid/landaidlaw37.AppealEnds", spec := "appealEnds", apart := false }
def AppealEndsSaid : Prop := appealEndsRow.holds Try.pinned (OpenSpec.ofChange appealEndsSpec)

/-- ITS FALSE NEIGHBOUR: 'it returns false'. Refute it at one input. -/
def appealEndsWrong : ChangeSpec := { name := "appealEnds", fn := fun _ => fun
  | [d] => { results := [.lit (.bool false)], args := [d] }
  | _ => none }
def AppealEndsWrongFalsely : Prop := appealEndsRow.holds Try.pinned (OpenSpec.ofChange appealEndsWrong)

/-- 'landaidlaw37.AppealDue': WHATEVER THE INPUT: true; the input reads as it did. -/
def appealDueSpec : ChangeSpec := { name := "appealDue", fn := fun _ => fun
  | [d] => { results := [.lit (.bool true)], args := [d] }
  | _ => none }
def appealDueRow : OpenClaim := { program := "ytldhcgihhknmjaa", sum := "a9f11e80cee839fb5dcb1e6ab79e60b9399698b91156d4bfb848167e117e2c55", func := "landaid/landaidlaw37.AppealDue", spec := "appealDue", apart := false }
def AppealDueSaid : Prop := appealDueRow.holds Try.pinned (OpenSpec.ofChange appealDueSpec)

/-- ITS FALSE NEIGHBOUR: 'it returns false'. Refute it at one input. -/
def appealDueWrong : ChangeSpec := { name := "appealDue", fn := fun _ => fun
  | [d] => { results := [.lit (.bool false)], args := [d] }
  | _ => none }
def AppealDueWrongFalsely : Prop := appealDueRow.holds Try.pinned (OpenSpec.ofChange appealDueWrong)

/- THE SECOND FORM. 'bulk': how many values and letters a reading holds, each counted each time it is reached (what is shared counts as often as it is met; a slice's spare places count too). A statement '..UptoSaid' is the law's where the arguments, and the package variables that the reading takes, are together of bulk at most 1048576: NARROWER than '..Said'. Prove '..Said' where nothing that the law and all that it calls make is longer than what came in: it says more and counts as full. Else prove '..UptoSaid'. A law counts once. -/
mutual
def uptoBulk {H : Type} : DataW H → Nat
  | .lit (.string bytes) => bytes.length + 1
  | .lit _ => 1
  | .nil => 1
  | .ptr d => uptoBulk d + 1
  | .slice elems spare => uptoBulkAll elems + uptoBulkAll spare + 1
  | .agg parts => uptoBulkAll parts + 1
  | .iface _ d => uptoBulk d + 1
  | .map entries => uptoBulkEntries entries + 1
  | .held _ => 1
def uptoBulkAll {H : Type} : List (DataW H) → Nat
  | [] => 0
  | d :: r => uptoBulk d + uptoBulkAll r
def uptoBulkEntries {H : Type} : List (Lit × DataW H) → Nat
  | [] => 0
  | x :: r => uptoBulkEntry x + uptoBulkEntries r
def uptoBulkEntry {H : Type} : Lit × DataW H → Nat
  | (.string bytes, d) => bytes.length + uptoBulk d + 1
  | (_, d) => uptoBulk d + 1
 end
def uptoSmall : (H : Type) → List (DataW H) → Bool := fun _ ds => decide (uptoBulkAll ds ≤ 1048576)
def OpenSpec.upto (s : _root_.Go.ChangeSpec) : _root_.Go.OpenSpec := { _root_.Go.OpenSpec.ofChange s with cond := some uptoSmall }

/-- 'landaidlaw37.AppealTicks', WHERE WHAT IT READS IS OF BULK AT MOST 1048576: true; the input reads as it did. -/
def appealTicksUptoRow : OpenClaim := { program := "ytldhcgihhknmjaa", sum := "a9f11e80cee839fb5dcb1e6ab79e60b9399698b91156d4bfb848167e117e2c55", func := "landaid/landaidlaw37.AppealTicks", spec := "appealTicks", apart := false, narrowed := true }
def AppealTicksUptoSaid : Prop := appealTicksUptoRow.holds Try.pinned (OpenSpec.upto appealTicksSpec)

/-- 'landaidlaw37.AppealAnswers', WHERE WHAT IT READS IS OF BULK AT MOST 1048576: true; the input reads as it did. -/
def appealAnswersUptoRow : OpenClaim := { program := "ytldhcgihhknmjaa", sum := "a9f11e80cee839fb5dcb1e6ab79e60b9399698b91156d4bfb848167e117e2c55", func := "landaid/landaidlaw37.AppealAnswers", spec := "appealAnswers", apart := false, narrowed := true }
def AppealAnswersUptoSaid : Prop := appealAnswersUptoRow.holds Try.pinned (OpenSpec.upto appealAnswersSpec)

/-- 'landaidlaw37.AppealEnds', WHERE WHAT IT READS IS OF BULK AT MOST 1048576: true; the input reads as it did. -/
def appealEndsUptoRow : OpenClaim := { program := "ytldhcgihhknmjaa", sum := "a9f11e80cee839fb5dcb1e6ab79e60b9399698b91156d4bfb848167e117e2c55", func := "landaid/landaidlaw37.AppealEnds", spec := "appealEnds", apart := false, narrowed := true }
def AppealEndsUptoSaid : Prop := appealEndsUptoRow.holds Try.pinned (OpenSpec.upto appealEndsSpec)

/-- 'landaidlaw37.AppealDue', WHERE WHAT IT READS IS OF BULK AT MOST 1048576: true; the input reads as it did. -/
def appealDueUptoRow : OpenClaim := { program := "ytldhcgihhknmjaa", sum := "a9f11e80cee839fb5dcb1e6ab79e60b9399698b91156d4bfb848167e117e2c55", func := "landaid/landaidlaw37.AppealDue", spec := "appealDue", apart := false, narrowed := true }
def AppealDueUptoSaid : Prop := appealDueUptoRow.holds Try.pinned (OpenSpec.upto appealDueSpec)

end Rows
end Go.Proofs.Ytldhcgihhknmjaa
