/-
  No cell of these rows narrows 'for every input' (looked for: loops, veiled, ifaces, maps, wideKeys, modest, calm, conditions, laid).
  DERIVED. THE GIVEN ROWS OF THIS SEAT. 6 by the template 'for every input the law returns true; each argument reads behind the call as it read before'; 0 by the template 'total and deterministic' (their statements: YtlfcdjgmegfjoaaTotals.lean).
  GIVEN WITH THE SEED: the statements are not yours to turn. If you find one false, say at which input.
  Laid BY PROGRAM, IN A SANDBOX (cutbox-rows.mjs): the forced cells as the released guide's own fill.sh prints them over the translation d80d690b54ef0f59… (all of the seat's roots in one cut). By AI agents, Wed Nov 11 2026. No macro, syntax, notation, axiom, sorry.
-/
import Derived.Test.YtlfcdjgmegfjoaaChecked
import GoSem.Claim
import GoSem.ClaimJoined
import GoSem.ClaimMapViews
import Derived.JoinedTies
import Derived.KernelRfl
namespace Go.Proofs.Ytlfcdjgmegfjoaa
/- THE CELL 'sum', in the pinned program and in every row, IS THE sha256 OF THE DUMP (.gsa) THAT YtlfcdjgmegfjoaaProg.lean LOADS. Nothing in Lean hashes anything: it is a label: what it is worth is what the hold of that sum in a sandbox is worth. -/
noncomputable def Try.pinned : Pinned := { name := "ytlfcdjgmegfjoaa", sum := "d80d690b54ef0f5931f1a79dd74f2dcc102b69b716a925e8878d2fbb2cda7038", checked := Try.checked }
namespace Rows
def none {H : Type} : Left H := { results := [], args := [] }

/-- 'landaidlaw23.SeasonChecks': WHATEVER THE INPUT: true; the input reads as it did. -/
def seasonChecksSpec : ChangeSpec := { name := "seasonChecks", fn := fun _ => fun
  | [d1, d2, d3, d4, d5, d6] => { results := [.lit (.bool true)], args := [d1, d2, d3, d4, d5, d6] }
  | _ => none }
def seasonChecksRow : OpenClaim := { program := "ytlfcdjgmegfjoaa", sum := "d80d690b54ef0f5931f1a79dd74f2dcc102b69b716a925e8878d2fbb2cda7038", func := "landaid/landaidlaw23.SeasonChecks", spec := "seasonChecks", unfollowed := true, recurses := true, apart := false }
def SeasonChecksSaid : Prop := seasonChecksRow.holds Try.pinned (OpenSpec.ofChange seasonChecksSpec)

/-- ITS FALSE NEIGHBOUR: 'it returns false'. Refute it at one input. -/
def seasonChecksWrong : ChangeSpec := { name := "seasonChecks", fn := fun _ => fun
  | [d1, d2, d3, d4, d5, d6] => { results := [.lit (.bool false)], args := [d1, d2, d3, d4, d5, d6] }
  | _ => none }
def SeasonChecksWrongFalsely : Prop := seasonChecksRow.holds Try.pinned (OpenSpec.ofChange seasonChecksWrong)

/-- 'landaidlaw23.SeasonDecides': WHATEVER THE INPUT: true; the input reads as it did. -/
def seasonDecidesSpec : ChangeSpec := { name := "seasonDecides", fn := fun _ => fun
  | [d1, d2, d3] => { results := [.lit (.bool true)], args := [d1, d2, d3] }
  | _ => none }
def seasonDecidesRow : OpenClaim := { program := "ytlfcdjgmegfjoaa", sum := "d80d690b54ef0f5931f1a79dd74f2dcc102b69b716a925e8878d2fbb2cda7038", func := "landaid/landaidlaw23.SeasonDecides", spec := "seasonDecides", unfollowed := true, recurses := true, apart := false }
def SeasonDecidesSaid : Prop := seasonDecidesRow.holds Try.pinned (OpenSpec.ofChange seasonDecidesSpec)

/-- ITS FALSE NEIGHBOUR: 'it returns false'. Refute it at one input. -/
def seasonDecidesWrong : ChangeSpec := { name := "seasonDecides", fn := fun _ => fun
  | [d1, d2, d3] => { results := [.lit (.bool false)], args := [d1, d2, d3] }
  | _ => none }
def SeasonDecidesWrongFalsely : Prop := seasonDecidesRow.holds Try.pinned (OpenSpec.ofChange seasonDecidesWrong)

/-- 'landaidlaw23.SeasonTrue': WHATEVER THE INPUT: true; the input reads as it did. -/
def seasonTrueSpec : ChangeSpec := { name := "seasonTrue", fn := fun _ => fun
  | [d] => { results := [.lit (.bool true)], args := [d] }
  | _ => none }
def seasonTrueRow : OpenClaim := { program := "ytlfcdjgmegfjoaa", sum := "d80d690b54ef0f5931f1a79dd74f2dcc102b69b716a925e8878d2fbb2cda7038", func := "landaid/landaidlaw23.SeasonTrue", spec := "seasonTrue", unfollowed := true, recurses := true, apart := false }
def SeasonTrueSaid : Prop := seasonTrueRow.holds Try.pinned (OpenSpec.ofChange seasonTrueSpec)

/-- ITS FALSE NEIGHBOUR: 'it returns false'. Refute it at one input. -/
def seasonTrueWrong : ChangeSpec := { name := "seasonTrue", fn := fun _ => fun
  | [d] => { results := [.lit (.bool false)], args := [d] }
  | _ => none }
def SeasonTrueWrongFalsely : Prop := seasonTrueRow.holds Try.pinned (OpenSpec.ofChange seasonTrueWrong)

/-- 'landaidlaw23.SeasonMore': WHATEVER THE INPUT: true; the input reads as it did. -/
def seasonMoreSpec : ChangeSpec := { name := "seasonMore", fn := fun _ => fun
  | [d1, d2] => { results := [.lit (.bool true)], args := [d1, d2] }
  | _ => none }
def seasonMoreRow : OpenClaim := { program := "ytlfcdjgmegfjoaa", sum := "d80d690b54ef0f5931f1a79dd74f2dcc102b69b716a925e8878d2fbb2cda7038", func := "landaid/landaidlaw23.SeasonMore", spec := "seasonMore", unfollowed := true, recurses := true, apart := false }
def SeasonMoreSaid : Prop := seasonMoreRow.holds Try.pinned (OpenSpec.ofChange seasonMoreSpec)

/-- ITS FALSE NEIGHBOUR: 'it returns false'. Refute it at one input. -/
def seasonMoreWrong : ChangeSpec := { name := "seasonMore", fn := fun _ => fun
  | [d1, d2] => { results := [.lit (.bool false)], args := [d1, d2] }
  | _ => none }
def SeasonMoreWrongFalsely : Prop := seasonMoreRow.holds Try.pinned (OpenSpec.ofChange seasonMoreWrong)

/-- 'landaidlaw23.SeasonKinds': WHATEVER THE INPUT: true; the input reads as it did. -/
def seasonKindsSpec : ChangeSpec := { name := "seasonKinds", fn := fun _ => fun
  | [d] => { results := [.lit (.bool true)], args := [d] }
  | _ => none }
def seasonKindsRow : OpenClaim := { program := "ytlfcdjgmegfjoaa", sum := "d80d690b54ef0f5931f1a79dd74f2dcc102b69b716a925e8878d2fbb2cda7038", func := "landaid/landaidlaw23.SeasonKinds", spec := "seasonKinds", unfollowed := true, recurses := true, apart := false }
def SeasonKindsSaid : Prop := seasonKindsRow.holds Try.pinned (OpenSpec.ofChange seasonKindsSpec)

/-- ITS FALSE NEIGHBOUR: 'it returns false'. Refute it at one input. -/
def seasonKindsWrong : ChangeSpec := { name := "seasonKinds", fn := fun _ => fun
  | [d] => { results := [.lit (.bool false)], args := [d] }
  | _ => none }
def SeasonKindsWrongFalsely : Prop := seasonKindsRow.holds Try.pinned (OpenSpec.ofChange seasonKindsWrong)

/-- 'landaidlaw23.SeasonExact': WHATEVER THE INPUT: true; the input reads as it did. -/
def seasonExactSpec : ChangeSpec := { name := "seasonExact", fn := fun _ => fun
  | [d] => { results := [.lit (.bool true)], args := [d] }
  | _ => none }
def seasonExactRow : OpenClaim := { program := "ytlfcdjgmegfjoaa", sum := "d80d690b54ef0f5931f1a79dd74f2dcc102b69b716a925e8878d2fbb2cda7038", func := "landaid/landaidlaw23.SeasonExact", spec := "seasonExact", unfollowed := true, recurses := true, apart := false }
def SeasonExactSaid : Prop := seasonExactRow.holds Try.pinned (OpenSpec.ofChange seasonExactSpec)

/-- ITS FALSE NEIGHBOUR: 'it returns false'. Refute it at one input. -/
def seasonExactWrong : ChangeSpec := { name := "seasonExact", fn := fun _ => fun
  | [d] => { results := [.lit (.bool false)], args := [d] }
  | _ => none }
def SeasonExactWrongFalsely : Prop := seasonExactRow.holds Try.pinned (OpenSpec.ofChange seasonExactWrong)

/- THE SECOND FORM. 'bulk': how many values and letters a reading holds, each counted each time it is reached (what is shared counts as often as it is met; a slice's spare places count too). A statement '..UptoSaid' is the law's where the arguments, and the package variables that the reading takes, are together of bulk at most 1048576: NARROWER than '..Said'. Prove '..Said' where nothing that the law and all that it calls make is longer than what came in: it says more and counts as full. Else prove '..UptoSaid'. A law counts once. -/
mutual
def uptoBulk {H : Type} : DataW H → Nat
  | .lit (.string bytes) => bytes.length + 1
  | .lit _ => 1
  | .nil => 1
  | .ptr d => uptoBulk d + 1
  | .slice elems spare => uptoBulkAll elems + uptoBulkAll spare + 1
  | .agg parts => uptoBulkAll parts + 1
  | .iface _ d => uptoBulk d + 1
  | .map entries => uptoBulkEntries entries + 1
  | .held _ => 1
def uptoBulkAll {H : Type} : List (DataW H) → Nat
  | [] => 0
  | d :: r => uptoBulk d + uptoBulkAll r
def uptoBulkEntries {H : Type} : List (Lit × DataW H) → Nat
  | [] => 0
  | x :: r => uptoBulkEntry x + uptoBulkEntries r
def uptoBulkEntry {H : Type} : Lit × DataW H → Nat
  | (.string bytes, d) => bytes.length + uptoBulk d + 1
  | (_, d) => uptoBulk d + 1
 end
def uptoSmall : (H : Type) → List (DataW H) → Bool := fun _ ds => decide (uptoBulkAll ds ≤ 1048576)
def OpenSpec.upto (s : _root_.Go.ChangeSpec) : _root_.Go.OpenSpec := { _root_.Go.OpenSpec.ofChange s with cond := some uptoSmall }

/-- 'landaidlaw23.SeasonChecks', WHERE WHAT IT READS IS OF BULK AT MOST 1048576: true; the input reads as it did. -/
def seasonChecksUptoRow : OpenClaim := { program := "ytlfcdjgmegfjoaa", sum := "d80d690b54ef0f5931f1a79dd74f2dcc102b69b716a925e8878d2fbb2cda7038", func := "landaid/landaidlaw23.SeasonChecks", spec := "seasonChecks", unfollowed := true, recurses := true, apart := false, narrowed := true }
def SeasonChecksUptoSaid : Prop := seasonChecksUptoRow.holds Try.pinned (OpenSpec.upto seasonChecksSpec)

/-- 'landaidlaw23.SeasonDecides', WHERE WHAT IT READS IS OF BULK AT MOST 1048576: true; the input reads as it did. -/
def seasonDecidesUptoRow : OpenClaim := { program := "ytlfcdjgmegfjoaa", sum := "d80d690b54ef0f5931f1a79dd74f2dcc102b69b716a925e8878d2fbb2cda7038", func := "landaid/landaidlaw23.SeasonDecides", spec := "seasonDecides", unfollowed := true, recurses := true, apart := false, narrowed := true }
def SeasonDecidesUptoSaid : Prop := seasonDecidesUptoRow.holds Try.pinned (OpenSpec.upto seasonDecidesSpec)

/-- 'landaidlaw23.SeasonTrue', WHERE WHAT IT READS IS OF BULK AT MOST 1048576: true; the input reads as it did. -/
def seasonTrueUptoRow : OpenClaim := { program := "ytlfcdjgmegfjoaa", sum := "d80d690b54ef0f5931f1a79dd74f2dcc102b69b716a925e8878d2fbb2cda7038", func := "landaid/landaidlaw23.SeasonTrue", spec := "seasonTrue", unfollowed := true, recurses := true, apart := false, narrowed := true }
def SeasonTrueUptoSaid : Prop := seasonTrueUptoRow.holds Try.pinned (OpenSpec.upto seasonTrueSpec)

/-- 'landaidlaw23.SeasonMore', WHERE WHAT IT READS IS OF BULK AT MOST 1048576: true; the input reads as it did. -/
def seasonMoreUptoRow : OpenClaim := { program := "ytlfcdjgmegfjoaa", sum := "d80d690b54ef0f5931f1a79dd74f2dcc102b69b716a925e8878d2fbb2cda7038", func := "landaid/landaidlaw23.SeasonMore", spec := "seasonMore", unfollowed := true, recurses := true, apart := false, narrowed := true }
def SeasonMoreUptoSaid : Prop := seasonMoreUptoRow.holds Try.pinned (OpenSpec.upto seasonMoreSpec)

/-- 'landaidlaw23.SeasonKinds', WHERE WHAT IT READS IS OF BULK AT MOST 1048576: true; the input reads as it did. -/
def seasonKindsUptoRow : OpenClaim := { program := "ytlfcdjgmegfjoaa", sum := "d80d690b54ef0f5931f1a79dd74f2dcc102b69b716a925e8878d2fbb2cda7038", func := "landaid/landaidlaw23.SeasonKinds", spec := "seasonKinds", unfollowed := true, recurses := true, apart := false, narrowed := true }
def SeasonKindsUptoSaid : Prop := seasonKindsUptoRow.holds Try.pinned (OpenSpec.upto seasonKindsSpec)

/-- 'landaidlaw23.SeasonExact', WHERE WHAT IT READS IS OF BULK AT MOST 1048576: true; the input reads as it did. -/
def seasonExactUptoRow : OpenClaim := { program := "ytlfcdjgmegfjoaa", sum := "d80d690b54ef0f5931f1a79dd74f2dcc102b69b716a925e8878d2fbb2cda7038", func := "landaid/landaidlaw23.SeasonExact", spec := "seasonExact", unfollowed := true, recurses := true, apart := false, narrowed := true }
def SeasonExactUptoSaid : Prop := seasonExactUptoRow.holds Try.pinned (OpenSpec.upto seasonExactSpec)

end Rows
end Go.Proofs.Ytlfcdjgmegfjoaa
