/-
  No cell of these rows narrows 'for every input' (looked for: loops, veiled, ifaces, maps, wideKeys, modest, calm, conditions, laid).
  DERIVED. THE GIVEN ROWS OF THIS SEAT. 12 by the template 'for every input the law returns true; each argument reads behind the call as it read before'; 0 by the template 'total and deterministic' (their statements: YtpldkdjflkckpaaTotals.lean).
  GIVEN WITH THE SEED: the statements are not yours to turn. If you find one false, say at which input.
  Laid BY PROGRAM, IN A SANDBOX (cutbox-rows.mjs): the forced cells as the released guide's own fill.sh prints them over the translation 848f1d70e6ef4c65… (all of the seat's roots in one cut). By AI agents, Wed Nov 11 2026. No macro, syntax, notation, axiom, sorry.
-/
import Derived.Test.YtpldkdjflkckpaaChecked
import GoSem.Claim
import GoSem.ClaimJoined
import GoSem.ClaimMapViews
import Derived.JoinedTies
import Derived.KernelRfl
namespace Go.Proofs.Ytpldkdjflkckpaa
/- THE CELL 'sum', in the pinned program and in every row, IS THE sha256 OF THE DUMP (.gsa) THAT YtpldkdjflkckpaaProg.lean LOADS. Nothing in Lean hashes anything: it is a label: what it is worth is what the hold of that sum in a sandbox is worth. -/
noncomputable def Try.pinned : Pinned := { name := "ytpldkdjflkckpaa", sum := "848f1d70e6ef4c65e98158a44accdc2fbc1c80ed0684fd03a615e84772c072f5", checked := Try.checked }
namespace Rows
def none {H : Type} : Left H := { results := [], args := [] }

/-- 'quadformlaw03.MatrixFits': WHATEVER THE INPUT: true; the input reads as it did. -/
def matrixFitsSpec : ChangeSpec := { name := "matrixFits", fn := fun _ => fun
  | [d] => { results := [.lit (.bool true)], args := [d] }
  | _ => none }
def matrixFitsRow : OpenClaim := { program := "ytpldkdjflkckpaa", sum := "848f1d70e6ef4c65e98158a44accdc2fbc1c80ed0684fd03a615e84772c072f5", func := "quadform/quadformlaw03.MatrixFits", spec := "matrixFits", unfollowed := true, recurses := true, apart := false }
def MatrixFitsSaid : Prop := matrixFitsRow.holds Try.pinned (OpenSpec.ofChange matrixFitsSpec)

/-- ITS FALSE NEIGHBOUR: 'it returns false'. Refute it at one input. -/
def matrixFitsWrong : ChangeSpec := { name := "matrixFits", fn := fun _ => fun
  | [d] => { results := [.lit (.bool false)], args := [d] }
  | _ => none }
def MatrixFitsWrongFalsely : Prop := matrixFitsRow.holds Try.pinned (OpenSpec.ofChange matrixFitsWrong)

/-- 'quadformlaw03.MatrixMinors': WHATEVER THE INPUT: true; the input reads as it did. -/
def matrixMinorsSpec : ChangeSpec := { name := "matrixMinors", fn := fun _ => fun
  | [d1, d2, d3, d4] => { results := [.lit (.bool true)], args := [d1, d2, d3, d4] }
  | _ => none }
def matrixMinorsRow : OpenClaim := { program := "ytpldkdjflkckpaa", sum := "848f1d70e6ef4c65e98158a44accdc2fbc1c80ed0684fd03a615e84772c072f5", func := "quadform/quadformlaw03.MatrixMinors", spec := "matrixMinors", unfollowed := true, recurses := true, apart := false }
def MatrixMinorsSaid : Prop := matrixMinorsRow.holds Try.pinned (OpenSpec.ofChange matrixMinorsSpec)

/-- ITS FALSE NEIGHBOUR: 'it returns false'. Refute it at one input. -/
def matrixMinorsWrong : ChangeSpec := { name := "matrixMinors", fn := fun _ => fun
  | [d1, d2, d3, d4] => { results := [.lit (.bool false)], args := [d1, d2, d3, d4] }
  | _ => none }
def MatrixMinorsWrongFalsely : Prop := matrixMinorsRow.holds Try.pinned (OpenSpec.ofChange matrixMinorsWrong)

/-- 'quadformlaw03.MatrixConverts': WHATEVER THE INPUT: true; the input reads as it did. -/
def matrixConvertsSpec : ChangeSpec := { name := "matrixConverts", fn := fun _ => fun
  | [d] => { results := [.lit (.bool true)], args := [d] }
  | _ => none }
def matrixConvertsRow : OpenClaim := { program := "ytpldkdjflkckpaa", sum := "848f1d70e6ef4c65e98158a44accdc2fbc1c80ed0684fd03a615e84772c072f5", func := "quadform/quadformlaw03.MatrixConverts", spec := "matrixConverts", unfollowed := true, recurses := true, apart := false }
def MatrixConvertsSaid : Prop := matrixConvertsRow.holds Try.pinned (OpenSpec.ofChange matrixConvertsSpec)

/-- ITS FALSE NEIGHBOUR: 'it returns false'. Refute it at one input. -/
def matrixConvertsWrong : ChangeSpec := { name := "matrixConverts", fn := fun _ => fun
  | [d] => { results := [.lit (.bool false)], args := [d] }
  | _ => none }
def MatrixConvertsWrongFalsely : Prop := matrixConvertsRow.holds Try.pinned (OpenSpec.ofChange matrixConvertsWrong)

/-- 'quadformlaw03.MatrixEqual': WHATEVER THE INPUT: true; the input reads as it did. -/
def matrixEqualSpec : ChangeSpec := { name := "matrixEqual", fn := fun _ => fun
  | [d1, d2, d3, d4, d5] => { results := [.lit (.bool true)], args := [d1, d2, d3, d4, d5] }
  | _ => none }
def matrixEqualRow : OpenClaim := { program := "ytpldkdjflkckpaa", sum := "848f1d70e6ef4c65e98158a44accdc2fbc1c80ed0684fd03a615e84772c072f5", func := "quadform/quadformlaw03.MatrixEqual", spec := "matrixEqual", unfollowed := true, recurses := true, apart := false }
def MatrixEqualSaid : Prop := matrixEqualRow.holds Try.pinned (OpenSpec.ofChange matrixEqualSpec)

/-- ITS FALSE NEIGHBOUR: 'it returns false'. Refute it at one input. -/
def matrixEqualWrong : ChangeSpec := { name := "matrixEqual", fn := fun _ => fun
  | [d1, d2, d3, d4, d5] => { results := [.lit (.bool false)], args := [d1, d2, d3, d4, d5] }
  | _ => none }
def MatrixEqualWrongFalsely : Prop := matrixEqualRow.holds Try.pinned (OpenSpec.ofChange matrixEqualWrong)

/-- 'quadformlaw03.MatrixSizes': WHATEVER THE INPUT: true; the input reads as it did. -/
def matrixSizesSpec : ChangeSpec := { name := "matrixSizes", fn := fun _ => fun
  | [d1, d2, d3] => { results := [.lit (.bool true)], args := [d1, d2, d3] }
  | _ => none }
def matrixSizesRow : OpenClaim := { program := "ytpldkdjflkckpaa", sum := "848f1d70e6ef4c65e98158a44accdc2fbc1c80ed0684fd03a615e84772c072f5", func := "quadform/quadformlaw03.MatrixSizes", spec := "matrixSizes", unfollowed := true, recurses := true, apart := false }
def MatrixSizesSaid : Prop := matrixSizesRow.holds Try.pinned (OpenSpec.ofChange matrixSizesSpec)

/-- ITS FALSE NEIGHBOUR: 'it returns false'. Refute it at one input. -/
def matrixSizesWrong : ChangeSpec := { name := "matrixSizes", fn := fun _ => fun
  | [d1, d2, d3] => { results := [.lit (.bool false)], args := [d1, d2, d3] }
  | _ => none }
def MatrixSizesWrongFalsely : Prop := matrixSizesRow.holds Try.pinned (OpenSpec.ofChange matrixSizesWrong)

/-- 'quadformlaw04.BareissStages': WHATEVER THE INPUT: true; the input reads as it did. -/
def bareissStagesSpec : ChangeSpec := { name := "bareissStages", fn := fun _ => fun
  | [d1, d2] => { results := [.lit (.bool true)], args := [d1, d2] }
  | _ => none }
def bareissStagesRow : OpenClaim := { program := "ytpldkdjflkckpaa", sum := "848f1d70e6ef4c65e98158a44accdc2fbc1c80ed0684fd03a615e84772c072f5", func := "quadform/quadformlaw04.BareissStages", spec := "bareissStages", unfollowed := true, recurses := true, apart := false }
def BareissStagesSaid : Prop := bareissStagesRow.holds Try.pinned (OpenSpec.ofChange bareissStagesSpec)

/-- ITS FALSE NEIGHBOUR: 'it returns false'. Refute it at one input. -/
def bareissStagesWrong : ChangeSpec := { name := "bareissStages", fn := fun _ => fun
  | [d1, d2] => { results := [.lit (.bool false)], args := [d1, d2] }
  | _ => none }
def BareissStagesWrongFalsely : Prop := bareissStagesRow.holds Try.pinned (OpenSpec.ofChange bareissStagesWrong)

/-- 'quadformlaw04.BareissRecurrence': WHATEVER THE INPUT: true; the input reads as it did. -/
def bareissRecurrenceSpec : ChangeSpec := { name := "bareissRecurrence", fn := fun _ => fun
  | [d] => { results := [.lit (.bool true)], args := [d] }
  | _ => none }
def bareissRecurrenceRow : OpenClaim := { program := "ytpldkdjflkckpaa", sum := "848f1d70e6ef4c65e98158a44accdc2fbc1c80ed0684fd03a615e84772c072f5", func := "quadform/quadformlaw04.BareissRecurrence", spec := "bareissRecurrence", unfollowed := true, recurses := true, apart := false }
def BareissRecurrenceSaid : Prop := bareissRecurrenceRow.holds Try.pinned (OpenSpec.ofChange bareissRecurrenceSpec)

/-- ITS FALSE NEIGHBOUR: 'it returns false'. Refute it at one input. -/
def bareissRecurrenceWrong : ChangeSpec := { name := "bareissRecurrence", fn := fun _ => fun
  | [d] => { results := [.lit (.bool false)], args := [d] }
  | _ => none }
def BareissRecurrenceWrongFalsely : Prop := bareissRecurrenceRow.holds Try.pinned (OpenSpec.ofChange bareissRecurrenceWrong)

/-- 'quadformlaw04.BareissSolves': WHATEVER THE INPUT: true; the input reads as it did. -/
def bareissSolvesSpec : ChangeSpec := { name := "bareissSolves", fn := fun _ => fun
  | [d1, d2, d3, d4] => { results := [.lit (.bool true)], args := [d1, d2, d3, d4] }
  | _ => none }
def bareissSolvesRow : OpenClaim := { program := "ytpldkdjflkckpaa", sum := "848f1d70e6ef4c65e98158a44accdc2fbc1c80ed0684fd03a615e84772c072f5", func := "quadform/quadformlaw04.BareissSolves", spec := "bareissSolves", unfollowed := true, recurses := true, apart := false }
def BareissSolvesSaid : Prop := bareissSolvesRow.holds Try.pinned (OpenSpec.ofChange bareissSolvesSpec)

/-- ITS FALSE NEIGHBOUR: 'it returns false'. Refute it at one input. -/
def bareissSolvesWrong : ChangeSpec := { name := "bareissSolves", fn := fun _ => fun
  | [d1, d2, d3, d4] => { results := [.lit (.bool false)], args := [d1, d2, d3, d4] }
  | _ => none }
def BareissSolvesWrongFalsely : Prop := bareissSolvesRow.holds Try.pinned (OpenSpec.ofChange bareissSolvesWrong)

/-- 'quadformlaw04.BareissSolution': WHATEVER THE INPUT: true; the input reads as it did. -/
def bareissSolutionSpec : ChangeSpec := { name := "bareissSolution", fn := fun _ => fun
  | [d1, d2] => { results := [.lit (.bool true)], args := [d1, d2] }
  | _ => none }
def bareissSolutionRow : OpenClaim := { program := "ytpldkdjflkckpaa", sum := "848f1d70e6ef4c65e98158a44accdc2fbc1c80ed0684fd03a615e84772c072f5", func := "quadform/quadformlaw04.BareissSolution", spec := "bareissSolution", unfollowed := true, recurses := true, apart := false }
def BareissSolutionSaid : Prop := bareissSolutionRow.holds Try.pinned (OpenSpec.ofChange bareissSolutionSpec)

/-- ITS FALSE NEIGHBOUR: 'it returns false'. Refute it at one input. -/
def bareissSolutionWrong : ChangeSpec := { name := "bareissSolution", fn := fun _ => fun
  | [d1, d2] => { results := [.lit (.bool false)], args := [d1, d2] }
  | _ => none }
def BareissSolutionWrongFalsely : Prop := bareissSolutionRow.holds Try.pinned (OpenSpec.ofChange bareissSolutionWrong)

/-- 'quadformlaw04.BareissDefinite': WHATEVER THE INPUT: true; the input reads as it did. -/
def bareissDefiniteSpec : ChangeSpec := { name := "bareissDefinite", fn := fun _ => fun
  | [d1, d2, d3] => { results := [.lit (.bool true)], args := [d1, d2, d3] }
  | _ => none }
def bareissDefiniteRow : OpenClaim := { program := "ytpldkdjflkckpaa", sum := "848f1d70e6ef4c65e98158a44accdc2fbc1c80ed0684fd03a615e84772c072f5", func := "quadform/quadformlaw04.BareissDefinite", spec := "bareissDefinite", unfollowed := true, recurses := true, apart := false }
def BareissDefiniteSaid : Prop := bareissDefiniteRow.holds Try.pinned (OpenSpec.ofChange bareissDefiniteSpec)

/-- ITS FALSE NEIGHBOUR: 'it returns false'. Refute it at one input. -/
def bareissDefiniteWrong : ChangeSpec := { name := "bareissDefinite", fn := fun _ => fun
  | [d1, d2, d3] => { results := [.lit (.bool false)], args := [d1, d2, d3] }
  | _ => none }
def BareissDefiniteWrongFalsely : Prop := bareissDefiniteRow.holds Try.pinned (OpenSpec.ofChange bareissDefiniteWrong)

/-- 'quadformlaw04.BareissNorms': WHATEVER THE INPUT: true; the input reads as it did. -/
def bareissNormsSpec : ChangeSpec := { name := "bareissNorms", fn := fun _ => fun
  | [d1, d2] => { results := [.lit (.bool true)], args := [d1, d2] }
  | _ => none }
def bareissNormsRow : OpenClaim := { program := "ytpldkdjflkckpaa", sum := "848f1d70e6ef4c65e98158a44accdc2fbc1c80ed0684fd03a615e84772c072f5", func := "quadform/quadformlaw04.BareissNorms", spec := "bareissNorms", unfollowed := true, recurses := true, apart := false }
def BareissNormsSaid : Prop := bareissNormsRow.holds Try.pinned (OpenSpec.ofChange bareissNormsSpec)

/-- ITS FALSE NEIGHBOUR: 'it returns false'. Refute it at one input. -/
def bareissNormsWrong : ChangeSpec := { name := "bareissNorms", fn := fun _ => fun
  | [d1, d2] => { results := [.lit (.bool false)], args := [d1, d2] }
  | _ => none }
def BareissNormsWrongFalsely : Prop := bareissNormsRow.holds Try.pinned (OpenSpec.ofChange bareissNormsWrong)

/-- 'quadformlaw04.BareissLeading': WHATEVER THE INPUT: true; the input reads as it did. -/
def bareissLeadingSpec : ChangeSpec := { name := "bareissLeading", fn := fun _ => fun
  | [d1, d2] => { results := [.lit (.bool true)], args := [d1, d2] }
  | _ => none }
def bareissLeadingRow : OpenClaim := { program := "ytpldkdjflkckpaa", sum := "848f1d70e6ef4c65e98158a44accdc2fbc1c80ed0684fd03a615e84772c072f5", func := "quadform/quadformlaw04.BareissLeading", spec := "bareissLeading", unfollowed := true, recurses := true, apart := false }
def BareissLeadingSaid : Prop := bareissLeadingRow.holds Try.pinned (OpenSpec.ofChange bareissLeadingSpec)

/-- ITS FALSE NEIGHBOUR: 'it returns false'. Refute it at one input. -/
def bareissLeadingWrong : ChangeSpec := { name := "bareissLeading", fn := fun _ => fun
  | [d1, d2] => { results := [.lit (.bool false)], args := [d1, d2] }
  | _ => none }
def BareissLeadingWrongFalsely : Prop := bareissLeadingRow.holds Try.pinned (OpenSpec.ofChange bareissLeadingWrong)

/- THE SECOND FORM. 'bulk': how many values and letters a reading holds, each counted each time it is reached (what is shared counts as often as it is met; a slice's spare places count too). A statement '..UptoSaid' is the law's where the arguments, and the package variables that the reading takes, are together of bulk at most 1048576: NARROWER than '..Said'. Prove '..Said' where nothing that the law and all that it calls make is longer than what came in: it says more and counts as full. Else prove '..UptoSaid'. A law counts once. -/
mutual
def uptoBulk {H : Type} : DataW H → Nat
  | .lit (.string bytes) => bytes.length + 1
  | .lit _ => 1
  | .nil => 1
  | .ptr d => uptoBulk d + 1
  | .slice elems spare => uptoBulkAll elems + uptoBulkAll spare + 1
  | .agg parts => uptoBulkAll parts + 1
  | .iface _ d => uptoBulk d + 1
  | .map entries => uptoBulkEntries entries + 1
  | .held _ => 1
def uptoBulkAll {H : Type} : List (DataW H) → Nat
  | [] => 0
  | d :: r => uptoBulk d + uptoBulkAll r
def uptoBulkEntries {H : Type} : List (Lit × DataW H) → Nat
  | [] => 0
  | x :: r => uptoBulkEntry x + uptoBulkEntries r
def uptoBulkEntry {H : Type} : Lit × DataW H → Nat
  | (.string bytes, d) => bytes.length + uptoBulk d + 1
  | (_, d) => uptoBulk d + 1
 end
def uptoSmall : (H : Type) → List (DataW H) → Bool := fun _ ds => decide (uptoBulkAll ds ≤ 1048576)
def OpenSpec.upto (s : _root_.Go.ChangeSpec) : _root_.Go.OpenSpec := { _root_.Go.OpenSpec.ofChange s with cond := some uptoSmall }

/-- 'quadformlaw03.MatrixFits', WHERE WHAT IT READS IS OF BULK AT MOST 1048576: true; the input reads as it did. -/
def matrixFitsUptoRow : OpenClaim := { program := "ytpldkdjflkckpaa", sum := "848f1d70e6ef4c65e98158a44accdc2fbc1c80ed0684fd03a615e84772c072f5", func := "quadform/quadformlaw03.MatrixFits", spec := "matrixFits", unfollowed := true, recurses := true, apart := false, narrowed := true }
def MatrixFitsUptoSaid : Prop := matrixFitsUptoRow.holds Try.pinned (OpenSpec.upto matrixFitsSpec)

/-- 'quadformlaw03.MatrixMinors', WHERE WHAT IT READS IS OF BULK AT MOST 1048576: true; the input reads as it did. -/
def matrixMinorsUptoRow : OpenClaim := { program := "ytpldkdjflkckpaa", sum := "848f1d70e6ef4c65e98158a44accdc2fbc1c80ed0684fd03a615e84772c072f5", func := "quadform/quadformlaw03.MatrixMinors", spec := "matrixMinors", unfollowed := true, recurses := true, apart := false, narrowed := true }
def MatrixMinorsUptoSaid : Prop := matrixMinorsUptoRow.holds Try.pinned (OpenSpec.upto matrixMinorsSpec)

/-- 'quadformlaw03.MatrixConverts', WHERE WHAT IT READS IS OF BULK AT MOST 1048576: true; the input reads as it did. -/
def matrixConvertsUptoRow : OpenClaim := { program := "ytpldkdjflkckpaa", sum := "848f1d70e6ef4c65e98158a44accdc2fbc1c80ed0684fd03a615e84772c072f5", func := "quadform/quadformlaw03.MatrixConverts", spec := "matrixConverts", unfollowed := true, recurses := true, apart := false, narrowed := true }
def MatrixConvertsUptoSaid : Prop := matrixConvertsUptoRow.holds Try.pinned (OpenSpec.upto matrixConvertsSpec)

/-- 'quadformlaw03.MatrixEqual', WHERE WHAT IT READS IS OF BULK AT MOST 1048576: true; the input reads as it did. -/
def matrixEqualUptoRow : OpenClaim := { program := "ytpldkdjflkckpaa", sum := "848f1d70e6ef4c65e98158a44accdc2fbc1c80ed0684fd03a615e84772c072f5", func := "quadform/quadformlaw03.MatrixEqual", spec := "matrixEqual", unfollowed := true, recurses := true, apart := false, narrowed := true }
def MatrixEqualUptoSaid : Prop := matrixEqualUptoRow.holds Try.pinned (OpenSpec.upto matrixEqualSpec)

/-- 'quadformlaw03.MatrixSizes', WHERE WHAT IT READS IS OF BULK AT MOST 1048576: true; the input reads as it did. -/
def matrixSizesUptoRow : OpenClaim := { program := "ytpldkdjflkckpaa", sum := "848f1d70e6ef4c65e98158a44accdc2fbc1c80ed0684fd03a615e84772c072f5", func := "quadform/quadformlaw03.MatrixSizes", spec := "matrixSizes", unfollowed := true, recurses := true, apart := false, narrowed := true }
def MatrixSizesUptoSaid : Prop := matrixSizesUptoRow.holds Try.pinned (OpenSpec.upto matrixSizesSpec)

/-- 'quadformlaw04.BareissStages', WHERE WHAT IT READS IS OF BULK AT MOST 1048576: true; the input reads as it did. -/
def bareissStagesUptoRow : OpenClaim := { program := "ytpldkdjflkckpaa", sum := "848f1d70e6ef4c65e98158a44accdc2fbc1c80ed0684fd03a615e84772c072f5", func := "quadform/quadformlaw04.BareissStages", spec := "bareissStages", unfollowed := true, recurses := true, apart := false, narrowed := true }
def BareissStagesUptoSaid : Prop := bareissStagesUptoRow.holds Try.pinned (OpenSpec.upto bareissStagesSpec)

/-- 'quadformlaw04.BareissRecurrence', WHERE WHAT IT READS IS OF BULK AT MOST 1048576: true; the input reads as it did. -/
def bareissRecurrenceUptoRow : OpenClaim := { program := "ytpldkdjflkckpaa", sum := "848f1d70e6ef4c65e98158a44accdc2fbc1c80ed0684fd03a615e84772c072f5", func := "quadform/quadformlaw04.BareissRecurrence", spec := "bareissRecurrence", unfollowed := true, recurses := true, apart := false, narrowed := true }
def BareissRecurrenceUptoSaid : Prop := bareissRecurrenceUptoRow.holds Try.pinned (OpenSpec.upto bareissRecurrenceSpec)

/-- 'quadformlaw04.BareissSolves', WHERE WHAT IT READS IS OF BULK AT MOST 1048576: true; the input reads as it did. -/
def bareissSolvesUptoRow : OpenClaim := { program := "ytpldkdjflkckpaa", sum := "848f1d70e6ef4c65e98158a44accdc2fbc1c80ed0684fd03a615e84772c072f5", func := "quadform/quadformlaw04.BareissSolves", spec := "bareissSolves", unfollowed := true, recurses := true, apart := false, narrowed := true }
def BareissSolvesUptoSaid : Prop := bareissSolvesUptoRow.holds Try.pinned (OpenSpec.upto bareissSolvesSpec)

/-- 'quadformlaw04.BareissSolution', WHERE WHAT IT READS IS OF BULK AT MOST 1048576: true; the input reads as it did. -/
def bareissSolutionUptoRow : OpenClaim := { program := "ytpldkdjflkckpaa", sum := "848f1d70e6ef4c65e98158a44accdc2fbc1c80ed0684fd03a615e84772c072f5", func := "quadform/quadformlaw04.BareissSolution", spec := "bareissSolution", unfollowed := true, recurses := true, apart := false, narrowed := true }
def BareissSolutionUptoSaid : Prop := bareissSolutionUptoRow.holds Try.pinned (OpenSpec.upto bareissSolutionSpec)

/-- 'quadformlaw04.BareissDefinite', WHERE WHAT IT READS IS OF BULK AT MOST 1048576: true; the input reads as it did. -/
def bareissDefiniteUptoRow : OpenClaim := { program := "ytpldkdjflkckpaa", sum := "848f1d70e6ef4c65e98158a44accdc2fbc1c80ed0684fd03a615e84772c072f5", func := "quadform/quadformlaw04.BareissDefinite", spec := "bareissDefinite", unfollowed := true, recurses := true, apart := false, narrowed := true }
def BareissDefiniteUptoSaid : Prop := bareissDefiniteUptoRow.holds Try.pinned (OpenSpec.upto bareissDefiniteSpec)

/-- 'quadformlaw04.BareissNorms', WHERE WHAT IT READS IS OF BULK AT MOST 1048576: true; the input reads as it did. -/
def bareissNormsUptoRow : OpenClaim := { program := "ytpldkdjflkckpaa", sum := "848f1d70e6ef4c65e98158a44accdc2fbc1c80ed0684fd03a615e84772c072f5", func := "quadform/quadformlaw04.BareissNorms", spec := "bareissNorms", unfollowed := true, recurses := true, apart := false, narrowed := true }
def BareissNormsUptoSaid : Prop := bareissNormsUptoRow.holds Try.pinned (OpenSpec.upto bareissNormsSpec)

/-- 'quadformlaw04.BareissLeading', WHERE WHAT IT READS IS OF BULK AT MOST 1048576: true; the input reads as it did. -/
def bareissLeadingUptoRow : OpenClaim := { program := "ytpldkdjflkckpaa", sum := "848f1d70e6ef4c65e98158a44accdc2fbc1c80ed0684fd03a615e84772c072f5", func := "quadform/quadformlaw04.BareissLeading", spec := "bareissLeading", unfollowed := true, recurses := true, apart := false, narrowed := true }
def BareissLeadingUptoSaid : Prop := bareissLeadingUptoRow.holds Try.pinned (OpenSpec.upto bareissLeadingSpec)

end Rows
end Go.Proofs.Ytpldkdjflkckpaa
