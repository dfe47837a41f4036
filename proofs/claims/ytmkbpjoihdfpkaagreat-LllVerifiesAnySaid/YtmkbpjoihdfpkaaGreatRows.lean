/-
  No cell of these rows narrows 'for every input' (looked for: loops, veiled, ifaces, maps, wideKeys, modest, calm, conditions, laid).
  DERIVED. THE GIVEN ROWS OF THIS SEAT. 12 by the template 'for every input the law returns true; each argument reads behind the call as it read before'; 0 by the template 'total and deterministic' (their statements: YtmkbpjoihdfpkaaGreatTotals.lean).
  GIVEN WITH THE SEED: the statements are not yours to turn. If you find one false, say at which input.
  Laid BY PROGRAM, IN A SANDBOX (cutbox-rows.mjs): the forced cells as the released guide's own fill.sh prints them over the translation 42d581c23445479a… (all of the seat's roots in one cut). By AI agents, Wed Nov 11 2026. No macro, syntax, notation, axiom, sorry.
-/
import Derived.Test.YtmkbpjoihdfpkaaGreatChecked
import GoSem.Claim
import GoSem.ClaimJoined
import GoSem.ClaimMapViews
import Derived.JoinedTies
import Derived.KernelRfl
namespace Go.Proofs.YtmkbpjoihdfpkaaGreat
/- THE CELL 'sum', in the pinned program and in every row, IS THE sha256 OF THE DUMP (.gsa) THAT YtmkbpjoihdfpkaaGreatProg.lean LOADS. Nothing in Lean hashes anything: it is a label: what it is worth is what the hold of that sum in a sandbox is worth. -/
noncomputable def Tryz.pinned : Pinned := { name := "ytmkbpjoihdfpkaagreat", sum := "42d581c23445479af2d4ffbc61a5f852222cf787b2c22cf5c7097bf7750ac965", checked := Tryz.checked }
namespace Rows
def none {H : Type} : Left H := { results := [], args := [] }

/-- 'quadformlaw08.LllIsReduced': WHATEVER THE INPUT: true; the input reads as it did. -/
def lllIsReducedSpec : ChangeSpec := { name := "lllIsReduced", fn := fun _ => fun
  | [d] => { results := [.lit (.bool true)], args := [d] }
  | _ => none }
def lllIsReducedRow : OpenClaim := { program := "ytmkbpjoihdfpkaagreat", sum := "42d581c23445479af2d4ffbc61a5f852222cf787b2c22cf5c7097bf7750ac965", func := "quadform/quadformlaw08.LllIsReduced", spec := "lllIsReduced", unfollowed := true, recurses := true, apart := false }
def LllIsReducedSaid : Prop := lllIsReducedRow.holds Tryz.pinned (OpenSpec.ofChange lllIsReducedSpec)

/-- ITS FALSE NEIGHBOUR: 'it returns false'. Refute it at one input. -/
def lllIsReducedWrong : ChangeSpec := { name := "lllIsReduced", fn := fun _ => fun
  | [d] => { results := [.lit (.bool false)], args := [d] }
  | _ => none }
def LllIsReducedWrongFalsely : Prop := lllIsReducedRow.holds Tryz.pinned (OpenSpec.ofChange lllIsReducedWrong)

/-- 'quadformlaw08.LllNear': WHATEVER THE INPUT: true; the input reads as it did. -/
def lllNearSpec : ChangeSpec := { name := "lllNear", fn := fun _ => fun
  | [d1, d2, d3, d4] => { results := [.lit (.bool true)], args := [d1, d2, d3, d4] }
  | _ => none }
def lllNearRow : OpenClaim := { program := "ytmkbpjoihdfpkaagreat", sum := "42d581c23445479af2d4ffbc61a5f852222cf787b2c22cf5c7097bf7750ac965", func := "quadform/quadformlaw08.LllNear", spec := "lllNear", unfollowed := true, recurses := true, apart := false }
def LllNearSaid : Prop := lllNearRow.holds Tryz.pinned (OpenSpec.ofChange lllNearSpec)

/-- ITS FALSE NEIGHBOUR: 'it returns false'. Refute it at one input. -/
def lllNearWrong : ChangeSpec := { name := "lllNear", fn := fun _ => fun
  | [d1, d2, d3, d4] => { results := [.lit (.bool false)], args := [d1, d2, d3, d4] }
  | _ => none }
def LllNearWrongFalsely : Prop := lllNearRow.holds Tryz.pinned (OpenSpec.ofChange lllNearWrong)

/-- 'quadformlaw08.LllEdges': WHATEVER THE INPUT: true; the input reads as it did. -/
def lllEdgesSpec : ChangeSpec := { name := "lllEdges", fn := fun _ => fun
  | [d1, d2, d3] => { results := [.lit (.bool true)], args := [d1, d2, d3] }
  | _ => none }
def lllEdgesRow : OpenClaim := { program := "ytmkbpjoihdfpkaagreat", sum := "42d581c23445479af2d4ffbc61a5f852222cf787b2c22cf5c7097bf7750ac965", func := "quadform/quadformlaw08.LllEdges", spec := "lllEdges", unfollowed := true, recurses := true, apart := false }
def LllEdgesSaid : Prop := lllEdgesRow.holds Tryz.pinned (OpenSpec.ofChange lllEdgesSpec)

/-- ITS FALSE NEIGHBOUR: 'it returns false'. Refute it at one input. -/
def lllEdgesWrong : ChangeSpec := { name := "lllEdges", fn := fun _ => fun
  | [d1, d2, d3] => { results := [.lit (.bool false)], args := [d1, d2, d3] }
  | _ => none }
def LllEdgesWrongFalsely : Prop := lllEdgesRow.holds Tryz.pinned (OpenSpec.ofChange lllEdgesWrong)

/-- 'quadformlaw08.LllDeterminant': WHATEVER THE INPUT: true; the input reads as it did. -/
def lllDeterminantSpec : ChangeSpec := { name := "lllDeterminant", fn := fun _ => fun
  | [d] => { results := [.lit (.bool true)], args := [d] }
  | _ => none }
def lllDeterminantRow : OpenClaim := { program := "ytmkbpjoihdfpkaagreat", sum := "42d581c23445479af2d4ffbc61a5f852222cf787b2c22cf5c7097bf7750ac965", func := "quadform/quadformlaw08.LllDeterminant", spec := "lllDeterminant", unfollowed := true, recurses := true, apart := false }
def LllDeterminantSaid : Prop := lllDeterminantRow.holds Tryz.pinned (OpenSpec.ofChange lllDeterminantSpec)

/-- ITS FALSE NEIGHBOUR: 'it returns false'. Refute it at one input. -/
def lllDeterminantWrong : ChangeSpec := { name := "lllDeterminant", fn := fun _ => fun
  | [d] => { results := [.lit (.bool false)], args := [d] }
  | _ => none }
def LllDeterminantWrongFalsely : Prop := lllDeterminantRow.holds Tryz.pinned (OpenSpec.ofChange lllDeterminantWrong)

/-- 'quadformlaw08.LllReduces': WHATEVER THE INPUT: true; the input reads as it did. -/
def lllReducesSpec : ChangeSpec := { name := "lllReduces", fn := fun _ => fun
  | [d] => { results := [.lit (.bool true)], args := [d] }
  | _ => none }
def lllReducesRow : OpenClaim := { program := "ytmkbpjoihdfpkaagreat", sum := "42d581c23445479af2d4ffbc61a5f852222cf787b2c22cf5c7097bf7750ac965", func := "quadform/quadformlaw08.LllReduces", spec := "lllReduces", unfollowed := true, recurses := true, apart := false }
def LllReducesSaid : Prop := lllReducesRow.holds Tryz.pinned (OpenSpec.ofChange lllReducesSpec)

/-- ITS FALSE NEIGHBOUR: 'it returns false'. Refute it at one input. -/
def lllReducesWrong : ChangeSpec := { name := "lllReduces", fn := fun _ => fun
  | [d] => { results := [.lit (.bool false)], args := [d] }
  | _ => none }
def LllReducesWrongFalsely : Prop := lllReducesRow.holds Tryz.pinned (OpenSpec.ofChange lllReducesWrong)

/-- 'quadformlaw08.LllErrors': WHATEVER THE INPUT: true; the input reads as it did. -/
def lllErrorsSpec : ChangeSpec := { name := "lllErrors", fn := fun _ => fun
  | [d1, d2, d3, d4] => { results := [.lit (.bool true)], args := [d1, d2, d3, d4] }
  | _ => none }
def lllErrorsRow : OpenClaim := { program := "ytmkbpjoihdfpkaagreat", sum := "42d581c23445479af2d4ffbc61a5f852222cf787b2c22cf5c7097bf7750ac965", func := "quadform/quadformlaw08.LllErrors", spec := "lllErrors", unfollowed := true, recurses := true, apart := false }
def LllErrorsSaid : Prop := lllErrorsRow.holds Tryz.pinned (OpenSpec.ofChange lllErrorsSpec)

/-- ITS FALSE NEIGHBOUR: 'it returns false'. Refute it at one input. -/
def lllErrorsWrong : ChangeSpec := { name := "lllErrors", fn := fun _ => fun
  | [d1, d2, d3, d4] => { results := [.lit (.bool false)], args := [d1, d2, d3, d4] }
  | _ => none }
def LllErrorsWrongFalsely : Prop := lllErrorsRow.holds Tryz.pinned (OpenSpec.ofChange lllErrorsWrong)

/-- 'quadformlaw08.LllLarge': WHATEVER THE INPUT: true; the input reads as it did. -/
def lllLargeSpec : ChangeSpec := { name := "lllLarge", fn := fun _ => fun
  | [d1, d2, d3] => { results := [.lit (.bool true)], args := [d1, d2, d3] }
  | _ => none }
def lllLargeRow : OpenClaim := { program := "ytmkbpjoihdfpkaagreat", sum := "42d581c23445479af2d4ffbc61a5f852222cf787b2c22cf5c7097bf7750ac965", func := "quadform/quadformlaw08.LllLarge", spec := "lllLarge", unfollowed := true, recurses := true, apart := false }
def LllLargeSaid : Prop := lllLargeRow.holds Tryz.pinned (OpenSpec.ofChange lllLargeSpec)

/-- ITS FALSE NEIGHBOUR: 'it returns false'. Refute it at one input. -/
def lllLargeWrong : ChangeSpec := { name := "lllLarge", fn := fun _ => fun
  | [d1, d2, d3] => { results := [.lit (.bool false)], args := [d1, d2, d3] }
  | _ => none }
def LllLargeWrongFalsely : Prop := lllLargeRow.holds Tryz.pinned (OpenSpec.ofChange lllLargeWrong)

/-- 'quadformlaw08.LllShort': WHATEVER THE INPUT: true; the input reads as it did. -/
def lllShortSpec : ChangeSpec := { name := "lllShort", fn := fun _ => fun
  | [d] => { results := [.lit (.bool true)], args := [d] }
  | _ => none }
def lllShortRow : OpenClaim := { program := "ytmkbpjoihdfpkaagreat", sum := "42d581c23445479af2d4ffbc61a5f852222cf787b2c22cf5c7097bf7750ac965", func := "quadform/quadformlaw08.LllShort", spec := "lllShort", unfollowed := true, recurses := true, apart := false }
def LllShortSaid : Prop := lllShortRow.holds Tryz.pinned (OpenSpec.ofChange lllShortSpec)

/-- ITS FALSE NEIGHBOUR: 'it returns false'. Refute it at one input. -/
def lllShortWrong : ChangeSpec := { name := "lllShort", fn := fun _ => fun
  | [d] => { results := [.lit (.bool false)], args := [d] }
  | _ => none }
def LllShortWrongFalsely : Prop := lllShortRow.holds Tryz.pinned (OpenSpec.ofChange lllShortWrong)

/-- 'quadformlaw08.LllAgain': WHATEVER THE INPUT: true; the input reads as it did. -/
def lllAgainSpec : ChangeSpec := { name := "lllAgain", fn := fun _ => fun
  | [d] => { results := [.lit (.bool true)], args := [d] }
  | _ => none }
def lllAgainRow : OpenClaim := { program := "ytmkbpjoihdfpkaagreat", sum := "42d581c23445479af2d4ffbc61a5f852222cf787b2c22cf5c7097bf7750ac965", func := "quadform/quadformlaw08.LllAgain", spec := "lllAgain", unfollowed := true, recurses := true, apart := false }
def LllAgainSaid : Prop := lllAgainRow.holds Tryz.pinned (OpenSpec.ofChange lllAgainSpec)

/-- ITS FALSE NEIGHBOUR: 'it returns false'. Refute it at one input. -/
def lllAgainWrong : ChangeSpec := { name := "lllAgain", fn := fun _ => fun
  | [d] => { results := [.lit (.bool false)], args := [d] }
  | _ => none }
def LllAgainWrongFalsely : Prop := lllAgainRow.holds Tryz.pinned (OpenSpec.ofChange lllAgainWrong)

/-- 'quadformlaw08.LllVerifies': WHATEVER THE INPUT: true; the input reads as it did. -/
def lllVerifiesSpec : ChangeSpec := { name := "lllVerifies", fn := fun _ => fun
  | [d1, d2, d3, d4] => { results := [.lit (.bool true)], args := [d1, d2, d3, d4] }
  | _ => none }
def lllVerifiesRow : OpenClaim := { program := "ytmkbpjoihdfpkaagreat", sum := "42d581c23445479af2d4ffbc61a5f852222cf787b2c22cf5c7097bf7750ac965", func := "quadform/quadformlaw08.LllVerifies", spec := "lllVerifies", unfollowed := true, recurses := true, apart := false }
def LllVerifiesSaid : Prop := lllVerifiesRow.holds Tryz.pinned (OpenSpec.ofChange lllVerifiesSpec)

/-- ITS FALSE NEIGHBOUR: 'it returns false'. Refute it at one input. -/
def lllVerifiesWrong : ChangeSpec := { name := "lllVerifies", fn := fun _ => fun
  | [d1, d2, d3, d4] => { results := [.lit (.bool false)], args := [d1, d2, d3, d4] }
  | _ => none }
def LllVerifiesWrongFalsely : Prop := lllVerifiesRow.holds Tryz.pinned (OpenSpec.ofChange lllVerifiesWrong)

/-- 'quadformlaw08.LllVerifiesAny': WHATEVER THE INPUT: true; the input reads as it did. -/
def lllVerifiesAnySpec : ChangeSpec := { name := "lllVerifiesAny", fn := fun _ => fun
  | [d1, d2, d3, d4, d5] => { results := [.lit (.bool true)], args := [d1, d2, d3, d4, d5] }
  | _ => none }
def lllVerifiesAnyRow : OpenClaim := { program := "ytmkbpjoihdfpkaagreat", sum := "42d581c23445479af2d4ffbc61a5f852222cf787b2c22cf5c7097bf7750ac965", func := "quadform/quadformlaw08.LllVerifiesAny", spec := "lllVerifiesAny", unfollowed := true, recurses := true, apart := false }
def LllVerifiesAnySaid : Prop := lllVerifiesAnyRow.holds Tryz.pinned (OpenSpec.ofChange lllVerifiesAnySpec)

/-- ITS FALSE NEIGHBOUR: 'it returns false'. Refute it at one input. -/
def lllVerifiesAnyWrong : ChangeSpec := { name := "lllVerifiesAny", fn := fun _ => fun
  | [d1, d2, d3, d4, d5] => { results := [.lit (.bool false)], args := [d1, d2, d3, d4, d5] }
  | _ => none }
def LllVerifiesAnyWrongFalsely : Prop := lllVerifiesAnyRow.holds Tryz.pinned (OpenSpec.ofChange lllVerifiesAnyWrong)

/-- 'quadformlaw08.LllAccepts': WHATEVER THE INPUT: true; the input reads as it did. -/
def lllAcceptsSpec : ChangeSpec := { name := "lllAccepts", fn := fun _ => fun
  | [d] => { results := [.lit (.bool true)], args := [d] }
  | _ => none }
def lllAcceptsRow : OpenClaim := { program := "ytmkbpjoihdfpkaagreat", sum := "42d581c23445479af2d4ffbc61a5f852222cf787b2c22cf5c7097bf7750ac965", func := "quadform/quadformlaw08.LllAccepts", spec := "lllAccepts", unfollowed := true, recurses := true, apart := false }
def LllAcceptsSaid : Prop := lllAcceptsRow.holds Tryz.pinned (OpenSpec.ofChange lllAcceptsSpec)

/-- ITS FALSE NEIGHBOUR: 'it returns false'. Refute it at one input. -/
def lllAcceptsWrong : ChangeSpec := { name := "lllAccepts", fn := fun _ => fun
  | [d] => { results := [.lit (.bool false)], args := [d] }
  | _ => none }
def LllAcceptsWrongFalsely : Prop := lllAcceptsRow.holds Tryz.pinned (OpenSpec.ofChange lllAcceptsWrong)

/- THE SECOND FORM. 'bulk': how many values and letters a reading holds, each counted each time it is reached (what is shared counts as often as it is met; a slice's spare places count too). A statement '..UptoSaid' is the law's where the arguments, and the package variables that the reading takes, are together of bulk at most 1048576: NARROWER than '..Said'. Prove '..Said' where nothing that the law and all that it calls make is longer than what came in: it says more and counts as full. Else prove '..UptoSaid'. A law counts once. -/
mutual
def uptoBulk {H : Type} : DataW H → Nat
  | .lit (.string bytes) => bytes.length + 1
  | .lit _ => 1
  | .nil => 1
  | .ptr d => uptoBulk d + 1
  | .slice elems spare => uptoBulkAll elems + uptoBulkAll spare + 1
  | .agg parts => uptoBulkAll parts + 1
  | .iface _ d => uptoBulk d + 1
  | .map entries => uptoBulkEntries entries + 1
  | .held _ => 1
def uptoBulkAll {H : Type} : List (DataW H) → Nat
  | [] => 0
  | d :: r => uptoBulk d + uptoBulkAll r
def uptoBulkEntries {H : Type} : List (Lit × DataW H) → Nat
  | [] => 0
  | x :: r => uptoBulkEntry x + uptoBulkEntries r
def uptoBulkEntry {H : Type} : Lit × DataW H → Nat
  | (.string bytes, d) => bytes.length + uptoBulk d + 1
  | (_, d) => uptoBulk d + 1
 end
def uptoSmall : (H : Type) → List (DataW H) → Bool := fun _ ds => decide (uptoBulkAll ds ≤ 1048576)
def OpenSpec.upto (s : _root_.Go.ChangeSpec) : _root_.Go.OpenSpec := { _root_.Go.OpenSpec.ofChange s with cond := some uptoSmall }

/-- 'quadformlaw08.LllIsReduced', WHERE WHAT IT READS IS OF BULK AT MOST 1048576: true; the input reads as it did. -/
def lllIsReducedUptoRow : OpenClaim := { program := "ytmkbpjoihdfpkaagreat", sum := "42d581c23445479af2d4ffbc61a5f852222cf787b2c22cf5c7097bf7750ac965", func := "quadform/quadformlaw08.LllIsReduced", spec := "lllIsReduced", unfollowed := true, recurses := true, apart := false, narrowed := true }
def LllIsReducedUptoSaid : Prop := lllIsReducedUptoRow.holds Tryz.pinned (OpenSpec.upto lllIsReducedSpec)

/-- 'quadformlaw08.LllNear', WHERE WHAT IT READS IS OF BULK AT MOST 1048576: true; the input reads as it did. -/
def lllNearUptoRow : OpenClaim := { program := "ytmkbpjoihdfpkaagreat", sum := "42d581c23445479af2d4ffbc61a5f852222cf787b2c22cf5c7097bf7750ac965", func := "quadform/quadformlaw08.LllNear", spec := "lllNear", unfollowed := true, recurses := true, apart := false, narrowed := true }
def LllNearUptoSaid : Prop := lllNearUptoRow.holds Tryz.pinned (OpenSpec.upto lllNearSpec)

/-- 'quadformlaw08.LllEdges', WHERE WHAT IT READS IS OF BULK AT MOST 1048576: true; the input reads as it did. -/
def lllEdgesUptoRow : OpenClaim := { program := "ytmkbpjoihdfpkaagreat", sum := "42d581c23445479af2d4ffbc61a5f852222cf787b2c22cf5c7097bf7750ac965", func := "quadform/quadformlaw08.LllEdges", spec := "lllEdges", unfollowed := true, recurses := true, apart := false, narrowed := true }
def LllEdgesUptoSaid : Prop := lllEdgesUptoRow.holds Tryz.pinned (OpenSpec.upto lllEdgesSpec)

/-- 'quadformlaw08.LllDeterminant', WHERE WHAT IT READS IS OF BULK AT MOST 1048576: true; the input reads as it did. -/
def lllDeterminantUptoRow : OpenClaim := { program := "ytmkbpjoihdfpkaagreat", sum := "42d581c23445479af2d4ffbc61a5f852222cf787b2c22cf5c7097bf7750ac965", func := "quadform/quadformlaw08.LllDeterminant", spec := "lllDeterminant", unfollowed := true, recurses := true, apart := false, narrowed := true }
def LllDeterminantUptoSaid : Prop := lllDeterminantUptoRow.holds Tryz.pinned (OpenSpec.upto lllDeterminantSpec)

/-- 'quadformlaw08.LllReduces', WHERE WHAT IT READS IS OF BULK AT MOST 1048576: true; the input reads as it did. -/
def lllReducesUptoRow : OpenClaim := { program := "ytmkbpjoihdfpkaagreat", sum := "42d581c23445479af2d4ffbc61a5f852222cf787b2c22cf5c7097bf7750ac965", func := "quadform/quadformlaw08.LllReduces", spec := "lllReduces", unfollowed := true, recurses := true, apart := false, narrowed := true }
def LllReducesUptoSaid : Prop := lllReducesUptoRow.holds Tryz.pinned (OpenSpec.upto lllReducesSpec)

/-- 'quadformlaw08.LllErrors', WHERE WHAT IT READS IS OF BULK AT MOST 1048576: true; the input reads as it did. -/
def lllErrorsUptoRow : OpenClaim := { program := "ytmkbpjoihdfpkaagreat", sum := "42d581c23445479af2d4ffbc61a5f852222cf787b2c22cf5c7097bf7750ac965", func := "quadform/quadformlaw08.LllErrors", spec := "lllErrors", unfollowed := true, recurses := true, apart := false, narrowed := true }
def LllErrorsUptoSaid : Prop := lllErrorsUptoRow.holds Tryz.pinned (OpenSpec.upto lllErrorsSpec)

/-- 'quadformlaw08.LllLarge', WHERE WHAT IT READS IS OF BULK AT MOST 1048576: true; the input reads as it did. -/
def lllLargeUptoRow : OpenClaim := { program := "ytmkbpjoihdfpkaagreat", sum := "42d581c23445479af2d4ffbc61a5f852222cf787b2c22cf5c7097bf7750ac965", func := "quadform/quadformlaw08.LllLarge", spec := "lllLarge", unfollowed := true, recurses := true, apart := false, narrowed := true }
def LllLargeUptoSaid : Prop := lllLargeUptoRow.holds Tryz.pinned (OpenSpec.upto lllLargeSpec)

/-- 'quadformlaw08.LllShort', WHERE WHAT IT READS IS OF BULK AT MOST 1048576: true; the input reads as it did. -/
def lllShortUptoRow : OpenClaim := { program := "ytmkbpjoihdfpkaagreat", sum := "42d581c23445479af2d4ffbc61a5f852222cf787b2c22cf5c7097bf7750ac965", func := "quadform/quadformlaw08.LllShort", spec := "lllShort", unfollowed := true, recurses := true, apart := false, narrowed := true }
def LllShortUptoSaid : Prop := lllShortUptoRow.holds Tryz.pinned (OpenSpec.upto lllShortSpec)

/-- 'quadformlaw08.LllAgain', WHERE WHAT IT READS IS OF BULK AT MOST 1048576: true; the input reads as it did. -/
def lllAgainUptoRow : OpenClaim := { program := "ytmkbpjoihdfpkaagreat", sum := "42d581c23445479af2d4ffbc61a5f852222cf787b2c22cf5c7097bf7750ac965", func := "quadform/quadformlaw08.LllAgain", spec := "lllAgain", unfollowed := true, recurses := true, apart := false, narrowed := true }
def LllAgainUptoSaid : Prop := lllAgainUptoRow.holds Tryz.pinned (OpenSpec.upto lllAgainSpec)

/-- 'quadformlaw08.LllVerifies', WHERE WHAT IT READS IS OF BULK AT MOST 1048576: true; the input reads as it did. -/
def lllVerifiesUptoRow : OpenClaim := { program := "ytmkbpjoihdfpkaagreat", sum := "42d581c23445479af2d4ffbc61a5f852222cf787b2c22cf5c7097bf7750ac965", func := "quadform/quadformlaw08.LllVerifies", spec := "lllVerifies", unfollowed := true, recurses := true, apart := false, narrowed := true }
def LllVerifiesUptoSaid : Prop := lllVerifiesUptoRow.holds Tryz.pinned (OpenSpec.upto lllVerifiesSpec)

/-- 'quadformlaw08.LllVerifiesAny', WHERE WHAT IT READS IS OF BULK AT MOST 1048576: true; the input reads as it did. -/
def lllVerifiesAnyUptoRow : OpenClaim := { program := "ytmkbpjoihdfpkaagreat", sum := "42d581c23445479af2d4ffbc61a5f852222cf787b2c22cf5c7097bf7750ac965", func := "quadform/quadformlaw08.LllVerifiesAny", spec := "lllVerifiesAny", unfollowed := true, recurses := true, apart := false, narrowed := true }
def LllVerifiesAnyUptoSaid : Prop := lllVerifiesAnyUptoRow.holds Tryz.pinned (OpenSpec.upto lllVerifiesAnySpec)

/-- 'quadformlaw08.LllAccepts', WHERE WHAT IT READS IS OF BULK AT MOST 1048576: true; the input reads as it did. -/
def lllAcceptsUptoRow : OpenClaim := { program := "ytmkbpjoihdfpkaagreat", sum := "42d581c23445479af2d4ffbc61a5f852222cf787b2c22cf5c7097bf7750ac965", func := "quadform/quadformlaw08.LllAccepts", spec := "lllAccepts", unfollowed := true, recurses := true, apart := false, narrowed := true }
def LllAcceptsUptoSaid : Prop := lllAcceptsUptoRow.holds Tryz.pinned (OpenSpec.upto lllAcceptsSpec)

end Rows
end Go.Proofs.YtmkbpjoihdfpkaaGreat
