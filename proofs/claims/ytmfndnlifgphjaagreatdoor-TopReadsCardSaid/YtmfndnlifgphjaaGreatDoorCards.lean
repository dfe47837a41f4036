/-
  DERIVED. GIVEN WITH THE SEED: THE CARDS: each row of YtmfndnlifgphjaaGreatDoorRows.lean that lists a variable, with what it lists TIED to the program's text (the seventh form; the later family's looks); each row that meets fmt, with fmt's text TOLD by the authors' own Lean function (tested against real Go, not proved from fmt's source: count such statements apart). THE CARD IS WHAT COUNTS. Prove the row's statement (the work); the ties are given (YtmfndnlifgphjaaGreatDoorTie.lean); close each card by the builder's one call (the guide's Derived/Test/ToyasCard.lean, 'card_holds'). Laid BY PROGRAM, IN A SANDBOX (cutbox-door.mjs). By AI agents, Wed Nov 11 2026. No macro, syntax, notation, axiom, sorry.
-/
import Derived.Test.YtmfndnlifgphjaaGreatDoorRows
import GoSem.ClaimSeven
namespace Go.Proofs.YtmfndnlifgphjaaGreatDoor
namespace Rows

/-- THE TIED CARD OF 'quadformtop.TopReads'. -/
def topReadsCard : Claim7 := { stood := { row := topReadsRow, standIns := [], harness := (true, "ae51e6fd34a41511863d341000822712b3dd679d9b0cc177bae190d2ac8906c6"), looks := false }, kinds := [], alts := [], laidByText := true, laidKinds := [.data, .data, .data, .data, .pinned], laidTests := true, laidLooks := .later }
def TopReadsCardSaid : Prop := Claim7.holds Tryz.pinned (.plain (OpenSpec.ofChange topReadsSpec)) topReadsCard

/-- THE SECOND FORM's CARD OF 'quadformtop.TopReads'. -/
def topReadsUptoCard : Claim7 := { stood := { row := topReadsUptoRow, standIns := [], harness := (true, "ae51e6fd34a41511863d341000822712b3dd679d9b0cc177bae190d2ac8906c6"), looks := false }, kinds := [], alts := [], laidByText := true, laidKinds := [.data, .data, .data, .data, .pinned], laidTests := true, laidLooks := .later }
def TopReadsUptoCardSaid : Prop := Claim7.holds Tryz.pinned (.plain (OpenSpec.upto topReadsSpec)) topReadsUptoCard
end Rows
end Go.Proofs.YtmfndnlifgphjaaGreatDoor
