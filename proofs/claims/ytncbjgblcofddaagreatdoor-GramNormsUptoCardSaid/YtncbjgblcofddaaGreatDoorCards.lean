/-
  DERIVED. GIVEN WITH THE SEED: THE CARDS: each row of YtncbjgblcofddaaGreatDoorRows.lean that lists a variable, with what it lists TIED to the program's text (the seventh form; the later family's looks); each row that meets fmt, with fmt's text TOLD by the authors' own Lean function (tested against real Go, not proved from fmt's source: count such statements apart). THE CARD IS WHAT COUNTS. Prove the row's statement (the work); the ties are given (YtncbjgblcofddaaGreatDoorTie.lean); close each card by the builder's one call (the guide's Derived/Test/ToyasCard.lean, 'card_holds'). Laid BY PROGRAM, IN A SANDBOX (cutbox-door.mjs). By AI agents, Wed Nov 11 2026. No macro, syntax, notation, axiom, sorry.
-/
import Derived.Test.YtncbjgblcofddaaGreatDoorRows
import GoSem.ClaimSeven
namespace Go.Proofs.YtncbjgblcofddaaGreatDoor
namespace Rows

/-- THE TIED CARD OF 'quadformlaw07.GramValidates'. -/
def gramValidatesCard : Claim7 := { stood := { row := gramValidatesRow, standIns := [], harness := (true, "b73e4f6bb68be0d05adafc7a0fdc07a7b2c039e18c5a80e84c5cbcba27043276"), looks := false }, kinds := [], alts := [], laidByText := true, laidKinds := [.data, .data, .data, .data, .pinned], laidTests := true, laidLooks := .later }
def GramValidatesCardSaid : Prop := Claim7.holds Tryz.pinned (.plain (OpenSpec.ofChange gramValidatesSpec)) gramValidatesCard

/-- THE TIED CARD OF 'quadformlaw07.GramFormats'. -/
def gramFormatsCard : Claim7 := { stood := { row := gramFormatsRow, standIns := [], harness := (true, "b73e4f6bb68be0d05adafc7a0fdc07a7b2c039e18c5a80e84c5cbcba27043276"), looks := false }, kinds := [], alts := [], laidByText := true, laidKinds := [.data, .data, .data, .data, .pinned], laidTests := true, laidLooks := .later }
def GramFormatsCardSaid : Prop := Claim7.holds Tryz.pinned (.plain (OpenSpec.ofChange gramFormatsSpec)) gramFormatsCard

/-- THE TIED CARD OF 'quadformlaw07.GramDigits'. -/
def gramDigitsCard : Claim7 := { stood := { row := gramDigitsRow, standIns := [], harness := (true, "b73e4f6bb68be0d05adafc7a0fdc07a7b2c039e18c5a80e84c5cbcba27043276"), looks := false }, kinds := [], alts := [], laidByText := true, laidKinds := [.data, .data, .data, .data, .pinned], laidTests := true, laidLooks := .later }
def GramDigitsCardSaid : Prop := Claim7.holds Tryz.pinned (.plain (OpenSpec.ofChange gramDigitsSpec)) gramDigitsCard

/-- THE TIED CARD OF 'quadformlaw07.GramRoundTrip'. -/
def gramRoundTripCard : Claim7 := { stood := { row := gramRoundTripRow, standIns := [], harness := (true, "b73e4f6bb68be0d05adafc7a0fdc07a7b2c039e18c5a80e84c5cbcba27043276"), looks := false }, kinds := [], alts := [], laidByText := true, laidKinds := [.data, .data, .data, .data, .pinned], laidTests := true, laidLooks := .later }
def GramRoundTripCardSaid : Prop := Claim7.holds Tryz.pinned (.plain (OpenSpec.ofChange gramRoundTripSpec)) gramRoundTripCard

/-- THE TIED CARD OF 'quadformlaw07.GramDuals'. -/
def gramDualsCard : Claim7 := { stood := { row := gramDualsRow, standIns := [], harness := (true, "b73e4f6bb68be0d05adafc7a0fdc07a7b2c039e18c5a80e84c5cbcba27043276"), looks := false }, kinds := [], alts := [], laidByText := true, laidKinds := [.data, .data, .data, .data, .pinned], laidTests := true, laidLooks := .later }
def GramDualsCardSaid : Prop := Claim7.holds Tryz.pinned (.plain (OpenSpec.ofChange gramDualsSpec)) gramDualsCard

/-- THE TIED CARD OF 'quadformlaw07.GramSpoilt'. -/
def gramSpoiltCard : Claim7 := { stood := { row := gramSpoiltRow, standIns := [], harness := (true, "b73e4f6bb68be0d05adafc7a0fdc07a7b2c039e18c5a80e84c5cbcba27043276"), looks := false }, kinds := [], alts := [], laidByText := true, laidKinds := [.data, .data, .data, .data, .pinned], laidTests := true, laidLooks := .later }
def GramSpoiltCardSaid : Prop := Claim7.holds Tryz.pinned (.plain (OpenSpec.ofChange gramSpoiltSpec)) gramSpoiltCard

/-- THE TIED CARD OF 'quadformlaw07.GramNorms'. -/
def gramNormsCard : Claim7 := { stood := { row := gramNormsRow, standIns := [], harness := (true, "b73e4f6bb68be0d05adafc7a0fdc07a7b2c039e18c5a80e84c5cbcba27043276"), looks := false }, kinds := [], alts := [], laidByText := true, laidKinds := [.data, .data, .data, .data, .pinned], laidTests := true, laidLooks := .later }
def GramNormsCardSaid : Prop := Claim7.holds Tryz.pinned (.plain (OpenSpec.ofChange gramNormsSpec)) gramNormsCard

/-- THE TIED CARD OF 'quadformlaw07.GramPositive'. -/
def gramPositiveCard : Claim7 := { stood := { row := gramPositiveRow, standIns := [], harness := (true, "b73e4f6bb68be0d05adafc7a0fdc07a7b2c039e18c5a80e84c5cbcba27043276"), looks := false }, kinds := [], alts := [], laidByText := true, laidKinds := [.data, .data, .data, .data, .pinned], laidTests := true, laidLooks := .later }
def GramPositiveCardSaid : Prop := Claim7.holds Tryz.pinned (.plain (OpenSpec.ofChange gramPositiveSpec)) gramPositiveCard

/-- THE TIED CARD OF 'quadformlaw07.GramInvariants'. -/
def gramInvariantsCard : Claim7 := { stood := { row := gramInvariantsRow, standIns := [], harness := (true, "b73e4f6bb68be0d05adafc7a0fdc07a7b2c039e18c5a80e84c5cbcba27043276"), looks := false }, kinds := [], alts := [], laidByText := true, laidKinds := [.data, .data, .data, .data, .pinned], laidTests := true, laidLooks := .later }
def GramInvariantsCardSaid : Prop := Claim7.holds Tryz.pinned (.plain (OpenSpec.ofChange gramInvariantsSpec)) gramInvariantsCard

/-- THE TIED CARD OF 'quadformlaw07.GramSums'. -/
def gramSumsCard : Claim7 := { stood := { row := gramSumsRow, standIns := [], harness := (true, "b73e4f6bb68be0d05adafc7a0fdc07a7b2c039e18c5a80e84c5cbcba27043276"), looks := false }, kinds := [], alts := [], laidByText := true, laidKinds := [.data, .data, .data, .data, .pinned], laidTests := true, laidLooks := .later }
def GramSumsCardSaid : Prop := Claim7.holds Tryz.pinned (.plain (OpenSpec.ofChange gramSumsSpec)) gramSumsCard

/-- THE TIED CARD OF 'quadformlaw07.GramTransforms'. -/
def gramTransformsCard : Claim7 := { stood := { row := gramTransformsRow, standIns := [], harness := (true, "b73e4f6bb68be0d05adafc7a0fdc07a7b2c039e18c5a80e84c5cbcba27043276"), looks := false }, kinds := [], alts := [], laidByText := true, laidKinds := [.data, .data, .data, .data, .pinned], laidTests := true, laidLooks := .later }
def GramTransformsCardSaid : Prop := Claim7.holds Tryz.pinned (.plain (OpenSpec.ofChange gramTransformsSpec)) gramTransformsCard

/-- THE TIED CARD OF 'quadformlaw07.GramChanges'. -/
def gramChangesCard : Claim7 := { stood := { row := gramChangesRow, standIns := [], harness := (true, "b73e4f6bb68be0d05adafc7a0fdc07a7b2c039e18c5a80e84c5cbcba27043276"), looks := false }, kinds := [], alts := [], laidByText := true, laidKinds := [.data, .data, .data, .data, .pinned], laidTests := true, laidLooks := .later }
def GramChangesCardSaid : Prop := Claim7.holds Tryz.pinned (.plain (OpenSpec.ofChange gramChangesSpec)) gramChangesCard

/-- THE SECOND FORM's CARD OF 'quadformlaw07.GramValidates'. -/
def gramValidatesUptoCard : Claim7 := { stood := { row := gramValidatesUptoRow, standIns := [], harness := (true, "b73e4f6bb68be0d05adafc7a0fdc07a7b2c039e18c5a80e84c5cbcba27043276"), looks := false }, kinds := [], alts := [], laidByText := true, laidKinds := [.data, .data, .data, .data, .pinned], laidTests := true, laidLooks := .later }
def GramValidatesUptoCardSaid : Prop := Claim7.holds Tryz.pinned (.plain (OpenSpec.upto gramValidatesSpec)) gramValidatesUptoCard

/-- THE SECOND FORM's CARD OF 'quadformlaw07.GramFormats'. -/
def gramFormatsUptoCard : Claim7 := { stood := { row := gramFormatsUptoRow, standIns := [], harness := (true, "b73e4f6bb68be0d05adafc7a0fdc07a7b2c039e18c5a80e84c5cbcba27043276"), looks := false }, kinds := [], alts := [], laidByText := true, laidKinds := [.data, .data, .data, .data, .pinned], laidTests := true, laidLooks := .later }
def GramFormatsUptoCardSaid : Prop := Claim7.holds Tryz.pinned (.plain (OpenSpec.upto gramFormatsSpec)) gramFormatsUptoCard

/-- THE SECOND FORM's CARD OF 'quadformlaw07.GramDigits'. -/
def gramDigitsUptoCard : Claim7 := { stood := { row := gramDigitsUptoRow, standIns := [], harness := (true, "b73e4f6bb68be0d05adafc7a0fdc07a7b2c039e18c5a80e84c5cbcba27043276"), looks := false }, kinds := [], alts := [], laidByText := true, laidKinds := [.data, .data, .data, .data, .pinned], laidTests := true, laidLooks := .later }
def GramDigitsUptoCardSaid : Prop := Claim7.holds Tryz.pinned (.plain (OpenSpec.upto gramDigitsSpec)) gramDigitsUptoCard

/-- THE SECOND FORM's CARD OF 'quadformlaw07.GramRoundTrip'. -/
def gramRoundTripUptoCard : Claim7 := { stood := { row := gramRoundTripUptoRow, standIns := [], harness := (true, "b73e4f6bb68be0d05adafc7a0fdc07a7b2c039e18c5a80e84c5cbcba27043276"), looks := false }, kinds := [], alts := [], laidByText := true, laidKinds := [.data, .data, .data, .data, .pinned], laidTests := true, laidLooks := .later }
def GramRoundTripUptoCardSaid : Prop := Claim7.holds Tryz.pinned (.plain (OpenSpec.upto gramRoundTripSpec)) gramRoundTripUptoCard

/-- THE SECOND FORM's CARD OF 'quadformlaw07.GramDuals'. -/
def gramDualsUptoCard : Claim7 := { stood := { row := gramDualsUptoRow, standIns := [], harness := (true, "b73e4f6bb68be0d05adafc7a0fdc07a7b2c039e18c5a80e84c5cbcba27043276"), looks := false }, kinds := [], alts := [], laidByText := true, laidKinds := [.data, .data, .data, .data, .pinned], laidTests := true, laidLooks := .later }
def GramDualsUptoCardSaid : Prop := Claim7.holds Tryz.pinned (.plain (OpenSpec.upto gramDualsSpec)) gramDualsUptoCard

/-- THE SECOND FORM's CARD OF 'quadformlaw07.GramSpoilt'. -/
def gramSpoiltUptoCard : Claim7 := { stood := { row := gramSpoiltUptoRow, standIns := [], harness := (true, "b73e4f6bb68be0d05adafc7a0fdc07a7b2c039e18c5a80e84c5cbcba27043276"), looks := false }, kinds := [], alts := [], laidByText := true, laidKinds := [.data, .data, .data, .data, .pinned], laidTests := true, laidLooks := .later }
def GramSpoiltUptoCardSaid : Prop := Claim7.holds Tryz.pinned (.plain (OpenSpec.upto gramSpoiltSpec)) gramSpoiltUptoCard

/-- THE SECOND FORM's CARD OF 'quadformlaw07.GramNorms'. -/
def gramNormsUptoCard : Claim7 := { stood := { row := gramNormsUptoRow, standIns := [], harness := (true, "b73e4f6bb68be0d05adafc7a0fdc07a7b2c039e18c5a80e84c5cbcba27043276"), looks := false }, kinds := [], alts := [], laidByText := true, laidKinds := [.data, .data, .data, .data, .pinned], laidTests := true, laidLooks := .later }
def GramNormsUptoCardSaid : Prop := Claim7.holds Tryz.pinned (.plain (OpenSpec.upto gramNormsSpec)) gramNormsUptoCard

/-- THE SECOND FORM's CARD OF 'quadformlaw07.GramPositive'. -/
def gramPositiveUptoCard : Claim7 := { stood := { row := gramPositiveUptoRow, standIns := [], harness := (true, "b73e4f6bb68be0d05adafc7a0fdc07a7b2c039e18c5a80e84c5cbcba27043276"), looks := false }, kinds := [], alts := [], laidByText := true, laidKinds := [.data, .data, .data, .data, .pinned], laidTests := true, laidLooks := .later }
def GramPositiveUptoCardSaid : Prop := Claim7.holds Tryz.pinned (.plain (OpenSpec.upto gramPositiveSpec)) gramPositiveUptoCard

/-- THE SECOND FORM's CARD OF 'quadformlaw07.GramInvariants'. -/
def gramInvariantsUptoCard : Claim7 := { stood := { row := gramInvariantsUptoRow, standIns := [], harness := (true, "b73e4f6bb68be0d05adafc7a0fdc07a7b2c039e18c5a80e84c5cbcba27043276"), looks := false }, kinds := [], alts := [], laidByText := true, laidKinds := [.data, .data, .data, .data, .pinned], laidTests := true, laidLooks := .later }
def GramInvariantsUptoCardSaid : Prop := Claim7.holds Tryz.pinned (.plain (OpenSpec.upto gramInvariantsSpec)) gramInvariantsUptoCard

/-- THE SECOND FORM's CARD OF 'quadformlaw07.GramSums'. -/
def gramSumsUptoCard : Claim7 := { stood := { row := gramSumsUptoRow, standIns := [], harness := (true, "b73e4f6bb68be0d05adafc7a0fdc07a7b2c039e18c5a80e84c5cbcba27043276"), looks := false }, kinds := [], alts := [], laidByText := true, laidKinds := [.data, .data, .data, .data, .pinned], laidTests := true, laidLooks := .later }
def GramSumsUptoCardSaid : Prop := Claim7.holds Tryz.pinned (.plain (OpenSpec.upto gramSumsSpec)) gramSumsUptoCard

/-- THE SECOND FORM's CARD OF 'quadformlaw07.GramTransforms'. -/
def gramTransformsUptoCard : Claim7 := { stood := { row := gramTransformsUptoRow, standIns := [], harness := (true, "b73e4f6bb68be0d05adafc7a0fdc07a7b2c039e18c5a80e84c5cbcba27043276"), looks := false }, kinds := [], alts := [], laidByText := true, laidKinds := [.data, .data, .data, .data, .pinned], laidTests := true, laidLooks := .later }
def GramTransformsUptoCardSaid : Prop := Claim7.holds Tryz.pinned (.plain (OpenSpec.upto gramTransformsSpec)) gramTransformsUptoCard

/-- THE SECOND FORM's CARD OF 'quadformlaw07.GramChanges'. -/
def gramChangesUptoCard : Claim7 := { stood := { row := gramChangesUptoRow, standIns := [], harness := (true, "b73e4f6bb68be0d05adafc7a0fdc07a7b2c039e18c5a80e84c5cbcba27043276"), looks := false }, kinds := [], alts := [], laidByText := true, laidKinds := [.data, .data, .data, .data, .pinned], laidTests := true, laidLooks := .later }
def GramChangesUptoCardSaid : Prop := Claim7.holds Tryz.pinned (.plain (OpenSpec.upto gramChangesSpec)) gramChangesUptoCard
end Rows
end Go.Proofs.YtncbjgblcofddaaGreatDoor
