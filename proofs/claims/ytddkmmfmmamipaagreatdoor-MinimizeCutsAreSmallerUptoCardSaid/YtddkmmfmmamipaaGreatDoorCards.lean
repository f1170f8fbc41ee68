/-
  DERIVED. GIVEN WITH THE SEED: THE CARDS: each row of YtddkmmfmmamipaaGreatDoorRows.lean that lists a variable, with what it lists TIED to the program's text (the seventh form; the later family's looks); each row that meets fmt, with fmt's text TOLD by the authors' own Lean function (tested against real Go, not proved from fmt's source: count such statements apart). THE CARD IS WHAT COUNTS. Prove the row's statement (the work); the ties are given (YtddkmmfmmamipaaGreatDoorTie.lean); close each card by the builder's one call (the guide's Derived/Test/ToyasCard.lean, 'card_holds'). Laid BY PROGRAM, IN A SANDBOX (cutbox-door.mjs). By AI agents, Wed Nov 11 2026. No macro, syntax, notation, axiom, sorry.
-/
import Derived.Test.YtddkmmfmmamipaaGreatDoorRows
import GoSem.ClaimSeven
namespace Go.Proofs.YtddkmmfmmamipaaGreatDoor
namespace Rows

/-- THE TIED CARD OF 'interleavelaw53.MinimizeShrinkMatchesReference'. -/
def minimizeShrinkMatchesReferenceCard : Claim7 := { stood := { row := minimizeShrinkMatchesReferenceRow, standIns := [], harness := (true, "25324630f5b9f7cf70b925e8dd500a37b9aab8bcd560ef44a75b626f1adcca92"), looks := true }, kinds := [], alts := [], laidByText := true, laidKinds := [.data, .data, .data, .sentinel, .sentinel, .data, .data, .data, .data, .data, .data, .data, .data], laidTests := true, laidLooks := .later }
def MinimizeShrinkMatchesReferenceCardSaid : Prop := Claim7.holds Tryz.pinned (.plain (OpenSpec.ofChange minimizeShrinkMatchesReferenceSpec)) minimizeShrinkMatchesReferenceCard

/-- THE TIED CARD OF 'interleavelaw53.MinimizeShrinkIsMinimal'. -/
def minimizeShrinkIsMinimalCard : Claim7 := { stood := { row := minimizeShrinkIsMinimalRow, standIns := [], harness := (true, "25324630f5b9f7cf70b925e8dd500a37b9aab8bcd560ef44a75b626f1adcca92"), looks := true }, kinds := [], alts := [], laidByText := true, laidKinds := [.data, .data, .data, .sentinel, .sentinel, .data, .data, .data, .data, .data, .data, .data, .data], laidTests := true, laidLooks := .later }
def MinimizeShrinkIsMinimalCardSaid : Prop := Claim7.holds Tryz.pinned (.plain (OpenSpec.ofChange minimizeShrinkIsMinimalSpec)) minimizeShrinkIsMinimalCard

/-- THE TIED CARD OF 'interleavelaw53.MinimizeCutsMatchReference'. -/
def minimizeCutsMatchReferenceCard : Claim7 := { stood := { row := minimizeCutsMatchReferenceRow, standIns := [], harness := (true, "25324630f5b9f7cf70b925e8dd500a37b9aab8bcd560ef44a75b626f1adcca92"), looks := true }, kinds := [], alts := [], laidByText := true, laidKinds := [.data, .data, .data, .sentinel, .sentinel, .data, .data, .data, .data, .data, .data, .data, .data], laidTests := true, laidLooks := .later }
def MinimizeCutsMatchReferenceCardSaid : Prop := Claim7.holds Tryz.pinned (.plain (OpenSpec.ofChange minimizeCutsMatchReferenceSpec)) minimizeCutsMatchReferenceCard

/-- THE TIED CARD OF 'interleavelaw53.MinimizeCutsAreSmaller'. -/
def minimizeCutsAreSmallerCard : Claim7 := { stood := { row := minimizeCutsAreSmallerRow, standIns := [], harness := (true, "25324630f5b9f7cf70b925e8dd500a37b9aab8bcd560ef44a75b626f1adcca92"), looks := true }, kinds := [], alts := [], laidByText := true, laidKinds := [.data, .data, .data, .sentinel, .sentinel, .data, .data, .data, .data, .data, .data, .data, .data], laidTests := true, laidLooks := .later }
def MinimizeCutsAreSmallerCardSaid : Prop := Claim7.holds Tryz.pinned (.plain (OpenSpec.ofChange minimizeCutsAreSmallerSpec)) minimizeCutsAreSmallerCard

/-- THE SECOND FORM's CARD OF 'interleavelaw53.MinimizeShrinkMatchesReference'. -/
def minimizeShrinkMatchesReferenceUptoCard : Claim7 := { stood := { row := minimizeShrinkMatchesReferenceUptoRow, standIns := [], harness := (true, "25324630f5b9f7cf70b925e8dd500a37b9aab8bcd560ef44a75b626f1adcca92"), looks := true }, kinds := [], alts := [], laidByText := true, laidKinds := [.data, .data, .data, .sentinel, .sentinel, .data, .data, .data, .data, .data, .data, .data, .data], laidTests := true, laidLooks := .later }
def MinimizeShrinkMatchesReferenceUptoCardSaid : Prop := Claim7.holds Tryz.pinned (.plain (OpenSpec.upto minimizeShrinkMatchesReferenceSpec)) minimizeShrinkMatchesReferenceUptoCard

/-- THE SECOND FORM's CARD OF 'interleavelaw53.MinimizeShrinkIsMinimal'. -/
def minimizeShrinkIsMinimalUptoCard : Claim7 := { stood := { row := minimizeShrinkIsMinimalUptoRow, standIns := [], harness := (true, "25324630f5b9f7cf70b925e8dd500a37b9aab8bcd560ef44a75b626f1adcca92"), looks := true }, kinds := [], alts := [], laidByText := true, laidKinds := [.data, .data, .data, .sentinel, .sentinel, .data, .data, .data, .data, .data, .data, .data, .data], laidTests := true, laidLooks := .later }
def MinimizeShrinkIsMinimalUptoCardSaid : Prop := Claim7.holds Tryz.pinned (.plain (OpenSpec.upto minimizeShrinkIsMinimalSpec)) minimizeShrinkIsMinimalUptoCard

/-- THE SECOND FORM's CARD OF 'interleavelaw53.MinimizeCutsMatchReference'. -/
def minimizeCutsMatchReferenceUptoCard : Claim7 := { stood := { row := minimizeCutsMatchReferenceUptoRow, standIns := [], harness := (true, "25324630f5b9f7cf70b925e8dd500a37b9aab8bcd560ef44a75b626f1adcca92"), looks := true }, kinds := [], alts := [], laidByText := true, laidKinds := [.data, .data, .data, .sentinel, .sentinel, .data, .data, .data, .data, .data, .data, .data, .data], laidTests := true, laidLooks := .later }
def MinimizeCutsMatchReferenceUptoCardSaid : Prop := Claim7.holds Tryz.pinned (.plain (OpenSpec.upto minimizeCutsMatchReferenceSpec)) minimizeCutsMatchReferenceUptoCard

/-- THE SECOND FORM's CARD OF 'interleavelaw53.MinimizeCutsAreSmaller'. -/
def minimizeCutsAreSmallerUptoCard : Claim7 := { stood := { row := minimizeCutsAreSmallerUptoRow, standIns := [], harness := (true, "25324630f5b9f7cf70b925e8dd500a37b9aab8bcd560ef44a75b626f1adcca92"), looks := true }, kinds := [], alts := [], laidByText := true, laidKinds := [.data, .data, .data, .sentinel, .sentinel, .data, .data, .data, .data, .data, .data, .data, .data], laidTests := true, laidLooks := .later }
def MinimizeCutsAreSmallerUptoCardSaid : Prop := Claim7.holds Tryz.pinned (.plain (OpenSpec.upto minimizeCutsAreSmallerSpec)) minimizeCutsAreSmallerUptoCard
end Rows
end Go.Proofs.YtddkmmfmmamipaaGreatDoor
