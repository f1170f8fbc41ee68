/-
  DERIVED. GIVEN WITH THE SEED: THE CARDS: each row of YtapkdoacegpgaaaGreatDoorRows.lean that lists a variable, with what it lists TIED to the program's text (the seventh form; the later family's looks); each row that meets fmt, with fmt's text TOLD by the authors' own Lean function (tested against real Go, not proved from fmt's source: count such statements apart). THE CARD IS WHAT COUNTS. Prove the row's statement (the work); the ties are given (YtapkdoacegpgaaaGreatDoorTie.lean); close each card by the builder's one call (the guide's Derived/Test/ToyasCard.lean, 'card_holds'). Laid BY PROGRAM, IN A SANDBOX (cutbox-door.mjs). By AI agents, Wed Nov 11 2026. No macro, syntax, notation, axiom, sorry.
-/
import Derived.Test.YtapkdoacegpgaaaGreatDoorRows
import GoSem.ClaimSeven
namespace Go.Proofs.YtapkdoacegpgaaaGreatDoor
namespace Rows

/-- THE TIED CARD OF 'interleavelaw08.CaptureLocals'. -/
def captureLocalsCard : Claim7 := { stood := { row := captureLocalsRow, standIns := [], harness := (true, "8d5a8a448cd4e39b6a0f15456119aa9e3688b786140f77af833fc165f278497d"), looks := true }, kinds := [], alts := [], laidByText := true, laidKinds := [.data, .data, .data, .sentinel, .sentinel, .data, .data], laidTests := true, laidLooks := .later }
def CaptureLocalsCardSaid : Prop := Claim7.holds Tryz.pinned (.plain (OpenSpec.ofChange captureLocalsSpec)) captureLocalsCard

/-- THE TIED CARD OF 'interleavelaw08.CaptureCaptures'. -/
def captureCapturesCard : Claim7 := { stood := { row := captureCapturesRow, standIns := [], harness := (true, "8d5a8a448cd4e39b6a0f15456119aa9e3688b786140f77af833fc165f278497d"), looks := true }, kinds := [], alts := [], laidByText := true, laidKinds := [.data, .data, .data, .sentinel, .sentinel, .data, .data], laidTests := true, laidLooks := .later }
def CaptureCapturesCardSaid : Prop := Claim7.holds Tryz.pinned (.plain (OpenSpec.ofChange captureCapturesSpec)) captureCapturesCard

/-- THE TIED CARD OF 'interleavelaw08.CaptureLiterals'. -/
def captureLiteralsCard : Claim7 := { stood := { row := captureLiteralsRow, standIns := [], harness := (true, "8d5a8a448cd4e39b6a0f15456119aa9e3688b786140f77af833fc165f278497d"), looks := true }, kinds := [], alts := [], laidByText := true, laidKinds := [.data, .data, .data, .sentinel, .sentinel, .data, .data], laidTests := true, laidLooks := .later }
def CaptureLiteralsCardSaid : Prop := Claim7.holds Tryz.pinned (.plain (OpenSpec.ofChange captureLiteralsSpec)) captureLiteralsCard

/-- THE TIED CARD OF 'interleavelaw08.CaptureUses'. -/
def captureUsesCard : Claim7 := { stood := { row := captureUsesRow, standIns := [], harness := (true, "8d5a8a448cd4e39b6a0f15456119aa9e3688b786140f77af833fc165f278497d"), looks := true }, kinds := [], alts := [], laidByText := true, laidKinds := [.data, .data, .data, .sentinel, .sentinel, .data, .data], laidTests := true, laidLooks := .later }
def CaptureUsesCardSaid : Prop := Claim7.holds Tryz.pinned (.plain (OpenSpec.ofChange captureUsesSpec)) captureUsesCard

/-- THE TIED CARD OF 'interleavelaw08.CaptureNesting'. -/
def captureNestingCard : Claim7 := { stood := { row := captureNestingRow, standIns := [], harness := (true, "8d5a8a448cd4e39b6a0f15456119aa9e3688b786140f77af833fc165f278497d"), looks := true }, kinds := [], alts := [], laidByText := true, laidKinds := [.data, .data, .data, .sentinel, .sentinel, .data, .data], laidTests := true, laidLooks := .later }
def CaptureNestingCardSaid : Prop := Claim7.holds Tryz.pinned (.plain (OpenSpec.ofChange captureNestingSpec)) captureNestingCard

/-- THE TIED CARD OF 'interleavelaw08.CaptureBoxes'. -/
def captureBoxesCard : Claim7 := { stood := { row := captureBoxesRow, standIns := [], harness := (true, "8d5a8a448cd4e39b6a0f15456119aa9e3688b786140f77af833fc165f278497d"), looks := true }, kinds := [], alts := [], laidByText := true, laidKinds := [.data, .data, .data, .sentinel, .sentinel, .data, .data], laidTests := true, laidLooks := .later }
def CaptureBoxesCardSaid : Prop := Claim7.holds Tryz.pinned (.plain (OpenSpec.ofChange captureBoxesSpec)) captureBoxesCard

/-- THE SECOND FORM's CARD OF 'interleavelaw08.CaptureLocals'. -/
def captureLocalsUptoCard : Claim7 := { stood := { row := captureLocalsUptoRow, standIns := [], harness := (true, "8d5a8a448cd4e39b6a0f15456119aa9e3688b786140f77af833fc165f278497d"), looks := true }, kinds := [], alts := [], laidByText := true, laidKinds := [.data, .data, .data, .sentinel, .sentinel, .data, .data], laidTests := true, laidLooks := .later }
def CaptureLocalsUptoCardSaid : Prop := Claim7.holds Tryz.pinned (.plain (OpenSpec.upto captureLocalsSpec)) captureLocalsUptoCard

/-- THE SECOND FORM's CARD OF 'interleavelaw08.CaptureCaptures'. -/
def captureCapturesUptoCard : Claim7 := { stood := { row := captureCapturesUptoRow, standIns := [], harness := (true, "8d5a8a448cd4e39b6a0f15456119aa9e3688b786140f77af833fc165f278497d"), looks := true }, kinds := [], alts := [], laidByText := true, laidKinds := [.data, .data, .data, .sentinel, .sentinel, .data, .data], laidTests := true, laidLooks := .later }
def CaptureCapturesUptoCardSaid : Prop := Claim7.holds Tryz.pinned (.plain (OpenSpec.upto captureCapturesSpec)) captureCapturesUptoCard

/-- THE SECOND FORM's CARD OF 'interleavelaw08.CaptureLiterals'. -/
def captureLiteralsUptoCard : Claim7 := { stood := { row := captureLiteralsUptoRow, standIns := [], harness := (true, "8d5a8a448cd4e39b6a0f15456119aa9e3688b786140f77af833fc165f278497d"), looks := true }, kinds := [], alts := [], laidByText := true, laidKinds := [.data, .data, .data, .sentinel, .sentinel, .data, .data], laidTests := true, laidLooks := .later }
def CaptureLiteralsUptoCardSaid : Prop := Claim7.holds Tryz.pinned (.plain (OpenSpec.upto captureLiteralsSpec)) captureLiteralsUptoCard

/-- THE SECOND FORM's CARD OF 'interleavelaw08.CaptureUses'. -/
def captureUsesUptoCard : Claim7 := { stood := { row := captureUsesUptoRow, standIns := [], harness := (true, "8d5a8a448cd4e39b6a0f15456119aa9e3688b786140f77af833fc165f278497d"), looks := true }, kinds := [], alts := [], laidByText := true, laidKinds := [.data, .data, .data, .sentinel, .sentinel, .data, .data], laidTests := true, laidLooks := .later }
def CaptureUsesUptoCardSaid : Prop := Claim7.holds Tryz.pinned (.plain (OpenSpec.upto captureUsesSpec)) captureUsesUptoCard

/-- THE SECOND FORM's CARD OF 'interleavelaw08.CaptureNesting'. -/
def captureNestingUptoCard : Claim7 := { stood := { row := captureNestingUptoRow, standIns := [], harness := (true, "8d5a8a448cd4e39b6a0f15456119aa9e3688b786140f77af833fc165f278497d"), looks := true }, kinds := [], alts := [], laidByText := true, laidKinds := [.data, .data, .data, .sentinel, .sentinel, .data, .data], laidTests := true, laidLooks := .later }
def CaptureNestingUptoCardSaid : Prop := Claim7.holds Tryz.pinned (.plain (OpenSpec.upto captureNestingSpec)) captureNestingUptoCard

/-- THE SECOND FORM's CARD OF 'interleavelaw08.CaptureBoxes'. -/
def captureBoxesUptoCard : Claim7 := { stood := { row := captureBoxesUptoRow, standIns := [], harness := (true, "8d5a8a448cd4e39b6a0f15456119aa9e3688b786140f77af833fc165f278497d"), looks := true }, kinds := [], alts := [], laidByText := true, laidKinds := [.data, .data, .data, .sentinel, .sentinel, .data, .data], laidTests := true, laidLooks := .later }
def CaptureBoxesUptoCardSaid : Prop := Claim7.holds Tryz.pinned (.plain (OpenSpec.upto captureBoxesSpec)) captureBoxesUptoCard
end Rows
end Go.Proofs.YtapkdoacegpgaaaGreatDoor
