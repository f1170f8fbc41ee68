/-
  DERIVED. GIVEN WITH THE SEED: THE CARDS: each row of YtmpfjifhkmdbaaaGreatDoorRows.lean that lists a variable, with what it lists TIED to the program's text (the seventh form; the later family's looks); each row that meets fmt, with fmt's text TOLD by the authors' own Lean function (tested against real Go, not proved from fmt's source: count such statements apart). THE CARD IS WHAT COUNTS. Prove the row's statement (the work); the ties are given (YtmpfjifhkmdbaaaGreatDoorTie.lean); close each card by the builder's one call (the guide's Derived/Test/ToyasCard.lean, 'card_holds'). Laid BY PROGRAM, IN A SANDBOX (cutbox-door.mjs). By AI agents, Wed Nov 11 2026. No macro, syntax, notation, axiom, sorry.
-/
import Derived.Test.YtmpfjifhkmdbaaaGreatDoorRows
import GoSem.ClaimSeven
namespace Go.Proofs.YtmpfjifhkmdbaaaGreatDoor
namespace Rows

/-- THE TIED CARD OF 'interleavelaw06.CheckFile'. -/
def checkFileCard : Claim7 := { stood := { row := checkFileRow, standIns := [], harness := (true, "7112c3238cb5e5abaa3ba3c6cd6c636978d06b4f81634ba022c03f4adb139671"), looks := true }, kinds := [], alts := [], laidByText := true, laidKinds := [.data, .data, .data, .sentinel, .sentinel, .data, .data, .data, .data, .data, .data, .data, .data], laidTests := true, laidLooks := .later }
def CheckFileCardSaid : Prop := Claim7.holds Tryz.pinned (.plain (OpenSpec.ofChange checkFileSpec)) checkFileCard

/-- THE TIED CARD OF 'interleavelaw06.CheckText'. -/
def checkTextCard : Claim7 := { stood := { row := checkTextRow, standIns := [], harness := (true, "7112c3238cb5e5abaa3ba3c6cd6c636978d06b4f81634ba022c03f4adb139671"), looks := true }, kinds := [], alts := [], laidByText := true, laidKinds := [.data, .data, .data, .sentinel, .sentinel, .data, .data, .data, .data, .data, .data, .data, .data], laidTests := true, laidLooks := .later }
def CheckTextCardSaid : Prop := Claim7.holds Tryz.pinned (.plain (OpenSpec.ofChange checkTextSpec)) checkTextCard

/-- THE TIED CARD OF 'interleavelaw06.CheckAgain'. -/
def checkAgainCard : Claim7 := { stood := { row := checkAgainRow, standIns := [], harness := (true, "7112c3238cb5e5abaa3ba3c6cd6c636978d06b4f81634ba022c03f4adb139671"), looks := true }, kinds := [], alts := [], laidByText := true, laidKinds := [.data, .data, .data, .sentinel, .sentinel, .data, .data, .data, .data, .data, .data, .data, .data], laidTests := true, laidLooks := .later }
def CheckAgainCardSaid : Prop := Claim7.holds Tryz.pinned (.plain (OpenSpec.ofChange checkAgainSpec)) checkAgainCard

/-- THE TIED CARD OF 'interleavelaw06.CheckTypes'. -/
def checkTypesCard : Claim7 := { stood := { row := checkTypesRow, standIns := [], harness := (true, "7112c3238cb5e5abaa3ba3c6cd6c636978d06b4f81634ba022c03f4adb139671"), looks := true }, kinds := [], alts := [], laidByText := true, laidKinds := [.data, .data, .data, .sentinel, .sentinel, .data, .data, .data, .data, .data, .data, .data, .data], laidTests := true, laidLooks := .later }
def CheckTypesCardSaid : Prop := Claim7.holds Tryz.pinned (.plain (OpenSpec.ofChange checkTypesSpec)) checkTypesCard

/-- THE TIED CARD OF 'interleavelaw06.CheckUnused'. -/
def checkUnusedCard : Claim7 := { stood := { row := checkUnusedRow, standIns := [], harness := (true, "7112c3238cb5e5abaa3ba3c6cd6c636978d06b4f81634ba022c03f4adb139671"), looks := true }, kinds := [], alts := [], laidByText := true, laidKinds := [.data, .data, .data, .sentinel, .sentinel, .data, .data, .data, .data, .data, .data, .data, .data], laidTests := true, laidLooks := .later }
def CheckUnusedCardSaid : Prop := Claim7.holds Tryz.pinned (.plain (OpenSpec.ofChange checkUnusedSpec)) checkUnusedCard

/-- THE TIED CARD OF 'interleavelaw06.CheckRename'. -/
def checkRenameCard : Claim7 := { stood := { row := checkRenameRow, standIns := [], harness := (true, "7112c3238cb5e5abaa3ba3c6cd6c636978d06b4f81634ba022c03f4adb139671"), looks := true }, kinds := [], alts := [], laidByText := true, laidKinds := [.data, .data, .data, .sentinel, .sentinel, .data, .data, .data, .data, .data, .data, .data, .data], laidTests := true, laidLooks := .later }
def CheckRenameCardSaid : Prop := Claim7.holds Tryz.pinned (.plain (OpenSpec.ofChange checkRenameSpec)) checkRenameCard

/-- THE TIED CARD OF 'interleavelaw06.CheckOrder'. -/
def checkOrderCard : Claim7 := { stood := { row := checkOrderRow, standIns := [], harness := (true, "7112c3238cb5e5abaa3ba3c6cd6c636978d06b4f81634ba022c03f4adb139671"), looks := true }, kinds := [], alts := [], laidByText := true, laidKinds := [.data, .data, .data, .sentinel, .sentinel, .data, .data, .data, .data, .data, .data, .data, .data], laidTests := true, laidLooks := .later }
def CheckOrderCardSaid : Prop := Claim7.holds Tryz.pinned (.plain (OpenSpec.ofChange checkOrderSpec)) checkOrderCard

/-- THE SECOND FORM's CARD OF 'interleavelaw06.CheckFile'. -/
def checkFileUptoCard : Claim7 := { stood := { row := checkFileUptoRow, standIns := [], harness := (true, "7112c3238cb5e5abaa3ba3c6cd6c636978d06b4f81634ba022c03f4adb139671"), looks := true }, kinds := [], alts := [], laidByText := true, laidKinds := [.data, .data, .data, .sentinel, .sentinel, .data, .data, .data, .data, .data, .data, .data, .data], laidTests := true, laidLooks := .later }
def CheckFileUptoCardSaid : Prop := Claim7.holds Tryz.pinned (.plain (OpenSpec.upto checkFileSpec)) checkFileUptoCard

/-- THE SECOND FORM's CARD OF 'interleavelaw06.CheckText'. -/
def checkTextUptoCard : Claim7 := { stood := { row := checkTextUptoRow, standIns := [], harness := (true, "7112c3238cb5e5abaa3ba3c6cd6c636978d06b4f81634ba022c03f4adb139671"), looks := true }, kinds := [], alts := [], laidByText := true, laidKinds := [.data, .data, .data, .sentinel, .sentinel, .data, .data, .data, .data, .data, .data, .data, .data], laidTests := true, laidLooks := .later }
def CheckTextUptoCardSaid : Prop := Claim7.holds Tryz.pinned (.plain (OpenSpec.upto checkTextSpec)) checkTextUptoCard

/-- THE SECOND FORM's CARD OF 'interleavelaw06.CheckAgain'. -/
def checkAgainUptoCard : Claim7 := { stood := { row := checkAgainUptoRow, standIns := [], harness := (true, "7112c3238cb5e5abaa3ba3c6cd6c636978d06b4f81634ba022c03f4adb139671"), looks := true }, kinds := [], alts := [], laidByText := true, laidKinds := [.data, .data, .data, .sentinel, .sentinel, .data, .data, .data, .data, .data, .data, .data, .data], laidTests := true, laidLooks := .later }
def CheckAgainUptoCardSaid : Prop := Claim7.holds Tryz.pinned (.plain (OpenSpec.upto checkAgainSpec)) checkAgainUptoCard

/-- THE SECOND FORM's CARD OF 'interleavelaw06.CheckTypes'. -/
def checkTypesUptoCard : Claim7 := { stood := { row := checkTypesUptoRow, standIns := [], harness := (true, "7112c3238cb5e5abaa3ba3c6cd6c636978d06b4f81634ba022c03f4adb139671"), looks := true }, kinds := [], alts := [], laidByText := true, laidKinds := [.data, .data, .data, .sentinel, .sentinel, .data, .data, .data, .data, .data, .data, .data, .data], laidTests := true, laidLooks := .later }
def CheckTypesUptoCardSaid : Prop := Claim7.holds Tryz.pinned (.plain (OpenSpec.upto checkTypesSpec)) checkTypesUptoCard

/-- THE SECOND FORM's CARD OF 'interleavelaw06.CheckUnused'. -/
def checkUnusedUptoCard : Claim7 := { stood := { row := checkUnusedUptoRow, standIns := [], harness := (true, "7112c3238cb5e5abaa3ba3c6cd6c636978d06b4f81634ba022c03f4adb139671"), looks := true }, kinds := [], alts := [], laidByText := true, laidKinds := [.data, .data, .data, .sentinel, .sentinel, .data, .data, .data, .data, .data, .data, .data, .data], laidTests := true, laidLooks := .later }
def CheckUnusedUptoCardSaid : Prop := Claim7.holds Tryz.pinned (.plain (OpenSpec.upto checkUnusedSpec)) checkUnusedUptoCard

/-- THE SECOND FORM's CARD OF 'interleavelaw06.CheckRename'. -/
def checkRenameUptoCard : Claim7 := { stood := { row := checkRenameUptoRow, standIns := [], harness := (true, "7112c3238cb5e5abaa3ba3c6cd6c636978d06b4f81634ba022c03f4adb139671"), looks := true }, kinds := [], alts := [], laidByText := true, laidKinds := [.data, .data, .data, .sentinel, .sentinel, .data, .data, .data, .data, .data, .data, .data, .data], laidTests := true, laidLooks := .later }
def CheckRenameUptoCardSaid : Prop := Claim7.holds Tryz.pinned (.plain (OpenSpec.upto checkRenameSpec)) checkRenameUptoCard

/-- THE SECOND FORM's CARD OF 'interleavelaw06.CheckOrder'. -/
def checkOrderUptoCard : Claim7 := { stood := { row := checkOrderUptoRow, standIns := [], harness := (true, "7112c3238cb5e5abaa3ba3c6cd6c636978d06b4f81634ba022c03f4adb139671"), looks := true }, kinds := [], alts := [], laidByText := true, laidKinds := [.data, .data, .data, .sentinel, .sentinel, .data, .data, .data, .data, .data, .data, .data, .data], laidTests := true, laidLooks := .later }
def CheckOrderUptoCardSaid : Prop := Claim7.holds Tryz.pinned (.plain (OpenSpec.upto checkOrderSpec)) checkOrderUptoCard
end Rows
end Go.Proofs.YtmpfjifhkmdbaaaGreatDoor
