/-
  DERIVED. GIVEN WITH THE SEED: THE CARDS: each row of YteicjpedahoilaaGreatDoorRows.lean that lists a variable, with what it lists TIED to the program's text (the seventh form; the later family's looks); each row that meets fmt, with fmt's text TOLD by the authors' own Lean function (tested against real Go, not proved from fmt's source: count such statements apart). THE CARD IS WHAT COUNTS. Prove the row's statement (the work); the ties are given (YteicjpedahoilaaGreatDoorTie.lean); close each card by the builder's one call (the guide's Derived/Test/ToyasCard.lean, 'card_holds'). Laid BY PROGRAM, IN A SANDBOX (cutbox-door.mjs). By AI agents, Wed Nov 11 2026. No macro, syntax, notation, axiom, sorry.
-/
import Derived.Test.YteicjpedahoilaaGreatDoorRows
import GoSem.ClaimSeven
namespace Go.Proofs.YteicjpedahoilaaGreatDoor
namespace Rows

/-- THE TIED CARD OF 'interleavelaw07.FoldFile'. -/
def foldFileCard : Claim7 := { stood := { row := foldFileRow, standIns := [], harness := (true, "e6664f02bf88da2a9578e77453c39bed786ffb45f447059646c51aa069a7f174"), looks := true }, kinds := [], alts := [], laidByText := true, laidKinds := [.data, .data, .data, .sentinel, .sentinel, .data], laidTests := true, laidLooks := .later }
def FoldFileCardSaid : Prop := Claim7.holds Tryz.pinned (.plain (OpenSpec.ofChange foldFileSpec)) foldFileCard

/-- THE TIED CARD OF 'interleavelaw07.FoldChecked'. -/
def foldCheckedCard : Claim7 := { stood := { row := foldCheckedRow, standIns := [], harness := (true, "e6664f02bf88da2a9578e77453c39bed786ffb45f447059646c51aa069a7f174"), looks := true }, kinds := [], alts := [], laidByText := true, laidKinds := [.data, .data, .data, .sentinel, .sentinel, .data], laidTests := true, laidLooks := .later }
def FoldCheckedCardSaid : Prop := Claim7.holds Tryz.pinned (.plain (OpenSpec.ofChange foldCheckedSpec)) foldCheckedCard

/-- THE TIED CARD OF 'interleavelaw03.SyntaxPrint'. -/
def syntaxPrintCard : Claim7 := { stood := { row := syntaxPrintRow, standIns := [], harness := (true, "e6664f02bf88da2a9578e77453c39bed786ffb45f447059646c51aa069a7f174"), looks := true }, kinds := [], alts := [], laidByText := true, laidKinds := [.data, .data, .data, .sentinel, .sentinel, .data], laidTests := true, laidLooks := .later }
def SyntaxPrintCardSaid : Prop := Claim7.holds Tryz.pinned (.plain (OpenSpec.ofChange syntaxPrintSpec)) syntaxPrintCard

/-- THE TIED CARD OF 'interleavelaw03.SyntaxText'. -/
def syntaxTextCard : Claim7 := { stood := { row := syntaxTextRow, standIns := [], harness := (true, "e6664f02bf88da2a9578e77453c39bed786ffb45f447059646c51aa069a7f174"), looks := true }, kinds := [], alts := [], laidByText := true, laidKinds := [.data, .data, .data, .sentinel, .sentinel, .data], laidTests := true, laidLooks := .later }
def SyntaxTextCardSaid : Prop := Claim7.holds Tryz.pinned (.plain (OpenSpec.ofChange syntaxTextSpec)) syntaxTextCard

/-- THE SECOND FORM's CARD OF 'interleavelaw07.FoldFile'. -/
def foldFileUptoCard : Claim7 := { stood := { row := foldFileUptoRow, standIns := [], harness := (true, "e6664f02bf88da2a9578e77453c39bed786ffb45f447059646c51aa069a7f174"), looks := true }, kinds := [], alts := [], laidByText := true, laidKinds := [.data, .data, .data, .sentinel, .sentinel, .data], laidTests := true, laidLooks := .later }
def FoldFileUptoCardSaid : Prop := Claim7.holds Tryz.pinned (.plain (OpenSpec.upto foldFileSpec)) foldFileUptoCard

/-- THE SECOND FORM's CARD OF 'interleavelaw07.FoldChecked'. -/
def foldCheckedUptoCard : Claim7 := { stood := { row := foldCheckedUptoRow, standIns := [], harness := (true, "e6664f02bf88da2a9578e77453c39bed786ffb45f447059646c51aa069a7f174"), looks := true }, kinds := [], alts := [], laidByText := true, laidKinds := [.data, .data, .data, .sentinel, .sentinel, .data], laidTests := true, laidLooks := .later }
def FoldCheckedUptoCardSaid : Prop := Claim7.holds Tryz.pinned (.plain (OpenSpec.upto foldCheckedSpec)) foldCheckedUptoCard

/-- THE SECOND FORM's CARD OF 'interleavelaw03.SyntaxPrint'. -/
def syntaxPrintUptoCard : Claim7 := { stood := { row := syntaxPrintUptoRow, standIns := [], harness := (true, "e6664f02bf88da2a9578e77453c39bed786ffb45f447059646c51aa069a7f174"), looks := true }, kinds := [], alts := [], laidByText := true, laidKinds := [.data, .data, .data, .sentinel, .sentinel, .data], laidTests := true, laidLooks := .later }
def SyntaxPrintUptoCardSaid : Prop := Claim7.holds Tryz.pinned (.plain (OpenSpec.upto syntaxPrintSpec)) syntaxPrintUptoCard

/-- THE SECOND FORM's CARD OF 'interleavelaw03.SyntaxText'. -/
def syntaxTextUptoCard : Claim7 := { stood := { row := syntaxTextUptoRow, standIns := [], harness := (true, "e6664f02bf88da2a9578e77453c39bed786ffb45f447059646c51aa069a7f174"), looks := true }, kinds := [], alts := [], laidByText := true, laidKinds := [.data, .data, .data, .sentinel, .sentinel, .data], laidTests := true, laidLooks := .later }
def SyntaxTextUptoCardSaid : Prop := Claim7.holds Tryz.pinned (.plain (OpenSpec.upto syntaxTextSpec)) syntaxTextUptoCard
end Rows
end Go.Proofs.YteicjpedahoilaaGreatDoor
