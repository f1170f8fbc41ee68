/-
  DERIVED. GIVEN WITH THE SEED: THE CARDS: each row of YteicjpedahoilaaDoorRows.lean that lists a variable, with what it lists TIED to the program's text (the seventh form; the later family's looks); each row that meets fmt, with fmt's text TOLD by the authors' own Lean function (tested against real Go, not proved from fmt's source: count such statements apart). THE CARD IS WHAT COUNTS. Prove the row's statement (the work); the ties are given (YteicjpedahoilaaDoorTie.lean); close each card by the builder's one call (the guide's Derived/Test/ToyasCard.lean, 'card_holds'). Laid BY PROGRAM, IN A SANDBOX (cutbox-door.mjs). By AI agents, Wed Nov 11 2026. No macro, syntax, notation, axiom, sorry.
-/
import Derived.Test.YteicjpedahoilaaDoorRows
import GoSem.ClaimSeven
namespace Go.Proofs.YteicjpedahoilaaDoor
namespace Rows

/-- THE TIED CARD OF 'interleavelaw03.SyntaxDepth'. -/
def syntaxDepthCard : Claim7 := { stood := { row := syntaxDepthRow, standIns := [], harness := (true, "da4a47c029255216d73067699e4b1057f4e0be858c957f1f49f0980276ff3db6"), looks := true }, kinds := [], alts := [], laidByText := true, laidKinds := [.data, .data, .data, .sentinel, .sentinel, .data], laidTests := true, laidLooks := .later }
def SyntaxDepthCardSaid : Prop := Claim7.holds Tryd.pinned (.plain (OpenSpec.ofChange syntaxDepthSpec)) syntaxDepthCard

/-- THE SECOND FORM's CARD OF 'interleavelaw03.SyntaxDepth'. -/
def syntaxDepthUptoCard : Claim7 := { stood := { row := syntaxDepthUptoRow, standIns := [], harness := (true, "da4a47c029255216d73067699e4b1057f4e0be858c957f1f49f0980276ff3db6"), looks := true }, kinds := [], alts := [], laidByText := true, laidKinds := [.data, .data, .data, .sentinel, .sentinel, .data], laidTests := true, laidLooks := .later }
def SyntaxDepthUptoCardSaid : Prop := Claim7.holds Tryd.pinned (.plain (OpenSpec.upto syntaxDepthSpec)) syntaxDepthUptoCard
end Rows
end Go.Proofs.YteicjpedahoilaaDoor
