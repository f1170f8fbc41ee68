/-
  DERIVED. GIVEN WITH THE SEED: THE CARDS: each row of YtheifopckahdiaaDoorRows.lean that lists a variable, with what it lists TIED to the program's text (the seventh form; the later family's looks); each row that meets fmt, with fmt's text TOLD by the authors' own Lean function (tested against real Go, not proved from fmt's source: count such statements apart). THE CARD IS WHAT COUNTS. Prove the row's statement (the work); the ties are given (YtheifopckahdiaaDoorTie.lean); close each card by the builder's one call (the guide's Derived/Test/ToyasCard.lean, 'card_holds'). Laid BY PROGRAM, IN A SANDBOX (cutbox-door.mjs). By AI agents, Wed Nov 11 2026. No macro, syntax, notation, axiom, sorry.
-/
import Derived.Test.YtheifopckahdiaaDoorRows
import GoSem.ClaimSeven
namespace Go.Proofs.YtheifopckahdiaaDoor
namespace Rows

/-- THE TIED CARD OF 'interleavelaw07.FoldValue'. -/
def foldValueCard : Claim7 := { stood := { row := foldValueRow, standIns := [], harness := (true, "1b58a5190aec9f9dbe1fada88e84e0e891ff47da6461aa85204f09c310791ee7"), looks := true }, kinds := [], alts := [], laidByText := true, laidKinds := [.data, .data, .data, .sentinel, .sentinel, .data], laidTests := true, laidLooks := .later }
def FoldValueCardSaid : Prop := Claim7.holds Tryd.pinned (.plain (OpenSpec.ofChange foldValueSpec)) foldValueCard

/-- THE TIED CARD OF 'interleavelaw07.FoldArithmetic'. -/
def foldArithmeticCard : Claim7 := { stood := { row := foldArithmeticRow, standIns := [], harness := (true, "1b58a5190aec9f9dbe1fada88e84e0e891ff47da6461aa85204f09c310791ee7"), looks := true }, kinds := [], alts := [], laidByText := true, laidKinds := [.data, .data, .data, .sentinel, .sentinel, .data], laidTests := true, laidLooks := .later }
def FoldArithmeticCardSaid : Prop := Claim7.holds Tryd.pinned (.plain (OpenSpec.ofChange foldArithmeticSpec)) foldArithmeticCard

/-- THE TIED CARD OF 'interleavelaw07.FoldAgain'. -/
def foldAgainCard : Claim7 := { stood := { row := foldAgainRow, standIns := [], harness := (true, "1b58a5190aec9f9dbe1fada88e84e0e891ff47da6461aa85204f09c310791ee7"), looks := true }, kinds := [], alts := [], laidByText := true, laidKinds := [.data, .data, .data, .sentinel, .sentinel, .data], laidTests := true, laidLooks := .later }
def FoldAgainCardSaid : Prop := Claim7.holds Tryd.pinned (.plain (OpenSpec.ofChange foldAgainSpec)) foldAgainCard

/-- THE TIED CARD OF 'interleavelaw07.FoldConstants'. -/
def foldConstantsCard : Claim7 := { stood := { row := foldConstantsRow, standIns := [], harness := (true, "1b58a5190aec9f9dbe1fada88e84e0e891ff47da6461aa85204f09c310791ee7"), looks := true }, kinds := [], alts := [], laidByText := true, laidKinds := [.data, .data, .data, .sentinel, .sentinel, .data], laidTests := true, laidLooks := .later }
def FoldConstantsCardSaid : Prop := Claim7.holds Tryd.pinned (.plain (OpenSpec.ofChange foldConstantsSpec)) foldConstantsCard

/-- THE TIED CARD OF 'interleavelaw07.FoldKeepsValue'. -/
def foldKeepsValueCard : Claim7 := { stood := { row := foldKeepsValueRow, standIns := [], harness := (true, "1b58a5190aec9f9dbe1fada88e84e0e891ff47da6461aa85204f09c310791ee7"), looks := true }, kinds := [], alts := [], laidByText := true, laidKinds := [.data, .data, .data, .sentinel, .sentinel, .data], laidTests := true, laidLooks := .later }
def FoldKeepsValueCardSaid : Prop := Claim7.holds Tryd.pinned (.plain (OpenSpec.ofChange foldKeepsValueSpec)) foldKeepsValueCard

/-- THE TIED CARD OF 'interleavelaw03.SyntaxDepth'. -/
def syntaxDepthCard : Claim7 := { stood := { row := syntaxDepthRow, standIns := [], harness := (true, "1b58a5190aec9f9dbe1fada88e84e0e891ff47da6461aa85204f09c310791ee7"), looks := true }, kinds := [], alts := [], laidByText := true, laidKinds := [.data, .data, .data, .sentinel, .sentinel, .data], laidTests := true, laidLooks := .later }
def SyntaxDepthCardSaid : Prop := Claim7.holds Tryd.pinned (.plain (OpenSpec.ofChange syntaxDepthSpec)) syntaxDepthCard

/-- THE TIED CARD OF 'interleavelaw03.SyntaxEqual'. -/
def syntaxEqualCard : Claim7 := { stood := { row := syntaxEqualRow, standIns := [], harness := (true, "1b58a5190aec9f9dbe1fada88e84e0e891ff47da6461aa85204f09c310791ee7"), looks := true }, kinds := [], alts := [], laidByText := true, laidKinds := [.data, .data, .data, .sentinel, .sentinel, .data], laidTests := true, laidLooks := .later }
def SyntaxEqualCardSaid : Prop := Claim7.holds Tryd.pinned (.plain (OpenSpec.ofChange syntaxEqualSpec)) syntaxEqualCard

/-- THE TIED CARD OF 'interleavelaw03.SyntaxStrip'. -/
def syntaxStripCard : Claim7 := { stood := { row := syntaxStripRow, standIns := [], harness := (true, "1b58a5190aec9f9dbe1fada88e84e0e891ff47da6461aa85204f09c310791ee7"), looks := true }, kinds := [], alts := [], laidByText := true, laidKinds := [.data, .data, .data, .sentinel, .sentinel, .data], laidTests := true, laidLooks := .later }
def SyntaxStripCardSaid : Prop := Claim7.holds Tryd.pinned (.plain (OpenSpec.ofChange syntaxStripSpec)) syntaxStripCard

/-- THE TIED CARD OF 'interleavelaw03.SyntaxWalk'. -/
def syntaxWalkCard : Claim7 := { stood := { row := syntaxWalkRow, standIns := [], harness := (true, "1b58a5190aec9f9dbe1fada88e84e0e891ff47da6461aa85204f09c310791ee7"), looks := true }, kinds := [], alts := [], laidByText := true, laidKinds := [.data, .data, .data, .sentinel, .sentinel, .data], laidTests := true, laidLooks := .later }
def SyntaxWalkCardSaid : Prop := Claim7.holds Tryd.pinned (.plain (OpenSpec.ofChange syntaxWalkSpec)) syntaxWalkCard

/-- THE SECOND FORM's CARD OF 'interleavelaw07.FoldValue'. -/
def foldValueUptoCard : Claim7 := { stood := { row := foldValueUptoRow, standIns := [], harness := (true, "1b58a5190aec9f9dbe1fada88e84e0e891ff47da6461aa85204f09c310791ee7"), looks := true }, kinds := [], alts := [], laidByText := true, laidKinds := [.data, .data, .data, .sentinel, .sentinel, .data], laidTests := true, laidLooks := .later }
def FoldValueUptoCardSaid : Prop := Claim7.holds Tryd.pinned (.plain (OpenSpec.upto foldValueSpec)) foldValueUptoCard

/-- THE SECOND FORM's CARD OF 'interleavelaw07.FoldArithmetic'. -/
def foldArithmeticUptoCard : Claim7 := { stood := { row := foldArithmeticUptoRow, standIns := [], harness := (true, "1b58a5190aec9f9dbe1fada88e84e0e891ff47da6461aa85204f09c310791ee7"), looks := true }, kinds := [], alts := [], laidByText := true, laidKinds := [.data, .data, .data, .sentinel, .sentinel, .data], laidTests := true, laidLooks := .later }
def FoldArithmeticUptoCardSaid : Prop := Claim7.holds Tryd.pinned (.plain (OpenSpec.upto foldArithmeticSpec)) foldArithmeticUptoCard

/-- THE SECOND FORM's CARD OF 'interleavelaw07.FoldAgain'. -/
def foldAgainUptoCard : Claim7 := { stood := { row := foldAgainUptoRow, standIns := [], harness := (true, "1b58a5190aec9f9dbe1fada88e84e0e891ff47da6461aa85204f09c310791ee7"), looks := true }, kinds := [], alts := [], laidByText := true, laidKinds := [.data, .data, .data, .sentinel, .sentinel, .data], laidTests := true, laidLooks := .later }
def FoldAgainUptoCardSaid : Prop := Claim7.holds Tryd.pinned (.plain (OpenSpec.upto foldAgainSpec)) foldAgainUptoCard

/-- THE SECOND FORM's CARD OF 'interleavelaw07.FoldConstants'. -/
def foldConstantsUptoCard : Claim7 := { stood := { row := foldConstantsUptoRow, standIns := [], harness := (true, "1b58a5190aec9f9dbe1fada88e84e0e891ff47da6461aa85204f09c310791ee7"), looks := true }, kinds := [], alts := [], laidByText := true, laidKinds := [.data, .data, .data, .sentinel, .sentinel, .data], laidTests := true, laidLooks := .later }
def FoldConstantsUptoCardSaid : Prop := Claim7.holds Tryd.pinned (.plain (OpenSpec.upto foldConstantsSpec)) foldConstantsUptoCard

/-- THE SECOND FORM's CARD OF 'interleavelaw07.FoldKeepsValue'. -/
def foldKeepsValueUptoCard : Claim7 := { stood := { row := foldKeepsValueUptoRow, standIns := [], harness := (true, "1b58a5190aec9f9dbe1fada88e84e0e891ff47da6461aa85204f09c310791ee7"), looks := true }, kinds := [], alts := [], laidByText := true, laidKinds := [.data, .data, .data, .sentinel, .sentinel, .data], laidTests := true, laidLooks := .later }
def FoldKeepsValueUptoCardSaid : Prop := Claim7.holds Tryd.pinned (.plain (OpenSpec.upto foldKeepsValueSpec)) foldKeepsValueUptoCard

/-- THE SECOND FORM's CARD OF 'interleavelaw03.SyntaxDepth'. -/
def syntaxDepthUptoCard : Claim7 := { stood := { row := syntaxDepthUptoRow, standIns := [], harness := (true, "1b58a5190aec9f9dbe1fada88e84e0e891ff47da6461aa85204f09c310791ee7"), looks := true }, kinds := [], alts := [], laidByText := true, laidKinds := [.data, .data, .data, .sentinel, .sentinel, .data], laidTests := true, laidLooks := .later }
def SyntaxDepthUptoCardSaid : Prop := Claim7.holds Tryd.pinned (.plain (OpenSpec.upto syntaxDepthSpec)) syntaxDepthUptoCard

/-- THE SECOND FORM's CARD OF 'interleavelaw03.SyntaxEqual'. -/
def syntaxEqualUptoCard : Claim7 := { stood := { row := syntaxEqualUptoRow, standIns := [], harness := (true, "1b58a5190aec9f9dbe1fada88e84e0e891ff47da6461aa85204f09c310791ee7"), looks := true }, kinds := [], alts := [], laidByText := true, laidKinds := [.data, .data, .data, .sentinel, .sentinel, .data], laidTests := true, laidLooks := .later }
def SyntaxEqualUptoCardSaid : Prop := Claim7.holds Tryd.pinned (.plain (OpenSpec.upto syntaxEqualSpec)) syntaxEqualUptoCard

/-- THE SECOND FORM's CARD OF 'interleavelaw03.SyntaxStrip'. -/
def syntaxStripUptoCard : Claim7 := { stood := { row := syntaxStripUptoRow, standIns := [], harness := (true, "1b58a5190aec9f9dbe1fada88e84e0e891ff47da6461aa85204f09c310791ee7"), looks := true }, kinds := [], alts := [], laidByText := true, laidKinds := [.data, .data, .data, .sentinel, .sentinel, .data], laidTests := true, laidLooks := .later }
def SyntaxStripUptoCardSaid : Prop := Claim7.holds Tryd.pinned (.plain (OpenSpec.upto syntaxStripSpec)) syntaxStripUptoCard

/-- THE SECOND FORM's CARD OF 'interleavelaw03.SyntaxWalk'. -/
def syntaxWalkUptoCard : Claim7 := { stood := { row := syntaxWalkUptoRow, standIns := [], harness := (true, "1b58a5190aec9f9dbe1fada88e84e0e891ff47da6461aa85204f09c310791ee7"), looks := true }, kinds := [], alts := [], laidByText := true, laidKinds := [.data, .data, .data, .sentinel, .sentinel, .data], laidTests := true, laidLooks := .later }
def SyntaxWalkUptoCardSaid : Prop := Claim7.holds Tryd.pinned (.plain (OpenSpec.upto syntaxWalkSpec)) syntaxWalkUptoCard
end Rows
end Go.Proofs.YtheifopckahdiaaDoor
