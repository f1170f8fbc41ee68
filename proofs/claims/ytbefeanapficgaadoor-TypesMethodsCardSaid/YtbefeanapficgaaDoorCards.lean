/-
  DERIVED. GIVEN WITH THE SEED: THE CARDS: each row of YtbefeanapficgaaDoorRows.lean that lists a variable, with what it lists TIED to the program's text (the seventh form; the later family's looks); each row that meets fmt, with fmt's text TOLD by the authors' own Lean function (tested against real Go, not proved from fmt's source: count such statements apart). THE CARD IS WHAT COUNTS. Prove the row's statement (the work); the ties are given (YtbefeanapficgaaDoorTie.lean); close each card by the builder's one call (the guide's Derived/Test/ToyasCard.lean, 'card_holds'). Laid BY PROGRAM, IN A SANDBOX (cutbox-door.mjs). By AI agents, Wed Nov 11 2026. No macro, syntax, notation, axiom, sorry.
-/
import Derived.Test.YtbefeanapficgaaDoorRows
import GoSem.ClaimSeven
namespace Go.Proofs.YtbefeanapficgaaDoor
namespace Rows

/-- THE TIED CARD OF 'interleavelaw05.TypesText'. -/
def typesTextCard : Claim7 := { stood := { row := typesTextRow, standIns := [], harness := (true, "48028d2d5352671440ce2f69d00d25b61e429d38f053bfbfdcd378cb7a37e61b"), looks := true }, kinds := [], alts := [], laidByText := true, laidKinds := [.data, .data, .data, .sentinel, .sentinel, .data, .data], laidTests := true, laidLooks := .later }
def TypesTextCardSaid : Prop := Claim7.holds Tryd.pinned (.plain (OpenSpec.ofChange typesTextSpec)) typesTextCard

/-- THE TIED CARD OF 'interleavelaw05.TypesBinary'. -/
def typesBinaryCard : Claim7 := { stood := { row := typesBinaryRow, standIns := [], harness := (true, "48028d2d5352671440ce2f69d00d25b61e429d38f053bfbfdcd378cb7a37e61b"), looks := true }, kinds := [], alts := [], laidByText := true, laidKinds := [.data, .data, .data, .sentinel, .sentinel, .data, .data], laidTests := true, laidLooks := .later }
def TypesBinaryCardSaid : Prop := Claim7.holds Tryd.pinned (.plain (OpenSpec.ofChange typesBinarySpec)) typesBinaryCard

/-- THE TIED CARD OF 'interleavelaw05.TypesMethods'. -/
def typesMethodsCard : Claim7 := { stood := { row := typesMethodsRow, standIns := [], harness := (true, "48028d2d5352671440ce2f69d00d25b61e429d38f053bfbfdcd378cb7a37e61b"), looks := true }, kinds := [], alts := [], laidByText := true, laidKinds := [.data, .data, .data, .sentinel, .sentinel, .data, .data], laidTests := true, laidLooks := .later }
def TypesMethodsCardSaid : Prop := Claim7.holds Tryd.pinned (.plain (OpenSpec.ofChange typesMethodsSpec)) typesMethodsCard

/-- THE TIED CARD OF 'interleavelaw05.TypesAssign'. -/
def typesAssignCard : Claim7 := { stood := { row := typesAssignRow, standIns := [], harness := (true, "48028d2d5352671440ce2f69d00d25b61e429d38f053bfbfdcd378cb7a37e61b"), looks := true }, kinds := [], alts := [], laidByText := true, laidKinds := [.data, .data, .data, .sentinel, .sentinel, .data, .data], laidTests := true, laidLooks := .later }
def TypesAssignCardSaid : Prop := Claim7.holds Tryd.pinned (.plain (OpenSpec.ofChange typesAssignSpec)) typesAssignCard

/-- THE TIED CARD OF 'interleavelaw05.TypesCompare'. -/
def typesCompareCard : Claim7 := { stood := { row := typesCompareRow, standIns := [], harness := (true, "48028d2d5352671440ce2f69d00d25b61e429d38f053bfbfdcd378cb7a37e61b"), looks := true }, kinds := [], alts := [], laidByText := true, laidKinds := [.data, .data, .data, .sentinel, .sentinel, .data, .data], laidTests := true, laidLooks := .later }
def TypesCompareCardSaid : Prop := Claim7.holds Tryd.pinned (.plain (OpenSpec.ofChange typesCompareSpec)) typesCompareCard

/-- THE TIED CARD OF 'interleavelaw05.TypesOf'. -/
def typesOfCard : Claim7 := { stood := { row := typesOfRow, standIns := [], harness := (true, "48028d2d5352671440ce2f69d00d25b61e429d38f053bfbfdcd378cb7a37e61b"), looks := true }, kinds := [], alts := [], laidByText := true, laidKinds := [.data, .data, .data, .sentinel, .sentinel, .data, .data], laidTests := true, laidLooks := .later }
def TypesOfCardSaid : Prop := Claim7.holds Tryd.pinned (.plain (OpenSpec.ofChange typesOfSpec)) typesOfCard

/-- THE TIED CARD OF 'interleavelaw05.TypesFields'. -/
def typesFieldsCard : Claim7 := { stood := { row := typesFieldsRow, standIns := [], harness := (true, "48028d2d5352671440ce2f69d00d25b61e429d38f053bfbfdcd378cb7a37e61b"), looks := true }, kinds := [], alts := [], laidByText := true, laidKinds := [.data, .data, .data, .sentinel, .sentinel, .data, .data], laidTests := true, laidLooks := .later }
def TypesFieldsCardSaid : Prop := Claim7.holds Tryd.pinned (.plain (OpenSpec.ofChange typesFieldsSpec)) typesFieldsCard

/-- THE SECOND FORM's CARD OF 'interleavelaw05.TypesText'. -/
def typesTextUptoCard : Claim7 := { stood := { row := typesTextUptoRow, standIns := [], harness := (true, "48028d2d5352671440ce2f69d00d25b61e429d38f053bfbfdcd378cb7a37e61b"), looks := true }, kinds := [], alts := [], laidByText := true, laidKinds := [.data, .data, .data, .sentinel, .sentinel, .data, .data], laidTests := true, laidLooks := .later }
def TypesTextUptoCardSaid : Prop := Claim7.holds Tryd.pinned (.plain (OpenSpec.upto typesTextSpec)) typesTextUptoCard

/-- THE SECOND FORM's CARD OF 'interleavelaw05.TypesBinary'. -/
def typesBinaryUptoCard : Claim7 := { stood := { row := typesBinaryUptoRow, standIns := [], harness := (true, "48028d2d5352671440ce2f69d00d25b61e429d38f053bfbfdcd378cb7a37e61b"), looks := true }, kinds := [], alts := [], laidByText := true, laidKinds := [.data, .data, .data, .sentinel, .sentinel, .data, .data], laidTests := true, laidLooks := .later }
def TypesBinaryUptoCardSaid : Prop := Claim7.holds Tryd.pinned (.plain (OpenSpec.upto typesBinarySpec)) typesBinaryUptoCard

/-- THE SECOND FORM's CARD OF 'interleavelaw05.TypesMethods'. -/
def typesMethodsUptoCard : Claim7 := { stood := { row := typesMethodsUptoRow, standIns := [], harness := (true, "48028d2d5352671440ce2f69d00d25b61e429d38f053bfbfdcd378cb7a37e61b"), looks := true }, kinds := [], alts := [], laidByText := true, laidKinds := [.data, .data, .data, .sentinel, .sentinel, .data, .data], laidTests := true, laidLooks := .later }
def TypesMethodsUptoCardSaid : Prop := Claim7.holds Tryd.pinned (.plain (OpenSpec.upto typesMethodsSpec)) typesMethodsUptoCard

/-- THE SECOND FORM's CARD OF 'interleavelaw05.TypesAssign'. -/
def typesAssignUptoCard : Claim7 := { stood := { row := typesAssignUptoRow, standIns := [], harness := (true, "48028d2d5352671440ce2f69d00d25b61e429d38f053bfbfdcd378cb7a37e61b"), looks := true }, kinds := [], alts := [], laidByText := true, laidKinds := [.data, .data, .data, .sentinel, .sentinel, .data, .data], laidTests := true, laidLooks := .later }
def TypesAssignUptoCardSaid : Prop := Claim7.holds Tryd.pinned (.plain (OpenSpec.upto typesAssignSpec)) typesAssignUptoCard

/-- THE SECOND FORM's CARD OF 'interleavelaw05.TypesCompare'. -/
def typesCompareUptoCard : Claim7 := { stood := { row := typesCompareUptoRow, standIns := [], harness := (true, "48028d2d5352671440ce2f69d00d25b61e429d38f053bfbfdcd378cb7a37e61b"), looks := true }, kinds := [], alts := [], laidByText := true, laidKinds := [.data, .data, .data, .sentinel, .sentinel, .data, .data], laidTests := true, laidLooks := .later }
def TypesCompareUptoCardSaid : Prop := Claim7.holds Tryd.pinned (.plain (OpenSpec.upto typesCompareSpec)) typesCompareUptoCard

/-- THE SECOND FORM's CARD OF 'interleavelaw05.TypesOf'. -/
def typesOfUptoCard : Claim7 := { stood := { row := typesOfUptoRow, standIns := [], harness := (true, "48028d2d5352671440ce2f69d00d25b61e429d38f053bfbfdcd378cb7a37e61b"), looks := true }, kinds := [], alts := [], laidByText := true, laidKinds := [.data, .data, .data, .sentinel, .sentinel, .data, .data], laidTests := true, laidLooks := .later }
def TypesOfUptoCardSaid : Prop := Claim7.holds Tryd.pinned (.plain (OpenSpec.upto typesOfSpec)) typesOfUptoCard

/-- THE SECOND FORM's CARD OF 'interleavelaw05.TypesFields'. -/
def typesFieldsUptoCard : Claim7 := { stood := { row := typesFieldsUptoRow, standIns := [], harness := (true, "48028d2d5352671440ce2f69d00d25b61e429d38f053bfbfdcd378cb7a37e61b"), looks := true }, kinds := [], alts := [], laidByText := true, laidKinds := [.data, .data, .data, .sentinel, .sentinel, .data, .data], laidTests := true, laidLooks := .later }
def TypesFieldsUptoCardSaid : Prop := Claim7.holds Tryd.pinned (.plain (OpenSpec.upto typesFieldsSpec)) typesFieldsUptoCard
end Rows
end Go.Proofs.YtbefeanapficgaaDoor
