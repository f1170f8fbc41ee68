/-
  DERIVED. GIVEN WITH THE SEED: THE CARDS: each row of YtpbnkinfkkokfaaDoorRows.lean that lists a variable, with what it lists TIED to the program's text (the seventh form; the later family's looks); each row that meets fmt, with fmt's text TOLD by the authors' own Lean function (tested against real Go, not proved from fmt's source: count such statements apart). THE CARD IS WHAT COUNTS. Prove the row's statement (the work); the ties are given (YtpbnkinfkkokfaaDoorTie.lean); close each card by the builder's one call (the guide's Derived/Test/ToyasCard.lean, 'card_holds'). Laid BY PROGRAM, IN A SANDBOX (cutbox-door.mjs). By AI agents, Wed Nov 11 2026. No macro, syntax, notation, axiom, sorry.
-/
import Derived.Test.YtpbnkinfkkokfaaDoorRows
import GoSem.ClaimSeven
namespace Go.Proofs.YtpbnkinfkkokfaaDoor
namespace Rows

/-- THE TIED CARD OF 'interleavelaw02.ScanTokens'. -/
def scanTokensCard : Claim7 := { stood := { row := scanTokensRow, standIns := [], harness := (true, "32f71c3a0b566eff00145026f55577bf29e10e13f5569c5b9ca2a37b542927f8"), looks := true }, kinds := [], alts := [], laidByText := true, laidKinds := [.data, .data, .data, .sentinel, .sentinel, .data], laidTests := true, laidLooks := .later }
def ScanTokensCardSaid : Prop := Claim7.holds Tryd.pinned (.plain (OpenSpec.ofChange scanTokensSpec)) scanTokensCard

/-- THE TIED CARD OF 'interleavelaw02.ScanComments'. -/
def scanCommentsCard : Claim7 := { stood := { row := scanCommentsRow, standIns := [], harness := (true, "32f71c3a0b566eff00145026f55577bf29e10e13f5569c5b9ca2a37b542927f8"), looks := true }, kinds := [], alts := [], laidByText := true, laidKinds := [.data, .data, .data, .sentinel, .sentinel, .data], laidTests := true, laidLooks := .later }
def ScanCommentsCardSaid : Prop := Claim7.holds Tryd.pinned (.plain (OpenSpec.ofChange scanCommentsSpec)) scanCommentsCard

/-- THE TIED CARD OF 'interleavelaw02.ScanLong'. -/
def scanLongCard : Claim7 := { stood := { row := scanLongRow, standIns := [], harness := (true, "32f71c3a0b566eff00145026f55577bf29e10e13f5569c5b9ca2a37b542927f8"), looks := true }, kinds := [], alts := [], laidByText := true, laidKinds := [.data, .data, .data, .sentinel, .sentinel, .data], laidTests := true, laidLooks := .later }
def ScanLongCardSaid : Prop := Claim7.holds Tryd.pinned (.plain (OpenSpec.ofChange scanLongSpec)) scanLongCard

/-- THE TIED CARD OF 'interleavelaw02.ScanKeywords'. -/
def scanKeywordsCard : Claim7 := { stood := { row := scanKeywordsRow, standIns := [], harness := (true, "32f71c3a0b566eff00145026f55577bf29e10e13f5569c5b9ca2a37b542927f8"), looks := true }, kinds := [], alts := [], laidByText := true, laidKinds := [.data, .data, .data, .sentinel, .sentinel, .data], laidTests := true, laidLooks := .later }
def ScanKeywordsCardSaid : Prop := Claim7.holds Tryd.pinned (.plain (OpenSpec.ofChange scanKeywordsSpec)) scanKeywordsCard

/-- THE TIED CARD OF 'interleavelaw02.ScanJoin'. -/
def scanJoinCard : Claim7 := { stood := { row := scanJoinRow, standIns := [], harness := (true, "32f71c3a0b566eff00145026f55577bf29e10e13f5569c5b9ca2a37b542927f8"), looks := true }, kinds := [], alts := [], laidByText := true, laidKinds := [.data, .data, .data, .sentinel, .sentinel, .data], laidTests := true, laidLooks := .later }
def ScanJoinCardSaid : Prop := Claim7.holds Tryd.pinned (.plain (OpenSpec.ofChange scanJoinSpec)) scanJoinCard

/-- THE TIED CARD OF 'interleavelaw02.ScanPlaces'. -/
def scanPlacesCard : Claim7 := { stood := { row := scanPlacesRow, standIns := [], harness := (true, "32f71c3a0b566eff00145026f55577bf29e10e13f5569c5b9ca2a37b542927f8"), looks := true }, kinds := [], alts := [], laidByText := true, laidKinds := [.data, .data, .data, .sentinel, .sentinel, .data], laidTests := true, laidLooks := .later }
def ScanPlacesCardSaid : Prop := Claim7.holds Tryd.pinned (.plain (OpenSpec.ofChange scanPlacesSpec)) scanPlacesCard

/-- THE TIED CARD OF 'interleavelaw02.ScanWithoutComments'. -/
def scanWithoutCommentsCard : Claim7 := { stood := { row := scanWithoutCommentsRow, standIns := [], harness := (true, "32f71c3a0b566eff00145026f55577bf29e10e13f5569c5b9ca2a37b542927f8"), looks := true }, kinds := [], alts := [], laidByText := true, laidKinds := [.data, .data, .data, .sentinel, .sentinel, .data], laidTests := true, laidLooks := .later }
def ScanWithoutCommentsCardSaid : Prop := Claim7.holds Tryd.pinned (.plain (OpenSpec.ofChange scanWithoutCommentsSpec)) scanWithoutCommentsCard

/-- THE TIED CARD OF 'interleavelaw02.ScanConcatenation'. -/
def scanConcatenationCard : Claim7 := { stood := { row := scanConcatenationRow, standIns := [], harness := (true, "32f71c3a0b566eff00145026f55577bf29e10e13f5569c5b9ca2a37b542927f8"), looks := true }, kinds := [], alts := [], laidByText := true, laidKinds := [.data, .data, .data, .sentinel, .sentinel, .data], laidTests := true, laidLooks := .later }
def ScanConcatenationCardSaid : Prop := Claim7.holds Tryd.pinned (.plain (OpenSpec.ofChange scanConcatenationSpec)) scanConcatenationCard

/-- THE SECOND FORM's CARD OF 'interleavelaw02.ScanTokens'. -/
def scanTokensUptoCard : Claim7 := { stood := { row := scanTokensUptoRow, standIns := [], harness := (true, "32f71c3a0b566eff00145026f55577bf29e10e13f5569c5b9ca2a37b542927f8"), looks := true }, kinds := [], alts := [], laidByText := true, laidKinds := [.data, .data, .data, .sentinel, .sentinel, .data], laidTests := true, laidLooks := .later }
def ScanTokensUptoCardSaid : Prop := Claim7.holds Tryd.pinned (.plain (OpenSpec.upto scanTokensSpec)) scanTokensUptoCard

/-- THE SECOND FORM's CARD OF 'interleavelaw02.ScanComments'. -/
def scanCommentsUptoCard : Claim7 := { stood := { row := scanCommentsUptoRow, standIns := [], harness := (true, "32f71c3a0b566eff00145026f55577bf29e10e13f5569c5b9ca2a37b542927f8"), looks := true }, kinds := [], alts := [], laidByText := true, laidKinds := [.data, .data, .data, .sentinel, .sentinel, .data], laidTests := true, laidLooks := .later }
def ScanCommentsUptoCardSaid : Prop := Claim7.holds Tryd.pinned (.plain (OpenSpec.upto scanCommentsSpec)) scanCommentsUptoCard

/-- THE SECOND FORM's CARD OF 'interleavelaw02.ScanLong'. -/
def scanLongUptoCard : Claim7 := { stood := { row := scanLongUptoRow, standIns := [], harness := (true, "32f71c3a0b566eff00145026f55577bf29e10e13f5569c5b9ca2a37b542927f8"), looks := true }, kinds := [], alts := [], laidByText := true, laidKinds := [.data, .data, .data, .sentinel, .sentinel, .data], laidTests := true, laidLooks := .later }
def ScanLongUptoCardSaid : Prop := Claim7.holds Tryd.pinned (.plain (OpenSpec.upto scanLongSpec)) scanLongUptoCard

/-- THE SECOND FORM's CARD OF 'interleavelaw02.ScanKeywords'. -/
def scanKeywordsUptoCard : Claim7 := { stood := { row := scanKeywordsUptoRow, standIns := [], harness := (true, "32f71c3a0b566eff00145026f55577bf29e10e13f5569c5b9ca2a37b542927f8"), looks := true }, kinds := [], alts := [], laidByText := true, laidKinds := [.data, .data, .data, .sentinel, .sentinel, .data], laidTests := true, laidLooks := .later }
def ScanKeywordsUptoCardSaid : Prop := Claim7.holds Tryd.pinned (.plain (OpenSpec.upto scanKeywordsSpec)) scanKeywordsUptoCard

/-- THE SECOND FORM's CARD OF 'interleavelaw02.ScanJoin'. -/
def scanJoinUptoCard : Claim7 := { stood := { row := scanJoinUptoRow, standIns := [], harness := (true, "32f71c3a0b566eff00145026f55577bf29e10e13f5569c5b9ca2a37b542927f8"), looks := true }, kinds := [], alts := [], laidByText := true, laidKinds := [.data, .data, .data, .sentinel, .sentinel, .data], laidTests := true, laidLooks := .later }
def ScanJoinUptoCardSaid : Prop := Claim7.holds Tryd.pinned (.plain (OpenSpec.upto scanJoinSpec)) scanJoinUptoCard

/-- THE SECOND FORM's CARD OF 'interleavelaw02.ScanPlaces'. -/
def scanPlacesUptoCard : Claim7 := { stood := { row := scanPlacesUptoRow, standIns := [], harness := (true, "32f71c3a0b566eff00145026f55577bf29e10e13f5569c5b9ca2a37b542927f8"), looks := true }, kinds := [], alts := [], laidByText := true, laidKinds := [.data, .data, .data, .sentinel, .sentinel, .data], laidTests := true, laidLooks := .later }
def ScanPlacesUptoCardSaid : Prop := Claim7.holds Tryd.pinned (.plain (OpenSpec.upto scanPlacesSpec)) scanPlacesUptoCard

/-- THE SECOND FORM's CARD OF 'interleavelaw02.ScanWithoutComments'. -/
def scanWithoutCommentsUptoCard : Claim7 := { stood := { row := scanWithoutCommentsUptoRow, standIns := [], harness := (true, "32f71c3a0b566eff00145026f55577bf29e10e13f5569c5b9ca2a37b542927f8"), looks := true }, kinds := [], alts := [], laidByText := true, laidKinds := [.data, .data, .data, .sentinel, .sentinel, .data], laidTests := true, laidLooks := .later }
def ScanWithoutCommentsUptoCardSaid : Prop := Claim7.holds Tryd.pinned (.plain (OpenSpec.upto scanWithoutCommentsSpec)) scanWithoutCommentsUptoCard

/-- THE SECOND FORM's CARD OF 'interleavelaw02.ScanConcatenation'. -/
def scanConcatenationUptoCard : Claim7 := { stood := { row := scanConcatenationUptoRow, standIns := [], harness := (true, "32f71c3a0b566eff00145026f55577bf29e10e13f5569c5b9ca2a37b542927f8"), looks := true }, kinds := [], alts := [], laidByText := true, laidKinds := [.data, .data, .data, .sentinel, .sentinel, .data], laidTests := true, laidLooks := .later }
def ScanConcatenationUptoCardSaid : Prop := Claim7.holds Tryd.pinned (.plain (OpenSpec.upto scanConcatenationSpec)) scanConcatenationUptoCard
end Rows
end Go.Proofs.YtpbnkinfkkokfaaDoor
