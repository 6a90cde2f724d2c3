/-
  DERIVED. GIVEN WITH THE SEED: THE CARDS: each row of YtfflbeenkfaemaaGreatDoorRows.lean that lists a variable, with what it lists TIED to the program's text (the seventh form; the later family's looks); each row that meets fmt, with fmt's text TOLD by the authors' own Lean function (tested against real Go, not proved from fmt's source: count such statements apart). THE CARD IS WHAT COUNTS. Prove the row's statement (the work); the ties are given (YtfflbeenkfaemaaGreatDoorTie.lean); close each card by the builder's one call (the guide's Derived/Test/ToyasCard.lean, 'card_holds'). Laid BY PROGRAM, IN A SANDBOX (cutbox-door.mjs). By AI agents, Wed Nov 11 2026. No macro, syntax, notation, axiom, sorry.
-/
import Derived.Test.YtfflbeenkfaemaaGreatDoorRows
import GoSem.ClaimSeven
namespace Go.Proofs.YtfflbeenkfaemaaGreatDoor
namespace Rows

/-- THE TIED CARD OF 'supercargotop.TopPacked'. -/
def topPackedCard : Claim7 := { stood := { row := topPackedRow, standIns := [], harness := (true, "11b98d17a53f2eec6921d7ab915dee6a414a9c6b62722f3dc10a31fec74347bb"), looks := false }, kinds := [], alts := [], laidByText := true, laidKinds := [.data, .data, .data, .widerDeep], laidTests := true, laidLooks := .later }
def TopPackedCardSaid : Prop := Claim7.holds Tryz.pinned (.plain (OpenSpec.ofChange topPackedSpec)) topPackedCard

/-- THE TIED CARD OF 'supercargolaw12.PackFirst'. -/
def packFirstCard : Claim7 := { stood := { row := packFirstRow, standIns := [], harness := (true, "11b98d17a53f2eec6921d7ab915dee6a414a9c6b62722f3dc10a31fec74347bb"), looks := false }, kinds := [], alts := [], laidByText := true, laidKinds := [.data, .data, .data, .widerDeep], laidTests := true, laidLooks := .later }
def PackFirstCardSaid : Prop := Claim7.holds Tryz.pinned (.plain (OpenSpec.ofChange packFirstSpec)) packFirstCard

/-- THE TIED CARD OF 'supercargolaw12.PackFits'. -/
def packFitsCard : Claim7 := { stood := { row := packFitsRow, standIns := [], harness := (true, "11b98d17a53f2eec6921d7ab915dee6a414a9c6b62722f3dc10a31fec74347bb"), looks := false }, kinds := [], alts := [], laidByText := true, laidKinds := [.data, .data, .data, .widerDeep], laidTests := true, laidLooks := .later }
def PackFitsCardSaid : Prop := Claim7.holds Tryz.pinned (.plain (OpenSpec.ofChange packFitsSpec)) packFitsCard

/-- THE TIED CARD OF 'supercargolaw12.PackLists'. -/
def packListsCard : Claim7 := { stood := { row := packListsRow, standIns := [], harness := (true, "11b98d17a53f2eec6921d7ab915dee6a414a9c6b62722f3dc10a31fec74347bb"), looks := false }, kinds := [], alts := [], laidByText := true, laidKinds := [.data, .data, .data, .widerDeep], laidTests := true, laidLooks := .later }
def PackListsCardSaid : Prop := Claim7.holds Tryz.pinned (.plain (OpenSpec.ofChange packListsSpec)) packListsCard

/-- THE TIED CARD OF 'supercargolaw12.PackWhole'. -/
def packWholeCard : Claim7 := { stood := { row := packWholeRow, standIns := [], harness := (true, "11b98d17a53f2eec6921d7ab915dee6a414a9c6b62722f3dc10a31fec74347bb"), looks := false }, kinds := [], alts := [], laidByText := true, laidKinds := [.data, .data, .data, .widerDeep], laidTests := true, laidLooks := .later }
def PackWholeCardSaid : Prop := Claim7.holds Tryz.pinned (.plain (OpenSpec.ofChange packWholeSpec)) packWholeCard

/-- THE TIED CARD OF 'supercargolaw12.PackRights'. -/
def packRightsCard : Claim7 := { stood := { row := packRightsRow, standIns := [], harness := (true, "11b98d17a53f2eec6921d7ab915dee6a414a9c6b62722f3dc10a31fec74347bb"), looks := false }, kinds := [], alts := [], laidByText := true, laidKinds := [.data, .data, .data, .widerDeep], laidTests := true, laidLooks := .later }
def PackRightsCardSaid : Prop := Claim7.holds Tryz.pinned (.plain (OpenSpec.ofChange packRightsSpec)) packRightsCard

/-- THE TIED CARD OF 'supercargolaw12.PackSpoils'. -/
def packSpoilsCard : Claim7 := { stood := { row := packSpoilsRow, standIns := [], harness := (true, "11b98d17a53f2eec6921d7ab915dee6a414a9c6b62722f3dc10a31fec74347bb"), looks := false }, kinds := [], alts := [], laidByText := true, laidKinds := [.data, .data, .data, .widerDeep], laidTests := true, laidLooks := .later }
def PackSpoilsCardSaid : Prop := Claim7.holds Tryz.pinned (.plain (OpenSpec.ofChange packSpoilsSpec)) packSpoilsCard

/-- THE SECOND FORM's CARD OF 'supercargotop.TopPacked'. -/
def topPackedUptoCard : Claim7 := { stood := { row := topPackedUptoRow, standIns := [], harness := (true, "11b98d17a53f2eec6921d7ab915dee6a414a9c6b62722f3dc10a31fec74347bb"), looks := false }, kinds := [], alts := [], laidByText := true, laidKinds := [.data, .data, .data, .widerDeep], laidTests := true, laidLooks := .later }
def TopPackedUptoCardSaid : Prop := Claim7.holds Tryz.pinned (.plain (OpenSpec.upto topPackedSpec)) topPackedUptoCard

/-- THE SECOND FORM's CARD OF 'supercargolaw12.PackFirst'. -/
def packFirstUptoCard : Claim7 := { stood := { row := packFirstUptoRow, standIns := [], harness := (true, "11b98d17a53f2eec6921d7ab915dee6a414a9c6b62722f3dc10a31fec74347bb"), looks := false }, kinds := [], alts := [], laidByText := true, laidKinds := [.data, .data, .data, .widerDeep], laidTests := true, laidLooks := .later }
def PackFirstUptoCardSaid : Prop := Claim7.holds Tryz.pinned (.plain (OpenSpec.upto packFirstSpec)) packFirstUptoCard

/-- THE SECOND FORM's CARD OF 'supercargolaw12.PackFits'. -/
def packFitsUptoCard : Claim7 := { stood := { row := packFitsUptoRow, standIns := [], harness := (true, "11b98d17a53f2eec6921d7ab915dee6a414a9c6b62722f3dc10a31fec74347bb"), looks := false }, kinds := [], alts := [], laidByText := true, laidKinds := [.data, .data, .data, .widerDeep], laidTests := true, laidLooks := .later }
def PackFitsUptoCardSaid : Prop := Claim7.holds Tryz.pinned (.plain (OpenSpec.upto packFitsSpec)) packFitsUptoCard

/-- THE SECOND FORM's CARD OF 'supercargolaw12.PackLists'. -/
def packListsUptoCard : Claim7 := { stood := { row := packListsUptoRow, standIns := [], harness := (true, "11b98d17a53f2eec6921d7ab915dee6a414a9c6b62722f3dc10a31fec74347bb"), looks := false }, kinds := [], alts := [], laidByText := true, laidKinds := [.data, .data, .data, .widerDeep], laidTests := true, laidLooks := .later }
def PackListsUptoCardSaid : Prop := Claim7.holds Tryz.pinned (.plain (OpenSpec.upto packListsSpec)) packListsUptoCard

/-- THE SECOND FORM's CARD OF 'supercargolaw12.PackWhole'. -/
def packWholeUptoCard : Claim7 := { stood := { row := packWholeUptoRow, standIns := [], harness := (true, "11b98d17a53f2eec6921d7ab915dee6a414a9c6b62722f3dc10a31fec74347bb"), looks := false }, kinds := [], alts := [], laidByText := true, laidKinds := [.data, .data, .data, .widerDeep], laidTests := true, laidLooks := .later }
def PackWholeUptoCardSaid : Prop := Claim7.holds Tryz.pinned (.plain (OpenSpec.upto packWholeSpec)) packWholeUptoCard

/-- THE SECOND FORM's CARD OF 'supercargolaw12.PackRights'. -/
def packRightsUptoCard : Claim7 := { stood := { row := packRightsUptoRow, standIns := [], harness := (true, "11b98d17a53f2eec6921d7ab915dee6a414a9c6b62722f3dc10a31fec74347bb"), looks := false }, kinds := [], alts := [], laidByText := true, laidKinds := [.data, .data, .data, .widerDeep], laidTests := true, laidLooks := .later }
def PackRightsUptoCardSaid : Prop := Claim7.holds Tryz.pinned (.plain (OpenSpec.upto packRightsSpec)) packRightsUptoCard

/-- THE SECOND FORM's CARD OF 'supercargolaw12.PackSpoils'. -/
def packSpoilsUptoCard : Claim7 := { stood := { row := packSpoilsUptoRow, standIns := [], harness := (true, "11b98d17a53f2eec6921d7ab915dee6a414a9c6b62722f3dc10a31fec74347bb"), looks := false }, kinds := [], alts := [], laidByText := true, laidKinds := [.data, .data, .data, .widerDeep], laidTests := true, laidLooks := .later }
def PackSpoilsUptoCardSaid : Prop := Claim7.holds Tryz.pinned (.plain (OpenSpec.upto packSpoilsSpec)) packSpoilsUptoCard
end Rows
end Go.Proofs.YtfflbeenkfaemaaGreatDoor
