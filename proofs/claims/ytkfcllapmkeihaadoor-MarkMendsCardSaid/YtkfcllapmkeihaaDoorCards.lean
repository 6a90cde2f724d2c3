/-
  DERIVED. GIVEN WITH THE SEED: THE CARDS: each row of YtkfcllapmkeihaaDoorRows.lean that lists a variable, with what it lists TIED to the program's text (the seventh form; the later family's looks); each row that meets fmt, with fmt's text TOLD by the authors' own Lean function (tested against real Go, not proved from fmt's source: count such statements apart). THE CARD IS WHAT COUNTS. Prove the row's statement (the work); the ties are given (YtkfcllapmkeihaaDoorTie.lean); close each card by the builder's one call (the guide's Derived/Test/ToyasCard.lean, 'card_holds'). Laid BY PROGRAM, IN A SANDBOX (cutbox-door.mjs). By AI agents, Wed Nov 11 2026. No macro, syntax, notation, axiom, sorry.
-/
import Derived.Test.YtkfcllapmkeihaaDoorRows
import GoSem.ClaimSeven
namespace Go.Proofs.YtkfcllapmkeihaaDoor
namespace Rows

/-- THE TIED CARD OF 'supercargolaw03.MarkMakes'. -/
def markMakesCard : Claim7 := { stood := { row := markMakesRow, standIns := [], harness := (true, "2049d7291e5bd7759bb12b8203857ca758f08003738ab197039e36379d49fd5f"), looks := false }, kinds := [], alts := [], laidByText := true, laidKinds := [.data, .data, .data], laidTests := true, laidLooks := .later }
def MarkMakesCardSaid : Prop := Claim7.holds Tryd.pinned (.plain (OpenSpec.ofChange markMakesSpec)) markMakesCard

/-- THE TIED CARD OF 'supercargolaw03.MarkTurns'. -/
def markTurnsCard : Claim7 := { stood := { row := markTurnsRow, standIns := [], harness := (true, "2049d7291e5bd7759bb12b8203857ca758f08003738ab197039e36379d49fd5f"), looks := false }, kinds := [], alts := [], laidByText := true, laidKinds := [.data, .data, .data], laidTests := true, laidLooks := .later }
def MarkTurnsCardSaid : Prop := Claim7.holds Tryd.pinned (.plain (OpenSpec.ofChange markTurnsSpec)) markTurnsCard

/-- THE TIED CARD OF 'supercargolaw03.MarkTells'. -/
def markTellsCard : Claim7 := { stood := { row := markTellsRow, standIns := [], harness := (true, "2049d7291e5bd7759bb12b8203857ca758f08003738ab197039e36379d49fd5f"), looks := false }, kinds := [], alts := [], laidByText := true, laidKinds := [.data, .data, .data], laidTests := true, laidLooks := .later }
def MarkTellsCardSaid : Prop := Claim7.holds Tryd.pinned (.plain (OpenSpec.ofChange markTellsSpec)) markTellsCard

/-- THE TIED CARD OF 'supercargolaw03.MarkBack'. -/
def markBackCard : Claim7 := { stood := { row := markBackRow, standIns := [], harness := (true, "2049d7291e5bd7759bb12b8203857ca758f08003738ab197039e36379d49fd5f"), looks := false }, kinds := [], alts := [], laidByText := true, laidKinds := [.data, .data, .data], laidTests := true, laidLooks := .later }
def MarkBackCardSaid : Prop := Claim7.holds Tryd.pinned (.plain (OpenSpec.ofChange markBackSpec)) markBackCard

/-- THE TIED CARD OF 'supercargolaw03.MarkJoins'. -/
def markJoinsCard : Claim7 := { stood := { row := markJoinsRow, standIns := [], harness := (true, "2049d7291e5bd7759bb12b8203857ca758f08003738ab197039e36379d49fd5f"), looks := false }, kinds := [], alts := [], laidByText := true, laidKinds := [.data, .data, .data], laidTests := true, laidLooks := .later }
def MarkJoinsCardSaid : Prop := Claim7.holds Tryd.pinned (.plain (OpenSpec.ofChange markJoinsSpec)) markJoinsCard

/-- THE TIED CARD OF 'supercargolaw03.MarkMends'. -/
def markMendsCard : Claim7 := { stood := { row := markMendsRow, standIns := [], harness := (true, "2049d7291e5bd7759bb12b8203857ca758f08003738ab197039e36379d49fd5f"), looks := false }, kinds := [], alts := [], laidByText := true, laidKinds := [.data, .data, .data], laidTests := true, laidLooks := .later }
def MarkMendsCardSaid : Prop := Claim7.holds Tryd.pinned (.plain (OpenSpec.ofChange markMendsSpec)) markMendsCard

/-- THE TIED CARD OF 'supercargolaw03.MarkCut'. -/
def markCutCard : Claim7 := { stood := { row := markCutRow, standIns := [], harness := (true, "2049d7291e5bd7759bb12b8203857ca758f08003738ab197039e36379d49fd5f"), looks := false }, kinds := [], alts := [], laidByText := true, laidKinds := [.data, .data, .data], laidTests := true, laidLooks := .later }
def MarkCutCardSaid : Prop := Claim7.holds Tryd.pinned (.plain (OpenSpec.ofChange markCutSpec)) markCutCard

/-- THE TIED CARD OF 'supercargolaw03.MarkOne'. -/
def markOneCard : Claim7 := { stood := { row := markOneRow, standIns := [], harness := (true, "2049d7291e5bd7759bb12b8203857ca758f08003738ab197039e36379d49fd5f"), looks := false }, kinds := [], alts := [], laidByText := true, laidKinds := [.data, .data, .data], laidTests := true, laidLooks := .later }
def MarkOneCardSaid : Prop := Claim7.holds Tryd.pinned (.plain (OpenSpec.ofChange markOneSpec)) markOneCard

/-- THE SECOND FORM's CARD OF 'supercargolaw03.MarkMakes'. -/
def markMakesUptoCard : Claim7 := { stood := { row := markMakesUptoRow, standIns := [], harness := (true, "2049d7291e5bd7759bb12b8203857ca758f08003738ab197039e36379d49fd5f"), looks := false }, kinds := [], alts := [], laidByText := true, laidKinds := [.data, .data, .data], laidTests := true, laidLooks := .later }
def MarkMakesUptoCardSaid : Prop := Claim7.holds Tryd.pinned (.plain (OpenSpec.upto markMakesSpec)) markMakesUptoCard

/-- THE SECOND FORM's CARD OF 'supercargolaw03.MarkTurns'. -/
def markTurnsUptoCard : Claim7 := { stood := { row := markTurnsUptoRow, standIns := [], harness := (true, "2049d7291e5bd7759bb12b8203857ca758f08003738ab197039e36379d49fd5f"), looks := false }, kinds := [], alts := [], laidByText := true, laidKinds := [.data, .data, .data], laidTests := true, laidLooks := .later }
def MarkTurnsUptoCardSaid : Prop := Claim7.holds Tryd.pinned (.plain (OpenSpec.upto markTurnsSpec)) markTurnsUptoCard

/-- THE SECOND FORM's CARD OF 'supercargolaw03.MarkTells'. -/
def markTellsUptoCard : Claim7 := { stood := { row := markTellsUptoRow, standIns := [], harness := (true, "2049d7291e5bd7759bb12b8203857ca758f08003738ab197039e36379d49fd5f"), looks := false }, kinds := [], alts := [], laidByText := true, laidKinds := [.data, .data, .data], laidTests := true, laidLooks := .later }
def MarkTellsUptoCardSaid : Prop := Claim7.holds Tryd.pinned (.plain (OpenSpec.upto markTellsSpec)) markTellsUptoCard

/-- THE SECOND FORM's CARD OF 'supercargolaw03.MarkBack'. -/
def markBackUptoCard : Claim7 := { stood := { row := markBackUptoRow, standIns := [], harness := (true, "2049d7291e5bd7759bb12b8203857ca758f08003738ab197039e36379d49fd5f"), looks := false }, kinds := [], alts := [], laidByText := true, laidKinds := [.data, .data, .data], laidTests := true, laidLooks := .later }
def MarkBackUptoCardSaid : Prop := Claim7.holds Tryd.pinned (.plain (OpenSpec.upto markBackSpec)) markBackUptoCard

/-- THE SECOND FORM's CARD OF 'supercargolaw03.MarkJoins'. -/
def markJoinsUptoCard : Claim7 := { stood := { row := markJoinsUptoRow, standIns := [], harness := (true, "2049d7291e5bd7759bb12b8203857ca758f08003738ab197039e36379d49fd5f"), looks := false }, kinds := [], alts := [], laidByText := true, laidKinds := [.data, .data, .data], laidTests := true, laidLooks := .later }
def MarkJoinsUptoCardSaid : Prop := Claim7.holds Tryd.pinned (.plain (OpenSpec.upto markJoinsSpec)) markJoinsUptoCard

/-- THE SECOND FORM's CARD OF 'supercargolaw03.MarkMends'. -/
def markMendsUptoCard : Claim7 := { stood := { row := markMendsUptoRow, standIns := [], harness := (true, "2049d7291e5bd7759bb12b8203857ca758f08003738ab197039e36379d49fd5f"), looks := false }, kinds := [], alts := [], laidByText := true, laidKinds := [.data, .data, .data], laidTests := true, laidLooks := .later }
def MarkMendsUptoCardSaid : Prop := Claim7.holds Tryd.pinned (.plain (OpenSpec.upto markMendsSpec)) markMendsUptoCard

/-- THE SECOND FORM's CARD OF 'supercargolaw03.MarkCut'. -/
def markCutUptoCard : Claim7 := { stood := { row := markCutUptoRow, standIns := [], harness := (true, "2049d7291e5bd7759bb12b8203857ca758f08003738ab197039e36379d49fd5f"), looks := false }, kinds := [], alts := [], laidByText := true, laidKinds := [.data, .data, .data], laidTests := true, laidLooks := .later }
def MarkCutUptoCardSaid : Prop := Claim7.holds Tryd.pinned (.plain (OpenSpec.upto markCutSpec)) markCutUptoCard

/-- THE SECOND FORM's CARD OF 'supercargolaw03.MarkOne'. -/
def markOneUptoCard : Claim7 := { stood := { row := markOneUptoRow, standIns := [], harness := (true, "2049d7291e5bd7759bb12b8203857ca758f08003738ab197039e36379d49fd5f"), looks := false }, kinds := [], alts := [], laidByText := true, laidKinds := [.data, .data, .data], laidTests := true, laidLooks := .later }
def MarkOneUptoCardSaid : Prop := Claim7.holds Tryd.pinned (.plain (OpenSpec.upto markOneSpec)) markOneUptoCard
end Rows
end Go.Proofs.YtkfcllapmkeihaaDoor
