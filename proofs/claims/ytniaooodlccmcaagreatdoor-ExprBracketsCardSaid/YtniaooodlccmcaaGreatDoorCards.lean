/-
  DERIVED. GIVEN WITH THE SEED: THE CARDS: each row of YtniaooodlccmcaaGreatDoorRows.lean that lists a variable, with what it lists TIED to the program's text (the seventh form; the later family's looks); each row that meets fmt, with fmt's text TOLD by the authors' own Lean function (tested against real Go, not proved from fmt's source: count such statements apart). THE CARD IS WHAT COUNTS. Prove the row's statement (the work); the ties are given (YtniaooodlccmcaaGreatDoorTie.lean); close each card by the builder's one call (the guide's Derived/Test/ToyasCard.lean, 'card_holds'). Laid BY PROGRAM, IN A SANDBOX (cutbox-door.mjs). By AI agents, Wed Nov 11 2026. No macro, syntax, notation, axiom, sorry.
-/
import Derived.Test.YtniaooodlccmcaaGreatDoorRows
import GoSem.ClaimSeven
namespace Go.Proofs.YtniaooodlccmcaaGreatDoor
namespace Rows

/-- THE TIED CARD OF 'tammylaw07.ExprStarts'. -/
def exprStartsCard : Claim7 := { stood := { row := exprStartsRow, standIns := [], harness := (true, "ccb3f892ad10696752e9326ebfe83f9fd9dc1ea9c7225d610c2c3c134acba6cb"), looks := true }, kinds := [], alts := [], laidByText := true, laidKinds := [.data, .data, .data, .sentinel, .sentinel], laidTests := true, laidLooks := .later }
def ExprStartsCardSaid : Prop := Claim7.holds Tryz.pinned (.plain (OpenSpec.ofChange exprStartsSpec)) exprStartsCard

/-- THE TIED CARD OF 'tammylaw07.ExprBack'. -/
def exprBackCard : Claim7 := { stood := { row := exprBackRow, standIns := [], harness := (true, "ccb3f892ad10696752e9326ebfe83f9fd9dc1ea9c7225d610c2c3c134acba6cb"), looks := true }, kinds := [], alts := [], laidByText := true, laidKinds := [.data, .data, .data, .sentinel, .sentinel], laidTests := true, laidLooks := .later }
def ExprBackCardSaid : Prop := Claim7.holds Tryz.pinned (.plain (OpenSpec.ofChange exprBackSpec)) exprBackCard

/-- THE TIED CARD OF 'tammylaw07.ExprBrackets'. -/
def exprBracketsCard : Claim7 := { stood := { row := exprBracketsRow, standIns := [], harness := (true, "ccb3f892ad10696752e9326ebfe83f9fd9dc1ea9c7225d610c2c3c134acba6cb"), looks := true }, kinds := [], alts := [], laidByText := true, laidKinds := [.data, .data, .data, .sentinel, .sentinel], laidTests := true, laidLooks := .later }
def ExprBracketsCardSaid : Prop := Claim7.holds Tryz.pinned (.plain (OpenSpec.ofChange exprBracketsSpec)) exprBracketsCard

/-- THE TIED CARD OF 'tammylaw07.ExprTwo'. -/
def exprTwoCard : Claim7 := { stood := { row := exprTwoRow, standIns := [], harness := (true, "ccb3f892ad10696752e9326ebfe83f9fd9dc1ea9c7225d610c2c3c134acba6cb"), looks := true }, kinds := [], alts := [], laidByText := true, laidKinds := [.data, .data, .data, .sentinel, .sentinel], laidTests := true, laidLooks := .later }
def ExprTwoCardSaid : Prop := Claim7.holds Tryz.pinned (.plain (OpenSpec.ofChange exprTwoSpec)) exprTwoCard

/-- THE SECOND FORM's CARD OF 'tammylaw07.ExprStarts'. -/
def exprStartsUptoCard : Claim7 := { stood := { row := exprStartsUptoRow, standIns := [], harness := (true, "ccb3f892ad10696752e9326ebfe83f9fd9dc1ea9c7225d610c2c3c134acba6cb"), looks := true }, kinds := [], alts := [], laidByText := true, laidKinds := [.data, .data, .data, .sentinel, .sentinel], laidTests := true, laidLooks := .later }
def ExprStartsUptoCardSaid : Prop := Claim7.holds Tryz.pinned (.plain (OpenSpec.upto exprStartsSpec)) exprStartsUptoCard

/-- THE SECOND FORM's CARD OF 'tammylaw07.ExprBack'. -/
def exprBackUptoCard : Claim7 := { stood := { row := exprBackUptoRow, standIns := [], harness := (true, "ccb3f892ad10696752e9326ebfe83f9fd9dc1ea9c7225d610c2c3c134acba6cb"), looks := true }, kinds := [], alts := [], laidByText := true, laidKinds := [.data, .data, .data, .sentinel, .sentinel], laidTests := true, laidLooks := .later }
def ExprBackUptoCardSaid : Prop := Claim7.holds Tryz.pinned (.plain (OpenSpec.upto exprBackSpec)) exprBackUptoCard

/-- THE SECOND FORM's CARD OF 'tammylaw07.ExprBrackets'. -/
def exprBracketsUptoCard : Claim7 := { stood := { row := exprBracketsUptoRow, standIns := [], harness := (true, "ccb3f892ad10696752e9326ebfe83f9fd9dc1ea9c7225d610c2c3c134acba6cb"), looks := true }, kinds := [], alts := [], laidByText := true, laidKinds := [.data, .data, .data, .sentinel, .sentinel], laidTests := true, laidLooks := .later }
def ExprBracketsUptoCardSaid : Prop := Claim7.holds Tryz.pinned (.plain (OpenSpec.upto exprBracketsSpec)) exprBracketsUptoCard

/-- THE SECOND FORM's CARD OF 'tammylaw07.ExprTwo'. -/
def exprTwoUptoCard : Claim7 := { stood := { row := exprTwoUptoRow, standIns := [], harness := (true, "ccb3f892ad10696752e9326ebfe83f9fd9dc1ea9c7225d610c2c3c134acba6cb"), looks := true }, kinds := [], alts := [], laidByText := true, laidKinds := [.data, .data, .data, .sentinel, .sentinel], laidTests := true, laidLooks := .later }
def ExprTwoUptoCardSaid : Prop := Claim7.holds Tryz.pinned (.plain (OpenSpec.upto exprTwoSpec)) exprTwoUptoCard
end Rows
end Go.Proofs.YtniaooodlccmcaaGreatDoor
