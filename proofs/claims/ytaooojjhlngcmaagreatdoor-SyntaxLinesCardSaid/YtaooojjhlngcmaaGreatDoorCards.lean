/-
  DERIVED. GIVEN WITH THE SEED: THE CARDS: each row of YtaooojjhlngcmaaGreatDoorRows.lean that lists a variable, with what it lists TIED to the program's text (the seventh form; the later family's looks); each row that meets fmt, with fmt's text TOLD by the authors' own Lean function (tested against real Go, not proved from fmt's source: count such statements apart). THE CARD IS WHAT COUNTS. Prove the row's statement (the work); the ties are given (YtaooojjhlngcmaaGreatDoorTie.lean); close each card by the builder's one call (the guide's Derived/Test/ToyasCard.lean, 'card_holds'). Laid BY PROGRAM, IN A SANDBOX (cutbox-door.mjs). By AI agents, Wed Nov 11 2026. No macro, syntax, notation, axiom, sorry.
-/
import Derived.Test.YtaooojjhlngcmaaGreatDoorRows
import GoSem.ClaimSeven
namespace Go.Proofs.YtaooojjhlngcmaaGreatDoor
namespace Rows

/-- THE TIED CARD OF 'arbaclaw16.SyntaxLines'. -/
def syntaxLinesCard : Claim7 := { stood := { row := syntaxLinesRow, standIns := [], harness := (true, "d61f09df866d4416a93f411a7525e145bc8cfdf56daa4ba94a456acd671fd68d"), looks := false }, kinds := [], alts := [], laidByText := true, laidKinds := [.data, .data, .data], laidTests := true, laidLooks := .later }
def SyntaxLinesCardSaid : Prop := Claim7.holds Tryz.pinned (.plain (OpenSpec.ofChange syntaxLinesSpec)) syntaxLinesCard

/-- THE SECOND FORM's CARD OF 'arbaclaw16.SyntaxLines'. -/
def syntaxLinesUptoCard : Claim7 := { stood := { row := syntaxLinesUptoRow, standIns := [], harness := (true, "d61f09df866d4416a93f411a7525e145bc8cfdf56daa4ba94a456acd671fd68d"), looks := false }, kinds := [], alts := [], laidByText := true, laidKinds := [.data, .data, .data], laidTests := true, laidLooks := .later }
def SyntaxLinesUptoCardSaid : Prop := Claim7.holds Tryz.pinned (.plain (OpenSpec.upto syntaxLinesSpec)) syntaxLinesUptoCard
end Rows
end Go.Proofs.YtaooojjhlngcmaaGreatDoor
