/-
  DERIVED. GIVEN WITH THE SEED: THE CARDS: each row of YtmfiencoefbjfaaGreatDoorRows.lean that lists a variable, with what it lists TIED to the program's text (the seventh form; the later family's looks); each row that meets fmt, with fmt's text TOLD by the authors' own Lean function (tested against real Go, not proved from fmt's source: count such statements apart). THE CARD IS WHAT COUNTS. Prove the row's statement (the work); the ties are given (YtmfiencoefbjfaaGreatDoorTie.lean); close each card by the builder's one call (the guide's Derived/Test/ToyasCard.lean, 'card_holds'). Laid BY PROGRAM, IN A SANDBOX (cutbox-door.mjs). By AI agents, Wed Nov 11 2026. No macro, syntax, notation, axiom, sorry.
-/
import Derived.Test.YtmfiencoefbjfaaGreatDoorRows
import GoSem.ClaimSeven
namespace Go.Proofs.YtmfiencoefbjfaaGreatDoor
namespace Rows

/-- THE TIED CARD OF 'arbactop.TopMigrates'. -/
def topMigratesCard : Claim7 := { stood := { row := topMigratesRow, standIns := [], harness := (true, "4d340b907a22d1bbf5b22fd1cb21bb40185303133e4d5bf54a2850a817af60bc"), looks := false }, kinds := [], alts := [], laidByText := true, laidKinds := [.data, .data, .pinned], laidTests := true, laidLooks := .later }
def TopMigratesCardSaid : Prop := Claim7.holds Tryz.pinned (.plain (OpenSpec.ofChange topMigratesSpec)) topMigratesCard

/-- THE SECOND FORM's CARD OF 'arbactop.TopMigrates'. -/
def topMigratesUptoCard : Claim7 := { stood := { row := topMigratesUptoRow, standIns := [], harness := (true, "4d340b907a22d1bbf5b22fd1cb21bb40185303133e4d5bf54a2850a817af60bc"), looks := false }, kinds := [], alts := [], laidByText := true, laidKinds := [.data, .data, .pinned], laidTests := true, laidLooks := .later }
def TopMigratesUptoCardSaid : Prop := Claim7.holds Tryz.pinned (.plain (OpenSpec.upto topMigratesSpec)) topMigratesUptoCard
end Rows
end Go.Proofs.YtmfiencoefbjfaaGreatDoor
