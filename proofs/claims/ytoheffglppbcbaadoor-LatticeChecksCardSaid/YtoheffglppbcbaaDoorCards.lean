/-
  DERIVED. GIVEN WITH THE SEED: THE CARDS: each row of YtoheffglppbcbaaDoorRows.lean that lists a variable, with what it lists TIED to the program's text (the seventh form; the later family's looks); each row that meets fmt, with fmt's text TOLD by the authors' own Lean function (tested against real Go, not proved from fmt's source: count such statements apart). THE CARD IS WHAT COUNTS. Prove the row's statement (the work); the ties are given (YtoheffglppbcbaaDoorTie.lean); close each card by the builder's one call (the guide's Derived/Test/ToyasCard.lean, 'card_holds'). Laid BY PROGRAM, IN A SANDBOX (cutbox-door.mjs). By AI agents, Wed Nov 11 2026. No macro, syntax, notation, axiom, sorry.
-/
import Derived.Test.YtoheffglppbcbaaDoorRows
import GoSem.ClaimSeven
namespace Go.Proofs.YtoheffglppbcbaaDoor
namespace Rows

/-- THE TIED CARD OF 'arbaclaw46.LatticeLimits'. -/
def latticeLimitsCard : Claim7 := { stood := { row := latticeLimitsRow, standIns := [], harness := (true, "c93b90e8a4b110e6b1461d629ff44960db1ddfea06eec520b51a40cd0b8a77e4"), looks := false }, kinds := [], alts := [], laidByText := true, laidKinds := [.data, .data, .data], laidTests := true, laidLooks := .later }
def LatticeLimitsCardSaid : Prop := Claim7.holds Tryd.pinned (.plain (OpenSpec.ofChange latticeLimitsSpec)) latticeLimitsCard

/-- THE TIED CARD OF 'arbaclaw46.LatticeJoins'. -/
def latticeJoinsCard : Claim7 := { stood := { row := latticeJoinsRow, standIns := [], harness := (true, "c93b90e8a4b110e6b1461d629ff44960db1ddfea06eec520b51a40cd0b8a77e4"), looks := false }, kinds := [], alts := [], laidByText := true, laidKinds := [.data, .data, .data], laidTests := true, laidLooks := .later }
def LatticeJoinsCardSaid : Prop := Claim7.holds Tryd.pinned (.plain (OpenSpec.ofChange latticeJoinsSpec)) latticeJoinsCard

/-- THE TIED CARD OF 'arbaclaw46.LatticeLaws'. -/
def latticeLawsCard : Claim7 := { stood := { row := latticeLawsRow, standIns := [], harness := (true, "c93b90e8a4b110e6b1461d629ff44960db1ddfea06eec520b51a40cd0b8a77e4"), looks := false }, kinds := [], alts := [], laidByText := true, laidKinds := [.data, .data, .data], laidTests := true, laidLooks := .later }
def LatticeLawsCardSaid : Prop := Claim7.holds Tryd.pinned (.plain (OpenSpec.ofChange latticeLawsSpec)) latticeLawsCard

/-- THE TIED CARD OF 'arbaclaw46.LatticeCovers'. -/
def latticeCoversCard : Claim7 := { stood := { row := latticeCoversRow, standIns := [], harness := (true, "c93b90e8a4b110e6b1461d629ff44960db1ddfea06eec520b51a40cd0b8a77e4"), looks := false }, kinds := [], alts := [], laidByText := true, laidKinds := [.data, .data, .data], laidTests := true, laidLooks := .later }
def LatticeCoversCardSaid : Prop := Claim7.holds Tryd.pinned (.plain (OpenSpec.ofChange latticeCoversSpec)) latticeCoversCard

/-- THE TIED CARD OF 'arbaclaw46.LatticeFinds'. -/
def latticeFindsCard : Claim7 := { stood := { row := latticeFindsRow, standIns := [], harness := (true, "c93b90e8a4b110e6b1461d629ff44960db1ddfea06eec520b51a40cd0b8a77e4"), looks := false }, kinds := [], alts := [], laidByText := true, laidKinds := [.data, .data, .data], laidTests := true, laidLooks := .later }
def LatticeFindsCardSaid : Prop := Claim7.holds Tryd.pinned (.plain (OpenSpec.ofChange latticeFindsSpec)) latticeFindsCard

/-- THE TIED CARD OF 'arbaclaw46.LatticeNil'. -/
def latticeNilCard : Claim7 := { stood := { row := latticeNilRow, standIns := [], harness := (true, "c93b90e8a4b110e6b1461d629ff44960db1ddfea06eec520b51a40cd0b8a77e4"), looks := false }, kinds := [], alts := [], laidByText := true, laidKinds := [.data, .data, .data], laidTests := true, laidLooks := .later }
def LatticeNilCardSaid : Prop := Claim7.holds Tryd.pinned (.plain (OpenSpec.ofChange latticeNilSpec)) latticeNilCard

/-- THE TIED CARD OF 'arbaclaw46.LatticeTurns'. -/
def latticeTurnsCard : Claim7 := { stood := { row := latticeTurnsRow, standIns := [], harness := (true, "c93b90e8a4b110e6b1461d629ff44960db1ddfea06eec520b51a40cd0b8a77e4"), looks := false }, kinds := [], alts := [], laidByText := true, laidKinds := [.data, .data, .data], laidTests := true, laidLooks := .later }
def LatticeTurnsCardSaid : Prop := Claim7.holds Tryd.pinned (.plain (OpenSpec.ofChange latticeTurnsSpec)) latticeTurnsCard

/-- THE TIED CARD OF 'arbaclaw46.LatticeEnds'. -/
def latticeEndsCard : Claim7 := { stood := { row := latticeEndsRow, standIns := [], harness := (true, "c93b90e8a4b110e6b1461d629ff44960db1ddfea06eec520b51a40cd0b8a77e4"), looks := false }, kinds := [], alts := [], laidByText := true, laidKinds := [.data, .data, .data], laidTests := true, laidLooks := .later }
def LatticeEndsCardSaid : Prop := Claim7.holds Tryd.pinned (.plain (OpenSpec.ofChange latticeEndsSpec)) latticeEndsCard

/-- THE TIED CARD OF 'arbaclaw46.LatticeChecks'. -/
def latticeChecksCard : Claim7 := { stood := { row := latticeChecksRow, standIns := [], harness := (true, "c93b90e8a4b110e6b1461d629ff44960db1ddfea06eec520b51a40cd0b8a77e4"), looks := false }, kinds := [], alts := [], laidByText := true, laidKinds := [.data, .data, .data], laidTests := true, laidLooks := .later }
def LatticeChecksCardSaid : Prop := Claim7.holds Tryd.pinned (.plain (OpenSpec.ofChange latticeChecksSpec)) latticeChecksCard

/-- THE TIED CARD OF 'arbaclaw46.LatticeConcepts'. -/
def latticeConceptsCard : Claim7 := { stood := { row := latticeConceptsRow, standIns := [], harness := (true, "c93b90e8a4b110e6b1461d629ff44960db1ddfea06eec520b51a40cd0b8a77e4"), looks := false }, kinds := [], alts := [], laidByText := true, laidKinds := [.data, .data, .data], laidTests := true, laidLooks := .later }
def LatticeConceptsCardSaid : Prop := Claim7.holds Tryd.pinned (.plain (OpenSpec.ofChange latticeConceptsSpec)) latticeConceptsCard

/-- THE SECOND FORM's CARD OF 'arbaclaw46.LatticeLimits'. -/
def latticeLimitsUptoCard : Claim7 := { stood := { row := latticeLimitsUptoRow, standIns := [], harness := (true, "c93b90e8a4b110e6b1461d629ff44960db1ddfea06eec520b51a40cd0b8a77e4"), looks := false }, kinds := [], alts := [], laidByText := true, laidKinds := [.data, .data, .data], laidTests := true, laidLooks := .later }
def LatticeLimitsUptoCardSaid : Prop := Claim7.holds Tryd.pinned (.plain (OpenSpec.upto latticeLimitsSpec)) latticeLimitsUptoCard

/-- THE SECOND FORM's CARD OF 'arbaclaw46.LatticeJoins'. -/
def latticeJoinsUptoCard : Claim7 := { stood := { row := latticeJoinsUptoRow, standIns := [], harness := (true, "c93b90e8a4b110e6b1461d629ff44960db1ddfea06eec520b51a40cd0b8a77e4"), looks := false }, kinds := [], alts := [], laidByText := true, laidKinds := [.data, .data, .data], laidTests := true, laidLooks := .later }
def LatticeJoinsUptoCardSaid : Prop := Claim7.holds Tryd.pinned (.plain (OpenSpec.upto latticeJoinsSpec)) latticeJoinsUptoCard

/-- THE SECOND FORM's CARD OF 'arbaclaw46.LatticeLaws'. -/
def latticeLawsUptoCard : Claim7 := { stood := { row := latticeLawsUptoRow, standIns := [], harness := (true, "c93b90e8a4b110e6b1461d629ff44960db1ddfea06eec520b51a40cd0b8a77e4"), looks := false }, kinds := [], alts := [], laidByText := true, laidKinds := [.data, .data, .data], laidTests := true, laidLooks := .later }
def LatticeLawsUptoCardSaid : Prop := Claim7.holds Tryd.pinned (.plain (OpenSpec.upto latticeLawsSpec)) latticeLawsUptoCard

/-- THE SECOND FORM's CARD OF 'arbaclaw46.LatticeCovers'. -/
def latticeCoversUptoCard : Claim7 := { stood := { row := latticeCoversUptoRow, standIns := [], harness := (true, "c93b90e8a4b110e6b1461d629ff44960db1ddfea06eec520b51a40cd0b8a77e4"), looks := false }, kinds := [], alts := [], laidByText := true, laidKinds := [.data, .data, .data], laidTests := true, laidLooks := .later }
def LatticeCoversUptoCardSaid : Prop := Claim7.holds Tryd.pinned (.plain (OpenSpec.upto latticeCoversSpec)) latticeCoversUptoCard

/-- THE SECOND FORM's CARD OF 'arbaclaw46.LatticeFinds'. -/
def latticeFindsUptoCard : Claim7 := { stood := { row := latticeFindsUptoRow, standIns := [], harness := (true, "c93b90e8a4b110e6b1461d629ff44960db1ddfea06eec520b51a40cd0b8a77e4"), looks := false }, kinds := [], alts := [], laidByText := true, laidKinds := [.data, .data, .data], laidTests := true, laidLooks := .later }
def LatticeFindsUptoCardSaid : Prop := Claim7.holds Tryd.pinned (.plain (OpenSpec.upto latticeFindsSpec)) latticeFindsUptoCard

/-- THE SECOND FORM's CARD OF 'arbaclaw46.LatticeNil'. -/
def latticeNilUptoCard : Claim7 := { stood := { row := latticeNilUptoRow, standIns := [], harness := (true, "c93b90e8a4b110e6b1461d629ff44960db1ddfea06eec520b51a40cd0b8a77e4"), looks := false }, kinds := [], alts := [], laidByText := true, laidKinds := [.data, .data, .data], laidTests := true, laidLooks := .later }
def LatticeNilUptoCardSaid : Prop := Claim7.holds Tryd.pinned (.plain (OpenSpec.upto latticeNilSpec)) latticeNilUptoCard

/-- THE SECOND FORM's CARD OF 'arbaclaw46.LatticeTurns'. -/
def latticeTurnsUptoCard : Claim7 := { stood := { row := latticeTurnsUptoRow, standIns := [], harness := (true, "c93b90e8a4b110e6b1461d629ff44960db1ddfea06eec520b51a40cd0b8a77e4"), looks := false }, kinds := [], alts := [], laidByText := true, laidKinds := [.data, .data, .data], laidTests := true, laidLooks := .later }
def LatticeTurnsUptoCardSaid : Prop := Claim7.holds Tryd.pinned (.plain (OpenSpec.upto latticeTurnsSpec)) latticeTurnsUptoCard

/-- THE SECOND FORM's CARD OF 'arbaclaw46.LatticeEnds'. -/
def latticeEndsUptoCard : Claim7 := { stood := { row := latticeEndsUptoRow, standIns := [], harness := (true, "c93b90e8a4b110e6b1461d629ff44960db1ddfea06eec520b51a40cd0b8a77e4"), looks := false }, kinds := [], alts := [], laidByText := true, laidKinds := [.data, .data, .data], laidTests := true, laidLooks := .later }
def LatticeEndsUptoCardSaid : Prop := Claim7.holds Tryd.pinned (.plain (OpenSpec.upto latticeEndsSpec)) latticeEndsUptoCard

/-- THE SECOND FORM's CARD OF 'arbaclaw46.LatticeChecks'. -/
def latticeChecksUptoCard : Claim7 := { stood := { row := latticeChecksUptoRow, standIns := [], harness := (true, "c93b90e8a4b110e6b1461d629ff44960db1ddfea06eec520b51a40cd0b8a77e4"), looks := false }, kinds := [], alts := [], laidByText := true, laidKinds := [.data, .data, .data], laidTests := true, laidLooks := .later }
def LatticeChecksUptoCardSaid : Prop := Claim7.holds Tryd.pinned (.plain (OpenSpec.upto latticeChecksSpec)) latticeChecksUptoCard

/-- THE SECOND FORM's CARD OF 'arbaclaw46.LatticeConcepts'. -/
def latticeConceptsUptoCard : Claim7 := { stood := { row := latticeConceptsUptoRow, standIns := [], harness := (true, "c93b90e8a4b110e6b1461d629ff44960db1ddfea06eec520b51a40cd0b8a77e4"), looks := false }, kinds := [], alts := [], laidByText := true, laidKinds := [.data, .data, .data], laidTests := true, laidLooks := .later }
def LatticeConceptsUptoCardSaid : Prop := Claim7.holds Tryd.pinned (.plain (OpenSpec.upto latticeConceptsSpec)) latticeConceptsUptoCard
end Rows
end Go.Proofs.YtoheffglppbcbaaDoor
