/-
  DERIVED. GIVEN WITH THE SEED: THE CARDS: each row of YtnpcilglilfajaaGreatDoorRows.lean that lists a variable, with what it lists TIED to the program's text (the seventh form; the later family's looks); each row that meets fmt, with fmt's text TOLD by the authors' own Lean function (tested against real Go, not proved from fmt's source: count such statements apart). THE CARD IS WHAT COUNTS. Prove the row's statement (the work); the ties are given (YtnpcilglilfajaaGreatDoorTie.lean); close each card by the builder's one call (the guide's Derived/Test/ToyasCard.lean, 'card_holds'). Laid BY PROGRAM, IN A SANDBOX (cutbox-door.mjs). By AI agents, Wed Nov 11 2026. No macro, syntax, notation, axiom, sorry.
-/
import Derived.Test.YtnpcilglilfajaaGreatDoorRows
import GoSem.ClaimSeven
namespace Go.Proofs.YtnpcilglilfajaaGreatDoor
namespace Rows

/-- THE TIED CARD OF 'arbaclaw18.FormulaChecks'. -/
def formulaChecksCard : Claim7 := { stood := { row := formulaChecksRow, standIns := [], harness := (true, "a1940855496ed6e58c1d393c065c140db09cefe28d461f62e26f55f15e7b6683"), looks := true }, kinds := [], alts := [], laidByText := true, laidKinds := [.data, .data, .data], laidTests := true, laidLooks := .later }
def FormulaChecksCardSaid : Prop := Claim7.holds Tryz.pinned (.plain (OpenSpec.ofChange formulaChecksSpec)) formulaChecksCard

/-- THE TIED CARD OF 'arbaclaw18.FormulaTypes'. -/
def formulaTypesCard : Claim7 := { stood := { row := formulaTypesRow, standIns := [], harness := (true, "a1940855496ed6e58c1d393c065c140db09cefe28d461f62e26f55f15e7b6683"), looks := true }, kinds := [], alts := [], laidByText := true, laidKinds := [.data, .data, .data], laidTests := true, laidLooks := .later }
def FormulaTypesCardSaid : Prop := Claim7.holds Tryz.pinned (.plain (OpenSpec.ofChange formulaTypesSpec)) formulaTypesCard

/-- THE TIED CARD OF 'arbaclaw18.FormulaLimits'. -/
def formulaLimitsCard : Claim7 := { stood := { row := formulaLimitsRow, standIns := [], harness := (true, "a1940855496ed6e58c1d393c065c140db09cefe28d461f62e26f55f15e7b6683"), looks := true }, kinds := [], alts := [], laidByText := true, laidKinds := [.data, .data, .data], laidTests := true, laidLooks := .later }
def FormulaLimitsCardSaid : Prop := Claim7.holds Tryz.pinned (.plain (OpenSpec.ofChange formulaLimitsSpec)) formulaLimitsCard

/-- THE TIED CARD OF 'arbaclaw18.FormulaRefuses'. -/
def formulaRefusesCard : Claim7 := { stood := { row := formulaRefusesRow, standIns := [], harness := (true, "a1940855496ed6e58c1d393c065c140db09cefe28d461f62e26f55f15e7b6683"), looks := true }, kinds := [], alts := [], laidByText := true, laidKinds := [.data, .data, .data], laidTests := true, laidLooks := .later }
def FormulaRefusesCardSaid : Prop := Claim7.holds Tryz.pinned (.plain (OpenSpec.ofChange formulaRefusesSpec)) formulaRefusesCard

/-- THE TIED CARD OF 'arbaclaw18.FormulaResolves'. -/
def formulaResolvesCard : Claim7 := { stood := { row := formulaResolvesRow, standIns := [], harness := (true, "a1940855496ed6e58c1d393c065c140db09cefe28d461f62e26f55f15e7b6683"), looks := true }, kinds := [], alts := [], laidByText := true, laidKinds := [.data, .data, .data], laidTests := true, laidLooks := .later }
def FormulaResolvesCardSaid : Prop := Claim7.holds Tryz.pinned (.plain (OpenSpec.ofChange formulaResolvesSpec)) formulaResolvesCard

/-- THE TIED CARD OF 'arbaclaw18.FormulaSyntax'. -/
def formulaSyntaxCard : Claim7 := { stood := { row := formulaSyntaxRow, standIns := [], harness := (true, "a1940855496ed6e58c1d393c065c140db09cefe28d461f62e26f55f15e7b6683"), looks := true }, kinds := [], alts := [], laidByText := true, laidKinds := [.data, .data, .data], laidTests := true, laidLooks := .later }
def FormulaSyntaxCardSaid : Prop := Claim7.holds Tryz.pinned (.plain (OpenSpec.ofChange formulaSyntaxSpec)) formulaSyntaxCard

/-- THE TIED CARD OF 'arbaclaw18.FormulaMentions'. -/
def formulaMentionsCard : Claim7 := { stood := { row := formulaMentionsRow, standIns := [], harness := (true, "a1940855496ed6e58c1d393c065c140db09cefe28d461f62e26f55f15e7b6683"), looks := true }, kinds := [], alts := [], laidByText := true, laidKinds := [.data, .data, .data], laidTests := true, laidLooks := .later }
def FormulaMentionsCardSaid : Prop := Claim7.holds Tryz.pinned (.plain (OpenSpec.ofChange formulaMentionsSpec)) formulaMentionsCard

/-- THE TIED CARD OF 'arbaclaw18.FormulaBytes'. -/
def formulaBytesCard : Claim7 := { stood := { row := formulaBytesRow, standIns := [], harness := (true, "a1940855496ed6e58c1d393c065c140db09cefe28d461f62e26f55f15e7b6683"), looks := true }, kinds := [], alts := [], laidByText := true, laidKinds := [.data, .data, .data], laidTests := true, laidLooks := .later }
def FormulaBytesCardSaid : Prop := Claim7.holds Tryz.pinned (.plain (OpenSpec.ofChange formulaBytesSpec)) formulaBytesCard

/-- THE TIED CARD OF 'arbaclaw18.FormulaReads'. -/
def formulaReadsCard : Claim7 := { stood := { row := formulaReadsRow, standIns := [], harness := (true, "a1940855496ed6e58c1d393c065c140db09cefe28d461f62e26f55f15e7b6683"), looks := true }, kinds := [], alts := [], laidByText := true, laidKinds := [.data, .data, .data], laidTests := true, laidLooks := .later }
def FormulaReadsCardSaid : Prop := Claim7.holds Tryz.pinned (.plain (OpenSpec.ofChange formulaReadsSpec)) formulaReadsCard

/-- THE TIED CARD OF 'arbaclaw18.FormulaAll'. -/
def formulaAllCard : Claim7 := { stood := { row := formulaAllRow, standIns := [], harness := (true, "a1940855496ed6e58c1d393c065c140db09cefe28d461f62e26f55f15e7b6683"), looks := true }, kinds := [], alts := [], laidByText := true, laidKinds := [.data, .data, .data], laidTests := true, laidLooks := .later }
def FormulaAllCardSaid : Prop := Claim7.holds Tryz.pinned (.plain (OpenSpec.ofChange formulaAllSpec)) formulaAllCard

/-- THE SECOND FORM's CARD OF 'arbaclaw18.FormulaChecks'. -/
def formulaChecksUptoCard : Claim7 := { stood := { row := formulaChecksUptoRow, standIns := [], harness := (true, "a1940855496ed6e58c1d393c065c140db09cefe28d461f62e26f55f15e7b6683"), looks := true }, kinds := [], alts := [], laidByText := true, laidKinds := [.data, .data, .data], laidTests := true, laidLooks := .later }
def FormulaChecksUptoCardSaid : Prop := Claim7.holds Tryz.pinned (.plain (OpenSpec.upto formulaChecksSpec)) formulaChecksUptoCard

/-- THE SECOND FORM's CARD OF 'arbaclaw18.FormulaTypes'. -/
def formulaTypesUptoCard : Claim7 := { stood := { row := formulaTypesUptoRow, standIns := [], harness := (true, "a1940855496ed6e58c1d393c065c140db09cefe28d461f62e26f55f15e7b6683"), looks := true }, kinds := [], alts := [], laidByText := true, laidKinds := [.data, .data, .data], laidTests := true, laidLooks := .later }
def FormulaTypesUptoCardSaid : Prop := Claim7.holds Tryz.pinned (.plain (OpenSpec.upto formulaTypesSpec)) formulaTypesUptoCard

/-- THE SECOND FORM's CARD OF 'arbaclaw18.FormulaLimits'. -/
def formulaLimitsUptoCard : Claim7 := { stood := { row := formulaLimitsUptoRow, standIns := [], harness := (true, "a1940855496ed6e58c1d393c065c140db09cefe28d461f62e26f55f15e7b6683"), looks := true }, kinds := [], alts := [], laidByText := true, laidKinds := [.data, .data, .data], laidTests := true, laidLooks := .later }
def FormulaLimitsUptoCardSaid : Prop := Claim7.holds Tryz.pinned (.plain (OpenSpec.upto formulaLimitsSpec)) formulaLimitsUptoCard

/-- THE SECOND FORM's CARD OF 'arbaclaw18.FormulaRefuses'. -/
def formulaRefusesUptoCard : Claim7 := { stood := { row := formulaRefusesUptoRow, standIns := [], harness := (true, "a1940855496ed6e58c1d393c065c140db09cefe28d461f62e26f55f15e7b6683"), looks := true }, kinds := [], alts := [], laidByText := true, laidKinds := [.data, .data, .data], laidTests := true, laidLooks := .later }
def FormulaRefusesUptoCardSaid : Prop := Claim7.holds Tryz.pinned (.plain (OpenSpec.upto formulaRefusesSpec)) formulaRefusesUptoCard

/-- THE SECOND FORM's CARD OF 'arbaclaw18.FormulaResolves'. -/
def formulaResolvesUptoCard : Claim7 := { stood := { row := formulaResolvesUptoRow, standIns := [], harness := (true, "a1940855496ed6e58c1d393c065c140db09cefe28d461f62e26f55f15e7b6683"), looks := true }, kinds := [], alts := [], laidByText := true, laidKinds := [.data, .data, .data], laidTests := true, laidLooks := .later }
def FormulaResolvesUptoCardSaid : Prop := Claim7.holds Tryz.pinned (.plain (OpenSpec.upto formulaResolvesSpec)) formulaResolvesUptoCard

/-- THE SECOND FORM's CARD OF 'arbaclaw18.FormulaSyntax'. -/
def formulaSyntaxUptoCard : Claim7 := { stood := { row := formulaSyntaxUptoRow, standIns := [], harness := (true, "a1940855496ed6e58c1d393c065c140db09cefe28d461f62e26f55f15e7b6683"), looks := true }, kinds := [], alts := [], laidByText := true, laidKinds := [.data, .data, .data], laidTests := true, laidLooks := .later }
def FormulaSyntaxUptoCardSaid : Prop := Claim7.holds Tryz.pinned (.plain (OpenSpec.upto formulaSyntaxSpec)) formulaSyntaxUptoCard

/-- THE SECOND FORM's CARD OF 'arbaclaw18.FormulaMentions'. -/
def formulaMentionsUptoCard : Claim7 := { stood := { row := formulaMentionsUptoRow, standIns := [], harness := (true, "a1940855496ed6e58c1d393c065c140db09cefe28d461f62e26f55f15e7b6683"), looks := true }, kinds := [], alts := [], laidByText := true, laidKinds := [.data, .data, .data], laidTests := true, laidLooks := .later }
def FormulaMentionsUptoCardSaid : Prop := Claim7.holds Tryz.pinned (.plain (OpenSpec.upto formulaMentionsSpec)) formulaMentionsUptoCard

/-- THE SECOND FORM's CARD OF 'arbaclaw18.FormulaBytes'. -/
def formulaBytesUptoCard : Claim7 := { stood := { row := formulaBytesUptoRow, standIns := [], harness := (true, "a1940855496ed6e58c1d393c065c140db09cefe28d461f62e26f55f15e7b6683"), looks := true }, kinds := [], alts := [], laidByText := true, laidKinds := [.data, .data, .data], laidTests := true, laidLooks := .later }
def FormulaBytesUptoCardSaid : Prop := Claim7.holds Tryz.pinned (.plain (OpenSpec.upto formulaBytesSpec)) formulaBytesUptoCard

/-- THE SECOND FORM's CARD OF 'arbaclaw18.FormulaReads'. -/
def formulaReadsUptoCard : Claim7 := { stood := { row := formulaReadsUptoRow, standIns := [], harness := (true, "a1940855496ed6e58c1d393c065c140db09cefe28d461f62e26f55f15e7b6683"), looks := true }, kinds := [], alts := [], laidByText := true, laidKinds := [.data, .data, .data], laidTests := true, laidLooks := .later }
def FormulaReadsUptoCardSaid : Prop := Claim7.holds Tryz.pinned (.plain (OpenSpec.upto formulaReadsSpec)) formulaReadsUptoCard

/-- THE SECOND FORM's CARD OF 'arbaclaw18.FormulaAll'. -/
def formulaAllUptoCard : Claim7 := { stood := { row := formulaAllUptoRow, standIns := [], harness := (true, "a1940855496ed6e58c1d393c065c140db09cefe28d461f62e26f55f15e7b6683"), looks := true }, kinds := [], alts := [], laidByText := true, laidKinds := [.data, .data, .data], laidTests := true, laidLooks := .later }
def FormulaAllUptoCardSaid : Prop := Claim7.holds Tryz.pinned (.plain (OpenSpec.upto formulaAllSpec)) formulaAllUptoCard
end Rows
end Go.Proofs.YtnpcilglilfajaaGreatDoor
