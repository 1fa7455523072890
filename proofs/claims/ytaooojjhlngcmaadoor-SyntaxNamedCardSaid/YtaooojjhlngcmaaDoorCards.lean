/-
  DERIVED. GIVEN WITH THE SEED: THE CARDS: each row of YtaooojjhlngcmaaDoorRows.lean that lists a variable, with what it lists TIED to the program's text (the seventh form; the later family's looks); each row that meets fmt, with fmt's text TOLD by the authors' own Lean function (tested against real Go, not proved from fmt's source: count such statements apart). THE CARD IS WHAT COUNTS. Prove the row's statement (the work); the ties are given (YtaooojjhlngcmaaDoorTie.lean); close each card by the builder's one call (the guide's Derived/Test/ToyasCard.lean, 'card_holds'). Laid BY PROGRAM, IN A SANDBOX (cutbox-door.mjs). By AI agents, Wed Nov 11 2026. No macro, syntax, notation, axiom, sorry.
-/
import Derived.Test.YtaooojjhlngcmaaDoorRows
import GoSem.ClaimSeven
namespace Go.Proofs.YtaooojjhlngcmaaDoor
namespace Rows

/-- THE TIED CARD OF 'arbaclaw16.SyntaxChecks'. -/
def syntaxChecksCard : Claim7 := { stood := { row := syntaxChecksRow, standIns := [], harness := (true, "60aa4e3069e7f96ccc0573dc2283e942bf09ac6dac206582595b8916a46a6793"), looks := true }, kinds := [], alts := [], laidByText := true, laidKinds := [.data, .data, .data], laidTests := true, laidLooks := .later }
def SyntaxChecksCardSaid : Prop := Claim7.holds Tryd.pinned (.plain (OpenSpec.ofChange syntaxChecksSpec)) syntaxChecksCard

/-- THE TIED CARD OF 'arbaclaw16.SyntaxSets'. -/
def syntaxSetsCard : Claim7 := { stood := { row := syntaxSetsRow, standIns := [], harness := (true, "60aa4e3069e7f96ccc0573dc2283e942bf09ac6dac206582595b8916a46a6793"), looks := true }, kinds := [], alts := [], laidByText := true, laidKinds := [.data, .data, .data], laidTests := true, laidLooks := .later }
def SyntaxSetsCardSaid : Prop := Claim7.holds Tryd.pinned (.plain (OpenSpec.ofChange syntaxSetsSpec)) syntaxSetsCard

/-- THE TIED CARD OF 'arbaclaw16.SyntaxMeasures'. -/
def syntaxMeasuresCard : Claim7 := { stood := { row := syntaxMeasuresRow, standIns := [], harness := (true, "60aa4e3069e7f96ccc0573dc2283e942bf09ac6dac206582595b8916a46a6793"), looks := true }, kinds := [], alts := [], laidByText := true, laidKinds := [.data, .data, .data], laidTests := true, laidLooks := .later }
def SyntaxMeasuresCardSaid : Prop := Claim7.holds Tryd.pinned (.plain (OpenSpec.ofChange syntaxMeasuresSpec)) syntaxMeasuresCard

/-- THE TIED CARD OF 'arbaclaw16.SyntaxPrints'. -/
def syntaxPrintsCard : Claim7 := { stood := { row := syntaxPrintsRow, standIns := [], harness := (true, "60aa4e3069e7f96ccc0573dc2283e942bf09ac6dac206582595b8916a46a6793"), looks := true }, kinds := [], alts := [], laidByText := true, laidKinds := [.data, .data, .data], laidTests := true, laidLooks := .later }
def SyntaxPrintsCardSaid : Prop := Claim7.holds Tryd.pinned (.plain (OpenSpec.ofChange syntaxPrintsSpec)) syntaxPrintsCard

/-- THE TIED CARD OF 'arbaclaw16.SyntaxTexts'. -/
def syntaxTextsCard : Claim7 := { stood := { row := syntaxTextsRow, standIns := [], harness := (true, "60aa4e3069e7f96ccc0573dc2283e942bf09ac6dac206582595b8916a46a6793"), looks := true }, kinds := [], alts := [], laidByText := true, laidKinds := [.data, .data, .data], laidTests := true, laidLooks := .later }
def SyntaxTextsCardSaid : Prop := Claim7.holds Tryd.pinned (.plain (OpenSpec.ofChange syntaxTextsSpec)) syntaxTextsCard

/-- THE TIED CARD OF 'arbaclaw16.SyntaxDeep'. -/
def syntaxDeepCard : Claim7 := { stood := { row := syntaxDeepRow, standIns := [], harness := (true, "60aa4e3069e7f96ccc0573dc2283e942bf09ac6dac206582595b8916a46a6793"), looks := true }, kinds := [], alts := [], laidByText := true, laidKinds := [.data, .data, .data], laidTests := true, laidLooks := .later }
def SyntaxDeepCardSaid : Prop := Claim7.holds Tryd.pinned (.plain (OpenSpec.ofChange syntaxDeepSpec)) syntaxDeepCard

/-- THE TIED CARD OF 'arbaclaw16.SyntaxEquals'. -/
def syntaxEqualsCard : Claim7 := { stood := { row := syntaxEqualsRow, standIns := [], harness := (true, "60aa4e3069e7f96ccc0573dc2283e942bf09ac6dac206582595b8916a46a6793"), looks := true }, kinds := [], alts := [], laidByText := true, laidKinds := [.data, .data, .data], laidTests := true, laidLooks := .later }
def SyntaxEqualsCardSaid : Prop := Claim7.holds Tryd.pinned (.plain (OpenSpec.ofChange syntaxEqualsSpec)) syntaxEqualsCard

/-- THE TIED CARD OF 'arbaclaw16.SyntaxNamed'. -/
def syntaxNamedCard : Claim7 := { stood := { row := syntaxNamedRow, standIns := [], harness := (true, "60aa4e3069e7f96ccc0573dc2283e942bf09ac6dac206582595b8916a46a6793"), looks := true }, kinds := [], alts := [], laidByText := true, laidKinds := [.data, .data, .data], laidTests := true, laidLooks := .later }
def SyntaxNamedCardSaid : Prop := Claim7.holds Tryd.pinned (.plain (OpenSpec.ofChange syntaxNamedSpec)) syntaxNamedCard

/-- THE SECOND FORM's CARD OF 'arbaclaw16.SyntaxChecks'. -/
def syntaxChecksUptoCard : Claim7 := { stood := { row := syntaxChecksUptoRow, standIns := [], harness := (true, "60aa4e3069e7f96ccc0573dc2283e942bf09ac6dac206582595b8916a46a6793"), looks := true }, kinds := [], alts := [], laidByText := true, laidKinds := [.data, .data, .data], laidTests := true, laidLooks := .later }
def SyntaxChecksUptoCardSaid : Prop := Claim7.holds Tryd.pinned (.plain (OpenSpec.upto syntaxChecksSpec)) syntaxChecksUptoCard

/-- THE SECOND FORM's CARD OF 'arbaclaw16.SyntaxSets'. -/
def syntaxSetsUptoCard : Claim7 := { stood := { row := syntaxSetsUptoRow, standIns := [], harness := (true, "60aa4e3069e7f96ccc0573dc2283e942bf09ac6dac206582595b8916a46a6793"), looks := true }, kinds := [], alts := [], laidByText := true, laidKinds := [.data, .data, .data], laidTests := true, laidLooks := .later }
def SyntaxSetsUptoCardSaid : Prop := Claim7.holds Tryd.pinned (.plain (OpenSpec.upto syntaxSetsSpec)) syntaxSetsUptoCard

/-- THE SECOND FORM's CARD OF 'arbaclaw16.SyntaxMeasures'. -/
def syntaxMeasuresUptoCard : Claim7 := { stood := { row := syntaxMeasuresUptoRow, standIns := [], harness := (true, "60aa4e3069e7f96ccc0573dc2283e942bf09ac6dac206582595b8916a46a6793"), looks := true }, kinds := [], alts := [], laidByText := true, laidKinds := [.data, .data, .data], laidTests := true, laidLooks := .later }
def SyntaxMeasuresUptoCardSaid : Prop := Claim7.holds Tryd.pinned (.plain (OpenSpec.upto syntaxMeasuresSpec)) syntaxMeasuresUptoCard

/-- THE SECOND FORM's CARD OF 'arbaclaw16.SyntaxPrints'. -/
def syntaxPrintsUptoCard : Claim7 := { stood := { row := syntaxPrintsUptoRow, standIns := [], harness := (true, "60aa4e3069e7f96ccc0573dc2283e942bf09ac6dac206582595b8916a46a6793"), looks := true }, kinds := [], alts := [], laidByText := true, laidKinds := [.data, .data, .data], laidTests := true, laidLooks := .later }
def SyntaxPrintsUptoCardSaid : Prop := Claim7.holds Tryd.pinned (.plain (OpenSpec.upto syntaxPrintsSpec)) syntaxPrintsUptoCard

/-- THE SECOND FORM's CARD OF 'arbaclaw16.SyntaxTexts'. -/
def syntaxTextsUptoCard : Claim7 := { stood := { row := syntaxTextsUptoRow, standIns := [], harness := (true, "60aa4e3069e7f96ccc0573dc2283e942bf09ac6dac206582595b8916a46a6793"), looks := true }, kinds := [], alts := [], laidByText := true, laidKinds := [.data, .data, .data], laidTests := true, laidLooks := .later }
def SyntaxTextsUptoCardSaid : Prop := Claim7.holds Tryd.pinned (.plain (OpenSpec.upto syntaxTextsSpec)) syntaxTextsUptoCard

/-- THE SECOND FORM's CARD OF 'arbaclaw16.SyntaxDeep'. -/
def syntaxDeepUptoCard : Claim7 := { stood := { row := syntaxDeepUptoRow, standIns := [], harness := (true, "60aa4e3069e7f96ccc0573dc2283e942bf09ac6dac206582595b8916a46a6793"), looks := true }, kinds := [], alts := [], laidByText := true, laidKinds := [.data, .data, .data], laidTests := true, laidLooks := .later }
def SyntaxDeepUptoCardSaid : Prop := Claim7.holds Tryd.pinned (.plain (OpenSpec.upto syntaxDeepSpec)) syntaxDeepUptoCard

/-- THE SECOND FORM's CARD OF 'arbaclaw16.SyntaxEquals'. -/
def syntaxEqualsUptoCard : Claim7 := { stood := { row := syntaxEqualsUptoRow, standIns := [], harness := (true, "60aa4e3069e7f96ccc0573dc2283e942bf09ac6dac206582595b8916a46a6793"), looks := true }, kinds := [], alts := [], laidByText := true, laidKinds := [.data, .data, .data], laidTests := true, laidLooks := .later }
def SyntaxEqualsUptoCardSaid : Prop := Claim7.holds Tryd.pinned (.plain (OpenSpec.upto syntaxEqualsSpec)) syntaxEqualsUptoCard

/-- THE SECOND FORM's CARD OF 'arbaclaw16.SyntaxNamed'. -/
def syntaxNamedUptoCard : Claim7 := { stood := { row := syntaxNamedUptoRow, standIns := [], harness := (true, "60aa4e3069e7f96ccc0573dc2283e942bf09ac6dac206582595b8916a46a6793"), looks := true }, kinds := [], alts := [], laidByText := true, laidKinds := [.data, .data, .data], laidTests := true, laidLooks := .later }
def SyntaxNamedUptoCardSaid : Prop := Claim7.holds Tryd.pinned (.plain (OpenSpec.upto syntaxNamedSpec)) syntaxNamedUptoCard
end Rows
end Go.Proofs.YtaooojjhlngcmaaDoor
