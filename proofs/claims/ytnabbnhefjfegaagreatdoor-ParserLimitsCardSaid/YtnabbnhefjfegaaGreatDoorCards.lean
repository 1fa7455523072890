/-
  DERIVED. GIVEN WITH THE SEED: THE CARDS: each row of YtnabbnhefjfegaaGreatDoorRows.lean that lists a variable, with what it lists TIED to the program's text (the seventh form; the later family's looks); each row that meets fmt, with fmt's text TOLD by the authors' own Lean function (tested against real Go, not proved from fmt's source: count such statements apart). THE CARD IS WHAT COUNTS. Prove the row's statement (the work); the ties are given (YtnabbnhefjfegaaGreatDoorTie.lean); close each card by the builder's one call (the guide's Derived/Test/ToyasCard.lean, 'card_holds'). Laid BY PROGRAM, IN A SANDBOX (cutbox-door.mjs). By AI agents, Wed Nov 11 2026. No macro, syntax, notation, axiom, sorry.
-/
import Derived.Test.YtnabbnhefjfegaaGreatDoorRows
import GoSem.ClaimSeven
namespace Go.Proofs.YtnabbnhefjfegaaGreatDoor
namespace Rows

/-- THE TIED CARD OF 'arbaclaw17.ParserEnds'. -/
def parserEndsCard : Claim7 := { stood := { row := parserEndsRow, standIns := [], harness := (true, "d477f66c3e5f7fb4bcb461809827b860a498a4e4cc3ee3b29f0beeaecbb6eda0"), looks := false }, kinds := [], alts := [], laidByText := true, laidKinds := [.data, .data, .data], laidTests := true, laidLooks := .later }
def ParserEndsCardSaid : Prop := Claim7.holds Tryz.pinned (.plain (OpenSpec.ofChange parserEndsSpec)) parserEndsCard

/-- THE TIED CARD OF 'arbaclaw17.ParserExprs'. -/
def parserExprsCard : Claim7 := { stood := { row := parserExprsRow, standIns := [], harness := (true, "d477f66c3e5f7fb4bcb461809827b860a498a4e4cc3ee3b29f0beeaecbb6eda0"), looks := false }, kinds := [], alts := [], laidByText := true, laidKinds := [.data, .data, .data], laidTests := true, laidLooks := .later }
def ParserExprsCardSaid : Prop := Claim7.holds Tryz.pinned (.plain (OpenSpec.ofChange parserExprsSpec)) parserExprsCard

/-- THE TIED CARD OF 'arbaclaw17.ParserBack'. -/
def parserBackCard : Claim7 := { stood := { row := parserBackRow, standIns := [], harness := (true, "d477f66c3e5f7fb4bcb461809827b860a498a4e4cc3ee3b29f0beeaecbb6eda0"), looks := false }, kinds := [], alts := [], laidByText := true, laidKinds := [.data, .data, .data], laidTests := true, laidLooks := .later }
def ParserBackCardSaid : Prop := Claim7.holds Tryz.pinned (.plain (OpenSpec.ofChange parserBackSpec)) parserBackCard

/-- THE TIED CARD OF 'arbaclaw17.ParserParens'. -/
def parserParensCard : Claim7 := { stood := { row := parserParensRow, standIns := [], harness := (true, "d477f66c3e5f7fb4bcb461809827b860a498a4e4cc3ee3b29f0beeaecbb6eda0"), looks := false }, kinds := [], alts := [], laidByText := true, laidKinds := [.data, .data, .data], laidTests := true, laidLooks := .later }
def ParserParensCardSaid : Prop := Claim7.holds Tryz.pinned (.plain (OpenSpec.ofChange parserParensSpec)) parserParensCard

/-- THE TIED CARD OF 'arbaclaw17.ParserSources'. -/
def parserSourcesCard : Claim7 := { stood := { row := parserSourcesRow, standIns := [], harness := (true, "d477f66c3e5f7fb4bcb461809827b860a498a4e4cc3ee3b29f0beeaecbb6eda0"), looks := false }, kinds := [], alts := [], laidByText := true, laidKinds := [.data, .data, .data], laidTests := true, laidLooks := .later }
def ParserSourcesCardSaid : Prop := Claim7.holds Tryz.pinned (.plain (OpenSpec.ofChange parserSourcesSpec)) parserSourcesCard

/-- THE TIED CARD OF 'arbaclaw17.ParserBlanks'. -/
def parserBlanksCard : Claim7 := { stood := { row := parserBlanksRow, standIns := [], harness := (true, "d477f66c3e5f7fb4bcb461809827b860a498a4e4cc3ee3b29f0beeaecbb6eda0"), looks := false }, kinds := [], alts := [], laidByText := true, laidKinds := [.data, .data, .data], laidTests := true, laidLooks := .later }
def ParserBlanksCardSaid : Prop := Claim7.holds Tryz.pinned (.plain (OpenSpec.ofChange parserBlanksSpec)) parserBlanksCard

/-- THE TIED CARD OF 'arbaclaw17.ParserSets'. -/
def parserSetsCard : Claim7 := { stood := { row := parserSetsRow, standIns := [], harness := (true, "d477f66c3e5f7fb4bcb461809827b860a498a4e4cc3ee3b29f0beeaecbb6eda0"), looks := false }, kinds := [], alts := [], laidByText := true, laidKinds := [.data, .data, .data], laidTests := true, laidLooks := .later }
def ParserSetsCardSaid : Prop := Claim7.holds Tryz.pinned (.plain (OpenSpec.ofChange parserSetsSpec)) parserSetsCard

/-- THE TIED CARD OF 'arbaclaw17.ParserJoins'. -/
def parserJoinsCard : Claim7 := { stood := { row := parserJoinsRow, standIns := [], harness := (true, "d477f66c3e5f7fb4bcb461809827b860a498a4e4cc3ee3b29f0beeaecbb6eda0"), looks := false }, kinds := [], alts := [], laidByText := true, laidKinds := [.data, .data, .data], laidTests := true, laidLooks := .later }
def ParserJoinsCardSaid : Prop := Claim7.holds Tryz.pinned (.plain (OpenSpec.ofChange parserJoinsSpec)) parserJoinsCard

/-- THE TIED CARD OF 'arbaclaw17.ParserLimits'. -/
def parserLimitsCard : Claim7 := { stood := { row := parserLimitsRow, standIns := [], harness := (true, "d477f66c3e5f7fb4bcb461809827b860a498a4e4cc3ee3b29f0beeaecbb6eda0"), looks := false }, kinds := [], alts := [], laidByText := true, laidKinds := [.data, .data, .data], laidTests := true, laidLooks := .later }
def ParserLimitsCardSaid : Prop := Claim7.holds Tryz.pinned (.plain (OpenSpec.ofChange parserLimitsSpec)) parserLimitsCard

/-- THE SECOND FORM's CARD OF 'arbaclaw17.ParserEnds'. -/
def parserEndsUptoCard : Claim7 := { stood := { row := parserEndsUptoRow, standIns := [], harness := (true, "d477f66c3e5f7fb4bcb461809827b860a498a4e4cc3ee3b29f0beeaecbb6eda0"), looks := false }, kinds := [], alts := [], laidByText := true, laidKinds := [.data, .data, .data], laidTests := true, laidLooks := .later }
def ParserEndsUptoCardSaid : Prop := Claim7.holds Tryz.pinned (.plain (OpenSpec.upto parserEndsSpec)) parserEndsUptoCard

/-- THE SECOND FORM's CARD OF 'arbaclaw17.ParserExprs'. -/
def parserExprsUptoCard : Claim7 := { stood := { row := parserExprsUptoRow, standIns := [], harness := (true, "d477f66c3e5f7fb4bcb461809827b860a498a4e4cc3ee3b29f0beeaecbb6eda0"), looks := false }, kinds := [], alts := [], laidByText := true, laidKinds := [.data, .data, .data], laidTests := true, laidLooks := .later }
def ParserExprsUptoCardSaid : Prop := Claim7.holds Tryz.pinned (.plain (OpenSpec.upto parserExprsSpec)) parserExprsUptoCard

/-- THE SECOND FORM's CARD OF 'arbaclaw17.ParserBack'. -/
def parserBackUptoCard : Claim7 := { stood := { row := parserBackUptoRow, standIns := [], harness := (true, "d477f66c3e5f7fb4bcb461809827b860a498a4e4cc3ee3b29f0beeaecbb6eda0"), looks := false }, kinds := [], alts := [], laidByText := true, laidKinds := [.data, .data, .data], laidTests := true, laidLooks := .later }
def ParserBackUptoCardSaid : Prop := Claim7.holds Tryz.pinned (.plain (OpenSpec.upto parserBackSpec)) parserBackUptoCard

/-- THE SECOND FORM's CARD OF 'arbaclaw17.ParserParens'. -/
def parserParensUptoCard : Claim7 := { stood := { row := parserParensUptoRow, standIns := [], harness := (true, "d477f66c3e5f7fb4bcb461809827b860a498a4e4cc3ee3b29f0beeaecbb6eda0"), looks := false }, kinds := [], alts := [], laidByText := true, laidKinds := [.data, .data, .data], laidTests := true, laidLooks := .later }
def ParserParensUptoCardSaid : Prop := Claim7.holds Tryz.pinned (.plain (OpenSpec.upto parserParensSpec)) parserParensUptoCard

/-- THE SECOND FORM's CARD OF 'arbaclaw17.ParserSources'. -/
def parserSourcesUptoCard : Claim7 := { stood := { row := parserSourcesUptoRow, standIns := [], harness := (true, "d477f66c3e5f7fb4bcb461809827b860a498a4e4cc3ee3b29f0beeaecbb6eda0"), looks := false }, kinds := [], alts := [], laidByText := true, laidKinds := [.data, .data, .data], laidTests := true, laidLooks := .later }
def ParserSourcesUptoCardSaid : Prop := Claim7.holds Tryz.pinned (.plain (OpenSpec.upto parserSourcesSpec)) parserSourcesUptoCard

/-- THE SECOND FORM's CARD OF 'arbaclaw17.ParserBlanks'. -/
def parserBlanksUptoCard : Claim7 := { stood := { row := parserBlanksUptoRow, standIns := [], harness := (true, "d477f66c3e5f7fb4bcb461809827b860a498a4e4cc3ee3b29f0beeaecbb6eda0"), looks := false }, kinds := [], alts := [], laidByText := true, laidKinds := [.data, .data, .data], laidTests := true, laidLooks := .later }
def ParserBlanksUptoCardSaid : Prop := Claim7.holds Tryz.pinned (.plain (OpenSpec.upto parserBlanksSpec)) parserBlanksUptoCard

/-- THE SECOND FORM's CARD OF 'arbaclaw17.ParserSets'. -/
def parserSetsUptoCard : Claim7 := { stood := { row := parserSetsUptoRow, standIns := [], harness := (true, "d477f66c3e5f7fb4bcb461809827b860a498a4e4cc3ee3b29f0beeaecbb6eda0"), looks := false }, kinds := [], alts := [], laidByText := true, laidKinds := [.data, .data, .data], laidTests := true, laidLooks := .later }
def ParserSetsUptoCardSaid : Prop := Claim7.holds Tryz.pinned (.plain (OpenSpec.upto parserSetsSpec)) parserSetsUptoCard

/-- THE SECOND FORM's CARD OF 'arbaclaw17.ParserJoins'. -/
def parserJoinsUptoCard : Claim7 := { stood := { row := parserJoinsUptoRow, standIns := [], harness := (true, "d477f66c3e5f7fb4bcb461809827b860a498a4e4cc3ee3b29f0beeaecbb6eda0"), looks := false }, kinds := [], alts := [], laidByText := true, laidKinds := [.data, .data, .data], laidTests := true, laidLooks := .later }
def ParserJoinsUptoCardSaid : Prop := Claim7.holds Tryz.pinned (.plain (OpenSpec.upto parserJoinsSpec)) parserJoinsUptoCard

/-- THE SECOND FORM's CARD OF 'arbaclaw17.ParserLimits'. -/
def parserLimitsUptoCard : Claim7 := { stood := { row := parserLimitsUptoRow, standIns := [], harness := (true, "d477f66c3e5f7fb4bcb461809827b860a498a4e4cc3ee3b29f0beeaecbb6eda0"), looks := false }, kinds := [], alts := [], laidByText := true, laidKinds := [.data, .data, .data], laidTests := true, laidLooks := .later }
def ParserLimitsUptoCardSaid : Prop := Claim7.holds Tryz.pinned (.plain (OpenSpec.upto parserLimitsSpec)) parserLimitsUptoCard
end Rows
end Go.Proofs.YtnabbnhefjfegaaGreatDoor
