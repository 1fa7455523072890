/-
  DERIVED. GIVEN WITH THE SEED: THE CARDS: each row of YtkmnlogacfkjmaaDoorRows.lean that lists a variable, with what it lists TIED to the program's text (the seventh form; the later family's looks); each row that meets fmt, with fmt's text TOLD by the authors' own Lean function (tested against real Go, not proved from fmt's source: count such statements apart). THE CARD IS WHAT COUNTS. Prove the row's statement (the work); the ties are given (YtkmnlogacfkjmaaDoorTie.lean); close each card by the builder's one call (the guide's Derived/Test/ToyasCard.lean, 'card_holds'). Laid BY PROGRAM, IN A SANDBOX (cutbox-door.mjs). By AI agents, Wed Nov 11 2026. No macro, syntax, notation, axiom, sorry.
-/
import Derived.Test.YtkmnlogacfkjmaaDoorRows
import GoSem.ClaimSeven
namespace Go.Proofs.YtkmnlogacfkjmaaDoor
namespace Rows

/-- THE TIED CARD OF 'arbaclaw12.MembershipOrder'. -/
def membershipOrderCard : Claim7 := { stood := { row := membershipOrderRow, standIns := [], harness := (true, "c4c1e7c8042507f1bf0888bf3c2c93bda17b1ebeed581f1dbfab6128673ff737"), looks := false }, kinds := [], alts := [], laidByText := true, laidKinds := [.data, .data, .data], laidTests := true, laidLooks := .later }
def MembershipOrderCardSaid : Prop := Claim7.holds Tryd.pinned (.plain (OpenSpec.ofChange membershipOrderSpec)) membershipOrderCard

/-- THE TIED CARD OF 'arbaclaw12.MembershipEnds'. -/
def membershipEndsCard : Claim7 := { stood := { row := membershipEndsRow, standIns := [], harness := (true, "c4c1e7c8042507f1bf0888bf3c2c93bda17b1ebeed581f1dbfab6128673ff737"), looks := false }, kinds := [], alts := [], laidByText := true, laidKinds := [.data, .data, .data], laidTests := true, laidLooks := .later }
def MembershipEndsCardSaid : Prop := Claim7.holds Tryd.pinned (.plain (OpenSpec.ofChange membershipEndsSpec)) membershipEndsCard

/-- THE TIED CARD OF 'arbaclaw12.MembershipReplaces'. -/
def membershipReplacesCard : Claim7 := { stood := { row := membershipReplacesRow, standIns := [], harness := (true, "c4c1e7c8042507f1bf0888bf3c2c93bda17b1ebeed581f1dbfab6128673ff737"), looks := false }, kinds := [], alts := [], laidByText := true, laidKinds := [.data, .data, .data], laidTests := true, laidLooks := .later }
def MembershipReplacesCardSaid : Prop := Claim7.holds Tryd.pinned (.plain (OpenSpec.ofChange membershipReplacesSpec)) membershipReplacesCard

/-- THE TIED CARD OF 'arbaclaw12.MembershipExpires'. -/
def membershipExpiresCard : Claim7 := { stood := { row := membershipExpiresRow, standIns := [], harness := (true, "c4c1e7c8042507f1bf0888bf3c2c93bda17b1ebeed581f1dbfab6128673ff737"), looks := false }, kinds := [], alts := [], laidByText := true, laidKinds := [.data, .data, .data], laidTests := true, laidLooks := .later }
def MembershipExpiresCardSaid : Prop := Claim7.holds Tryd.pinned (.plain (OpenSpec.ofChange membershipExpiresSpec)) membershipExpiresCard

/-- THE TIED CARD OF 'arbaclaw12.MembershipPlays'. -/
def membershipPlaysCard : Claim7 := { stood := { row := membershipPlaysRow, standIns := [], harness := (true, "c4c1e7c8042507f1bf0888bf3c2c93bda17b1ebeed581f1dbfab6128673ff737"), looks := false }, kinds := [], alts := [], laidByText := true, laidKinds := [.data, .data, .data], laidTests := true, laidLooks := .later }
def MembershipPlaysCardSaid : Prop := Claim7.holds Tryd.pinned (.plain (OpenSpec.ofChange membershipPlaysSpec)) membershipPlaysCard

/-- THE TIED CARD OF 'arbaclaw12.MembershipDays'. -/
def membershipDaysCard : Claim7 := { stood := { row := membershipDaysRow, standIns := [], harness := (true, "c4c1e7c8042507f1bf0888bf3c2c93bda17b1ebeed581f1dbfab6128673ff737"), looks := false }, kinds := [], alts := [], laidByText := true, laidKinds := [.data, .data, .data], laidTests := true, laidLooks := .later }
def MembershipDaysCardSaid : Prop := Claim7.holds Tryd.pinned (.plain (OpenSpec.ofChange membershipDaysSpec)) membershipDaysCard

/-- THE TIED CARD OF 'arbaclaw12.MembershipNil'. -/
def membershipNilCard : Claim7 := { stood := { row := membershipNilRow, standIns := [], harness := (true, "c4c1e7c8042507f1bf0888bf3c2c93bda17b1ebeed581f1dbfab6128673ff737"), looks := false }, kinds := [], alts := [], laidByText := true, laidKinds := [.data, .data, .data], laidTests := true, laidLooks := .later }
def MembershipNilCardSaid : Prop := Claim7.holds Tryd.pinned (.plain (OpenSpec.ofChange membershipNilSpec)) membershipNilCard

/-- THE TIED CARD OF 'arbaclaw12.MembershipReads'. -/
def membershipReadsCard : Claim7 := { stood := { row := membershipReadsRow, standIns := [], harness := (true, "c4c1e7c8042507f1bf0888bf3c2c93bda17b1ebeed581f1dbfab6128673ff737"), looks := false }, kinds := [], alts := [], laidByText := true, laidKinds := [.data, .data, .data], laidTests := true, laidLooks := .later }
def MembershipReadsCardSaid : Prop := Claim7.holds Tryd.pinned (.plain (OpenSpec.ofChange membershipReadsSpec)) membershipReadsCard

/-- THE TIED CARD OF 'arbaclaw12.MembershipBytes'. -/
def membershipBytesCard : Claim7 := { stood := { row := membershipBytesRow, standIns := [], harness := (true, "c4c1e7c8042507f1bf0888bf3c2c93bda17b1ebeed581f1dbfab6128673ff737"), looks := false }, kinds := [], alts := [], laidByText := true, laidKinds := [.data, .data, .data], laidTests := true, laidLooks := .later }
def MembershipBytesCardSaid : Prop := Claim7.holds Tryd.pinned (.plain (OpenSpec.ofChange membershipBytesSpec)) membershipBytesCard

/-- THE SECOND FORM's CARD OF 'arbaclaw12.MembershipOrder'. -/
def membershipOrderUptoCard : Claim7 := { stood := { row := membershipOrderUptoRow, standIns := [], harness := (true, "c4c1e7c8042507f1bf0888bf3c2c93bda17b1ebeed581f1dbfab6128673ff737"), looks := false }, kinds := [], alts := [], laidByText := true, laidKinds := [.data, .data, .data], laidTests := true, laidLooks := .later }
def MembershipOrderUptoCardSaid : Prop := Claim7.holds Tryd.pinned (.plain (OpenSpec.upto membershipOrderSpec)) membershipOrderUptoCard

/-- THE SECOND FORM's CARD OF 'arbaclaw12.MembershipEnds'. -/
def membershipEndsUptoCard : Claim7 := { stood := { row := membershipEndsUptoRow, standIns := [], harness := (true, "c4c1e7c8042507f1bf0888bf3c2c93bda17b1ebeed581f1dbfab6128673ff737"), looks := false }, kinds := [], alts := [], laidByText := true, laidKinds := [.data, .data, .data], laidTests := true, laidLooks := .later }
def MembershipEndsUptoCardSaid : Prop := Claim7.holds Tryd.pinned (.plain (OpenSpec.upto membershipEndsSpec)) membershipEndsUptoCard

/-- THE SECOND FORM's CARD OF 'arbaclaw12.MembershipReplaces'. -/
def membershipReplacesUptoCard : Claim7 := { stood := { row := membershipReplacesUptoRow, standIns := [], harness := (true, "c4c1e7c8042507f1bf0888bf3c2c93bda17b1ebeed581f1dbfab6128673ff737"), looks := false }, kinds := [], alts := [], laidByText := true, laidKinds := [.data, .data, .data], laidTests := true, laidLooks := .later }
def MembershipReplacesUptoCardSaid : Prop := Claim7.holds Tryd.pinned (.plain (OpenSpec.upto membershipReplacesSpec)) membershipReplacesUptoCard

/-- THE SECOND FORM's CARD OF 'arbaclaw12.MembershipExpires'. -/
def membershipExpiresUptoCard : Claim7 := { stood := { row := membershipExpiresUptoRow, standIns := [], harness := (true, "c4c1e7c8042507f1bf0888bf3c2c93bda17b1ebeed581f1dbfab6128673ff737"), looks := false }, kinds := [], alts := [], laidByText := true, laidKinds := [.data, .data, .data], laidTests := true, laidLooks := .later }
def MembershipExpiresUptoCardSaid : Prop := Claim7.holds Tryd.pinned (.plain (OpenSpec.upto membershipExpiresSpec)) membershipExpiresUptoCard

/-- THE SECOND FORM's CARD OF 'arbaclaw12.MembershipPlays'. -/
def membershipPlaysUptoCard : Claim7 := { stood := { row := membershipPlaysUptoRow, standIns := [], harness := (true, "c4c1e7c8042507f1bf0888bf3c2c93bda17b1ebeed581f1dbfab6128673ff737"), looks := false }, kinds := [], alts := [], laidByText := true, laidKinds := [.data, .data, .data], laidTests := true, laidLooks := .later }
def MembershipPlaysUptoCardSaid : Prop := Claim7.holds Tryd.pinned (.plain (OpenSpec.upto membershipPlaysSpec)) membershipPlaysUptoCard

/-- THE SECOND FORM's CARD OF 'arbaclaw12.MembershipDays'. -/
def membershipDaysUptoCard : Claim7 := { stood := { row := membershipDaysUptoRow, standIns := [], harness := (true, "c4c1e7c8042507f1bf0888bf3c2c93bda17b1ebeed581f1dbfab6128673ff737"), looks := false }, kinds := [], alts := [], laidByText := true, laidKinds := [.data, .data, .data], laidTests := true, laidLooks := .later }
def MembershipDaysUptoCardSaid : Prop := Claim7.holds Tryd.pinned (.plain (OpenSpec.upto membershipDaysSpec)) membershipDaysUptoCard

/-- THE SECOND FORM's CARD OF 'arbaclaw12.MembershipNil'. -/
def membershipNilUptoCard : Claim7 := { stood := { row := membershipNilUptoRow, standIns := [], harness := (true, "c4c1e7c8042507f1bf0888bf3c2c93bda17b1ebeed581f1dbfab6128673ff737"), looks := false }, kinds := [], alts := [], laidByText := true, laidKinds := [.data, .data, .data], laidTests := true, laidLooks := .later }
def MembershipNilUptoCardSaid : Prop := Claim7.holds Tryd.pinned (.plain (OpenSpec.upto membershipNilSpec)) membershipNilUptoCard

/-- THE SECOND FORM's CARD OF 'arbaclaw12.MembershipReads'. -/
def membershipReadsUptoCard : Claim7 := { stood := { row := membershipReadsUptoRow, standIns := [], harness := (true, "c4c1e7c8042507f1bf0888bf3c2c93bda17b1ebeed581f1dbfab6128673ff737"), looks := false }, kinds := [], alts := [], laidByText := true, laidKinds := [.data, .data, .data], laidTests := true, laidLooks := .later }
def MembershipReadsUptoCardSaid : Prop := Claim7.holds Tryd.pinned (.plain (OpenSpec.upto membershipReadsSpec)) membershipReadsUptoCard

/-- THE SECOND FORM's CARD OF 'arbaclaw12.MembershipBytes'. -/
def membershipBytesUptoCard : Claim7 := { stood := { row := membershipBytesUptoRow, standIns := [], harness := (true, "c4c1e7c8042507f1bf0888bf3c2c93bda17b1ebeed581f1dbfab6128673ff737"), looks := false }, kinds := [], alts := [], laidByText := true, laidKinds := [.data, .data, .data], laidTests := true, laidLooks := .later }
def MembershipBytesUptoCardSaid : Prop := Claim7.holds Tryd.pinned (.plain (OpenSpec.upto membershipBytesSpec)) membershipBytesUptoCard
end Rows
end Go.Proofs.YtkmnlogacfkjmaaDoor
