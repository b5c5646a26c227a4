/-
  DERIVED. GIVEN WITH THE SEED: THE CARDS: each row of YthnpngefpbijkaaDoorRows.lean that lists a variable, with what it lists TIED to the program's text (the seventh form; the later family's looks); each row that meets fmt, with fmt's text TOLD by the authors' own Lean function (tested against real Go, not proved from fmt's source: count such statements apart). THE CARD IS WHAT COUNTS. Prove the row's statement (the work); the ties are given (YthnpngefpbijkaaDoorTie.lean); close each card by the builder's one call (the guide's Derived/Test/ToyasCard.lean, 'card_holds'). Laid BY PROGRAM, IN A SANDBOX (cutbox-door.mjs). By AI agents, Wed Nov 11 2026. No macro, syntax, notation, axiom, sorry.
-/
import Derived.Test.YthnpngefpbijkaaDoorRows
import GoSem.ClaimSeven
namespace Go.Proofs.YthnpngefpbijkaaDoor
namespace Rows

/-- THE TIED CARD OF 'barrowlaw12.MessageReads'. -/
def messageReadsCard : Claim7 := { stood := { row := messageReadsRow, standIns := [], harness := (true, "d96623db5fd51c46e378b473ed02856678037baba6cc78c948336f7605278a1e"), looks := false }, kinds := [], alts := [], laidByText := true, laidKinds := [.data, .pinned], laidTests := true, laidLooks := .later }
def MessageReadsCardSaid : Prop := Claim7.holds Tryd.pinned (.plain (OpenSpec.ofChange messageReadsSpec)) messageReadsCard

/-- THE TIED CARD OF 'barrowlaw12.MessageBack'. -/
def messageBackCard : Claim7 := { stood := { row := messageBackRow, standIns := [], harness := (true, "d96623db5fd51c46e378b473ed02856678037baba6cc78c948336f7605278a1e"), looks := false }, kinds := [], alts := [], laidByText := true, laidKinds := [.data, .pinned], laidTests := true, laidLooks := .later }
def MessageBackCardSaid : Prop := Claim7.holds Tryd.pinned (.plain (OpenSpec.ofChange messageBackSpec)) messageBackCard

/-- THE TIED CARD OF 'barrowlaw37.LockTells'. -/
def lockTellsCard : Claim7 := { stood := { row := lockTellsRow, standIns := [], harness := (true, "d96623db5fd51c46e378b473ed02856678037baba6cc78c948336f7605278a1e"), looks := false }, kinds := [], alts := [], laidByText := true, laidKinds := [.data, .pinned], laidTests := true, laidLooks := .later }
def LockTellsCardSaid : Prop := Claim7.holds Tryd.pinned (.plain (OpenSpec.ofChange lockTellsSpec)) lockTellsCard

/-- THE TIED CARD OF 'barrowlaw37.LockHolds'. -/
def lockHoldsCard : Claim7 := { stood := { row := lockHoldsRow, standIns := [], harness := (true, "d96623db5fd51c46e378b473ed02856678037baba6cc78c948336f7605278a1e"), looks := false }, kinds := [], alts := [], laidByText := true, laidKinds := [.data, .pinned], laidTests := true, laidLooks := .later }
def LockHoldsCardSaid : Prop := Claim7.holds Tryd.pinned (.plain (OpenSpec.ofChange lockHoldsSpec)) lockHoldsCard

/-- THE TIED CARD OF 'barrowlaw37.LockJoins'. -/
def lockJoinsCard : Claim7 := { stood := { row := lockJoinsRow, standIns := [], harness := (true, "d96623db5fd51c46e378b473ed02856678037baba6cc78c948336f7605278a1e"), looks := false }, kinds := [], alts := [], laidByText := true, laidKinds := [.data, .pinned], laidTests := true, laidLooks := .later }
def LockJoinsCardSaid : Prop := Claim7.holds Tryd.pinned (.plain (OpenSpec.ofChange lockJoinsSpec)) lockJoinsCard

/-- THE TIED CARD OF 'barrowlaw37.LockBoth'. -/
def lockBothCard : Claim7 := { stood := { row := lockBothRow, standIns := [], harness := (true, "d96623db5fd51c46e378b473ed02856678037baba6cc78c948336f7605278a1e"), looks := false }, kinds := [], alts := [], laidByText := true, laidKinds := [.data, .pinned], laidTests := true, laidLooks := .later }
def LockBothCardSaid : Prop := Claim7.holds Tryd.pinned (.plain (OpenSpec.ofChange lockBothSpec)) lockBothCard

/-- THE TIED CARD OF 'barrowlaw25.ViewFollows'. -/
def viewFollowsCard : Claim7 := { stood := { row := viewFollowsRow, standIns := [], harness := (true, "d96623db5fd51c46e378b473ed02856678037baba6cc78c948336f7605278a1e"), looks := false }, kinds := [], alts := [], laidByText := true, laidKinds := [.data, .pinned], laidTests := true, laidLooks := .later }
def ViewFollowsCardSaid : Prop := Claim7.holds Tryd.pinned (.plain (OpenSpec.ofChange viewFollowsSpec)) viewFollowsCard

/-- THE TIED CARD OF 'barrowlaw25.ViewStays'. -/
def viewStaysCard : Claim7 := { stood := { row := viewStaysRow, standIns := [], harness := (true, "d96623db5fd51c46e378b473ed02856678037baba6cc78c948336f7605278a1e"), looks := false }, kinds := [], alts := [], laidByText := true, laidKinds := [.data, .pinned], laidTests := true, laidLooks := .later }
def ViewStaysCardSaid : Prop := Claim7.holds Tryd.pinned (.plain (OpenSpec.ofChange viewStaysSpec)) viewStaysCard

/-- THE SECOND FORM's CARD OF 'barrowlaw12.MessageReads'. -/
def messageReadsUptoCard : Claim7 := { stood := { row := messageReadsUptoRow, standIns := [], harness := (true, "d96623db5fd51c46e378b473ed02856678037baba6cc78c948336f7605278a1e"), looks := false }, kinds := [], alts := [], laidByText := true, laidKinds := [.data, .pinned], laidTests := true, laidLooks := .later }
def MessageReadsUptoCardSaid : Prop := Claim7.holds Tryd.pinned (.plain (OpenSpec.upto messageReadsSpec)) messageReadsUptoCard

/-- THE SECOND FORM's CARD OF 'barrowlaw12.MessageBack'. -/
def messageBackUptoCard : Claim7 := { stood := { row := messageBackUptoRow, standIns := [], harness := (true, "d96623db5fd51c46e378b473ed02856678037baba6cc78c948336f7605278a1e"), looks := false }, kinds := [], alts := [], laidByText := true, laidKinds := [.data, .pinned], laidTests := true, laidLooks := .later }
def MessageBackUptoCardSaid : Prop := Claim7.holds Tryd.pinned (.plain (OpenSpec.upto messageBackSpec)) messageBackUptoCard

/-- THE SECOND FORM's CARD OF 'barrowlaw37.LockTells'. -/
def lockTellsUptoCard : Claim7 := { stood := { row := lockTellsUptoRow, standIns := [], harness := (true, "d96623db5fd51c46e378b473ed02856678037baba6cc78c948336f7605278a1e"), looks := false }, kinds := [], alts := [], laidByText := true, laidKinds := [.data, .pinned], laidTests := true, laidLooks := .later }
def LockTellsUptoCardSaid : Prop := Claim7.holds Tryd.pinned (.plain (OpenSpec.upto lockTellsSpec)) lockTellsUptoCard

/-- THE SECOND FORM's CARD OF 'barrowlaw37.LockHolds'. -/
def lockHoldsUptoCard : Claim7 := { stood := { row := lockHoldsUptoRow, standIns := [], harness := (true, "d96623db5fd51c46e378b473ed02856678037baba6cc78c948336f7605278a1e"), looks := false }, kinds := [], alts := [], laidByText := true, laidKinds := [.data, .pinned], laidTests := true, laidLooks := .later }
def LockHoldsUptoCardSaid : Prop := Claim7.holds Tryd.pinned (.plain (OpenSpec.upto lockHoldsSpec)) lockHoldsUptoCard

/-- THE SECOND FORM's CARD OF 'barrowlaw37.LockJoins'. -/
def lockJoinsUptoCard : Claim7 := { stood := { row := lockJoinsUptoRow, standIns := [], harness := (true, "d96623db5fd51c46e378b473ed02856678037baba6cc78c948336f7605278a1e"), looks := false }, kinds := [], alts := [], laidByText := true, laidKinds := [.data, .pinned], laidTests := true, laidLooks := .later }
def LockJoinsUptoCardSaid : Prop := Claim7.holds Tryd.pinned (.plain (OpenSpec.upto lockJoinsSpec)) lockJoinsUptoCard

/-- THE SECOND FORM's CARD OF 'barrowlaw37.LockBoth'. -/
def lockBothUptoCard : Claim7 := { stood := { row := lockBothUptoRow, standIns := [], harness := (true, "d96623db5fd51c46e378b473ed02856678037baba6cc78c948336f7605278a1e"), looks := false }, kinds := [], alts := [], laidByText := true, laidKinds := [.data, .pinned], laidTests := true, laidLooks := .later }
def LockBothUptoCardSaid : Prop := Claim7.holds Tryd.pinned (.plain (OpenSpec.upto lockBothSpec)) lockBothUptoCard

/-- THE SECOND FORM's CARD OF 'barrowlaw25.ViewFollows'. -/
def viewFollowsUptoCard : Claim7 := { stood := { row := viewFollowsUptoRow, standIns := [], harness := (true, "d96623db5fd51c46e378b473ed02856678037baba6cc78c948336f7605278a1e"), looks := false }, kinds := [], alts := [], laidByText := true, laidKinds := [.data, .pinned], laidTests := true, laidLooks := .later }
def ViewFollowsUptoCardSaid : Prop := Claim7.holds Tryd.pinned (.plain (OpenSpec.upto viewFollowsSpec)) viewFollowsUptoCard

/-- THE SECOND FORM's CARD OF 'barrowlaw25.ViewStays'. -/
def viewStaysUptoCard : Claim7 := { stood := { row := viewStaysUptoRow, standIns := [], harness := (true, "d96623db5fd51c46e378b473ed02856678037baba6cc78c948336f7605278a1e"), looks := false }, kinds := [], alts := [], laidByText := true, laidKinds := [.data, .pinned], laidTests := true, laidLooks := .later }
def ViewStaysUptoCardSaid : Prop := Claim7.holds Tryd.pinned (.plain (OpenSpec.upto viewStaysSpec)) viewStaysUptoCard
end Rows
end Go.Proofs.YthnpngefpbijkaaDoor
