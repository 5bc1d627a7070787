/-
  DERIVED. GIVEN WITH THE SEED: THE CARDS: each row of YtdblglgnhjankaaDoorRows.lean that lists a variable, with what it lists TIED to the program's text (the seventh form; the later family's looks); each row that meets fmt, with fmt's text TOLD by the authors' own Lean function (tested against real Go, not proved from fmt's source: count such statements apart). THE CARD IS WHAT COUNTS. Prove the row's statement (the work); the ties are given (YtdblglgnhjankaaDoorTie.lean); close each card by the builder's one call (the guide's Derived/Test/ToyasCard.lean, 'card_holds'). Laid BY PROGRAM, IN A SANDBOX (cutbox-door.mjs). By AI agents, Wed Nov 11 2026. No macro, syntax, notation, axiom, sorry.
-/
import Derived.Test.YtdblglgnhjankaaDoorRows
import GoSem.ClaimSeven
namespace Go.Proofs.YtdblglgnhjankaaDoor
namespace Rows

/-- THE TIED CARD OF 'exoduslaw50.ActActions'. -/
def actActionsCard : Claim7 := { stood := { row := actActionsRow, standIns := [], harness := (true, "6ee90cae9cde8225fb22a5497b50a70385455ddcc3eb84c7d9aeaa8dcf5a655e"), looks := false }, kinds := [], alts := [], laidByText := true, laidKinds := [.data, .data, .data], laidTests := true, laidLooks := .later }
def ActActionsCardSaid : Prop := Claim7.holds Tryd.pinned (.plain (OpenSpec.ofChange actActionsSpec)) actActionsCard

/-- THE TIED CARD OF 'exoduslaw50.ActNumbers'. -/
def actNumbersCard : Claim7 := { stood := { row := actNumbersRow, standIns := [], harness := (true, "6ee90cae9cde8225fb22a5497b50a70385455ddcc3eb84c7d9aeaa8dcf5a655e"), looks := false }, kinds := [], alts := [], laidByText := true, laidKinds := [.data, .data, .data], laidTests := true, laidLooks := .later }
def ActNumbersCardSaid : Prop := Claim7.holds Tryd.pinned (.plain (OpenSpec.ofChange actNumbersSpec)) actNumbersCard

/-- THE TIED CARD OF 'exoduslaw50.ActTargets'. -/
def actTargetsCard : Claim7 := { stood := { row := actTargetsRow, standIns := [], harness := (true, "6ee90cae9cde8225fb22a5497b50a70385455ddcc3eb84c7d9aeaa8dcf5a655e"), looks := false }, kinds := [], alts := [], laidByText := true, laidKinds := [.data, .data, .data], laidTests := true, laidLooks := .later }
def ActTargetsCardSaid : Prop := Claim7.holds Tryd.pinned (.plain (OpenSpec.ofChange actTargetsSpec)) actTargetsCard

/-- THE TIED CARD OF 'exoduslaw50.ActReaches'. -/
def actReachesCard : Claim7 := { stood := { row := actReachesRow, standIns := [], harness := (true, "6ee90cae9cde8225fb22a5497b50a70385455ddcc3eb84c7d9aeaa8dcf5a655e"), looks := false }, kinds := [], alts := [], laidByText := true, laidKinds := [.data, .data, .data], laidTests := true, laidLooks := .later }
def ActReachesCardSaid : Prop := Claim7.holds Tryd.pinned (.plain (OpenSpec.ofChange actReachesSpec)) actReachesCard

/-- THE TIED CARD OF 'exoduslaw50.ActMessages'. -/
def actMessagesCard : Claim7 := { stood := { row := actMessagesRow, standIns := [], harness := (true, "6ee90cae9cde8225fb22a5497b50a70385455ddcc3eb84c7d9aeaa8dcf5a655e"), looks := false }, kinds := [], alts := [], laidByText := true, laidKinds := [.data, .data, .data], laidTests := true, laidLooks := .later }
def ActMessagesCardSaid : Prop := Claim7.holds Tryd.pinned (.plain (OpenSpec.ofChange actMessagesSpec)) actMessagesCard

/-- THE TIED CARD OF 'exoduslaw50.ActAdvances'. -/
def actAdvancesCard : Claim7 := { stood := { row := actAdvancesRow, standIns := [], harness := (true, "6ee90cae9cde8225fb22a5497b50a70385455ddcc3eb84c7d9aeaa8dcf5a655e"), looks := false }, kinds := [], alts := [], laidByText := true, laidKinds := [.data, .data, .data], laidTests := true, laidLooks := .later }
def ActAdvancesCardSaid : Prop := Claim7.holds Tryd.pinned (.plain (OpenSpec.ofChange actAdvancesSpec)) actAdvancesCard

/-- THE TIED CARD OF 'exoduslaw50.ActJudges'. -/
def actJudgesCard : Claim7 := { stood := { row := actJudgesRow, standIns := [], harness := (true, "6ee90cae9cde8225fb22a5497b50a70385455ddcc3eb84c7d9aeaa8dcf5a655e"), looks := false }, kinds := [], alts := [], laidByText := true, laidKinds := [.data, .data, .data], laidTests := true, laidLooks := .later }
def ActJudgesCardSaid : Prop := Claim7.holds Tryd.pinned (.plain (OpenSpec.ofChange actJudgesSpec)) actJudgesCard

/-- THE SECOND FORM's CARD OF 'exoduslaw50.ActActions'. -/
def actActionsUptoCard : Claim7 := { stood := { row := actActionsUptoRow, standIns := [], harness := (true, "6ee90cae9cde8225fb22a5497b50a70385455ddcc3eb84c7d9aeaa8dcf5a655e"), looks := false }, kinds := [], alts := [], laidByText := true, laidKinds := [.data, .data, .data], laidTests := true, laidLooks := .later }
def ActActionsUptoCardSaid : Prop := Claim7.holds Tryd.pinned (.plain (OpenSpec.upto actActionsSpec)) actActionsUptoCard

/-- THE SECOND FORM's CARD OF 'exoduslaw50.ActNumbers'. -/
def actNumbersUptoCard : Claim7 := { stood := { row := actNumbersUptoRow, standIns := [], harness := (true, "6ee90cae9cde8225fb22a5497b50a70385455ddcc3eb84c7d9aeaa8dcf5a655e"), looks := false }, kinds := [], alts := [], laidByText := true, laidKinds := [.data, .data, .data], laidTests := true, laidLooks := .later }
def ActNumbersUptoCardSaid : Prop := Claim7.holds Tryd.pinned (.plain (OpenSpec.upto actNumbersSpec)) actNumbersUptoCard

/-- THE SECOND FORM's CARD OF 'exoduslaw50.ActTargets'. -/
def actTargetsUptoCard : Claim7 := { stood := { row := actTargetsUptoRow, standIns := [], harness := (true, "6ee90cae9cde8225fb22a5497b50a70385455ddcc3eb84c7d9aeaa8dcf5a655e"), looks := false }, kinds := [], alts := [], laidByText := true, laidKinds := [.data, .data, .data], laidTests := true, laidLooks := .later }
def ActTargetsUptoCardSaid : Prop := Claim7.holds Tryd.pinned (.plain (OpenSpec.upto actTargetsSpec)) actTargetsUptoCard

/-- THE SECOND FORM's CARD OF 'exoduslaw50.ActReaches'. -/
def actReachesUptoCard : Claim7 := { stood := { row := actReachesUptoRow, standIns := [], harness := (true, "6ee90cae9cde8225fb22a5497b50a70385455ddcc3eb84c7d9aeaa8dcf5a655e"), looks := false }, kinds := [], alts := [], laidByText := true, laidKinds := [.data, .data, .data], laidTests := true, laidLooks := .later }
def ActReachesUptoCardSaid : Prop := Claim7.holds Tryd.pinned (.plain (OpenSpec.upto actReachesSpec)) actReachesUptoCard

/-- THE SECOND FORM's CARD OF 'exoduslaw50.ActMessages'. -/
def actMessagesUptoCard : Claim7 := { stood := { row := actMessagesUptoRow, standIns := [], harness := (true, "6ee90cae9cde8225fb22a5497b50a70385455ddcc3eb84c7d9aeaa8dcf5a655e"), looks := false }, kinds := [], alts := [], laidByText := true, laidKinds := [.data, .data, .data], laidTests := true, laidLooks := .later }
def ActMessagesUptoCardSaid : Prop := Claim7.holds Tryd.pinned (.plain (OpenSpec.upto actMessagesSpec)) actMessagesUptoCard

/-- THE SECOND FORM's CARD OF 'exoduslaw50.ActAdvances'. -/
def actAdvancesUptoCard : Claim7 := { stood := { row := actAdvancesUptoRow, standIns := [], harness := (true, "6ee90cae9cde8225fb22a5497b50a70385455ddcc3eb84c7d9aeaa8dcf5a655e"), looks := false }, kinds := [], alts := [], laidByText := true, laidKinds := [.data, .data, .data], laidTests := true, laidLooks := .later }
def ActAdvancesUptoCardSaid : Prop := Claim7.holds Tryd.pinned (.plain (OpenSpec.upto actAdvancesSpec)) actAdvancesUptoCard

/-- THE SECOND FORM's CARD OF 'exoduslaw50.ActJudges'. -/
def actJudgesUptoCard : Claim7 := { stood := { row := actJudgesUptoRow, standIns := [], harness := (true, "6ee90cae9cde8225fb22a5497b50a70385455ddcc3eb84c7d9aeaa8dcf5a655e"), looks := false }, kinds := [], alts := [], laidByText := true, laidKinds := [.data, .data, .data], laidTests := true, laidLooks := .later }
def ActJudgesUptoCardSaid : Prop := Claim7.holds Tryd.pinned (.plain (OpenSpec.upto actJudgesSpec)) actJudgesUptoCard
end Rows
end Go.Proofs.YtdblglgnhjankaaDoor
