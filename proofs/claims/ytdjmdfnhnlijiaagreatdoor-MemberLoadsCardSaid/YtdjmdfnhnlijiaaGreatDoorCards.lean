/-
  DERIVED. GIVEN WITH THE SEED: THE CARDS: each row of YtdjmdfnhnlijiaaGreatDoorRows.lean that lists a variable, with what it lists TIED to the program's text (the seventh form; the later family's looks); each row that meets fmt, with fmt's text TOLD by the authors' own Lean function (tested against real Go, not proved from fmt's source: count such statements apart). THE CARD IS WHAT COUNTS. Prove the row's statement (the work); the ties are given (YtdjmdfnhnlijiaaGreatDoorTie.lean); close each card by the builder's one call (the guide's Derived/Test/ToyasCard.lean, 'card_holds'). Laid BY PROGRAM, IN A SANDBOX (cutbox-door.mjs). By AI agents, Wed Nov 11 2026. No macro, syntax, notation, axiom, sorry.
-/
import Derived.Test.YtdjmdfnhnlijiaaGreatDoorRows
import GoSem.ClaimSeven
namespace Go.Proofs.YtdjmdfnhnlijiaaGreatDoor
namespace Rows

/-- THE TIED CARD OF 'exoduslaw40.MemberNext'. -/
def memberNextCard : Claim7 := { stood := { row := memberNextRow, standIns := [], harness := (true, "2cd68f6f16808a8c31babac2f5d3b23ebd48b17d52f39bb1ca91a66e05499bda"), looks := false }, kinds := [], alts := [], laidByText := true, laidKinds := [.data, .data, .data], laidTests := true, laidLooks := .later }
def MemberNextCardSaid : Prop := Claim7.holds Tryz.pinned (.plain (OpenSpec.ofChange memberNextSpec)) memberNextCard

/-- THE TIED CARD OF 'exoduslaw40.MemberReaches'. -/
def memberReachesCard : Claim7 := { stood := { row := memberReachesRow, standIns := [], harness := (true, "2cd68f6f16808a8c31babac2f5d3b23ebd48b17d52f39bb1ca91a66e05499bda"), looks := false }, kinds := [], alts := [], laidByText := true, laidKinds := [.data, .data, .data], laidTests := true, laidLooks := .later }
def MemberReachesCardSaid : Prop := Claim7.holds Tryz.pinned (.plain (OpenSpec.ofChange memberReachesSpec)) memberReachesCard

/-- THE TIED CARD OF 'exoduslaw40.MemberLoads'. -/
def memberLoadsCard : Claim7 := { stood := { row := memberLoadsRow, standIns := [], harness := (true, "2cd68f6f16808a8c31babac2f5d3b23ebd48b17d52f39bb1ca91a66e05499bda"), looks := false }, kinds := [], alts := [], laidByText := true, laidKinds := [.data, .data, .data], laidTests := true, laidLooks := .later }
def MemberLoadsCardSaid : Prop := Claim7.holds Tryz.pinned (.plain (OpenSpec.ofChange memberLoadsSpec)) memberLoadsCard

/-- THE SECOND FORM's CARD OF 'exoduslaw40.MemberNext'. -/
def memberNextUptoCard : Claim7 := { stood := { row := memberNextUptoRow, standIns := [], harness := (true, "2cd68f6f16808a8c31babac2f5d3b23ebd48b17d52f39bb1ca91a66e05499bda"), looks := false }, kinds := [], alts := [], laidByText := true, laidKinds := [.data, .data, .data], laidTests := true, laidLooks := .later }
def MemberNextUptoCardSaid : Prop := Claim7.holds Tryz.pinned (.plain (OpenSpec.upto memberNextSpec)) memberNextUptoCard

/-- THE SECOND FORM's CARD OF 'exoduslaw40.MemberReaches'. -/
def memberReachesUptoCard : Claim7 := { stood := { row := memberReachesUptoRow, standIns := [], harness := (true, "2cd68f6f16808a8c31babac2f5d3b23ebd48b17d52f39bb1ca91a66e05499bda"), looks := false }, kinds := [], alts := [], laidByText := true, laidKinds := [.data, .data, .data], laidTests := true, laidLooks := .later }
def MemberReachesUptoCardSaid : Prop := Claim7.holds Tryz.pinned (.plain (OpenSpec.upto memberReachesSpec)) memberReachesUptoCard

/-- THE SECOND FORM's CARD OF 'exoduslaw40.MemberLoads'. -/
def memberLoadsUptoCard : Claim7 := { stood := { row := memberLoadsUptoRow, standIns := [], harness := (true, "2cd68f6f16808a8c31babac2f5d3b23ebd48b17d52f39bb1ca91a66e05499bda"), looks := false }, kinds := [], alts := [], laidByText := true, laidKinds := [.data, .data, .data], laidTests := true, laidLooks := .later }
def MemberLoadsUptoCardSaid : Prop := Claim7.holds Tryz.pinned (.plain (OpenSpec.upto memberLoadsSpec)) memberLoadsUptoCard
end Rows
end Go.Proofs.YtdjmdfnhnlijiaaGreatDoor
