/-
  DERIVED. GIVEN WITH THE SEED: THE CARDS: each row of YtdjmdfnhnlijiaaDoorRows.lean that lists a variable, with what it lists TIED to the program's text (the seventh form; the later family's looks); each row that meets fmt, with fmt's text TOLD by the authors' own Lean function (tested against real Go, not proved from fmt's source: count such statements apart). THE CARD IS WHAT COUNTS. Prove the row's statement (the work); the ties are given (YtdjmdfnhnlijiaaDoorTie.lean); close each card by the builder's one call (the guide's Derived/Test/ToyasCard.lean, 'card_holds'). Laid BY PROGRAM, IN A SANDBOX (cutbox-door.mjs). By AI agents, Wed Nov 11 2026. No macro, syntax, notation, axiom, sorry.
-/
import Derived.Test.YtdjmdfnhnlijiaaDoorRows
import GoSem.ClaimSeven
namespace Go.Proofs.YtdjmdfnhnlijiaaDoor
namespace Rows

/-- THE TIED CARD OF 'exoduslaw40.MemberAdmits'. -/
def memberAdmitsCard : Claim7 := { stood := { row := memberAdmitsRow, standIns := [], harness := (true, "992c2c9c79a79bd23b70a33cd323548e28f20a9c082763f5ac51a4c388b688f4"), looks := false }, kinds := [], alts := [], laidByText := true, laidKinds := [.data, .data, .data], laidTests := true, laidLooks := .later }
def MemberAdmitsCardSaid : Prop := Claim7.holds Tryd.pinned (.plain (OpenSpec.ofChange memberAdmitsSpec)) memberAdmitsCard

/-- THE TIED CARD OF 'exoduslaw40.MemberKnown'. -/
def memberKnownCard : Claim7 := { stood := { row := memberKnownRow, standIns := [], harness := (true, "992c2c9c79a79bd23b70a33cd323548e28f20a9c082763f5ac51a4c388b688f4"), looks := false }, kinds := [], alts := [], laidByText := true, laidKinds := [.data, .data, .data], laidTests := true, laidLooks := .later }
def MemberKnownCardSaid : Prop := Claim7.holds Tryd.pinned (.plain (OpenSpec.ofChange memberKnownSpec)) memberKnownCard

/-- THE TIED CARD OF 'exoduslaw40.MemberRefuses'. -/
def memberRefusesCard : Claim7 := { stood := { row := memberRefusesRow, standIns := [], harness := (true, "992c2c9c79a79bd23b70a33cd323548e28f20a9c082763f5ac51a4c388b688f4"), looks := false }, kinds := [], alts := [], laidByText := true, laidKinds := [.data, .data, .data], laidTests := true, laidLooks := .later }
def MemberRefusesCardSaid : Prop := Claim7.holds Tryd.pinned (.plain (OpenSpec.ofChange memberRefusesSpec)) memberRefusesCard

/-- THE SECOND FORM's CARD OF 'exoduslaw40.MemberAdmits'. -/
def memberAdmitsUptoCard : Claim7 := { stood := { row := memberAdmitsUptoRow, standIns := [], harness := (true, "992c2c9c79a79bd23b70a33cd323548e28f20a9c082763f5ac51a4c388b688f4"), looks := false }, kinds := [], alts := [], laidByText := true, laidKinds := [.data, .data, .data], laidTests := true, laidLooks := .later }
def MemberAdmitsUptoCardSaid : Prop := Claim7.holds Tryd.pinned (.plain (OpenSpec.upto memberAdmitsSpec)) memberAdmitsUptoCard

/-- THE SECOND FORM's CARD OF 'exoduslaw40.MemberKnown'. -/
def memberKnownUptoCard : Claim7 := { stood := { row := memberKnownUptoRow, standIns := [], harness := (true, "992c2c9c79a79bd23b70a33cd323548e28f20a9c082763f5ac51a4c388b688f4"), looks := false }, kinds := [], alts := [], laidByText := true, laidKinds := [.data, .data, .data], laidTests := true, laidLooks := .later }
def MemberKnownUptoCardSaid : Prop := Claim7.holds Tryd.pinned (.plain (OpenSpec.upto memberKnownSpec)) memberKnownUptoCard

/-- THE SECOND FORM's CARD OF 'exoduslaw40.MemberRefuses'. -/
def memberRefusesUptoCard : Claim7 := { stood := { row := memberRefusesUptoRow, standIns := [], harness := (true, "992c2c9c79a79bd23b70a33cd323548e28f20a9c082763f5ac51a4c388b688f4"), looks := false }, kinds := [], alts := [], laidByText := true, laidKinds := [.data, .data, .data], laidTests := true, laidLooks := .later }
def MemberRefusesUptoCardSaid : Prop := Claim7.holds Tryd.pinned (.plain (OpenSpec.upto memberRefusesSpec)) memberRefusesUptoCard
end Rows
end Go.Proofs.YtdjmdfnhnlijiaaDoor
