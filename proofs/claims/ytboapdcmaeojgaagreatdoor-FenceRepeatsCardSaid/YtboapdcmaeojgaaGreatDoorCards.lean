/-
  DERIVED. GIVEN WITH THE SEED: THE CARDS: each row of YtboapdcmaeojgaaGreatDoorRows.lean that lists a variable, with what it lists TIED to the program's text (the seventh form; the later family's looks); each row that meets fmt, with fmt's text TOLD by the authors' own Lean function (tested against real Go, not proved from fmt's source: count such statements apart). THE CARD IS WHAT COUNTS. Prove the row's statement (the work); the ties are given (YtboapdcmaeojgaaGreatDoorTie.lean); close each card by the builder's one call (the guide's Derived/Test/ToyasCard.lean, 'card_holds'). Laid BY PROGRAM, IN A SANDBOX (cutbox-door.mjs). By AI agents, Wed Nov 11 2026. No macro, syntax, notation, axiom, sorry.
-/
import Derived.Test.YtboapdcmaeojgaaGreatDoorRows
import GoSem.ClaimSeven
namespace Go.Proofs.YtboapdcmaeojgaaGreatDoor
namespace Rows

/-- THE TIED CARD OF 'exoduslaw49.FenceReplicas'. -/
def fenceReplicasCard : Claim7 := { stood := { row := fenceReplicasRow, standIns := [], harness := (true, "f268b716dd08271933c07cc31361d2226fec97e72a94a979299d87c118c86b59"), looks := false }, kinds := [], alts := [], laidByText := true, laidKinds := [.listed, .data], laidTests := true, laidLooks := .later }
def FenceReplicasCardSaid : Prop := Claim7.holds Tryz.pinned (.plain (OpenSpec.ofChange fenceReplicasSpec)) fenceReplicasCard

/-- THE TIED CARD OF 'exoduslaw49.FenceGenerations'. -/
def fenceGenerationsCard : Claim7 := { stood := { row := fenceGenerationsRow, standIns := [], harness := (true, "f268b716dd08271933c07cc31361d2226fec97e72a94a979299d87c118c86b59"), looks := false }, kinds := [], alts := [], laidByText := true, laidKinds := [.listed, .data], laidTests := true, laidLooks := .later }
def FenceGenerationsCardSaid : Prop := Claim7.holds Tryz.pinned (.plain (OpenSpec.ofChange fenceGenerationsSpec)) fenceGenerationsCard

/-- THE TIED CARD OF 'exoduslaw49.FenceNew'. -/
def fenceNewCard : Claim7 := { stood := { row := fenceNewRow, standIns := [], harness := (true, "f268b716dd08271933c07cc31361d2226fec97e72a94a979299d87c118c86b59"), looks := false }, kinds := [], alts := [], laidByText := true, laidKinds := [.listed, .data], laidTests := true, laidLooks := .later }
def FenceNewCardSaid : Prop := Claim7.holds Tryz.pinned (.plain (OpenSpec.ofChange fenceNewSpec)) fenceNewCard

/-- THE TIED CARD OF 'exoduslaw49.FenceJobs'. -/
def fenceJobsCard : Claim7 := { stood := { row := fenceJobsRow, standIns := [], harness := (true, "f268b716dd08271933c07cc31361d2226fec97e72a94a979299d87c118c86b59"), looks := false }, kinds := [], alts := [], laidByText := true, laidKinds := [.listed, .data], laidTests := true, laidLooks := .later }
def FenceJobsCardSaid : Prop := Claim7.holds Tryz.pinned (.plain (OpenSpec.ofChange fenceJobsSpec)) fenceJobsCard

/-- THE TIED CARD OF 'exoduslaw49.FenceRepeats'. -/
def fenceRepeatsCard : Claim7 := { stood := { row := fenceRepeatsRow, standIns := [], harness := (true, "f268b716dd08271933c07cc31361d2226fec97e72a94a979299d87c118c86b59"), looks := false }, kinds := [], alts := [], laidByText := true, laidKinds := [.listed, .data], laidTests := true, laidLooks := .later }
def FenceRepeatsCardSaid : Prop := Claim7.holds Tryz.pinned (.plain (OpenSpec.ofChange fenceRepeatsSpec)) fenceRepeatsCard

/-- THE TIED CARD OF 'exoduslaw49.FenceCalls'. -/
def fenceCallsCard : Claim7 := { stood := { row := fenceCallsRow, standIns := [], harness := (true, "f268b716dd08271933c07cc31361d2226fec97e72a94a979299d87c118c86b59"), looks := false }, kinds := [], alts := [], laidByText := true, laidKinds := [.listed, .data], laidTests := true, laidLooks := .later }
def FenceCallsCardSaid : Prop := Claim7.holds Tryz.pinned (.plain (OpenSpec.ofChange fenceCallsSpec)) fenceCallsCard

/-- THE TIED CARD OF 'exoduslaw49.FenceOperations'. -/
def fenceOperationsCard : Claim7 := { stood := { row := fenceOperationsRow, standIns := [], harness := (true, "f268b716dd08271933c07cc31361d2226fec97e72a94a979299d87c118c86b59"), looks := false }, kinds := [], alts := [], laidByText := true, laidKinds := [.listed, .data], laidTests := true, laidLooks := .later }
def FenceOperationsCardSaid : Prop := Claim7.holds Tryz.pinned (.plain (OpenSpec.ofChange fenceOperationsSpec)) fenceOperationsCard

/-- THE TIED CARD OF 'exoduslaw49.FenceSaves'. -/
def fenceSavesCard : Claim7 := { stood := { row := fenceSavesRow, standIns := [], harness := (true, "f268b716dd08271933c07cc31361d2226fec97e72a94a979299d87c118c86b59"), looks := false }, kinds := [], alts := [], laidByText := true, laidKinds := [.listed, .data], laidTests := true, laidLooks := .later }
def FenceSavesCardSaid : Prop := Claim7.holds Tryz.pinned (.plain (OpenSpec.ofChange fenceSavesSpec)) fenceSavesCard

/-- THE SECOND FORM's CARD OF 'exoduslaw49.FenceReplicas'. -/
def fenceReplicasUptoCard : Claim7 := { stood := { row := fenceReplicasUptoRow, standIns := [], harness := (true, "f268b716dd08271933c07cc31361d2226fec97e72a94a979299d87c118c86b59"), looks := false }, kinds := [], alts := [], laidByText := true, laidKinds := [.listed, .data], laidTests := true, laidLooks := .later }
def FenceReplicasUptoCardSaid : Prop := Claim7.holds Tryz.pinned (.plain (OpenSpec.upto fenceReplicasSpec)) fenceReplicasUptoCard

/-- THE SECOND FORM's CARD OF 'exoduslaw49.FenceGenerations'. -/
def fenceGenerationsUptoCard : Claim7 := { stood := { row := fenceGenerationsUptoRow, standIns := [], harness := (true, "f268b716dd08271933c07cc31361d2226fec97e72a94a979299d87c118c86b59"), looks := false }, kinds := [], alts := [], laidByText := true, laidKinds := [.listed, .data], laidTests := true, laidLooks := .later }
def FenceGenerationsUptoCardSaid : Prop := Claim7.holds Tryz.pinned (.plain (OpenSpec.upto fenceGenerationsSpec)) fenceGenerationsUptoCard

/-- THE SECOND FORM's CARD OF 'exoduslaw49.FenceNew'. -/
def fenceNewUptoCard : Claim7 := { stood := { row := fenceNewUptoRow, standIns := [], harness := (true, "f268b716dd08271933c07cc31361d2226fec97e72a94a979299d87c118c86b59"), looks := false }, kinds := [], alts := [], laidByText := true, laidKinds := [.listed, .data], laidTests := true, laidLooks := .later }
def FenceNewUptoCardSaid : Prop := Claim7.holds Tryz.pinned (.plain (OpenSpec.upto fenceNewSpec)) fenceNewUptoCard

/-- THE SECOND FORM's CARD OF 'exoduslaw49.FenceJobs'. -/
def fenceJobsUptoCard : Claim7 := { stood := { row := fenceJobsUptoRow, standIns := [], harness := (true, "f268b716dd08271933c07cc31361d2226fec97e72a94a979299d87c118c86b59"), looks := false }, kinds := [], alts := [], laidByText := true, laidKinds := [.listed, .data], laidTests := true, laidLooks := .later }
def FenceJobsUptoCardSaid : Prop := Claim7.holds Tryz.pinned (.plain (OpenSpec.upto fenceJobsSpec)) fenceJobsUptoCard

/-- THE SECOND FORM's CARD OF 'exoduslaw49.FenceRepeats'. -/
def fenceRepeatsUptoCard : Claim7 := { stood := { row := fenceRepeatsUptoRow, standIns := [], harness := (true, "f268b716dd08271933c07cc31361d2226fec97e72a94a979299d87c118c86b59"), looks := false }, kinds := [], alts := [], laidByText := true, laidKinds := [.listed, .data], laidTests := true, laidLooks := .later }
def FenceRepeatsUptoCardSaid : Prop := Claim7.holds Tryz.pinned (.plain (OpenSpec.upto fenceRepeatsSpec)) fenceRepeatsUptoCard

/-- THE SECOND FORM's CARD OF 'exoduslaw49.FenceCalls'. -/
def fenceCallsUptoCard : Claim7 := { stood := { row := fenceCallsUptoRow, standIns := [], harness := (true, "f268b716dd08271933c07cc31361d2226fec97e72a94a979299d87c118c86b59"), looks := false }, kinds := [], alts := [], laidByText := true, laidKinds := [.listed, .data], laidTests := true, laidLooks := .later }
def FenceCallsUptoCardSaid : Prop := Claim7.holds Tryz.pinned (.plain (OpenSpec.upto fenceCallsSpec)) fenceCallsUptoCard

/-- THE SECOND FORM's CARD OF 'exoduslaw49.FenceOperations'. -/
def fenceOperationsUptoCard : Claim7 := { stood := { row := fenceOperationsUptoRow, standIns := [], harness := (true, "f268b716dd08271933c07cc31361d2226fec97e72a94a979299d87c118c86b59"), looks := false }, kinds := [], alts := [], laidByText := true, laidKinds := [.listed, .data], laidTests := true, laidLooks := .later }
def FenceOperationsUptoCardSaid : Prop := Claim7.holds Tryz.pinned (.plain (OpenSpec.upto fenceOperationsSpec)) fenceOperationsUptoCard

/-- THE SECOND FORM's CARD OF 'exoduslaw49.FenceSaves'. -/
def fenceSavesUptoCard : Claim7 := { stood := { row := fenceSavesUptoRow, standIns := [], harness := (true, "f268b716dd08271933c07cc31361d2226fec97e72a94a979299d87c118c86b59"), looks := false }, kinds := [], alts := [], laidByText := true, laidKinds := [.listed, .data], laidTests := true, laidLooks := .later }
def FenceSavesUptoCardSaid : Prop := Claim7.holds Tryz.pinned (.plain (OpenSpec.upto fenceSavesSpec)) fenceSavesUptoCard
end Rows
end Go.Proofs.YtboapdcmaeojgaaGreatDoor
