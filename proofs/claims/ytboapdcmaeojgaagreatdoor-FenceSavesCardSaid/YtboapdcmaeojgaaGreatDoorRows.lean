/-
  NARROWER THAN 'FOR EVERY INPUT', by the rows' own cells (each row's printed sentence says how): FenceReplicas: laid · FenceGenerations: laid · FenceNew: laid · FenceJobs: laid · FenceRepeats: laid · FenceCalls: laid · FenceOperations: laid · FenceSaves: laid.
  DERIVED. THE GIVEN ROWS OF THIS SEAT. 8 by the template 'for every input the law returns true; each argument reads behind the call as it read before'; 0 by the template 'total and deterministic' (their statements: YtboapdcmaeojgaaGreatDoorTotals.lean).
  GIVEN WITH THE SEED: the statements are not yours to turn. If you find one false, say at which input.
  Laid BY PROGRAM, IN A SANDBOX (cutbox-rows.mjs): the forced cells as the released guide's own fill.sh prints them over the translation 2891b28010025db1… (all of the seat's roots in one cut). By AI agents, Wed Nov 11 2026. No macro, syntax, notation, axiom, sorry.
-/
import Derived.Test.YtboapdcmaeojgaaGreatDoorChecked
import GoSem.Claim
import GoSem.ClaimJoined
import GoSem.ClaimMapViews
import Derived.JoinedTies
import Derived.KernelRfl
namespace Go.Proofs.YtboapdcmaeojgaaGreatDoor
/- THE CELL 'sum', in the pinned program and in every row, IS THE sha256 OF THE DUMP (.gsa) THAT YtboapdcmaeojgaaGreatDoorProg.lean LOADS. Nothing in Lean hashes anything: it is a label: what it is worth is what the hold of that sum in a sandbox is worth. -/
noncomputable def Tryz.pinned : Pinned := { name := "ytboapdcmaeojgaagreatdoor", sum := "2891b28010025db1dfc3076600c48ac3e10f8a8df60dee7cca7eb89849d7c4c2", checked := Tryz.checked }
namespace Rows
def none {H : Type} : Left H := { results := [], args := [] }

/- WHAT THE LISTED PACKAGE-LEVEL VARIABLES READ AS WHEN THE CALL BEGINS. Each datum BY PROGRAM (the guide's laid-datum.mjs) off the statement by which the dump's own 'gosem.cut.vars' lays the variable. In a bare row this is a premise. The card (YtboapdcmaeojgaaGreatDoorCards.lean) ties it to the program's text. -/
def laid_unicode_White_Space {H : Type} : DataW H := .ptr (.agg [.slice [.agg [.lit (.int .u16 9), .lit (.int .u16 13), .lit (.int .u16 1)], .agg [.lit (.int .u16 32), .lit (.int .u16 133), .lit (.int .u16 101)], .agg [.lit (.int .u16 160), .lit (.int .u16 5760), .lit (.int .u16 5600)], .agg [.lit (.int .u16 8192), .lit (.int .u16 8202), .lit (.int .u16 1)], .agg [.lit (.int .u16 8232), .lit (.int .u16 8233), .lit (.int .u16 1)], .agg [.lit (.int .u16 8239), .lit (.int .u16 8287), .lit (.int .u16 48)], .agg [.lit (.int .u16 12288), .lit (.int .u16 12288), .lit (.int .u16 1)]] [], .nil, .lit (.int .i64 2)])
def laid_strings_asciiSpace {H : Type} : DataW H := .agg [.lit (.int .u8 0), .lit (.int .u8 0), .lit (.int .u8 0), .lit (.int .u8 0), .lit (.int .u8 0), .lit (.int .u8 0), .lit (.int .u8 0), .lit (.int .u8 0), .lit (.int .u8 0), .lit (.int .u8 1), .lit (.int .u8 1), .lit (.int .u8 1), .lit (.int .u8 1), .lit (.int .u8 1), .lit (.int .u8 0), .lit (.int .u8 0), .lit (.int .u8 0), .lit (.int .u8 0), .lit (.int .u8 0), .lit (.int .u8 0), .lit (.int .u8 0), .lit (.int .u8 0), .lit (.int .u8 0), .lit (.int .u8 0), .lit (.int .u8 0), .lit (.int .u8 0), .lit (.int .u8 0), .lit (.int .u8 0), .lit (.int .u8 0), .lit (.int .u8 0), .lit (.int .u8 0), .lit (.int .u8 0), .lit (.int .u8 1), .lit (.int .u8 0), .lit (.int .u8 0), .lit (.int .u8 0), .lit (.int .u8 0), .lit (.int .u8 0), .lit (.int .u8 0), .lit (.int .u8 0), .lit (.int .u8 0), .lit (.int .u8 0), .lit (.int .u8 0), .lit (.int .u8 0), .lit (.int .u8 0), .lit (.int .u8 0), .lit (.int .u8 0), .lit (.int .u8 0), .lit (.int .u8 0), .lit (.int .u8 0), .lit (.int .u8 0), .lit (.int .u8 0), .lit (.int .u8 0), .lit (.int .u8 0), .lit (.int .u8 0), .lit (.int .u8 0), .lit (.int .u8 0), .lit (.int .u8 0), .lit (.int .u8 0), .lit (.int .u8 0), .lit (.int .u8 0), .lit (.int .u8 0), .lit (.int .u8 0), .lit (.int .u8 0), .lit (.int .u8 0), .lit (.int .u8 0), .lit (.int .u8 0), .lit (.int .u8 0), .lit (.int .u8 0), .lit (.int .u8 0), .lit (.int .u8 0), .lit (.int .u8 0), .lit (.int .u8 0), .lit (.int .u8 0), .lit (.int .u8 0), .lit (.int .u8 0), .lit (.int .u8 0), .lit (.int .u8 0), .lit (.int .u8 0), .lit (.int .u8 0), .lit (.int .u8 0), .lit (.int .u8 0), .lit (.int .u8 0), .lit (.int .u8 0), .lit (.int .u8 0), .lit (.int .u8 0), .lit (.int .u8 0), .lit (.int .u8 0), .lit (.int .u8 0), .lit (.int .u8 0), .lit (.int .u8 0), .lit (.int .u8 0), .lit (.int .u8 0), .lit (.int .u8 0), .lit (.int .u8 0), .lit (.int .u8 0), .lit (.int .u8 0), .lit (.int .u8 0), .lit (.int .u8 0), .lit (.int .u8 0), .lit (.int .u8 0), .lit (.int .u8 0), .lit (.int .u8 0), .lit (.int .u8 0), .lit (.int .u8 0), .lit (.int .u8 0), .lit (.int .u8 0), .lit (.int .u8 0), .lit (.int .u8 0), .lit (.int .u8 0), .lit (.int .u8 0), .lit (.int .u8 0), .lit (.int .u8 0), .lit (.int .u8 0), .lit (.int .u8 0), .lit (.int .u8 0), .lit (.int .u8 0), .lit (.int .u8 0), .lit (.int .u8 0), .lit (.int .u8 0), .lit (.int .u8 0), .lit (.int .u8 0), .lit (.int .u8 0), .lit (.int .u8 0), .lit (.int .u8 0), .lit (.int .u8 0), .lit (.int .u8 0), .lit (.int .u8 0), .lit (.int .u8 0), .lit (.int .u8 0), .lit (.int .u8 0), .lit (.int .u8 0), .lit (.int .u8 0), .lit (.int .u8 0), .lit (.int .u8 0), .lit (.int .u8 0), .lit (.int .u8 0), .lit (.int .u8 0), .lit (.int .u8 0), .lit (.int .u8 0), .lit (.int .u8 0), .lit (.int .u8 0), .lit (.int .u8 0), .lit (.int .u8 0), .lit (.int .u8 0), .lit (.int .u8 0), .lit (.int .u8 0), .lit (.int .u8 0), .lit (.int .u8 0), .lit (.int .u8 0), .lit (.int .u8 0), .lit (.int .u8 0), .lit (.int .u8 0), .lit (.int .u8 0), .lit (.int .u8 0), .lit (.int .u8 0), .lit (.int .u8 0), .lit (.int .u8 0), .lit (.int .u8 0), .lit (.int .u8 0), .lit (.int .u8 0), .lit (.int .u8 0), .lit (.int .u8 0), .lit (.int .u8 0), .lit (.int .u8 0), .lit (.int .u8 0), .lit (.int .u8 0), .lit (.int .u8 0), .lit (.int .u8 0), .lit (.int .u8 0), .lit (.int .u8 0), .lit (.int .u8 0), .lit (.int .u8 0), .lit (.int .u8 0), .lit (.int .u8 0), .lit (.int .u8 0), .lit (.int .u8 0), .lit (.int .u8 0), .lit (.int .u8 0), .lit (.int .u8 0), .lit (.int .u8 0), .lit (.int .u8 0), .lit (.int .u8 0), .lit (.int .u8 0), .lit (.int .u8 0), .lit (.int .u8 0), .lit (.int .u8 0), .lit (.int .u8 0), .lit (.int .u8 0), .lit (.int .u8 0), .lit (.int .u8 0), .lit (.int .u8 0), .lit (.int .u8 0), .lit (.int .u8 0), .lit (.int .u8 0), .lit (.int .u8 0), .lit (.int .u8 0), .lit (.int .u8 0), .lit (.int .u8 0), .lit (.int .u8 0), .lit (.int .u8 0), .lit (.int .u8 0), .lit (.int .u8 0), .lit (.int .u8 0), .lit (.int .u8 0), .lit (.int .u8 0), .lit (.int .u8 0), .lit (.int .u8 0), .lit (.int .u8 0), .lit (.int .u8 0), .lit (.int .u8 0), .lit (.int .u8 0), .lit (.int .u8 0), .lit (.int .u8 0), .lit (.int .u8 0), .lit (.int .u8 0), .lit (.int .u8 0), .lit (.int .u8 0), .lit (.int .u8 0), .lit (.int .u8 0), .lit (.int .u8 0), .lit (.int .u8 0), .lit (.int .u8 0), .lit (.int .u8 0), .lit (.int .u8 0), .lit (.int .u8 0), .lit (.int .u8 0), .lit (.int .u8 0), .lit (.int .u8 0), .lit (.int .u8 0), .lit (.int .u8 0), .lit (.int .u8 0), .lit (.int .u8 0), .lit (.int .u8 0), .lit (.int .u8 0), .lit (.int .u8 0), .lit (.int .u8 0), .lit (.int .u8 0), .lit (.int .u8 0), .lit (.int .u8 0), .lit (.int .u8 0), .lit (.int .u8 0), .lit (.int .u8 0), .lit (.int .u8 0), .lit (.int .u8 0), .lit (.int .u8 0), .lit (.int .u8 0), .lit (.int .u8 0), .lit (.int .u8 0), .lit (.int .u8 0), .lit (.int .u8 0), .lit (.int .u8 0), .lit (.int .u8 0), .lit (.int .u8 0), .lit (.int .u8 0), .lit (.int .u8 0)]

/-- 'exoduslaw49.FenceReplicas': WHATEVER THE INPUT: true; the input reads as it did. -/
def fenceReplicasSpec : ChangeSpec := { name := "fenceReplicas", fn := fun _ => fun
  | [d1, d2, d3] => { results := [.lit (.bool true)], args := [d1, d2, d3] }
  | _ => none }
def fenceReplicasRow : OpenClaim := { program := "ytboapdcmaeojgaagreatdoor", sum := "2891b28010025db1dfc3076600c48ac3e10f8a8df60dee7cca7eb89849d7c4c2", func := "exodus/exoduslaw49.FenceReplicas", spec := "fenceReplicas", unfollowed := true, recurses := true, named := ["strings.asciiSpace", "unicode.White_Space"], apart := false, laid := [("unicode.White_Space", laid_unicode_White_Space), ("strings.asciiSpace", laid_strings_asciiSpace)] }
def FenceReplicasSaid : Prop := fenceReplicasRow.holds Tryz.pinned (OpenSpec.ofChange fenceReplicasSpec)

/-- ITS FALSE NEIGHBOUR: 'it returns false'. Refute it at one input. -/
def fenceReplicasWrong : ChangeSpec := { name := "fenceReplicas", fn := fun _ => fun
  | [d1, d2, d3] => { results := [.lit (.bool false)], args := [d1, d2, d3] }
  | _ => none }
def FenceReplicasWrongFalsely : Prop := fenceReplicasRow.holds Tryz.pinned (OpenSpec.ofChange fenceReplicasWrong)

/-- 'exoduslaw49.FenceGenerations': WHATEVER THE INPUT: true; the input reads as it did. -/
def fenceGenerationsSpec : ChangeSpec := { name := "fenceGenerations", fn := fun _ => fun
  | [d1, d2, d3] => { results := [.lit (.bool true)], args := [d1, d2, d3] }
  | _ => none }
def fenceGenerationsRow : OpenClaim := { program := "ytboapdcmaeojgaagreatdoor", sum := "2891b28010025db1dfc3076600c48ac3e10f8a8df60dee7cca7eb89849d7c4c2", func := "exodus/exoduslaw49.FenceGenerations", spec := "fenceGenerations", unfollowed := true, recurses := true, named := ["strings.asciiSpace", "unicode.White_Space"], apart := false, laid := [("unicode.White_Space", laid_unicode_White_Space), ("strings.asciiSpace", laid_strings_asciiSpace)] }
def FenceGenerationsSaid : Prop := fenceGenerationsRow.holds Tryz.pinned (OpenSpec.ofChange fenceGenerationsSpec)

/-- ITS FALSE NEIGHBOUR: 'it returns false'. Refute it at one input. -/
def fenceGenerationsWrong : ChangeSpec := { name := "fenceGenerations", fn := fun _ => fun
  | [d1, d2, d3] => { results := [.lit (.bool false)], args := [d1, d2, d3] }
  | _ => none }
def FenceGenerationsWrongFalsely : Prop := fenceGenerationsRow.holds Tryz.pinned (OpenSpec.ofChange fenceGenerationsWrong)

/-- 'exoduslaw49.FenceNew': WHATEVER THE INPUT: true; the input reads as it did. -/
def fenceNewSpec : ChangeSpec := { name := "fenceNew", fn := fun _ => fun
  | [d1, d2, d3] => { results := [.lit (.bool true)], args := [d1, d2, d3] }
  | _ => none }
def fenceNewRow : OpenClaim := { program := "ytboapdcmaeojgaagreatdoor", sum := "2891b28010025db1dfc3076600c48ac3e10f8a8df60dee7cca7eb89849d7c4c2", func := "exodus/exoduslaw49.FenceNew", spec := "fenceNew", unfollowed := true, recurses := true, named := ["strings.asciiSpace", "unicode.White_Space"], apart := false, laid := [("unicode.White_Space", laid_unicode_White_Space), ("strings.asciiSpace", laid_strings_asciiSpace)] }
def FenceNewSaid : Prop := fenceNewRow.holds Tryz.pinned (OpenSpec.ofChange fenceNewSpec)

/-- ITS FALSE NEIGHBOUR: 'it returns false'. Refute it at one input. -/
def fenceNewWrong : ChangeSpec := { name := "fenceNew", fn := fun _ => fun
  | [d1, d2, d3] => { results := [.lit (.bool false)], args := [d1, d2, d3] }
  | _ => none }
def FenceNewWrongFalsely : Prop := fenceNewRow.holds Tryz.pinned (OpenSpec.ofChange fenceNewWrong)

/-- 'exoduslaw49.FenceJobs': WHATEVER THE INPUT: true; the input reads as it did. -/
def fenceJobsSpec : ChangeSpec := { name := "fenceJobs", fn := fun _ => fun
  | [d1, d2, d3] => { results := [.lit (.bool true)], args := [d1, d2, d3] }
  | _ => none }
def fenceJobsRow : OpenClaim := { program := "ytboapdcmaeojgaagreatdoor", sum := "2891b28010025db1dfc3076600c48ac3e10f8a8df60dee7cca7eb89849d7c4c2", func := "exodus/exoduslaw49.FenceJobs", spec := "fenceJobs", unfollowed := true, recurses := true, named := ["strings.asciiSpace", "unicode.White_Space"], apart := false, laid := [("unicode.White_Space", laid_unicode_White_Space), ("strings.asciiSpace", laid_strings_asciiSpace)] }
def FenceJobsSaid : Prop := fenceJobsRow.holds Tryz.pinned (OpenSpec.ofChange fenceJobsSpec)

/-- ITS FALSE NEIGHBOUR: 'it returns false'. Refute it at one input. -/
def fenceJobsWrong : ChangeSpec := { name := "fenceJobs", fn := fun _ => fun
  | [d1, d2, d3] => { results := [.lit (.bool false)], args := [d1, d2, d3] }
  | _ => none }
def FenceJobsWrongFalsely : Prop := fenceJobsRow.holds Tryz.pinned (OpenSpec.ofChange fenceJobsWrong)

/-- 'exoduslaw49.FenceRepeats': WHATEVER THE INPUT: true; the input reads as it did. -/
def fenceRepeatsSpec : ChangeSpec := { name := "fenceRepeats", fn := fun _ => fun
  | [d1, d2, d3, d4, d5] => { results := [.lit (.bool true)], args := [d1, d2, d3, d4, d5] }
  | _ => none }
def fenceRepeatsRow : OpenClaim := { program := "ytboapdcmaeojgaagreatdoor", sum := "2891b28010025db1dfc3076600c48ac3e10f8a8df60dee7cca7eb89849d7c4c2", func := "exodus/exoduslaw49.FenceRepeats", spec := "fenceRepeats", unfollowed := true, recurses := true, named := ["strings.asciiSpace", "unicode.White_Space"], apart := false, laid := [("unicode.White_Space", laid_unicode_White_Space), ("strings.asciiSpace", laid_strings_asciiSpace)] }
def FenceRepeatsSaid : Prop := fenceRepeatsRow.holds Tryz.pinned (OpenSpec.ofChange fenceRepeatsSpec)

/-- ITS FALSE NEIGHBOUR: 'it returns false'. Refute it at one input. -/
def fenceRepeatsWrong : ChangeSpec := { name := "fenceRepeats", fn := fun _ => fun
  | [d1, d2, d3, d4, d5] => { results := [.lit (.bool false)], args := [d1, d2, d3, d4, d5] }
  | _ => none }
def FenceRepeatsWrongFalsely : Prop := fenceRepeatsRow.holds Tryz.pinned (OpenSpec.ofChange fenceRepeatsWrong)

/-- 'exoduslaw49.FenceCalls': WHATEVER THE INPUT: true; the input reads as it did. -/
def fenceCallsSpec : ChangeSpec := { name := "fenceCalls", fn := fun _ => fun
  | [d1, d2, d3] => { results := [.lit (.bool true)], args := [d1, d2, d3] }
  | _ => none }
def fenceCallsRow : OpenClaim := { program := "ytboapdcmaeojgaagreatdoor", sum := "2891b28010025db1dfc3076600c48ac3e10f8a8df60dee7cca7eb89849d7c4c2", func := "exodus/exoduslaw49.FenceCalls", spec := "fenceCalls", unfollowed := true, recurses := true, named := ["strings.asciiSpace", "unicode.White_Space"], apart := false, laid := [("unicode.White_Space", laid_unicode_White_Space), ("strings.asciiSpace", laid_strings_asciiSpace)] }
def FenceCallsSaid : Prop := fenceCallsRow.holds Tryz.pinned (OpenSpec.ofChange fenceCallsSpec)

/-- ITS FALSE NEIGHBOUR: 'it returns false'. Refute it at one input. -/
def fenceCallsWrong : ChangeSpec := { name := "fenceCalls", fn := fun _ => fun
  | [d1, d2, d3] => { results := [.lit (.bool false)], args := [d1, d2, d3] }
  | _ => none }
def FenceCallsWrongFalsely : Prop := fenceCallsRow.holds Tryz.pinned (OpenSpec.ofChange fenceCallsWrong)

/-- 'exoduslaw49.FenceOperations': WHATEVER THE INPUT: true; the input reads as it did. -/
def fenceOperationsSpec : ChangeSpec := { name := "fenceOperations", fn := fun _ => fun
  | [d1, d2, d3] => { results := [.lit (.bool true)], args := [d1, d2, d3] }
  | _ => none }
def fenceOperationsRow : OpenClaim := { program := "ytboapdcmaeojgaagreatdoor", sum := "2891b28010025db1dfc3076600c48ac3e10f8a8df60dee7cca7eb89849d7c4c2", func := "exodus/exoduslaw49.FenceOperations", spec := "fenceOperations", unfollowed := true, recurses := true, named := ["strings.asciiSpace", "unicode.White_Space"], apart := false, laid := [("unicode.White_Space", laid_unicode_White_Space), ("strings.asciiSpace", laid_strings_asciiSpace)] }
def FenceOperationsSaid : Prop := fenceOperationsRow.holds Tryz.pinned (OpenSpec.ofChange fenceOperationsSpec)

/-- ITS FALSE NEIGHBOUR: 'it returns false'. Refute it at one input. -/
def fenceOperationsWrong : ChangeSpec := { name := "fenceOperations", fn := fun _ => fun
  | [d1, d2, d3] => { results := [.lit (.bool false)], args := [d1, d2, d3] }
  | _ => none }
def FenceOperationsWrongFalsely : Prop := fenceOperationsRow.holds Tryz.pinned (OpenSpec.ofChange fenceOperationsWrong)

/-- 'exoduslaw49.FenceSaves': WHATEVER THE INPUT: true; the input reads as it did. -/
def fenceSavesSpec : ChangeSpec := { name := "fenceSaves", fn := fun _ => fun
  | [d1, d2, d3, d4, d5] => { results := [.lit (.bool true)], args := [d1, d2, d3, d4, d5] }
  | _ => none }
def fenceSavesRow : OpenClaim := { program := "ytboapdcmaeojgaagreatdoor", sum := "2891b28010025db1dfc3076600c48ac3e10f8a8df60dee7cca7eb89849d7c4c2", func := "exodus/exoduslaw49.FenceSaves", spec := "fenceSaves", unfollowed := true, recurses := true, named := ["strings.asciiSpace", "unicode.White_Space"], apart := false, laid := [("unicode.White_Space", laid_unicode_White_Space), ("strings.asciiSpace", laid_strings_asciiSpace)] }
def FenceSavesSaid : Prop := fenceSavesRow.holds Tryz.pinned (OpenSpec.ofChange fenceSavesSpec)

/-- ITS FALSE NEIGHBOUR: 'it returns false'. Refute it at one input. -/
def fenceSavesWrong : ChangeSpec := { name := "fenceSaves", fn := fun _ => fun
  | [d1, d2, d3, d4, d5] => { results := [.lit (.bool false)], args := [d1, d2, d3, d4, d5] }
  | _ => none }
def FenceSavesWrongFalsely : Prop := fenceSavesRow.holds Tryz.pinned (OpenSpec.ofChange fenceSavesWrong)

/- THE SECOND FORM. 'bulk': how many values and letters a reading holds, each counted each time it is reached (what is shared counts as often as it is met; a slice's spare places count too). A statement '..UptoSaid' is the law's where the arguments, and the package variables that the reading takes, are together of bulk at most 1048576: NARROWER than '..Said'. Prove '..Said' where nothing that the law and all that it calls make is longer than what came in: it says more and counts as full. Else prove '..UptoSaid'. A law counts once. -/
mutual
def uptoBulk {H : Type} : DataW H → Nat
  | .lit (.string bytes) => bytes.length + 1
  | .lit _ => 1
  | .nil => 1
  | .ptr d => uptoBulk d + 1
  | .slice elems spare => uptoBulkAll elems + uptoBulkAll spare + 1
  | .agg parts => uptoBulkAll parts + 1
  | .iface _ d => uptoBulk d + 1
  | .map entries => uptoBulkEntries entries + 1
  | .held _ => 1
def uptoBulkAll {H : Type} : List (DataW H) → Nat
  | [] => 0
  | d :: r => uptoBulk d + uptoBulkAll r
def uptoBulkEntries {H : Type} : List (Lit × DataW H) → Nat
  | [] => 0
  | x :: r => uptoBulkEntry x + uptoBulkEntries r
def uptoBulkEntry {H : Type} : Lit × DataW H → Nat
  | (.string bytes, d) => bytes.length + uptoBulk d + 1
  | (_, d) => uptoBulk d + 1
 end
def uptoSmall : (H : Type) → List (DataW H) → Bool := fun _ ds => decide (uptoBulkAll ds ≤ 1048576)
def OpenSpec.upto (s : _root_.Go.ChangeSpec) : _root_.Go.OpenSpec := { _root_.Go.OpenSpec.ofChange s with cond := some uptoSmall }

/-- 'exoduslaw49.FenceReplicas', WHERE WHAT IT READS IS OF BULK AT MOST 1048576: true; the input reads as it did. -/
def fenceReplicasUptoRow : OpenClaim := { program := "ytboapdcmaeojgaagreatdoor", sum := "2891b28010025db1dfc3076600c48ac3e10f8a8df60dee7cca7eb89849d7c4c2", func := "exodus/exoduslaw49.FenceReplicas", spec := "fenceReplicas", unfollowed := true, recurses := true, named := ["strings.asciiSpace", "unicode.White_Space"], apart := false, laid := [("unicode.White_Space", laid_unicode_White_Space), ("strings.asciiSpace", laid_strings_asciiSpace)], narrowed := true }
def FenceReplicasUptoSaid : Prop := fenceReplicasUptoRow.holds Tryz.pinned (OpenSpec.upto fenceReplicasSpec)

/-- 'exoduslaw49.FenceGenerations', WHERE WHAT IT READS IS OF BULK AT MOST 1048576: true; the input reads as it did. -/
def fenceGenerationsUptoRow : OpenClaim := { program := "ytboapdcmaeojgaagreatdoor", sum := "2891b28010025db1dfc3076600c48ac3e10f8a8df60dee7cca7eb89849d7c4c2", func := "exodus/exoduslaw49.FenceGenerations", spec := "fenceGenerations", unfollowed := true, recurses := true, named := ["strings.asciiSpace", "unicode.White_Space"], apart := false, laid := [("unicode.White_Space", laid_unicode_White_Space), ("strings.asciiSpace", laid_strings_asciiSpace)], narrowed := true }
def FenceGenerationsUptoSaid : Prop := fenceGenerationsUptoRow.holds Tryz.pinned (OpenSpec.upto fenceGenerationsSpec)

/-- 'exoduslaw49.FenceNew', WHERE WHAT IT READS IS OF BULK AT MOST 1048576: true; the input reads as it did. -/
def fenceNewUptoRow : OpenClaim := { program := "ytboapdcmaeojgaagreatdoor", sum := "2891b28010025db1dfc3076600c48ac3e10f8a8df60dee7cca7eb89849d7c4c2", func := "exodus/exoduslaw49.FenceNew", spec := "fenceNew", unfollowed := true, recurses := true, named := ["strings.asciiSpace", "unicode.White_Space"], apart := false, laid := [("unicode.White_Space", laid_unicode_White_Space), ("strings.asciiSpace", laid_strings_asciiSpace)], narrowed := true }
def FenceNewUptoSaid : Prop := fenceNewUptoRow.holds Tryz.pinned (OpenSpec.upto fenceNewSpec)

/-- 'exoduslaw49.FenceJobs', WHERE WHAT IT READS IS OF BULK AT MOST 1048576: true; the input reads as it did. -/
def fenceJobsUptoRow : OpenClaim := { program := "ytboapdcmaeojgaagreatdoor", sum := "2891b28010025db1dfc3076600c48ac3e10f8a8df60dee7cca7eb89849d7c4c2", func := "exodus/exoduslaw49.FenceJobs", spec := "fenceJobs", unfollowed := true, recurses := true, named := ["strings.asciiSpace", "unicode.White_Space"], apart := false, laid := [("unicode.White_Space", laid_unicode_White_Space), ("strings.asciiSpace", laid_strings_asciiSpace)], narrowed := true }
def FenceJobsUptoSaid : Prop := fenceJobsUptoRow.holds Tryz.pinned (OpenSpec.upto fenceJobsSpec)

/-- 'exoduslaw49.FenceRepeats', WHERE WHAT IT READS IS OF BULK AT MOST 1048576: true; the input reads as it did. -/
def fenceRepeatsUptoRow : OpenClaim := { program := "ytboapdcmaeojgaagreatdoor", sum := "2891b28010025db1dfc3076600c48ac3e10f8a8df60dee7cca7eb89849d7c4c2", func := "exodus/exoduslaw49.FenceRepeats", spec := "fenceRepeats", unfollowed := true, recurses := true, named := ["strings.asciiSpace", "unicode.White_Space"], apart := false, laid := [("unicode.White_Space", laid_unicode_White_Space), ("strings.asciiSpace", laid_strings_asciiSpace)], narrowed := true }
def FenceRepeatsUptoSaid : Prop := fenceRepeatsUptoRow.holds Tryz.pinned (OpenSpec.upto fenceRepeatsSpec)

/-- 'exoduslaw49.FenceCalls', WHERE WHAT IT READS IS OF BULK AT MOST 1048576: true; the input reads as it did. -/
def fenceCallsUptoRow : OpenClaim := { program := "ytboapdcmaeojgaagreatdoor", sum := "2891b28010025db1dfc3076600c48ac3e10f8a8df60dee7cca7eb89849d7c4c2", func := "exodus/exoduslaw49.FenceCalls", spec := "fenceCalls", unfollowed := true, recurses := true, named := ["strings.asciiSpace", "unicode.White_Space"], apart := false, laid := [("unicode.White_Space", laid_unicode_White_Space), ("strings.asciiSpace", laid_strings_asciiSpace)], narrowed := true }
def FenceCallsUptoSaid : Prop := fenceCallsUptoRow.holds Tryz.pinned (OpenSpec.upto fenceCallsSpec)

/-- 'exoduslaw49.FenceOperations', WHERE WHAT IT READS IS OF BULK AT MOST 1048576: true; the input reads as it did. -/
def fenceOperationsUptoRow : OpenClaim := { program := "ytboapdcmaeojgaagreatdoor", sum := "2891b28010025db1dfc3076600c48ac3e10f8a8df60dee7cca7eb89849d7c4c2", func := "exodus/exoduslaw49.FenceOperations", spec := "fenceOperations", unfollowed := true, recurses := true, named := ["strings.asciiSpace", "unicode.White_Space"], apart := false, laid := [("unicode.White_Space", laid_unicode_White_Space), ("strings.asciiSpace", laid_strings_asciiSpace)], narrowed := true }
def FenceOperationsUptoSaid : Prop := fenceOperationsUptoRow.holds Tryz.pinned (OpenSpec.upto fenceOperationsSpec)

/-- 'exoduslaw49.FenceSaves', WHERE WHAT IT READS IS OF BULK AT MOST 1048576: true; the input reads as it did. -/
def fenceSavesUptoRow : OpenClaim := { program := "ytboapdcmaeojgaagreatdoor", sum := "2891b28010025db1dfc3076600c48ac3e10f8a8df60dee7cca7eb89849d7c4c2", func := "exodus/exoduslaw49.FenceSaves", spec := "fenceSaves", unfollowed := true, recurses := true, named := ["strings.asciiSpace", "unicode.White_Space"], apart := false, laid := [("unicode.White_Space", laid_unicode_White_Space), ("strings.asciiSpace", laid_strings_asciiSpace)], narrowed := true }
def FenceSavesUptoSaid : Prop := fenceSavesUptoRow.holds Tryz.pinned (OpenSpec.upto fenceSavesSpec)

end Rows
end Go.Proofs.YtboapdcmaeojgaaGreatDoor
