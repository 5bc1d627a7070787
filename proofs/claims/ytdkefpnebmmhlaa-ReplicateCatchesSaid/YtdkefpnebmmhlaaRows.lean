/-
  No cell of these rows narrows 'for every input' (looked for: loops, veiled, ifaces, maps, wideKeys, modest, calm, conditions, laid).
  DERIVED. THE GIVEN ROWS OF THIS SEAT. 6 by the template 'for every input the law returns true; each argument reads behind the call as it read before'; 0 by the template 'total and deterministic' (their statements: YtdkefpnebmmhlaaTotals.lean).
  GIVEN WITH THE SEED: the statements are not yours to turn. If you find one false, say at which input.
  Laid BY PROGRAM, IN A SANDBOX (cutbox-rows.mjs): the forced cells as the released guide's own fill.sh prints them over the translation 0b7f4c7e95e951e5… (all of the seat's roots in one cut). By AI agents, Wed Nov 11 2026. No macro, syntax, notation, axiom, sorry.
-/
import Derived.Test.YtdkefpnebmmhlaaChecked
import GoSem.Claim
import GoSem.ClaimJoined
import GoSem.ClaimMapViews
import Derived.JoinedTies
import Derived.KernelRfl
namespace Go.Proofs.Ytdkefpnebmmhlaa
/- THE CELL 'sum', in the pinned program and in every row, IS THE sha256 OF THE DUMP (.gsa) THAT YtdkefpnebmmhlaaProg.lean LOADS. Nothing in Lean hashes anything: it is a label: what it is worth is what the hold of that sum in a sandbox is worth. -/
noncomputable def Try.pinned : Pinned := { name := "ytdkefpnebmmhlaa", sum := "0b7f4c7e95e951e5c961b6575e6483a7fd91ee3bcacf97e267114cd976b3bc43", checked := Try.checked }
namespace Rows
def none {H : Type} : Left H := { results := [], args := [] }

/-- 'exoduslaw39.ReplicateCalls': WHATEVER THE INPUT: true; the input reads as it did. -/
def replicateCallsSpec : ChangeSpec := { name := "replicateCalls", fn := fun _ => fun
  | [d1, d2, d3] => { results := [.lit (.bool true)], args := [d1, d2, d3] }
  | _ => none }
def replicateCallsRow : OpenClaim := { program := "ytdkefpnebmmhlaa", sum := "0b7f4c7e95e951e5c961b6575e6483a7fd91ee3bcacf97e267114cd976b3bc43", func := "exodus/exoduslaw39.ReplicateCalls", spec := "replicateCalls", unfollowed := true, recurses := true, apart := false }
def ReplicateCallsSaid : Prop := replicateCallsRow.holds Try.pinned (OpenSpec.ofChange replicateCallsSpec)

/-- ITS FALSE NEIGHBOUR: 'it returns false'. Refute it at one input. -/
def replicateCallsWrong : ChangeSpec := { name := "replicateCalls", fn := fun _ => fun
  | [d1, d2, d3] => { results := [.lit (.bool false)], args := [d1, d2, d3] }
  | _ => none }
def ReplicateCallsWrongFalsely : Prop := replicateCallsRow.holds Try.pinned (OpenSpec.ofChange replicateCallsWrong)

/-- 'exoduslaw39.ReplicateBatches': WHATEVER THE INPUT: true; the input reads as it did. -/
def replicateBatchesSpec : ChangeSpec := { name := "replicateBatches", fn := fun _ => fun
  | [d1, d2, d3, d4, d5] => { results := [.lit (.bool true)], args := [d1, d2, d3, d4, d5] }
  | _ => none }
def replicateBatchesRow : OpenClaim := { program := "ytdkefpnebmmhlaa", sum := "0b7f4c7e95e951e5c961b6575e6483a7fd91ee3bcacf97e267114cd976b3bc43", func := "exodus/exoduslaw39.ReplicateBatches", spec := "replicateBatches", unfollowed := true, recurses := true, apart := false }
def ReplicateBatchesSaid : Prop := replicateBatchesRow.holds Try.pinned (OpenSpec.ofChange replicateBatchesSpec)

/-- ITS FALSE NEIGHBOUR: 'it returns false'. Refute it at one input. -/
def replicateBatchesWrong : ChangeSpec := { name := "replicateBatches", fn := fun _ => fun
  | [d1, d2, d3, d4, d5] => { results := [.lit (.bool false)], args := [d1, d2, d3, d4, d5] }
  | _ => none }
def ReplicateBatchesWrongFalsely : Prop := replicateBatchesRow.holds Try.pinned (OpenSpec.ofChange replicateBatchesWrong)

/-- 'exoduslaw39.ReplicateCommits': WHATEVER THE INPUT: true; the input reads as it did. -/
def replicateCommitsSpec : ChangeSpec := { name := "replicateCommits", fn := fun _ => fun
  | [d1, d2, d3, d4, d5, d6] => { results := [.lit (.bool true)], args := [d1, d2, d3, d4, d5, d6] }
  | _ => none }
def replicateCommitsRow : OpenClaim := { program := "ytdkefpnebmmhlaa", sum := "0b7f4c7e95e951e5c961b6575e6483a7fd91ee3bcacf97e267114cd976b3bc43", func := "exodus/exoduslaw39.ReplicateCommits", spec := "replicateCommits", unfollowed := true, recurses := true, apart := false }
def ReplicateCommitsSaid : Prop := replicateCommitsRow.holds Try.pinned (OpenSpec.ofChange replicateCommitsSpec)

/-- ITS FALSE NEIGHBOUR: 'it returns false'. Refute it at one input. -/
def replicateCommitsWrong : ChangeSpec := { name := "replicateCommits", fn := fun _ => fun
  | [d1, d2, d3, d4, d5, d6] => { results := [.lit (.bool false)], args := [d1, d2, d3, d4, d5, d6] }
  | _ => none }
def ReplicateCommitsWrongFalsely : Prop := replicateCommitsRow.holds Try.pinned (OpenSpec.ofChange replicateCommitsWrong)

/-- 'exoduslaw39.ReplicateGrows': WHATEVER THE INPUT: true; the input reads as it did. -/
def replicateGrowsSpec : ChangeSpec := { name := "replicateGrows", fn := fun _ => fun
  | [d1, d2] => { results := [.lit (.bool true)], args := [d1, d2] }
  | _ => none }
def replicateGrowsRow : OpenClaim := { program := "ytdkefpnebmmhlaa", sum := "0b7f4c7e95e951e5c961b6575e6483a7fd91ee3bcacf97e267114cd976b3bc43", func := "exodus/exoduslaw39.ReplicateGrows", spec := "replicateGrows", unfollowed := true, recurses := true, apart := false }
def ReplicateGrowsSaid : Prop := replicateGrowsRow.holds Try.pinned (OpenSpec.ofChange replicateGrowsSpec)

/-- ITS FALSE NEIGHBOUR: 'it returns false'. Refute it at one input. -/
def replicateGrowsWrong : ChangeSpec := { name := "replicateGrows", fn := fun _ => fun
  | [d1, d2] => { results := [.lit (.bool false)], args := [d1, d2] }
  | _ => none }
def ReplicateGrowsWrongFalsely : Prop := replicateGrowsRow.holds Try.pinned (OpenSpec.ofChange replicateGrowsWrong)

/-- 'exoduslaw39.ReplicateMembers': WHATEVER THE INPUT: true; the input reads as it did. -/
def replicateMembersSpec : ChangeSpec := { name := "replicateMembers", fn := fun _ => fun
  | [d1, d2, d3] => { results := [.lit (.bool true)], args := [d1, d2, d3] }
  | _ => none }
def replicateMembersRow : OpenClaim := { program := "ytdkefpnebmmhlaa", sum := "0b7f4c7e95e951e5c961b6575e6483a7fd91ee3bcacf97e267114cd976b3bc43", func := "exodus/exoduslaw39.ReplicateMembers", spec := "replicateMembers", unfollowed := true, recurses := true, apart := false }
def ReplicateMembersSaid : Prop := replicateMembersRow.holds Try.pinned (OpenSpec.ofChange replicateMembersSpec)

/-- ITS FALSE NEIGHBOUR: 'it returns false'. Refute it at one input. -/
def replicateMembersWrong : ChangeSpec := { name := "replicateMembers", fn := fun _ => fun
  | [d1, d2, d3] => { results := [.lit (.bool false)], args := [d1, d2, d3] }
  | _ => none }
def ReplicateMembersWrongFalsely : Prop := replicateMembersRow.holds Try.pinned (OpenSpec.ofChange replicateMembersWrong)

/-- 'exoduslaw39.ReplicateCatches': WHATEVER THE INPUT: true; the input reads as it did. -/
def replicateCatchesSpec : ChangeSpec := { name := "replicateCatches", fn := fun _ => fun
  | [d1, d2, d3, d4] => { results := [.lit (.bool true)], args := [d1, d2, d3, d4] }
  | _ => none }
def replicateCatchesRow : OpenClaim := { program := "ytdkefpnebmmhlaa", sum := "0b7f4c7e95e951e5c961b6575e6483a7fd91ee3bcacf97e267114cd976b3bc43", func := "exodus/exoduslaw39.ReplicateCatches", spec := "replicateCatches", unfollowed := true, recurses := true, apart := false }
def ReplicateCatchesSaid : Prop := replicateCatchesRow.holds Try.pinned (OpenSpec.ofChange replicateCatchesSpec)

/-- ITS FALSE NEIGHBOUR: 'it returns false'. Refute it at one input. -/
def replicateCatchesWrong : ChangeSpec := { name := "replicateCatches", fn := fun _ => fun
  | [d1, d2, d3, d4] => { results := [.lit (.bool false)], args := [d1, d2, d3, d4] }
  | _ => none }
def ReplicateCatchesWrongFalsely : Prop := replicateCatchesRow.holds Try.pinned (OpenSpec.ofChange replicateCatchesWrong)

/- THE SECOND FORM. 'bulk': how many values and letters a reading holds, each counted each time it is reached (what is shared counts as often as it is met; a slice's spare places count too). A statement '..UptoSaid' is the law's where the arguments, and the package variables that the reading takes, are together of bulk at most 1048576: NARROWER than '..Said'. Prove '..Said' where nothing that the law and all that it calls make is longer than what came in: it says more and counts as full. Else prove '..UptoSaid'. A law counts once. -/
mutual
def uptoBulk {H : Type} : DataW H → Nat
  | .lit (.string bytes) => bytes.length + 1
  | .lit _ => 1
  | .nil => 1
  | .ptr d => uptoBulk d + 1
  | .slice elems spare => uptoBulkAll elems + uptoBulkAll spare + 1
  | .agg parts => uptoBulkAll parts + 1
  | .iface _ d => uptoBulk d + 1
  | .map entries => uptoBulkEntries entries + 1
  | .held _ => 1
def uptoBulkAll {H : Type} : List (DataW H) → Nat
  | [] => 0
  | d :: r => uptoBulk d + uptoBulkAll r
def uptoBulkEntries {H : Type} : List (Lit × DataW H) → Nat
  | [] => 0
  | x :: r => uptoBulkEntry x + uptoBulkEntries r
def uptoBulkEntry {H : Type} : Lit × DataW H → Nat
  | (.string bytes, d) => bytes.length + uptoBulk d + 1
  | (_, d) => uptoBulk d + 1
 end
def uptoSmall : (H : Type) → List (DataW H) → Bool := fun _ ds => decide (uptoBulkAll ds ≤ 1048576)
def OpenSpec.upto (s : _root_.Go.ChangeSpec) : _root_.Go.OpenSpec := { _root_.Go.OpenSpec.ofChange s with cond := some uptoSmall }

/-- 'exoduslaw39.ReplicateCalls', WHERE WHAT IT READS IS OF BULK AT MOST 1048576: true; the input reads as it did. -/
def replicateCallsUptoRow : OpenClaim := { program := "ytdkefpnebmmhlaa", sum := "0b7f4c7e95e951e5c961b6575e6483a7fd91ee3bcacf97e267114cd976b3bc43", func := "exodus/exoduslaw39.ReplicateCalls", spec := "replicateCalls", unfollowed := true, recurses := true, apart := false, narrowed := true }
def ReplicateCallsUptoSaid : Prop := replicateCallsUptoRow.holds Try.pinned (OpenSpec.upto replicateCallsSpec)

/-- 'exoduslaw39.ReplicateBatches', WHERE WHAT IT READS IS OF BULK AT MOST 1048576: true; the input reads as it did. -/
def replicateBatchesUptoRow : OpenClaim := { program := "ytdkefpnebmmhlaa", sum := "0b7f4c7e95e951e5c961b6575e6483a7fd91ee3bcacf97e267114cd976b3bc43", func := "exodus/exoduslaw39.ReplicateBatches", spec := "replicateBatches", unfollowed := true, recurses := true, apart := false, narrowed := true }
def ReplicateBatchesUptoSaid : Prop := replicateBatchesUptoRow.holds Try.pinned (OpenSpec.upto replicateBatchesSpec)

/-- 'exoduslaw39.ReplicateCommits', WHERE WHAT IT READS IS OF BULK AT MOST 1048576: true; the input reads as it did. -/
def replicateCommitsUptoRow : OpenClaim := { program := "ytdkefpnebmmhlaa", sum := "0b7f4c7e95e951e5c961b6575e6483a7fd91ee3bcacf97e267114cd976b3bc43", func := "exodus/exoduslaw39.ReplicateCommits", spec := "replicateCommits", unfollowed := true, recurses := true, apart := false, narrowed := true }
def ReplicateCommitsUptoSaid : Prop := replicateCommitsUptoRow.holds Try.pinned (OpenSpec.upto replicateCommitsSpec)

/-- 'exoduslaw39.ReplicateGrows', WHERE WHAT IT READS IS OF BULK AT MOST 1048576: true; the input reads as it did. -/
def replicateGrowsUptoRow : OpenClaim := { program := "ytdkefpnebmmhlaa", sum := "0b7f4c7e95e951e5c961b6575e6483a7fd91ee3bcacf97e267114cd976b3bc43", func := "exodus/exoduslaw39.ReplicateGrows", spec := "replicateGrows", unfollowed := true, recurses := true, apart := false, narrowed := true }
def ReplicateGrowsUptoSaid : Prop := replicateGrowsUptoRow.holds Try.pinned (OpenSpec.upto replicateGrowsSpec)

/-- 'exoduslaw39.ReplicateMembers', WHERE WHAT IT READS IS OF BULK AT MOST 1048576: true; the input reads as it did. -/
def replicateMembersUptoRow : OpenClaim := { program := "ytdkefpnebmmhlaa", sum := "0b7f4c7e95e951e5c961b6575e6483a7fd91ee3bcacf97e267114cd976b3bc43", func := "exodus/exoduslaw39.ReplicateMembers", spec := "replicateMembers", unfollowed := true, recurses := true, apart := false, narrowed := true }
def ReplicateMembersUptoSaid : Prop := replicateMembersUptoRow.holds Try.pinned (OpenSpec.upto replicateMembersSpec)

/-- 'exoduslaw39.ReplicateCatches', WHERE WHAT IT READS IS OF BULK AT MOST 1048576: true; the input reads as it did. -/
def replicateCatchesUptoRow : OpenClaim := { program := "ytdkefpnebmmhlaa", sum := "0b7f4c7e95e951e5c961b6575e6483a7fd91ee3bcacf97e267114cd976b3bc43", func := "exodus/exoduslaw39.ReplicateCatches", spec := "replicateCatches", unfollowed := true, recurses := true, apart := false, narrowed := true }
def ReplicateCatchesUptoSaid : Prop := replicateCatchesUptoRow.holds Try.pinned (OpenSpec.upto replicateCatchesSpec)

end Rows
end Go.Proofs.Ytdkefpnebmmhlaa
