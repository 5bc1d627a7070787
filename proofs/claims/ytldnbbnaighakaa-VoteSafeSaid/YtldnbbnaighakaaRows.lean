/-
  No cell of these rows narrows 'for every input' (looked for: loops, veiled, ifaces, maps, wideKeys, modest, calm, conditions, laid).
  DERIVED. THE GIVEN ROWS OF THIS SEAT. 6 by the template 'for every input the law returns true; each argument reads behind the call as it read before'; 0 by the template 'total and deterministic' (their statements: YtldnbbnaighakaaTotals.lean).
  GIVEN WITH THE SEED: the statements are not yours to turn. If you find one false, say at which input.
  Laid BY PROGRAM, IN A SANDBOX (cutbox-rows.mjs): the forced cells as the released guide's own fill.sh prints them over the translation c6abc1e8118790cd… (all of the seat's roots in one cut). By AI agents, Wed Nov 11 2026. No macro, syntax, notation, axiom, sorry.
-/
import Derived.Test.YtldnbbnaighakaaChecked
import GoSem.Claim
import GoSem.ClaimJoined
import GoSem.ClaimMapViews
import Derived.JoinedTies
import Derived.KernelRfl
namespace Go.Proofs.Ytldnbbnaighakaa
/- THE CELL 'sum', in the pinned program and in every row, IS THE sha256 OF THE DUMP (.gsa) THAT YtldnbbnaighakaaProg.lean LOADS. Nothing in Lean hashes anything: it is a label: what it is worth is what the hold of that sum in a sandbox is worth. -/
noncomputable def Try.pinned : Pinned := { name := "ytldnbbnaighakaa", sum := "c6abc1e8118790cdc99e0bd8b7ee3a9e96302e4882fbc78ef87d62fa974726bb", checked := Try.checked }
namespace Rows
def none {H : Type} : Left H := { results := [], args := [] }

/-- 'exoduslaw38.VoteTimeouts': WHATEVER THE INPUT: true; the input reads as it did. -/
def voteTimeoutsSpec : ChangeSpec := { name := "voteTimeouts", fn := fun _ => fun
  | [d1, d2, d3] => { results := [.lit (.bool true)], args := [d1, d2, d3] }
  | _ => none }
def voteTimeoutsRow : OpenClaim := { program := "ytldnbbnaighakaa", sum := "c6abc1e8118790cdc99e0bd8b7ee3a9e96302e4882fbc78ef87d62fa974726bb", func := "exodus/exoduslaw38.VoteTimeouts", spec := "voteTimeouts", unfollowed := true, recurses := true, apart := false }
def VoteTimeoutsSaid : Prop := voteTimeoutsRow.holds Try.pinned (OpenSpec.ofChange voteTimeoutsSpec)

/-- ITS FALSE NEIGHBOUR: 'it returns false'. Refute it at one input. -/
def voteTimeoutsWrong : ChangeSpec := { name := "voteTimeouts", fn := fun _ => fun
  | [d1, d2, d3] => { results := [.lit (.bool false)], args := [d1, d2, d3] }
  | _ => none }
def VoteTimeoutsWrongFalsely : Prop := voteTimeoutsRow.holds Try.pinned (OpenSpec.ofChange voteTimeoutsWrong)

/-- 'exoduslaw38.VoteOne': WHATEVER THE INPUT: true; the input reads as it did. -/
def voteOneSpec : ChangeSpec := { name := "voteOne", fn := fun _ => fun
  | [d1, d2] => { results := [.lit (.bool true)], args := [d1, d2] }
  | _ => none }
def voteOneRow : OpenClaim := { program := "ytldnbbnaighakaa", sum := "c6abc1e8118790cdc99e0bd8b7ee3a9e96302e4882fbc78ef87d62fa974726bb", func := "exodus/exoduslaw38.VoteOne", spec := "voteOne", unfollowed := true, recurses := true, apart := false }
def VoteOneSaid : Prop := voteOneRow.holds Try.pinned (OpenSpec.ofChange voteOneSpec)

/-- ITS FALSE NEIGHBOUR: 'it returns false'. Refute it at one input. -/
def voteOneWrong : ChangeSpec := { name := "voteOne", fn := fun _ => fun
  | [d1, d2] => { results := [.lit (.bool false)], args := [d1, d2] }
  | _ => none }
def VoteOneWrongFalsely : Prop := voteOneRow.holds Try.pinned (OpenSpec.ofChange voteOneWrong)

/-- 'exoduslaw38.VoteSafe': WHATEVER THE INPUT: true; the input reads as it did. -/
def voteSafeSpec : ChangeSpec := { name := "voteSafe", fn := fun _ => fun
  | [d1, d2] => { results := [.lit (.bool true)], args := [d1, d2] }
  | _ => none }
def voteSafeRow : OpenClaim := { program := "ytldnbbnaighakaa", sum := "c6abc1e8118790cdc99e0bd8b7ee3a9e96302e4882fbc78ef87d62fa974726bb", func := "exodus/exoduslaw38.VoteSafe", spec := "voteSafe", unfollowed := true, recurses := true, apart := false }
def VoteSafeSaid : Prop := voteSafeRow.holds Try.pinned (OpenSpec.ofChange voteSafeSpec)

/-- ITS FALSE NEIGHBOUR: 'it returns false'. Refute it at one input. -/
def voteSafeWrong : ChangeSpec := { name := "voteSafe", fn := fun _ => fun
  | [d1, d2] => { results := [.lit (.bool false)], args := [d1, d2] }
  | _ => none }
def VoteSafeWrongFalsely : Prop := voteSafeRow.holds Try.pinned (OpenSpec.ofChange voteSafeWrong)

/-- 'exoduslaw38.VoteCalls': WHATEVER THE INPUT: true; the input reads as it did. -/
def voteCallsSpec : ChangeSpec := { name := "voteCalls", fn := fun _ => fun
  | [d1, d2, d3, d4, d5] => { results := [.lit (.bool true)], args := [d1, d2, d3, d4, d5] }
  | _ => none }
def voteCallsRow : OpenClaim := { program := "ytldnbbnaighakaa", sum := "c6abc1e8118790cdc99e0bd8b7ee3a9e96302e4882fbc78ef87d62fa974726bb", func := "exodus/exoduslaw38.VoteCalls", spec := "voteCalls", unfollowed := true, recurses := true, apart := false }
def VoteCallsSaid : Prop := voteCallsRow.holds Try.pinned (OpenSpec.ofChange voteCallsSpec)

/-- ITS FALSE NEIGHBOUR: 'it returns false'. Refute it at one input. -/
def voteCallsWrong : ChangeSpec := { name := "voteCalls", fn := fun _ => fun
  | [d1, d2, d3, d4, d5] => { results := [.lit (.bool false)], args := [d1, d2, d3, d4, d5] }
  | _ => none }
def VoteCallsWrongFalsely : Prop := voteCallsRow.holds Try.pinned (OpenSpec.ofChange voteCallsWrong)

/-- 'exoduslaw38.VoteStops': WHATEVER THE INPUT: true; the input reads as it did. -/
def voteStopsSpec : ChangeSpec := { name := "voteStops", fn := fun _ => fun
  | [d1, d2, d3] => { results := [.lit (.bool true)], args := [d1, d2, d3] }
  | _ => none }
def voteStopsRow : OpenClaim := { program := "ytldnbbnaighakaa", sum := "c6abc1e8118790cdc99e0bd8b7ee3a9e96302e4882fbc78ef87d62fa974726bb", func := "exodus/exoduslaw38.VoteStops", spec := "voteStops", unfollowed := true, recurses := true, apart := false }
def VoteStopsSaid : Prop := voteStopsRow.holds Try.pinned (OpenSpec.ofChange voteStopsSpec)

/-- ITS FALSE NEIGHBOUR: 'it returns false'. Refute it at one input. -/
def voteStopsWrong : ChangeSpec := { name := "voteStops", fn := fun _ => fun
  | [d1, d2, d3] => { results := [.lit (.bool false)], args := [d1, d2, d3] }
  | _ => none }
def VoteStopsWrongFalsely : Prop := voteStopsRow.holds Try.pinned (OpenSpec.ofChange voteStopsWrong)

/-- 'exoduslaw38.VoteWins': WHATEVER THE INPUT: true; the input reads as it did. -/
def voteWinsSpec : ChangeSpec := { name := "voteWins", fn := fun _ => fun
  | [d1, d2] => { results := [.lit (.bool true)], args := [d1, d2] }
  | _ => none }
def voteWinsRow : OpenClaim := { program := "ytldnbbnaighakaa", sum := "c6abc1e8118790cdc99e0bd8b7ee3a9e96302e4882fbc78ef87d62fa974726bb", func := "exodus/exoduslaw38.VoteWins", spec := "voteWins", unfollowed := true, recurses := true, apart := false }
def VoteWinsSaid : Prop := voteWinsRow.holds Try.pinned (OpenSpec.ofChange voteWinsSpec)

/-- ITS FALSE NEIGHBOUR: 'it returns false'. Refute it at one input. -/
def voteWinsWrong : ChangeSpec := { name := "voteWins", fn := fun _ => fun
  | [d1, d2] => { results := [.lit (.bool false)], args := [d1, d2] }
  | _ => none }
def VoteWinsWrongFalsely : Prop := voteWinsRow.holds Try.pinned (OpenSpec.ofChange voteWinsWrong)

/- THE SECOND FORM. 'bulk': how many values and letters a reading holds, each counted each time it is reached (what is shared counts as often as it is met; a slice's spare places count too). A statement '..UptoSaid' is the law's where the arguments, and the package variables that the reading takes, are together of bulk at most 1048576: NARROWER than '..Said'. Prove '..Said' where nothing that the law and all that it calls make is longer than what came in: it says more and counts as full. Else prove '..UptoSaid'. A law counts once. -/
mutual
def uptoBulk {H : Type} : DataW H → Nat
  | .lit (.string bytes) => bytes.length + 1
  | .lit _ => 1
  | .nil => 1
  | .ptr d => uptoBulk d + 1
  | .slice elems spare => uptoBulkAll elems + uptoBulkAll spare + 1
  | .agg parts => uptoBulkAll parts + 1
  | .iface _ d => uptoBulk d + 1
  | .map entries => uptoBulkEntries entries + 1
  | .held _ => 1
def uptoBulkAll {H : Type} : List (DataW H) → Nat
  | [] => 0
  | d :: r => uptoBulk d + uptoBulkAll r
def uptoBulkEntries {H : Type} : List (Lit × DataW H) → Nat
  | [] => 0
  | x :: r => uptoBulkEntry x + uptoBulkEntries r
def uptoBulkEntry {H : Type} : Lit × DataW H → Nat
  | (.string bytes, d) => bytes.length + uptoBulk d + 1
  | (_, d) => uptoBulk d + 1
 end
def uptoSmall : (H : Type) → List (DataW H) → Bool := fun _ ds => decide (uptoBulkAll ds ≤ 1048576)
def OpenSpec.upto (s : _root_.Go.ChangeSpec) : _root_.Go.OpenSpec := { _root_.Go.OpenSpec.ofChange s with cond := some uptoSmall }

/-- 'exoduslaw38.VoteTimeouts', WHERE WHAT IT READS IS OF BULK AT MOST 1048576: true; the input reads as it did. -/
def voteTimeoutsUptoRow : OpenClaim := { program := "ytldnbbnaighakaa", sum := "c6abc1e8118790cdc99e0bd8b7ee3a9e96302e4882fbc78ef87d62fa974726bb", func := "exodus/exoduslaw38.VoteTimeouts", spec := "voteTimeouts", unfollowed := true, recurses := true, apart := false, narrowed := true }
def VoteTimeoutsUptoSaid : Prop := voteTimeoutsUptoRow.holds Try.pinned (OpenSpec.upto voteTimeoutsSpec)

/-- 'exoduslaw38.VoteOne', WHERE WHAT IT READS IS OF BULK AT MOST 1048576: true; the input reads as it did. -/
def voteOneUptoRow : OpenClaim := { program := "ytldnbbnaighakaa", sum := "c6abc1e8118790cdc99e0bd8b7ee3a9e96302e4882fbc78ef87d62fa974726bb", func := "exodus/exoduslaw38.VoteOne", spec := "voteOne", unfollowed := true, recurses := true, apart := false, narrowed := true }
def VoteOneUptoSaid : Prop := voteOneUptoRow.holds Try.pinned (OpenSpec.upto voteOneSpec)

/-- 'exoduslaw38.VoteSafe', WHERE WHAT IT READS IS OF BULK AT MOST 1048576: true; the input reads as it did. -/
def voteSafeUptoRow : OpenClaim := { program := "ytldnbbnaighakaa", sum := "c6abc1e8118790cdc99e0bd8b7ee3a9e96302e4882fbc78ef87d62fa974726bb", func := "exodus/exoduslaw38.VoteSafe", spec := "voteSafe", unfollowed := true, recurses := true, apart := false, narrowed := true }
def VoteSafeUptoSaid : Prop := voteSafeUptoRow.holds Try.pinned (OpenSpec.upto voteSafeSpec)

/-- 'exoduslaw38.VoteCalls', WHERE WHAT IT READS IS OF BULK AT MOST 1048576: true; the input reads as it did. -/
def voteCallsUptoRow : OpenClaim := { program := "ytldnbbnaighakaa", sum := "c6abc1e8118790cdc99e0bd8b7ee3a9e96302e4882fbc78ef87d62fa974726bb", func := "exodus/exoduslaw38.VoteCalls", spec := "voteCalls", unfollowed := true, recurses := true, apart := false, narrowed := true }
def VoteCallsUptoSaid : Prop := voteCallsUptoRow.holds Try.pinned (OpenSpec.upto voteCallsSpec)

/-- 'exoduslaw38.VoteStops', WHERE WHAT IT READS IS OF BULK AT MOST 1048576: true; the input reads as it did. -/
def voteStopsUptoRow : OpenClaim := { program := "ytldnbbnaighakaa", sum := "c6abc1e8118790cdc99e0bd8b7ee3a9e96302e4882fbc78ef87d62fa974726bb", func := "exodus/exoduslaw38.VoteStops", spec := "voteStops", unfollowed := true, recurses := true, apart := false, narrowed := true }
def VoteStopsUptoSaid : Prop := voteStopsUptoRow.holds Try.pinned (OpenSpec.upto voteStopsSpec)

/-- 'exoduslaw38.VoteWins', WHERE WHAT IT READS IS OF BULK AT MOST 1048576: true; the input reads as it did. -/
def voteWinsUptoRow : OpenClaim := { program := "ytldnbbnaighakaa", sum := "c6abc1e8118790cdc99e0bd8b7ee3a9e96302e4882fbc78ef87d62fa974726bb", func := "exodus/exoduslaw38.VoteWins", spec := "voteWins", unfollowed := true, recurses := true, apart := false, narrowed := true }
def VoteWinsUptoSaid : Prop := voteWinsUptoRow.holds Try.pinned (OpenSpec.upto voteWinsSpec)

end Rows
end Go.Proofs.Ytldnbbnaighakaa
