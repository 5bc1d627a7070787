/-
  No cell of these rows narrows 'for every input' (looked for: loops, veiled, ifaces, maps, wideKeys, modest, calm, conditions, laid).
  DERIVED. THE GIVEN ROWS OF THIS SEAT. 3 by the template 'for every input the law returns true; each argument reads behind the call as it read before'; 0 by the template 'total and deterministic' (their statements: YtdhfahimildfkaaTotals.lean).
  GIVEN WITH THE SEED: the statements are not yours to turn. If you find one false, say at which input.
  Laid BY PROGRAM, IN A SANDBOX (cutbox-rows.mjs): the forced cells as the released guide's own fill.sh prints them over the translation 97433c220dc848a7… (all of the seat's roots in one cut). By AI agents, Wed Nov 11 2026. No macro, syntax, notation, axiom, sorry.
-/
import Derived.Test.YtdhfahimildfkaaChecked
import GoSem.Claim
import GoSem.ClaimJoined
import GoSem.ClaimMapViews
import Derived.JoinedTies
import Derived.KernelRfl
namespace Go.Proofs.Ytdhfahimildfkaa
/- THE CELL 'sum', in the pinned program and in every row, IS THE sha256 OF THE DUMP (.gsa) THAT YtdhfahimildfkaaProg.lean LOADS. Nothing in Lean hashes anything: it is a label: what it is worth is what the hold of that sum in a sandbox is worth. -/
noncomputable def Try.pinned : Pinned := { name := "ytdhfahimildfkaa", sum := "97433c220dc848a71b2a87ca7a121490a23130142ad1969b3f3aed48a5442005", checked := Try.checked }
namespace Rows
def none {H : Type} : Left H := { results := [], args := [] }

/-- 'exoduslaw44.LeaseExclusive': WHATEVER THE INPUT: true; the input reads as it did. -/
def leaseExclusiveSpec : ChangeSpec := { name := "leaseExclusive", fn := fun _ => fun
  | [d] => { results := [.lit (.bool true)], args := [d] }
  | _ => none }
def leaseExclusiveRow : OpenClaim := { program := "ytdhfahimildfkaa", sum := "97433c220dc848a71b2a87ca7a121490a23130142ad1969b3f3aed48a5442005", func := "exodus/exoduslaw44.LeaseExclusive", spec := "leaseExclusive", apart := false }
def LeaseExclusiveSaid : Prop := leaseExclusiveRow.holds Try.pinned (OpenSpec.ofChange leaseExclusiveSpec)

/-- ITS FALSE NEIGHBOUR: 'it returns false'. Refute it at one input. -/
def leaseExclusiveWrong : ChangeSpec := { name := "leaseExclusive", fn := fun _ => fun
  | [d] => { results := [.lit (.bool false)], args := [d] }
  | _ => none }
def LeaseExclusiveWrongFalsely : Prop := leaseExclusiveRow.holds Try.pinned (OpenSpec.ofChange leaseExclusiveWrong)

/-- 'exoduslaw44.LeaseValid': WHATEVER THE INPUT: true; the input reads as it did. -/
def leaseValidSpec : ChangeSpec := { name := "leaseValid", fn := fun _ => fun
  | [d1, d2, d3, d4, d5] => { results := [.lit (.bool true)], args := [d1, d2, d3, d4, d5] }
  | _ => none }
def leaseValidRow : OpenClaim := { program := "ytdhfahimildfkaa", sum := "97433c220dc848a71b2a87ca7a121490a23130142ad1969b3f3aed48a5442005", func := "exodus/exoduslaw44.LeaseValid", spec := "leaseValid", unfollowed := true, recurses := true, apart := false }
def LeaseValidSaid : Prop := leaseValidRow.holds Try.pinned (OpenSpec.ofChange leaseValidSpec)

/-- ITS FALSE NEIGHBOUR: 'it returns false'. Refute it at one input. -/
def leaseValidWrong : ChangeSpec := { name := "leaseValid", fn := fun _ => fun
  | [d1, d2, d3, d4, d5] => { results := [.lit (.bool false)], args := [d1, d2, d3, d4, d5] }
  | _ => none }
def LeaseValidWrongFalsely : Prop := leaseValidRow.holds Try.pinned (OpenSpec.ofChange leaseValidWrong)

/-- 'exoduslaw44.LeaseQuorums': WHATEVER THE INPUT: true; the input reads as it did. -/
def leaseQuorumsSpec : ChangeSpec := { name := "leaseQuorums", fn := fun _ => fun
  | [d1, d2, d3, d4] => { results := [.lit (.bool true)], args := [d1, d2, d3, d4] }
  | _ => none }
def leaseQuorumsRow : OpenClaim := { program := "ytdhfahimildfkaa", sum := "97433c220dc848a71b2a87ca7a121490a23130142ad1969b3f3aed48a5442005", func := "exodus/exoduslaw44.LeaseQuorums", spec := "leaseQuorums", unfollowed := true, recurses := true, apart := false }
def LeaseQuorumsSaid : Prop := leaseQuorumsRow.holds Try.pinned (OpenSpec.ofChange leaseQuorumsSpec)

/-- ITS FALSE NEIGHBOUR: 'it returns false'. Refute it at one input. -/
def leaseQuorumsWrong : ChangeSpec := { name := "leaseQuorums", fn := fun _ => fun
  | [d1, d2, d3, d4] => { results := [.lit (.bool false)], args := [d1, d2, d3, d4] }
  | _ => none }
def LeaseQuorumsWrongFalsely : Prop := leaseQuorumsRow.holds Try.pinned (OpenSpec.ofChange leaseQuorumsWrong)

/- THE SECOND FORM. 'bulk': how many values and letters a reading holds, each counted each time it is reached (what is shared counts as often as it is met; a slice's spare places count too). A statement '..UptoSaid' is the law's where the arguments, and the package variables that the reading takes, are together of bulk at most 1048576: NARROWER than '..Said'. Prove '..Said' where nothing that the law and all that it calls make is longer than what came in: it says more and counts as full. Else prove '..UptoSaid'. A law counts once. -/
mutual
def uptoBulk {H : Type} : DataW H → Nat
  | .lit (.string bytes) => bytes.length + 1
  | .lit _ => 1
  | .nil => 1
  | .ptr d => uptoBulk d + 1
  | .slice elems spare => uptoBulkAll elems + uptoBulkAll spare + 1
  | .agg parts => uptoBulkAll parts + 1
  | .iface _ d => uptoBulk d + 1
  | .map entries => uptoBulkEntries entries + 1
  | .held _ => 1
def uptoBulkAll {H : Type} : List (DataW H) → Nat
  | [] => 0
  | d :: r => uptoBulk d + uptoBulkAll r
def uptoBulkEntries {H : Type} : List (Lit × DataW H) → Nat
  | [] => 0
  | x :: r => uptoBulkEntry x + uptoBulkEntries r
def uptoBulkEntry {H : Type} : Lit × DataW H → Nat
  | (.string bytes, d) => bytes.length + uptoBulk d + 1
  | (_, d) => uptoBulk d + 1
 end
def uptoSmall : (H : Type) → List (DataW H) → Bool := fun _ ds => decide (uptoBulkAll ds ≤ 1048576)
def OpenSpec.upto (s : _root_.Go.ChangeSpec) : _root_.Go.OpenSpec := { _root_.Go.OpenSpec.ofChange s with cond := some uptoSmall }

/-- 'exoduslaw44.LeaseExclusive', WHERE WHAT IT READS IS OF BULK AT MOST 1048576: true; the input reads as it did. -/
def leaseExclusiveUptoRow : OpenClaim := { program := "ytdhfahimildfkaa", sum := "97433c220dc848a71b2a87ca7a121490a23130142ad1969b3f3aed48a5442005", func := "exodus/exoduslaw44.LeaseExclusive", spec := "leaseExclusive", apart := false, narrowed := true }
def LeaseExclusiveUptoSaid : Prop := leaseExclusiveUptoRow.holds Try.pinned (OpenSpec.upto leaseExclusiveSpec)

/-- 'exoduslaw44.LeaseValid', WHERE WHAT IT READS IS OF BULK AT MOST 1048576: true; the input reads as it did. -/
def leaseValidUptoRow : OpenClaim := { program := "ytdhfahimildfkaa", sum := "97433c220dc848a71b2a87ca7a121490a23130142ad1969b3f3aed48a5442005", func := "exodus/exoduslaw44.LeaseValid", spec := "leaseValid", unfollowed := true, recurses := true, apart := false, narrowed := true }
def LeaseValidUptoSaid : Prop := leaseValidUptoRow.holds Try.pinned (OpenSpec.upto leaseValidSpec)

/-- 'exoduslaw44.LeaseQuorums', WHERE WHAT IT READS IS OF BULK AT MOST 1048576: true; the input reads as it did. -/
def leaseQuorumsUptoRow : OpenClaim := { program := "ytdhfahimildfkaa", sum := "97433c220dc848a71b2a87ca7a121490a23130142ad1969b3f3aed48a5442005", func := "exodus/exoduslaw44.LeaseQuorums", spec := "leaseQuorums", unfollowed := true, recurses := true, apart := false, narrowed := true }
def LeaseQuorumsUptoSaid : Prop := leaseQuorumsUptoRow.holds Try.pinned (OpenSpec.upto leaseQuorumsSpec)

end Rows
end Go.Proofs.Ytdhfahimildfkaa
