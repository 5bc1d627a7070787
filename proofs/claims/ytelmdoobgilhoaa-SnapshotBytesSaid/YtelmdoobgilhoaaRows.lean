/-
  No cell of these rows narrows 'for every input' (looked for: loops, veiled, ifaces, maps, wideKeys, modest, calm, conditions, laid).
  DERIVED. THE GIVEN ROWS OF THIS SEAT. 6 by the template 'for every input the law returns true; each argument reads behind the call as it read before'; 0 by the template 'total and deterministic' (their statements: YtelmdoobgilhoaaTotals.lean).
  GIVEN WITH THE SEED: the statements are not yours to turn. If you find one false, say at which input.
  Laid BY PROGRAM, IN A SANDBOX (cutbox-rows.mjs): the forced cells as the released guide's own fill.sh prints them over the translation c6f1f4231b7a3113… (all of the seat's roots in one cut). By AI agents, Wed Nov 11 2026. No macro, syntax, notation, axiom, sorry.
-/
import Derived.Test.YtelmdoobgilhoaaChecked
import GoSem.Claim
import GoSem.ClaimJoined
import GoSem.ClaimMapViews
import Derived.JoinedTies
import Derived.KernelRfl
namespace Go.Proofs.Ytelmdoobgilhoaa
/- THE CELL 'sum', in the pinned program and in every row, IS THE sha256 OF THE DUMP (.gsa) THAT YtelmdoobgilhoaaProg.lean LOADS. Nothing in Lean hashes anything: it is a label: what it is worth is what the hold of that sum in a sandbox is worth. -/
noncomputable def Try.pinned : Pinned := { name := "ytelmdoobgilhoaa", sum := "c6f1f4231b7a3113b3bf0f65f496f0719753629c1f24dd19b8047a0b607f9e91", checked := Try.checked }
namespace Rows
def none {H : Type} : Left H := { results := [], args := [] }

/-- 'exoduslaw41.SnapshotCuts': WHATEVER THE INPUT: true; the input reads as it did. -/
def snapshotCutsSpec : ChangeSpec := { name := "snapshotCuts", fn := fun _ => fun
  | [d1, d2, d3] => { results := [.lit (.bool true)], args := [d1, d2, d3] }
  | _ => none }
def snapshotCutsRow : OpenClaim := { program := "ytelmdoobgilhoaa", sum := "c6f1f4231b7a3113b3bf0f65f496f0719753629c1f24dd19b8047a0b607f9e91", func := "exodus/exoduslaw41.SnapshotCuts", spec := "snapshotCuts", inPlace := ["internal/abi.NoEscape"], unfollowed := true, recurses := true, apart := false }
def SnapshotCutsSaid : Prop := snapshotCutsRow.holds Try.pinned (OpenSpec.ofChange snapshotCutsSpec)

/-- ITS FALSE NEIGHBOUR: 'it returns false'. Refute it at one input. -/
def snapshotCutsWrong : ChangeSpec := { name := "snapshotCuts", fn := fun _ => fun
  | [d1, d2, d3] => { results := [.lit (.bool false)], args := [d1, d2, d3] }
  | _ => none }
def SnapshotCutsWrongFalsely : Prop := snapshotCutsRow.holds Try.pinned (OpenSpec.ofChange snapshotCutsWrong)

/-- 'exoduslaw41.SnapshotPacks': WHATEVER THE INPUT: true; the input reads as it did. -/
def snapshotPacksSpec : ChangeSpec := { name := "snapshotPacks", fn := fun _ => fun
  | [d1, d2, d3, d4] => { results := [.lit (.bool true)], args := [d1, d2, d3, d4] }
  | _ => none }
def snapshotPacksRow : OpenClaim := { program := "ytelmdoobgilhoaa", sum := "c6f1f4231b7a3113b3bf0f65f496f0719753629c1f24dd19b8047a0b607f9e91", func := "exodus/exoduslaw41.SnapshotPacks", spec := "snapshotPacks", inPlace := ["internal/abi.NoEscape"], unfollowed := true, recurses := true, apart := false }
def SnapshotPacksSaid : Prop := snapshotPacksRow.holds Try.pinned (OpenSpec.ofChange snapshotPacksSpec)

/-- ITS FALSE NEIGHBOUR: 'it returns false'. Refute it at one input. -/
def snapshotPacksWrong : ChangeSpec := { name := "snapshotPacks", fn := fun _ => fun
  | [d1, d2, d3, d4] => { results := [.lit (.bool false)], args := [d1, d2, d3, d4] }
  | _ => none }
def SnapshotPacksWrongFalsely : Prop := snapshotPacksRow.holds Try.pinned (OpenSpec.ofChange snapshotPacksWrong)

/-- 'exoduslaw41.SnapshotBytes': WHATEVER THE INPUT: true; the input reads as it did. -/
def snapshotBytesSpec : ChangeSpec := { name := "snapshotBytes", fn := fun _ => fun
  | [d] => { results := [.lit (.bool true)], args := [d] }
  | _ => none }
def snapshotBytesRow : OpenClaim := { program := "ytelmdoobgilhoaa", sum := "c6f1f4231b7a3113b3bf0f65f496f0719753629c1f24dd19b8047a0b607f9e91", func := "exodus/exoduslaw41.SnapshotBytes", spec := "snapshotBytes", inPlace := ["internal/abi.NoEscape"], unfollowed := true, recurses := true, apart := false }
def SnapshotBytesSaid : Prop := snapshotBytesRow.holds Try.pinned (OpenSpec.ofChange snapshotBytesSpec)

/-- ITS FALSE NEIGHBOUR: 'it returns false'. Refute it at one input. -/
def snapshotBytesWrong : ChangeSpec := { name := "snapshotBytes", fn := fun _ => fun
  | [d] => { results := [.lit (.bool false)], args := [d] }
  | _ => none }
def SnapshotBytesWrongFalsely : Prop := snapshotBytesRow.holds Try.pinned (OpenSpec.ofChange snapshotBytesWrong)

/-- 'exoduslaw41.SnapshotTakes': WHATEVER THE INPUT: true; the input reads as it did. -/
def snapshotTakesSpec : ChangeSpec := { name := "snapshotTakes", fn := fun _ => fun
  | [d] => { results := [.lit (.bool true)], args := [d] }
  | _ => none }
def snapshotTakesRow : OpenClaim := { program := "ytelmdoobgilhoaa", sum := "c6f1f4231b7a3113b3bf0f65f496f0719753629c1f24dd19b8047a0b607f9e91", func := "exodus/exoduslaw41.SnapshotTakes", spec := "snapshotTakes", inPlace := ["internal/abi.NoEscape"], unfollowed := true, recurses := true, apart := false }
def SnapshotTakesSaid : Prop := snapshotTakesRow.holds Try.pinned (OpenSpec.ofChange snapshotTakesSpec)

/-- ITS FALSE NEIGHBOUR: 'it returns false'. Refute it at one input. -/
def snapshotTakesWrong : ChangeSpec := { name := "snapshotTakes", fn := fun _ => fun
  | [d] => { results := [.lit (.bool false)], args := [d] }
  | _ => none }
def SnapshotTakesWrongFalsely : Prop := snapshotTakesRow.holds Try.pinned (OpenSpec.ofChange snapshotTakesWrong)

/-- 'exoduslaw41.SnapshotArrives': WHATEVER THE INPUT: true; the input reads as it did. -/
def snapshotArrivesSpec : ChangeSpec := { name := "snapshotArrives", fn := fun _ => fun
  | [d1, d2, d3] => { results := [.lit (.bool true)], args := [d1, d2, d3] }
  | _ => none }
def snapshotArrivesRow : OpenClaim := { program := "ytelmdoobgilhoaa", sum := "c6f1f4231b7a3113b3bf0f65f496f0719753629c1f24dd19b8047a0b607f9e91", func := "exodus/exoduslaw41.SnapshotArrives", spec := "snapshotArrives", inPlace := ["internal/abi.NoEscape"], unfollowed := true, recurses := true, apart := false }
def SnapshotArrivesSaid : Prop := snapshotArrivesRow.holds Try.pinned (OpenSpec.ofChange snapshotArrivesSpec)

/-- ITS FALSE NEIGHBOUR: 'it returns false'. Refute it at one input. -/
def snapshotArrivesWrong : ChangeSpec := { name := "snapshotArrives", fn := fun _ => fun
  | [d1, d2, d3] => { results := [.lit (.bool false)], args := [d1, d2, d3] }
  | _ => none }
def SnapshotArrivesWrongFalsely : Prop := snapshotArrivesRow.holds Try.pinned (OpenSpec.ofChange snapshotArrivesWrong)

/-- 'exoduslaw41.SnapshotAnew': WHATEVER THE INPUT: true; the input reads as it did. -/
def snapshotAnewSpec : ChangeSpec := { name := "snapshotAnew", fn := fun _ => fun
  | [d1, d2] => { results := [.lit (.bool true)], args := [d1, d2] }
  | _ => none }
def snapshotAnewRow : OpenClaim := { program := "ytelmdoobgilhoaa", sum := "c6f1f4231b7a3113b3bf0f65f496f0719753629c1f24dd19b8047a0b607f9e91", func := "exodus/exoduslaw41.SnapshotAnew", spec := "snapshotAnew", inPlace := ["internal/abi.NoEscape"], unfollowed := true, recurses := true, apart := false }
def SnapshotAnewSaid : Prop := snapshotAnewRow.holds Try.pinned (OpenSpec.ofChange snapshotAnewSpec)

/-- ITS FALSE NEIGHBOUR: 'it returns false'. Refute it at one input. -/
def snapshotAnewWrong : ChangeSpec := { name := "snapshotAnew", fn := fun _ => fun
  | [d1, d2] => { results := [.lit (.bool false)], args := [d1, d2] }
  | _ => none }
def SnapshotAnewWrongFalsely : Prop := snapshotAnewRow.holds Try.pinned (OpenSpec.ofChange snapshotAnewWrong)

/- THE SECOND FORM. 'bulk': how many values and letters a reading holds, each counted each time it is reached (what is shared counts as often as it is met; a slice's spare places count too). A statement '..UptoSaid' is the law's where the arguments, and the package variables that the reading takes, are together of bulk at most 1048576: NARROWER than '..Said'. Prove '..Said' where nothing that the law and all that it calls make is longer than what came in: it says more and counts as full. Else prove '..UptoSaid'. A law counts once. -/
mutual
def uptoBulk {H : Type} : DataW H → Nat
  | .lit (.string bytes) => bytes.length + 1
  | .lit _ => 1
  | .nil => 1
  | .ptr d => uptoBulk d + 1
  | .slice elems spare => uptoBulkAll elems + uptoBulkAll spare + 1
  | .agg parts => uptoBulkAll parts + 1
  | .iface _ d => uptoBulk d + 1
  | .map entries => uptoBulkEntries entries + 1
  | .held _ => 1
def uptoBulkAll {H : Type} : List (DataW H) → Nat
  | [] => 0
  | d :: r => uptoBulk d + uptoBulkAll r
def uptoBulkEntries {H : Type} : List (Lit × DataW H) → Nat
  | [] => 0
  | x :: r => uptoBulkEntry x + uptoBulkEntries r
def uptoBulkEntry {H : Type} : Lit × DataW H → Nat
  | (.string bytes, d) => bytes.length + uptoBulk d + 1
  | (_, d) => uptoBulk d + 1
 end
def uptoSmall : (H : Type) → List (DataW H) → Bool := fun _ ds => decide (uptoBulkAll ds ≤ 1048576)
def OpenSpec.upto (s : _root_.Go.ChangeSpec) : _root_.Go.OpenSpec := { _root_.Go.OpenSpec.ofChange s with cond := some uptoSmall }

/-- 'exoduslaw41.SnapshotCuts', WHERE WHAT IT READS IS OF BULK AT MOST 1048576: true; the input reads as it did. -/
def snapshotCutsUptoRow : OpenClaim := { program := "ytelmdoobgilhoaa", sum := "c6f1f4231b7a3113b3bf0f65f496f0719753629c1f24dd19b8047a0b607f9e91", func := "exodus/exoduslaw41.SnapshotCuts", spec := "snapshotCuts", inPlace := ["internal/abi.NoEscape"], unfollowed := true, recurses := true, apart := false, narrowed := true }
def SnapshotCutsUptoSaid : Prop := snapshotCutsUptoRow.holds Try.pinned (OpenSpec.upto snapshotCutsSpec)

/-- 'exoduslaw41.SnapshotPacks', WHERE WHAT IT READS IS OF BULK AT MOST 1048576: true; the input reads as it did. -/
def snapshotPacksUptoRow : OpenClaim := { program := "ytelmdoobgilhoaa", sum := "c6f1f4231b7a3113b3bf0f65f496f0719753629c1f24dd19b8047a0b607f9e91", func := "exodus/exoduslaw41.SnapshotPacks", spec := "snapshotPacks", inPlace := ["internal/abi.NoEscape"], unfollowed := true, recurses := true, apart := false, narrowed := true }
def SnapshotPacksUptoSaid : Prop := snapshotPacksUptoRow.holds Try.pinned (OpenSpec.upto snapshotPacksSpec)

/-- 'exoduslaw41.SnapshotBytes', WHERE WHAT IT READS IS OF BULK AT MOST 1048576: true; the input reads as it did. -/
def snapshotBytesUptoRow : OpenClaim := { program := "ytelmdoobgilhoaa", sum := "c6f1f4231b7a3113b3bf0f65f496f0719753629c1f24dd19b8047a0b607f9e91", func := "exodus/exoduslaw41.SnapshotBytes", spec := "snapshotBytes", inPlace := ["internal/abi.NoEscape"], unfollowed := true, recurses := true, apart := false, narrowed := true }
def SnapshotBytesUptoSaid : Prop := snapshotBytesUptoRow.holds Try.pinned (OpenSpec.upto snapshotBytesSpec)

/-- 'exoduslaw41.SnapshotTakes', WHERE WHAT IT READS IS OF BULK AT MOST 1048576: true; the input reads as it did. -/
def snapshotTakesUptoRow : OpenClaim := { program := "ytelmdoobgilhoaa", sum := "c6f1f4231b7a3113b3bf0f65f496f0719753629c1f24dd19b8047a0b607f9e91", func := "exodus/exoduslaw41.SnapshotTakes", spec := "snapshotTakes", inPlace := ["internal/abi.NoEscape"], unfollowed := true, recurses := true, apart := false, narrowed := true }
def SnapshotTakesUptoSaid : Prop := snapshotTakesUptoRow.holds Try.pinned (OpenSpec.upto snapshotTakesSpec)

/-- 'exoduslaw41.SnapshotArrives', WHERE WHAT IT READS IS OF BULK AT MOST 1048576: true; the input reads as it did. -/
def snapshotArrivesUptoRow : OpenClaim := { program := "ytelmdoobgilhoaa", sum := "c6f1f4231b7a3113b3bf0f65f496f0719753629c1f24dd19b8047a0b607f9e91", func := "exodus/exoduslaw41.SnapshotArrives", spec := "snapshotArrives", inPlace := ["internal/abi.NoEscape"], unfollowed := true, recurses := true, apart := false, narrowed := true }
def SnapshotArrivesUptoSaid : Prop := snapshotArrivesUptoRow.holds Try.pinned (OpenSpec.upto snapshotArrivesSpec)

/-- 'exoduslaw41.SnapshotAnew', WHERE WHAT IT READS IS OF BULK AT MOST 1048576: true; the input reads as it did. -/
def snapshotAnewUptoRow : OpenClaim := { program := "ytelmdoobgilhoaa", sum := "c6f1f4231b7a3113b3bf0f65f496f0719753629c1f24dd19b8047a0b607f9e91", func := "exodus/exoduslaw41.SnapshotAnew", spec := "snapshotAnew", inPlace := ["internal/abi.NoEscape"], unfollowed := true, recurses := true, apart := false, narrowed := true }
def SnapshotAnewUptoSaid : Prop := snapshotAnewUptoRow.holds Try.pinned (OpenSpec.upto snapshotAnewSpec)

end Rows
end Go.Proofs.Ytelmdoobgilhoaa
