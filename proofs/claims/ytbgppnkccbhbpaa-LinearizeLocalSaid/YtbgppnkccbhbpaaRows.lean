/-
  No cell of these rows narrows 'for every input' (looked for: loops, veiled, ifaces, maps, wideKeys, modest, calm, conditions, laid).
  DERIVED. THE GIVEN ROWS OF THIS SEAT. 5 by the template 'for every input the law returns true; each argument reads behind the call as it read before'; 0 by the template 'total and deterministic' (their statements: YtbgppnkccbhbpaaTotals.lean).
  GIVEN WITH THE SEED: the statements are not yours to turn. If you find one false, say at which input.
  Laid BY PROGRAM, IN A SANDBOX (cutbox-rows.mjs): the forced cells as the released guide's own fill.sh prints them over the translation a3868422f80caf18… (all of the seat's roots in one cut). By AI agents, Wed Nov 11 2026. No macro, syntax, notation, axiom, sorry.
-/
import Derived.Test.YtbgppnkccbhbpaaChecked
import GoSem.Claim
import GoSem.ClaimJoined
import GoSem.ClaimMapViews
import Derived.JoinedTies
import Derived.KernelRfl
namespace Go.Proofs.Ytbgppnkccbhbpaa
/- THE CELL 'sum', in the pinned program and in every row, IS THE sha256 OF THE DUMP (.gsa) THAT YtbgppnkccbhbpaaProg.lean LOADS. Nothing in Lean hashes anything: it is a label: what it is worth is what the hold of that sum in a sandbox is worth. -/
noncomputable def Try.pinned : Pinned := { name := "ytbgppnkccbhbpaa", sum := "a3868422f80caf183c4fbb66dee13d11d18a2233dbbd0a027327d9d71d41a0dc", checked := Try.checked }
namespace Rows
def none {H : Type} : Left H := { results := [], args := [] }

/-- 'exoduslaw57.LinearizeChecks': WHATEVER THE INPUT: true; the input reads as it did. -/
def linearizeChecksSpec : ChangeSpec := { name := "linearizeChecks", fn := fun _ => fun
  | [d] => { results := [.lit (.bool true)], args := [d] }
  | _ => none }
def linearizeChecksRow : OpenClaim := { program := "ytbgppnkccbhbpaa", sum := "a3868422f80caf183c4fbb66dee13d11d18a2233dbbd0a027327d9d71d41a0dc", func := "exodus/exoduslaw57.LinearizeChecks", spec := "linearizeChecks", unfollowed := true, recurses := true, plainKeys := false, apart := false }
def LinearizeChecksSaid : Prop := linearizeChecksRow.holds Try.pinned (OpenSpec.ofChange linearizeChecksSpec)

/-- ITS FALSE NEIGHBOUR: 'it returns false'. Refute it at one input. -/
def linearizeChecksWrong : ChangeSpec := { name := "linearizeChecks", fn := fun _ => fun
  | [d] => { results := [.lit (.bool false)], args := [d] }
  | _ => none }
def LinearizeChecksWrongFalsely : Prop := linearizeChecksRow.holds Try.pinned (OpenSpec.ofChange linearizeChecksWrong)

/-- 'exoduslaw57.LinearizeLocal': WHATEVER THE INPUT: true; the input reads as it did. -/
def linearizeLocalSpec : ChangeSpec := { name := "linearizeLocal", fn := fun _ => fun
  | [d] => { results := [.lit (.bool true)], args := [d] }
  | _ => none }
def linearizeLocalRow : OpenClaim := { program := "ytbgppnkccbhbpaa", sum := "a3868422f80caf183c4fbb66dee13d11d18a2233dbbd0a027327d9d71d41a0dc", func := "exodus/exoduslaw57.LinearizeLocal", spec := "linearizeLocal", unfollowed := true, recurses := true, plainKeys := false, apart := false }
def LinearizeLocalSaid : Prop := linearizeLocalRow.holds Try.pinned (OpenSpec.ofChange linearizeLocalSpec)

/-- ITS FALSE NEIGHBOUR: 'it returns false'. Refute it at one input. -/
def linearizeLocalWrong : ChangeSpec := { name := "linearizeLocal", fn := fun _ => fun
  | [d] => { results := [.lit (.bool false)], args := [d] }
  | _ => none }
def LinearizeLocalWrongFalsely : Prop := linearizeLocalRow.holds Try.pinned (OpenSpec.ofChange linearizeLocalWrong)

/-- 'exoduslaw57.LinearizeVerifies': WHATEVER THE INPUT: true; the input reads as it did. -/
def linearizeVerifiesSpec : ChangeSpec := { name := "linearizeVerifies", fn := fun _ => fun
  | [d1, d2] => { results := [.lit (.bool true)], args := [d1, d2] }
  | _ => none }
def linearizeVerifiesRow : OpenClaim := { program := "ytbgppnkccbhbpaa", sum := "a3868422f80caf183c4fbb66dee13d11d18a2233dbbd0a027327d9d71d41a0dc", func := "exodus/exoduslaw57.LinearizeVerifies", spec := "linearizeVerifies", unfollowed := true, recurses := true, plainKeys := false, apart := false }
def LinearizeVerifiesSaid : Prop := linearizeVerifiesRow.holds Try.pinned (OpenSpec.ofChange linearizeVerifiesSpec)

/-- ITS FALSE NEIGHBOUR: 'it returns false'. Refute it at one input. -/
def linearizeVerifiesWrong : ChangeSpec := { name := "linearizeVerifies", fn := fun _ => fun
  | [d1, d2] => { results := [.lit (.bool false)], args := [d1, d2] }
  | _ => none }
def LinearizeVerifiesWrongFalsely : Prop := linearizeVerifiesRow.holds Try.pinned (OpenSpec.ofChange linearizeVerifiesWrong)

/-- 'exoduslaw57.LinearizeRefuses': WHATEVER THE INPUT: true; the input reads as it did. -/
def linearizeRefusesSpec : ChangeSpec := { name := "linearizeRefuses", fn := fun _ => fun
  | [d] => { results := [.lit (.bool true)], args := [d] }
  | _ => none }
def linearizeRefusesRow : OpenClaim := { program := "ytbgppnkccbhbpaa", sum := "a3868422f80caf183c4fbb66dee13d11d18a2233dbbd0a027327d9d71d41a0dc", func := "exodus/exoduslaw57.LinearizeRefuses", spec := "linearizeRefuses", unfollowed := true, recurses := true, plainKeys := false, apart := false }
def LinearizeRefusesSaid : Prop := linearizeRefusesRow.holds Try.pinned (OpenSpec.ofChange linearizeRefusesSpec)

/-- ITS FALSE NEIGHBOUR: 'it returns false'. Refute it at one input. -/
def linearizeRefusesWrong : ChangeSpec := { name := "linearizeRefuses", fn := fun _ => fun
  | [d] => { results := [.lit (.bool false)], args := [d] }
  | _ => none }
def LinearizeRefusesWrongFalsely : Prop := linearizeRefusesRow.holds Try.pinned (OpenSpec.ofChange linearizeRefusesWrong)

/-- 'exoduslaw57.LinearizeExecutes': WHATEVER THE INPUT: true; the input reads as it did. -/
def linearizeExecutesSpec : ChangeSpec := { name := "linearizeExecutes", fn := fun _ => fun
  | [d1, d2] => { results := [.lit (.bool true)], args := [d1, d2] }
  | _ => none }
def linearizeExecutesRow : OpenClaim := { program := "ytbgppnkccbhbpaa", sum := "a3868422f80caf183c4fbb66dee13d11d18a2233dbbd0a027327d9d71d41a0dc", func := "exodus/exoduslaw57.LinearizeExecutes", spec := "linearizeExecutes", unfollowed := true, recurses := true, plainKeys := false, apart := false }
def LinearizeExecutesSaid : Prop := linearizeExecutesRow.holds Try.pinned (OpenSpec.ofChange linearizeExecutesSpec)

/-- ITS FALSE NEIGHBOUR: 'it returns false'. Refute it at one input. -/
def linearizeExecutesWrong : ChangeSpec := { name := "linearizeExecutes", fn := fun _ => fun
  | [d1, d2] => { results := [.lit (.bool false)], args := [d1, d2] }
  | _ => none }
def LinearizeExecutesWrongFalsely : Prop := linearizeExecutesRow.holds Try.pinned (OpenSpec.ofChange linearizeExecutesWrong)

/- THE SECOND FORM. 'bulk': how many values and letters a reading holds, each counted each time it is reached (what is shared counts as often as it is met; a slice's spare places count too). A statement '..UptoSaid' is the law's where the arguments, and the package variables that the reading takes, are together of bulk at most 1048576: NARROWER than '..Said'. Prove '..Said' where nothing that the law and all that it calls make is longer than what came in: it says more and counts as full. Else prove '..UptoSaid'. A law counts once. -/
mutual
def uptoBulk {H : Type} : DataW H → Nat
  | .lit (.string bytes) => bytes.length + 1
  | .lit _ => 1
  | .nil => 1
  | .ptr d => uptoBulk d + 1
  | .slice elems spare => uptoBulkAll elems + uptoBulkAll spare + 1
  | .agg parts => uptoBulkAll parts + 1
  | .iface _ d => uptoBulk d + 1
  | .map entries => uptoBulkEntries entries + 1
  | .held _ => 1
def uptoBulkAll {H : Type} : List (DataW H) → Nat
  | [] => 0
  | d :: r => uptoBulk d + uptoBulkAll r
def uptoBulkEntries {H : Type} : List (Lit × DataW H) → Nat
  | [] => 0
  | x :: r => uptoBulkEntry x + uptoBulkEntries r
def uptoBulkEntry {H : Type} : Lit × DataW H → Nat
  | (.string bytes, d) => bytes.length + uptoBulk d + 1
  | (_, d) => uptoBulk d + 1
 end
def uptoSmall : (H : Type) → List (DataW H) → Bool := fun _ ds => decide (uptoBulkAll ds ≤ 1048576)
def OpenSpec.upto (s : _root_.Go.ChangeSpec) : _root_.Go.OpenSpec := { _root_.Go.OpenSpec.ofChange s with cond := some uptoSmall }

/-- 'exoduslaw57.LinearizeChecks', WHERE WHAT IT READS IS OF BULK AT MOST 1048576: true; the input reads as it did. -/
def linearizeChecksUptoRow : OpenClaim := { program := "ytbgppnkccbhbpaa", sum := "a3868422f80caf183c4fbb66dee13d11d18a2233dbbd0a027327d9d71d41a0dc", func := "exodus/exoduslaw57.LinearizeChecks", spec := "linearizeChecks", unfollowed := true, recurses := true, plainKeys := false, apart := false, narrowed := true }
def LinearizeChecksUptoSaid : Prop := linearizeChecksUptoRow.holds Try.pinned (OpenSpec.upto linearizeChecksSpec)

/-- 'exoduslaw57.LinearizeLocal', WHERE WHAT IT READS IS OF BULK AT MOST 1048576: true; the input reads as it did. -/
def linearizeLocalUptoRow : OpenClaim := { program := "ytbgppnkccbhbpaa", sum := "a3868422f80caf183c4fbb66dee13d11d18a2233dbbd0a027327d9d71d41a0dc", func := "exodus/exoduslaw57.LinearizeLocal", spec := "linearizeLocal", unfollowed := true, recurses := true, plainKeys := false, apart := false, narrowed := true }
def LinearizeLocalUptoSaid : Prop := linearizeLocalUptoRow.holds Try.pinned (OpenSpec.upto linearizeLocalSpec)

/-- 'exoduslaw57.LinearizeVerifies', WHERE WHAT IT READS IS OF BULK AT MOST 1048576: true; the input reads as it did. -/
def linearizeVerifiesUptoRow : OpenClaim := { program := "ytbgppnkccbhbpaa", sum := "a3868422f80caf183c4fbb66dee13d11d18a2233dbbd0a027327d9d71d41a0dc", func := "exodus/exoduslaw57.LinearizeVerifies", spec := "linearizeVerifies", unfollowed := true, recurses := true, plainKeys := false, apart := false, narrowed := true }
def LinearizeVerifiesUptoSaid : Prop := linearizeVerifiesUptoRow.holds Try.pinned (OpenSpec.upto linearizeVerifiesSpec)

/-- 'exoduslaw57.LinearizeRefuses', WHERE WHAT IT READS IS OF BULK AT MOST 1048576: true; the input reads as it did. -/
def linearizeRefusesUptoRow : OpenClaim := { program := "ytbgppnkccbhbpaa", sum := "a3868422f80caf183c4fbb66dee13d11d18a2233dbbd0a027327d9d71d41a0dc", func := "exodus/exoduslaw57.LinearizeRefuses", spec := "linearizeRefuses", unfollowed := true, recurses := true, plainKeys := false, apart := false, narrowed := true }
def LinearizeRefusesUptoSaid : Prop := linearizeRefusesUptoRow.holds Try.pinned (OpenSpec.upto linearizeRefusesSpec)

/-- 'exoduslaw57.LinearizeExecutes', WHERE WHAT IT READS IS OF BULK AT MOST 1048576: true; the input reads as it did. -/
def linearizeExecutesUptoRow : OpenClaim := { program := "ytbgppnkccbhbpaa", sum := "a3868422f80caf183c4fbb66dee13d11d18a2233dbbd0a027327d9d71d41a0dc", func := "exodus/exoduslaw57.LinearizeExecutes", spec := "linearizeExecutes", unfollowed := true, recurses := true, plainKeys := false, apart := false, narrowed := true }
def LinearizeExecutesUptoSaid : Prop := linearizeExecutesUptoRow.holds Try.pinned (OpenSpec.upto linearizeExecutesSpec)

end Rows
end Go.Proofs.Ytbgppnkccbhbpaa
