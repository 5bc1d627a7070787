/-
  DERIVED. GIVEN WITH THE SEED: THE CARDS: each row of YtiedcjebkkdneaaGreatDoorRows.lean that lists a variable, with what it lists TIED to the program's text (the seventh form; the later family's looks); each row that meets fmt, with fmt's text TOLD by the authors' own Lean function (tested against real Go, not proved from fmt's source: count such statements apart). THE CARD IS WHAT COUNTS. Prove the row's statement (the work); the ties are given (YtiedcjebkkdneaaGreatDoorTie.lean); close each card by the builder's one call (the guide's Derived/Test/ToyasCard.lean, 'card_holds'). Laid BY PROGRAM, IN A SANDBOX (cutbox-door.mjs). By AI agents, Wed Nov 11 2026. No macro, syntax, notation, axiom, sorry.
-/
import Derived.Test.YtiedcjebkkdneaaGreatDoorRows
import GoSem.ClaimSeven
namespace Go.Proofs.YtiedcjebkkdneaaGreatDoor
namespace Rows

/-- THE TIED CARD OF 'exoduslaw37.ConfigTexts'. -/
def configTextsCard : Claim7 := { stood := { row := configTextsRow, standIns := [], harness := (true, "68e2369d0d220c7a947a83b8f7cc8e41239f79de8354ce59c009131d32222d53"), looks := false }, kinds := [], alts := [], laidByText := true, laidKinds := [.data, .data, .data], laidTests := true, laidLooks := .later }
def ConfigTextsCardSaid : Prop := Claim7.holds Tryz.pinned (.plain (OpenSpec.ofChange configTextsSpec)) configTextsCard

/-- THE SECOND FORM's CARD OF 'exoduslaw37.ConfigTexts'. -/
def configTextsUptoCard : Claim7 := { stood := { row := configTextsUptoRow, standIns := [], harness := (true, "68e2369d0d220c7a947a83b8f7cc8e41239f79de8354ce59c009131d32222d53"), looks := false }, kinds := [], alts := [], laidByText := true, laidKinds := [.data, .data, .data], laidTests := true, laidLooks := .later }
def ConfigTextsUptoCardSaid : Prop := Claim7.holds Tryz.pinned (.plain (OpenSpec.upto configTextsSpec)) configTextsUptoCard
end Rows
end Go.Proofs.YtiedcjebkkdneaaGreatDoor
