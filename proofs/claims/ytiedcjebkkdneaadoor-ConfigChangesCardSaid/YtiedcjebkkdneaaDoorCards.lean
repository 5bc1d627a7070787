/-
  DERIVED. GIVEN WITH THE SEED: THE CARDS: each row of YtiedcjebkkdneaaDoorRows.lean that lists a variable, with what it lists TIED to the program's text (the seventh form; the later family's looks); each row that meets fmt, with fmt's text TOLD by the authors' own Lean function (tested against real Go, not proved from fmt's source: count such statements apart). THE CARD IS WHAT COUNTS. Prove the row's statement (the work); the ties are given (YtiedcjebkkdneaaDoorTie.lean); close each card by the builder's one call (the guide's Derived/Test/ToyasCard.lean, 'card_holds'). Laid BY PROGRAM, IN A SANDBOX (cutbox-door.mjs). By AI agents, Wed Nov 11 2026. No macro, syntax, notation, axiom, sorry.
-/
import Derived.Test.YtiedcjebkkdneaaDoorRows
import GoSem.ClaimSeven
namespace Go.Proofs.YtiedcjebkkdneaaDoor
namespace Rows

/-- THE TIED CARD OF 'exoduslaw37.ConfigGrows'. -/
def configGrowsCard : Claim7 := { stood := { row := configGrowsRow, standIns := [], harness := (true, "ca4e8d19c5e7404a19c80188983b958356e459ac2b18c7e874e3e22b823904ab"), looks := false }, kinds := [], alts := [], laidByText := true, laidKinds := [.data, .data, .data], laidTests := true, laidLooks := .later }
def ConfigGrowsCardSaid : Prop := Claim7.holds Tryd.pinned (.plain (OpenSpec.ofChange configGrowsSpec)) configGrowsCard

/-- THE TIED CARD OF 'exoduslaw37.ConfigQuorums'. -/
def configQuorumsCard : Claim7 := { stood := { row := configQuorumsRow, standIns := [], harness := (true, "ca4e8d19c5e7404a19c80188983b958356e459ac2b18c7e874e3e22b823904ab"), looks := false }, kinds := [], alts := [], laidByText := true, laidKinds := [.data, .data, .data], laidTests := true, laidLooks := .later }
def ConfigQuorumsCardSaid : Prop := Claim7.holds Tryd.pinned (.plain (OpenSpec.ofChange configQuorumsSpec)) configQuorumsCard

/-- THE TIED CARD OF 'exoduslaw37.ConfigReached'. -/
def configReachedCard : Claim7 := { stood := { row := configReachedRow, standIns := [], harness := (true, "ca4e8d19c5e7404a19c80188983b958356e459ac2b18c7e874e3e22b823904ab"), looks := false }, kinds := [], alts := [], laidByText := true, laidKinds := [.data, .data, .data], laidTests := true, laidLooks := .later }
def ConfigReachedCardSaid : Prop := Claim7.holds Tryd.pinned (.plain (OpenSpec.ofChange configReachedSpec)) configReachedCard

/-- THE TIED CARD OF 'exoduslaw37.ConfigOverlaps'. -/
def configOverlapsCard : Claim7 := { stood := { row := configOverlapsRow, standIns := [], harness := (true, "ca4e8d19c5e7404a19c80188983b958356e459ac2b18c7e874e3e22b823904ab"), looks := false }, kinds := [], alts := [], laidByText := true, laidKinds := [.data, .data, .data], laidTests := true, laidLooks := .later }
def ConfigOverlapsCardSaid : Prop := Claim7.holds Tryd.pinned (.plain (OpenSpec.ofChange configOverlapsSpec)) configOverlapsCard

/-- THE TIED CARD OF 'exoduslaw37.ConfigChanges'. -/
def configChangesCard : Claim7 := { stood := { row := configChangesRow, standIns := [], harness := (true, "ca4e8d19c5e7404a19c80188983b958356e459ac2b18c7e874e3e22b823904ab"), looks := false }, kinds := [], alts := [], laidByText := true, laidKinds := [.data, .data, .data], laidTests := true, laidLooks := .later }
def ConfigChangesCardSaid : Prop := Claim7.holds Tryd.pinned (.plain (OpenSpec.ofChange configChangesSpec)) configChangesCard

/-- THE SECOND FORM's CARD OF 'exoduslaw37.ConfigGrows'. -/
def configGrowsUptoCard : Claim7 := { stood := { row := configGrowsUptoRow, standIns := [], harness := (true, "ca4e8d19c5e7404a19c80188983b958356e459ac2b18c7e874e3e22b823904ab"), looks := false }, kinds := [], alts := [], laidByText := true, laidKinds := [.data, .data, .data], laidTests := true, laidLooks := .later }
def ConfigGrowsUptoCardSaid : Prop := Claim7.holds Tryd.pinned (.plain (OpenSpec.upto configGrowsSpec)) configGrowsUptoCard

/-- THE SECOND FORM's CARD OF 'exoduslaw37.ConfigQuorums'. -/
def configQuorumsUptoCard : Claim7 := { stood := { row := configQuorumsUptoRow, standIns := [], harness := (true, "ca4e8d19c5e7404a19c80188983b958356e459ac2b18c7e874e3e22b823904ab"), looks := false }, kinds := [], alts := [], laidByText := true, laidKinds := [.data, .data, .data], laidTests := true, laidLooks := .later }
def ConfigQuorumsUptoCardSaid : Prop := Claim7.holds Tryd.pinned (.plain (OpenSpec.upto configQuorumsSpec)) configQuorumsUptoCard

/-- THE SECOND FORM's CARD OF 'exoduslaw37.ConfigReached'. -/
def configReachedUptoCard : Claim7 := { stood := { row := configReachedUptoRow, standIns := [], harness := (true, "ca4e8d19c5e7404a19c80188983b958356e459ac2b18c7e874e3e22b823904ab"), looks := false }, kinds := [], alts := [], laidByText := true, laidKinds := [.data, .data, .data], laidTests := true, laidLooks := .later }
def ConfigReachedUptoCardSaid : Prop := Claim7.holds Tryd.pinned (.plain (OpenSpec.upto configReachedSpec)) configReachedUptoCard

/-- THE SECOND FORM's CARD OF 'exoduslaw37.ConfigOverlaps'. -/
def configOverlapsUptoCard : Claim7 := { stood := { row := configOverlapsUptoRow, standIns := [], harness := (true, "ca4e8d19c5e7404a19c80188983b958356e459ac2b18c7e874e3e22b823904ab"), looks := false }, kinds := [], alts := [], laidByText := true, laidKinds := [.data, .data, .data], laidTests := true, laidLooks := .later }
def ConfigOverlapsUptoCardSaid : Prop := Claim7.holds Tryd.pinned (.plain (OpenSpec.upto configOverlapsSpec)) configOverlapsUptoCard

/-- THE SECOND FORM's CARD OF 'exoduslaw37.ConfigChanges'. -/
def configChangesUptoCard : Claim7 := { stood := { row := configChangesUptoRow, standIns := [], harness := (true, "ca4e8d19c5e7404a19c80188983b958356e459ac2b18c7e874e3e22b823904ab"), looks := false }, kinds := [], alts := [], laidByText := true, laidKinds := [.data, .data, .data], laidTests := true, laidLooks := .later }
def ConfigChangesUptoCardSaid : Prop := Claim7.holds Tryd.pinned (.plain (OpenSpec.upto configChangesSpec)) configChangesUptoCard
end Rows
end Go.Proofs.YtiedcjebkkdneaaDoor
