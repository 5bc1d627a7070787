/-
  DERIVED. GIVEN WITH THE SEED: THE CARDS: each row of YtbgppnkccbhbpaaDoorRows.lean that lists a variable, with what it lists TIED to the program's text (the seventh form; the later family's looks); each row that meets fmt, with fmt's text TOLD by the authors' own Lean function (tested against real Go, not proved from fmt's source: count such statements apart). THE CARD IS WHAT COUNTS. Prove the row's statement (the work); the ties are given (YtbgppnkccbhbpaaDoorTie.lean); close each card by the builder's one call (the guide's Derived/Test/ToyasCard.lean, 'card_holds'). Laid BY PROGRAM, IN A SANDBOX (cutbox-door.mjs). By AI agents, Wed Nov 11 2026. No macro, syntax, notation, axiom, sorry.
-/
import Derived.Test.YtbgppnkccbhbpaaDoorRows
import GoSem.ClaimSeven
namespace Go.Proofs.YtbgppnkccbhbpaaDoor
namespace Rows

/-- THE TIED CARD OF 'exoduslaw56.HistoryOrder'. -/
def historyOrderCard : Claim7 := { stood := { row := historyOrderRow, standIns := [], harness := (true, "cda3f9d68767bdc95260c5c3ba8e5798490fa72f0b17d7662f737831b107051d"), looks := false }, kinds := [], alts := [], laidByText := true, laidKinds := [.data, .data, .data], laidTests := true, laidLooks := .later }
def HistoryOrderCardSaid : Prop := Claim7.holds Tryd.pinned (.plain (OpenSpec.ofChange historyOrderSpec)) historyOrderCard

/-- THE TIED CARD OF 'exoduslaw56.HistoryValid'. -/
def historyValidCard : Claim7 := { stood := { row := historyValidRow, standIns := [], harness := (true, "cda3f9d68767bdc95260c5c3ba8e5798490fa72f0b17d7662f737831b107051d"), looks := false }, kinds := [], alts := [], laidByText := true, laidKinds := [.data, .data, .data], laidTests := true, laidLooks := .later }
def HistoryValidCardSaid : Prop := Claim7.holds Tryd.pinned (.plain (OpenSpec.ofChange historyValidSpec)) historyValidCard

/-- THE TIED CARD OF 'exoduslaw56.HistoryPrefixes'. -/
def historyPrefixesCard : Claim7 := { stood := { row := historyPrefixesRow, standIns := [], harness := (true, "cda3f9d68767bdc95260c5c3ba8e5798490fa72f0b17d7662f737831b107051d"), looks := false }, kinds := [], alts := [], laidByText := true, laidKinds := [.data, .data, .data], laidTests := true, laidLooks := .later }
def HistoryPrefixesCardSaid : Prop := Claim7.holds Tryd.pinned (.plain (OpenSpec.ofChange historyPrefixesSpec)) historyPrefixesCard

/-- THE TIED CARD OF 'exoduslaw56.HistoryOf'. -/
def historyOfCard : Claim7 := { stood := { row := historyOfRow, standIns := [], harness := (true, "cda3f9d68767bdc95260c5c3ba8e5798490fa72f0b17d7662f737831b107051d"), looks := false }, kinds := [], alts := [], laidByText := true, laidKinds := [.data, .data, .data], laidTests := true, laidLooks := .later }
def HistoryOfCardSaid : Prop := Claim7.holds Tryd.pinned (.plain (OpenSpec.ofChange historyOfSpec)) historyOfCard

/-- THE TIED CARD OF 'exoduslaw56.HistoryKeys'. -/
def historyKeysCard : Claim7 := { stood := { row := historyKeysRow, standIns := [], harness := (true, "cda3f9d68767bdc95260c5c3ba8e5798490fa72f0b17d7662f737831b107051d"), looks := false }, kinds := [], alts := [], laidByText := true, laidKinds := [.data, .data, .data], laidTests := true, laidLooks := .later }
def HistoryKeysCardSaid : Prop := Claim7.holds Tryd.pinned (.plain (OpenSpec.ofChange historyKeysSpec)) historyKeysCard

/-- THE TIED CARD OF 'exoduslaw56.HistoryParts'. -/
def historyPartsCard : Claim7 := { stood := { row := historyPartsRow, standIns := [], harness := (true, "cda3f9d68767bdc95260c5c3ba8e5798490fa72f0b17d7662f737831b107051d"), looks := false }, kinds := [], alts := [], laidByText := true, laidKinds := [.data, .data, .data], laidTests := true, laidLooks := .later }
def HistoryPartsCardSaid : Prop := Claim7.holds Tryd.pinned (.plain (OpenSpec.ofChange historyPartsSpec)) historyPartsCard

/-- THE SECOND FORM's CARD OF 'exoduslaw56.HistoryOrder'. -/
def historyOrderUptoCard : Claim7 := { stood := { row := historyOrderUptoRow, standIns := [], harness := (true, "cda3f9d68767bdc95260c5c3ba8e5798490fa72f0b17d7662f737831b107051d"), looks := false }, kinds := [], alts := [], laidByText := true, laidKinds := [.data, .data, .data], laidTests := true, laidLooks := .later }
def HistoryOrderUptoCardSaid : Prop := Claim7.holds Tryd.pinned (.plain (OpenSpec.upto historyOrderSpec)) historyOrderUptoCard

/-- THE SECOND FORM's CARD OF 'exoduslaw56.HistoryValid'. -/
def historyValidUptoCard : Claim7 := { stood := { row := historyValidUptoRow, standIns := [], harness := (true, "cda3f9d68767bdc95260c5c3ba8e5798490fa72f0b17d7662f737831b107051d"), looks := false }, kinds := [], alts := [], laidByText := true, laidKinds := [.data, .data, .data], laidTests := true, laidLooks := .later }
def HistoryValidUptoCardSaid : Prop := Claim7.holds Tryd.pinned (.plain (OpenSpec.upto historyValidSpec)) historyValidUptoCard

/-- THE SECOND FORM's CARD OF 'exoduslaw56.HistoryPrefixes'. -/
def historyPrefixesUptoCard : Claim7 := { stood := { row := historyPrefixesUptoRow, standIns := [], harness := (true, "cda3f9d68767bdc95260c5c3ba8e5798490fa72f0b17d7662f737831b107051d"), looks := false }, kinds := [], alts := [], laidByText := true, laidKinds := [.data, .data, .data], laidTests := true, laidLooks := .later }
def HistoryPrefixesUptoCardSaid : Prop := Claim7.holds Tryd.pinned (.plain (OpenSpec.upto historyPrefixesSpec)) historyPrefixesUptoCard

/-- THE SECOND FORM's CARD OF 'exoduslaw56.HistoryOf'. -/
def historyOfUptoCard : Claim7 := { stood := { row := historyOfUptoRow, standIns := [], harness := (true, "cda3f9d68767bdc95260c5c3ba8e5798490fa72f0b17d7662f737831b107051d"), looks := false }, kinds := [], alts := [], laidByText := true, laidKinds := [.data, .data, .data], laidTests := true, laidLooks := .later }
def HistoryOfUptoCardSaid : Prop := Claim7.holds Tryd.pinned (.plain (OpenSpec.upto historyOfSpec)) historyOfUptoCard

/-- THE SECOND FORM's CARD OF 'exoduslaw56.HistoryKeys'. -/
def historyKeysUptoCard : Claim7 := { stood := { row := historyKeysUptoRow, standIns := [], harness := (true, "cda3f9d68767bdc95260c5c3ba8e5798490fa72f0b17d7662f737831b107051d"), looks := false }, kinds := [], alts := [], laidByText := true, laidKinds := [.data, .data, .data], laidTests := true, laidLooks := .later }
def HistoryKeysUptoCardSaid : Prop := Claim7.holds Tryd.pinned (.plain (OpenSpec.upto historyKeysSpec)) historyKeysUptoCard

/-- THE SECOND FORM's CARD OF 'exoduslaw56.HistoryParts'. -/
def historyPartsUptoCard : Claim7 := { stood := { row := historyPartsUptoRow, standIns := [], harness := (true, "cda3f9d68767bdc95260c5c3ba8e5798490fa72f0b17d7662f737831b107051d"), looks := false }, kinds := [], alts := [], laidByText := true, laidKinds := [.data, .data, .data], laidTests := true, laidLooks := .later }
def HistoryPartsUptoCardSaid : Prop := Claim7.holds Tryd.pinned (.plain (OpenSpec.upto historyPartsSpec)) historyPartsUptoCard
end Rows
end Go.Proofs.YtbgppnkccbhbpaaDoor
