/-
  DERIVED. GIVEN WITH THE SEED: THE CARDS: each row of YtlmhfgbkchnfbaaGreatDoorRows.lean that lists a variable, with what it lists TIED to the program's text (the seventh form; the later family's looks); each row that meets fmt, with fmt's text TOLD by the authors' own Lean function (tested against real Go, not proved from fmt's source: count such statements apart). THE CARD IS WHAT COUNTS. Prove the row's statement (the work); the ties are given (YtlmhfgbkchnfbaaGreatDoorTie.lean); close each card by the builder's one call (the guide's Derived/Test/ToyasCard.lean, 'card_holds'). Laid BY PROGRAM, IN A SANDBOX (cutbox-door.mjs). By AI agents, Wed Nov 11 2026. No macro, syntax, notation, axiom, sorry.
-/
import Derived.Test.YtlmhfgbkchnfbaaGreatDoorRows
import GoSem.ClaimSeven
namespace Go.Proofs.YtlmhfgbkchnfbaaGreatDoor
namespace Rows

/-- THE TIED CARD OF 'pedigreelaw23.JournalCuts'. -/
def journalCutsCard : Claim7 := { stood := { row := journalCutsRow, standIns := [], harness := (true, "b3a33b745deaf314bfbb8bcdb444f1ecbd33e717347060b12a79c59df8d580ca"), looks := true }, kinds := [], alts := [], laidByText := true, laidKinds := [.data, .data, .data], laidTests := true, laidLooks := .later }
def JournalCutsCardSaid : Prop := Claim7.holds Tryz.pinned (.plain (OpenSpec.ofChange journalCutsSpec)) journalCutsCard

/-- THE TIED CARD OF 'pedigreelaw23.JournalPacks'. -/
def journalPacksCard : Claim7 := { stood := { row := journalPacksRow, standIns := [], harness := (true, "b3a33b745deaf314bfbb8bcdb444f1ecbd33e717347060b12a79c59df8d580ca"), looks := true }, kinds := [], alts := [], laidByText := true, laidKinds := [.data, .data, .data], laidTests := true, laidLooks := .later }
def JournalPacksCardSaid : Prop := Claim7.holds Tryz.pinned (.plain (OpenSpec.ofChange journalPacksSpec)) journalPacksCard

/-- THE TIED CARD OF 'pedigreelaw23.JournalNil'. -/
def journalNilCard : Claim7 := { stood := { row := journalNilRow, standIns := [], harness := (true, "b3a33b745deaf314bfbb8bcdb444f1ecbd33e717347060b12a79c59df8d580ca"), looks := true }, kinds := [], alts := [], laidByText := true, laidKinds := [.data, .data, .data], laidTests := true, laidLooks := .later }
def JournalNilCardSaid : Prop := Claim7.holds Tryz.pinned (.plain (OpenSpec.ofChange journalNilSpec)) journalNilCard

/-- THE SECOND FORM's CARD OF 'pedigreelaw23.JournalCuts'. -/
def journalCutsUptoCard : Claim7 := { stood := { row := journalCutsUptoRow, standIns := [], harness := (true, "b3a33b745deaf314bfbb8bcdb444f1ecbd33e717347060b12a79c59df8d580ca"), looks := true }, kinds := [], alts := [], laidByText := true, laidKinds := [.data, .data, .data], laidTests := true, laidLooks := .later }
def JournalCutsUptoCardSaid : Prop := Claim7.holds Tryz.pinned (.plain (OpenSpec.upto journalCutsSpec)) journalCutsUptoCard

/-- THE SECOND FORM's CARD OF 'pedigreelaw23.JournalPacks'. -/
def journalPacksUptoCard : Claim7 := { stood := { row := journalPacksUptoRow, standIns := [], harness := (true, "b3a33b745deaf314bfbb8bcdb444f1ecbd33e717347060b12a79c59df8d580ca"), looks := true }, kinds := [], alts := [], laidByText := true, laidKinds := [.data, .data, .data], laidTests := true, laidLooks := .later }
def JournalPacksUptoCardSaid : Prop := Claim7.holds Tryz.pinned (.plain (OpenSpec.upto journalPacksSpec)) journalPacksUptoCard

/-- THE SECOND FORM's CARD OF 'pedigreelaw23.JournalNil'. -/
def journalNilUptoCard : Claim7 := { stood := { row := journalNilUptoRow, standIns := [], harness := (true, "b3a33b745deaf314bfbb8bcdb444f1ecbd33e717347060b12a79c59df8d580ca"), looks := true }, kinds := [], alts := [], laidByText := true, laidKinds := [.data, .data, .data], laidTests := true, laidLooks := .later }
def JournalNilUptoCardSaid : Prop := Claim7.holds Tryz.pinned (.plain (OpenSpec.upto journalNilSpec)) journalNilUptoCard
end Rows
end Go.Proofs.YtlmhfgbkchnfbaaGreatDoor
