/-
  DERIVED. GIVEN WITH THE SEED: THE CARDS: each row of YtllkaddcplhklaaGreatDoorRows.lean that lists a variable, with what it lists TIED to the program's text (the seventh form; the later family's looks); each row that meets fmt, with fmt's text TOLD by the authors' own Lean function (tested against real Go, not proved from fmt's source: count such statements apart). THE CARD IS WHAT COUNTS. Prove the row's statement (the work); the ties are given (YtllkaddcplhklaaGreatDoorTie.lean); close each card by the builder's one call (the guide's Derived/Test/ToyasCard.lean, 'card_holds'). Laid BY PROGRAM, IN A SANDBOX (cutbox-door.mjs). By AI agents, Wed Nov 11 2026. No macro, syntax, notation, axiom, sorry.
-/
import Derived.Test.YtllkaddcplhklaaGreatDoorRows
import GoSem.ClaimSeven
namespace Go.Proofs.YtllkaddcplhklaaGreatDoor
namespace Rows

/-- THE TIED CARD OF 'pedigreelaw12.BaseFull'. -/
def baseFullCard : Claim7 := { stood := { row := baseFullRow, standIns := [], harness := (true, "4985e2c6b804a369ad67c68acb7c179b7b19941d1e4f3a53aa26138d33594e14"), looks := true }, kinds := [], alts := [], laidByText := true, laidKinds := [.data, .data, .data], laidTests := true, laidLooks := .later }
def BaseFullCardSaid : Prop := Claim7.holds Tryz.pinned (.plain (OpenSpec.ofChange baseFullSpec)) baseFullCard

/-- THE TIED CARD OF 'pedigreelaw12.BaseSame'. -/
def baseSameCard : Claim7 := { stood := { row := baseSameRow, standIns := [], harness := (true, "4985e2c6b804a369ad67c68acb7c179b7b19941d1e4f3a53aa26138d33594e14"), looks := true }, kinds := [], alts := [], laidByText := true, laidKinds := [.data, .data, .data], laidTests := true, laidLooks := .later }
def BaseSameCardSaid : Prop := Claim7.holds Tryz.pinned (.plain (OpenSpec.ofChange baseSameSpec)) baseSameCard

/-- THE TIED CARD OF 'pedigreelaw12.BaseNet'. -/
def baseNetCard : Claim7 := { stood := { row := baseNetRow, standIns := [], harness := (true, "4985e2c6b804a369ad67c68acb7c179b7b19941d1e4f3a53aa26138d33594e14"), looks := true }, kinds := [], alts := [], laidByText := true, laidKinds := [.data, .data, .data], laidTests := true, laidLooks := .later }
def BaseNetCardSaid : Prop := Claim7.holds Tryz.pinned (.plain (OpenSpec.ofChange baseNetSpec)) baseNetCard

/-- THE TIED CARD OF 'pedigreelaw12.BaseNil'. -/
def baseNilCard : Claim7 := { stood := { row := baseNilRow, standIns := [], harness := (true, "4985e2c6b804a369ad67c68acb7c179b7b19941d1e4f3a53aa26138d33594e14"), looks := true }, kinds := [], alts := [], laidByText := true, laidKinds := [.data, .data, .data], laidTests := true, laidLooks := .later }
def BaseNilCardSaid : Prop := Claim7.holds Tryz.pinned (.plain (OpenSpec.ofChange baseNilSpec)) baseNilCard

/-- THE SECOND FORM's CARD OF 'pedigreelaw12.BaseFull'. -/
def baseFullUptoCard : Claim7 := { stood := { row := baseFullUptoRow, standIns := [], harness := (true, "4985e2c6b804a369ad67c68acb7c179b7b19941d1e4f3a53aa26138d33594e14"), looks := true }, kinds := [], alts := [], laidByText := true, laidKinds := [.data, .data, .data], laidTests := true, laidLooks := .later }
def BaseFullUptoCardSaid : Prop := Claim7.holds Tryz.pinned (.plain (OpenSpec.upto baseFullSpec)) baseFullUptoCard

/-- THE SECOND FORM's CARD OF 'pedigreelaw12.BaseSame'. -/
def baseSameUptoCard : Claim7 := { stood := { row := baseSameUptoRow, standIns := [], harness := (true, "4985e2c6b804a369ad67c68acb7c179b7b19941d1e4f3a53aa26138d33594e14"), looks := true }, kinds := [], alts := [], laidByText := true, laidKinds := [.data, .data, .data], laidTests := true, laidLooks := .later }
def BaseSameUptoCardSaid : Prop := Claim7.holds Tryz.pinned (.plain (OpenSpec.upto baseSameSpec)) baseSameUptoCard

/-- THE SECOND FORM's CARD OF 'pedigreelaw12.BaseNet'. -/
def baseNetUptoCard : Claim7 := { stood := { row := baseNetUptoRow, standIns := [], harness := (true, "4985e2c6b804a369ad67c68acb7c179b7b19941d1e4f3a53aa26138d33594e14"), looks := true }, kinds := [], alts := [], laidByText := true, laidKinds := [.data, .data, .data], laidTests := true, laidLooks := .later }
def BaseNetUptoCardSaid : Prop := Claim7.holds Tryz.pinned (.plain (OpenSpec.upto baseNetSpec)) baseNetUptoCard

/-- THE SECOND FORM's CARD OF 'pedigreelaw12.BaseNil'. -/
def baseNilUptoCard : Claim7 := { stood := { row := baseNilUptoRow, standIns := [], harness := (true, "4985e2c6b804a369ad67c68acb7c179b7b19941d1e4f3a53aa26138d33594e14"), looks := true }, kinds := [], alts := [], laidByText := true, laidKinds := [.data, .data, .data], laidTests := true, laidLooks := .later }
def BaseNilUptoCardSaid : Prop := Claim7.holds Tryz.pinned (.plain (OpenSpec.upto baseNilSpec)) baseNilUptoCard
end Rows
end Go.Proofs.YtllkaddcplhklaaGreatDoor
