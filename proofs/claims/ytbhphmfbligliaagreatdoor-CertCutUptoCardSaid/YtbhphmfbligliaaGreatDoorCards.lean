/-
  DERIVED. GIVEN WITH THE SEED: THE CARDS: each row of YtbhphmfbligliaaGreatDoorRows.lean that lists a variable, with what it lists TIED to the program's text (the seventh form; the later family's looks); each row that meets fmt, with fmt's text TOLD by the authors' own Lean function (tested against real Go, not proved from fmt's source: count such statements apart). THE CARD IS WHAT COUNTS. Prove the row's statement (the work); the ties are given (YtbhphmfbligliaaGreatDoorTie.lean); close each card by the builder's one call (the guide's Derived/Test/ToyasCard.lean, 'card_holds'). Laid BY PROGRAM, IN A SANDBOX (cutbox-door.mjs). By AI agents, Wed Nov 11 2026. No macro, syntax, notation, axiom, sorry.
-/
import Derived.Test.YtbhphmfbligliaaGreatDoorRows
import GoSem.ClaimSeven
namespace Go.Proofs.YtbhphmfbligliaaGreatDoor
namespace Rows

/-- THE TIED CARD OF 'pedigreelaw16.CertTrees'. -/
def certTreesCard : Claim7 := { stood := { row := certTreesRow, standIns := [], harness := (true, "0341bc4393fdc26467f1678f5748f128e09e80dc114da609bb4200ac99ff0c48"), looks := true }, kinds := [], alts := [], laidByText := true, laidKinds := [.data, .data, .data], laidTests := true, laidLooks := .later }
def CertTreesCardSaid : Prop := Claim7.holds Tryz.pinned (.plain (OpenSpec.ofChange certTreesSpec)) certTreesCard

/-- THE TIED CARD OF 'pedigreelaw16.CertLines'. -/
def certLinesCard : Claim7 := { stood := { row := certLinesRow, standIns := [], harness := (true, "0341bc4393fdc26467f1678f5748f128e09e80dc114da609bb4200ac99ff0c48"), looks := true }, kinds := [], alts := [], laidByText := true, laidKinds := [.data, .data, .data], laidTests := true, laidLooks := .later }
def CertLinesCardSaid : Prop := Claim7.holds Tryz.pinned (.plain (OpenSpec.ofChange certLinesSpec)) certLinesCard

/-- THE TIED CARD OF 'pedigreelaw16.CertReads'. -/
def certReadsCard : Claim7 := { stood := { row := certReadsRow, standIns := [], harness := (true, "0341bc4393fdc26467f1678f5748f128e09e80dc114da609bb4200ac99ff0c48"), looks := true }, kinds := [], alts := [], laidByText := true, laidKinds := [.data, .data, .data], laidTests := true, laidLooks := .later }
def CertReadsCardSaid : Prop := Claim7.holds Tryz.pinned (.plain (OpenSpec.ofChange certReadsSpec)) certReadsCard

/-- THE TIED CARD OF 'pedigreelaw16.CertMarks'. -/
def certMarksCard : Claim7 := { stood := { row := certMarksRow, standIns := [], harness := (true, "0341bc4393fdc26467f1678f5748f128e09e80dc114da609bb4200ac99ff0c48"), looks := true }, kinds := [], alts := [], laidByText := true, laidKinds := [.data, .data, .data], laidTests := true, laidLooks := .later }
def CertMarksCardSaid : Prop := Claim7.holds Tryz.pinned (.plain (OpenSpec.ofChange certMarksSpec)) certMarksCard

/-- THE TIED CARD OF 'pedigreelaw16.CertOneForm'. -/
def certOneFormCard : Claim7 := { stood := { row := certOneFormRow, standIns := [], harness := (true, "0341bc4393fdc26467f1678f5748f128e09e80dc114da609bb4200ac99ff0c48"), looks := true }, kinds := [], alts := [], laidByText := true, laidKinds := [.data, .data, .data], laidTests := true, laidLooks := .later }
def CertOneFormCardSaid : Prop := Claim7.holds Tryz.pinned (.plain (OpenSpec.ofChange certOneFormSpec)) certOneFormCard

/-- THE TIED CARD OF 'pedigreelaw16.CertCut'. -/
def certCutCard : Claim7 := { stood := { row := certCutRow, standIns := [], harness := (true, "0341bc4393fdc26467f1678f5748f128e09e80dc114da609bb4200ac99ff0c48"), looks := true }, kinds := [], alts := [], laidByText := true, laidKinds := [.data, .data, .data], laidTests := true, laidLooks := .later }
def CertCutCardSaid : Prop := Claim7.holds Tryz.pinned (.plain (OpenSpec.ofChange certCutSpec)) certCutCard

/-- THE SECOND FORM's CARD OF 'pedigreelaw16.CertTrees'. -/
def certTreesUptoCard : Claim7 := { stood := { row := certTreesUptoRow, standIns := [], harness := (true, "0341bc4393fdc26467f1678f5748f128e09e80dc114da609bb4200ac99ff0c48"), looks := true }, kinds := [], alts := [], laidByText := true, laidKinds := [.data, .data, .data], laidTests := true, laidLooks := .later }
def CertTreesUptoCardSaid : Prop := Claim7.holds Tryz.pinned (.plain (OpenSpec.upto certTreesSpec)) certTreesUptoCard

/-- THE SECOND FORM's CARD OF 'pedigreelaw16.CertLines'. -/
def certLinesUptoCard : Claim7 := { stood := { row := certLinesUptoRow, standIns := [], harness := (true, "0341bc4393fdc26467f1678f5748f128e09e80dc114da609bb4200ac99ff0c48"), looks := true }, kinds := [], alts := [], laidByText := true, laidKinds := [.data, .data, .data], laidTests := true, laidLooks := .later }
def CertLinesUptoCardSaid : Prop := Claim7.holds Tryz.pinned (.plain (OpenSpec.upto certLinesSpec)) certLinesUptoCard

/-- THE SECOND FORM's CARD OF 'pedigreelaw16.CertReads'. -/
def certReadsUptoCard : Claim7 := { stood := { row := certReadsUptoRow, standIns := [], harness := (true, "0341bc4393fdc26467f1678f5748f128e09e80dc114da609bb4200ac99ff0c48"), looks := true }, kinds := [], alts := [], laidByText := true, laidKinds := [.data, .data, .data], laidTests := true, laidLooks := .later }
def CertReadsUptoCardSaid : Prop := Claim7.holds Tryz.pinned (.plain (OpenSpec.upto certReadsSpec)) certReadsUptoCard

/-- THE SECOND FORM's CARD OF 'pedigreelaw16.CertMarks'. -/
def certMarksUptoCard : Claim7 := { stood := { row := certMarksUptoRow, standIns := [], harness := (true, "0341bc4393fdc26467f1678f5748f128e09e80dc114da609bb4200ac99ff0c48"), looks := true }, kinds := [], alts := [], laidByText := true, laidKinds := [.data, .data, .data], laidTests := true, laidLooks := .later }
def CertMarksUptoCardSaid : Prop := Claim7.holds Tryz.pinned (.plain (OpenSpec.upto certMarksSpec)) certMarksUptoCard

/-- THE SECOND FORM's CARD OF 'pedigreelaw16.CertOneForm'. -/
def certOneFormUptoCard : Claim7 := { stood := { row := certOneFormUptoRow, standIns := [], harness := (true, "0341bc4393fdc26467f1678f5748f128e09e80dc114da609bb4200ac99ff0c48"), looks := true }, kinds := [], alts := [], laidByText := true, laidKinds := [.data, .data, .data], laidTests := true, laidLooks := .later }
def CertOneFormUptoCardSaid : Prop := Claim7.holds Tryz.pinned (.plain (OpenSpec.upto certOneFormSpec)) certOneFormUptoCard

/-- THE SECOND FORM's CARD OF 'pedigreelaw16.CertCut'. -/
def certCutUptoCard : Claim7 := { stood := { row := certCutUptoRow, standIns := [], harness := (true, "0341bc4393fdc26467f1678f5748f128e09e80dc114da609bb4200ac99ff0c48"), looks := true }, kinds := [], alts := [], laidByText := true, laidKinds := [.data, .data, .data], laidTests := true, laidLooks := .later }
def CertCutUptoCardSaid : Prop := Claim7.holds Tryz.pinned (.plain (OpenSpec.upto certCutSpec)) certCutUptoCard
end Rows
end Go.Proofs.YtbhphmfbligliaaGreatDoor
