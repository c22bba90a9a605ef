/-
  DERIVED. GIVEN WITH THE SEED: THE CARDS: each row of YtpnclpbkecjinaaGreatDoorRRows.lean that lists a variable, with what it lists TIED to the program's text (the seventh form; the later family's looks); each row that meets fmt, with fmt's text TOLD by the authors' own Lean function (tested against real Go, not proved from fmt's source: count such statements apart). THE CARD IS WHAT COUNTS. Prove the row's statement (the work); the ties are given (YtpnclpbkecjinaaGreatDoorRTie.lean); close each card by the builder's one call (the guide's Derived/Test/ToyasCard.lean, 'card_holds'). Laid BY PROGRAM, IN A SANDBOX (cutbox-door.mjs). By AI agents, Wed Nov 11 2026. No macro, syntax, notation, axiom, sorry.
-/
import Derived.Test.YtpnclpbkecjinaaGreatDoorRRows
import GoSem.ClaimSeven
namespace Go.Proofs.YtpnclpbkecjinaaGreatDoorR
namespace Rows

/-- THE TIED CARD OF 'pedigreelaw06.SoundTypes'. -/
def soundTypesCard : Claim7 := { stood := { row := soundTypesRow, standIns := [], harness := (true, "b4e0179e924bffee38520b697ab0924ea028fbfc6addbee4c31ea98958d658dd"), looks := false }, kinds := [], alts := [], laidByText := true, laidKinds := [.data, .data, .data], laidTests := true, laidLooks := .later }
def SoundTypesCardSaid : Prop := Claim7.holds Tryz.pinned (.plain (OpenSpec.ofChange soundTypesSpec)) soundTypesCard

/-- THE TIED CARD OF 'pedigreelaw06.SoundFits'. -/
def soundFitsCard : Claim7 := { stood := { row := soundFitsRow, standIns := [], harness := (true, "b4e0179e924bffee38520b697ab0924ea028fbfc6addbee4c31ea98958d658dd"), looks := false }, kinds := [], alts := [], laidByText := true, laidKinds := [.data, .data, .data], laidTests := true, laidLooks := .later }
def SoundFitsCardSaid : Prop := Claim7.holds Tryz.pinned (.plain (OpenSpec.ofChange soundFitsSpec)) soundFitsCard

/-- THE TIED CARD OF 'pedigreelaw06.SoundGoals'. -/
def soundGoalsCard : Claim7 := { stood := { row := soundGoalsRow, standIns := [], harness := (true, "b4e0179e924bffee38520b697ab0924ea028fbfc6addbee4c31ea98958d658dd"), looks := false }, kinds := [], alts := [], laidByText := true, laidKinds := [.data, .data, .data], laidTests := true, laidLooks := .later }
def SoundGoalsCardSaid : Prop := Claim7.holds Tryz.pinned (.plain (OpenSpec.ofChange soundGoalsSpec)) soundGoalsCard

/-- THE TIED CARD OF 'pedigreelaw06.SoundChecks'. -/
def soundChecksCard : Claim7 := { stood := { row := soundChecksRow, standIns := [], harness := (true, "b4e0179e924bffee38520b697ab0924ea028fbfc6addbee4c31ea98958d658dd"), looks := false }, kinds := [], alts := [], laidByText := true, laidKinds := [.data, .data, .data], laidTests := true, laidLooks := .later }
def SoundChecksCardSaid : Prop := Claim7.holds Tryz.pinned (.plain (OpenSpec.ofChange soundChecksSpec)) soundChecksCard

/-- THE TIED CARD OF 'pedigreelaw06.SoundVars'. -/
def soundVarsCard : Claim7 := { stood := { row := soundVarsRow, standIns := [], harness := (true, "b4e0179e924bffee38520b697ab0924ea028fbfc6addbee4c31ea98958d658dd"), looks := false }, kinds := [], alts := [], laidByText := true, laidKinds := [.data, .data, .data], laidTests := true, laidLooks := .later }
def SoundVarsCardSaid : Prop := Claim7.holds Tryz.pinned (.plain (OpenSpec.ofChange soundVarsSpec)) soundVarsCard

/-- THE TIED CARD OF 'pedigreelaw06.SoundTurned'. -/
def soundTurnedCard : Claim7 := { stood := { row := soundTurnedRow, standIns := [], harness := (true, "b4e0179e924bffee38520b697ab0924ea028fbfc6addbee4c31ea98958d658dd"), looks := false }, kinds := [], alts := [], laidByText := true, laidKinds := [.data, .data, .data], laidTests := true, laidLooks := .later }
def SoundTurnedCardSaid : Prop := Claim7.holds Tryz.pinned (.plain (OpenSpec.ofChange soundTurnedSpec)) soundTurnedCard

/-- THE TIED CARD OF 'pedigreelaw06.SoundFaults'. -/
def soundFaultsCard : Claim7 := { stood := { row := soundFaultsRow, standIns := [], harness := (true, "b4e0179e924bffee38520b697ab0924ea028fbfc6addbee4c31ea98958d658dd"), looks := false }, kinds := [], alts := [], laidByText := true, laidKinds := [.data, .data, .data], laidTests := true, laidLooks := .later }
def SoundFaultsCardSaid : Prop := Claim7.holds Tryz.pinned (.plain (OpenSpec.ofChange soundFaultsSpec)) soundFaultsCard

/-- THE TIED CARD OF 'pedigreelaw06.SoundLess'. -/
def soundLessCard : Claim7 := { stood := { row := soundLessRow, standIns := [], harness := (true, "b4e0179e924bffee38520b697ab0924ea028fbfc6addbee4c31ea98958d658dd"), looks := false }, kinds := [], alts := [], laidByText := true, laidKinds := [.data, .data, .data], laidTests := true, laidLooks := .later }
def SoundLessCardSaid : Prop := Claim7.holds Tryz.pinned (.plain (OpenSpec.ofChange soundLessSpec)) soundLessCard

/-- THE SECOND FORM's CARD OF 'pedigreelaw06.SoundTypes'. -/
def soundTypesUptoCard : Claim7 := { stood := { row := soundTypesUptoRow, standIns := [], harness := (true, "b4e0179e924bffee38520b697ab0924ea028fbfc6addbee4c31ea98958d658dd"), looks := false }, kinds := [], alts := [], laidByText := true, laidKinds := [.data, .data, .data], laidTests := true, laidLooks := .later }
def SoundTypesUptoCardSaid : Prop := Claim7.holds Tryz.pinned (.plain (OpenSpec.upto soundTypesSpec)) soundTypesUptoCard

/-- THE SECOND FORM's CARD OF 'pedigreelaw06.SoundFits'. -/
def soundFitsUptoCard : Claim7 := { stood := { row := soundFitsUptoRow, standIns := [], harness := (true, "b4e0179e924bffee38520b697ab0924ea028fbfc6addbee4c31ea98958d658dd"), looks := false }, kinds := [], alts := [], laidByText := true, laidKinds := [.data, .data, .data], laidTests := true, laidLooks := .later }
def SoundFitsUptoCardSaid : Prop := Claim7.holds Tryz.pinned (.plain (OpenSpec.upto soundFitsSpec)) soundFitsUptoCard

/-- THE SECOND FORM's CARD OF 'pedigreelaw06.SoundGoals'. -/
def soundGoalsUptoCard : Claim7 := { stood := { row := soundGoalsUptoRow, standIns := [], harness := (true, "b4e0179e924bffee38520b697ab0924ea028fbfc6addbee4c31ea98958d658dd"), looks := false }, kinds := [], alts := [], laidByText := true, laidKinds := [.data, .data, .data], laidTests := true, laidLooks := .later }
def SoundGoalsUptoCardSaid : Prop := Claim7.holds Tryz.pinned (.plain (OpenSpec.upto soundGoalsSpec)) soundGoalsUptoCard

/-- THE SECOND FORM's CARD OF 'pedigreelaw06.SoundChecks'. -/
def soundChecksUptoCard : Claim7 := { stood := { row := soundChecksUptoRow, standIns := [], harness := (true, "b4e0179e924bffee38520b697ab0924ea028fbfc6addbee4c31ea98958d658dd"), looks := false }, kinds := [], alts := [], laidByText := true, laidKinds := [.data, .data, .data], laidTests := true, laidLooks := .later }
def SoundChecksUptoCardSaid : Prop := Claim7.holds Tryz.pinned (.plain (OpenSpec.upto soundChecksSpec)) soundChecksUptoCard

/-- THE SECOND FORM's CARD OF 'pedigreelaw06.SoundVars'. -/
def soundVarsUptoCard : Claim7 := { stood := { row := soundVarsUptoRow, standIns := [], harness := (true, "b4e0179e924bffee38520b697ab0924ea028fbfc6addbee4c31ea98958d658dd"), looks := false }, kinds := [], alts := [], laidByText := true, laidKinds := [.data, .data, .data], laidTests := true, laidLooks := .later }
def SoundVarsUptoCardSaid : Prop := Claim7.holds Tryz.pinned (.plain (OpenSpec.upto soundVarsSpec)) soundVarsUptoCard

/-- THE SECOND FORM's CARD OF 'pedigreelaw06.SoundTurned'. -/
def soundTurnedUptoCard : Claim7 := { stood := { row := soundTurnedUptoRow, standIns := [], harness := (true, "b4e0179e924bffee38520b697ab0924ea028fbfc6addbee4c31ea98958d658dd"), looks := false }, kinds := [], alts := [], laidByText := true, laidKinds := [.data, .data, .data], laidTests := true, laidLooks := .later }
def SoundTurnedUptoCardSaid : Prop := Claim7.holds Tryz.pinned (.plain (OpenSpec.upto soundTurnedSpec)) soundTurnedUptoCard

/-- THE SECOND FORM's CARD OF 'pedigreelaw06.SoundFaults'. -/
def soundFaultsUptoCard : Claim7 := { stood := { row := soundFaultsUptoRow, standIns := [], harness := (true, "b4e0179e924bffee38520b697ab0924ea028fbfc6addbee4c31ea98958d658dd"), looks := false }, kinds := [], alts := [], laidByText := true, laidKinds := [.data, .data, .data], laidTests := true, laidLooks := .later }
def SoundFaultsUptoCardSaid : Prop := Claim7.holds Tryz.pinned (.plain (OpenSpec.upto soundFaultsSpec)) soundFaultsUptoCard

/-- THE SECOND FORM's CARD OF 'pedigreelaw06.SoundLess'. -/
def soundLessUptoCard : Claim7 := { stood := { row := soundLessUptoRow, standIns := [], harness := (true, "b4e0179e924bffee38520b697ab0924ea028fbfc6addbee4c31ea98958d658dd"), looks := false }, kinds := [], alts := [], laidByText := true, laidKinds := [.data, .data, .data], laidTests := true, laidLooks := .later }
def SoundLessUptoCardSaid : Prop := Claim7.holds Tryz.pinned (.plain (OpenSpec.upto soundLessSpec)) soundLessUptoCard
end Rows
end Go.Proofs.YtpnclpbkecjinaaGreatDoorR
