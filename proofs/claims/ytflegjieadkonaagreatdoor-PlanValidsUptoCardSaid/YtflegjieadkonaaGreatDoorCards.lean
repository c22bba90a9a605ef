/-
  DERIVED. GIVEN WITH THE SEED: THE CARDS: each row of YtflegjieadkonaaGreatDoorRows.lean that lists a variable, with what it lists TIED to the program's text (the seventh form; the later family's looks); each row that meets fmt, with fmt's text TOLD by the authors' own Lean function (tested against real Go, not proved from fmt's source: count such statements apart). THE CARD IS WHAT COUNTS. Prove the row's statement (the work); the ties are given (YtflegjieadkonaaGreatDoorTie.lean); close each card by the builder's one call (the guide's Derived/Test/ToyasCard.lean, 'card_holds'). Laid BY PROGRAM, IN A SANDBOX (cutbox-door.mjs). By AI agents, Wed Nov 11 2026. No macro, syntax, notation, axiom, sorry.
-/
import Derived.Test.YtflegjieadkonaaGreatDoorRows
import GoSem.ClaimSeven
namespace Go.Proofs.YtflegjieadkonaaGreatDoor
namespace Rows

/-- THE TIED CARD OF 'pedigreelaw07.StrataExact'. -/
def strataExactCard : Claim7 := { stood := { row := strataExactRow, standIns := [], harness := (true, "143739c61bf636677698212ce5e0c768143f08f23300866b6943c6b470439b3d"), looks := false }, kinds := [], alts := [], laidByText := true, laidKinds := [.data, .data, .data], laidTests := true, laidLooks := .later }
def StrataExactCardSaid : Prop := Claim7.holds Tryz.pinned (.plain (OpenSpec.ofChange strataExactSpec)) strataExactCard

/-- THE TIED CARD OF 'pedigreelaw07.StrataRounds'. -/
def strataRoundsCard : Claim7 := { stood := { row := strataRoundsRow, standIns := [], harness := (true, "143739c61bf636677698212ce5e0c768143f08f23300866b6943c6b470439b3d"), looks := false }, kinds := [], alts := [], laidByText := true, laidKinds := [.data, .data, .data], laidTests := true, laidLooks := .later }
def StrataRoundsCardSaid : Prop := Claim7.holds Tryz.pinned (.plain (OpenSpec.ofChange strataRoundsSpec)) strataRoundsCard

/-- THE TIED CARD OF 'pedigreelaw07.StrataOrder'. -/
def strataOrderCard : Claim7 := { stood := { row := strataOrderRow, standIns := [], harness := (true, "143739c61bf636677698212ce5e0c768143f08f23300866b6943c6b470439b3d"), looks := false }, kinds := [], alts := [], laidByText := true, laidKinds := [.data, .data, .data], laidTests := true, laidLooks := .later }
def StrataOrderCardSaid : Prop := Claim7.holds Tryz.pinned (.plain (OpenSpec.ofChange strataOrderSpec)) strataOrderCard

/-- THE TIED CARD OF 'pedigreelaw07.StrataTurned'. -/
def strataTurnedCard : Claim7 := { stood := { row := strataTurnedRow, standIns := [], harness := (true, "143739c61bf636677698212ce5e0c768143f08f23300866b6943c6b470439b3d"), looks := false }, kinds := [], alts := [], laidByText := true, laidKinds := [.data, .data, .data], laidTests := true, laidLooks := .later }
def StrataTurnedCardSaid : Prop := Claim7.holds Tryz.pinned (.plain (OpenSpec.ofChange strataTurnedSpec)) strataTurnedCard

/-- THE TIED CARD OF 'pedigreelaw09.PlanMakes'. -/
def planMakesCard : Claim7 := { stood := { row := planMakesRow, standIns := [], harness := (true, "143739c61bf636677698212ce5e0c768143f08f23300866b6943c6b470439b3d"), looks := false }, kinds := [], alts := [], laidByText := true, laidKinds := [.data, .data, .data], laidTests := true, laidLooks := .later }
def PlanMakesCardSaid : Prop := Claim7.holds Tryz.pinned (.plain (OpenSpec.ofChange planMakesSpec)) planMakesCard

/-- THE TIED CARD OF 'pedigreelaw09.PlanGivens'. -/
def planGivensCard : Claim7 := { stood := { row := planGivensRow, standIns := [], harness := (true, "143739c61bf636677698212ce5e0c768143f08f23300866b6943c6b470439b3d"), looks := false }, kinds := [], alts := [], laidByText := true, laidKinds := [.data, .data, .data], laidTests := true, laidLooks := .later }
def PlanGivensCardSaid : Prop := Claim7.holds Tryz.pinned (.plain (OpenSpec.ofChange planGivensSpec)) planGivensCard

/-- THE TIED CARD OF 'pedigreelaw09.PlanValids'. -/
def planValidsCard : Claim7 := { stood := { row := planValidsRow, standIns := [], harness := (true, "143739c61bf636677698212ce5e0c768143f08f23300866b6943c6b470439b3d"), looks := false }, kinds := [], alts := [], laidByText := true, laidKinds := [.data, .data, .data], laidTests := true, laidLooks := .later }
def PlanValidsCardSaid : Prop := Claim7.holds Tryz.pinned (.plain (OpenSpec.ofChange planValidsSpec)) planValidsCard

/-- THE TIED CARD OF 'pedigreelaw09.PlanHolds'. -/
def planHoldsCard : Claim7 := { stood := { row := planHoldsRow, standIns := [], harness := (true, "143739c61bf636677698212ce5e0c768143f08f23300866b6943c6b470439b3d"), looks := false }, kinds := [], alts := [], laidByText := true, laidKinds := [.data, .data, .data], laidTests := true, laidLooks := .later }
def PlanHoldsCardSaid : Prop := Claim7.holds Tryz.pinned (.plain (OpenSpec.ofChange planHoldsSpec)) planHoldsCard

/-- THE SECOND FORM's CARD OF 'pedigreelaw07.StrataExact'. -/
def strataExactUptoCard : Claim7 := { stood := { row := strataExactUptoRow, standIns := [], harness := (true, "143739c61bf636677698212ce5e0c768143f08f23300866b6943c6b470439b3d"), looks := false }, kinds := [], alts := [], laidByText := true, laidKinds := [.data, .data, .data], laidTests := true, laidLooks := .later }
def StrataExactUptoCardSaid : Prop := Claim7.holds Tryz.pinned (.plain (OpenSpec.upto strataExactSpec)) strataExactUptoCard

/-- THE SECOND FORM's CARD OF 'pedigreelaw07.StrataRounds'. -/
def strataRoundsUptoCard : Claim7 := { stood := { row := strataRoundsUptoRow, standIns := [], harness := (true, "143739c61bf636677698212ce5e0c768143f08f23300866b6943c6b470439b3d"), looks := false }, kinds := [], alts := [], laidByText := true, laidKinds := [.data, .data, .data], laidTests := true, laidLooks := .later }
def StrataRoundsUptoCardSaid : Prop := Claim7.holds Tryz.pinned (.plain (OpenSpec.upto strataRoundsSpec)) strataRoundsUptoCard

/-- THE SECOND FORM's CARD OF 'pedigreelaw07.StrataOrder'. -/
def strataOrderUptoCard : Claim7 := { stood := { row := strataOrderUptoRow, standIns := [], harness := (true, "143739c61bf636677698212ce5e0c768143f08f23300866b6943c6b470439b3d"), looks := false }, kinds := [], alts := [], laidByText := true, laidKinds := [.data, .data, .data], laidTests := true, laidLooks := .later }
def StrataOrderUptoCardSaid : Prop := Claim7.holds Tryz.pinned (.plain (OpenSpec.upto strataOrderSpec)) strataOrderUptoCard

/-- THE SECOND FORM's CARD OF 'pedigreelaw07.StrataTurned'. -/
def strataTurnedUptoCard : Claim7 := { stood := { row := strataTurnedUptoRow, standIns := [], harness := (true, "143739c61bf636677698212ce5e0c768143f08f23300866b6943c6b470439b3d"), looks := false }, kinds := [], alts := [], laidByText := true, laidKinds := [.data, .data, .data], laidTests := true, laidLooks := .later }
def StrataTurnedUptoCardSaid : Prop := Claim7.holds Tryz.pinned (.plain (OpenSpec.upto strataTurnedSpec)) strataTurnedUptoCard

/-- THE SECOND FORM's CARD OF 'pedigreelaw09.PlanMakes'. -/
def planMakesUptoCard : Claim7 := { stood := { row := planMakesUptoRow, standIns := [], harness := (true, "143739c61bf636677698212ce5e0c768143f08f23300866b6943c6b470439b3d"), looks := false }, kinds := [], alts := [], laidByText := true, laidKinds := [.data, .data, .data], laidTests := true, laidLooks := .later }
def PlanMakesUptoCardSaid : Prop := Claim7.holds Tryz.pinned (.plain (OpenSpec.upto planMakesSpec)) planMakesUptoCard

/-- THE SECOND FORM's CARD OF 'pedigreelaw09.PlanGivens'. -/
def planGivensUptoCard : Claim7 := { stood := { row := planGivensUptoRow, standIns := [], harness := (true, "143739c61bf636677698212ce5e0c768143f08f23300866b6943c6b470439b3d"), looks := false }, kinds := [], alts := [], laidByText := true, laidKinds := [.data, .data, .data], laidTests := true, laidLooks := .later }
def PlanGivensUptoCardSaid : Prop := Claim7.holds Tryz.pinned (.plain (OpenSpec.upto planGivensSpec)) planGivensUptoCard

/-- THE SECOND FORM's CARD OF 'pedigreelaw09.PlanValids'. -/
def planValidsUptoCard : Claim7 := { stood := { row := planValidsUptoRow, standIns := [], harness := (true, "143739c61bf636677698212ce5e0c768143f08f23300866b6943c6b470439b3d"), looks := false }, kinds := [], alts := [], laidByText := true, laidKinds := [.data, .data, .data], laidTests := true, laidLooks := .later }
def PlanValidsUptoCardSaid : Prop := Claim7.holds Tryz.pinned (.plain (OpenSpec.upto planValidsSpec)) planValidsUptoCard

/-- THE SECOND FORM's CARD OF 'pedigreelaw09.PlanHolds'. -/
def planHoldsUptoCard : Claim7 := { stood := { row := planHoldsUptoRow, standIns := [], harness := (true, "143739c61bf636677698212ce5e0c768143f08f23300866b6943c6b470439b3d"), looks := false }, kinds := [], alts := [], laidByText := true, laidKinds := [.data, .data, .data], laidTests := true, laidLooks := .later }
def PlanHoldsUptoCardSaid : Prop := Claim7.holds Tryz.pinned (.plain (OpenSpec.upto planHoldsSpec)) planHoldsUptoCard
end Rows
end Go.Proofs.YtflegjieadkonaaGreatDoor
