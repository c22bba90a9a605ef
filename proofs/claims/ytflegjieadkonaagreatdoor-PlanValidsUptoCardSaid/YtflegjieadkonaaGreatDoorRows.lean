/-
  NARROWER THAN 'FOR EVERY INPUT', by the rows' own cells (each row's printed sentence says how): StrataExact: loops, laid · StrataRounds: loops, laid · StrataOrder: loops, laid · StrataTurned: loops, laid · PlanMakes: loops, laid · PlanGivens: loops, laid · PlanValids: loops, laid · PlanHolds: loops, laid.
  DERIVED. THE GIVEN ROWS OF THIS SEAT. 8 by the template 'for every input the law returns true; each argument reads behind the call as it read before'; 0 by the template 'total and deterministic' (their statements: YtflegjieadkonaaGreatDoorTotals.lean).
  GIVEN WITH THE SEED: the statements are not yours to turn. If you find one false, say at which input.
  Laid BY PROGRAM, IN A SANDBOX (cutbox-rows.mjs): the forced cells as the released guide's own fill.sh prints them over the translation c3fb1b3bb6c75e6e… (all of the seat's roots in one cut). By AI agents, Wed Nov 11 2026. No macro, syntax, notation, axiom, sorry.
-/
import Derived.Test.YtflegjieadkonaaGreatDoorChecked
import GoSem.Claim
import GoSem.ClaimJoined
import GoSem.ClaimMapViews
import Derived.JoinedTies
import Derived.KernelRfl
namespace Go.Proofs.YtflegjieadkonaaGreatDoor
/- THE CELL 'sum', in the pinned program and in every row, IS THE sha256 OF THE DUMP (.gsa) THAT YtflegjieadkonaaGreatDoorProg.lean LOADS. Nothing in Lean hashes anything: it is a label: what it is worth is what the hold of that sum in a sandbox is worth. -/
noncomputable def Tryz.pinned : Pinned := { name := "ytflegjieadkonaagreatdoor", sum := "c3fb1b3bb6c75e6e59d0614d7fa2aefa99cbae340e3344f35963c2df3fcff983", checked := Tryz.checked }
namespace Rows
def none {H : Type} : Left H := { results := [], args := [] }

/- WHAT THE LISTED PACKAGE-LEVEL VARIABLES READ AS WHEN THE CALL BEGINS. Each datum BY PROGRAM (the guide's laid-datum.mjs) off the statement by which the dump's own 'gosem.cut.vars' lays the variable. In a bare row this is a premise. The card (YtflegjieadkonaaGreatDoorCards.lean) ties it to the program's text. -/
def laid_math_bits_deBruijn32tab {H : Type} : DataW H := .agg [.lit (.int .u8 0), .lit (.int .u8 1), .lit (.int .u8 28), .lit (.int .u8 2), .lit (.int .u8 29), .lit (.int .u8 14), .lit (.int .u8 24), .lit (.int .u8 3), .lit (.int .u8 30), .lit (.int .u8 22), .lit (.int .u8 20), .lit (.int .u8 15), .lit (.int .u8 25), .lit (.int .u8 17), .lit (.int .u8 4), .lit (.int .u8 8), .lit (.int .u8 31), .lit (.int .u8 27), .lit (.int .u8 13), .lit (.int .u8 23), .lit (.int .u8 21), .lit (.int .u8 19), .lit (.int .u8 16), .lit (.int .u8 7), .lit (.int .u8 26), .lit (.int .u8 12), .lit (.int .u8 18), .lit (.int .u8 6), .lit (.int .u8 11), .lit (.int .u8 5), .lit (.int .u8 10), .lit (.int .u8 9)]
def laid_math_bits_deBruijn64tab {H : Type} : DataW H := .agg [.lit (.int .u8 0), .lit (.int .u8 1), .lit (.int .u8 56), .lit (.int .u8 2), .lit (.int .u8 57), .lit (.int .u8 49), .lit (.int .u8 28), .lit (.int .u8 3), .lit (.int .u8 61), .lit (.int .u8 58), .lit (.int .u8 42), .lit (.int .u8 50), .lit (.int .u8 38), .lit (.int .u8 29), .lit (.int .u8 17), .lit (.int .u8 4), .lit (.int .u8 62), .lit (.int .u8 47), .lit (.int .u8 59), .lit (.int .u8 36), .lit (.int .u8 45), .lit (.int .u8 43), .lit (.int .u8 51), .lit (.int .u8 22), .lit (.int .u8 53), .lit (.int .u8 39), .lit (.int .u8 33), .lit (.int .u8 30), .lit (.int .u8 24), .lit (.int .u8 18), .lit (.int .u8 12), .lit (.int .u8 5), .lit (.int .u8 63), .lit (.int .u8 55), .lit (.int .u8 48), .lit (.int .u8 27), .lit (.int .u8 60), .lit (.int .u8 41), .lit (.int .u8 37), .lit (.int .u8 16), .lit (.int .u8 46), .lit (.int .u8 35), .lit (.int .u8 44), .lit (.int .u8 21), .lit (.int .u8 52), .lit (.int .u8 32), .lit (.int .u8 23), .lit (.int .u8 11), .lit (.int .u8 54), .lit (.int .u8 26), .lit (.int .u8 40), .lit (.int .u8 15), .lit (.int .u8 34), .lit (.int .u8 20), .lit (.int .u8 31), .lit (.int .u8 10), .lit (.int .u8 25), .lit (.int .u8 14), .lit (.int .u8 19), .lit (.int .u8 9), .lit (.int .u8 13), .lit (.int .u8 8), .lit (.int .u8 7), .lit (.int .u8 6)]
def laid_internal_strconv_uint64pow10 {H : Type} : DataW H := .agg [.lit (.int .u64 1), .lit (.int .u64 10), .lit (.int .u64 100), .lit (.int .u64 1000), .lit (.int .u64 10000), .lit (.int .u64 100000), .lit (.int .u64 1000000), .lit (.int .u64 10000000), .lit (.int .u64 100000000), .lit (.int .u64 1000000000), .lit (.int .u64 10000000000), .lit (.int .u64 100000000000), .lit (.int .u64 1000000000000), .lit (.int .u64 10000000000000), .lit (.int .u64 100000000000000), .lit (.int .u64 1000000000000000), .lit (.int .u64 10000000000000000), .lit (.int .u64 100000000000000000), .lit (.int .u64 1000000000000000000), .lit (.int .u64 10000000000000000000)]

/-- 'pedigreelaw07.StrataExact': WHATEVER THE INPUT: true; the input reads as it did. -/
def strataExactSpec : ChangeSpec := { name := "strataExact", fn := fun _ => fun
  | [d] => { results := [.lit (.bool true)], args := [d] }
  | _ => none }
def strataExactRow : OpenClaim := { program := "ytflegjieadkonaagreatdoor", sum := "c3fb1b3bb6c75e6e59d0614d7fa2aefa99cbae340e3344f35963c2df3fcff983", func := "pedigree/pedigreelaw07.StrataExact", spec := "strataExact", inPlace := ["internal/abi.NoEscape"], unfollowed := true, recurses := true, named := ["internal/strconv.uint64pow10", "math/bits.deBruijn32tab", "math/bits.deBruijn64tab"], loops := true, plainKeys := false, apart := false, laid := [("math/bits.deBruijn32tab", laid_math_bits_deBruijn32tab), ("math/bits.deBruijn64tab", laid_math_bits_deBruijn64tab), ("internal/strconv.uint64pow10", laid_internal_strconv_uint64pow10)] }
def StrataExactSaid : Prop := strataExactRow.holds Tryz.pinned (OpenSpec.ofChange strataExactSpec)

/-- ITS FALSE NEIGHBOUR: 'it returns false'. Refute it at one input. -/
def strataExactWrong : ChangeSpec := { name := "strataExact", fn := fun _ => fun
  | [d] => { results := [.lit (.bool false)], args := [d] }
  | _ => none }
def StrataExactWrongFalsely : Prop := strataExactRow.holds Tryz.pinned (OpenSpec.ofChange strataExactWrong)

/-- 'pedigreelaw07.StrataRounds': WHATEVER THE INPUT: true; the input reads as it did. -/
def strataRoundsSpec : ChangeSpec := { name := "strataRounds", fn := fun _ => fun
  | [d1, d2] => { results := [.lit (.bool true)], args := [d1, d2] }
  | _ => none }
def strataRoundsRow : OpenClaim := { program := "ytflegjieadkonaagreatdoor", sum := "c3fb1b3bb6c75e6e59d0614d7fa2aefa99cbae340e3344f35963c2df3fcff983", func := "pedigree/pedigreelaw07.StrataRounds", spec := "strataRounds", inPlace := ["internal/abi.NoEscape"], unfollowed := true, recurses := true, named := ["internal/strconv.uint64pow10", "math/bits.deBruijn32tab", "math/bits.deBruijn64tab"], loops := true, plainKeys := false, apart := false, laid := [("math/bits.deBruijn32tab", laid_math_bits_deBruijn32tab), ("math/bits.deBruijn64tab", laid_math_bits_deBruijn64tab), ("internal/strconv.uint64pow10", laid_internal_strconv_uint64pow10)] }
def StrataRoundsSaid : Prop := strataRoundsRow.holds Tryz.pinned (OpenSpec.ofChange strataRoundsSpec)

/-- ITS FALSE NEIGHBOUR: 'it returns false'. Refute it at one input. -/
def strataRoundsWrong : ChangeSpec := { name := "strataRounds", fn := fun _ => fun
  | [d1, d2] => { results := [.lit (.bool false)], args := [d1, d2] }
  | _ => none }
def StrataRoundsWrongFalsely : Prop := strataRoundsRow.holds Tryz.pinned (OpenSpec.ofChange strataRoundsWrong)

/-- 'pedigreelaw07.StrataOrder': WHATEVER THE INPUT: true; the input reads as it did. -/
def strataOrderSpec : ChangeSpec := { name := "strataOrder", fn := fun _ => fun
  | [d] => { results := [.lit (.bool true)], args := [d] }
  | _ => none }
def strataOrderRow : OpenClaim := { program := "ytflegjieadkonaagreatdoor", sum := "c3fb1b3bb6c75e6e59d0614d7fa2aefa99cbae340e3344f35963c2df3fcff983", func := "pedigree/pedigreelaw07.StrataOrder", spec := "strataOrder", inPlace := ["internal/abi.NoEscape"], unfollowed := true, recurses := true, named := ["internal/strconv.uint64pow10", "math/bits.deBruijn32tab", "math/bits.deBruijn64tab"], loops := true, plainKeys := false, apart := false, laid := [("math/bits.deBruijn32tab", laid_math_bits_deBruijn32tab), ("math/bits.deBruijn64tab", laid_math_bits_deBruijn64tab), ("internal/strconv.uint64pow10", laid_internal_strconv_uint64pow10)] }
def StrataOrderSaid : Prop := strataOrderRow.holds Tryz.pinned (OpenSpec.ofChange strataOrderSpec)

/-- ITS FALSE NEIGHBOUR: 'it returns false'. Refute it at one input. -/
def strataOrderWrong : ChangeSpec := { name := "strataOrder", fn := fun _ => fun
  | [d] => { results := [.lit (.bool false)], args := [d] }
  | _ => none }
def StrataOrderWrongFalsely : Prop := strataOrderRow.holds Tryz.pinned (OpenSpec.ofChange strataOrderWrong)

/-- 'pedigreelaw07.StrataTurned': WHATEVER THE INPUT: true; the input reads as it did. -/
def strataTurnedSpec : ChangeSpec := { name := "strataTurned", fn := fun _ => fun
  | [d1, d2, d3] => { results := [.lit (.bool true)], args := [d1, d2, d3] }
  | _ => none }
def strataTurnedRow : OpenClaim := { program := "ytflegjieadkonaagreatdoor", sum := "c3fb1b3bb6c75e6e59d0614d7fa2aefa99cbae340e3344f35963c2df3fcff983", func := "pedigree/pedigreelaw07.StrataTurned", spec := "strataTurned", inPlace := ["internal/abi.NoEscape"], unfollowed := true, recurses := true, named := ["internal/strconv.uint64pow10", "math/bits.deBruijn32tab", "math/bits.deBruijn64tab"], loops := true, plainKeys := false, apart := false, laid := [("math/bits.deBruijn32tab", laid_math_bits_deBruijn32tab), ("math/bits.deBruijn64tab", laid_math_bits_deBruijn64tab), ("internal/strconv.uint64pow10", laid_internal_strconv_uint64pow10)] }
def StrataTurnedSaid : Prop := strataTurnedRow.holds Tryz.pinned (OpenSpec.ofChange strataTurnedSpec)

/-- ITS FALSE NEIGHBOUR: 'it returns false'. Refute it at one input. -/
def strataTurnedWrong : ChangeSpec := { name := "strataTurned", fn := fun _ => fun
  | [d1, d2, d3] => { results := [.lit (.bool false)], args := [d1, d2, d3] }
  | _ => none }
def StrataTurnedWrongFalsely : Prop := strataTurnedRow.holds Tryz.pinned (OpenSpec.ofChange strataTurnedWrong)

/-- 'pedigreelaw09.PlanMakes': WHATEVER THE INPUT: true; the input reads as it did. -/
def planMakesSpec : ChangeSpec := { name := "planMakes", fn := fun _ => fun
  | [d1, d2, d3] => { results := [.lit (.bool true)], args := [d1, d2, d3] }
  | _ => none }
def planMakesRow : OpenClaim := { program := "ytflegjieadkonaagreatdoor", sum := "c3fb1b3bb6c75e6e59d0614d7fa2aefa99cbae340e3344f35963c2df3fcff983", func := "pedigree/pedigreelaw09.PlanMakes", spec := "planMakes", inPlace := ["internal/abi.NoEscape"], unfollowed := true, recurses := true, named := ["internal/strconv.uint64pow10", "math/bits.deBruijn32tab", "math/bits.deBruijn64tab"], loops := true, plainKeys := false, apart := false, laid := [("math/bits.deBruijn32tab", laid_math_bits_deBruijn32tab), ("math/bits.deBruijn64tab", laid_math_bits_deBruijn64tab), ("internal/strconv.uint64pow10", laid_internal_strconv_uint64pow10)] }
def PlanMakesSaid : Prop := planMakesRow.holds Tryz.pinned (OpenSpec.ofChange planMakesSpec)

/-- ITS FALSE NEIGHBOUR: 'it returns false'. Refute it at one input. -/
def planMakesWrong : ChangeSpec := { name := "planMakes", fn := fun _ => fun
  | [d1, d2, d3] => { results := [.lit (.bool false)], args := [d1, d2, d3] }
  | _ => none }
def PlanMakesWrongFalsely : Prop := planMakesRow.holds Tryz.pinned (OpenSpec.ofChange planMakesWrong)

/-- 'pedigreelaw09.PlanGivens': WHATEVER THE INPUT: true; the input reads as it did. -/
def planGivensSpec : ChangeSpec := { name := "planGivens", fn := fun _ => fun
  | [d1, d2, d3] => { results := [.lit (.bool true)], args := [d1, d2, d3] }
  | _ => none }
def planGivensRow : OpenClaim := { program := "ytflegjieadkonaagreatdoor", sum := "c3fb1b3bb6c75e6e59d0614d7fa2aefa99cbae340e3344f35963c2df3fcff983", func := "pedigree/pedigreelaw09.PlanGivens", spec := "planGivens", inPlace := ["internal/abi.NoEscape"], unfollowed := true, recurses := true, named := ["internal/strconv.uint64pow10", "math/bits.deBruijn32tab", "math/bits.deBruijn64tab"], loops := true, plainKeys := false, apart := false, laid := [("math/bits.deBruijn32tab", laid_math_bits_deBruijn32tab), ("math/bits.deBruijn64tab", laid_math_bits_deBruijn64tab), ("internal/strconv.uint64pow10", laid_internal_strconv_uint64pow10)] }
def PlanGivensSaid : Prop := planGivensRow.holds Tryz.pinned (OpenSpec.ofChange planGivensSpec)

/-- ITS FALSE NEIGHBOUR: 'it returns false'. Refute it at one input. -/
def planGivensWrong : ChangeSpec := { name := "planGivens", fn := fun _ => fun
  | [d1, d2, d3] => { results := [.lit (.bool false)], args := [d1, d2, d3] }
  | _ => none }
def PlanGivensWrongFalsely : Prop := planGivensRow.holds Tryz.pinned (OpenSpec.ofChange planGivensWrong)

/-- 'pedigreelaw09.PlanValids': WHATEVER THE INPUT: true; the input reads as it did. -/
def planValidsSpec : ChangeSpec := { name := "planValids", fn := fun _ => fun
  | [d1, d2] => { results := [.lit (.bool true)], args := [d1, d2] }
  | _ => none }
def planValidsRow : OpenClaim := { program := "ytflegjieadkonaagreatdoor", sum := "c3fb1b3bb6c75e6e59d0614d7fa2aefa99cbae340e3344f35963c2df3fcff983", func := "pedigree/pedigreelaw09.PlanValids", spec := "planValids", inPlace := ["internal/abi.NoEscape"], unfollowed := true, recurses := true, named := ["internal/strconv.uint64pow10", "math/bits.deBruijn32tab", "math/bits.deBruijn64tab"], loops := true, plainKeys := false, apart := false, laid := [("math/bits.deBruijn32tab", laid_math_bits_deBruijn32tab), ("math/bits.deBruijn64tab", laid_math_bits_deBruijn64tab), ("internal/strconv.uint64pow10", laid_internal_strconv_uint64pow10)] }
def PlanValidsSaid : Prop := planValidsRow.holds Tryz.pinned (OpenSpec.ofChange planValidsSpec)

/-- ITS FALSE NEIGHBOUR: 'it returns false'. Refute it at one input. -/
def planValidsWrong : ChangeSpec := { name := "planValids", fn := fun _ => fun
  | [d1, d2] => { results := [.lit (.bool false)], args := [d1, d2] }
  | _ => none }
def PlanValidsWrongFalsely : Prop := planValidsRow.holds Tryz.pinned (OpenSpec.ofChange planValidsWrong)

/-- 'pedigreelaw09.PlanHolds': WHATEVER THE INPUT: true; the input reads as it did. -/
def planHoldsSpec : ChangeSpec := { name := "planHolds", fn := fun _ => fun
  | [d1, d2, d3] => { results := [.lit (.bool true)], args := [d1, d2, d3] }
  | _ => none }
def planHoldsRow : OpenClaim := { program := "ytflegjieadkonaagreatdoor", sum := "c3fb1b3bb6c75e6e59d0614d7fa2aefa99cbae340e3344f35963c2df3fcff983", func := "pedigree/pedigreelaw09.PlanHolds", spec := "planHolds", inPlace := ["internal/abi.NoEscape"], unfollowed := true, recurses := true, named := ["internal/strconv.uint64pow10", "math/bits.deBruijn32tab", "math/bits.deBruijn64tab"], loops := true, plainKeys := false, apart := false, laid := [("math/bits.deBruijn32tab", laid_math_bits_deBruijn32tab), ("math/bits.deBruijn64tab", laid_math_bits_deBruijn64tab), ("internal/strconv.uint64pow10", laid_internal_strconv_uint64pow10)] }
def PlanHoldsSaid : Prop := planHoldsRow.holds Tryz.pinned (OpenSpec.ofChange planHoldsSpec)

/-- ITS FALSE NEIGHBOUR: 'it returns false'. Refute it at one input. -/
def planHoldsWrong : ChangeSpec := { name := "planHolds", fn := fun _ => fun
  | [d1, d2, d3] => { results := [.lit (.bool false)], args := [d1, d2, d3] }
  | _ => none }
def PlanHoldsWrongFalsely : Prop := planHoldsRow.holds Tryz.pinned (OpenSpec.ofChange planHoldsWrong)

/- THE SECOND FORM. 'bulk': how many values and letters a reading holds, each counted each time it is reached (what is shared counts as often as it is met; a slice's spare places count too). A statement '..UptoSaid' is the law's where the arguments, and the package variables that the reading takes, are together of bulk at most 1048576: NARROWER than '..Said'. Prove '..Said' where nothing that the law and all that it calls make is longer than what came in: it says more and counts as full. Else prove '..UptoSaid'. A law counts once. -/
mutual
def uptoBulk {H : Type} : DataW H → Nat
  | .lit (.string bytes) => bytes.length + 1
  | .lit _ => 1
  | .nil => 1
  | .ptr d => uptoBulk d + 1
  | .slice elems spare => uptoBulkAll elems + uptoBulkAll spare + 1
  | .agg parts => uptoBulkAll parts + 1
  | .iface _ d => uptoBulk d + 1
  | .map entries => uptoBulkEntries entries + 1
  | .held _ => 1
def uptoBulkAll {H : Type} : List (DataW H) → Nat
  | [] => 0
  | d :: r => uptoBulk d + uptoBulkAll r
def uptoBulkEntries {H : Type} : List (Lit × DataW H) → Nat
  | [] => 0
  | x :: r => uptoBulkEntry x + uptoBulkEntries r
def uptoBulkEntry {H : Type} : Lit × DataW H → Nat
  | (.string bytes, d) => bytes.length + uptoBulk d + 1
  | (_, d) => uptoBulk d + 1
 end
def uptoSmall : (H : Type) → List (DataW H) → Bool := fun _ ds => decide (uptoBulkAll ds ≤ 1048576)
def OpenSpec.upto (s : _root_.Go.ChangeSpec) : _root_.Go.OpenSpec := { _root_.Go.OpenSpec.ofChange s with cond := some uptoSmall }

/-- 'pedigreelaw07.StrataExact', WHERE WHAT IT READS IS OF BULK AT MOST 1048576: true; the input reads as it did. -/
def strataExactUptoRow : OpenClaim := { program := "ytflegjieadkonaagreatdoor", sum := "c3fb1b3bb6c75e6e59d0614d7fa2aefa99cbae340e3344f35963c2df3fcff983", func := "pedigree/pedigreelaw07.StrataExact", spec := "strataExact", inPlace := ["internal/abi.NoEscape"], unfollowed := true, recurses := true, named := ["internal/strconv.uint64pow10", "math/bits.deBruijn32tab", "math/bits.deBruijn64tab"], loops := true, plainKeys := false, apart := false, laid := [("math/bits.deBruijn32tab", laid_math_bits_deBruijn32tab), ("math/bits.deBruijn64tab", laid_math_bits_deBruijn64tab), ("internal/strconv.uint64pow10", laid_internal_strconv_uint64pow10)], narrowed := true }
def StrataExactUptoSaid : Prop := strataExactUptoRow.holds Tryz.pinned (OpenSpec.upto strataExactSpec)

/-- 'pedigreelaw07.StrataRounds', WHERE WHAT IT READS IS OF BULK AT MOST 1048576: true; the input reads as it did. -/
def strataRoundsUptoRow : OpenClaim := { program := "ytflegjieadkonaagreatdoor", sum := "c3fb1b3bb6c75e6e59d0614d7fa2aefa99cbae340e3344f35963c2df3fcff983", func := "pedigree/pedigreelaw07.StrataRounds", spec := "strataRounds", inPlace := ["internal/abi.NoEscape"], unfollowed := true, recurses := true, named := ["internal/strconv.uint64pow10", "math/bits.deBruijn32tab", "math/bits.deBruijn64tab"], loops := true, plainKeys := false, apart := false, laid := [("math/bits.deBruijn32tab", laid_math_bits_deBruijn32tab), ("math/bits.deBruijn64tab", laid_math_bits_deBruijn64tab), ("internal/strconv.uint64pow10", laid_internal_strconv_uint64pow10)], narrowed := true }
def StrataRoundsUptoSaid : Prop := strataRoundsUptoRow.holds Tryz.pinned (OpenSpec.upto strataRoundsSpec)

/-- 'pedigreelaw07.StrataOrder', WHERE WHAT IT READS IS OF BULK AT MOST 1048576: true; the input reads as it did. -/
def strataOrderUptoRow : OpenClaim := { program := "ytflegjieadkonaagreatdoor", sum := "c3fb1b3bb6c75e6e59d0614d7fa2aefa99cbae340e3344f35963c2df3fcff983", func := "pedigree/pedigreelaw07.StrataOrder", spec := "strataOrder", inPlace := ["internal/abi.NoEscape"], unfollowed := true, recurses := true, named := ["internal/strconv.uint64pow10", "math/bits.deBruijn32tab", "math/bits.deBruijn64tab"], loops := true, plainKeys := false, apart := false, laid := [("math/bits.deBruijn32tab", laid_math_bits_deBruijn32tab), ("math/bits.deBruijn64tab", laid_math_bits_deBruijn64tab), ("internal/strconv.uint64pow10", laid_internal_strconv_uint64pow10)], narrowed := true }
def StrataOrderUptoSaid : Prop := strataOrderUptoRow.holds Tryz.pinned (OpenSpec.upto strataOrderSpec)

/-- 'pedigreelaw07.StrataTurned', WHERE WHAT IT READS IS OF BULK AT MOST 1048576: true; the input reads as it did. -/
def strataTurnedUptoRow : OpenClaim := { program := "ytflegjieadkonaagreatdoor", sum := "c3fb1b3bb6c75e6e59d0614d7fa2aefa99cbae340e3344f35963c2df3fcff983", func := "pedigree/pedigreelaw07.StrataTurned", spec := "strataTurned", inPlace := ["internal/abi.NoEscape"], unfollowed := true, recurses := true, named := ["internal/strconv.uint64pow10", "math/bits.deBruijn32tab", "math/bits.deBruijn64tab"], loops := true, plainKeys := false, apart := false, laid := [("math/bits.deBruijn32tab", laid_math_bits_deBruijn32tab), ("math/bits.deBruijn64tab", laid_math_bits_deBruijn64tab), ("internal/strconv.uint64pow10", laid_internal_strconv_uint64pow10)], narrowed := true }
def StrataTurnedUptoSaid : Prop := strataTurnedUptoRow.holds Tryz.pinned (OpenSpec.upto strataTurnedSpec)

/-- 'pedigreelaw09.PlanMakes', WHERE WHAT IT READS IS OF BULK AT MOST 1048576: true; the input reads as it did. -/
def planMakesUptoRow : OpenClaim := { program := "ytflegjieadkonaagreatdoor", sum := "c3fb1b3bb6c75e6e59d0614d7fa2aefa99cbae340e3344f35963c2df3fcff983", func := "pedigree/pedigreelaw09.PlanMakes", spec := "planMakes", inPlace := ["internal/abi.NoEscape"], unfollowed := true, recurses := true, named := ["internal/strconv.uint64pow10", "math/bits.deBruijn32tab", "math/bits.deBruijn64tab"], loops := true, plainKeys := false, apart := false, laid := [("math/bits.deBruijn32tab", laid_math_bits_deBruijn32tab), ("math/bits.deBruijn64tab", laid_math_bits_deBruijn64tab), ("internal/strconv.uint64pow10", laid_internal_strconv_uint64pow10)], narrowed := true }
def PlanMakesUptoSaid : Prop := planMakesUptoRow.holds Tryz.pinned (OpenSpec.upto planMakesSpec)

/-- 'pedigreelaw09.PlanGivens', WHERE WHAT IT READS IS OF BULK AT MOST 1048576: true; the input reads as it did. -/
def planGivensUptoRow : OpenClaim := { program := "ytflegjieadkonaagreatdoor", sum := "c3fb1b3bb6c75e6e59d0614d7fa2aefa99cbae340e3344f35963c2df3fcff983", func := "pedigree/pedigreelaw09.PlanGivens", spec := "planGivens", inPlace := ["internal/abi.NoEscape"], unfollowed := true, recurses := true, named := ["internal/strconv.uint64pow10", "math/bits.deBruijn32tab", "math/bits.deBruijn64tab"], loops := true, plainKeys := false, apart := false, laid := [("math/bits.deBruijn32tab", laid_math_bits_deBruijn32tab), ("math/bits.deBruijn64tab", laid_math_bits_deBruijn64tab), ("internal/strconv.uint64pow10", laid_internal_strconv_uint64pow10)], narrowed := true }
def PlanGivensUptoSaid : Prop := planGivensUptoRow.holds Tryz.pinned (OpenSpec.upto planGivensSpec)

/-- 'pedigreelaw09.PlanValids', WHERE WHAT IT READS IS OF BULK AT MOST 1048576: true; the input reads as it did. -/
def planValidsUptoRow : OpenClaim := { program := "ytflegjieadkonaagreatdoor", sum := "c3fb1b3bb6c75e6e59d0614d7fa2aefa99cbae340e3344f35963c2df3fcff983", func := "pedigree/pedigreelaw09.PlanValids", spec := "planValids", inPlace := ["internal/abi.NoEscape"], unfollowed := true, recurses := true, named := ["internal/strconv.uint64pow10", "math/bits.deBruijn32tab", "math/bits.deBruijn64tab"], loops := true, plainKeys := false, apart := false, laid := [("math/bits.deBruijn32tab", laid_math_bits_deBruijn32tab), ("math/bits.deBruijn64tab", laid_math_bits_deBruijn64tab), ("internal/strconv.uint64pow10", laid_internal_strconv_uint64pow10)], narrowed := true }
def PlanValidsUptoSaid : Prop := planValidsUptoRow.holds Tryz.pinned (OpenSpec.upto planValidsSpec)

/-- 'pedigreelaw09.PlanHolds', WHERE WHAT IT READS IS OF BULK AT MOST 1048576: true; the input reads as it did. -/
def planHoldsUptoRow : OpenClaim := { program := "ytflegjieadkonaagreatdoor", sum := "c3fb1b3bb6c75e6e59d0614d7fa2aefa99cbae340e3344f35963c2df3fcff983", func := "pedigree/pedigreelaw09.PlanHolds", spec := "planHolds", inPlace := ["internal/abi.NoEscape"], unfollowed := true, recurses := true, named := ["internal/strconv.uint64pow10", "math/bits.deBruijn32tab", "math/bits.deBruijn64tab"], loops := true, plainKeys := false, apart := false, laid := [("math/bits.deBruijn32tab", laid_math_bits_deBruijn32tab), ("math/bits.deBruijn64tab", laid_math_bits_deBruijn64tab), ("internal/strconv.uint64pow10", laid_internal_strconv_uint64pow10)], narrowed := true }
def PlanHoldsUptoSaid : Prop := planHoldsUptoRow.holds Tryz.pinned (OpenSpec.upto planHoldsSpec)

end Rows
end Go.Proofs.YtflegjieadkonaaGreatDoor
