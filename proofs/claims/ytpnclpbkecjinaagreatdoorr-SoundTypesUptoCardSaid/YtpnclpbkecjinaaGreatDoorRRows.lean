/-
  NARROWER THAN 'FOR EVERY INPUT', by the rows' own cells (each row's printed sentence says how): SoundTypes: loops, laid · SoundFits: loops, laid · SoundGoals: loops, laid · SoundChecks: loops, laid · SoundVars: loops, laid · SoundTurned: loops, laid · SoundFaults: loops, laid · SoundLess: loops, laid.
  DERIVED. THE GIVEN ROWS OF THIS SEAT. 8 by the template 'for every input the law returns true; each argument reads behind the call as it read before'; 0 by the template 'total and deterministic' (their statements: YtpnclpbkecjinaaGreatDoorRTotals.lean).
  GIVEN WITH THE SEED: the statements are not yours to turn. If you find one false, say at which input.
  Laid BY PROGRAM, IN A SANDBOX (cutbox-rows.mjs): the forced cells as the released guide's own fill.sh prints them over the translation 76d0935e3e87cf09… (all of the seat's roots in one cut). By AI agents, Wed Nov 11 2026. No macro, syntax, notation, axiom, sorry.
-/
import Derived.Test.YtpnclpbkecjinaaGreatDoorRChecked
import GoSem.Claim
import GoSem.ClaimJoined
import GoSem.ClaimMapViews
import Derived.JoinedTies
import Derived.KernelRfl
namespace Go.Proofs.YtpnclpbkecjinaaGreatDoorR
/- THE CELL 'sum', in the pinned program and in every row, IS THE sha256 OF THE DUMP (.gsa) THAT YtpnclpbkecjinaaGreatDoorRProg.lean LOADS. Nothing in Lean hashes anything: it is a label: what it is worth is what the hold of that sum in a sandbox is worth. -/
noncomputable def Tryz.pinned : Pinned := { name := "ytpnclpbkecjinaagreatdoorr", sum := "76d0935e3e87cf092fcf70948d3556a5fe873ba68448a86c3e7faa1cef5cd729", checked := Tryz.checked }
namespace Rows
def none {H : Type} : Left H := { results := [], args := [] }

/- WHAT THE LISTED PACKAGE-LEVEL VARIABLES READ AS WHEN THE CALL BEGINS. Each datum BY PROGRAM (the guide's laid-datum.mjs) off the statement by which the dump's own 'gosem.cut.vars' lays the variable. In a bare row this is a premise. The card (YtpnclpbkecjinaaGreatDoorRCards.lean) ties it to the program's text. -/
def laid_math_bits_deBruijn32tab {H : Type} : DataW H := .agg [.lit (.int .u8 0), .lit (.int .u8 1), .lit (.int .u8 28), .lit (.int .u8 2), .lit (.int .u8 29), .lit (.int .u8 14), .lit (.int .u8 24), .lit (.int .u8 3), .lit (.int .u8 30), .lit (.int .u8 22), .lit (.int .u8 20), .lit (.int .u8 15), .lit (.int .u8 25), .lit (.int .u8 17), .lit (.int .u8 4), .lit (.int .u8 8), .lit (.int .u8 31), .lit (.int .u8 27), .lit (.int .u8 13), .lit (.int .u8 23), .lit (.int .u8 21), .lit (.int .u8 19), .lit (.int .u8 16), .lit (.int .u8 7), .lit (.int .u8 26), .lit (.int .u8 12), .lit (.int .u8 18), .lit (.int .u8 6), .lit (.int .u8 11), .lit (.int .u8 5), .lit (.int .u8 10), .lit (.int .u8 9)]
def laid_math_bits_deBruijn64tab {H : Type} : DataW H := .agg [.lit (.int .u8 0), .lit (.int .u8 1), .lit (.int .u8 56), .lit (.int .u8 2), .lit (.int .u8 57), .lit (.int .u8 49), .lit (.int .u8 28), .lit (.int .u8 3), .lit (.int .u8 61), .lit (.int .u8 58), .lit (.int .u8 42), .lit (.int .u8 50), .lit (.int .u8 38), .lit (.int .u8 29), .lit (.int .u8 17), .lit (.int .u8 4), .lit (.int .u8 62), .lit (.int .u8 47), .lit (.int .u8 59), .lit (.int .u8 36), .lit (.int .u8 45), .lit (.int .u8 43), .lit (.int .u8 51), .lit (.int .u8 22), .lit (.int .u8 53), .lit (.int .u8 39), .lit (.int .u8 33), .lit (.int .u8 30), .lit (.int .u8 24), .lit (.int .u8 18), .lit (.int .u8 12), .lit (.int .u8 5), .lit (.int .u8 63), .lit (.int .u8 55), .lit (.int .u8 48), .lit (.int .u8 27), .lit (.int .u8 60), .lit (.int .u8 41), .lit (.int .u8 37), .lit (.int .u8 16), .lit (.int .u8 46), .lit (.int .u8 35), .lit (.int .u8 44), .lit (.int .u8 21), .lit (.int .u8 52), .lit (.int .u8 32), .lit (.int .u8 23), .lit (.int .u8 11), .lit (.int .u8 54), .lit (.int .u8 26), .lit (.int .u8 40), .lit (.int .u8 15), .lit (.int .u8 34), .lit (.int .u8 20), .lit (.int .u8 31), .lit (.int .u8 10), .lit (.int .u8 25), .lit (.int .u8 14), .lit (.int .u8 19), .lit (.int .u8 9), .lit (.int .u8 13), .lit (.int .u8 8), .lit (.int .u8 7), .lit (.int .u8 6)]
def laid_internal_strconv_uint64pow10 {H : Type} : DataW H := .agg [.lit (.int .u64 1), .lit (.int .u64 10), .lit (.int .u64 100), .lit (.int .u64 1000), .lit (.int .u64 10000), .lit (.int .u64 100000), .lit (.int .u64 1000000), .lit (.int .u64 10000000), .lit (.int .u64 100000000), .lit (.int .u64 1000000000), .lit (.int .u64 10000000000), .lit (.int .u64 100000000000), .lit (.int .u64 1000000000000), .lit (.int .u64 10000000000000), .lit (.int .u64 100000000000000), .lit (.int .u64 1000000000000000), .lit (.int .u64 10000000000000000), .lit (.int .u64 100000000000000000), .lit (.int .u64 1000000000000000000), .lit (.int .u64 10000000000000000000)]

/-- 'pedigreelaw06.SoundTypes': WHATEVER THE INPUT: true; the input reads as it did. -/
def soundTypesSpec : ChangeSpec := { name := "soundTypes", fn := fun _ => fun
  | [d1, d2] => { results := [.lit (.bool true)], args := [d1, d2] }
  | _ => none }
def soundTypesRow : OpenClaim := { program := "ytpnclpbkecjinaagreatdoorr", sum := "76d0935e3e87cf092fcf70948d3556a5fe873ba68448a86c3e7faa1cef5cd729", func := "pedigree/pedigreelaw06.SoundTypes", spec := "soundTypes", inPlace := ["internal/abi.NoEscape"], unfollowed := true, recurses := true, named := ["internal/strconv.uint64pow10", "math/bits.deBruijn32tab", "math/bits.deBruijn64tab"], loops := true, plainKeys := false, apart := false, laid := [("math/bits.deBruijn32tab", laid_math_bits_deBruijn32tab), ("math/bits.deBruijn64tab", laid_math_bits_deBruijn64tab), ("internal/strconv.uint64pow10", laid_internal_strconv_uint64pow10)] }
def SoundTypesSaid : Prop := soundTypesRow.holds Tryz.pinned (OpenSpec.ofChange soundTypesSpec)

/-- ITS FALSE NEIGHBOUR: 'it returns false'. Refute it at one input. -/
def soundTypesWrong : ChangeSpec := { name := "soundTypes", fn := fun _ => fun
  | [d1, d2] => { results := [.lit (.bool false)], args := [d1, d2] }
  | _ => none }
def SoundTypesWrongFalsely : Prop := soundTypesRow.holds Tryz.pinned (OpenSpec.ofChange soundTypesWrong)

/-- 'pedigreelaw06.SoundFits': WHATEVER THE INPUT: true; the input reads as it did. -/
def soundFitsSpec : ChangeSpec := { name := "soundFits", fn := fun _ => fun
  | [d1, d2] => { results := [.lit (.bool true)], args := [d1, d2] }
  | _ => none }
def soundFitsRow : OpenClaim := { program := "ytpnclpbkecjinaagreatdoorr", sum := "76d0935e3e87cf092fcf70948d3556a5fe873ba68448a86c3e7faa1cef5cd729", func := "pedigree/pedigreelaw06.SoundFits", spec := "soundFits", inPlace := ["internal/abi.NoEscape"], unfollowed := true, recurses := true, named := ["internal/strconv.uint64pow10", "math/bits.deBruijn32tab", "math/bits.deBruijn64tab"], loops := true, plainKeys := false, apart := false, laid := [("math/bits.deBruijn32tab", laid_math_bits_deBruijn32tab), ("math/bits.deBruijn64tab", laid_math_bits_deBruijn64tab), ("internal/strconv.uint64pow10", laid_internal_strconv_uint64pow10)] }
def SoundFitsSaid : Prop := soundFitsRow.holds Tryz.pinned (OpenSpec.ofChange soundFitsSpec)

/-- ITS FALSE NEIGHBOUR: 'it returns false'. Refute it at one input. -/
def soundFitsWrong : ChangeSpec := { name := "soundFits", fn := fun _ => fun
  | [d1, d2] => { results := [.lit (.bool false)], args := [d1, d2] }
  | _ => none }
def SoundFitsWrongFalsely : Prop := soundFitsRow.holds Tryz.pinned (OpenSpec.ofChange soundFitsWrong)

/-- 'pedigreelaw06.SoundGoals': WHATEVER THE INPUT: true; the input reads as it did. -/
def soundGoalsSpec : ChangeSpec := { name := "soundGoals", fn := fun _ => fun
  | [d1, d2] => { results := [.lit (.bool true)], args := [d1, d2] }
  | _ => none }
def soundGoalsRow : OpenClaim := { program := "ytpnclpbkecjinaagreatdoorr", sum := "76d0935e3e87cf092fcf70948d3556a5fe873ba68448a86c3e7faa1cef5cd729", func := "pedigree/pedigreelaw06.SoundGoals", spec := "soundGoals", inPlace := ["internal/abi.NoEscape"], unfollowed := true, recurses := true, named := ["internal/strconv.uint64pow10", "math/bits.deBruijn32tab", "math/bits.deBruijn64tab"], loops := true, plainKeys := false, apart := false, laid := [("math/bits.deBruijn32tab", laid_math_bits_deBruijn32tab), ("math/bits.deBruijn64tab", laid_math_bits_deBruijn64tab), ("internal/strconv.uint64pow10", laid_internal_strconv_uint64pow10)] }
def SoundGoalsSaid : Prop := soundGoalsRow.holds Tryz.pinned (OpenSpec.ofChange soundGoalsSpec)

/-- ITS FALSE NEIGHBOUR: 'it returns false'. Refute it at one input. -/
def soundGoalsWrong : ChangeSpec := { name := "soundGoals", fn := fun _ => fun
  | [d1, d2] => { results := [.lit (.bool false)], args := [d1, d2] }
  | _ => none }
def SoundGoalsWrongFalsely : Prop := soundGoalsRow.holds Tryz.pinned (OpenSpec.ofChange soundGoalsWrong)

/-- 'pedigreelaw06.SoundChecks': WHATEVER THE INPUT: true; the input reads as it did. -/
def soundChecksSpec : ChangeSpec := { name := "soundChecks", fn := fun _ => fun
  | [d] => { results := [.lit (.bool true)], args := [d] }
  | _ => none }
def soundChecksRow : OpenClaim := { program := "ytpnclpbkecjinaagreatdoorr", sum := "76d0935e3e87cf092fcf70948d3556a5fe873ba68448a86c3e7faa1cef5cd729", func := "pedigree/pedigreelaw06.SoundChecks", spec := "soundChecks", inPlace := ["internal/abi.NoEscape"], unfollowed := true, recurses := true, named := ["internal/strconv.uint64pow10", "math/bits.deBruijn32tab", "math/bits.deBruijn64tab"], loops := true, plainKeys := false, apart := false, laid := [("math/bits.deBruijn32tab", laid_math_bits_deBruijn32tab), ("math/bits.deBruijn64tab", laid_math_bits_deBruijn64tab), ("internal/strconv.uint64pow10", laid_internal_strconv_uint64pow10)] }
def SoundChecksSaid : Prop := soundChecksRow.holds Tryz.pinned (OpenSpec.ofChange soundChecksSpec)

/-- ITS FALSE NEIGHBOUR: 'it returns false'. Refute it at one input. -/
def soundChecksWrong : ChangeSpec := { name := "soundChecks", fn := fun _ => fun
  | [d] => { results := [.lit (.bool false)], args := [d] }
  | _ => none }
def SoundChecksWrongFalsely : Prop := soundChecksRow.holds Tryz.pinned (OpenSpec.ofChange soundChecksWrong)

/-- 'pedigreelaw06.SoundVars': WHATEVER THE INPUT: true; the input reads as it did. -/
def soundVarsSpec : ChangeSpec := { name := "soundVars", fn := fun _ => fun
  | [d1, d2] => { results := [.lit (.bool true)], args := [d1, d2] }
  | _ => none }
def soundVarsRow : OpenClaim := { program := "ytpnclpbkecjinaagreatdoorr", sum := "76d0935e3e87cf092fcf70948d3556a5fe873ba68448a86c3e7faa1cef5cd729", func := "pedigree/pedigreelaw06.SoundVars", spec := "soundVars", inPlace := ["internal/abi.NoEscape"], unfollowed := true, recurses := true, named := ["internal/strconv.uint64pow10", "math/bits.deBruijn32tab", "math/bits.deBruijn64tab"], loops := true, plainKeys := false, apart := false, laid := [("math/bits.deBruijn32tab", laid_math_bits_deBruijn32tab), ("math/bits.deBruijn64tab", laid_math_bits_deBruijn64tab), ("internal/strconv.uint64pow10", laid_internal_strconv_uint64pow10)] }
def SoundVarsSaid : Prop := soundVarsRow.holds Tryz.pinned (OpenSpec.ofChange soundVarsSpec)

/-- ITS FALSE NEIGHBOUR: 'it returns false'. Refute it at one input. -/
def soundVarsWrong : ChangeSpec := { name := "soundVars", fn := fun _ => fun
  | [d1, d2] => { results := [.lit (.bool false)], args := [d1, d2] }
  | _ => none }
def SoundVarsWrongFalsely : Prop := soundVarsRow.holds Tryz.pinned (OpenSpec.ofChange soundVarsWrong)

/-- 'pedigreelaw06.SoundTurned': WHATEVER THE INPUT: true; the input reads as it did. -/
def soundTurnedSpec : ChangeSpec := { name := "soundTurned", fn := fun _ => fun
  | [d1, d2, d3] => { results := [.lit (.bool true)], args := [d1, d2, d3] }
  | _ => none }
def soundTurnedRow : OpenClaim := { program := "ytpnclpbkecjinaagreatdoorr", sum := "76d0935e3e87cf092fcf70948d3556a5fe873ba68448a86c3e7faa1cef5cd729", func := "pedigree/pedigreelaw06.SoundTurned", spec := "soundTurned", inPlace := ["internal/abi.NoEscape"], unfollowed := true, recurses := true, named := ["internal/strconv.uint64pow10", "math/bits.deBruijn32tab", "math/bits.deBruijn64tab"], loops := true, plainKeys := false, apart := false, laid := [("math/bits.deBruijn32tab", laid_math_bits_deBruijn32tab), ("math/bits.deBruijn64tab", laid_math_bits_deBruijn64tab), ("internal/strconv.uint64pow10", laid_internal_strconv_uint64pow10)] }
def SoundTurnedSaid : Prop := soundTurnedRow.holds Tryz.pinned (OpenSpec.ofChange soundTurnedSpec)

/-- ITS FALSE NEIGHBOUR: 'it returns false'. Refute it at one input. -/
def soundTurnedWrong : ChangeSpec := { name := "soundTurned", fn := fun _ => fun
  | [d1, d2, d3] => { results := [.lit (.bool false)], args := [d1, d2, d3] }
  | _ => none }
def SoundTurnedWrongFalsely : Prop := soundTurnedRow.holds Tryz.pinned (OpenSpec.ofChange soundTurnedWrong)

/-- 'pedigreelaw06.SoundFaults': WHATEVER THE INPUT: true; the input reads as it did. -/
def soundFaultsSpec : ChangeSpec := { name := "soundFaults", fn := fun _ => fun
  | [d] => { results := [.lit (.bool true)], args := [d] }
  | _ => none }
def soundFaultsRow : OpenClaim := { program := "ytpnclpbkecjinaagreatdoorr", sum := "76d0935e3e87cf092fcf70948d3556a5fe873ba68448a86c3e7faa1cef5cd729", func := "pedigree/pedigreelaw06.SoundFaults", spec := "soundFaults", inPlace := ["internal/abi.NoEscape"], unfollowed := true, recurses := true, named := ["internal/strconv.uint64pow10", "math/bits.deBruijn32tab", "math/bits.deBruijn64tab"], loops := true, plainKeys := false, apart := false, laid := [("math/bits.deBruijn32tab", laid_math_bits_deBruijn32tab), ("math/bits.deBruijn64tab", laid_math_bits_deBruijn64tab), ("internal/strconv.uint64pow10", laid_internal_strconv_uint64pow10)] }
def SoundFaultsSaid : Prop := soundFaultsRow.holds Tryz.pinned (OpenSpec.ofChange soundFaultsSpec)

/-- ITS FALSE NEIGHBOUR: 'it returns false'. Refute it at one input. -/
def soundFaultsWrong : ChangeSpec := { name := "soundFaults", fn := fun _ => fun
  | [d] => { results := [.lit (.bool false)], args := [d] }
  | _ => none }
def SoundFaultsWrongFalsely : Prop := soundFaultsRow.holds Tryz.pinned (OpenSpec.ofChange soundFaultsWrong)

/-- 'pedigreelaw06.SoundLess': WHATEVER THE INPUT: true; the input reads as it did. -/
def soundLessSpec : ChangeSpec := { name := "soundLess", fn := fun _ => fun
  | [d1, d2, d3] => { results := [.lit (.bool true)], args := [d1, d2, d3] }
  | _ => none }
def soundLessRow : OpenClaim := { program := "ytpnclpbkecjinaagreatdoorr", sum := "76d0935e3e87cf092fcf70948d3556a5fe873ba68448a86c3e7faa1cef5cd729", func := "pedigree/pedigreelaw06.SoundLess", spec := "soundLess", inPlace := ["internal/abi.NoEscape"], unfollowed := true, recurses := true, named := ["internal/strconv.uint64pow10", "math/bits.deBruijn32tab", "math/bits.deBruijn64tab"], loops := true, plainKeys := false, apart := false, laid := [("math/bits.deBruijn32tab", laid_math_bits_deBruijn32tab), ("math/bits.deBruijn64tab", laid_math_bits_deBruijn64tab), ("internal/strconv.uint64pow10", laid_internal_strconv_uint64pow10)] }
def SoundLessSaid : Prop := soundLessRow.holds Tryz.pinned (OpenSpec.ofChange soundLessSpec)

/-- ITS FALSE NEIGHBOUR: 'it returns false'. Refute it at one input. -/
def soundLessWrong : ChangeSpec := { name := "soundLess", fn := fun _ => fun
  | [d1, d2, d3] => { results := [.lit (.bool false)], args := [d1, d2, d3] }
  | _ => none }
def SoundLessWrongFalsely : Prop := soundLessRow.holds Tryz.pinned (OpenSpec.ofChange soundLessWrong)

/- THE SECOND FORM. 'bulk': how many values and letters a reading holds, each counted each time it is reached (what is shared counts as often as it is met; a slice's spare places count too). A statement '..UptoSaid' is the law's where the arguments, and the package variables that the reading takes, are together of bulk at most 1048576: NARROWER than '..Said'. Prove '..Said' where nothing that the law and all that it calls make is longer than what came in: it says more and counts as full. Else prove '..UptoSaid'. A law counts once. -/
mutual
def uptoBulk {H : Type} : DataW H → Nat
  | .lit (.string bytes) => bytes.length + 1
  | .lit _ => 1
  | .nil => 1
  | .ptr d => uptoBulk d + 1
  | .slice elems spare => uptoBulkAll elems + uptoBulkAll spare + 1
  | .agg parts => uptoBulkAll parts + 1
  | .iface _ d => uptoBulk d + 1
  | .map entries => uptoBulkEntries entries + 1
  | .held _ => 1
def uptoBulkAll {H : Type} : List (DataW H) → Nat
  | [] => 0
  | d :: r => uptoBulk d + uptoBulkAll r
def uptoBulkEntries {H : Type} : List (Lit × DataW H) → Nat
  | [] => 0
  | x :: r => uptoBulkEntry x + uptoBulkEntries r
def uptoBulkEntry {H : Type} : Lit × DataW H → Nat
  | (.string bytes, d) => bytes.length + uptoBulk d + 1
  | (_, d) => uptoBulk d + 1
 end
def uptoSmall : (H : Type) → List (DataW H) → Bool := fun _ ds => decide (uptoBulkAll ds ≤ 1048576)
def OpenSpec.upto (s : _root_.Go.ChangeSpec) : _root_.Go.OpenSpec := { _root_.Go.OpenSpec.ofChange s with cond := some uptoSmall }

/-- 'pedigreelaw06.SoundTypes', WHERE WHAT IT READS IS OF BULK AT MOST 1048576: true; the input reads as it did. -/
def soundTypesUptoRow : OpenClaim := { program := "ytpnclpbkecjinaagreatdoorr", sum := "76d0935e3e87cf092fcf70948d3556a5fe873ba68448a86c3e7faa1cef5cd729", func := "pedigree/pedigreelaw06.SoundTypes", spec := "soundTypes", inPlace := ["internal/abi.NoEscape"], unfollowed := true, recurses := true, named := ["internal/strconv.uint64pow10", "math/bits.deBruijn32tab", "math/bits.deBruijn64tab"], loops := true, plainKeys := false, apart := false, laid := [("math/bits.deBruijn32tab", laid_math_bits_deBruijn32tab), ("math/bits.deBruijn64tab", laid_math_bits_deBruijn64tab), ("internal/strconv.uint64pow10", laid_internal_strconv_uint64pow10)], narrowed := true }
def SoundTypesUptoSaid : Prop := soundTypesUptoRow.holds Tryz.pinned (OpenSpec.upto soundTypesSpec)

/-- 'pedigreelaw06.SoundFits', WHERE WHAT IT READS IS OF BULK AT MOST 1048576: true; the input reads as it did. -/
def soundFitsUptoRow : OpenClaim := { program := "ytpnclpbkecjinaagreatdoorr", sum := "76d0935e3e87cf092fcf70948d3556a5fe873ba68448a86c3e7faa1cef5cd729", func := "pedigree/pedigreelaw06.SoundFits", spec := "soundFits", inPlace := ["internal/abi.NoEscape"], unfollowed := true, recurses := true, named := ["internal/strconv.uint64pow10", "math/bits.deBruijn32tab", "math/bits.deBruijn64tab"], loops := true, plainKeys := false, apart := false, laid := [("math/bits.deBruijn32tab", laid_math_bits_deBruijn32tab), ("math/bits.deBruijn64tab", laid_math_bits_deBruijn64tab), ("internal/strconv.uint64pow10", laid_internal_strconv_uint64pow10)], narrowed := true }
def SoundFitsUptoSaid : Prop := soundFitsUptoRow.holds Tryz.pinned (OpenSpec.upto soundFitsSpec)

/-- 'pedigreelaw06.SoundGoals', WHERE WHAT IT READS IS OF BULK AT MOST 1048576: true; the input reads as it did. -/
def soundGoalsUptoRow : OpenClaim := { program := "ytpnclpbkecjinaagreatdoorr", sum := "76d0935e3e87cf092fcf70948d3556a5fe873ba68448a86c3e7faa1cef5cd729", func := "pedigree/pedigreelaw06.SoundGoals", spec := "soundGoals", inPlace := ["internal/abi.NoEscape"], unfollowed := true, recurses := true, named := ["internal/strconv.uint64pow10", "math/bits.deBruijn32tab", "math/bits.deBruijn64tab"], loops := true, plainKeys := false, apart := false, laid := [("math/bits.deBruijn32tab", laid_math_bits_deBruijn32tab), ("math/bits.deBruijn64tab", laid_math_bits_deBruijn64tab), ("internal/strconv.uint64pow10", laid_internal_strconv_uint64pow10)], narrowed := true }
def SoundGoalsUptoSaid : Prop := soundGoalsUptoRow.holds Tryz.pinned (OpenSpec.upto soundGoalsSpec)

/-- 'pedigreelaw06.SoundChecks', WHERE WHAT IT READS IS OF BULK AT MOST 1048576: true; the input reads as it did. -/
def soundChecksUptoRow : OpenClaim := { program := "ytpnclpbkecjinaagreatdoorr", sum := "76d0935e3e87cf092fcf70948d3556a5fe873ba68448a86c3e7faa1cef5cd729", func := "pedigree/pedigreelaw06.SoundChecks", spec := "soundChecks", inPlace := ["internal/abi.NoEscape"], unfollowed := true, recurses := true, named := ["internal/strconv.uint64pow10", "math/bits.deBruijn32tab", "math/bits.deBruijn64tab"], loops := true, plainKeys := false, apart := false, laid := [("math/bits.deBruijn32tab", laid_math_bits_deBruijn32tab), ("math/bits.deBruijn64tab", laid_math_bits_deBruijn64tab), ("internal/strconv.uint64pow10", laid_internal_strconv_uint64pow10)], narrowed := true }
def SoundChecksUptoSaid : Prop := soundChecksUptoRow.holds Tryz.pinned (OpenSpec.upto soundChecksSpec)

/-- 'pedigreelaw06.SoundVars', WHERE WHAT IT READS IS OF BULK AT MOST 1048576: true; the input reads as it did. -/
def soundVarsUptoRow : OpenClaim := { program := "ytpnclpbkecjinaagreatdoorr", sum := "76d0935e3e87cf092fcf70948d3556a5fe873ba68448a86c3e7faa1cef5cd729", func := "pedigree/pedigreelaw06.SoundVars", spec := "soundVars", inPlace := ["internal/abi.NoEscape"], unfollowed := true, recurses := true, named := ["internal/strconv.uint64pow10", "math/bits.deBruijn32tab", "math/bits.deBruijn64tab"], loops := true, plainKeys := false, apart := false, laid := [("math/bits.deBruijn32tab", laid_math_bits_deBruijn32tab), ("math/bits.deBruijn64tab", laid_math_bits_deBruijn64tab), ("internal/strconv.uint64pow10", laid_internal_strconv_uint64pow10)], narrowed := true }
def SoundVarsUptoSaid : Prop := soundVarsUptoRow.holds Tryz.pinned (OpenSpec.upto soundVarsSpec)

/-- 'pedigreelaw06.SoundTurned', WHERE WHAT IT READS IS OF BULK AT MOST 1048576: true; the input reads as it did. -/
def soundTurnedUptoRow : OpenClaim := { program := "ytpnclpbkecjinaagreatdoorr", sum := "76d0935e3e87cf092fcf70948d3556a5fe873ba68448a86c3e7faa1cef5cd729", func := "pedigree/pedigreelaw06.SoundTurned", spec := "soundTurned", inPlace := ["internal/abi.NoEscape"], unfollowed := true, recurses := true, named := ["internal/strconv.uint64pow10", "math/bits.deBruijn32tab", "math/bits.deBruijn64tab"], loops := true, plainKeys := false, apart := false, laid := [("math/bits.deBruijn32tab", laid_math_bits_deBruijn32tab), ("math/bits.deBruijn64tab", laid_math_bits_deBruijn64tab), ("internal/strconv.uint64pow10", laid_internal_strconv_uint64pow10)], narrowed := true }
def SoundTurnedUptoSaid : Prop := soundTurnedUptoRow.holds Tryz.pinned (OpenSpec.upto soundTurnedSpec)

/-- 'pedigreelaw06.SoundFaults', WHERE WHAT IT READS IS OF BULK AT MOST 1048576: true; the input reads as it did. -/
def soundFaultsUptoRow : OpenClaim := { program := "ytpnclpbkecjinaagreatdoorr", sum := "76d0935e3e87cf092fcf70948d3556a5fe873ba68448a86c3e7faa1cef5cd729", func := "pedigree/pedigreelaw06.SoundFaults", spec := "soundFaults", inPlace := ["internal/abi.NoEscape"], unfollowed := true, recurses := true, named := ["internal/strconv.uint64pow10", "math/bits.deBruijn32tab", "math/bits.deBruijn64tab"], loops := true, plainKeys := false, apart := false, laid := [("math/bits.deBruijn32tab", laid_math_bits_deBruijn32tab), ("math/bits.deBruijn64tab", laid_math_bits_deBruijn64tab), ("internal/strconv.uint64pow10", laid_internal_strconv_uint64pow10)], narrowed := true }
def SoundFaultsUptoSaid : Prop := soundFaultsUptoRow.holds Tryz.pinned (OpenSpec.upto soundFaultsSpec)

/-- 'pedigreelaw06.SoundLess', WHERE WHAT IT READS IS OF BULK AT MOST 1048576: true; the input reads as it did. -/
def soundLessUptoRow : OpenClaim := { program := "ytpnclpbkecjinaagreatdoorr", sum := "76d0935e3e87cf092fcf70948d3556a5fe873ba68448a86c3e7faa1cef5cd729", func := "pedigree/pedigreelaw06.SoundLess", spec := "soundLess", inPlace := ["internal/abi.NoEscape"], unfollowed := true, recurses := true, named := ["internal/strconv.uint64pow10", "math/bits.deBruijn32tab", "math/bits.deBruijn64tab"], loops := true, plainKeys := false, apart := false, laid := [("math/bits.deBruijn32tab", laid_math_bits_deBruijn32tab), ("math/bits.deBruijn64tab", laid_math_bits_deBruijn64tab), ("internal/strconv.uint64pow10", laid_internal_strconv_uint64pow10)], narrowed := true }
def SoundLessUptoSaid : Prop := soundLessUptoRow.holds Tryz.pinned (OpenSpec.upto soundLessSpec)

end Rows
end Go.Proofs.YtpnclpbkecjinaaGreatDoorR
