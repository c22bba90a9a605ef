/-
  SoundTypes, for all programs and numbers of the bound: the law answers true and leaves its arguments as they were. Conditions: the card's own (bulk at most 1048576).
-/
import Derived.Test.YtpnclpbkecjinaaGreatDoorRPart7
namespace Go.Proofs.YtpnclpbkecjinaaGreatDoorR
open Go Go.Al Go.ChangeShapes Go.WideShapes Go.RowKit
set_option maxRecDepth 100000
abbrev argsTypes : Array Value := #[.agg #[.slice none 0 0, .slice none 0 0], .int .i64 0]
theorem contractTypes (H : Type) (enc : TypeId × Value → H) (W : World) (base : Nat) (args : Array Value) (ds gs : List (DataW H)) (before : List MemPlace)
  (hval : ∀ (j : Nat) t v, Tryz.f3.params[j]? = some t → args[j]? = some v → Value.okWide Tryz.prog W .any base t v)
  (hW : DataW.Whole enc Tryz.prog Tryz.f3.params.toList Rows.soundTypesSpec.vars false W args.toList ds gs before) (hk : Rows.uptoSmall H (ds ++ gs) = true) (hL : laidMetH Tryz.prog laid3 W) :
  Calls Tryz.prog 3 args W fun e W' => ∃ v, e = .returned v ∧ Rows.soundTypesSpec.post enc Tryz.prog Tryz.f3 false true false false W args v W' := by
 have hT := tabOK_of hL
 have hW' := hW
 obtain ⟨p, q, hA0, hV, rfl, hfz, hnd⟩ := hW
 have hA : DataW.TrodAll enc Tryz.prog W 0 (fun _ => true) true Tryz.f3.params.toList args.toList ds p := hA0
 rw [Tryz.params3] at hA hval
 obtain ⟨v0, vs0, d0, ds0, p0, q0, hargs, rfl, rfl, h0, r0⟩ := trodAll_cons hA
 obtain ⟨v1, vs1, d1, ds1, p1, q1, rfl, rfl, rfl, h1, r1⟩ := trodAll_cons r0
 obtain ⟨rfl, rfl, rfl⟩ := trodAll_nil r1
 obtain rfl : args = [v0, v1].toArray := by cases args; simp_all
 obtain ⟨rfl, rfl⟩ := trodVars_none hV
 obtain ⟨x0, q0, hv0⟩ := arg_prog hT ⟨base, hval 0 25 v0 rfl rfl⟩ h0
 obtain ⟨x1, q1, hv1⟩ := arg_int hT ⟨base, hval 1 3 v1 rfl rfl⟩ h1
 have hb := bound hk
 simp only [List.append_nil, Rows.uptoBulkAll] at hb
 refine post_of_pure hT (types_all x0 x1 (fit_of q0 (by simp only [bk]; omega)) (by have := q0.1; simp only [bk] at this; omega)) rfl (fun j p hj => ?_) (by rw [Tryz.params3]; exact zT (by kernel_rfl)) rfl (by kernel_rfl) hW' rfl rfl rfl
 match j, hj with
 | 0, hj => cases hj; exact hv0
 | 1, hj => cases hj; exact hv1
theorem laidMetTypes (os : Os) : laidMet Tryz.prog Rows.soundTypesUptoRow.laid ((laidWorld os).forCall (fun _ _ => 0) ⟨#[], argsTypes, []⟩).memory :=
 laidMet_of_run' 8 (by kernel_rfl) (by kernel_rfl)
theorem readsTypes (os : Os) {H : Type} (enc : TypeId × Value → H) : ∃ places, DataW.whole enc Tryz.prog ((laidWorld os).forCall (fun _ _ => 0) ⟨#[], argsTypes, []⟩).memory Tryz.f3.params.toList Rows.soundTypesSpec.vars false argsTypes.toList 8 = some ([.agg [.nil, .nil], .lit (.int .i64 0)], [], places) :=
 ⟨[], by kernel_rfl⟩
theorem liftedTypes (os : Os) (started : os.Started) (H : Type) (enc : TypeId × Value → H) (F : Stop.Interp) :
  ReturnsInHanded {} Tryz.checked os 3 .any ((Rows.OpenSpec.upto Rows.soundTypesSpec).preRow enc Tryz.prog Tryz.f3 Rows.soundTypesUptoRow.domain false Rows.soundTypesUptoRow.laid) (((Rows.OpenSpec.upto Rows.soundTypesSpec).at F).post enc Tryz.prog Tryz.f3 false true false false) := by
 obtain ⟨places, hx⟩ := readsTypes os enc
 refine returnsInHanded_of_row (C := Tryz.checked) (s := Rows.OpenSpec.upto Rows.soundTypesSpec) own started (by kernel_rfl) Tryz.func3
  (witness_row_at (enc := enc) (C := Tryz.checked) false (laidWorld os) argsTypes rfl (by kernel_rfl) (by kernel_rfl) (by kernel_rfl)
   (OpenSpec.preRow_of_cond 8 hx (by kernel_rfl) (fun k hk => by cases hk; kernel_rfl) (by kernel_rfl) (laidMetTypes os))) ?_
 intro W base args ds gs before hval hW _ hcond _ hL _ _
 exact contractTypes H enc W base args ds gs before hval hW (hcond _ rfl) hL
theorem saidTypes : Rows.SoundTypesUptoSaid :=
 OpenClaim.holds_of_cond 3 Tryz.f3 rfl rfl rfl rfl rfl rfl rfl ⟨rfl, rfl, rfl, rfl, rfl⟩ rfl rfl rfl rfl rfl (by kernel_rfl) Tryz.func3 (by kernel_rfl)
  (zT (by kernel_rfl)) (by unfold Func.isWrapper; first | (rw [if_pos (by decide +kernel)]; kernel_rfl) | (rw [if_neg (by decide +kernel)]; exact ⟨rfl, rfl⟩))
  (fun os started H enc _ F => by rw [OpenClaim.pre_eq_preRow]; exact liftedTypes os started H enc F)
theorem plainParamsTypes (f : FuncId) (fn : Func) (hf : Tryz.pinned.checked.prog.funcNamed "pedigree/pedigreelaw06.SoundTypes" = some f) (hfn : Tryz.pinned.checked.prog.funcs[f]? = some fn) :
  false = Tryz.pinned.checked.prog.looks [] ∧ ∀ (j : Nat) t, fn.params[j]? = some t → Tryz.pinned.checked.prog.wantsStandIn t = false := by
 obtain rfl : f = 3 := Option.some.inj ((show Tryz.prog.funcNamed "pedigree/pedigreelaw06.SoundTypes" = some 3 by kernel_rfl).symm.trans hf) |>.symm
 obtain rfl : fn = Tryz.f3 := (Option.some.inj (Tryz.func3.symm.trans hfn)).symm
 refine ⟨by kernel_rfl, fun j t ht => ?_⟩
 rw [Tryz.params3] at ht
 match j, ht with
 | 0, ht => cases ht; exact (show Tryz.prog.wantsStandIn 25 = false by kernel_rfl)
 | 1, ht => cases ht; exact (show Tryz.prog.wantsStandIn 3 = false by kernel_rfl)
theorem soundTypes_card : Rows.SoundTypesUptoCardSaid :=
 Claim7.holds_tied_plain_at .later [] _ _ _ _ saidTypes (fun _ h => by cases h) (by kernel_rfl) (fun _ h => by cases h) soundTypesUpto_row_tie rfl ⟨rfl, rfl⟩ (by kernel_rfl) rfl plainParamsTypes (by kernel_rfl)
end Go.Proofs.YtpnclpbkecjinaaGreatDoorR
