/-
  SoundFaults, for all programs of the bound: the law answers true and leaves its argument as it was. Conditions: the card's own (bulk at most 1048576).
-/
import Derived.Test.YtpnclpbkecjinaaGreatDoorRPart7
namespace Go.Proofs.YtpnclpbkecjinaaGreatDoorR
open Go Go.Al Go.ChangeShapes Go.WideShapes Go.RowKit
set_option maxRecDepth 100000
abbrev argsFaults : Array Value := #[.agg #[.slice none 0 0, .slice none 0 0]]
theorem contractFaults (H : Type) (enc : TypeId × Value → H) (W : World) (base : Nat) (args : Array Value) (ds gs : List (DataW H)) (before : List MemPlace)
  (hval : ∀ (j : Nat) t v, Tryz.f9.params[j]? = some t → args[j]? = some v → Value.okWide Tryz.prog W .any base t v)
  (hW : DataW.Whole enc Tryz.prog Tryz.f9.params.toList Rows.soundFaultsSpec.vars false W args.toList ds gs before) (hk : Rows.uptoSmall H (ds ++ gs) = true) (hL : laidMetH Tryz.prog laid3 W) :
  Calls Tryz.prog 9 args W fun e W' => ∃ v, e = .returned v ∧ Rows.soundFaultsSpec.post enc Tryz.prog Tryz.f9 false true false false W args v W' := by
 have hT := tabOK_of hL
 have hW' := hW
 obtain ⟨p, q, hA0, hV, rfl, hfz, hnd⟩ := hW
 have hA : DataW.TrodAll enc Tryz.prog W 0 (fun _ => true) true Tryz.f9.params.toList args.toList ds p := hA0
 rw [Tryz.params9] at hA hval
 obtain ⟨v0, vs0, d0, ds0, p0, q0, hargs, rfl, rfl, h0, r0⟩ := trodAll_cons hA
 obtain ⟨rfl, rfl, rfl⟩ := trodAll_nil r0
 obtain rfl : args = [v0].toArray := by cases args; simp_all
 obtain ⟨rfl, rfl⟩ := trodVars_none hV
 obtain ⟨x0, q0, hv0⟩ := arg_prog hT ⟨base, hval 0 25 v0 rfl rfl⟩ h0
 have hb := bound hk
 simp only [List.append_nil, Rows.uptoBulkAll] at hb
 refine post_of_pure hT (faults_all x0 (fit_of q0 (by simp only [bk]; omega)) (by have := q0.1; simp only [bk] at this; omega)) rfl (fun j p hj => ?_) (by rw [Tryz.params9]; exact zT (by kernel_rfl)) rfl (by kernel_rfl) hW' rfl rfl rfl
 match j, hj with
 | 0, hj => cases hj; exact hv0
theorem laidMetFaults (os : Os) : laidMet Tryz.prog Rows.soundFaultsUptoRow.laid ((laidWorld os).forCall (fun _ _ => 0) ⟨#[], argsFaults, []⟩).memory :=
 laidMet_of_run' 8 (by kernel_rfl) (by kernel_rfl)
theorem readsFaults (os : Os) {H : Type} (enc : TypeId × Value → H) : ∃ places, DataW.whole enc Tryz.prog ((laidWorld os).forCall (fun _ _ => 0) ⟨#[], argsFaults, []⟩).memory Tryz.f9.params.toList Rows.soundFaultsSpec.vars false argsFaults.toList 8 = some ([.agg [.nil, .nil]], [], places) :=
 ⟨[], by kernel_rfl⟩
theorem liftedFaults (os : Os) (started : os.Started) (H : Type) (enc : TypeId × Value → H) (F : Stop.Interp) :
  ReturnsInHanded {} Tryz.checked os 9 .any ((Rows.OpenSpec.upto Rows.soundFaultsSpec).preRow enc Tryz.prog Tryz.f9 Rows.soundFaultsUptoRow.domain false Rows.soundFaultsUptoRow.laid) (((Rows.OpenSpec.upto Rows.soundFaultsSpec).at F).post enc Tryz.prog Tryz.f9 false true false false) := by
 obtain ⟨places, hx⟩ := readsFaults os enc
 refine returnsInHanded_of_row (C := Tryz.checked) (s := Rows.OpenSpec.upto Rows.soundFaultsSpec) own started (by kernel_rfl) Tryz.func9
  (witness_row_at (enc := enc) (C := Tryz.checked) false (laidWorld os) argsFaults rfl (by kernel_rfl) (by kernel_rfl) (by kernel_rfl)
   (OpenSpec.preRow_of_cond 8 hx (by kernel_rfl) (fun k hk => by cases hk; kernel_rfl) (by kernel_rfl) (laidMetFaults os))) ?_
 intro W base args ds gs before hval hW _ hcond _ hL _ _
 exact contractFaults H enc W base args ds gs before hval hW (hcond _ rfl) hL
theorem saidFaults : Rows.SoundFaultsUptoSaid :=
 OpenClaim.holds_of_cond 9 Tryz.f9 rfl rfl rfl rfl rfl rfl rfl ⟨rfl, rfl, rfl, rfl, rfl⟩ rfl rfl rfl rfl rfl (by kernel_rfl) Tryz.func9 (by kernel_rfl)
  (zT (by kernel_rfl)) (by unfold Func.isWrapper; first | (rw [if_pos (by decide +kernel)]; kernel_rfl) | (rw [if_neg (by decide +kernel)]; exact ⟨rfl, rfl⟩))
  (fun os started H enc _ F => by rw [OpenClaim.pre_eq_preRow]; exact liftedFaults os started H enc F)
theorem plainParamsFaults (f : FuncId) (fn : Func) (hf : Tryz.pinned.checked.prog.funcNamed "pedigree/pedigreelaw06.SoundFaults" = some f) (hfn : Tryz.pinned.checked.prog.funcs[f]? = some fn) :
  false = Tryz.pinned.checked.prog.looks [] ∧ ∀ (j : Nat) t, fn.params[j]? = some t → Tryz.pinned.checked.prog.wantsStandIn t = false := by
 obtain rfl : f = 9 := Option.some.inj ((show Tryz.prog.funcNamed "pedigree/pedigreelaw06.SoundFaults" = some 9 by kernel_rfl).symm.trans hf) |>.symm
 obtain rfl : fn = Tryz.f9 := (Option.some.inj (Tryz.func9.symm.trans hfn)).symm
 refine ⟨by kernel_rfl, fun j t ht => ?_⟩
 rw [Tryz.params9] at ht
 match j, ht with
 | 0, ht => cases ht; exact (show Tryz.prog.wantsStandIn 25 = false by kernel_rfl)
theorem soundFaults_card : Rows.SoundFaultsUptoCardSaid :=
 Claim7.holds_tied_plain_at .later [] _ _ _ _ saidFaults (fun _ h => by cases h) (by kernel_rfl) (fun _ h => by cases h) soundFaultsUpto_row_tie rfl ⟨rfl, rfl⟩ (by kernel_rfl) rfl plainParamsFaults (by kernel_rfl)
end Go.Proofs.YtpnclpbkecjinaaGreatDoorR
