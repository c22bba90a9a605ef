/-
  For every program of the bound StrataOrder answers true and leaves its argument as it was (the second form of the tied card). Conditions: the bulk of what it reads is at most 1048576.
-/
import Derived.Test.YtflegjieadkonaaGreatDoorPart6
open List renaming append_nil→WL
open Option.some renaming inj→WQ
namespace Go.Proofs.YtflegjieadkonaaGreatDoor
open Go Go.Al Go.ChangeShapes Go.WideShapes Go.RowKit
set_option maxRecDepth 100000
abbrev fy:Array Value:= #[.agg #[.slice none 0 0, .slice none 0 0]]
theorem mT (H:Type) (enc:TypeId×Value→H) (W:World) (base:Nat) (args:Array Value) (ds gs:List (DataW H)) (before:List MemPlace)
  (hval: ∀(j:Nat) t v,Tryz.f5.params[j]? =some t→args[j]? =some v→Value.okWide Tryz.prog W .any base t v)
  (hW:DataW.Whole enc Tryz.prog Tryz.f5.params.toList Rows.strataOrderSpec.vars false W args.toList ds gs before) (hk:Rows.uptoSmall H (ds++gs)=true) (hL:laidMetH Tryz.prog C7 W):
  Calls Tryz.prog 5 args W fun e W'=> ∃v,e= .returned v∧Rows.strataOrderSpec.post enc Tryz.prog Tryz.f5 false true false false W args v W':=by
 have hT:=B1 hL;have hW':=hW;obtain⟨p,q,hA0,hV,rfl,hfz,hnd⟩:=hW;have hA:DataW.TrodAll enc Tryz.prog W 0 (fun _=>true) true Tryz.f5.params.toList args.toList ds p:=hA0;rw[Tryz.params5] at hA hval;obtain⟨v0,vs0,d0,ds0,p0,q0,hargs,rfl,rfl,h0,r0⟩:=trodAll_cons hA;obtain⟨rfl,rfl,rfl⟩:=trodAll_nil r0;obtain rfl:args=[v0].toArray:=by cases args;simp_all
 obtain⟨rfl,rfl⟩:=trodVars_none hV;obtain⟨x0,q0,hv0⟩:=D4 hT ⟨base,hval 0 25 v0 rfl rfl⟩ h0;have hb:=bound hk;simp only[WL,Rows.uptoBulkAll] at hb;refine vd hT (Ra ON x0 (RI q0 (by simp only[bk];omega)) (by have:=q0.1;simp only[bk] at this;omega)) rfl (fun j p hj=>?_) (by rw[Tryz.params5];exact of_decide_eq_true (by kernel_rfl)) rfl (by kernel_rfl) hW' rfl rfl rfl
 match j,hj with
 |0,hj=>cases hj;exact hv0
theorem nQ (os:Os):laidMet Tryz.prog Rows.strataOrderUptoRow.laid ((pz os).forCall (fun _ _=>0) ⟨#[],fy,[]⟩).memory:=
 laidMet_of_run' 8 (by kernel_rfl) (by kernel_rfl)
theorem pf (os:Os) {H:Type} (enc:TypeId×Value→H): ∃places,DataW.whole enc Tryz.prog ((pz os).forCall (fun _ _=>0) ⟨#[],fy,[]⟩).memory Tryz.f5.params.toList Rows.strataOrderSpec.vars false fy.toList 8=some ([.agg [.nil, .nil]],[],places):=
 ⟨[],by kernel_rfl⟩
theorem oy (os:Os) (started:os.Started) (H:Type) (enc:TypeId×Value→H) (F:Stop.Interp):
  ReturnsInHanded {} Tryz.checked os 5 .any ((Rows.OpenSpec.upto Rows.strataOrderSpec).preRow enc Tryz.prog Tryz.f5 Rows.strataOrderUptoRow.domain false Rows.strataOrderUptoRow.laid) (((Rows.OpenSpec.upto Rows.strataOrderSpec).at F).post enc Tryz.prog Tryz.f5 false true false false):=by
 obtain⟨places,hx⟩:=pf os enc
 refine returnsInHanded_of_row (C:=Tryz.checked) (s:=Rows.OpenSpec.upto Rows.strataOrderSpec) own started (by kernel_rfl) Tryz.func5
  (witness_row_at (enc:=enc) (C:=Tryz.checked) false (pz os) fy rfl (by kernel_rfl) (by kernel_rfl) (by kernel_rfl)
   (OpenSpec.preRow_of_cond 8 hx (by kernel_rfl) (fun k hk=>by cases hk;kernel_rfl) (by kernel_rfl) (nQ os))) ?_
 intro W base args ds gs before hval hW _ hcond _ hL _ _;exact mT H enc W base args ds gs before hval hW (hcond _ rfl) hL
theorem qE:Rows.StrataOrderUptoSaid:=
 OpenClaim.holds_of_cond 5 Tryz.f5 rfl rfl rfl rfl rfl rfl rfl ⟨rfl,rfl,rfl,rfl,rfl⟩ rfl rfl rfl rfl rfl (by kernel_rfl) Tryz.func5 oT
  (of_decide_eq_true (by kernel_rfl)) (by unfold Func.isWrapper;first|(rw[if_pos (by decide+kernel)];kernel_rfl)|(rw[if_neg (by decide+kernel)];exact⟨rfl,rfl⟩))
  (fun os started H enc _ F=>by rw[OpenClaim.pre_eq_preRow];exact oy os started H enc F)
theorem kO (f:FuncId) (fn:Func) (hf:Tryz.pinned.checked.prog.funcNamed "pedigree/pedigreelaw07.StrataOrder" =some f) (hfn:Tryz.pinned.checked.prog.funcs[f]? =some fn):
  false=Tryz.pinned.checked.prog.looks []∧ ∀(j:Nat) t,fn.params[j]? =some t→Tryz.pinned.checked.prog.wantsStandIn t=false:=by
 obtain rfl:f=5:=WQ ((show Tryz.prog.funcNamed "pedigree/pedigreelaw07.StrataOrder" =some 5 by kernel_rfl).symm.trans hf)|>.symm;obtain rfl:fn=Tryz.f5:=(WQ (Tryz.func5.symm.trans hfn)).symm;refine⟨by kernel_rfl,fun j t ht=>?_⟩;rw[Tryz.params5] at ht
 match j,ht with
 |0,ht=>cases ht;exact(show Tryz.prog.wantsStandIn 25=false by kernel_rfl)
theorem strataOrder_card:Rows.StrataOrderUptoCardSaid:=
 Claim7.holds_tied_plain_at .later [] _ _ _ _ qE (fun _ h=>by cases h) (by kernel_rfl) (fun _ h=>by cases h) strataOrderUpto_row_tie rfl ⟨rfl,rfl⟩ (by kernel_rfl) rfl kO (by kernel_rfl)
end Go.Proofs.YtflegjieadkonaaGreatDoor
