/-
  For every program of the bound, and any two numbers, StrataTurned answers true and leaves its arguments as they were (the second form of the tied card). Conditions: the bulk of what it reads is at most 1048576.
-/
import Derived.Test.YtflegjieadkonaaGreatDoorPart7
open List renaming append_nil→Xo
open Option.some renaming inj→Xt
namespace Go.Proofs.YtflegjieadkonaaGreatDoor
open Go Go.Al Go.ChangeShapes Go.WideShapes Go.RowKit
set_option maxRecDepth 100000
abbrev fa:Array Value:= #[.agg #[.slice none 0 0, .slice none 0 0], .int .i64 0, .int .i64 0]
theorem mH (H:Type) (enc:TypeId×Value→H) (W:World) (base:Nat) (args:Array Value) (ds gs:List (DataW H)) (before:List MemPlace)
  (hval: ∀(j:Nat) t v,Tryz.f6.params[j]? =some t→args[j]? =some v→Value.okWide Tryz.prog W .any base t v)
  (hW:DataW.Whole enc Tryz.prog Tryz.f6.params.toList Rows.strataTurnedSpec.vars false W args.toList ds gs before) (hk:Rows.uptoSmall H (ds++gs)=true) (hL:laidMetH Tryz.prog DF W):
  Calls Tryz.prog 6 args W fun e W'=> ∃v,e= .returned v∧Rows.strataTurnedSpec.post enc Tryz.prog Tryz.f6 false true false false W args v W':=by
 have hT:=CC hL;have hW':=hW;obtain⟨p,q,hA0,hV,rfl,hfz,hnd⟩:=hW;have hA:DataW.TrodAll enc Tryz.prog W 0 (fun _=>true) true Tryz.f6.params.toList args.toList ds p:=hA0;rw[Tryz.params6] at hA hval;obtain⟨v0,vs0,d0,ds0,p0,q0,hargs,rfl,rfl,h0,r0⟩:=trodAll_cons hA;obtain⟨v1,vs1,d1,ds1,p1,q1,rfl,rfl,rfl,h1,r1⟩:=trodAll_cons r0;obtain⟨v2,vs2,d2,ds2,p2,q2,rfl,rfl,rfl,h2,r2⟩:=trodAll_cons r1;obtain⟨rfl,rfl,rfl⟩:=trodAll_nil r2;obtain rfl:args=[v0,v1,v2].toArray:=by cases args;simp_all
 obtain⟨rfl,rfl⟩:=trodVars_none hV;obtain⟨x0,q0,hv0⟩:=EB hT ⟨base,hval 0 25 v0 rfl rfl⟩ h0;obtain⟨x1,q1,hv1⟩:=AN hT ⟨base,hval 1 3 v1 rfl rfl⟩ h1;obtain⟨x2,q2,hv2⟩:=AN hT ⟨base,hval 2 3 v2 rfl rfl⟩ h2;have hb:=bound hk;simp only[Xo,Rows.uptoBulkAll] at hb;have w1:=DH q1;have w2:=DH q2;refine vw hT (tI Pn x0 x1 x2 (Sf q0 (by simp only[bk];omega)) (by have:=q0.1;simp only[bk] at this;omega) w1.1 w1.2 w2.1 w2.2) rfl (fun j p hj=>?_) (by rw[Tryz.params6];exact of_decide_eq_true (by kernel_rfl)) rfl (by kernel_rfl) hW' rfl rfl rfl
 match j,hj with
 |0,hj=>cases hj;exact hv0
 |1,hj=>cases hj;exact hv1
 |2,hj=>cases hj;exact hv2
theorem nr (os:Os):laidMet Tryz.prog Rows.strataTurnedUptoRow.laid ((pZ os).forCall (fun _ _=>0) ⟨#[],fa,[]⟩).memory:=
 laidMet_of_run' 8 (by kernel_rfl) (by kernel_rfl)
theorem oK (os:Os) {H:Type} (enc:TypeId×Value→H): ∃places,DataW.whole enc Tryz.prog ((pZ os).forCall (fun _ _=>0) ⟨#[],fa,[]⟩).memory Tryz.f6.params.toList Rows.strataTurnedSpec.vars false fa.toList 8=some ([.agg [.nil, .nil], .lit (.int .i64 0), .lit (.int .i64 0)],[],places):=
 ⟨[],by kernel_rfl⟩
theorem n8 (os:Os) (started:os.Started) (H:Type) (enc:TypeId×Value→H) (F:Stop.Interp):
  ReturnsInHanded {} Tryz.checked os 6 .any ((Rows.OpenSpec.upto Rows.strataTurnedSpec).preRow enc Tryz.prog Tryz.f6 Rows.strataTurnedUptoRow.domain false Rows.strataTurnedUptoRow.laid) (((Rows.OpenSpec.upto Rows.strataTurnedSpec).at F).post enc Tryz.prog Tryz.f6 false true false false):=by
 obtain⟨places,hx⟩:=oK os enc
 refine returnsInHanded_of_row (C:=Tryz.checked) (s:=Rows.OpenSpec.upto Rows.strataTurnedSpec) own started (by kernel_rfl) Tryz.func6
  (witness_row_at (enc:=enc) (C:=Tryz.checked) false (pZ os) fa rfl (by kernel_rfl) (by kernel_rfl) (by kernel_rfl)
   (OpenSpec.preRow_of_cond 8 hx (by kernel_rfl) (fun k hk=>by cases hk;kernel_rfl) (by kernel_rfl) (nr os))) ?_
 intro W base args ds gs before hval hW _ hcond _ hL _ _;exact mH H enc W base args ds gs before hval hW (hcond _ rfl) hL
theorem pF:Rows.StrataTurnedUptoSaid:=
 OpenClaim.holds_of_cond 6 Tryz.f6 rfl rfl rfl rfl rfl rfl rfl ⟨rfl,rfl,rfl,rfl,rfl⟩ rfl rfl rfl rfl rfl (by kernel_rfl) Tryz.func6 om
  (of_decide_eq_true (by kernel_rfl)) (by unfold Func.isWrapper;first|(rw[if_pos (by decide+kernel)];kernel_rfl)|(rw[if_neg (by decide+kernel)];exact⟨rfl,rfl⟩))
  (fun os started H enc _ F=>by rw[OpenClaim.pre_eq_preRow];exact n8 os started H enc F)
theorem kA (f:FuncId) (fn:Func) (hf:Tryz.pinned.checked.prog.funcNamed "pedigree/pedigreelaw07.StrataTurned" =some f) (hfn:Tryz.pinned.checked.prog.funcs[f]? =some fn):
  false=Tryz.pinned.checked.prog.looks []∧ ∀(j:Nat) t,fn.params[j]? =some t→Tryz.pinned.checked.prog.wantsStandIn t=false:=by
 obtain rfl:f=6:=Xt ((show Tryz.prog.funcNamed "pedigree/pedigreelaw07.StrataTurned" =some 6 by kernel_rfl).symm.trans hf)|>.symm;obtain rfl:fn=Tryz.f6:=(Xt (Tryz.func6.symm.trans hfn)).symm;refine⟨by kernel_rfl,fun j t ht=>?_⟩;rw[Tryz.params6] at ht
 match j,ht with
 |0,ht=>cases ht;exact(show Tryz.prog.wantsStandIn 25=false by kernel_rfl)
 |1,ht=>cases ht;exact(show Tryz.prog.wantsStandIn 3=false by kernel_rfl)
 |2,ht=>cases ht;exact(show Tryz.prog.wantsStandIn 3=false by kernel_rfl)
theorem strataTurned_card:Rows.StrataTurnedUptoCardSaid:=
 Claim7.holds_tied_plain_at .later [] _ _ _ _ pF (fun _ h=>by cases h) (by kernel_rfl) (fun _ h=>by cases h) strataTurnedUpto_row_tie rfl ⟨rfl,rfl⟩ (by kernel_rfl) rfl kA (by kernel_rfl)
end Go.Proofs.YtflegjieadkonaaGreatDoor
