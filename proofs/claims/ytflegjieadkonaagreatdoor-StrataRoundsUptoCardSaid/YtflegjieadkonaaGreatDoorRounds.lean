/-
  Round of any rule, and the strata of all rounds: what is told of every rule
-/
import Derived.Test.YtflegjieadkonaaGreatDoorPart6
open List renaming append_nil→XE
open Option.some renaming inj→XX
open Array renaming getD_eq_getD_getElem?→WT
open Option.some renaming injEq→WV
open Array renaming range→aaa
open Array renaming getElem?_map→Zk
open Option renaming map_some→XW
open Option renaming getD_some→Yl
open Array renaming getElem?_eq_getElem→XS
open List renaming getElem?_eq_some_iff→WX
open Nat renaming mul_le_mul_right→Xw
open Nat renaming add_mul→Yj
open Array renaming getElem?_append_left→X8
open List renaming getD_eq_getElem?_getD→WU
open List renaming getElem?_append_right→Xj
open And renaming intro→XA
open Nat renaming le_of_ble_eq_true→WR
open List renaming length_map→Xr
open List renaming getElem?_take→XY
open Array renaming getElem?_toList→X4
open List renaming length_append→WW
open List renaming map_append→WZ
open List renaming append_assoc→Xa
open List renaming range_succ_eq_map→Zl
set_option maxRecDepth 100000
namespace Go.Proofs.YtflegjieadkonaaGreatDoor
open Go Go.Al Go.Proofs.Tryz Go.ChangeShapes Go.WideShapes Go.RowKit
abbrev ij:Array Value:= #[.agg #[.slice none 0 0, .slice none 0 0], .int .i64 0]
theorem ql(H:Type)(enc:TypeId×Value->H)(W:World)(a0:Nat)(args:Array Value)(ds gs:List (DataW H))(c0:List MemPlace)
  (b0: ∀(j:Nat) t v,f4.params[j]? =some t->args[j]? =some v->Value.okWide prog W .any a0 t v)
  (hW:DataW.Whole enc prog f4.params.toList Rows.strataRoundsSpec.vars false W args.toList ds gs c0) (hk:Rows.uptoSmall H (ds++gs)=true) (hL:laidMetH prog Kr W):
  Calls prog 4 args W fun e W'=> ∃v,e= .returned v∧Rows.strataRoundsSpec.post enc prog f4 false true false false W args v W':=by
 have hT:=Jg hL;have j0:=hW;obtain⟨p,q,g0,hV,rfl,s0,hnd⟩:=hW;have hA:DataW.TrodAll enc prog W 0 (fun _=>true) true f4.params.toList args.toList ds p:=g0;rw[params4]at hA b0;obtain⟨v0,o0,d0,m0,p0,q0,e0,rfl,rfl,h0,r0⟩:=trodAll_cons hA;obtain⟨v1,k0,d1,n0,p1,q1,rfl,rfl,rfl,h1,r1⟩:=trodAll_cons r0;obtain⟨rfl,rfl,rfl⟩:=trodAll_nil r1;obtain rfl:args=[v0,v1].toArray:=by cases args;simp_all
 obtain⟨rfl,rfl⟩:=trodVars_none hV;obtain⟨x0,q0,i0⟩:=LL hT ⟨a0,b0 0 25 v0 Z Z⟩ h0;obtain⟨x1,q1,f0⟩:=Pf hT ⟨a0,b0 1 3 v1 Z Z⟩ h1;have hb:=bound hk;simp only[XE,Rows.uptoBulkAll]at hb;refine A8 hT (yG QF x0 x1 (SF q0 (by simp only[bk];omega)) (by have:=q0.1;simp only[bk]at this;omega)) Z (fun j p hj=>?_) (by rw[params4];exact of_decide_eq_true (by kernel_rfl)) Z (by kernel_rfl) j0 Z Z Z
 match j,hj with
 |0,hj=>cases hj;exact i0
 |1,hj=>cases hj;exact f0
theorem rj(os:Os):laidMet prog Rows.strataRoundsUptoRow.laid ((uY os).forCall (fun _ _=>0) ⟨#[],ij,[]⟩).memory:=
 laidMet_of_run' 8 (by kernel_rfl) (by kernel_rfl)
theorem tC(os:Os){H:Type}(enc:TypeId×Value->H): ∃a0,DataW.whole enc prog ((uY os).forCall (fun _ _=>0) ⟨#[],ij,[]⟩).memory f4.params.toList Rows.strataRoundsSpec.vars false ij.toList 8=some ([.agg [.nil, .nil], .lit (.int .i64 0)],[],a0):=
 ⟨[],by kernel_rfl⟩
theorem sK(os:Os)(a0:os.Started)(H:Type)(enc:TypeId×Value->H)(F:Stop.Interp):
  ReturnsInHanded {} checked os 4 .any ((Rows.OpenSpec.upto Rows.strataRoundsSpec).preRow enc prog f4 Rows.strataRoundsUptoRow.domain false Rows.strataRoundsUptoRow.laid) (((Rows.OpenSpec.upto Rows.strataRoundsSpec).at F).post enc prog f4 false true false false):=by
 obtain⟨d0,hx⟩:=tC os enc;refine returnsInHanded_of_row (C:=checked) (s:=Rows.OpenSpec.upto Rows.strataRoundsSpec) own a0 (by kernel_rfl) func4
  (witness_row_at (enc:=enc) (C:=checked) false (uY os) ij Z (by kernel_rfl) (by kernel_rfl) (by kernel_rfl)
   (OpenSpec.preRow_of_cond 8 hx (by kernel_rfl) (fun k hk=>by cases hk;kernel_rfl) (by kernel_rfl) (rj os))) ?_
 intro W e0 args ds gs b0 f0 hW _ c0 _ hL _ _;exact ql H enc W e0 args ds gs b0 f0 hW (c0 _ Z) hL
theorem uB:Rows.StrataRoundsUptoSaid:=
 OpenClaim.holds_of_cond 4 f4 Z Z Z Z Z Z Z ⟨rfl,rfl,rfl,rfl,rfl⟩ Z Z Z Z Z (by kernel_rfl) func4 s9
  (of_decide_eq_true (by kernel_rfl)) (by unfold Func.isWrapper;first|(rw[am (by decide+kernel)];kernel_rfl)|(rw[be (by decide+kernel)];exact⟨rfl,rfl⟩))
  (fun os a0 H enc _ F=>by rw[OpenClaim.pre_eq_preRow];exact sK os a0 H enc F)
theorem nO (f:FuncId) (fn:Func) (hf:Tryz.pinned.checked.prog.funcNamed "pedigree/pedigreelaw07.StrataRounds" =some f) (a0:Tryz.pinned.checked.prog.funcs[f]? =some fn):
  false=Tryz.pinned.checked.prog.looks []∧ ∀(j:Nat) t,fn.params[j]? =some t->Tryz.pinned.checked.prog.wantsStandIn t=false:=by
 obtain rfl:f=4:=XX ((show prog.funcNamed "pedigree/pedigreelaw07.StrataRounds" =some 4 by kernel_rfl).symm.trans hf)|>.symm;obtain rfl:fn=f4:=(XX (func4.symm.trans a0)).symm;refine⟨by kernel_rfl,fun j t ht=>?_⟩;rw[params4]at ht
 match j,ht with
 |0,ht=>cases ht;exact(show prog.wantsStandIn 25=false by kernel_rfl)
 |1,ht=>cases ht;exact(show prog.wantsStandIn 3=false by kernel_rfl)
theorem strataRounds_card:Rows.StrataRoundsUptoCardSaid:=
 Claim7.holds_tied_plain_at .later [] _ _ _ _ uB (fun _ h=>by cases h) (by kernel_rfl) (fun _ h=>by cases h) strataRoundsUpto_row_tie Z ⟨rfl,rfl⟩ (by kernel_rfl) Z nO (by kernel_rfl)
end Go.Proofs.YtflegjieadkonaaGreatDoor
