/-
  PlanGivens, on every input of the bound: it answers true and leaves its arguments as they were. Conditions: none beside the statement's own.
-/
import Derived.Test.YtflegjieadkonaaGreatDoorPart7
open List renaming append_nil→ZE
open Option.some renaming inj→Z0
set_option maxRecDepth 100000
open Bool renaming false→lc,true→kw
open Option renaming none→jp,some→io
open Array renaming getD_eq_getD_getElem?→Y0
open Option.some renaming injEq→Y2
open List renaming getElem?_eq_some_iff→Y4
open Array renaming range→abR
open Array renaming getElem?_map→abn
open Option renaming map_some→ZZ
open Option renaming getD_some→aaq
open Array renaming getElem?_eq_getElem→ZV
open Nat renaming mul_le_mul_right→Zy
open Nat renaming add_mul→aaf
open Array renaming getElem?_append_left→Z4
open List renaming getD_eq_getElem?_getD→YZ
open List renaming getElem?_append_right→Zn
open List renaming getElem?_take→ZX
open Array renaming getElem?_toList→aac
open And renaming intro→ZL
open Int renaming toNat_natCast→Zs
open Nat renaming le_of_ble_eq_true→YY
open List renaming length_map→Zx
open List renaming length_append→Y1
open List renaming map_append→Y6
open List renaming append_assoc→Zc
open List renaming range_succ_eq_map→abp
namespace Go.Proofs.YtflegjieadkonaaGreatDoor
open Go Go.Al Go.Proofs.Tryz Go.ChangeShapes Go.WideShapes Go.RowKit
abbrev j9:Array Value:= #[.agg #[.slice jp 0 0,.slice jp 0 0],.int .i64 0,.slice jp 0 0]
theorem tx(H:Type)(enc:TypeId×Value->H)(W:World)(base:Nat)(args:Array Value)(x gs:List (DataW H))(d:List MemPlace)
  (b: ∀(j:Nat) t v,f8.params[j]? =io t->args[j]? =io v->Value.okWide prog W .any base t v)
  (hW:DataW.Whole enc prog f8.params.toList Rows.planGivensSpec.vars lc W args.toList x gs d) (hk:Rows.uptoSmall H (x++gs)=kw) (hL:laidMetH prog LF W):
  Calls prog 8 args W fun e W'=> ∃v,e= .returned v∧Rows.planGivensSpec.post enc prog f8 lc kw lc lc W args v W':=by
 have hT:=Kc hL;have A:=hW;obtain⟨p,q,y,hV,rfl,e0,f0⟩:=hW;have J:DataW.TrodAll enc prog W 0 (fun _=>kw) kw f8.params.toList args.toList x p:=y;rw[params8]at J b;obtain⟨v0,g0,d0,a0,p0,I,B,rfl,rfl,h0,r0⟩:=trodAll_cons J;obtain⟨Y,i0,d1,b0,p1,q1,rfl,rfl,rfl,h1,r1⟩:=trodAll_cons r0;obtain⟨v2,j0,d2,c0,p2,S,rfl,rfl,rfl,h2,r2⟩:=trodAll_cons r1;obtain⟨rfl,rfl,rfl⟩:=trodAll_nil r2;obtain rfl:args=[v0,Y,v2].toArray:=by cases args;simp_all
 obtain⟨rfl,rfl⟩:=trodVars_none hV;obtain⟨x0,I,D⟩:=M6 hT ⟨base,b 0 25 v0 Z Z⟩ h0;obtain⟨x1,q1,F⟩:=Q6 hT ⟨base,b 1 3 Y Z Z⟩ h1;obtain⟨x2,S,G⟩:=M5 hT ⟨base,b 2 53 v2 Z Z⟩ h2;have hb:=bound hk;simp only[ZE,Rows.uptoBulkAll]at hb;refine BW hT (Dw x0 x1 x2 (UN I (by simp only[bk];omega)) (by have:=I.1;simp only[bk]at this;omega) (by simp only[bk]at S;omega)) Z (fun j p u=>?_) (by rw[params8];exact of_decide_eq_true (by kernel_rfl)) Z (by kernel_rfl) A Z Z Z
 match j,u with
 |0,u=>cases u;exact D
 |1,u=>cases u;exact F
 |2,u=>cases u;exact G
theorem uq(os:Os):laidMet prog Rows.planGivensUptoRow.laid ((vv os).forCall (fun _ _=>0) ⟨#[],j9,[]⟩).memory:=
 laidMet_of_run' 8 (by kernel_rfl) (by kernel_rfl)
theorem wF(os:Os){H:Type}(enc:TypeId×Value->H): ∃b,DataW.whole enc prog ((vv os).forCall (fun _ _=>0) ⟨#[],j9,[]⟩).memory f8.params.toList Rows.planGivensSpec.vars lc j9.toList 8=io ([.agg [.nil,.nil],.lit (.int .i64 0),.nil],[],b):=
 ⟨[],by kernel_rfl⟩
theorem vu(os:Os)(b:os.Started)(H:Type)(enc:TypeId×Value->H)(F:Stop.Interp):
  ReturnsInHanded {} checked os 8 .any ((Rows.OpenSpec.upto Rows.planGivensSpec).preRow enc prog f8 Rows.planGivensUptoRow.domain lc Rows.planGivensUptoRow.laid) (((Rows.OpenSpec.upto Rows.planGivensSpec).at F).post enc prog f8 lc kw lc lc):=by
 obtain⟨x,D⟩:=wF os enc;refine returnsInHanded_of_row (C:=checked) (s:=Rows.OpenSpec.upto Rows.planGivensSpec) own b (by kernel_rfl) func8
  (witness_row_at (enc:=enc) (C:=checked) lc (vv os) j9 Z (by kernel_rfl) (by kernel_rfl) (by kernel_rfl)
   (OpenSpec.preRow_of_cond 8 D (by kernel_rfl) (fun k B=>by cases B;kernel_rfl) (by kernel_rfl) (uq os))) ?_
 intro W base args y gs d u hW _ j _ A _ _;exact tx H enc W base args y gs d u hW (j _ Z) A
theorem xE:Rows.PlanGivensUptoSaid:=
 OpenClaim.holds_of_cond 8 f8 Z Z Z Z Z Z Z ⟨rfl,rfl,rfl,rfl,rfl⟩ Z Z Z Z Z (by kernel_rfl) func8 vK
  (of_decide_eq_true (by kernel_rfl)) (by unfold Func.isWrapper;first|(rw[am (by decide+kernel)];kernel_rfl)|(rw[be (by decide+kernel)];exact⟨rfl,rfl⟩))
  (fun os b H enc _ F=>by rw[OpenClaim.pre_eq_preRow];exact vu os b H enc F)
theorem pN (f:FuncId) (fn:Func) (hf:Tryz.pinned.checked.prog.funcNamed "pedigree/pedigreelaw09.PlanGivens" =io f) (d:Tryz.pinned.checked.prog.funcs[f]? =io fn):
  lc=Tryz.pinned.checked.prog.looks []∧ ∀(j:Nat) t,fn.params[j]? =io t->Tryz.pinned.checked.prog.wantsStandIn t=lc:=by
 obtain rfl:f=8:=Z0 ((show prog.funcNamed "pedigree/pedigreelaw09.PlanGivens" =io 8 by kernel_rfl).symm.trans hf)|>.symm;obtain rfl:fn=f8:=(Z0 (func8.symm.trans d)).symm;refine⟨by kernel_rfl,fun j t b=>?_⟩;rw[params8]at b
 match j,b with
 |0,b=>cases b;exact(show prog.wantsStandIn 25=lc by kernel_rfl)
 |1,b=>cases b;exact(show prog.wantsStandIn 3=lc by kernel_rfl)
 |2,b=>cases b;exact(show prog.wantsStandIn 53=lc by kernel_rfl)
theorem planGivens_card:Rows.PlanGivensUptoCardSaid:=
 Claim7.holds_tied_plain_at .later [] _ _ _ _ xE (fun _ h=>by cases h) (by kernel_rfl) (fun _ h=>by cases h) planGivensUpto_row_tie Z ⟨rfl,rfl⟩ (by kernel_rfl) Z pN (by kernel_rfl)
end Go.Proofs.YtflegjieadkonaaGreatDoor
