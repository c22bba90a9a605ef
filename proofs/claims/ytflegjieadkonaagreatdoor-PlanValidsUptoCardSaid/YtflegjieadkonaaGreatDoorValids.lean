/-
  PlanValids, on every input of the bound: it answers true and leaves its arguments as they were. Conditions: none beside the statement's own.
-/
import Derived.Test.YtflegjieadkonaaGreatDoorPart7
open List renaming append_nil→ZL
open Option.some renaming inj→Z5
set_option maxRecDepth 100000
open Bool renaming false→lc,true→kw
open Option renaming none→jp,some→io
open Array renaming getD_eq_getD_getElem?→Y7
open Option.some renaming injEq→Y9
open List renaming getElem?_eq_some_iff→Zb
open Array renaming range→ab0
open Array renaming getElem?_map→abw
open Option renaming map_some→Z8
open Option renaming getD_some→aaw
open Array renaming getElem?_eq_getElem→Z4
open Nat renaming mul_le_mul_right→ZF
open Nat renaming add_mul→aal
open Array renaming getElem?_append_left→aac
open List renaming getD_eq_getElem?_getD→Y6
open List renaming getElem?_append_right→Zv
open List renaming getElem?_take→Z6
open Array renaming getElem?_toList→aah
open And renaming intro→ZU
open Int renaming toNat_natCast→Zx
open Nat renaming le_of_ble_eq_true→Y5
open List renaming length_map→ZE
open List renaming length_append→Y8
open List renaming map_append→Ze
open List renaming append_assoc→Zj
open List renaming range_succ_eq_map→abz
namespace Go.Proofs.YtflegjieadkonaaGreatDoor
open Go Go.Al Go.Proofs.Tryz Go.ChangeShapes Go.WideShapes Go.RowKit
abbrev km:Array Value:= #[.agg #[.slice jp 0 0,.slice jp 0 0],.agg #[.int .i64 0,.int .i64 0,.slice jp 0 0,.slice jp 0 0]]
theorem tD(H:Type)(enc:TypeId×Value->H)(W:World)(base:Nat)(args:Array Value)(x gs:List (DataW H))(d:List MemPlace)
  (b: ∀(j:Nat) t v,f9.params[j]? =io t->args[j]? =io v->Value.okWide prog W .any base t v)
  (hW:DataW.Whole enc prog f9.params.toList Rows.planValidsSpec.vars lc W args.toList x gs d) (hk:Rows.uptoSmall H (x++gs)=kw) (hL:laidMetH prog Lw W):
  Calls prog 9 args W fun e W'=> ∃v,e= .returned v∧Rows.planValidsSpec.post enc prog f9 lc kw lc lc W args v W':=by
 have hT:=J9 hL;have A:=hW;obtain⟨p,q,y,hV,rfl,b0,c0⟩:=hW;have I:DataW.TrodAll enc prog W 0 (fun _=>kw) kw f9.params.toList args.toList x p:=y;rw[params9]at I b;obtain⟨v0,e0,d0,Y,p0,G,B,rfl,rfl,h0,r0⟩:=trodAll_cons I;obtain⟨S,f0,d1,a0,p1,J,rfl,rfl,rfl,h1,r1⟩:=trodAll_cons r0;obtain⟨rfl,rfl,rfl⟩:=trodAll_nil r1;obtain rfl:args=[v0,S].toArray:=by cases args;simp_all
 obtain⟨rfl,rfl⟩:=trodVars_none hV;obtain⟨x0,G,D⟩:=MU hT ⟨base,b 0 25 v0 Z Z⟩ h0;obtain⟨x1,J,F⟩:=MV hT ⟨base,b 1 62 S Z Z⟩ h1;have hb:=bound hk;simp only[ZL,Rows.uptoBulkAll]at hb;refine BU hT (Ds x0 x1 (UG G (by simp only[bk];omega)) (by have:=G.1;simp only[bk]at this;omega) (PQ J (by simp only[bk];omega))) Z (fun j p u=>?_) (by rw[params9];exact of_decide_eq_true (by kernel_rfl)) Z (by kernel_rfl) A Z Z Z
 match j,u with
 |0,u=>cases u;exact D
 |1,u=>cases u;exact F
theorem uu(os:Os):laidMet prog Rows.planValidsUptoRow.laid ((vC os).forCall (fun _ _=>0) ⟨#[],km,[]⟩).memory:=
 laidMet_of_run' 8 (by kernel_rfl) (by kernel_rfl)
theorem wP(os:Os){H:Type}(enc:TypeId×Value->H): ∃b,DataW.whole enc prog ((vC os).forCall (fun _ _=>0) ⟨#[],km,[]⟩).memory f9.params.toList Rows.planValidsSpec.vars lc km.toList 8=io ([.agg [.nil,.nil],.agg [.lit (.int .i64 0),.lit (.int .i64 0),.nil,.nil]],[],b):=
 ⟨[],by kernel_rfl⟩
theorem vB(os:Os)(b:os.Started)(H:Type)(enc:TypeId×Value->H)(F:Stop.Interp):
  ReturnsInHanded {} checked os 9 .any ((Rows.OpenSpec.upto Rows.planValidsSpec).preRow enc prog f9 Rows.planValidsUptoRow.domain lc Rows.planValidsUptoRow.laid) (((Rows.OpenSpec.upto Rows.planValidsSpec).at F).post enc prog f9 lc kw lc lc):=by
 obtain⟨x,D⟩:=wP os enc;refine returnsInHanded_of_row (C:=checked) (s:=Rows.OpenSpec.upto Rows.planValidsSpec) own b (by kernel_rfl) func9
  (witness_row_at (enc:=enc) (C:=checked) lc (vC os) km Z (by kernel_rfl) (by kernel_rfl) (by kernel_rfl)
   (OpenSpec.preRow_of_cond 8 D (by kernel_rfl) (fun k B=>by cases B;kernel_rfl) (by kernel_rfl) (uu os))) ?_
 intro W base args y gs d u hW _ j _ A _ _;exact tD H enc W base args y gs d u hW (j _ Z) A
theorem xK:Rows.PlanValidsUptoSaid:=
 OpenClaim.holds_of_cond 9 f9 Z Z Z Z Z Z Z ⟨rfl,rfl,rfl,rfl,rfl⟩ Z Z Z Z Z (by kernel_rfl) func9 vP
  (of_decide_eq_true (by kernel_rfl)) (by unfold Func.isWrapper;first|(rw[am (by decide+kernel)];kernel_rfl)|(rw[be (by decide+kernel)];exact⟨rfl,rfl⟩))
  (fun os b H enc _ F=>by rw[OpenClaim.pre_eq_preRow];exact vB os b H enc F)
theorem pP (f:FuncId) (fn:Func) (hf:Tryz.pinned.checked.prog.funcNamed "pedigree/pedigreelaw09.PlanValids" =io f) (d:Tryz.pinned.checked.prog.funcs[f]? =io fn):
  lc=Tryz.pinned.checked.prog.looks []∧ ∀(j:Nat) t,fn.params[j]? =io t->Tryz.pinned.checked.prog.wantsStandIn t=lc:=by
 obtain rfl:f=9:=Z5 ((show prog.funcNamed "pedigree/pedigreelaw09.PlanValids" =io 9 by kernel_rfl).symm.trans hf)|>.symm;obtain rfl:fn=f9:=(Z5 (func9.symm.trans d)).symm;refine⟨by kernel_rfl,fun j t b=>?_⟩;rw[params9]at b
 match j,b with
 |0,b=>cases b;exact(show prog.wantsStandIn 25=lc by kernel_rfl)
 |1,b=>cases b;exact(show prog.wantsStandIn 62=lc by kernel_rfl)
theorem planValids_card:Rows.PlanValidsUptoCardSaid:=
 Claim7.holds_tied_plain_at .later [] _ _ _ _ xK (fun _ h=>by cases h) (by kernel_rfl) (fun _ h=>by cases h) planValidsUpto_row_tie Z ⟨rfl,rfl⟩ (by kernel_rfl) Z pP (by kernel_rfl)
end Go.Proofs.YtflegjieadkonaaGreatDoor
