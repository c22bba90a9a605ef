/-
  PlanHolds, on every input of the bound: it answers true and leaves its arguments as they were. Conditions: none beside the statement's own.
-/
import Derived.Test.YtflegjieadkonaaGreatDoorPart6
open List renaming append_nil→Ro
open Option.some renaming inj→RC
set_option maxRecDepth 100000
open Bool renaming false→lc,true→kw
open Option renaming none→jp,some→io
open Array renaming getD_eq_getD_getElem?→Qt
open Option.some renaming injEq→Qu
open Array renaming range→Tz
open Array renaming getElem?_map→S3
open Option renaming map_some→RZ
open Option renaming getD_some→R2
open Array renaming getElem?_eq_getElem→Rs
open List renaming getElem?_eq_some_iff→Qw
open Nat renaming mul_le_mul_right→Rb
open Nat renaming add_mul→RJ
open Array renaming getElem?_append_left→RB
open List renaming getD_eq_getElem?_getD→Qx
open List renaming getElem?_append_right→QX
open List renaming getElem?_take→Rt
open Array renaming getElem?_toList→RI
open And renaming intro→Rm
open Nat renaming le_of_ble_eq_true→Qs
open List renaming length_map→Rv
open List renaming length_append→Qv
open List renaming map_append→QO
open List renaming append_assoc→QU
open List renaming getElem?_eq_getElem→Qy
namespace Go.Proofs.YtflegjieadkonaaGreatDoor
open Go Go.Al Go.Proofs.Tryz Go.ChangeShapes Go.WideShapes Go.RowKit
abbrev ik:Array Value:= #[.agg #[.slice jp 0 0,.slice jp 0 0],.int .i64 0,.int .i64 0]
theorem qp(H:Type)(enc:TypeId×Value->H)(W:World)(base:Nat)(args:Array Value)(x gs:List (DataW H))(d:List MemPlace)
  (b: ∀(j:Nat) t v,f10.params[j]? =io t->args[j]? =io v->Value.okWide prog W .any base t v)
  (hW:DataW.Whole enc prog f10.params.toList Rows.planHoldsSpec.vars lc W args.toList x gs d) (hk:Rows.uptoSmall H (x++gs)=kw) (hL:laidMetH prog FL W):
  Calls prog 10 args W fun e W'=> ∃v,e= .returned v∧Rows.planHoldsSpec.post enc prog f10 lc kw lc lc W args v W':=by
 have hT:=EC hL;have A:=hW;obtain⟨p,q,y,hV,rfl,c0,e0⟩:=hW;have S:DataW.TrodAll enc prog W 0 (fun _=>kw) kw f10.params.toList args.toList x p:=y;rw[params10]at S b;obtain⟨v0,f0,d0,Z,p0,J,B,rfl,rfl,h0,r0⟩:=trodAll_cons S;obtain⟨Y,g0,d1,a0,p1,q1,rfl,rfl,rfl,h1,r1⟩:=trodAll_cons r0;obtain⟨v2,i0,d2,b0,p2,q2,rfl,rfl,rfl,h2,r2⟩:=trodAll_cons r1;obtain⟨rfl,rfl,rfl⟩:=trodAll_nil r2;obtain rfl:args=[v0,Y,v2].toArray:=by cases args;simp_all
 obtain⟨rfl,rfl⟩:=trodVars_none hV;obtain⟨x0,J,F⟩:=G2 hT ⟨base,b 0 25 v0 D D⟩ h0;obtain⟨x1,q1,G⟩:=CW hT ⟨base,b 1 3 Y D D⟩ h1;obtain⟨x2,q2,I⟩:=CW hT ⟨base,b 2 3 v2 D D⟩ h2;have hb:=bound hk;simp only[Ro,Rows.uptoBulkAll]at hb;refine xl hT (AM x0 x1 x2 (MW J (by simp only[bk];omega)) (by have:=J.1;simp only[bk]at this;omega)) D (fun j p u=>?_) (by rw[params10];exact of_decide_eq_true (by kernel_rfl)) D (by kernel_rfl) A D D D
 match j,u with
 |0,u=>cases u;exact F
 |1,u=>cases u;exact G
 |2,u=>cases u;exact I
theorem rb(os:Os):laidMet prog Rows.planHoldsUptoRow.laid ((ra os).forCall (fun _ _=>0) ⟨#[],ik,[]⟩).memory:=
 laidMet_of_run' 8 (by kernel_rfl) (by kernel_rfl)
theorem tI(os:Os){H:Type}(enc:TypeId×Value->H): ∃b,DataW.whole enc prog ((ra os).forCall (fun _ _=>0) ⟨#[],ik,[]⟩).memory f10.params.toList Rows.planHoldsSpec.vars lc ik.toList 8=io ([.agg [.nil,.nil],.lit (.int .i64 0),.lit (.int .i64 0)],[],b):=
 ⟨[],by kernel_rfl⟩
theorem su(os:Os)(b:os.Started)(H:Type)(enc:TypeId×Value->H)(F:Stop.Interp):
  ReturnsInHanded {} checked os 10 .any ((Rows.OpenSpec.upto Rows.planHoldsSpec).preRow enc prog f10 Rows.planHoldsUptoRow.domain lc Rows.planHoldsUptoRow.laid) (((Rows.OpenSpec.upto Rows.planHoldsSpec).at F).post enc prog f10 lc kw lc lc):=by
 obtain⟨x,G⟩:=tI os enc;refine returnsInHanded_of_row (C:=checked) (s:=Rows.OpenSpec.upto Rows.planHoldsSpec) own b (by kernel_rfl) func10
  (witness_row_at (enc:=enc) (C:=checked) lc (ra os) ik D (by kernel_rfl) (by kernel_rfl) (by kernel_rfl)
   (OpenSpec.preRow_of_cond 8 G (by kernel_rfl) (fun k B=>by cases B;kernel_rfl) (by kernel_rfl) (rb os))) ?_
 intro W base args y gs d u hW _ j _ A _ _;exact qp H enc W base args y gs d u hW (j _ D) A
theorem va:Rows.PlanHoldsUptoSaid:=
 OpenClaim.holds_of_cond 10 f10 D D D D D D D ⟨rfl,rfl,rfl,rfl,rfl⟩ D D D D D (by kernel_rfl) func10 sA
  (of_decide_eq_true (by kernel_rfl)) (by unfold Func.isWrapper;first|(rw[am (by decide+kernel)];kernel_rfl)|(rw[be (by decide+kernel)];exact⟨rfl,rfl⟩))
  (fun os b H enc _ F=>by rw[OpenClaim.pre_eq_preRow];exact su os b H enc F)
theorem mO (f:FuncId) (fn:Func) (hf:Tryz.pinned.checked.prog.funcNamed "pedigree/pedigreelaw09.PlanHolds" =io f) (d:Tryz.pinned.checked.prog.funcs[f]? =io fn):
  lc=Tryz.pinned.checked.prog.looks []∧ ∀(j:Nat) t,fn.params[j]? =io t->Tryz.pinned.checked.prog.wantsStandIn t=lc:=by
 obtain rfl:f=10:=RC ((show prog.funcNamed "pedigree/pedigreelaw09.PlanHolds" =io 10 by kernel_rfl).symm.trans hf)|>.symm;obtain rfl:fn=f10:=(RC (func10.symm.trans d)).symm;refine⟨by kernel_rfl,fun j t b=>?_⟩;rw[params10]at b
 match j,b with
 |0,b=>cases b;exact(show prog.wantsStandIn 25=lc by kernel_rfl)
 |1,b=>cases b;exact(show prog.wantsStandIn 3=lc by kernel_rfl)
 |2,b=>cases b;exact(show prog.wantsStandIn 3=lc by kernel_rfl)
theorem planHolds_card:Rows.PlanHoldsUptoCardSaid:=
 Claim7.holds_tied_plain_at .later [] _ _ _ _ va (fun _ h=>by cases h) (by kernel_rfl) (fun _ h=>by cases h) planHoldsUpto_row_tie D ⟨rfl,rfl⟩ (by kernel_rfl) D mO (by kernel_rfl)
end Go.Proofs.YtflegjieadkonaaGreatDoor
