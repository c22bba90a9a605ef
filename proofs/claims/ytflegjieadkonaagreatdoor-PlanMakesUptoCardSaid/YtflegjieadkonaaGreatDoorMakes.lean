/-
  PlanMakes, on every input of the bound: it answers true and leaves its arguments as they were. Conditions: none beside the statement's own.
-/
import Derived.Test.YtflegjieadkonaaGreatDoorPart7
open List renaming append_nil→Zv
open Option.some renaming inj→ZP
set_option maxRecDepth 100000
open Bool renaming false→lc,true→kw
open Option renaming none→jp,some→io
open Array renaming getD_eq_getD_getElem?→YQ
open Option.some renaming injEq→YT
open List renaming getElem?_eq_some_iff→YV
open Array renaming range→abK
open Array renaming getElem?_map→abe
open Option renaming map_some→ZW
open Option renaming getD_some→aah
open Array renaming getElem?_eq_getElem→ZM
open Nat renaming mul_le_mul_right→Zp
open Nat renaming add_mul→Z5
open Array renaming getElem?_append_left→ZU
open List renaming getD_eq_getElem?_getD→YR
open List renaming getElem?_append_right→Ze
open List renaming getElem?_take→ZS
open Array renaming getElem?_toList→Z2
open And renaming intro→ZC
open Int renaming toNat_natCast→Zi
open Nat renaming le_of_ble_eq_true→YP
open List renaming length_map→Zo
open List renaming length_append→YS
open List renaming map_append→YX
open List renaming append_assoc→Y3
open List renaming range_succ_eq_map→abg
namespace Go.Proofs.YtflegjieadkonaaGreatDoor
open Go Go.Al Go.Proofs.Tryz Go.ChangeShapes Go.WideShapes Go.RowKit
abbrev kF:Array Value:= #[.agg #[.slice jp 0 0,.slice jp 0 0],.int .i64 0,.int .i64 0]
theorem uA(H:Type)(enc:TypeId×Value->H)(W:World)(base:Nat)(args:Array Value)(x gs:List (DataW H))(d:List MemPlace)
  (b: ∀(j:Nat) t v,f7.params[j]? =io t->args[j]? =io v->Value.okWide prog W .any base t v)
  (hW:DataW.Whole enc prog f7.params.toList Rows.planMakesSpec.vars lc W args.toList x gs d) (hk:Rows.uptoSmall H (x++gs)=kw) (hL:laidMetH prog LF W):
  Calls prog 7 args W fun e W'=> ∃v,e= .returned v∧Rows.planMakesSpec.post enc prog f7 lc kw lc lc W args v W':=by
 have hT:=Kb hL;have A:=hW;obtain⟨p,q,y,hV,rfl,c0,e0⟩:=hW;have J:DataW.TrodAll enc prog W 0 (fun _=>kw) kw f7.params.toList args.toList x p:=y;rw[params7]at J b;obtain⟨v0,f0,d0,Y,p0,I,B,rfl,rfl,h0,r0⟩:=trodAll_cons J;obtain⟨S,g0,d1,a0,p1,q1,rfl,rfl,rfl,h1,r1⟩:=trodAll_cons r0;obtain⟨v2,i0,d2,b0,p2,q2,rfl,rfl,rfl,h2,r2⟩:=trodAll_cons r1;obtain⟨rfl,rfl,rfl⟩:=trodAll_nil r2;obtain rfl:args=[v0,S,v2].toArray:=by cases args;simp_all
 obtain⟨rfl,rfl⟩:=trodVars_none hV;obtain⟨x0,I,D⟩:=MW hT ⟨base,b 0 25 v0 Z Z⟩ h0;obtain⟨x1,q1,F⟩:=H7 hT ⟨base,b 1 3 S Z Z⟩ h1;obtain⟨x2,q2,G⟩:=H7 hT ⟨base,b 2 3 v2 Z Z⟩ h2;have hb:=bound hk;simp only[Zv,Rows.uptoBulkAll]at hb;refine BR hT (Fx x0 x1 x2 (UB I (by simp only[bk];omega)) (by have:=I.1;simp only[bk]at this;omega)) Z (fun j p u=>?_) (by rw[params7];exact of_decide_eq_true (by kernel_rfl)) Z (by kernel_rfl) A Z Z Z
 match j,u with
 |0,u=>cases u;exact D
 |1,u=>cases u;exact F
 |2,u=>cases u;exact G
theorem vq(os:Os):laidMet prog Rows.planMakesUptoRow.laid ((vp os).forCall (fun _ _=>0) ⟨#[],kF,[]⟩).memory:=
 laidMet_of_run' 8 (by kernel_rfl) (by kernel_rfl)
theorem xM(os:Os){H:Type}(enc:TypeId×Value->H): ∃b,DataW.whole enc prog ((vp os).forCall (fun _ _=>0) ⟨#[],kF,[]⟩).memory f7.params.toList Rows.planMakesSpec.vars lc kF.toList 8=io ([.agg [.nil,.nil],.lit (.int .i64 0),.lit (.int .i64 0)],[],b):=
 ⟨[],by kernel_rfl⟩
theorem wD(os:Os)(b:os.Started)(H:Type)(enc:TypeId×Value->H)(F:Stop.Interp):
  ReturnsInHanded {} checked os 7 .any ((Rows.OpenSpec.upto Rows.planMakesSpec).preRow enc prog f7 Rows.planMakesUptoRow.domain lc Rows.planMakesUptoRow.laid) (((Rows.OpenSpec.upto Rows.planMakesSpec).at F).post enc prog f7 lc kw lc lc):=by
 obtain⟨x,D⟩:=xM os enc;refine returnsInHanded_of_row (C:=checked) (s:=Rows.OpenSpec.upto Rows.planMakesSpec) own b (by kernel_rfl) func7
  (witness_row_at (enc:=enc) (C:=checked) lc (vp os) kF Z (by kernel_rfl) (by kernel_rfl) (by kernel_rfl)
   (OpenSpec.preRow_of_cond 8 D (by kernel_rfl) (fun k B=>by cases B;kernel_rfl) (by kernel_rfl) (vq os))) ?_
 intro W base args y gs d u hW _ j _ A _ _;exact uA H enc W base args y gs d u hW (j _ Z) A
theorem zh:Rows.PlanMakesUptoSaid:=
 OpenClaim.holds_of_cond 7 f7 Z Z Z Z Z Z Z ⟨rfl,rfl,rfl,rfl,rfl⟩ Z Z Z Z Z (by kernel_rfl) func7 wK
  (of_decide_eq_true (by kernel_rfl)) (by unfold Func.isWrapper;first|(rw[am (by decide+kernel)];kernel_rfl)|(rw[be (by decide+kernel)];exact⟨rfl,rfl⟩))
  (fun os b H enc _ F=>by rw[OpenClaim.pre_eq_preRow];exact wD os b H enc F)
theorem p9 (f:FuncId) (fn:Func) (hf:Tryz.pinned.checked.prog.funcNamed "pedigree/pedigreelaw09.PlanMakes" =io f) (d:Tryz.pinned.checked.prog.funcs[f]? =io fn):
  lc=Tryz.pinned.checked.prog.looks []∧ ∀(j:Nat) t,fn.params[j]? =io t->Tryz.pinned.checked.prog.wantsStandIn t=lc:=by
 obtain rfl:f=7:=ZP ((show prog.funcNamed "pedigree/pedigreelaw09.PlanMakes" =io 7 by kernel_rfl).symm.trans hf)|>.symm;obtain rfl:fn=f7:=(ZP (func7.symm.trans d)).symm;refine⟨by kernel_rfl,fun j t b=>?_⟩;rw[params7]at b
 match j,b with
 |0,b=>cases b;exact(show prog.wantsStandIn 25=lc by kernel_rfl)
 |1,b=>cases b;exact(show prog.wantsStandIn 3=lc by kernel_rfl)
 |2,b=>cases b;exact(show prog.wantsStandIn 3=lc by kernel_rfl)
theorem planMakes_card:Rows.PlanMakesUptoCardSaid:=
 Claim7.holds_tied_plain_at .later [] _ _ _ _ zh (fun _ h=>by cases h) (by kernel_rfl) (fun _ h=>by cases h) planMakesUpto_row_tie Z ⟨rfl,rfl⟩ (by kernel_rfl) Z p9 (by kernel_rfl)
end Go.Proofs.YtflegjieadkonaaGreatDoor
