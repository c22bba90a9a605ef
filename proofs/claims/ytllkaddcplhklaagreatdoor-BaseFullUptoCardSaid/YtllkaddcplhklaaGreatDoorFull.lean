/-
  BaseFull, as a card: the law answers true.
-/
import Derived.Test.YtllkaddcplhklaaGreatDoorPart5
open List renaming append_nil→Pt
open Option.some renaming inj→Pf
set_option maxRecDepth 100000
open Bool renaming false→jp,true→is
open Option renaming some→co
open Array renaming getD_eq_getD_getElem?→Ot
open Option.some renaming injEq→Ou
open Nat renaming le_refl→OJ
open Nat renaming le_succ→QH
open List renaming getElem?_eq_some_iff→Ov
open Array renaming range→Rq
open Array renaming getElem?_map→QJ
open Option renaming map_some→PC
open Option renaming getD_some→Px
open Array renaming getElem?_eq_getElem→O2
open Nat renaming mul_le_mul_right→OX
open Nat renaming add_mul→Pv
open Array renaming getElem?_append_left→Pa
open List renaming getD_eq_getElem?_getD→Ow
open List renaming getElem?_append_right→OO
open Array renaming getElem?_append_right→QT
open List renaming getElem?_take→Ph
open Array renaming getElem?_toList→O1
open And renaming intro→Oz
open Int renaming toNat_natCast→OA
open Nat renaming le_of_ble_eq_true→Oq
open List renaming length_map→O3
open List renaming length_append→Oy
open List renaming map_append→OM
open List renaming append_assoc→OS
open List renaming map_cons→OU
open List renaming nodup_cons→O7
open List renaming mem_cons→OG
open List renaming mem_map→OZ
namespace Go.Proofs.YtllkaddcplhklaaGreatDoor
open Go Go.Al Go.Proofs.Tryz Go.ChangeShapes Go.WideShapes Go.RowKit
abbrev iK:Array Value:= #[]
theorem p8(H:Type)(enc:TypeId×Value->H)(W:World)(base:Nat)(args:Array Value)(x gs:List (DataW H))(b:List MemPlace)
  (u: ∀(j:Nat) t v,f3.params[j]? =co t->args[j]? =co v->Value.okWide prog W .any base t v)
  (D:DataW.Whole enc prog f3.params.toList Rows.baseFullSpec.vars jp W args.toList x gs b) (hk:Rows.uptoSmall H (x++gs)=is) (G:laidMetH prog D5 W):
  Calls prog 3 args W fun e W'=> ∃v,e= .returned v∧Rows.baseFullSpec.post enc prog f3 jp is jp jp W args v W':=by
 have hT:=CU G;have A:=D;obtain⟨p,q,y,I,rfl,J,Y⟩:=D;have C:DataW.TrodAll enc prog W 0 (fun _=>is) is f3.params.toList args.toList x p:=y;rw[params3]at C u;obtain⟨B,rfl,rfl⟩:=trodAll_nil C;obtain rfl:args=[].toArray:=by cases args;simp_all
 obtain⟨rfl,rfl⟩:=trodVars_none I;have hb:=bound hk;simp only[Pt,Rows.uptoBulkAll]at hb;refine vI hT (Bx I9) Z (fun j p R=>by simp at R) (by rw[params3];exact of_decide_eq_true (by kernel_rfl)) Z (by kernel_rfl) A Z Z Z
theorem qU(os:Os):laidMet prog Rows.baseFullUptoRow.laid ((pT os).forCall (fun _ _=>0) ⟨#[],iK,[]⟩).memory:=
 laidMet_of_run' 8 (by kernel_rfl) (by kernel_rfl)
theorem tK(os:Os){H:Type}(enc:TypeId×Value->H): ∃b,DataW.whole enc prog ((pT os).forCall (fun _ _=>0) ⟨#[],iK,[]⟩).memory f3.params.toList Rows.baseFullSpec.vars jp iK.toList 8=co ([],[],b):=
 ⟨[],by kernel_rfl⟩
theorem sB(os:Os)(b:os.Started)(H:Type)(enc:TypeId×Value->H)(F:Stop.Interp):
  ReturnsInHanded {} checked os 3 .any ((Rows.OpenSpec.upto Rows.baseFullSpec).preRow enc prog f3 Rows.baseFullUptoRow.domain jp Rows.baseFullUptoRow.laid) (((Rows.OpenSpec.upto Rows.baseFullSpec).at F).post enc prog f3 jp is jp jp):=by
 obtain⟨y,G⟩:=tK os enc;refine returnsInHanded_of_row (C:=checked) (s:=Rows.OpenSpec.upto Rows.baseFullSpec) own b (by kernel_rfl) func3
  (witness_row_at (enc:=enc) (C:=checked) jp (pT os) iK Z (by kernel_rfl) (by kernel_rfl) (by kernel_rfl)
   (OpenSpec.preRow_of_cond 8 G (by kernel_rfl) (fun k hk=>by cases hk;kernel_rfl) (by kernel_rfl) (qU os))) ?_
 intro W base args A gs j x D _ u _ B _ _;exact p8 H enc W base args A gs j x D (u _ Z) B
theorem vB:Rows.BaseFullUptoSaid:=
 OpenClaim.holds_of_cond 3 f3 Z Z Z Z Z Z Z ⟨rfl,rfl,rfl,rfl,rfl⟩ Z Z Z Z Z (by kernel_rfl) func3 s6
  (of_decide_eq_true (by kernel_rfl)) (by unfold Func.isWrapper;first|(rw[am (by decide+kernel)];kernel_rfl)|(rw[be (by decide+kernel)];exact⟨rfl,rfl⟩))
  (fun os b H enc _ F=>by rw[OpenClaim.pre_eq_preRow];exact sB os b H enc F)
theorem mS (f:FuncId) (fn:Func) (hf:Tryz.pinned.checked.prog.funcNamed "pedigree/pedigreelaw12.BaseFull" =co f) (b:Tryz.pinned.checked.prog.funcs[f]? =co fn):
  is=Tryz.pinned.checked.prog.looks []∧ ∀(j:Nat) t,fn.params[j]? =co t->Tryz.pinned.checked.prog.wantsStandIn t=jp:=by
 obtain rfl:f=3:=Pf ((show prog.funcNamed "pedigree/pedigreelaw12.BaseFull" =co 3 by kernel_rfl).symm.trans hf)|>.symm;obtain rfl:fn=f3:=(Pf (func3.symm.trans b)).symm;refine⟨by kernel_rfl,fun j t u=>?_⟩;rw[params3]at u;simp at u
theorem baseFull_card:Rows.BaseFullUptoCardSaid:=
 Claim7.holds_tied_plain_at .later [] _ _ _ _ vB (fun _ h=>by cases h) (by kernel_rfl) (fun _ h=>by cases h) baseFullUpto_row_tie Z ⟨rfl,rfl⟩ (by kernel_rfl) Z mS (by kernel_rfl)
end Go.Proofs.YtllkaddcplhklaaGreatDoor
