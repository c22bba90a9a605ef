/-
  JournalNil: a nil journal answers so (no bound).
-/
import Derived.Test.YtlmhfgbkchnfbaaGreatDoorPart5
open Option.some renaming inj→Wq
set_option maxRecDepth 100000
open Bool renaming false→jp,true→is
open Option renaming none→io,some→co
open Array renaming getD_eq_getD_getElem?→Vn
open Option.some renaming injEq→Vq
open Nat renaming le_refl→VA
open Nat renaming le_succ→Xx
open List renaming getElem?_eq_some_iff→Vs
open Array renaming range→Yu
open Array renaming getElem?_map→X6
open Option renaming map_some→Ww
open Option renaming getD_some→Wv
open Array renaming getElem?_eq_getElem→V6
open Nat renaming mul_le_mul_right→VO
open Nat renaming add_mul→Wg
open Array renaming append_assoc→X7
open Array renaming getElem?_append_left→V3
open List renaming getD_eq_getElem?_getD→Vr
open List renaming getElem?_append_right→VK
open Nat renaming sub_mul→YM
open Array renaming getElem?_append_right→Xi
open List renaming getElem?_take→V8
open Array renaming getElem?_toList→VY
open Nat renaming mod_eq_of_lt→XH
open List renaming getElem?_toArray→Wd
open List renaming getElem?_append_left→VJ
open And renaming intro→Vo
open Int renaming toNat_natCast→Vu
open Nat renaming le_of_ble_eq_true→Vm
open List renaming length_map→VS
open List renaming length_append→Vp
open List renaming map_append→VD
open List renaming append_assoc→VF
open List renaming map_cons→Vy
open List renaming nodup_cons→Wb
open List renaming mem_cons→VH
open List renaming mem_map→V5
namespace Go.Proofs.YtlmhfgbkchnfbaaGreatDoor
open Go Go.Al Go.Proofs.Tryz Go.ChangeShapes Go.WideShapes Go.RowKit
abbrev iH:Array Value:= #[.slice io 0 0]
theorem qq(H:Type)(enc:TypeId×Value->H)(W:World)(base:Nat)(args:Array Value)(G gs:List (DataW H))(u:List MemPlace)
  (x: ∀(j:Nat) t v,f5.params[j]? =co t->args[j]? =co v->Value.okWide prog W .any base t v)
  (J:DataW.Whole enc prog f5.params.toList Rows.journalNilSpec.vars jp W args.toList G gs u) (hL:laidMetH prog H6 W):
  Calls prog 5 args W fun e W'=> ∃v,e= .returned v∧Rows.journalNilSpec.post enc prog f5 jp is jp jp W args v W':=by
 have hT:=GK hL;have A:=J;obtain⟨p,q,y,hV,rfl,a0,b0⟩:=J;have I:DataW.TrodAll enc prog W 0 (fun _=>is) is f5.params.toList args.toList G p:=y;rw[params5]at I x;obtain⟨v0,c0,d0,Y,p0,q0,B,rfl,rfl,h0,r0⟩:=trodAll_cons I;obtain⟨rfl,rfl,rfl⟩:=trodAll_nil r0;obtain rfl:args=[v0].toArray:=by cases args;simp_all
 obtain⟨rfl,rfl⟩:=trodVars_none hV;obtain⟨x0,q0,D⟩:=Jp hT ⟨base,x 0 43 v0 Z Z⟩ h0;refine yC hT (Ag OJ x0) Z (fun j p C=>?_) (by rw[params5];exact of_decide_eq_true (by kernel_rfl)) Z (by kernel_rfl) A Z Z Z
 match j,C with
 |0,C=>cases C;exact D
theorem ra(os:Os):laidMet prog Rows.journalNilRow.laid ((sr os).forCall (fun _ _=>0) ⟨#[],iH,[]⟩).memory:=
 laidMet_of_run' 8 (by kernel_rfl) (by kernel_rfl)
theorem tA(os:Os){H:Type}(enc:TypeId×Value->H): ∃j,DataW.whole enc prog ((sr os).forCall (fun _ _=>0) ⟨#[],iH,[]⟩).memory f5.params.toList Rows.journalNilSpec.vars jp iH.toList 8=co ([.nil],[],j):=
 ⟨[],by kernel_rfl⟩
theorem sk(os:Os)(j:os.Started)(H:Type)(enc:TypeId×Value->H)(F:Stop.Interp):
  ReturnsInHanded {} checked os 5 .any ((OpenSpec.ofChange Rows.journalNilSpec).preRow enc prog f5 Rows.journalNilRow.domain jp Rows.journalNilRow.laid) (((OpenSpec.ofChange Rows.journalNilSpec).at F).post enc prog f5 jp is jp jp):=by
 obtain⟨y,I⟩:=tA os enc;refine returnsInHanded_of_row (C:=checked) (s:=OpenSpec.ofChange Rows.journalNilSpec) own j (by kernel_rfl) func5
  (witness_row_at (enc:=enc) (C:=checked) jp (sr os) iH Z (by kernel_rfl) (by kernel_rfl) (by kernel_rfl)
   (OpenSpec.preRow_of_cond 8 I (by kernel_rfl) (fun k hk=>by cases hk) (by kernel_rfl) (ra os))) ?_
 intro W base args B gs u x G _ A _ D _ _;exact qq H enc W base args B gs u x G D
theorem uF:Rows.JournalNilSaid:=
 OpenClaim.holds_of_cond 5 f5 Z Z Z Z Z Z Z ⟨rfl,rfl,rfl,rfl,rfl⟩ Z Z Z Z Z (by kernel_rfl) func5 sG
  (of_decide_eq_true (by kernel_rfl)) (by unfold Func.isWrapper;first|(rw[am (by decide+kernel)];kernel_rfl)|(rw[be (by decide+kernel)];exact⟨rfl,rfl⟩))
  (fun os j H enc _ F=>by rw[OpenClaim.pre_eq_preRow];exact sk os j H enc F)
theorem nB (f:FuncId) (fn:Func) (hf:Tryz.pinned.checked.prog.funcNamed "pedigree/pedigreelaw23.JournalNil" =co f) (u:Tryz.pinned.checked.prog.funcs[f]? =co fn):
  is=Tryz.pinned.checked.prog.looks []∧ ∀(j:Nat) t,fn.params[j]? =co t->Tryz.pinned.checked.prog.wantsStandIn t=jp:=by
 obtain rfl:f=5:=Wq ((show prog.funcNamed "pedigree/pedigreelaw23.JournalNil" =co 5 by kernel_rfl).symm.trans hf)|>.symm;obtain rfl:fn=f5:=(Wq (func5.symm.trans u)).symm;refine⟨by kernel_rfl,fun j t ht=>?_⟩;rw[params5]at ht
 match j,ht with
 |0,ht=>cases ht;exact(show prog.wantsStandIn 43=jp by kernel_rfl)
theorem journalNil_card:Rows.JournalNilCardSaid:=
 Claim7.holds_tied_plain_at .later [] _ _ _ _ uF (fun _ h=>by cases h) (by kernel_rfl) (fun _ h=>by cases h) journalNil_row_tie Z ⟨rfl,rfl⟩ (by kernel_rfl) Z nB (by kernel_rfl)
end Go.Proofs.YtlmhfgbkchnfbaaGreatDoor
