/-
  CertOneForm: what is read, written again, is what was read; nothing is read as both kinds (its bound: bulk at most 1048576).
-/
import Derived.Test.YtbhphmfbligliaaGreatDoorPart5
open List renaming append_nil→TC
open Option.some renaming inj→Ub
set_option maxRecDepth 100000
open Bool renaming false→jp,true→is
open Option renaming none→io,some→dl
open Array renaming getD_eq_getD_getElem?→SZ
open Option.some renaming injEq→S0
open Nat renaming le_refl→S9
open Nat renaming le_succ→UT
open List renaming getElem?_eq_some_iff→S2
open Array renaming range→V8
open Array renaming getElem?_map→U7
open Option renaming map_some→T4
open Option renaming getD_some→Uk
open Array renaming getElem?_eq_getElem→T1
open Nat renaming mul_le_mul_right→Tq
open Nat renaming add_mul→TP
open Array renaming append_assoc→VG
open Array renaming getElem?_append_left→TG
open List renaming getD_eq_getElem?_getD→S4
open List renaming getElem?_append_right→Ti
open Nat renaming sub_mul→Wu
open Array renaming getElem?_append_right→U4
open List renaming getElem?_take→TE
open Array renaming getElem?_toList→TF
open Nat renaming add_comm→VL
open Nat renaming mod_eq_of_lt→Vy
open List renaming getElem?_map→S6
open List renaming getElem?_cons_succ→Vn
open Option renaming map_eq_some_iff→S8
open Array renaming toList_append→Vm
open List renaming length_cons→Tr
open List renaming length_nil→Ur
open And renaming intro→S3
open Int renaming toNat_natCast→S7
open Nat renaming le_of_ble_eq_true→SY
open List renaming length_map→TB
open List renaming length_append→S1
open List renaming map_append→Tc
open List renaming append_assoc→Tb
namespace Go.Proofs.YtbhphmfbligliaaGreatDoor
open Go Go.Al Go.Proofs.Tryz Go.ChangeShapes Go.WideShapes Go.RowKit
abbrev gv:Array Value:= #[.agg #[.slice io 0 0,.slice io 0 0],.slice io 0 0]
theorem oe(H:Type)(enc:TypeId×Value->H)(W:World)(base:Nat)(args:Array Value)(A gs:List (DataW H))(u:List MemPlace)
  (d: ∀(j:Nat) t v,f7.params[j]? =dl t->args[j]? =dl v->Value.okWide prog W .any base t v)
  (Y:DataW.Whole enc prog f7.params.toList Rows.certOneFormSpec.vars jp W args.toList A gs u) (hk:Rows.uptoSmall H (A++gs)=is) (hL:laidMetH prog Gp W):
  Calls prog 7 args W fun e W'=> ∃v,e= .returned v∧Rows.certOneFormSpec.post enc prog f7 jp is jp jp W args v W':=by
 have hT:=E9 hL;have C:=Y;obtain⟨p,q,B,hV,rfl,c0,e0⟩:=Y;have J:DataW.TrodAll enc prog W 0 (fun _=>is) is f7.params.toList args.toList A p:=B;rw[params7]at J d;obtain⟨v0,f0,d0,a0,p0,y,D,rfl,rfl,h0,r0⟩:=trodAll_cons J;obtain⟨v1,g0,d1,b0,p1,Z,rfl,rfl,rfl,h1,r1⟩:=trodAll_cons r0;obtain⟨rfl,rfl,rfl⟩:=trodAll_nil r1;obtain rfl:args=[v0,v1].toArray:=by cases args;simp_all
 obtain⟨rfl,rfl⟩:=trodVars_none hV;obtain⟨x0,y,F⟩:=Hn hT ⟨base,d 0 25 v0 I I⟩ h0;obtain⟨x1,Z,G⟩:=EG hT ⟨base,d 1 33 v1 I I⟩ h1;have hb:=bound hk;simp only[TC,Rows.uptoBulkAll]at hb;refine xY hT (Ft Mm x0 x1 (OQ y (by simp only[bk];omega)) (by have:=y.1.1;simp only[bk]at this;omega) (PX y (by simp only[bk];omega)) (by simp only[bk]at Z;omega)) I (fun j p x=>?_) (by rw[params7];exact of_decide_eq_true (by kernel_rfl)) I (by kernel_rfl) C I I I
 match j,x with
 |0,x=>cases x;exact F
 |1,x=>cases x;exact G
theorem pb(os:Os):laidMet prog Rows.certOneFormUptoRow.laid ((rA os).forCall (fun _ _=>0) ⟨#[],gv,[]⟩).memory:=
 laidMet_of_run' 8 (by kernel_rfl) (by kernel_rfl)
theorem rf(os:Os){H:Type}(enc:TypeId×Value->H): ∃d,DataW.whole enc prog ((rA os).forCall (fun _ _=>0) ⟨#[],gv,[]⟩).memory f7.params.toList Rows.certOneFormSpec.vars jp gv.toList 8=dl ([.agg [.nil,.nil],.nil],[],d):=
 ⟨[],by kernel_rfl⟩
theorem qt(os:Os)(d:os.Started)(H:Type)(enc:TypeId×Value->H)(F:Stop.Interp):
  ReturnsInHanded {} checked os 7 .any ((Rows.OpenSpec.upto Rows.certOneFormSpec).preRow enc prog f7 Rows.certOneFormUptoRow.domain jp Rows.certOneFormUptoRow.laid) (((Rows.OpenSpec.upto Rows.certOneFormSpec).at F).post enc prog f7 jp is jp jp):=by
 obtain⟨y,J⟩:=rf os enc;refine returnsInHanded_of_row (C:=checked) (s:=Rows.OpenSpec.upto Rows.certOneFormSpec) own d (by kernel_rfl) func7
  (witness_row_at (enc:=enc) (C:=checked) jp (rA os) gv I (by kernel_rfl) (by kernel_rfl) (by kernel_rfl)
   (OpenSpec.preRow_of_cond 8 J (by kernel_rfl) (fun k G=>by cases G;kernel_rfl) (by kernel_rfl) (pb os))) ?_
 intro W base args A gs j x D _ u _ B _ _;exact oe H enc W base args A gs j x D (u _ I) B
theorem sS:Rows.CertOneFormUptoSaid:=
 OpenClaim.holds_of_cond 7 f7 I I I I I I I ⟨rfl,rfl,rfl,rfl,rfl⟩ I I I I I (by kernel_rfl) func7 qL
  (of_decide_eq_true (by kernel_rfl)) (by unfold Func.isWrapper;first|(rw[am (by decide+kernel)];kernel_rfl)|(rw[be (by decide+kernel)];exact⟨rfl,rfl⟩))
  (fun os d H enc _ F=>by rw[OpenClaim.pre_eq_preRow];exact qt os d H enc F)
theorem lO (f:FuncId) (fn:Func) (hf:Tryz.pinned.checked.prog.funcNamed "pedigree/pedigreelaw16.CertOneForm" =dl f) (u:Tryz.pinned.checked.prog.funcs[f]? =dl fn):
  is=Tryz.pinned.checked.prog.looks []∧ ∀(j:Nat) t,fn.params[j]? =dl t->Tryz.pinned.checked.prog.wantsStandIn t=jp:=by
 obtain rfl:f=7:=Ub ((show prog.funcNamed "pedigree/pedigreelaw16.CertOneForm" =dl 7 by kernel_rfl).symm.trans hf)|>.symm;obtain rfl:fn=f7:=(Ub (func7.symm.trans u)).symm;refine⟨by kernel_rfl,fun j t d=>?_⟩;rw[params7]at d
 match j,d with
 |0,d=>cases d;exact(show prog.wantsStandIn 25=jp by kernel_rfl)
 |1,d=>cases d;exact(show prog.wantsStandIn 33=jp by kernel_rfl)
theorem certOneForm_card:Rows.CertOneFormUptoCardSaid:=
 Claim7.holds_tied_plain_at .later [] _ _ _ _ sS (fun _ h=>by cases h) (by kernel_rfl) (fun _ h=>by cases h) certOneFormUpto_row_tie I ⟨rfl,rfl⟩ (by kernel_rfl) I lO (by kernel_rfl)
end Go.Proofs.YtbhphmfbligliaaGreatDoor
