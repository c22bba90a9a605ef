/-
  CertCut: no shorter beginning of a certificate is one, nor is one with bytes behind it (its bound: bulk at most 1048576).
-/
import Derived.Test.YtbhphmfbligliaaGreatDoorPart5
open ByteArray renaming empty→Tx
open List renaming append_nil→T1
open Option.some renaming inj→Uy
set_option maxRecDepth 100000
open Bool renaming false→jp,true→is
open Option renaming none→io,some→dl
open Array renaming getD_eq_getD_getElem?→Tl
open Option.some renaming injEq→Tm
open Nat renaming le_refl→Tv
open Nat renaming le_succ→Vg
open List renaming getElem?_eq_some_iff→Tp
open Array renaming range→Wu
open Array renaming getElem?_map→Vw
open Option renaming map_some→Ut
open Option renaming getD_some→UI
open Array renaming getElem?_eq_getElem→Uq
open Nat renaming mul_le_mul_right→TN
open Nat renaming add_mul→Ug
open Array renaming append_assoc→V1
open Array renaming getElem?_append_left→T6
open List renaming getD_eq_getElem?_getD→Tr
open List renaming getElem?_append_right→TI
open Nat renaming sub_mul→WO
open Array renaming getElem?_append_right→Vu
open List renaming getElem?_take→T4
open Array renaming getElem?_toList→T5
open Nat renaming add_comm→V6
open Nat renaming mod_eq_of_lt→VU
open List renaming getElem?_map→Tu
open List renaming getElem?_cons_succ→VH
open Option renaming map_eq_some_iff→Tw
open Array renaming toList_append→VG
open List renaming length_cons→TO
open List renaming length_nil→UJ
open And renaming intro→Tq
open Int renaming toNat_natCast→Tt
open Nat renaming le_of_ble_eq_true→Tk
open List renaming length_map→T2
open List renaming length_append→Tn
open List renaming map_append→TA
open List renaming append_assoc→Tz
namespace Go.Proofs.YtbhphmfbligliaaGreatDoor
open Go Go.Al Go.Proofs.Tryz Go.ChangeShapes Go.WideShapes Go.RowKit
abbrev kI:Array Value:= #[.agg #[.slice io 0 0,.slice io 0 0],.agg #[.string Tx,.slice io 0 0,.int .i64 0,.slice io 0 0],.slice io 0 0]
theorem s5(H:Type)(enc:TypeId×Value->H)(W:World)(base:Nat)(args:Array Value)(B gs:List (DataW H))(u:List MemPlace)
  (d: ∀(j:Nat) t v,f8.params[j]? =dl t->args[j]? =dl v->Value.okWide prog W .any base t v)
  (hW:DataW.Whole enc prog f8.params.toList Rows.certCutSpec.vars jp W args.toList B gs u) (hk:Rows.uptoSmall H (B++gs)=is) (hL:laidMetH prog GB W):
  Calls prog 8 args W fun e W'=> ∃v,e= .returned v∧Rows.certCutSpec.post enc prog f8 jp is jp jp W args v W':=by
 have hT:=Fo hL;have D:=hW;obtain⟨p,q,C,hV,rfl,e0,f0⟩:=hW;have hA:DataW.TrodAll enc prog W 0 (fun _=>is) is f8.params.toList args.toList B p:=C;rw[params8]at hA d;obtain⟨v0,g0,d0,a0,p0,A,F,rfl,rfl,h0,r0⟩:=trodAll_cons hA;obtain⟨v1,i0,d1,b0,p1,Z,rfl,rfl,rfl,h1,r1⟩:=trodAll_cons r0;obtain⟨v2,j0,d2,c0,p2,q2,rfl,rfl,rfl,h2,r2⟩:=trodAll_cons r1;obtain⟨rfl,rfl,rfl⟩:=trodAll_nil r2;obtain rfl:args=[v0,v1,v2].toArray:=by cases args;simp_all
 obtain⟨rfl,rfl⟩:=trodVars_none hV;obtain⟨x0,A,G⟩:=HB hT ⟨base,d 0 25 v0 I I⟩ h0;obtain⟨x1,Z,J⟩:=HA hT ⟨base,d 1 31 v1 I I⟩ h1;obtain⟨x2,q2,Y⟩:=ES hT ⟨base,d 2 33 v2 I I⟩ h2;have hb:=bound hk;simp only[T1,Rows.uptoBulkAll]at hb;refine x9 hT (FN MF x0 x1 x2 (Pc A (by simp only[bk];omega)) (by have:=A.1.1;simp only[bk]at this;omega) (Qj A (by simp only[bk];omega)) (by have:=Z.1;simp only[bk]at this;omega) (fun x hx=>by have:=Z.2 x hx;simp only[bk]at this;omega) (by simp only[bk]at q2;omega)) I (fun j p y=>?_) (by rw[params8];exact of_decide_eq_true (by kernel_rfl)) I (by kernel_rfl) D I I I
 match j,y with
 |0,y=>cases y;exact G
 |1,y=>cases y;exact J
 |2,y=>cases y;exact Y
theorem uI(os:Os):laidMet prog Rows.certCutUptoRow.laid ((rB os).forCall (fun _ _=>0) ⟨#[],kI,[]⟩).memory:=
 laidMet_of_run' 8 (by kernel_rfl) (by kernel_rfl)
theorem x7(os:Os){H:Type}(enc:TypeId×Value->H): ∃d,DataW.whole enc prog ((rB os).forCall (fun _ _=>0) ⟨#[],kI,[]⟩).memory f8.params.toList Rows.certCutSpec.vars jp kI.toList 8=dl ([.agg [.nil,.nil],.agg [.agg [.lit (.string []),.nil],.lit (.int .i64 0),.nil],.nil],[],d):=
 ⟨[],by kernel_rfl⟩
theorem vQ(os:Os)(d:os.Started)(H:Type)(enc:TypeId×Value->H)(F:Stop.Interp):
  ReturnsInHanded {} checked os 8 .any ((Rows.OpenSpec.upto Rows.certCutSpec).preRow enc prog f8 Rows.certCutUptoRow.domain jp Rows.certCutUptoRow.laid) (((Rows.OpenSpec.upto Rows.certCutSpec).at F).post enc prog f8 jp is jp jp):=by
 obtain⟨y,J⟩:=x7 os enc;refine returnsInHanded_of_row (C:=checked) (s:=Rows.OpenSpec.upto Rows.certCutSpec) own d (by kernel_rfl) func8
  (witness_row_at (enc:=enc) (C:=checked) jp (rB os) kI I (by kernel_rfl) (by kernel_rfl) (by kernel_rfl)
   (OpenSpec.preRow_of_cond 8 J (by kernel_rfl) (fun k G=>by cases G;kernel_rfl) (by kernel_rfl) (uI os))) ?_
 intro W base args A gs j x D _ u _ B _ _;exact s5 H enc W base args A gs j x D (u _ I) B
theorem zm:Rows.CertCutUptoSaid:=
 OpenClaim.holds_of_cond 8 f8 I I I I I I I ⟨rfl,rfl,rfl,rfl,rfl⟩ I I I I I (by kernel_rfl) func8 vW
  (of_decide_eq_true (by kernel_rfl)) (by unfold Func.isWrapper;first|(rw[am (by decide+kernel)];kernel_rfl)|(rw[be (by decide+kernel)];exact⟨rfl,rfl⟩))
  (fun os d H enc _ F=>by rw[OpenClaim.pre_eq_preRow];exact vQ os d H enc F)
theorem o9 (f:FuncId) (fn:Func) (hf:Tryz.pinned.checked.prog.funcNamed "pedigree/pedigreelaw16.CertCut" =dl f) (u:Tryz.pinned.checked.prog.funcs[f]? =dl fn):
  is=Tryz.pinned.checked.prog.looks []∧ ∀(j:Nat) t,fn.params[j]? =dl t->Tryz.pinned.checked.prog.wantsStandIn t=jp:=by
 obtain rfl:f=8:=Uy ((show prog.funcNamed "pedigree/pedigreelaw16.CertCut" =dl 8 by kernel_rfl).symm.trans hf)|>.symm;obtain rfl:fn=f8:=(Uy (func8.symm.trans u)).symm;refine⟨by kernel_rfl,fun j t d=>?_⟩;rw[params8]at d
 match j,d with
 |0,d=>cases d;exact(show prog.wantsStandIn 25=jp by kernel_rfl)
 |1,d=>cases d;exact(show prog.wantsStandIn 31=jp by kernel_rfl)
 |2,d=>cases d;exact(show prog.wantsStandIn 33=jp by kernel_rfl)
theorem certCut_card:Rows.CertCutUptoCardSaid:=
 Claim7.holds_tied_plain_at .later [] _ _ _ _ zm (fun _ h=>by cases h) (by kernel_rfl) (fun _ h=>by cases h) certCutUpto_row_tie I ⟨rfl,rfl⟩ (by kernel_rfl) I o9 (by kernel_rfl)
end Go.Proofs.YtbhphmfbligliaaGreatDoor
