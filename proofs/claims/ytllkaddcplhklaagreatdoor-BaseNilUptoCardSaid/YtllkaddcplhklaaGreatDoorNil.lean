/-
  BaseNil, as a card: the law answers true for every input of the bound.
-/
import Derived.Test.YtllkaddcplhklaaGreatDoorPart5
open ByteArray renaming empty→OI
open List renaming append_nil→Pw
open Option.some renaming inj→Pl
set_option maxRecDepth 100000
open Bool renaming false→jp,true→is
open Option renaming none→io,some→co
open Array renaming getD_eq_getD_getElem?→Oz
open Option.some renaming injEq→OA
open Nat renaming le_refl→OL
open Nat renaming le_succ→Qv
open List renaming getElem?_eq_some_iff→OB
open Array renaming range→Rw
open Array renaming getElem?_map→QN
open Option renaming map_some→PI
open Option renaming getD_some→PA
open Array renaming getElem?_eq_getElem→O4
open Nat renaming mul_le_mul_right→O3
open Nat renaming add_mul→PD
open Array renaming getElem?_append_left→Pc
open List renaming getD_eq_getElem?_getD→OC
open List renaming getElem?_append_right→OQ
open Array renaming getElem?_append_right→QX
open List renaming getElem?_take→Pn
open Array renaming getElem?_toList→O6
open And renaming intro→OF
open Int renaming toNat_natCast→OG
open Nat renaming le_of_ble_eq_true→Oy
open List renaming length_map→O7
open List renaming length_append→OE
open List renaming map_append→OX
open List renaming append_assoc→O0
open List renaming map_cons→OZ
open List renaming nodup_cons→Pf
open List renaming mem_cons→OP
open List renaming mem_map→Pg
namespace Go.Proofs.YtllkaddcplhklaaGreatDoor
open Go Go.Al Go.Proofs.Tryz Go.ChangeShapes Go.WideShapes Go.RowKit
abbrev jx:Array Value:= #[.slice io 0 0,.agg #[.string OI,.slice io 0 0]]
theorem qI(H:Type)(enc:TypeId×Value->H)(W:World)(base:Nat)(args:Array Value)(y gs:List (DataW H))(u:List MemPlace)
  (b: ∀(j:Nat) t v,f6.params[j]? =co t->args[j]? =co v->Value.okWide prog W .any base t v)
  (J:DataW.Whole enc prog f6.params.toList Rows.baseNilSpec.vars jp W args.toList y gs u) (hk:Rows.uptoSmall H (y++gs)=is) (hL:laidMetH prog DD W):
  Calls prog 6 args W fun e W'=> ∃v,e= .returned v∧Rows.baseNilSpec.post enc prog f6 jp is jp jp W args v W':=by
 have hT:=Ck hL;have B:=J;obtain⟨p,q,A,hV,rfl,b0,c0⟩:=J;have I:DataW.TrodAll enc prog W 0 (fun _=>is) is f6.params.toList args.toList y p:=A;rw[params6]at I b;obtain⟨v0,e0,d0,Y,p0,q0,C,rfl,rfl,h0,r0⟩:=trodAll_cons I;obtain⟨R,f0,d1,a0,p1,q1,rfl,rfl,rfl,h1,r1⟩:=trodAll_cons r0;obtain⟨rfl,rfl,rfl⟩:=trodAll_nil r1;obtain rfl:args=[v0,R].toArray:=by cases args;simp_all
 obtain⟨rfl,rfl⟩:=trodVars_none hV;obtain⟨x0,q0,D⟩:=EB hT ⟨base,b 0 36 v0 Z Z⟩ h0;obtain⟨x1,q1,G⟩:=EA hT ⟨base,b 1 39 R Z Z⟩ h1;have hb:=bound hk;simp only[Pw,Rows.uptoBulkAll]at hb;refine vk hT (CJ IM x0 x1) Z (fun j p x=>?_) (by rw[params6];exact of_decide_eq_true (by kernel_rfl)) Z (by kernel_rfl) B Z Z Z
 match j,x with
 |0,x=>cases x;exact D
 |1,x=>cases x;exact G
theorem r9(os:Os):laidMet prog Rows.baseNilUptoRow.laid ((pq os).forCall (fun _ _=>0) ⟨#[],jx,[]⟩).memory:=
 laidMet_of_run' 8 (by kernel_rfl) (by kernel_rfl)
theorem vi(os:Os){H:Type}(enc:TypeId×Value->H): ∃b,DataW.whole enc prog ((pq os).forCall (fun _ _=>0) ⟨#[],jx,[]⟩).memory f6.params.toList Rows.baseNilSpec.vars jp jx.toList 8=co ([.nil,.agg [.lit (.string []),.nil]],[],b):=
 ⟨[],by kernel_rfl⟩
theorem tn(os:Os)(b:os.Started)(H:Type)(enc:TypeId×Value->H)(F:Stop.Interp):
  ReturnsInHanded {} checked os 6 .any ((Rows.OpenSpec.upto Rows.baseNilSpec).preRow enc prog f6 Rows.baseNilUptoRow.domain jp Rows.baseNilUptoRow.laid) (((Rows.OpenSpec.upto Rows.baseNilSpec).at F).post enc prog f6 jp is jp jp):=by
 obtain⟨y,G⟩:=vi os enc;refine returnsInHanded_of_row (C:=checked) (s:=Rows.OpenSpec.upto Rows.baseNilSpec) own b (by kernel_rfl) func6
  (witness_row_at (enc:=enc) (C:=checked) jp (pq os) jx Z (by kernel_rfl) (by kernel_rfl) (by kernel_rfl)
   (OpenSpec.preRow_of_cond 8 G (by kernel_rfl) (fun k hk=>by cases hk;kernel_rfl) (by kernel_rfl) (r9 os))) ?_
 intro W base args A gs j x D _ u _ B _ _;exact qI H enc W base args A gs j x D (u _ Z) B
theorem wM:Rows.BaseNilUptoSaid:=
 OpenClaim.holds_of_cond 6 f6 Z Z Z Z Z Z Z ⟨rfl,rfl,rfl,rfl,rfl⟩ Z Z Z Z Z (by kernel_rfl) func6 tA
  (of_decide_eq_true (by kernel_rfl)) (by unfold Func.isWrapper;first|(rw[am (by decide+kernel)];kernel_rfl)|(rw[be (by decide+kernel)];exact⟨rfl,rfl⟩))
  (fun os b H enc _ F=>by rw[OpenClaim.pre_eq_preRow];exact tn os b H enc F)
theorem nI (f:FuncId) (fn:Func) (hf:Tryz.pinned.checked.prog.funcNamed "pedigree/pedigreelaw12.BaseNil" =co f) (u:Tryz.pinned.checked.prog.funcs[f]? =co fn):
  is=Tryz.pinned.checked.prog.looks []∧ ∀(j:Nat) t,fn.params[j]? =co t->Tryz.pinned.checked.prog.wantsStandIn t=jp:=by
 obtain rfl:f=6:=Pl ((show prog.funcNamed "pedigree/pedigreelaw12.BaseNil" =co 6 by kernel_rfl).symm.trans hf)|>.symm;obtain rfl:fn=f6:=(Pl (func6.symm.trans u)).symm;refine⟨by kernel_rfl,fun j t b=>?_⟩;rw[params6]at b
 match j,b with
 |0,b=>cases b;exact(show prog.wantsStandIn 36=jp by kernel_rfl)
 |1,b=>cases b;exact(show prog.wantsStandIn 39=jp by kernel_rfl)
theorem baseNil_card:Rows.BaseNilUptoCardSaid:=
 Claim7.holds_tied_plain_at .later [] _ _ _ _ wM (fun _ h=>by cases h) (by kernel_rfl) (fun _ h=>by cases h) baseNilUpto_row_tie Z ⟨rfl,rfl⟩ (by kernel_rfl) Z nI (by kernel_rfl)
end Go.Proofs.YtllkaddcplhklaaGreatDoor
