/-
  BaseNet, as a card: the law answers true for every input of the bound.
-/
import Derived.Test.YtllkaddcplhklaaGreatDoorPart5
open List renaming append_nil→Qp
open Option.some renaming inj→Qb
set_option maxRecDepth 100000
open Bool renaming false→kw,true→jp
open Option renaming none→is,some→io
open Array renaming getD_eq_getD_getElem?→Pk
open Option.some renaming injEq→Pl
open Nat renaming le_refl→Pv
open Nat renaming le_succ→QZ
open List renaming getElem?_eq_some_iff→Pm
open Array renaming range→Sn
open Array renaming getElem?_map→RL
open Option renaming map_some→Qw
open Option renaming getD_some→Qn
open Array renaming getElem?_eq_getElem→PU
open Nat renaming mul_le_mul_right→PQ
open Nat renaming add_mul→Qr
open Array renaming getElem?_append_left→P5
open List renaming getD_eq_getElem?_getD→Pn
open List renaming getElem?_append_right→PD
open Array renaming getElem?_append_right→RU
open List renaming getElem?_take→Qc
open Array renaming getElem?_toList→PS
open And renaming intro→Pq
open Int renaming toNat_natCast→Pr
open Nat renaming le_of_ble_eq_true→Pj
open List renaming length_map→PX
open List renaming length_append→Pp
open List renaming map_append→PH
open List renaming append_assoc→PK
open List renaming map_cons→PB
open List renaming nodup_cons→P2
open List renaming mem_cons→Px
open List renaming mem_map→P1
namespace Go.Proofs.YtllkaddcplhklaaGreatDoor
open Go Go.Al Go.Proofs.Tryz Go.ChangeShapes Go.WideShapes Go.RowKit
abbrev jS:Array Value:= #[.agg #[.slice is 0 0,.slice is 0 0],.slice is 0 0,.slice is 0 0]
theorem rn(H:Type)(enc:TypeId×Value->H)(W:World)(base:Nat)(args:Array Value)(y gs:List (DataW H))(u:List MemPlace)
  (b: ∀(j:Nat) t v,f5.params[j]? =io t->args[j]? =io v->Value.okWide prog W .any base t v)
  (Y:DataW.Whole enc prog f5.params.toList Rows.baseNetSpec.vars kw W args.toList y gs u) (hk:Rows.uptoSmall H (y++gs)=jp) (hL:laidMetH prog EB W):
  Calls prog 5 args W fun e W'=> ∃v,e= .returned v∧Rows.baseNetSpec.post enc prog f5 kw jp kw kw W args v W':=by
 have hT:=Ds hL;have B:=Y;obtain⟨p,q,A,hV,rfl,e0,f0⟩:=Y;have R:DataW.TrodAll enc prog W 0 (fun _=>jp) jp f5.params.toList args.toList y p:=A;rw[params5]at R b;obtain⟨v0,g0,d0,a0,p0,J,C,rfl,rfl,h0,r0⟩:=trodAll_cons R;obtain⟨v1,i0,d1,b0,p1,q1,rfl,rfl,rfl,h1,r1⟩:=trodAll_cons r0;obtain⟨v2,j0,d2,c0,p2,q2,rfl,rfl,rfl,h2,r2⟩:=trodAll_cons r1;obtain⟨rfl,rfl,rfl⟩:=trodAll_nil r2;obtain rfl:args=[v0,v1,v2].toArray:=by cases args;simp_all
 obtain⟨rfl,rfl⟩:=trodVars_none hV;obtain⟨x0,J,D⟩:=FB hT ⟨base,b 0 35 v0 Z Z⟩ h0;obtain⟨x1,q1,G⟩:=yL hT ⟨base,b 1 36 v1 Z Z⟩ h1;obtain⟨x2,q2,I⟩:=yL hT ⟨base,b 2 36 v2 Z Z⟩ h2;have hb:=bound hk;simp only[Qp,Rows.uptoBulkAll]at hb;refine v8 hT (DR JQ x0 x1 x2 (LV J (by simp only[bk];omega)) (by have:=J.1;simp only[bk]at this;omega) (BD q1 (by simp only[bk];omega)) (BD q2 (by simp only[bk];omega))) Z (fun j p x=>?_) (by rw[params5];exact of_decide_eq_true (by kernel_rfl)) Z (by kernel_rfl) B Z Z Z
 match j,x with
 |0,x=>cases x;exact D
 |1,x=>cases x;exact G
 |2,x=>cases x;exact I
theorem sY(os:Os):laidMet prog Rows.baseNetUptoRow.laid ((p6 os).forCall (fun _ _=>0) ⟨#[],jS,[]⟩).memory:=
 laidMet_of_run' 8 (by kernel_rfl) (by kernel_rfl)
theorem vZ(os:Os){H:Type}(enc:TypeId×Value->H): ∃b,DataW.whole enc prog ((p6 os).forCall (fun _ _=>0) ⟨#[],jS,[]⟩).memory f5.params.toList Rows.baseNetSpec.vars kw jS.toList 8=io ([.agg [.nil,.nil],.nil,.nil],[],b):=
 ⟨[],by kernel_rfl⟩
theorem ue(os:Os)(b:os.Started)(H:Type)(enc:TypeId×Value->H)(F:Stop.Interp):
  ReturnsInHanded {} checked os 5 .any ((Rows.OpenSpec.upto Rows.baseNetSpec).preRow enc prog f5 Rows.baseNetUptoRow.domain kw Rows.baseNetUptoRow.laid) (((Rows.OpenSpec.upto Rows.baseNetSpec).at F).post enc prog f5 kw jp kw kw):=by
 obtain⟨y,G⟩:=vZ os enc;refine returnsInHanded_of_row (C:=checked) (s:=Rows.OpenSpec.upto Rows.baseNetSpec) own b (by kernel_rfl) func5
  (witness_row_at (enc:=enc) (C:=checked) kw (p6 os) jS Z (by kernel_rfl) (by kernel_rfl) (by kernel_rfl)
   (OpenSpec.preRow_of_cond 8 G (by kernel_rfl) (fun k hk=>by cases hk;kernel_rfl) (by kernel_rfl) (sY os))) ?_
 intro W base args A gs j x D _ u _ B _ _;exact rn H enc W base args A gs j x D (u _ Z) B
theorem xu:Rows.BaseNetUptoSaid:=
 OpenClaim.holds_of_cond 5 f5 Z Z Z Z Z Z Z ⟨rfl,rfl,rfl,rfl,rfl⟩ Z Z Z Z Z (by kernel_rfl) func5 uo
  (of_decide_eq_true (by kernel_rfl)) (by unfold Func.isWrapper;first|(rw[am (by decide+kernel)];kernel_rfl)|(rw[be (by decide+kernel)];exact⟨rfl,rfl⟩))
  (fun os b H enc _ F=>by rw[OpenClaim.pre_eq_preRow];exact ue os b H enc F)
theorem oc (f:FuncId) (fn:Func) (hf:Tryz.pinned.checked.prog.funcNamed "pedigree/pedigreelaw12.BaseNet" =io f) (u:Tryz.pinned.checked.prog.funcs[f]? =io fn):
  jp=Tryz.pinned.checked.prog.looks []∧ ∀(j:Nat) t,fn.params[j]? =io t->Tryz.pinned.checked.prog.wantsStandIn t=kw:=by
 obtain rfl:f=5:=Qb ((show prog.funcNamed "pedigree/pedigreelaw12.BaseNet" =io 5 by kernel_rfl).symm.trans hf)|>.symm;obtain rfl:fn=f5:=(Qb (func5.symm.trans u)).symm;refine⟨by kernel_rfl,fun j t b=>?_⟩;rw[params5]at b
 match j,b with
 |0,b=>cases b;exact(show prog.wantsStandIn 35=kw by kernel_rfl)
 |1,b=>cases b;exact(show prog.wantsStandIn 36=kw by kernel_rfl)
 |2,b=>cases b;exact(show prog.wantsStandIn 36=kw by kernel_rfl)
theorem baseNet_card:Rows.BaseNetUptoCardSaid:=
 Claim7.holds_tied_plain_at .later [] _ _ _ _ xu (fun _ h=>by cases h) (by kernel_rfl) (fun _ h=>by cases h) baseNetUpto_row_tie Z ⟨rfl,rfl⟩ (by kernel_rfl) Z oc (by kernel_rfl)
end Go.Proofs.YtllkaddcplhklaaGreatDoor
