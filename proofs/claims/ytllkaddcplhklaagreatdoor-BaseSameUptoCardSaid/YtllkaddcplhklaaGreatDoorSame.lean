/-
  BaseSame, as a card: the law answers true for every input of the bound.
-/
import Derived.Test.YtllkaddcplhklaaGreatDoorPart5
open ByteArray renaming empty→Pq
open List renaming append_nil→Qm
open Option.some renaming inj→P7
set_option maxRecDepth 100000
open Bool renaming false→kw,true→jp
open Option renaming none→is,some→io
open Array renaming getD_eq_getD_getElem?→Pg
open Option.some renaming injEq→Ph
open Nat renaming le_refl→Ps
open Nat renaming le_succ→QO
open List renaming getElem?_eq_some_iff→Pj
open Array renaming range→Sk
open Array renaming getElem?_map→RI
open Option renaming map_some→Qt
open Option renaming getD_some→Qf
open Array renaming getElem?_eq_getElem→PR
open Nat renaming mul_le_mul_right→PL
open Nat renaming add_mul→Qo
open Array renaming getElem?_append_left→P1
open List renaming getD_eq_getElem?_getD→Pk
open List renaming getElem?_append_right→PB
open Array renaming getElem?_append_right→RS
open List renaming getElem?_take→P8
open Array renaming getElem?_toList→PN
open And renaming intro→Pm
open Int renaming toNat_natCast→Po
open Nat renaming le_of_ble_eq_true→Pf
open List renaming length_map→PS
open List renaming length_append→Pn
open List renaming map_append→PF
open List renaming append_assoc→PH
open List renaming map_cons→Py
open List renaming nodup_cons→P0
open List renaming mem_cons→Px
open List renaming mem_map→PW
namespace Go.Proofs.YtllkaddcplhklaaGreatDoor
open Go Go.Al Go.Proofs.Tryz Go.ChangeShapes Go.WideShapes Go.RowKit
abbrev iM:Array Value:= #[.agg #[.slice is 0 0,.slice is 0 0],.slice is 0 0,.agg #[.string Pq,.slice is 0 0]]
theorem p7(H:Type)(enc:TypeId×Value->H)(W:World)(base:Nat)(args:Array Value)(y gs:List (DataW H))(u:List MemPlace)
  (b: ∀(j:Nat) t v,f4.params[j]? =io t->args[j]? =io v->Value.okWide prog W .any base t v)
  (hW:DataW.Whole enc prog f4.params.toList Rows.baseSameSpec.vars kw W args.toList y gs u) (hk:Rows.uptoSmall H (y++gs)=jp) (hL:laidMetH prog Ey W):
  Calls prog 4 args W fun e W'=> ∃v,e= .returned v∧Rows.baseSameSpec.post enc prog f4 kw jp kw kw W args v W':=by
 have hT:=Dj hL;have B:=hW;obtain⟨p,q,A,hV,rfl,e0,f0⟩:=hW;have Y:DataW.TrodAll enc prog W 0 (fun _=>jp) jp f4.params.toList args.toList y p:=A;rw[params4]at Y b;obtain⟨v0,g0,d0,a0,p0,J,C,rfl,rfl,h0,r0⟩:=trodAll_cons Y;obtain⟨v1,i0,d1,b0,p1,R,rfl,rfl,rfl,h1,r1⟩:=trodAll_cons r0;obtain⟨v2,j0,d2,c0,p2,q2,rfl,rfl,rfl,h2,r2⟩:=trodAll_cons r1;obtain⟨rfl,rfl,rfl⟩:=trodAll_nil r2;obtain rfl:args=[v0,v1,v2].toArray:=by cases args;simp_all
 obtain⟨rfl,rfl⟩:=trodVars_none hV;obtain⟨x0,J,D⟩:=Fz hT ⟨base,b 0 35 v0 Z Z⟩ h0;obtain⟨x1,R,G⟩:=yD hT ⟨base,b 1 47 v1 Z Z⟩ h1;obtain⟨x2,q2,I⟩:=FA hT ⟨base,b 2 39 v2 Z Z⟩ h2;have hb:=bound hk;simp only[Qm,Rows.uptoBulkAll]at hb;refine vX hT (B2 JP x0 x1 x2 (LQ J (by simp only[bk];omega)) (by have:=J.1;simp only[bk]at this;omega) (by have:=R.len;simp only[bk]at this;omega) (IE R (by simp only[bk];omega))) Z (fun j p x=>?_) (by rw[params4];exact of_decide_eq_true (by kernel_rfl)) Z (by kernel_rfl) B Z Z Z
 match j,x with
 |0,x=>cases x;exact D
 |1,x=>cases x;exact G
 |2,x=>cases x;exact I
theorem qZ(os:Os):laidMet prog Rows.baseSameUptoRow.laid ((pT os).forCall (fun _ _=>0) ⟨#[],iM,[]⟩).memory:=
 laidMet_of_run' 8 (by kernel_rfl) (by kernel_rfl)
theorem tX(os:Os){H:Type}(enc:TypeId×Value->H): ∃b,DataW.whole enc prog ((pT os).forCall (fun _ _=>0) ⟨#[],iM,[]⟩).memory f4.params.toList Rows.baseSameSpec.vars kw iM.toList 8=io ([.agg [.nil,.nil],.nil,.agg [.lit (.string []),.nil]],[],b):=
 ⟨[],by kernel_rfl⟩
theorem sQ(os:Os)(b:os.Started)(H:Type)(enc:TypeId×Value->H)(F:Stop.Interp):
  ReturnsInHanded {} checked os 4 .any ((Rows.OpenSpec.upto Rows.baseSameSpec).preRow enc prog f4 Rows.baseSameUptoRow.domain kw Rows.baseSameUptoRow.laid) (((Rows.OpenSpec.upto Rows.baseSameSpec).at F).post enc prog f4 kw jp kw kw):=by
 obtain⟨y,G⟩:=tX os enc;refine returnsInHanded_of_row (C:=checked) (s:=Rows.OpenSpec.upto Rows.baseSameSpec) own b (by kernel_rfl) func4
  (witness_row_at (enc:=enc) (C:=checked) kw (pT os) iM Z (by kernel_rfl) (by kernel_rfl) (by kernel_rfl)
   (OpenSpec.preRow_of_cond 8 G (by kernel_rfl) (fun k hk=>by cases hk;kernel_rfl) (by kernel_rfl) (qZ os))) ?_
 intro W base args A gs j x D _ u _ B _ _;exact p7 H enc W base args A gs j x D (u _ Z) B
theorem vR:Rows.BaseSameUptoSaid:=
 OpenClaim.holds_of_cond 4 f4 Z Z Z Z Z Z Z ⟨rfl,rfl,rfl,rfl,rfl⟩ Z Z Z Z Z (by kernel_rfl) func4 tm
  (of_decide_eq_true (by kernel_rfl)) (by unfold Func.isWrapper;first|(rw[am (by decide+kernel)];kernel_rfl)|(rw[be (by decide+kernel)];exact⟨rfl,rfl⟩))
  (fun os b H enc _ F=>by rw[OpenClaim.pre_eq_preRow];exact sQ os b H enc F)
theorem mU (f:FuncId) (fn:Func) (hf:Tryz.pinned.checked.prog.funcNamed "pedigree/pedigreelaw12.BaseSame" =io f) (u:Tryz.pinned.checked.prog.funcs[f]? =io fn):
  jp=Tryz.pinned.checked.prog.looks []∧ ∀(j:Nat) t,fn.params[j]? =io t->Tryz.pinned.checked.prog.wantsStandIn t=kw:=by
 obtain rfl:f=4:=P7 ((show prog.funcNamed "pedigree/pedigreelaw12.BaseSame" =io 4 by kernel_rfl).symm.trans hf)|>.symm;obtain rfl:fn=f4:=(P7 (func4.symm.trans u)).symm;refine⟨by kernel_rfl,fun j t b=>?_⟩;rw[params4]at b
 match j,b with
 |0,b=>cases b;exact(show prog.wantsStandIn 35=kw by kernel_rfl)
 |1,b=>cases b;exact(show prog.wantsStandIn 47=kw by kernel_rfl)
 |2,b=>cases b;exact(show prog.wantsStandIn 39=kw by kernel_rfl)
theorem baseSame_card:Rows.BaseSameUptoCardSaid:=
 Claim7.holds_tied_plain_at .later [] _ _ _ _ vR (fun _ h=>by cases h) (by kernel_rfl) (fun _ h=>by cases h) baseSameUpto_row_tie Z ⟨rfl,rfl⟩ (by kernel_rfl) Z mU (by kernel_rfl)
end Go.Proofs.YtllkaddcplhklaaGreatDoor
