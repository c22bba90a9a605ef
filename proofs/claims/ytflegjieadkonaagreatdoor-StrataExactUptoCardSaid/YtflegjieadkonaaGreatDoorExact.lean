/-
  StrataExact, on every input of the bound: it answers true and leaves its arguments as they were. Conditions: none beside the statement's own.
-/
import Derived.Test.YtflegjieadkonaaGreatDoorPart7
open List renaming append_nil→Y0
open Option.some renaming inj→Zh
set_option maxRecDepth 100000
open Bool renaming false→li,true→lc
open Option renaming none→kw,some→jp
open Array renaming getD_eq_getD_getElem?→Yf
open Option.some renaming injEq→Yh
open List renaming getElem?_eq_some_iff→Yj
open Array renaming range→abv
open Array renaming getElem?_map→aaD
open Option renaming map_some→Zg
open Option renaming getD_some→ZG
open Array renaming getElem?_eq_getElem→Zb
open Nat renaming mul_le_mul_right→YS
open Nat renaming add_mul→Zz
open Array renaming getElem?_append_left→Zr
open List renaming getD_eq_getElem?_getD→Ye
open List renaming getElem?_append_right→YF
open List renaming getElem?_take→Zi
open Array renaming getElem?_toList→Zn
open And renaming intro→YW
open Int renaming toNat_natCast→YK
open Nat renaming le_of_ble_eq_true→Yd
open List renaming length_map→YH
open List renaming length_append→Yg
open List renaming map_append→Yk
open List renaming append_assoc→Yu
open Inhabited renaming default→io
open List renaming range_succ_eq_map→aaE
namespace Go.Proofs.YtflegjieadkonaaGreatDoor
open Go Go.Al Go.Proofs.Tryz Go.ChangeShapes Go.WideShapes Go.RowKit
abbrev jh:Array Value:= #[.agg #[.slice kw 0 0,.slice kw 0 0]]
theorem rP(H:Type)(enc:TypeId×Value->H)(W:World)(base:Nat)(args:Array Value)(u gs:List (DataW H))(b:List MemPlace)
  (d: ∀(j:Nat) t v,f3.params[j]? =jp t->args[j]? =jp v->Value.okWide prog W .any base t v)
  (G:DataW.Whole enc prog f3.params.toList Rows.strataExactSpec.vars li W args.toList u gs b) (hk:Rows.uptoSmall H (u++gs)=lc) (S:laidMetH prog Lo W):
  Calls prog 3 args W fun e W'=> ∃v,e= .returned v∧Rows.strataExactSpec.post enc prog f3 li lc li li W args v W':=by
 have hT:=J1 S;have y:=G;obtain⟨p,q,x,Y,rfl,a0,b0⟩:=G;have F:DataW.TrodAll enc prog W 0 (fun _=>lc) lc f3.params.toList args.toList u p:=x;rw[params3]at F d;obtain⟨v0,c0,d0,I,p0,D,A,rfl,rfl,J,r0⟩:=trodAll_cons F;obtain⟨rfl,rfl,rfl⟩:=trodAll_nil r0;obtain rfl:args=[v0].toArray:=by cases args;simp_all
 obtain⟨rfl,rfl⟩:=trodVars_none Y;obtain⟨x0,D,C⟩:=MK hT ⟨base,d 0 25 v0 Z Z⟩ J;have hb:=bound hk;simp only[Y0,Rows.uptoBulkAll]at hb;refine BG hT (By RU x0 (TM D (by simp only[bk];omega)) (by have:=D.1;simp only[bk]at this;omega)) Z (fun j p B=>?_) (by rw[params3];exact of_decide_eq_true (by kernel_rfl)) Z (by kernel_rfl) y Z Z Z
 match j,B with
 |0,B=>cases B;exact C
theorem tj(os:Os):laidMet prog Rows.strataExactUptoRow.laid ((vo os).forCall (fun _ _=>0) ⟨#[],jh,[]⟩).memory:=
 laidMet_of_run' 8 (by kernel_rfl) (by kernel_rfl)
theorem vb(os:Os){H:Type}(enc:TypeId×Value->H): ∃b,DataW.whole enc prog ((vo os).forCall (fun _ _=>0) ⟨#[],jh,[]⟩).memory f3.params.toList Rows.strataExactSpec.vars li jh.toList 8=jp ([.agg [.nil,.nil]],[],b):=
 ⟨[],by kernel_rfl⟩
theorem uk(os:Os)(b:os.Started)(H:Type)(enc:TypeId×Value->H)(F:Stop.Interp):
  ReturnsInHanded {} checked os 3 .any ((Rows.OpenSpec.upto Rows.strataExactSpec).preRow enc prog f3 Rows.strataExactUptoRow.domain li Rows.strataExactUptoRow.laid) (((Rows.OpenSpec.upto Rows.strataExactSpec).at F).post enc prog f3 li lc li li):=by
 obtain⟨x,G⟩:=vb os enc;refine returnsInHanded_of_row (C:=checked) (s:=Rows.OpenSpec.upto Rows.strataExactSpec) own b (by kernel_rfl) func3
  (witness_row_at (enc:=enc) (C:=checked) li (vo os) jh Z (by kernel_rfl) (by kernel_rfl) (by kernel_rfl)
   (OpenSpec.preRow_of_cond 8 G (by kernel_rfl) (fun k D=>by cases D;kernel_rfl) (by kernel_rfl) (tj os))) ?_
 intro W base args y gs d u B _ j _ A _ _;exact rP H enc W base args y gs d u B (j _ Z) A
theorem wB:Rows.StrataExactUptoSaid:=
 OpenClaim.holds_of_cond 3 f3 Z Z Z Z Z Z Z ⟨rfl,rfl,rfl,rfl,rfl⟩ Z Z Z Z Z (by kernel_rfl) func3 uG
  (of_decide_eq_true (by kernel_rfl)) (by unfold Func.isWrapper;first|(rw[am (by decide+kernel)];kernel_rfl)|(rw[be (by decide+kernel)];exact⟨rfl,rfl⟩))
  (fun os b H enc _ F=>by rw[OpenClaim.pre_eq_preRow];exact uk os b H enc F)
theorem oS (f:FuncId) (fn:Func) (hf:Tryz.pinned.checked.prog.funcNamed "pedigree/pedigreelaw07.StrataExact" =jp f) (d:Tryz.pinned.checked.prog.funcs[f]? =jp fn):
  li=Tryz.pinned.checked.prog.looks []∧ ∀(j:Nat) t,fn.params[j]? =jp t->Tryz.pinned.checked.prog.wantsStandIn t=li:=by
 obtain rfl:f=3:=Zh ((show prog.funcNamed "pedigree/pedigreelaw07.StrataExact" =jp 3 by kernel_rfl).symm.trans hf)|>.symm;obtain rfl:fn=f3:=(Zh (func3.symm.trans d)).symm;refine⟨by kernel_rfl,fun j t b=>?_⟩;rw[params3]at b
 match j,b with
 |0,b=>cases b;exact(show prog.wantsStandIn 25=li by kernel_rfl)
theorem strataExact_card:Rows.StrataExactUptoCardSaid:=
 Claim7.holds_tied_plain_at .later [] _ _ _ _ wB (fun _ h=>by cases h) (by kernel_rfl) (fun _ h=>by cases h) strataExactUpto_row_tie Z ⟨rfl,rfl⟩ (by kernel_rfl) Z oS (by kernel_rfl)
end Go.Proofs.YtflegjieadkonaaGreatDoor
