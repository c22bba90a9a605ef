/-
  JournalCuts: what a crash leaves opens as the base behind the last batch whose record stayed
-/
import Derived.Test.YtlmhfgbkchnfbaaGreatDoorPart6
open List renaming append_nil→XM
open Option.some renaming inj→X4
set_option maxRecDepth 100000
open Bool renaming false→kw,true→jp
open Option renaming none→is,some→io
open Array renaming getD_eq_getD_getElem?→WZ
open Option.some renaming injEq→W3
open Nat renaming le_refl→W8
open Nat renaming le_succ→Yw
open List renaming getElem?_eq_some_iff→W4
open Array renaming range→Z3
open Array renaming getElem?_map→ZG
open Option renaming map_some→Ya
open Option renaming getD_some→X9
open Array renaming getElem?_eq_getElem→XJ
open Nat renaming mul_le_mul_right→Xt
open Nat renaming add_mul→XT
open Array renaming append_assoc→ZH
open Array renaming getElem?_append_left→XF
open List renaming getD_eq_getElem?_getD→W2
open List renaming getElem?_append_right→Xl
open Nat renaming sub_mul→aal
open Array renaming getElem?_append_right→YV
open List renaming getElem?_take→XK
open Array renaming getElem?_toList→Xz
open Nat renaming mod_eq_of_lt→Zl
open List renaming getElem?_toArray→XP
open List renaming getElem?_append_left→Xn
open And renaming intro→W0
open Int renaming toNat_natCast→W6
open Nat renaming le_of_ble_eq_true→WY
open List renaming length_map→Xw
open List renaming length_append→W1
open List renaming map_append→Xg
open List renaming append_assoc→Xf
open List renaming map_cons→W7
open List renaming nodup_cons→XN
open List renaming mem_cons→Xm
open List renaming mem_map→XH
namespace Go.Proofs.YtlmhfgbkchnfbaaGreatDoor
open Go Go.Al Go.Proofs.Tryz Go.ChangeShapes Go.WideShapes Go.RowKit
abbrev ie:Array Value:= #[.agg #[.slice is 0 0,.slice is 0 0],.slice is 0 0,.agg #[.int .i64 0,.int .i64 0,.int .i64 0]]
theorem pX(H:Type)(enc:TypeId×Value->H)(W:World)(base:Nat)(args:Array Value)(B gs:List (DataW H))(x:List MemPlace)
  (u: ∀(j:Nat) t v,f3.params[j]? =io t->args[j]? =io v->Value.okWide prog W .any base t v)
  (hW:DataW.Whole enc prog f3.params.toList Rows.journalCutsSpec.vars kw W args.toList B gs x) (hk:Rows.uptoSmall H (B++gs)=jp) (hL:laidMetH prog Jg W):
  Calls prog 3 args W fun e W'=> ∃v,e= .returned v∧Rows.journalCutsSpec.post enc prog f3 kw jp kw kw W args v W':=by
 have hT:=HW hL;have G:=hW;obtain⟨p,q,D,hV,rfl,f0,g0⟩:=hW;have hA:DataW.TrodAll enc prog W 0 (fun _=>jp) jp f3.params.toList args.toList B p:=D;rw[params3]at hA u;obtain⟨v0,i0,d0,b0,p0,A,I,rfl,rfl,h0,r0⟩:=trodAll_cons hA;obtain⟨v1,j0,d1,c0,p1,q1,rfl,rfl,rfl,h1,r1⟩:=trodAll_cons r0;obtain⟨v2,k0,d2,e0,p2,q2,rfl,rfl,rfl,h2,r2⟩:=trodAll_cons r1;obtain⟨rfl,rfl,rfl⟩:=trodAll_nil r2;obtain rfl:args=[v0,v1,v2].toArray:=by cases args;simp_all
 obtain⟨rfl,rfl⟩:=trodVars_none hV;obtain⟨x0,A,J⟩:=Kx hT ⟨base,u 0 25 v0 Z Z⟩ h0;obtain⟨x1,q1,Y⟩:=CV hT ⟨base,u 1 26 v1 Z Z⟩ h1;obtain⟨x2,q2,a0⟩:=Ky hT ⟨base,u 2 28 v2 Z Z⟩ h2;have hb:=bound hk;simp only[XM,Rows.uptoBulkAll]at hb;refine zy hT (zn P7 x0 x1 x2 (SK A (by simp only[bk];omega)) (by have:=A.1.1;simp only[bk]at this;omega) (Ud A (by simp only[bk];omega)) (by have:=q1.len;simp only[bk]at this;omega) (Ou q1 (by simp only[bk];omega))) Z (fun j p y=>?_) (by rw[params3];exact of_decide_eq_true (by kernel_rfl)) Z (by kernel_rfl) G Z Z Z
 match j,y with
 |0,y=>cases y;exact J
 |1,y=>cases y;exact Y
 |2,y=>cases y;exact a0
theorem qX(os:Os):laidMet prog Rows.journalCutsUptoRow.laid ((tj os).forCall (fun _ _=>0) ⟨#[],ie,[]⟩).memory:=
 laidMet_of_run' 8 (by kernel_rfl) (by kernel_rfl)
theorem sY(os:Os){H:Type}(enc:TypeId×Value->H): ∃j,DataW.whole enc prog ((tj os).forCall (fun _ _=>0) ⟨#[],ie,[]⟩).memory f3.params.toList Rows.journalCutsSpec.vars kw ie.toList 8=io ([.agg [.nil,.nil],.nil,.agg [.lit (.int .i64 0),.lit (.int .i64 0),.lit (.int .i64 0)]],[],j):=
 ⟨[],by kernel_rfl⟩
theorem rW(os:Os)(j:os.Started)(H:Type)(enc:TypeId×Value->H)(F:Stop.Interp):
  ReturnsInHanded {} checked os 3 .any ((Rows.OpenSpec.upto Rows.journalCutsSpec).preRow enc prog f3 Rows.journalCutsUptoRow.domain kw Rows.journalCutsUptoRow.laid) (((Rows.OpenSpec.upto Rows.journalCutsSpec).at F).post enc prog f3 kw jp kw kw):=by
 obtain⟨A,I⟩:=sY os enc;refine returnsInHanded_of_row (C:=checked) (s:=Rows.OpenSpec.upto Rows.journalCutsSpec) own j (by kernel_rfl) func3
  (witness_row_at (enc:=enc) (C:=checked) kw (tj os) ie Z (by kernel_rfl) (by kernel_rfl) (by kernel_rfl)
   (OpenSpec.preRow_of_cond 8 I (by kernel_rfl) (fun k hk=>by cases hk;kernel_rfl) (by kernel_rfl) (qX os))) ?_
 intro W base args B gs u y G _ x _ D _ _;exact pX H enc W base args B gs u y G (x _ Z) D
theorem uv:Rows.JournalCutsUptoSaid:=
 OpenClaim.holds_of_cond 3 f3 Z Z Z Z Z Z Z ⟨rfl,rfl,rfl,rfl,rfl⟩ Z Z Z Z Z (by kernel_rfl) func3 sA
  (of_decide_eq_true (by kernel_rfl)) (by unfold Func.isWrapper;first|(rw[am (by decide+kernel)];kernel_rfl)|(rw[be (by decide+kernel)];exact⟨rfl,rfl⟩))
  (fun os j H enc _ F=>by rw[OpenClaim.pre_eq_preRow];exact rW os j H enc F)
theorem ni (f:FuncId) (fn:Func) (hf:Tryz.pinned.checked.prog.funcNamed "pedigree/pedigreelaw23.JournalCuts" =io f) (u:Tryz.pinned.checked.prog.funcs[f]? =io fn):
  jp=Tryz.pinned.checked.prog.looks []∧ ∀(j:Nat) t,fn.params[j]? =io t->Tryz.pinned.checked.prog.wantsStandIn t=kw:=by
 obtain rfl:f=3:=X4 ((show prog.funcNamed "pedigree/pedigreelaw23.JournalCuts" =io 3 by kernel_rfl).symm.trans hf)|>.symm;obtain rfl:fn=f3:=(X4 (func3.symm.trans u)).symm;refine⟨by kernel_rfl,fun j t ht=>?_⟩;rw[params3]at ht
 match j,ht with
 |0,ht=>cases ht;exact(show prog.wantsStandIn 25=kw by kernel_rfl)
 |1,ht=>cases ht;exact(show prog.wantsStandIn 26=kw by kernel_rfl)
 |2,ht=>cases ht;exact(show prog.wantsStandIn 28=kw by kernel_rfl)
theorem journalCuts_card:Rows.JournalCutsUptoCardSaid:=
 Claim7.holds_tied_plain_at .later [] _ _ _ _ uv (fun _ h=>by cases h) (by kernel_rfl) (fun _ h=>by cases h) journalCutsUpto_row_tie Z ⟨rfl,rfl⟩ (by kernel_rfl) Z ni (by kernel_rfl)
end Go.Proofs.YtlmhfgbkchnfbaaGreatDoor
