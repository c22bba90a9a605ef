/-
  JournalPacks: packed or not, two journals that are told the same tell the same (its bound: bulk at most 1048576).
-/
import Derived.Test.YtlmhfgbkchnfbaaGreatDoorPart5
open List renaming append_nil→XA
open Option.some renaming inj→XP
set_option maxRecDepth 100000
open Bool renaming false→kw,true→jp
open Option renaming none→is,some→io
open Array renaming getD_eq_getD_getElem?→WM
open Option.some renaming injEq→WR
open Nat renaming le_refl→WY
open Nat renaming le_succ→Yh
open List renaming getElem?_eq_some_iff→WT
open Array renaming range→ZP
open Array renaming getElem?_map→Zr
open Option renaming map_some→XW
open Option renaming getD_some→XV
open Array renaming getElem?_eq_getElem→Xx
open Nat renaming mul_le_mul_right→Xi
open Nat renaming add_mul→XG
open Array renaming append_assoc→Zs
open Array renaming getElem?_append_left→Xt
open List renaming getD_eq_getElem?_getD→WQ
open List renaming getElem?_append_right→Xc
open Nat renaming sub_mul→Z7
open Array renaming getElem?_append_right→YJ
open List renaming getElem?_take→Xy
open Array renaming getElem?_toList→Xo
open Nat renaming mod_eq_of_lt→Y6
open List renaming getElem?_toArray→XD
open List renaming getElem?_append_left→Xb
open And renaming intro→WN
open Int renaming toNat_natCast→WV
open Nat renaming le_of_ble_eq_true→WL
open List renaming length_map→Xk
open List renaming length_append→WO
open List renaming map_append→W4
open List renaming append_assoc→W6
open List renaming map_cons→WW
open List renaming nodup_cons→XB
open List renaming mem_cons→Xa
open List renaming mem_map→Xw
namespace Go.Proofs.YtlmhfgbkchnfbaaGreatDoor
open Go Go.Al Go.Proofs.Tryz Go.ChangeShapes Go.WideShapes Go.RowKit
abbrev gB:Array Value:= #[.agg #[.slice is 0 0,.slice is 0 0],.slice is 0 0,.slice is 0 0]
theorem oR(H:Type)(enc:TypeId×Value->H)(W:World)(base:Nat)(args:Array Value)(B gs:List (DataW H))(x:List MemPlace)
  (u: ∀(j:Nat) t v,f4.params[j]? =io t->args[j]? =io v->Value.okWide prog W .any base t v)
  (hW:DataW.Whole enc prog f4.params.toList Rows.journalPacksSpec.vars kw W args.toList B gs x) (hk:Rows.uptoSmall H (B++gs)=jp) (hL:laidMetH prog Jb W):
  Calls prog 4 args W fun e W'=> ∃v,e= .returned v∧Rows.journalPacksSpec.post enc prog f4 kw jp kw kw W args v W':=by
 have hT:=HK hL;have D:=hW;obtain⟨p,q,C,hV,rfl,e0,f0⟩:=hW;have hA:DataW.TrodAll enc prog W 0 (fun _=>jp) jp f4.params.toList args.toList B p:=C;rw[params4]at hA u;obtain⟨v0,g0,d0,a0,p0,A,G,rfl,rfl,h0,r0⟩:=trodAll_cons hA;obtain⟨v1,i0,d1,b0,p1,q1,rfl,rfl,rfl,h1,r1⟩:=trodAll_cons r0;obtain⟨v2,j0,d2,c0,p2,q2,rfl,rfl,rfl,h2,r2⟩:=trodAll_cons r1;obtain⟨rfl,rfl,rfl⟩:=trodAll_nil r2;obtain rfl:args=[v0,v1,v2].toArray:=by cases args;simp_all
 obtain⟨rfl,rfl⟩:=trodVars_none hV;obtain⟨x0,A,I⟩:=Ks hT ⟨base,u 0 25 v0 Z Z⟩ h0;obtain⟨x1,q1,J⟩:=CK hT ⟨base,u 1 26 v1 Z Z⟩ h1;obtain⟨x2,q2,Y⟩:=He hT ⟨base,u 2 50 v2 Z Z⟩ h2;have hb:=bound hk;simp only[XA,Rows.uptoBulkAll]at hb;refine zo hT (xi P0 x0 x1 x2 (SA A (by simp only[bk];omega)) (by have:=A.1.1;simp only[bk]at this;omega) (T2 A (by simp only[bk];omega)) (by have:=q1.len;simp only[bk]at this;omega) (Oj q1 (by simp only[bk];omega)) (by have:=q2.len;simp only[bk]at this;omega)) Z (fun j p y=>?_) (by rw[params4];exact of_decide_eq_true (by kernel_rfl)) Z (by kernel_rfl) D Z Z Z
 match j,y with
 |0,y=>cases y;exact I
 |1,y=>cases y;exact J
 |2,y=>cases y;exact Y
theorem pN(os:Os):laidMet prog Rows.journalPacksUptoRow.laid ((ta os).forCall (fun _ _=>0) ⟨#[],gB,[]⟩).memory:=
 laidMet_of_run' 8 (by kernel_rfl) (by kernel_rfl)
theorem rF(os:Os){H:Type}(enc:TypeId×Value->H): ∃j,DataW.whole enc prog ((ta os).forCall (fun _ _=>0) ⟨#[],gB,[]⟩).memory f4.params.toList Rows.journalPacksSpec.vars kw gB.toList 8=io ([.agg [.nil,.nil],.nil,.nil],[],j):=
 ⟨[],by kernel_rfl⟩
theorem qQ(os:Os)(j:os.Started)(H:Type)(enc:TypeId×Value->H)(F:Stop.Interp):
  ReturnsInHanded {} checked os 4 .any ((Rows.OpenSpec.upto Rows.journalPacksSpec).preRow enc prog f4 Rows.journalPacksUptoRow.domain kw Rows.journalPacksUptoRow.laid) (((Rows.OpenSpec.upto Rows.journalPacksSpec).at F).post enc prog f4 kw jp kw kw):=by
 obtain⟨A,I⟩:=rF os enc;refine returnsInHanded_of_row (C:=checked) (s:=Rows.OpenSpec.upto Rows.journalPacksSpec) own j (by kernel_rfl) func4
  (witness_row_at (enc:=enc) (C:=checked) kw (ta os) gB Z (by kernel_rfl) (by kernel_rfl) (by kernel_rfl)
   (OpenSpec.preRow_of_cond 8 I (by kernel_rfl) (fun k hk=>by cases hk;kernel_rfl) (by kernel_rfl) (pN os))) ?_
 intro W base args B gs u y G _ x _ D _ _;exact oR H enc W base args B gs u y G (x _ Z) D
theorem sJ:Rows.JournalPacksUptoSaid:=
 OpenClaim.holds_of_cond 4 f4 Z Z Z Z Z Z Z ⟨rfl,rfl,rfl,rfl,rfl⟩ Z Z Z Z Z (by kernel_rfl) func4 rb
  (of_decide_eq_true (by kernel_rfl)) (by unfold Func.isWrapper;first|(rw[am (by decide+kernel)];kernel_rfl)|(rw[be (by decide+kernel)];exact⟨rfl,rfl⟩))
  (fun os j H enc _ F=>by rw[OpenClaim.pre_eq_preRow];exact qQ os j H enc F)
theorem ma (f:FuncId) (fn:Func) (hf:Tryz.pinned.checked.prog.funcNamed "pedigree/pedigreelaw23.JournalPacks" =io f) (u:Tryz.pinned.checked.prog.funcs[f]? =io fn):
  jp=Tryz.pinned.checked.prog.looks []∧ ∀(j:Nat) t,fn.params[j]? =io t->Tryz.pinned.checked.prog.wantsStandIn t=kw:=by
 obtain rfl:f=4:=XP ((show prog.funcNamed "pedigree/pedigreelaw23.JournalPacks" =io 4 by kernel_rfl).symm.trans hf)|>.symm;obtain rfl:fn=f4:=(XP (func4.symm.trans u)).symm;refine⟨by kernel_rfl,fun j t ht=>?_⟩;rw[params4]at ht
 match j,ht with
 |0,ht=>cases ht;exact(show prog.wantsStandIn 25=kw by kernel_rfl)
 |1,ht=>cases ht;exact(show prog.wantsStandIn 26=kw by kernel_rfl)
 |2,ht=>cases ht;exact(show prog.wantsStandIn 50=kw by kernel_rfl)
theorem journalPacks_card:Rows.JournalPacksUptoCardSaid:=
 Claim7.holds_tied_plain_at .later [] _ _ _ _ sJ (fun _ h=>by cases h) (by kernel_rfl) (fun _ h=>by cases h) journalPacksUpto_row_tie Z ⟨rfl,rfl⟩ (by kernel_rfl) Z ma (by kernel_rfl)
end Go.Proofs.YtlmhfgbkchnfbaaGreatDoor
