/-
  What the proofs of the claims need: part 4 of 6.
-/
import Derived.Test.YtflegjieadkonaaGreatDoorPart3
import Derived.Shelf.Sort.Plain
import Derived.Shelf.Slices.In.SortNone
import Derived.Shelf.Slices.In.SortNone2
import Derived.WalkKit
import Derived.Lib.Builder
import Derived.Lib.UnsafeStr
import Derived.Laws.Externs
import Derived.Shelf.RegionOpenPlain
import Derived.KernelRfl
import Derived.Test.YtflegjieadkonaaGreatDoorProg
import Derived.Lib.AppendStr
import Derived.Laws.RangeString
import Derived.Shelf.LaysM
import Derived.Shelf.Strconv.Itoa3
import Derived.Laws.IdiomStrings
import Derived.Laws.BytesArg
import Derived.Lib.ItoaLen
open And renaming intro→VJ
open Array renaming getD_eq_getD_getElem?→VK,getElem?_append_left→WO,getElem?_eq_getElem→Wx,getElem?_eq_some_iff→WV,getElem?_modify→WG,getElem?_push→XK,getElem?_setIfInBounds→Wq,getElem?_toList→W0,size_append→Yd
open Bool renaming and_eq_true→Wc,and_false→XO,eq_false_iff→W2,eq_iff_iff→WK,false_and→XA,false_or→Xr,not_false→Yf,not_true→X6,or_eq_true→Wy,true_and→XU,true_or→Yn
open ByteArray renaming empty→VT,size→YO
open Int renaming ofNat_eq_zero→YU,ofNat_lt→Wz,toNat_natCast→VQ
open List.Pairwise renaming nil→Yt
open List renaming all_eq_true→Wl,any_eq_true→WU,append_assoc→VU,append_nil→WL,cons_append→W7,eq_nil_of_length_eq_zero→Xz,flatMap_cons→WT,foldl_cons→Wm,getD_cons_succ→Xj,getD_eq_getElem?_getD→VP,getElem?_append_left→V9,getElem?_append_right→Wb,getElem?_eq_getElem→VS,getElem?_eq_some_iff→VO,getElem?_map→VV,getElem?_take→WN,getElem?_toArray→Xd,getElem_mem→WI,length_append→VL,length_cons→Wu,length_map→Wr,length_singleton→WM,map_append→VN,map_cons→V6,map_nil→Wv,mem_append→V3,mem_cons→V4,mem_cons_of_mem→V2,mem_cons_self→V8,mem_singleton→VX,nil_append→XJ,not_mem_nil→Yh,range→V5,take_length→Xx,take_of_length_le→VY,take_succ_cons→W4
open Nat renaming add_assoc→Xq,add_zero→XR,beq→Wd,ble→X0,ble_eq_true_of_le→WH,blt→Wg,le_of_ble_eq_true→VI,le_of_not_lt→Ww,le_refl→VZ,le_trans→Wh,lt_irrefl→Yx,lt_or_ge→WW,lt_succ_of_lt→Xs,lt_succ_self→Xo,mul_one→Yv,zero_add→Wn,zero_le→V1,zero_mul→XF
open Option renaming bind_some→Xi,getD_some→W6,map_eq_some_iff→VW,map_some→W1
namespace Go.Proofs.YtflegjieadkonaaGreatDoor
open Go Go.Al
set_option maxRecDepth 10000
section
variable (stp:List ah→Lit→ah×Bool)
def gS (a:List ah×Bool) (l:Lit):List ah×Bool:=if(stp a.1 l).2=true then(eV a.1 (stp a.1 l).1,true) else a
def gR (body:List Lit) (k:List ah):List ah×Bool:=body.foldl (gS stp) (k,false)
def gN (body:List Lit):Nat→List ah→List ah
 |0,k=>k
 |n+1,k=>if(gR stp body k).2=true then gN body n (gR stp body k).1 else(gR stp body k).1
variable {stp}
theorem zU: ∀(body:List Lit) (k:List ah),(body.foldl (gS stp) (k,true)).2=true
 | [],k=>rfl
 |l::r,k=>by
  rw[Wm]
  have: ∃k',gS stp (k,true) l=(k',true):=by
   unfold gS;split
   ·exact⟨_,rfl⟩
   ·exact⟨_,rfl⟩
  obtain⟨k',hk⟩:=this;rw[hk];exact zU r k'
theorem xI: ∀{body:List Lit} {k:List ah},(body.foldl (gS stp) (k,false)).2=false→(body.foldl (gS stp) (k,false)).1=k∧ ∀l∈body,(stp k l).2=false
 | [],k,_=>⟨rfl,by simp⟩
 |l::r,k,h=>by
  rw[Wm] at h ⊢
  cases hs:(stp k l).2 with
  |true=>
   have:gS stp (k,false) l=(eV k (stp k l).1,true):=if_pos hs
   rw[this,zU] at h;cases h
  |false=>
   have:gS stp (k,false) l=(k,false):=if_neg (by rw[hs];simp);rw[this] at h ⊢;obtain⟨h1,h2⟩:=xI h
   exact⟨h1,fun x hx=>by
    rcases V4.1 hx with rfl|hx
    ·exact hs
    ·exact h2 x hx⟩
theorem yR: ∀(body:List Lit) (a:List ah×Bool),∀x∈a.1,x∈(body.foldl (gS stp) a).1
 | [],a,x,h=>h
 |l::r,a,x,h=>by
  rw[Wm];refine yR r _ x ?_;unfold gS;split
  ·exact c6.2 (.inl h)
  ·exact h
theorem Dt {body:List Lit}: ∀(n:Nat) (k:List ah),∀x∈k,x∈gN stp body n k
 |0,k,x,h=>h
 |n+1,k,x,h=>by
  unfold gN;split
  ·exact Dt n _ x (yR body (k,false) x h)
  ·exact yR body (k,false) x h
theorem pH: ∀(body:List Lit) (a:List ah×Bool),te a.1→te (body.foldl (gS stp) a).1
 | [],a,h=>h
 |l::r,a,h=>by
  rw[Wm];refine pH r _ ?_;unfold gS;split
  ·exact n4 h _
  ·exact h
theorem uy {body:List Lit}: ∀(n:Nat) (k:List ah),te k→te (gN stp body n k)
 |0,k,h=>h
 |n+1,k,h=>by
  unfold gN;split
  ·exact uy n _ (pH body (k,false) h)
  ·exact pH body (k,false) h
variable (hnew: ∀(k:List ah) (l:Lit),(stp k l).2=true→(stp k l).1∈ [l.left.var,l.right.var,l.bs]∧(stp k l).1∉k)
include hnew
theorem zT {c:List ah}: ∀{body:List Lit} {a:List ah×Bool},(∀l∈body,∀v∈ [l.left.var,l.right.var,l.bs],v∈c)→
  ck c (body.foldl (gS stp) a).1≤ck c a.1∧((body.foldl (gS stp) a).2=true→a.2=true∨ck c (body.foldl (gS stp) a).1<ck c a.1)
 | [],a,_=>⟨VZ _,fun h=> .inl h⟩
 |l::r,a,hc=>by
  have h1:ck c (gS stp a l).1≤ck c a.1∧((gS stp a l).2=true→a.2=true∨ck c (gS stp a l).1<ck c a.1):=by
   unfold gS;split
   ·rename_i h
    obtain⟨g1,g2⟩:=hnew _ _ h;have:=ow (hc l V8 _ g1) g2;exact⟨by dsimp only;omega,fun _=> .inr this⟩
   ·exact⟨VZ _,fun h=> .inl h⟩
  obtain⟨g1,g2⟩:=zT (body:=r) (a:=gS stp a l) fun l hl=>hc l (V2 _ hl);rw[Wm];refine⟨by omega,fun h=>?_⟩;rcases g2 h with g3|g3
  ·rcases h1.2 g3 with g4|g4
   ·exact .inl g4
   ·exact .inr (by omega)
  ·exact .inr (by omega)
theorem Ds {body:List Lit}: ∀(n:Nat) (k:List ah),ck (bB body) k<n→ ∀l∈body,(stp (gN stp body n k) l).2=false
 |0,k,h,_,_=>by omega
 |n+1,k,h,l,hl=>by
  unfold gN
  cases hr:(gR stp body k).2 with
  |true=>
   rw[if_pos rfl];refine Ds n _ ?_ l hl;obtain⟨_,g2⟩:=zT hnew (c:=bB body) (body:=body) (a:=(k,false)) fun l hl v hv=>uI hl hv;rcases g2 hr with g3|g3
   ·cases g3
   ·unfold gR;dsimp only at g3;omega
  |false=>
   rw[if_neg (by simp)];obtain⟨g1,g2⟩:=xI hr;unfold gR;rw[g1];exact g2 l hl
end
theorem l9 {m1:Expr→Bool} {m2:eZ→Bool} {occ:List ah}: ∀{l:List Lit},(∀x∈l,kS m1 m2 occ x=none)→bJ m1 m2 occ l=none
 | [],_=>rfl
 |y::r,h=>by
  simp only[bJ,h y V8];exact l9 fun x hx=>h x (V2 _ hx)
section
variable {stp:List ah→Lit→ah×Bool} {may:List ah→Expr→Bool} {more:List ah→eZ→Bool} {body:List Lit}
variable (hE: ∀(k:List ah) (l:Lit),kS (may k) (more k) k l=if(stp k l).2=true then some (stp k l).1 else none)
variable (hmay: ∀a b:List ah,(∀x∈a,x∈b)→ ∀e,may a e=true→may b e=true) (hmore: ∀a b:List ah,(∀x∈a,x∈b)→ ∀e,more a e=true→more b e=true)
include hE
theorem IN (k:List ah) (l:Lit) (h:(stp k l).2=true):(stp k l).1∈ [l.left.var,l.right.var,l.bs]∧(stp k l).1∉k:=by
 have:=hE k l;rw[if_pos h] at this;exact rV this
include hmay hmore
theorem Dq {C:List ah} (hC: ∀l∈body,kS (may C) (more C) C l=none): ∀(b:List Lit) (a:List ah×Bool),(∀l∈b,l∈body)→(∀x∈a.1,x∈C)→ ∀x∈(b.foldl (gS stp) a).1,x∈C
 | [],a,_,h,x,hx=>h x hx
 |l::r,a,hb,h,x,hx=>by
  rw[Wm] at hx;refine Dq hC r _ (fun l hl=>hb l (V2 _ hl)) (fun y hy=>?_) x hx;unfold gS at hy;split at hy
  ·rename_i hs
   rcases c6.1 hy with hy|rfl
   ·exact h y hy
   ·have:=hE a.1 l
    rw[if_pos hs] at this;exact zB hmay hmore h this (hC l (hb l V8))
  ·exact h y hy
theorem Dr {C:List ah} (hC: ∀l∈body,kS (may C) (more C) C l=none): ∀(n:Nat) (k:List ah),(∀x∈k,x∈C)→ ∀x∈gN stp body n k,x∈C
 |0,k,h,x,hx=>h x hx
 |n+1,k,h,x,hx=>by
  unfold gN at hx;have hr:=Dq hE hmay hmore hC body (k,false) (fun _ h=>h) h;split at hx
  ·exact Dr hC n _ hr x hx
  ·exact hr x hx
theorem wI {k occ:List ah} (hk: ∀x,x∈k↔x∈occ++body.flatMap bc) (x:ah):x∈gN stp body (3*body.length+1) k↔x∈bK may more body occ:=by
 constructor
 ·refine Dr hE hmay hmore (C:=bK may more body occ) (ma (qy occ)) _ _ (fun y hy=>?_) x
  exact mq _ _ y ((hk y).1 hy)
 ·refine mo hmay hmore (C:=gN stp body (3*body.length+1) k) (l9 fun l hl=>?_) _ _ (fun y hy=>Dt _ _ y ((hk y).2 hy)) x
  have h1:=ox (bB body) k;have h2:=iM body;rw[hE,Ds (IN hE) _ _ (by omega) l hl,if_neg (by simp)]
end
theorem xk {x:ah}: ∀{l:List Lit} {a:List ah},x∈l.foldl AR a↔x∈a∨x∈l.flatMap bc
 | [],a=>by simp
 |t::r,a=>by
  rw[Wm,xk,WT,V3];by_cases hk:t.kind=1
  ·rw[show AR a t=fS a (ku t.atom) from if_pos hk,show bc t=cC t.atom from if_pos hk,qi,vq,or_assoc]
  ·rw[show AR a t=a from if_neg hk,show bc t=[] from if_neg hk];simp
theorem p7: ∀(l:List Lit) (a:List ah),te a→te (l.foldl AR a)
 | [],a,h=>h
 |t::r,a,h=>by
  rw[Wm];refine p7 r _ ?_;unfold AR;split
  ·exact lC h
  ·exact h
theorem CP (k:List ah) (l:Lit):kS (b3 k) (fun _=>false) k l=if(jJ l k).2=true then some (jJ l k).1 else none:=by
 unfold kS;rw[if_neg (c:=l.kind=4∧_) (fun h=>Bool.noConfusion h.2.2)]
 have:(if(fj (b3 k) k l).2=true then some (fj (b3 k) k l).1 else none)=if(jJ l k).2=true then some (jJ l k).1 else none:=by
  unfold fj jJ b3;split
  ·rfl
  ·by_cases a1:l.left.kind=1<;>by_cases a2:l.right.kind=1<;>by_cases a3:l.left.kind=2<;>by_cases a4:l.right.kind=2<;>cases a5:c4 k l.left.var<;>cases a6:c4 k l.right.var<;>simp_all
 exact this
theorem tV (body:List Lit): ∀(n:Nat) (k:List ah),rL body n k=gN (fun k l=>jJ l k) body n k
 |0,k=>rfl
 |n+1,k=>by
  rw[w9,tV body n];rfl
theorem told_plain (r:aw):ec (aG (mW r))=jQ r:=by
 unfold jQ;rw[tV];refine BW (uy _ _ (p7 _ _ Yt)) fun x=>?_;exact(wI (may:=fun occ=>b3 occ) (more:=fun _=>fun _=>false) CP xa (fun _ _ _ _ h=>h) (fun y=>by rw[xk];simp) x).symm
end Go.Proofs.YtflegjieadkonaaGreatDoor
namespace Go.Proofs
open Go.Shelf
def Tryz.xr:Go.Shelf.Ren:=⟨fun|190=>91|125=>122|258=>121|128=>152|129=>153|302=>143|303=>144|304=>145|305=>146|306=>147|307=>148|308=>149|309=>150|310=>151|333=>180|329=>181|330=>182|334=>183|335=>184|336=>185|344=>213|n=>n,fun|31=>53|9=>9|3=>3|46=>179|0=>0|51=>203|53=>205|4=>4|183=>196|182=>195|131=>50|5=>5|218=>233|222=>237|228=>280|229=>281|n=>n,fun|n=>n⟩
theorem Tryz.zF:Go.Proofs.Lays.n190 Tryz.prog Tryz.xr:={
 mixed:=by kernel_rfl
 f125:=Tryz.func122.trans (congrArg some (by kernel_rfl))
 f128:=Tryz.func152.trans (congrArg some (by kernel_rfl))
 f129:=Tryz.func153.trans (congrArg some (by kernel_rfl))
 f190:=Tryz.func91.trans (congrArg some (by kernel_rfl))
 f258:=Tryz.func121.trans (congrArg some (by kernel_rfl))
 f302:=Tryz.func143.trans (congrArg some (by kernel_rfl))
 f303:=Tryz.func144.trans (congrArg some (by kernel_rfl))
 f304:=Tryz.func145.trans (congrArg some (by kernel_rfl))
 f305:=Tryz.func146.trans (congrArg some (by kernel_rfl))
 f306:=Tryz.func147.trans (congrArg some (by kernel_rfl))
 f307:=Tryz.func148.trans (congrArg some (by kernel_rfl))
 f308:=Tryz.func149.trans (congrArg some (by kernel_rfl))
 f309:=Tryz.func150.trans (congrArg some (by kernel_rfl))
 f310:=Tryz.func151.trans (congrArg some (by kernel_rfl))
 f329:=Tryz.func181.trans (congrArg some (by kernel_rfl))
 f330:=Tryz.func182.trans (congrArg some (by kernel_rfl))
 f333:=Tryz.func180.trans (congrArg some (by kernel_rfl))
 f334:=Tryz.func183.trans (congrArg some (by kernel_rfl))
 f335:=Tryz.func184.trans (congrArg some (by kernel_rfl))
 f336:=Tryz.func185.trans (congrArg some (by kernel_rfl))
 f344:=Tryz.func213.trans (congrArg some (by kernel_rfl))
 t0:=Tryz.underlying0
 a0:=Tryz.isAgg0
 z0:=Tryz.sizeOf0
 v0:=Tryz.zeroValue0
 t3:=Tryz.underlying3
 a3:=Tryz.isAgg3
 z3:=Tryz.sizeOf3
 v3:=Tryz.zeroValue3
 t4:=Tryz.underlying4
 a4:=Tryz.isAgg4
 z4:=Tryz.sizeOf4
 v4:=Tryz.zeroValue4
 t5:=Tryz.underlying5
 a5:=Tryz.isAgg5
 z5:=Tryz.sizeOf5
 v5:=Tryz.zeroValue5
 t9:=Tryz.underlying9
 a9:=Tryz.isAgg9
 z9:=Tryz.sizeOf9
 v9:=Tryz.zeroValue9
 t31:=Tryz.underlying53
 a31:=Tryz.isAgg53
 z31:=Tryz.sizeOf53
 v31:=Tryz.zeroValue53
 t46:=Tryz.underlying179
 a46:=Tryz.isAgg179
 z46:=Tryz.sizeOf179
 v46:=Tryz.zeroValue179
 t51:=Tryz.underlying203
 a51:=Tryz.isAgg203
 z51:=Tryz.sizeOf203
 v51:=Tryz.zeroValue203
 t53:=Tryz.underlying205
 a53:=Tryz.isAgg205
 z53:=Tryz.sizeOf205
 v53:=Tryz.zeroValue205
 t131:=Tryz.underlying50
 a131:=Tryz.isAgg50
 z131:=Tryz.sizeOf50
 v131:=Tryz.zeroValue50
 t182:=Tryz.underlying195
 a182:=Tryz.isAgg195
 z182:=Tryz.sizeOf195
 v182:=Tryz.zeroValue195
 t183:=Tryz.underlying196
 a183:=Tryz.isAgg196
 z183:=Tryz.sizeOf196
 v183:=Tryz.zeroValue196
 t218:=Tryz.underlying233
 a218:=Tryz.isAgg233
 z218:=Tryz.sizeOf233
 v218:=Tryz.zeroValue233
 t222:=Tryz.underlying237
 a222:=Tryz.isAgg237
 z222:=Tryz.sizeOf237
 v222:=Tryz.zeroValue237
 t228:=Tryz.underlying280
 a228:=Tryz.isAgg280
 z228:=Tryz.sizeOf280
 v228:=Tryz.zeroValue280
 t229:=Tryz.underlying281
 a229:=Tryz.isAgg281
 z229:=Tryz.sizeOf281
 v229:=Tryz.zeroValue281}
theorem YtflegjieadkonaaGreatDoor.ON:YtflegjieadkonaaGreatDoor.dD:=
 ⟨fun aH off cap ss w hH hblk hsz=>Any.slices_Sort_string Tryz.zF aH off cap ss w hH hblk hsz,fun p cap w=>Any.slices_Sort_string_none Tryz.zF p cap w⟩
end Go.Proofs
namespace Go.Proofs.YtflegjieadkonaaGreatDoor
open Go Go.Al
set_option maxRecDepth 10000
theorem gZ {α:Type} [Inhabited α] {f:α→List IV} (h: ∀x,gB ((f x).map .iv)=true) (l:List α):allOnes ((V5 l.length).map fun k=>(f (l.getD k default)).map PV.iv)=true:=by rw[u1];exact qA h l
def Prog.size (p:Prog):Nat:=p.aS.length+(p.aS.map fun d=>d.types.length).sum+p.rules.length+(p.rules.map aw.size).sum
theorem wO {α:Type} (i sz n sz':Nat) (l:List α) (f:α→List IV):(a7 sz' l f).oq i sz n:=by
 intro k e j p he hp;rw[VV,VW] at he;obtain⟨x,_,rfl⟩:=he;rw[VV,VW] at hp;obtain⟨y,_,rfl⟩:=hp;exact⟨y,rfl⟩
theorem Vj (r:aw) (hb:r.size≤10000000):Pure Tryz.prog 98 [ag r.c] (.iv (strs (jQ r))):=told_plain r▸c33 ON r hb
end Go.Proofs.YtflegjieadkonaaGreatDoor
namespace Go.Proofs.YtflegjieadkonaaGreatDoor
open Go
set_option maxHeartbeats 2000000
set_option maxRecDepth 100000
theorem zL: ∃j,Tryz.prog.info? 245=some j∧j.size=2:=by
 have h:(Tryz.prog.info? 245).map (fun i=>i.size)=some 2:=by kernel_rfl
 rw[VW] at h;exact h
theorem JF:liesAt Tryz.prog Tryz.prog.depth 247 (4/Tryz.prog.cellsOf 247) 0 245 1=true:=by kernel_rfl
theorem J4 (b:Nat) (w:World) (h0:w.cell? ⟨b,0,none⟩=some (.pointer (some ⟨b,0,none⟩))):
  Calls Tryz.prog 260 #[.pointer (some ⟨b,0,none⟩)] w fun e w'=>e= .returned (.tuple #[])∧w'=w:=by
 obtain⟨j,hj,_⟩:=zL
 go_enter Tryz.func260,Tryz.ntmps260
 go_wp2
 rw[Lib.run_neq_ptr_same w _ Tryz.underlying242 hj]
 go_wp2
 go_end0
 exact⟨rfl,rfl⟩
theorem D0 (b:Nat) (w:World) (h0:w.cell? ⟨b,0,none⟩=some (.pointer none)) (hsh:w.shape? b=some (247,4)) (hfz:w.frozen? ⟨b,0,none⟩=false):
  Calls Tryz.prog 260 #[.pointer (some ⟨b,0,none⟩)] w fun e w'=>e= .returned (.tuple #[])∧w'=w.setCell ⟨b,0,none⟩ (.pointer (some ⟨b,0,none⟩)):=by
 obtain⟨j,hj,hjs⟩:=zL
 go_enter Tryz.func260,Tryz.ntmps260
 go_wp2
 rw[Lib.run_to_unsafe w ⟨b,0,none⟩ Tryz.underlying242 Tryz.underlying327 hj (by rw[hjs];decide) hsh (by show 0<4;decide)];simp only[Result.andThen];rw[Oper.upon_value]
 go_wp2
 rw[run_callFunc_extern Tryz.func272 (by kernel_rfl) (by kernel_rfl) (by kernel_rfl) (e:=Extern.AbiNoEscape.same) (by kernel_rfl)];rw[Lib.run_noEscape];simp only[Result.andThen];rw[Oper.upon_value]
 go_wp2
 rw[Lib.run_from_unsafe w ⟨b,0,none⟩ Tryz.underlying327 Tryz.underlying242 hj hsh JF];simp only[Result.andThen];rw[Oper.upon_value]
 go_wp2
 go_end0
 exact⟨rfl,rfl⟩
theorem RU:Tryz.prog.cellsOf 5=1:=by kernel_rfl
theorem J7 (b g cap:Nat) (p x y:Value) (cur:Array Value) (l:List UInt8) (w:World) (hbk:w.heap[b]? =some (.cells #[p, .slice (some ⟨g,0,none⟩) l.length cap,x,y] 247 (0,0))) (hg:w.heap[g]? =some (.cells cur 5 (0,0)))
  (hl:l.length≤cur.size) (hcap:l.length≤cap) (hc2:cap≤maxLen) (hcur: ∀(j:Nat) (x:UInt8),l[j]? =some x→cur.getD j undef= .int .u8 (x.toNat:Int)) (h0:l≠ []):
  Calls Tryz.prog 220 #[.pointer (some ⟨b,0,none⟩)] w fun e w'=>e= .returned (.string ⟨l.toArray⟩)∧w'=w.drew.freeze ⟨g,0,none⟩ l.length:=by
 have hl0:l.length≠0:=by simpa using h0
 have c1:w.drew.cell? ⟨b,1,none⟩=some (.slice (some ⟨g,0,none⟩) l.length cap):=by
  have:w.drew.heap[b]? =some (.cells #[p, .slice (some ⟨g,0,none⟩) l.length cap,x,y] 247 (0,0)):=hbk;rw[Lib.cell_of_heap this];rfl
 have hSD:(Builtin.unsafeSliceData_ #[243] 306 #[.slice (some ⟨g,0,none⟩) l.length cap]).run Tryz.prog w.drew= .ok (.pointer (some ⟨g,0,none⟩)) w.drew:=
  Lib.run_unsafeSliceData_row _ _ _ _ _ _ (by omega)
 have hUS:(Builtin.unsafeString_ #[306,3] 9 #[.pointer (some ⟨g,0,none⟩), .int .i64 l.length]).run Tryz.prog w.drew= .ok (.string ⟨l.toArray⟩) (w.drew.freeze ⟨g,0,none⟩ l.length):=by
  refine Lib.run_unsafeString_row w.drew 306 3 9 5 Tryz.underlying306 RU g cur.size (by have hg':w.drew.heap[g]? =some (.cells cur 5 (0,0)):=hg;simp[World.shape?,hg']) l h0 (by omega) (by unfold maxLen at hc2;omega) ?_;intro j x hx;have hlt:j<cur.size:=by have:=(VO.1 hx).1;omega
  have:=hcur j x hx;rw[VK,Wx hlt] at this;show w.drew.cell? _=_;have hg':w.drew.heap[g]? =some (.cells cur 5 (0,0)):=hg;rw[Al.eO,Wn];simp only[World.cell?,hg'];simpa[hlt] using this
 have mixed:Tryz.prog.follows .mixedOrders=true:=rfl
 go_enter Tryz.func220,Tryz.ntmps220
 go_wp2
 go_region_o
 all_goals(go_wp2;go_ret;exact⟨rfl,rfl⟩)
theorem RV (b:Nat) (p x y:Value) (w:World) (hbk:w.heap[b]? =some (.cells #[p, .slice none 0 0,x,y] 247 (0,0))):
  Calls Tryz.prog 220 #[.pointer (some ⟨b,0,none⟩)] w fun e w'=>e= .returned (.string ⟨#[]⟩)∧w'=w.drew:=by
 have hUS:(W:World)→(Builtin.unsafeString_ #[306,3] 9 #[.pointer none, .int .i64 0]).run Tryz.prog W= .ok (.string .empty) W:=fun W=>Lib.run_unsafeString_none W _ _ _ none
 have c1:w.drew.cell? ⟨b,1,none⟩=some (.slice none 0 0):=by
  have:w.drew.heap[b]? =some (.cells #[p, .slice none 0 0,x,y] 247 (0,0)):=hbk;rw[Lib.cell_of_heap this];rfl
 have hSD:(Builtin.unsafeSliceData_ #[243] 306 #[.slice none 0 0]).run Tryz.prog w.drew= .ok (.pointer none) w.drew:=rfl;have mixed:Tryz.prog.follows .mixedOrders=true:=rfl
 go_enter Tryz.func220,Tryz.ntmps220
 go_wp2
 go_region_o
 all_goals(go_wp2;go_ret;exact⟨rfl,rfl⟩)
end Go.Proofs.YtflegjieadkonaaGreatDoor
namespace Go.Al
section
variable {P:Program} {ty:Ty} {nt:Nat} {s:AS} {Q:AQ} {k:List KI}
def sR (c:UInt8):List IV:=[.v (.int .u8 (c.toNat:Int))]
theorem o9 (w:World) (t u ty' e:TypeId) (i:TypeInfo) (ht:P.underlying t=some (.slice e)) (hu:P.underlying u=some .string) (hi:P.info? e=some i) (hs1:i.size=1) (T:TypeId)
  (g sLen sCap:Nat) (cur:Array Value) (hg:w.heap[g]? =some (.cells cur T (0,0))) (b:ByteArray)
  (hroom:sLen+b.size≤sCap) (hfit:sLen+b.size≤cur.size):
  (Builtin.append_ #[t,u] ty' #[.slice (some ⟨g,0,none⟩) sLen sCap, .string b]).run P w=
   .ok (.slice (some ⟨g,0,none⟩) (sLen+b.size) sCap) (w.setRow g (cur.toList.take sLen++Lib.strCells b++cur.toList.drop (sLen+b.size)).toArray):=by
 have hf:=Lib.run_firstCells_string (P:=P) w 1 b;have hst:=run_storeCells_at P g sLen T (Lib.strCells b) 0 cur w hg (by simpa[Lib.strCells_length] using hfit) (Lib.strCells_oneCell b);simp only[XR,Lib.strCells_length] at hst;simp[Builtin.append_,run_underlying ht,run_underlying hu,sizeOf,typeInfo,hi,hs1,Builtin.lenOf,hroom,hf,Addr.add_lit,hst]
theorem j4 (w:World) (t u ty' e:TypeId) (i:TypeInfo) (ht:P.underlying t=some (.slice e)) (hu:P.underlying u=some .string) (hi:P.info? e=some i) (so:Option Addr) (sLen sCap:Nat) (hle:sLen≤sCap) (b:ByteArray) (hb:b.size=0) (hs:so=none∨ ∃b o,so=some ⟨b,o,none⟩):
  (Builtin.append_ #[t,u] ty' #[.slice so sLen sCap, .string b]).run P w= .ok (.slice so sLen sCap) w:=by
 have hf:=Lib.run_firstCells_string (P:=P) w i.size b;have hn:Lib.strCells b=[]:=Xz (by rw[Lib.strCells_length];exact hb);rw[hb,hn] at hf;rcases hs with rfl|⟨g,o,rfl⟩
 ·simp[Builtin.append_,run_underlying ht,run_underlying hu,sizeOf,typeInfo,hi,Builtin.lenOf,hb,hle,hf]
 ·simp[Builtin.append_,run_underlying ht,run_underlying hu,sizeOf,typeInfo,hi,Builtin.lenOf,hb,hle,hf,storeCells]
def qD (s:AS) (i:Nat) (l:List UInt8) (u:TypeId):AS:=⟨s.f,(s.nx,some (.bx l u))::(i,none)::s.h,s.nx+1⟩
theorem ob {i:Nat} {l:List UInt8} {u:TypeId} {M M':Mem} {N N':Nm} {a:Act} {w w':World} (hf:Fits M N s nt a w) (hx:Ext M N (· <s.nx) s.h w M' N' (· <s.nx+1) ((s.nx,some (.bx l u))::(i,none)::s.h) w')
  (hr:Rel M' N' (· <s.nx+1) ((s.nx,some (.bx l u))::(i,none)::s.h) w'):
  Ext M N (· <s.nx) s.h w M' N' (· <(qD s i l u).nx) (qD s i l u).h w'∧Fits M' N' (qD s i l u) nt a w':=
 ⟨hx,hr,hf.2.1.ext hx,hf.2.2⟩
theorem Rel.Kn {M:Mem} {N:Nm} {w:World} {n:Nat} {h:AH} (hr:Rel M N (· <n) h w) (T:TypeId):Ext M N (· <n) h w M N (· <n+1) ((n,some (.bx [] T))::h) w∧Rel M N (· <n+1) ((n,some (.bx [] T))::h) w:=by
 have hget: ∀i p,AH.get ((n,some (.bx [] T))::h) i=some p→(i=n∧p= .bx [] T)∨(i<n∧h.get i=some p):=by
  intro i p hi;rw[AH.ay] at hi;split at hi
  ·rename_i hin;exact .inl ⟨hin,by simpa using hi.symm⟩
  ·exact .inr ⟨hr.used i p hi,hi⟩
 refine⟨⟨rfl,rfl,rfl,VZ _,fun _ _ _=>rfl, .refl _,fun b c h1 h2=>by simp[h1] at h2, .refl _ _,fun i hi=>by omega,fun i p hi hre=>?_⟩,⟨hr.du,fun i p hi=>?_,fun i p hi hre=>?_,fun i p hi=>?_,fun i j p q hi hj hp hq hij=>?_⟩⟩
 ·rcases hget i p hi with⟨rfl,rfl⟩|⟨h1,h2⟩
  ·cases hre
  ·exact .inr ⟨i,p,h2,hre,rfl⟩
 ·rcases hget i p hi with⟨rfl,rfl⟩|⟨h1,h2⟩<;>omega
 ·rcases hget i p hi with⟨rfl,rfl⟩|⟨h1,h2⟩
  ·cases hre
  ·exact hr.dz i p h2 hre
 ·rcases hget i p hi with⟨rfl,rfl⟩|⟨h1,h2⟩
  ·exact .inl rfl
  ·exact(hr.obj i p h2).mono (.refl _) (.refl _ _) (fun i hi=>by omega) h1 rfl
 ·rcases hget i p hi with⟨rfl,rfl⟩|⟨h1,h2⟩<;>rcases hget j q hj with⟨rfl,rfl⟩|⟨h3,h4⟩
  ·rfl
  ·cases hp
  ·cases hq
  ·exact hr.inj i j p q h2 h4 hp hq hij
theorem IY (hty:bP P ty) {o:Oper} {x y:Operand} {t tu u:TypeId} (ho:o.op= .call ⟨.builtin .append, #[x,y], #[t,tu]⟩) {e et eu:aA} (ht:ty t=some e) (hk:e.k= .ai (.slice u)) (htu:ty tu=some et) (hkt:et.k= .ai .string) (hu:ty u=some eu)
  {i len:Nat} {l:List UInt8} {b:ByteArray} (hx:ev s.f x= .sl i 0 len 1) (hi:s.h.get i=some (.bx l u)) (hlen:l.length=len) (hsz:eu.size=1) (hby:eu.bytes=1) (hz:eu.zero= .int .u8 0)
  (hpy:ev s.f y= .iv (.v (.string b))) (hb2:len+b.size≤140737488355328)
  {s':AS} (hp:putDst nt o (.sl s.nx 0 (len+b.size) 1) (qD s i (l++b.data.toList) u)=some s'):OT P nt o s (fun t=>t=s'):=by
 refine OT.value hp fun M N a w hf=>?_;obtain⟨⟨ii,hii,his,hib,hiz⟩,_⟩:=hty u _ hu;rw[hsz] at his;rw[hby] at hib;rw[hz] at hiz
 have hut:P.underlying t=some (.slice u):=by
  have:=(hty t _ ht).2.1;rw[hk] at this;exact this.1
 have hus:P.underlying tu=some .string:=by
  have:=(hty tu _ htu).2.1;rw[hkt] at this;exact this.1
 have hvx:=aV hf.2.1 x;rw[hx] at hvx;have hvy:=aV hf.2.1 y;rw[hpy] at hvy
 have hyv:a.eval y= .string b:=by
  generalize a.eval y=v at hvy
  cases hvy with
  |iv _ _ h=>cases h;rfl
 have hexec: ∀v w',(Builtin.append_ #[t,tu] o.type #[a.eval x,a.eval y]).run P w= .ok v w'→(execOp a.eval o).run P w= .ok (.value v) w':=by
  intro v w' h;simp only[execOp,ho,resolve];simp[invoke,builtin,h]
 rw[hyv] at hexec;have hin:i<s.nx:=hf.1.used i _ hi;have hne:s.nx≠i:=by omega
 have hor:=hf.1.obj i _ hi;have hbl:b.data.toList.length=b.size:=by simp
 have hcells: ∀(j:Nat) (x:UInt8),b.data.toList[j]? =some x→(Lib.strCells b).getD j undef= .int .u8 (x.toNat:Int):=by
  intro j x hx;simp only[Lib.strCells,VP,VV,hx,W1,W6]
 have holds: ∀z:Array Value,(∀(j:Nat) (x:UInt8),l[j]? =some x→z.getD j undef= .int .u8 (x.toNat:Int))→(∀j,j<b.size→z.getD (len+j) undef=(Lib.strCells b).getD j undef)→
   ∀(j:Nat) (x:UInt8),(l++b.data.toList)[j]? =some x→z.getD j undef= .int .u8 (x.toNat:Int):=by
  intro z h1 h2 j x hj;rcases WW j l.length with hk|hk
  ·rw[V9 hk] at hj;exact h1 j x hj
  ·rw[Wb hk] at hj
   have hlt:j-l.length<b.size:=by rw[←hbl];exact(VO.1 hj).1
   have:=h2 _ hlt;rw[hcells _ _ hj,show len+(j-l.length)=j by omega] at this;exact this
 have fresh: ∀(olds:List Value) (cap:Nat),olds.length=len→(∀(j:Nat) (x:UInt8),l[j]? =some x→olds.getD j undef= .int .u8 (x.toNat:Int))→len+b.size≤cap→cap≤maxLen→0<len+b.size→
   ∀z:Array Value,z=olds.toArray++(Lib.strCells b).toArray++Builtin.zeroCells (Value.int .u8 0).cells (cap-(len+b.size))→
   ∃M' N',Ext M N (· <s.nx) s.h w M' N' (· <(qD s i (l++b.data.toList) u).nx) (qD s i (l++b.data.toList) u).h (w.drew.alloc (.cells z u))∧Fits M' N' (qD s i (l++b.data.toList) u) nt a (w.drew.alloc (.cells z u))∧
    VR M' N' (· <(qD s i (l++b.data.toList) u).nx) (.sl s.nx 0 (len+b.size) 1) (.slice (some ⟨w.heap.size,0,none⟩) (len+b.size) cap):=by
  intro olds cap hol hvo hcap hcm hpos z hzz;have hz1:(Value.int IntKind.u8 0).cells.size=1:=rfl
  have hzsize:z.size=cap:=by
   rw[hzz,Yd,Yd,size_zeroCells,hz1];simp only[List.size_toArray,hol,Lib.strCells_length];omega
  obtain⟨N',h1,h2,h3,h4,h5⟩:=hf.1.drew.alloc (.cells z u) (.bx (l++b.data.toList) u) z.size (fun N' g1 g2 g3=>by
   refine .inr ⟨z,by rw[g1];exact heap_alloc_new _ _,g2.symm,by rw[hzsize,VL,hlen,hbl];omega,holds z (fun j x hj=>?_) (fun j hj=>?_)⟩
   ·have hj1:=(VO.1 hj).1
    have e1:z.getD j undef=olds.getD j undef:=by
     rw[hzz,VK,Array.append_assoc,WO (by simp;omega),VP];simp
    rw[e1];exact hvo j x hj
   ·rw[hzz,VK,WO (by simp[Lib.strCells_length];omega),Array.getElem?_append_right (by simp;omega),VP]
    simp[hol])
  have hr2:=(h5.del i).swap (Ne.symm hne);have hx2:=(((Ext.drew (M:=M) (N:=N) (U:=(· <s.nx)) (h:=s.h) (w:=w)).trans h4).del i).swap (Ne.symm hne);obtain⟨g1,g2⟩:=ob hf hx2 hr2;refine⟨M,N',g1,g2,?_⟩;have:=VR.sl (M:=M) (N:=N') (U:=(· <s.nx+1)) s.nx 0 (len+b.size) 1 cap (by omega) hpos hcap hcm (by rw[h2,hzsize];simp);rw[h1,XF] at this;exact this
 generalize a.eval x=vx at hvx hexec
 cases hvx with
 |mD _ _ hU=>
  have he:l=[]:=Xz hlen;subst he;by_cases hm:b.size=0
  ·have hbn:b.data.toList=[]:=Xz (by rw[hbl];exact hm)
   have hrun:=j4 (P:=P) w t tu o.type u ii hut hus hii none 0 0 (VZ _) b hm (.inl rfl);obtain⟨h1,h2⟩:=hf.1.Kn u;obtain⟨g1,g2⟩:=ob (i:=i) (l:=[]) (u:=u) hf ((h1.del i).swap (Ne.symm hne)) ((h2.del i).swap (Ne.symm hne));rw[hbn,hm];exact⟨_,w,M,N,hexec _ _ hrun,g1,g2, .mD _ _ (by simp only[qD];omega)⟩
  ·have hrun:=run_append_nil_string (P:=P) w t tu o.type u ii (.int .u8 0) hut hus hii hiz b (by omega) (by omega) (by rw[hib];omega)
   have e1:(b.data.map fun b=>Value.int .u8 b.toNat)=(Lib.strCells b).toArray:=by
    apply Array.ext';simp[Lib.strCells]
   rw[e1] at hrun;obtain⟨M',N',g1,g2,g3⟩:=fresh [] (grownCap w b.size 0 u) rfl (by simp) (by simpa using grownCap_ge w b.size 0 u) (grownCap_le_maxLen w _ _ _ (by simp only[maxLen];omega)) (by omega) _ rfl;simp only[Wn,XJ,Array.empty_append] at*
   exact⟨_,_,M',N',hexec _ _ hrun,by simpa using g1,by simpa using g2,by simpa using g3⟩
 |sl _ _ _ _ cap hU h0 hl hc hext=>
  rcases hor with rfl|⟨cur,q1,q2,q3,q4⟩
  ·simp at hlen;omega
  have hreal:(AO.bx l u).real=true:=by cases l with
   |nil=>simp at hlen;omega
   |cons=>rfl
  rw[XF] at hexec;have hcur:cur.size=cap:=by rw[q2,←hext];omega
  by_cases hm:b.size=0
  ·have hbn:b.data.toList=[]:=Xz (by rw[hbl];exact hm)
   have hrun:=j4 (P:=P) w t tu o.type u ii hut hus hii (some ⟨N.aH i,0,none⟩) len cap hl b hm (.inr ⟨_,_,rfl⟩)
   obtain⟨h1,h2⟩:=hf.1.move hi hreal w (.bx (l++ []) u) rfl rfl rfl rfl (fun _ _=>rfl) (by
    rw[WL]
    exact .inr ⟨cur,by simpa using q1,by simpa using q2,q3,q4⟩)
   obtain⟨g1,g2⟩:=ob (i:=i) hf h1 h2;rw[hbn,hm];refine⟨_,w,M,_,hexec _ _ hrun,g1,g2,?_⟩;have:=VR.sl (M:=M) (N:=N.with s.nx (N.aH i) (N.ext i)) (U:=(· <s.nx+1)) s.nx 0 len 1 cap (by omega) h0 hl hc (by simpa using hext);simpa[qD] using this
  ·by_cases hroom:len+b.size≤cap
   ·have hrun:=o9 (P:=P) w t tu o.type u ii hut hus hii his u (N.aH i) len cap cur q1 b hroom (by omega)
    generalize hL:(cur.toList.take len++Lib.strCells b++cur.toList.drop (len+b.size)).toArray=L at hrun;have hLs:L.size=cur.size:=by rw[←hL];simp[Lib.strCells_length];omega
    have hrow:=setRow_heap w (N.aH i) cur L u (0,0) q1
    have hLo: ∀j,j<len→L.getD j undef=cur.getD j undef:=by
     intro j hj;rw[←hL,VK,VK];simp only[Xd];rw[VU,V9 (by simp;omega),WN,if_pos hj,W0]
    have hLn: ∀j,j<b.size→L.getD (len+j) undef=(Lib.strCells b).getD j undef:=by
     intro j hj;rw[←hL,VK,VP];simp only[Xd];rw[V9 (by simp[Lib.strCells_length];omega),Wb (by simp;omega)];congr 2;simp;omega
    obtain⟨h1,h2⟩:=hf.1.move hi hreal (w.setRow (N.aH i) L) (.bx (l++b.data.toList) u) rfl rfl rfl (by simp) (fun b hb=>by
      simp only[World.setRow,WG]
      rw[if_neg (fun e=>hb e.symm)]) (by
     refine .inr ⟨L,by simpa using hrow,by rw[hLs];simpa using q2,by rw[hLs,hcur,VL,hlen,hbl];omega,holds L (fun j x hj=>?_) hLn⟩;rw[hLo j (by rw[←hlen];exact(VO.1 hj).1)]
     exact q4 j x hj)
    obtain⟨g1,g2⟩:=ob (i:=i) hf h1 h2;refine⟨_,_,M,_,hexec _ _ hrun,g1,g2,?_⟩;have:=VR.sl (M:=M) (N:=N.with s.nx (N.aH i) (N.ext i)) (U:=(· <s.nx+1)) s.nx 0 (len+b.size) 1 cap (by omega) (by omega) hroom hc (by simpa using hext);simpa[qD] using this
   ·have hold2: ∀(j:Nat) (v:Value),(cur.toList.take len)[j]? =some v→w.cell? ((⟨N.aH i,0,none⟩:Addr).add j)=some v:=by
     intro j v hv;rw[WN] at hv;split at hv
     ·rw[eO,Wn];simp only[World.cell?,q1];simpa using hv
     ·cases hv
    have hrun:=Lib.run_append_grow_string (P:=P) w t tu o.type u ii (.int .u8 0) hut hus hii hiz ⟨N.aH i,0,none⟩ len cap (cur.toList.take len) (by rw[his];simp;omega) hold2 b (by omega) (by omega)
     (by rw[hib];exact growslice_fits (by omega) (by omega))
    obtain⟨M',N',g1,g2,g3⟩:=fresh (cur.toList.take len) (grownCap w (len+b.size) cap u) (by simp;omega) (fun j x hj=>by
      have:=q4 j x hj;have hlt:j<len:=by rw[←hlen];exact(VO.1 hj).1
      rw[VP,WN,if_pos hlt,W0]
      rw[VK] at this;exact this) (grownCap_ge w _ _ _) (grownCap_le_maxLen w _ _ _ (by simp only[maxLen];omega)) (by omega) _ rfl
    exact⟨_,_,M',N',hexec _ _ hrun,g1,g2,g3⟩
theorem JK (hty:bP P ty) {all rest:List Oper} {o:Oper} {x y:Operand} {t tu u d:Nat} {e et eu:aA} {i len:Nat} {l:List UInt8} {b:ByteArray} (ho:o.op= .call ⟨.builtin .append, #[x,y], #[t,tu]⟩) (hg:o.guard=none) (ht:ty t=some e) (hk:e.k= .ai (.slice u)) (htu:ty tu=some et) (hkt:et.k= .ai .string) (hu:ty u=some eu)
  (hx:ev s.f x= .sl i 0 len 1) (hi:s.h.get i=some (.bx l u)) (hsz:eu.size=1) (hby:eu.bytes=1) (hz:eu.zero= .int .u8 0)
  (hpy:ev s.f y= .iv (.v (.string b))) (hd:o.dst=some d) (hlt:Wg d nt=true) (hlen:l.length=len) (hb2:len+b.size≤140737488355328)
  (h:GO P nt (.ops all rest::k) Q ⟨(d, .sl s.nx 0 (l++b.data.toList).length 1)::s.f,(s.nx,some (.bx (l++b.data.toList) u))::(i,none)::s.h,s.nx+1⟩):GO P nt (.ops all (o::rest)::k) Q s:=by
 have e:(l++b.data.toList).length=len+b.size:=by rw[VL,hlen];simp
 rw[e] at h
 exact dH hg (IY hty ho ht hk htu hkt hu hx hi hlen hsz hby hz hpy hb2 (s':=⟨(d, .sl s.nx 0 (len+b.size) 1)::s.f,(s.nx,some (.bx (l++b.data.toList) u))::(i,none)::s.h,s.nx+1⟩) (by
  simp only[putDst,qD,hd,hlt,cond_true,c7])) fun t ht=>by subst ht;exact h
theorem Cc {o:Oper} {it:Operand} (ho:o.op= .next it true) {i:Nat} (hit:ev s.f it= .ptr i 0) {b:ByteArray} {pos:Nat} (hi:s.h.get i=some (.dt b pos)) {d:Nat} (hd:o.dst=some d) (hlt:Wg d nt=true):
  OT P nt o s (fun t=>(b.size≤pos∧t=⟨(d, .bM [.kb false])::s.f,s.h,s.nx⟩)∨
   (pos<b.size∧t=⟨(d, .bM [.kb true, .iv (.v (.int .i64 (pos:Nat))), .iv (.v (.int .i32 (Utf8.decode b pos).1))])::s.f,(i,some (.dt b (pos+(Utf8.decode b pos).2)))::s.h,s.nx⟩)):=by
 intro M N a w hf K Z hk;have hx:=aV hf.2.1 it;rw[hit] at hx;have hio:w.heap[N.aH i]? =some (.stringIter b pos):=hf.1.obj i _ hi;have hblk:N.aH i<w.heap.size:=(WV.1 hio).1;have hdn:d<nt:=VI hlt
 have hev:a.eval it= .pointer (some ⟨N.aH i,0,none⟩):=by
  generalize a.eval it=y at hx;cases hx;rfl
 unfold Oper.wp;by_cases hp:pos<b.size
 ·have hrun:(execOp a.eval o).run P w= .ok (.value (.tuple #[.bool true, .int .i64 (pos:Nat), .int .i32 (Utf8.decode b pos).1])) {w with heap:=w.heap.setIfInBounds (N.aH i) (.stringIter b (pos+(Utf8.decode b pos).2))}:=by
   simp only[execOp,ho,hev];simp[Instr.next,getObj,setObj,Sem.run,hio,hp,Result.andThen,goInt]
  rw[hrun];simp only[Oper.upon]
  obtain⟨q1,q2⟩:=hf.1.write hi rfl {w with heap:=w.heap.setIfInBounds (N.aH i) (.stringIter b (pos+(Utf8.decode b pos).2))} (.dt b (pos+(Utf8.decode b pos).2)) rfl rfl rfl (by simp) (fun c hc=>by
   show(w.heap.setIfInBounds _ _)[c]? =_
   rw[Wq,if_neg (fun e=>hc e.symm)]) (by
   show(w.heap.setIfInBounds _ _)[_]? =_
   rw[Wq,if_pos rfl,if_pos hblk])
  refine hk M N _ _ _ q1 ?_ (.inr ⟨hp,rfl⟩);rw[hd];refine Fits.put (s:=⟨s.f,(i,some (.dt b (pos+(Utf8.decode b pos).2)))::s.h,s.nx⟩) ⟨q2,hf.2⟩ d _ _ hdn (.bM _ _ rfl fun q p hp=>?_)
  match q with
  |0=>simp at hp;subst hp;exact .kb _
  |1=>simp at hp;subst hp;exact .iv _ _ (.v _)
  |2=>simp at hp;subst hp;exact .iv _ _ (.v _)
  |q+3=>simp at hp
 ·have hrun:(execOp a.eval o).run P w= .ok (.value (.tuple #[.bool false])) w:=by
   simp only[execOp,ho,hev];simp[Instr.next,getObj,Sem.run,hio,hp,Result.andThen]
  rw[hrun];simp only[Oper.upon];refine hk M N ⟨(d, .bM [.kb false])::s.f,s.h,s.nx⟩ _ w (.refl _ _ _ _ _) ?_ (.inl ⟨by omega,rfl⟩);rw[hd]
  exact hf.put d _ _ hdn (.bM _ _ rfl fun j p hp=>by
    match j with
    |0=>simp at hp;subst hp;exact .kb _
    |j+1=>simp at hp)
theorem km {all rest:List Oper} {o:Oper} {it:Operand} {i:Nat} {b:ByteArray} {pos d:Nat} (ho:o.op= .next it true) (hg:o.guard=none) (hit:ev s.f it= .ptr i 0) (hi:s.h.get i=some (.dt b pos)) (hd:o.dst=some d) (hlt:Wg d nt=true)
  (h1:b.size≤pos→GO P nt (.ops all rest::k) Q ⟨(d, .bM [.kb false])::s.f,s.h,s.nx⟩)
  (h2:pos<b.size→GO P nt (.ops all rest::k) Q ⟨(d, .bM [.kb true, .iv (.v (.int .i64 (pos:Nat))), .iv (.v (.int .i32 (Utf8.decode b pos).1))])::s.f,(i,some (.dt b (pos+(Utf8.decode b pos).2)))::s.h,s.nx⟩):
  GO P nt (.ops all (o::rest)::k) Q s:=by
 refine dH hg (Cc ho hit hi hd hlt) fun t ht=>?_;rcases ht with⟨g1,rfl⟩|⟨g1,rfl⟩
 ·exact h1 g1
 ·exact h2 g1
theorem ux (hty:bP P ty) {all rest:List Oper} {o:Oper} {x:Operand} {t d:Nat} {b:ByteArray} {e:aA} (ho:o.op= .range t x) (hg:o.guard=none) (ht:ty t=some e) (hk:e.k= .ai .string) (hx:ev s.f x= .iv (.v (.string b))) (hd:o.dst=some d) (hlt:Wg d nt=true)
  (h:GO P nt (.ops all rest::k) Q ⟨(d, .ptr s.nx 0)::s.f,(s.nx,some (.dt b 0))::s.h,s.nx+1⟩):GO P nt (.ops all (o::rest)::k) Q s:=by
 have hus:P.underlying t=some .string:=by
  have:=(hty t _ ht).2.1;rw[hk] at this;exact this.1
 refine dH (R:=fun t=>t=⟨(d, .ptr s.nx 0)::s.f,(s.nx,some (.dt b 0))::s.h,s.nx+1⟩) hg (OT.value (s1:=newObj s (.dt b 0)) (p:= .ptr s.nx 0) (by cases s;simp only[putDst,newObj,hd,hlt,cond_true,c7]) fun M N a w hf=>?_) fun t ht=>by subst ht;exact h
 have hvx:=aV hf.2.1 x;rw[hx] at hvx
 have hyv:a.eval x= .string b:=by
  generalize a.eval x=v at hvx
  cases hvx with
  |iv _ _ h=>cases h;rfl
 obtain⟨N',h1,h2,h3,h4,h5⟩:=hf.1.alloc (.stringIter b 0) (.dt b 0) 0 (fun N' g1 g2 g3=>by
  show(w.alloc _).heap[N'.aH s.nx]? =_
  rw[g1];exact heap_alloc_new w _)
 refine⟨.pointer (some ⟨w.heap.size,0,none⟩),_,M,N',?_,h4,dh hf h4 h5,?_⟩
 ·simp only[execOp,ho,hyv]
  simp[Instr.range,run_underlying hus]
 ·have:=VR.ptr (M:=M) (N:=N') (U:=(· <s.nx+1)) s.nx 0 (by omega)
  rw[h1] at this;exact this
end
end Go.Al
namespace Go.Proofs.YtflegjieadkonaaGreatDoor
open Go Go.Al
set_option maxRecDepth 10000
def Jo (c:Nat):Bool:=(decide (97≤c)&&decide (c≤122))||((decide (65≤c)&&decide (c≤90))||((decide (48≤c)&&decide (c≤57))||decide (c=95)))
def okB (b:UInt8):Bool:=Jo b.toNat
def hd (s:ah):Int:=((s.data.toList.getD 0 0).toNat:Int)
def rf (s:ah) (lo hi:Int):Bool:=!decide (s=⟨#[]⟩)&&(decide (s.size≤32)&&(decide (lo≤hd s)&&(decide (hd s≤hi)&&s.data.toList.all okB)))
theorem CL {c:Nat} (h:Jo c=true):c<128:=by
 simp only[Jo,Wy,Wc,decide_eq_true_eq] at h;omega
theorem IW {s:ah} (h: ¬s=⟨#[]⟩):0<s.size:=by
 refine Nat.pos_of_ne_zero fun h0=>h ?_;have:s.data= #[]:=Array.eq_empty_of_size_eq_zero h0;cases s;simp_all
theorem Vr (c:Nat):Pure Tryz.prog 215 [.iv (.v (.int .i32 (c:Int)))] (pB (!Jo c)):=by
 refine az ae Tryz.func215 rfl (by decide) Tryz.ntmps215 rfl (by simp) rfl ?_
 repeat' (first
  |(refine gA rfl (VJ (fun _=>?_) (fun _=>?_)))
  |(refine gA rfl (au (by first|exact .inr rfl|exact .inl rfl) rfl (.of_eq ?_))))
 all_goals(refine(kE ?_:pB _=pB _))
 all_goals(simp only[X6,Yf,decide_eq_true_eq,decide_eq_false_iff_not] at*;rw[WK];simp[Jo];omega)
theorem DP {s:ah} {i:Nat} (h:i<s.size) (hb:okB (s.data.toList.getD i 0)=true):Utf8.decode s i=((s.data.toList.getD i 0).toNat,1):=by
 have hg:(s[i]'h)=s.data.toList.getD i 0:=by
  have:i<s.data.toList.length:=by simpa using h
  rw[VP,VS this];simp;rfl
 have:=decode_ascii s i h (by rw[hg];exact CL hb);rw[this,hg]
theorem RR {s:ah} {i:Nat} (h:i<s.size) (hb:okB (s.data.toList.getD i 0)=false):Jo (Utf8.decode s i).1=false:=by
 by_cases h1:(s.data.toList.getD i 0).toNat<128
 ·have hg:(s[i]'h)=s.data.toList.getD i 0:=by
   have:i<s.data.toList.length:=by simpa using h
   rw[VP,VS this];simp;rfl
  have:=decode_ascii s i h (by rw[hg];exact h1);rw[this,hg];exact hb
 ·have hg:(s.get! (i+0)).toNat=(s.data.toList.getD i 0).toNat:=by
   have:i<s.data.toList.length:=by simpa using h
   rw[VP,VS this];simp[ByteArray.get!,getElem!_pos,h]
  have:128≤(Utf8.decode s i).1:=by
   simp only[Utf8.decode,hg,if_neg h1]
   repeat' split
   all_goals(dsimp only[Utf8.runeError];(try simp only[Wc,decide_eq_true_eq] at*);omega)
  cases hk:Jo (Utf8.decode s i).1 with
  |false=>rfl
  |true=>have:=CL hk;omega
def Af (s:ah):Int:=oC (fun b=>!okB b) s.data.toList
theorem d217 (s:ah):b8 Tryz.prog 259 [pS s, .cH (.func 215) [] [],pB true] [] (pI (Af s)) [] 0:=by
 have hlen:s.data.toList.length=s.size:=by simp
 refine aF ae Tryz.func259 rfl (by decide) Tryz.ntmps259 rfl (by simp) ?_;refine gA rfl ?_;refine ux ae rfl rfl rfl rfl rfl rfl rfl ?_;refine gA rfl ?_
 refine aL 0 s.size (V1 _) (fun i=>⟨[(0,pS s),(1, .cH (.func 215) [] []),(2,pB true),(10, .ptr 0 0)],[(0,some (.dt s i))],1⟩) (fun i=>(s.data.toList.take i).any (fun b=>!okB b)=false) [] (by simp)
  (wk rfl rfl rfl ⟨.refl _,rfl, .refl _,rfl, .refl _,rfl, .refl _,rfl,trivial⟩ ⟨⟨_,rfl, .of_eq rfl⟩,VI rfl,trivial,trivial⟩ rfl) fun i hi hJ=>?_
 refine gA rfl ?_;refine km rfl rfl rfl rfl rfl rfl (fun h1=>?_) (fun h1=>?_)
 ·have h2:s.data.toList.length≤i:=by omega
  rw[Af,fL (any_none hJ h2)];refine gA rfl (ax [] (by first|exact .inr rfl|exact .inl rfl) rfl (wk rfl rfl rfl ⟨.refl _,rfl,trivial⟩ trivial rfl))
 ·have hi2:i<s.data.toList.length:=by omega
  have hg:s.data.toList.getD i default=s.data.toList.getD i 0:=rfl;refine gA rfl (aj (Vr (Utf8.decode s i).1) rfl rfl rfl rfl rfl rfl ?_);refine gA rfl ?_;refine VJ (fun h2=>?_) (fun h2=>?_)
  ·have h2:Jo (Utf8.decode s i).1=false:=by simpa using h2
   have hb:okB (s.data.toList.getD i 0)=false:=by
    cases hk:okB (s.data.toList.getD i 0) with
    |false=>rfl
    |true=>
     rw[DP h1 hk] at h2;exact absurd (hk.symm.trans h2) (by simp)
   rw[Af,gQ hJ hi2 (by rw[hg,hb];rfl)];refine gA rfl (ax [] (by first|exact .inr rfl|exact .inl rfl) rfl (wk rfl rfl rfl ⟨.refl _,rfl,trivial⟩ trivial rfl))
  ·have h2:Jo (Utf8.decode s i).1=true:=by simpa using h2
   have hb:okB (s.data.toList.getD i 0)=true:=by
    cases hk:okB (s.data.toList.getD i 0) with
    |true=>rfl
    |false=>exact absurd ((RR h1 hk).symm.trans h2) (by simp)
   have hd:=DP h1 hb;refine gA rfl ?_;exact⟨h1,(cG hJ hi2).2 (by rw[hg,hb];rfl),[],wk rfl rfl rfl ⟨.refl _,rfl, .refl _,rfl, .refl _,rfl, .refl _,rfl,trivial⟩ ⟨⟨_,rfl, .of_eq (by rw[hd];rfl)⟩,VI rfl,trivial,trivial⟩ rfl⟩
theorem Kb (l:List UInt8):(l.any fun b=>!okB b)=!l.all okB:=by
 induction l with
 |nil=>rfl
 |cons x r ih=>simp only[List.any_cons,List.all_cons,ih];cases okB x<;>rfl
theorem d203 (s:ah):b8 Tryz.prog 242 [pS s, .cH (.func 215) [] []] [] (pI (Af s)) [] 0:=by
 refine aF ae Tryz.func242 rfl (by decide) Tryz.ntmps242 rfl (by simp) ?_;refine gA rfl (aK [] (d217 s) rfl rfl rfl rfl rfl rfl rfl rfl ?_);refine gA rfl (ax [] (by first|exact .inr rfl|exact .inl rfl) rfl (wk rfl rfl rfl ⟨.refl _,rfl,trivial⟩ trivial rfl))
theorem d180 (s:ah):b8 Tryz.prog 214 [pS s, .cH (.func 215) [] []] [] (pB (!s.data.toList.all okB)) [] 0:=by
 refine aF ae Tryz.func214 rfl (by decide) Tryz.ntmps214 rfl (by simp) ?_;refine gA rfl (aK [] (d203 s) rfl rfl rfl rfl rfl rfl rfl rfl ?_);refine gA rfl (ax [] (by first|exact .inr rfl|exact .inl rfl) rfl (wk rfl rfl rfl ⟨.of_eq (kE ((gT _ _).trans (Kb _))),rfl,trivial⟩ trivial rfl))
theorem UD (s:ah) (lo hi:Int):Pure Tryz.prog 187 [pS s, .iv (.v (.int .u8 lo)), .iv (.v (.int .u8 hi))] (pB (rf s lo hi)):=by
 refine az ae Tryz.func187 rfl (by decide) Tryz.ntmps187 rfl (by simp) rfl ?_;refine gA rfl ?_;refine VJ (fun h1=>?_) (fun h1=>?_);rotate_left
 ·have h1:s=⟨#[]⟩:=of_decide_eq_true h1
  refine gA rfl (au (by first|exact .inr rfl|exact .inl rfl) rfl (.of_eq ?_));refine(kE ?_:pB _=pB _);subst h1;rfl
 have h1: ¬s=⟨#[]⟩:=of_decide_eq_false h1;have hp:=IW h1;refine gA rfl ?_;refine VJ (fun h2=>?_) (fun h2=>?_);rotate_left
 ·have h2:32<s.size:=Wz.1 (of_decide_eq_true h2)
  refine gA rfl (au (by first|exact .inr rfl|exact .inl rfl) rfl (.of_eq ?_));refine(kE ?_:pB _=pB _);have: ¬s.size≤32:=by omega
  simp[rf,this]
 have h2:s.size≤32:=by have:=of_decide_eq_false h2;omega
 refine gA rfl ?_;refine VJ (fun h3=>?_) (fun h3=>?_);rotate_left
 ·have h3:hd s<lo:=of_decide_eq_true h3
  refine gA rfl (au (by first|exact .inr rfl|exact .inl rfl) rfl (.of_eq ?_));refine(kE ?_:pB _=pB _);have: ¬lo≤hd s:=by omega
  simp[rf,this]
 have h3:lo≤hd s:=by have: ¬hd s<lo:=of_decide_eq_false h3;omega
 refine gA rfl ?_;refine VJ (fun h4=>?_) (fun h4=>?_)
 ·have h4:hi<hd s:=of_decide_eq_true h4
  refine gA rfl (au (by first|exact .inr rfl|exact .inl rfl) rfl (.of_eq ?_));refine(kE ?_:pB _=pB _);have: ¬hd s≤hi:=by omega
  simp[rf,this]
 have h4:hd s≤hi:=by have: ¬hd s>hi:=of_decide_eq_false h4;omega
 refine gA rfl (aK [] (d180 s) rfl rfl rfl rfl rfl rfl rfl rfl ?_);refine gA rfl (au (by first|exact .inr rfl|exact .inl rfl) rfl (.of_eq ?_));refine(kE ?_:pB _=pB _);simp[rf,h1,h2,h3,h4]
def T8:List ah:=[⟨#[114,101,108,97,116,105,111,110]⟩,⟨#[110,111,116]⟩,⟨#[110,117,109]⟩,⟨#[115,121,109]⟩,⟨#[109,111,100]⟩,⟨#[99,111,117,110,116]⟩,⟨#[115,117,109]⟩,⟨#[109,105,110]⟩,⟨#[109,97,120]⟩]
def T9 (s:ah):Bool:=T8.any fun x=>decide (s=x)
def iX (s:ah):Bool:=!T9 s&&rf s 97 122
def eQ (s:ah):Bool:=rf s 65 90
theorem y2 (s:ah):Pure Tryz.prog 218 [pS s] (pB (eQ s)):=by
 refine az ae Tryz.func218 rfl (by decide) Tryz.ntmps218 rfl (by simp) rfl ?_;refine gA rfl (aj (UD s 65 90) rfl rfl rfl rfl rfl rfl ?_);refine gA rfl (au (by first|exact .inr rfl|exact .inl rfl) rfl (.of_eq ?_));rfl
theorem Vh (s:ah):Pure Tryz.prog 156 [pS s] (pB (iX s)):=by
 refine az ae Tryz.func156 rfl (by decide) Tryz.ntmps156 rfl (by simp) rfl ?_
 repeat' (first
  |(refine gA rfl (VJ (fun _=>?_) (fun _=>?_)))
  |(refine gA rfl (aj (UD s 97 122) rfl rfl rfl rfl rfl rfl ?_))
  |(refine gA rfl (au (by first|exact .inr rfl|exact .inl rfl) rfl (.of_eq ?_))))
 all_goals(refine(kE ?_:pB _=pB _))
 all_goals(simp only[iX,T9,T8,List.any_cons,List.any_nil, *];rfl)
end Go.Proofs.YtflegjieadkonaaGreatDoor
namespace Go.Proofs.YtflegjieadkonaaGreatDoor
open Go Go.Al
set_option maxRecDepth 10000
theorem Rel.yx {M:Mem} {N:Nm} {U:Nat→Prop} {h h2:AH} {w:World} (hr:Rel M N U h w) (e: ∀i,AH.get h2 i=h.get i):Rel M N U h2 w:=
 ⟨hr.du,fun i o hi=>hr.used i o (by rw[←e];exact hi),fun i o hi=>hr.dz i o (by rw[←e];exact hi),fun i o hi=>hr.obj i o (by rw[←e];exact hi),fun i j o p hi hj=>hr.inj i j o p (by rw[←e];exact hi) (by rw[←e];exact hj)⟩
theorem Ext.yx {M M':Mem} {N N':Nm} {U U':Nat→Prop} {h0 h h2:AH} {w w':World} (hx:Ext M N U h0 w M' N' U' h w') (e: ∀i,AH.get h2 i=h.get i):Ext M N U h0 w M' N' U' h2 w':=
 ⟨hx.os,hx.tape,hx.output,hx.size,hx.gd,hx.nZ,hx.gm,hx.nm,hx.ule,fun i o hi=>hx.fN i o (by rw[←e];exact hi)⟩
structure WS where
 fr:Bool
 l:List UInt8
 bad:Bool
 br:Int
abbrev WS.sQ (w:WS) (i j:Nat):AO:= .cells [.ei w.fr i, .sl j 0 w.l.length 1,pB w.bad,pI w.br] (some 247)
abbrev WS.c (w:WS):AO:=w.sQ 0 1
abbrev WS.O (w:WS):List AO:=[w.c, .bx w.l 5]
abbrev WS.H (w:WS):AH:=[(0,some (w.sQ 0 2)),(2,some (.bx w.l 5))]
theorem d204 (w:WS):b8 Tryz.prog 260 [.ptr 0 0] w.O (.bM []) [(0,some ({w with fr:=false}:WS).c),(1,some (.bx w.l 5))] 2:=by
 refine⟨bL Tryz.func260 rfl (by decide),fun M N wd vs hr hlen hv=>?_⟩
 obtain⟨v,rfl⟩: ∃v,vs=[v]:=by
  cases vs with
  |nil=>cases hlen
  |cons v r=>cases r with
   |nil=>exact⟨v,rfl⟩
   |cons a b=>simp at hlen
 have hv0:VR M N (· <2) (.ptr 0 0) v:=hv 0 _ rfl;have hvv:v= .pointer (some ⟨N.aH 0,0,none⟩):=by cases hv0;rfl
 subst hvv;have ho0:AH.get (dB 0 w.O) 0=some w.c:=rfl;obtain⟨c,T,h1,h2,h3,h4,h5⟩:=hr.obj 0 _ ho0;have hT:=h5 247 rfl;subst hT;have hc4:c.size=4:=h3.symm;have hlt:N.aH 0<wd.heap.size:=(WV.1 h1).1
 have hc0:c.getD 0 undef= .pointer (bif w.fr then none else some ⟨N.aH 0,0,none⟩):=by
  have:=h4 0 _ rfl;generalize c.getD 0 undef=x at this;cases this;rfl
 have hcell:wd.cell? ⟨N.aH 0,0,none⟩=some (c.getD 0 undef):=by
  rw[Lib.cell_of_heap h1,VK,Wx (by omega)];rfl
 rw[hc0] at hcell;show Calls Tryz.prog 260 #[_] wd _
 cases hfr:w.fr with
 |false=>
  rw[hfr] at hcell;refine(J4 (N.aH 0) wd hcell).mono ?_
  rintro e w' ⟨rfl,rfl⟩
  have hw:({w with fr:=false}:WS)=w:=by cases w;simp_all
  rw[hw]
  exact⟨_,M,N, .bM [],_,2,rfl,⟨rfl,rfl,rfl⟩, .refl _ _ _ _ _,hr, .bM [] #[] rfl (by simp)⟩
 |true=>
  rw[hfr] at hcell;refine(D0 (N.aH 0) wd hcell (by simp[World.shape?,h1,hc4]) (Lib.frozen_of_heap h1 0)).mono ?_
  rintro e w' ⟨rfl,rfl⟩
  have hheap:(wd.setCell ⟨N.aH 0,0,none⟩ (.pointer (some ⟨N.aH 0,0,none⟩))).heap[N.aH 0]? =some (.cells (c.setIfInBounds 0 (.pointer (some ⟨N.aH 0,0,none⟩))) 247 (0,0)):=by
   simp[World.setCell,WG,h1]
  obtain⟨g1,g2⟩:=hr.write (i:=0) (o0:=w.c) ho0 rfl (wd.setCell ⟨N.aH 0,0,none⟩ (.pointer (some ⟨N.aH 0,0,none⟩))) ({w with fr:=false}:WS).c rfl rfl rfl (by simp[World.setCell]) (fun b hb=>by
   simp only[World.setCell,WG]
   rw[if_neg (fun e=>hb e.symm)]) ⟨_,247,hheap,by simpa using h2,by simp[hc4],fun j p hj=>by
    match j,hj with
    |0,hj=>
     cases hj;rw[VK,Wq];simp only[if_true,hc4]
     exact .ei false 0 (by show 0<2;decide)
    |j+1,hj=>
     have:=h4 (j+1) p (by exact hj);rw[VK,Wq,if_neg (by omega)];rw[VK] at this
     exact this,h5⟩
  have hget: ∀i,AH.get [(0,some ({w with fr:=false}:WS).c),(1,some (.bx w.l 5))] i=AH.get ((0,some ({w with fr:=false}:WS).c)::dB 0 w.O) i:=by
   intro i
   match i with
   |0=>rfl
   |1=>rfl
   |i+2=>rfl
  exact⟨_,M,N, .bM [],_,2,rfl,⟨rfl,rfl,rfl⟩,Ext.yx g1 hget,Rel.yx g2 hget, .bM [] #[] rfl (by simp)⟩
theorem d150 (w:WS):b8 Tryz.prog 220 [.ptr 0 0] w.O (pS ⟨w.l.toArray⟩) [] 2:=by
 refine⟨bL Tryz.func220 rfl (by decide),fun M N wd vs hr hlen hv=>?_⟩
 obtain⟨v,rfl⟩: ∃v,vs=[v]:=by
  cases vs with
  |nil=>cases hlen
  |cons v r=>cases r with
   |nil=>exact⟨v,rfl⟩
   |cons a b=>simp at hlen
 have hv0:VR M N (· <2) (.ptr 0 0) v:=hv 0 _ rfl;have hvv:v= .pointer (some ⟨N.aH 0,0,none⟩):=by cases hv0;rfl
 subst hvv;have ho0:AH.get (dB 0 w.O) 0=some w.c:=rfl;have ho1:AH.get (dB 0 w.O) 1=some (.bx w.l 5):=rfl;obtain⟨c,T,h1,h2,h3,h4,h5⟩:=hr.obj 0 _ ho0;have hT:=h5 247 rfl;subst hT;have hc4:c.size=4:=h3.symm
 have hex: ∀(x1:Value),c.getD 1 undef=x1→ ∃p x y,c= #[p,x1,x,y]:=by
  intro x1 hx1;refine⟨c.getD 0 undef,c.getD 2 undef,c.getD 3 undef,?_⟩;apply Array.ext
  ·simpa using hc4
  ·intro i hi hi2
   match i,hi with
   |0,hi=>simp[VK,hi]
   |1,hi=>rw[←hx1];simp[VK,hi]
   |2,hi=>simp[VK,hi]
   |3,hi=>simp[VK,hi]
   |i+4,hi=>omega
 have hsl:=h4 1 _ rfl;have hor:=hr.obj 1 _ ho1;show Calls Tryz.prog 220 #[_] wd _;by_cases hl:w.l=[]
 ·have hx1:c.getD 1 undef= .slice none 0 0:=by
   generalize c.getD 1 undef=x at hsl;rw[hl] at hsl;generalize hq:PV.sl 1 0 ([]:List UInt8).length 1=q at hsl
   cases hsl with
   |sl i off len sz cap h h0 h1 hc he=>cases hq;simp at h0
   |mD i sz h=>rfl
   |_=>cases hq
  obtain⟨p,x,y,rfl⟩:=hex _ hx1;refine(RV (N.aH 0) p x y wd h1).mono ?_
  rintro e w' ⟨rfl,rfl⟩
  refine⟨.string ⟨#[]⟩,M,N,pS ⟨w.l.toArray⟩,[],2,rfl,⟨rfl,rfl,rfl⟩,?_,?_, .iv _ _ (by rw[hl];exact .v _)⟩
  ·have:=Ext.drew (M:=M) (N:=N) (U:=(· <w.O.length)) (h:=dB 0 w.O) (w:=wd)
   exact⟨this.os,this.tape,this.output,this.size,this.gd,this.nZ,this.gm,this.nm,this.ule,fun i o hi=>(nomatch hi)⟩
  ·exact⟨hr.drew.du,fun i o hi=>(nomatch hi),fun i o hi=>(nomatch hi),fun i o hi=>(nomatch hi),fun i j o p hi=>(nomatch hi)⟩
 ·have hpos:0<w.l.length:=List.length_pos_iff.2 hl
  obtain⟨cap,hx1,hcap,hcm⟩: ∃cap,c.getD 1 undef= .slice (some ⟨N.aH 1,0,none⟩) w.l.length cap∧w.l.length≤cap∧cap≤maxLen:=by
   generalize c.getD 1 undef=x at hsl;generalize hn:w.l.length=n at hsl hpos;generalize hq:PV.sl 1 0 n 1=q at hsl
   cases hsl with
   |sl i off len sz cap h h0 hl hc he=>cases hq;exact⟨cap,by simp,hl,hc⟩
   |mD i sz h=>cases hq;omega
   |_=>cases hq
  rcases hor with hor|⟨cur,q1,q2,q3,q4⟩
  ·exact absurd hor hl
  obtain⟨p,x,y,rfl⟩:=hex _ hx1;refine(J7 (N.aH 0) (N.aH 1) cap p x y cur w.l wd h1 q1 q3 hcap hcm q4 hl).mono ?_
  rintro e w' ⟨rfl,rfl⟩
  have hre:(AO.bx w.l 5).real=true:=by cases hll:w.l with
   |nil=>exact absurd hll hl
   |cons=>rfl
  have hk: ∀b,b≠N.aH 1→(wd.drew.freeze ⟨N.aH 1,0,none⟩ w.l.length).heap[b]? =wd.heap[b]? :=by
   intro b hb;unfold World.freeze;split
   ·rfl
   ·show(wd.heap.modify _ _)[b]? =_
    simp only[WG];rw[if_neg (fun e=>hb e.symm)]
  have hos:(wd.drew.freeze ⟨N.aH 1,0,none⟩ w.l.length).os=wd.os∧(wd.drew.freeze ⟨N.aH 1,0,none⟩ w.l.length).tape=wd.tape∧(wd.drew.freeze ⟨N.aH 1,0,none⟩ w.l.length).output=wd.output∧(wd.drew.freeze ⟨N.aH 1,0,none⟩ w.l.length).heap.size=wd.heap.size:=by
   unfold World.freeze;split
   ·exact⟨rfl,rfl,rfl,rfl⟩
   ·exact⟨rfl,rfl,rfl,by show(wd.heap.modify _ _).size=_;simp⟩
  refine⟨_,M,N,pS ⟨w.l.toArray⟩,[],2,rfl,⟨rfl,rfl,rfl⟩,?_,?_, .iv _ _ (.v _)⟩
  ·exact⟨hos.1,hos.2.1,hos.2.2.1,by rw[hos.2.2.2];exact VZ _,fun b hb hn=>hk b fun e=>hn 1 _ ho1 hre e.symm, .refl _,fun b c h1 h2=>by simp[h1] at h2, .refl _ _,fun _ h=>h,fun i o hi=>(nomatch hi)⟩
  ·refine⟨fun b d hb=>?_,fun i o hi=>(nomatch hi),fun i o hi=>(nomatch hi),fun i o hi=>(nomatch hi),fun i j o p hi=>(nomatch hi)⟩
   have hne:b≠N.aH 1:=fun e=>by
    have:=hr.dz 1 _ ho1 hre;rw[←e,hb] at this;cases this
   exact(hr.du b d hb).mono (hk b hne)
section
variable {nt:Nat} {Q:AQ} {k:List KI} {s:AS}
def wS (s:AS) (w':WS) (i j:Nat):AS:=match s with|⟨f,h,n⟩=>⟨f,(i,some (w'.sQ i n))::(n,some (.bx w'.l 5))::(i,none)::(j,none)::h,n+1⟩
theorem Sa (s:AS) (w':WS) (i j:Nat):wS s w' i j=⟨s.f,(i,some (w'.sQ i s.nx))::(s.nx,some (.bx w'.l 5))::(i,none)::(j,none)::s.h,s.nx+1⟩:=by cases s;rfl
def UO (s:AS) (w':WS) (i j m:Nat):AS:=match s with|⟨f,h,n⟩=>⟨f,(i,some (w'.sQ i n))::(n,some (.bx w'.l 5))::(i,none)::(j,none)::(m,none)::h,n+1⟩
theorem Pd (s:AS) (w':WS) (i j m:Nat):UO s w' i j m=⟨s.f,(i,some (w'.sQ i s.nx))::(s.nx,some (.bx w'.l 5))::(i,none)::(j,none)::(m,none)::s.h,s.nx+1⟩:=by cases s;rfl
theorem we {o:Oper} {c:Call} {g:FuncId} {args al:List PV} {w w':WS} {r:PV} {i j:Nat} {s':AS} (hc:b8 Tryz.prog g (.ptr 0 0::args) w.O r w'.H 3) (ho:o.op= .call c) (ha:cM s.f c=some (g, .ptr i 0::al))
  (hi:s.h.get i=some (w.sQ i j)) (hj:s.h.get j=some (.bx w.l 5)) (hlt:Wg i s.nx=true) (hlj:Wg j s.nx=true) (hne:Wd i j=false) (has:al=args) (hlow:bz 0 args=true) (hr:r.low 0=true)
  (hp:putDst nt o r (wS s w' i j)=some s'):OT Tryz.prog nt o s (fun t=>t=s'):=by
 have hij:i≠j:=fun e=>by subst e;simp at hne
 have hnd:([i,j]:List Nat).Nodup:=by simp[hij]
 have hL: ∀x∈ [i,j],x<s.nx:=by
  intro x hx;simp only[V4,Yh,or_false] at hx;rcases hx with rfl|rfl
  ·exact VI hlt
  ·exact VI hlj
 subst has;have hargs: ∀σ,dF σ al=al:=fun σ=>fV σ al hlow;refine jL ho ha hc hnd hL ?_ ?_ ?_
 ·simp only[V6,Wv,hi,hj];rfl
 ·simp only[dF,hargs];rfl
 ·rintro q h0 n0 ⟨rfl,rfl,rfl⟩
  rw[PV.jC _ _ hr];rw[Sa] at hp;exact⟨s',hp,rfl⟩
theorem bX {all rest:List Oper} {o:Oper} {c:Call} {g:FuncId} {args al:List PV} {w w':WS} {r:PV} {i j:Nat} {s':AS} (hc:b8 Tryz.prog g (.ptr 0 0::args) w.O r w'.H 3) (ho:o.op= .call c) (hg:o.guard=none) (ha:cM s.f c=some (g, .ptr i 0::al))
  (hi:s.h.get i=some (w.sQ i j)) (hj:s.h.get j=some (.bx w.l 5)) (hlt:Wg i s.nx=true) (hlj:Wg j s.nx=true) (hne:Wd i j=false) (has:al=args) (hlow:bz 0 args=true) (hr:r.low 0=true)
  (hp:putDst nt o r (wS s w' i j)=some s') (h:GO Tryz.prog nt (.ops all rest::k) Q s'):GO Tryz.prog nt (.ops all (o::rest)::k) Q s:=
 dH hg (we hc ho ha hi hj hlt hlj hne has hlow hr hp) fun t ht=>by subst ht;exact h
theorem y5 {o:Oper} {c:Call} {g:FuncId} {ss:List ah} {w w':WS} {i j m n:Nat} {s':AS} (hc:b8 Tryz.prog g [.ptr 0 0, .sl 2 0 ss.length 1] [w.c, .bx w.l 5,a7 1 ss ch] (.bM []) [(0,some (w'.sQ 0 3)),(3,some (.bx w'.l 5))] 4) (ho:o.op= .call c) (ha:cM s.f c=some (g,[.ptr i 0, .sl m 0 n 1]))
  (hi:s.h.get i=some (w.sQ i j)) (hj:s.h.get j=some (.bx w.l 5)) (hm:s.h.get m=some (a7 1 ss ch)) (hn:n=ss.length) (hlt:Wg i s.nx=true) (hlj:Wg j s.nx=true) (hlm:Wg m s.nx=true) (hnd:dY [i,j,m]=true)
  (hp:putDst nt o (.bM []) (UO s w' i j m)=some s'):OT Tryz.prog nt o s (fun t=>t=s'):=by
 have hL: ∀x∈ [i,j,m],x<s.nx:=by
  intro x hx;simp only[V4,Yh,or_false] at hx;rcases hx with rfl|rfl|rfl
  ·exact VI hlt
  ·exact VI hlj
  ·exact VI hlm
 subst hn;refine jL ho ha hc (dW hnd) hL ?_ rfl ?_
 ·simp only[V6,Wv,hi,hj,hm,cj];rfl
 ·rintro q h0 n0 ⟨rfl,rfl,rfl⟩
  rw[Pd] at hp;exact⟨s',hp,rfl⟩
theorem go_wp {all rest:List Oper} {o:Oper} {c:Call} {g:FuncId} {ss:List ah} {w w':WS} {i j m n:Nat} {s':AS} (hc:b8 Tryz.prog g [.ptr 0 0, .sl 2 0 ss.length 1] [w.c, .bx w.l 5,a7 1 ss ch] (.bM []) [(0,some (w'.sQ 0 3)),(3,some (.bx w'.l 5))] 4) (ho:o.op= .call c) (hg:o.guard=none) (ha:cM s.f c=some (g,[.ptr i 0, .sl m 0 n 1]))
  (hi:s.h.get i=some (w.sQ i j)) (hj:s.h.get j=some (.bx w.l 5)) (hm:s.h.get m=some (a7 1 ss ch)) (hn:n=ss.length) (hlt:Wg i s.nx=true) (hlj:Wg j s.nx=true) (hlm:Wg m s.nx=true) (hnd:dY [i,j,m]=true)
  (hp:putDst nt o (.bM []) (UO s w' i j m)=some s')
  (h:GO Tryz.prog nt (.ops all rest::k) Q s'):GO Tryz.prog nt (.ops all (o::rest)::k) Q s:=
 dH hg (y5 hc ho ha hi hj hm hn hlt hlj hlm hnd hp) fun t ht=>by subst ht;exact h
theorem vI {all:List Oper} {todo pend:List (Nat×Oper)} {j':Nat} {CA C2:Prop} {o:Oper} {c:Call} {g:FuncId} {ss:List ah} {w w':WS} {i j m n:Nat} {s':AS} (hc:b8 Tryz.prog g [.ptr 0 0, .sl 2 0 ss.length 1] [w.c, .bx w.l 5,a7 1 ss ch] (.bM []) [(0,some (w'.sQ 0 3)),(3,some (.bx w'.l 5))] 4)
  (hrd:fe todo=[(j',o)]) (ho:o.op= .call c) (ha:cM s.f c=some (g,[.ptr i 0, .sl m 0 n 1]))
  (hi:s.h.get i=some (w.sQ i j)) (hj:s.h.get j=some (.bx w.l 5)) (hm:s.h.get m=some (a7 1 ss ch)) (hn:n=ss.length) (hlt:Wg i s.nx=true) (hlj:Wg j s.nx=true) (hlm:Wg m s.nx=true) (hnd:dY [i,j,m]=true)
  (hp:putDst nt o (.bM []) (UO s w' i j m)=some s')
  (hg:cy nt all s.f o=some true) (hpb:iW all pend o=true) (hE:oP todo [j']=true)
  (hag:s6 uT nt all s todo pend=some CA) (hCA:CA) (hag2:dP uT nt all s' (bb pend o)=some C2) (hC2:C2)
  (h:GO Tryz.prog nt (.cA all (todo.filter fun x=>!Wd x.1 j') (bb pend o)::k) Q s'):GO Tryz.prog nt (.cA all todo pend::k) Q s:=
 vJ ae hrd hg hpb hE hag hCA (y5 hc ho ha hi hj hm hn hlt hlj hlm hnd hp) hag2 hC2 h
theorem nh {all:List Oper} {todo pend:List (Nat×Oper)} {j':Nat} {CA C2:Prop} {o:Oper} {c:Call} {g:FuncId} {args al:List PV} {w w':WS} {r:PV} {i j:Nat} {s':AS} (hc:b8 Tryz.prog g (.ptr 0 0::args) w.O r w'.H 3)
  (hrd:fe todo=[(j',o)]) (ho:o.op= .call c) (ha:cM s.f c=some (g, .ptr i 0::al))
  (hi:s.h.get i=some (w.sQ i j)) (hj:s.h.get j=some (.bx w.l 5)) (hlt:Wg i s.nx=true) (hlj:Wg j s.nx=true) (hne:Wd i j=false) (has:al=args) (hlow:bz 0 args=true) (hr:r.low 0=true)
  (hp:putDst nt o r (wS s w' i j)=some s')
  (hg:cy nt all s.f o=some true) (hpb:iW all pend o=true) (hE:oP todo [j']=true)
  (hag:s6 uT nt all s todo pend=some CA) (hCA:CA) (hag2:dP uT nt all s' (bb pend o)=some C2) (hC2:C2)
  (h:GO Tryz.prog nt (.cA all (todo.filter fun x=>!Wd x.1 j') (bb pend o)::k) Q s'):GO Tryz.prog nt (.cA all todo pend::k) Q s:=
 vJ ae hrd hg hpb hE hag hCA (we hc ho ha hi hj hlt hlj hne has hlow hr hp) hag2 hC2 h
theorem bj {l:List ResultVar} {r r0 a b c d:PV} {e:Exit} {w':WS} {j n:Nat} (he:e= .normal∨e= .ret) (hr:lz uT s l=some r0) (hi:s.h.get 0=some (.cells [a,b,c,d] (some 247))) (ha:a= .ei w'.fr 0) (hb:b= .sl j 0 n 1) (hn:n=w'.l.length) (hc:ak c (pB w'.bad)) (hd:ak d (pI w'.br))
  (hj:s.h.get j=some (.bx w'.l 5)) (hlj:Wg j s.nx=true) (hne:Wd 0 j=false) (hns:X0 2 s.nx=true)
  (hrl:ak r0 r) (hlow:r.low 0=true) (hlow3:r.low 3=true):Km uT l 2 r w'.H 3 e s:=by
 subst ha;subst hb;subst hn;refine ax [j] he hr ⟨rfl,VI hns,fun x hx=>?_,⟨?_,hlow3,trivial⟩,⟨⟨_,hi, .cells ⟨.refl _, .refl _,hc,hd,trivial⟩⟩,VI rfl,rfl,⟨.bx w'.l 5,hj, .of_eq rfl⟩,VI rfl,trivial,trivial⟩,?_⟩
 ·simp only[VX] at hx;subst hx;exact VI hlj
 ·rw[PV.jC _ _ hlow];exact hrl
 ·have:(0:Nat)≠j:=fun e=>by subst e;simp at hne
  show([0,j]:List Nat).Nodup;simpa using this
theorem ya {n0 j m:Nat} {tf:AF} {w w':WS} {a b c d:PV} (hw:w=w') (hi:s.h.get 0=some (.cells [a,b,c,d] (some 247))) (ha:a= .ei w.fr 0) (hb:b= .sl j 0 m 1) (hm:m=w.l.length) (hc:ak c (pB w.bad)) (hd:ak d (pI w.br)) (hj:s.h.get j=some (.bx w.l 5))
  (hlj:Wg j s.nx=true) (hne:Wd 0 j=false) (h0:Wg 0 n0=true) (hns:X0 n0 s.nx=true) (hf:Pc (n0+1) (sg n0 [j]) s.f tf):Wk n0 [j] s ⟨tf,[(0,some (w'.sQ 0 n0)),(n0,some (.bx w'.l 5))],n0+1⟩:=by
 subst hw;subst ha;subst hb;subst hm;have h0':0<n0:=VI h0;have s0:sg n0 [j] 0=0:=eW h0';have b0:Wg n0 n0=false:=W2.2 fun e=>absurd (VI e) (by omega);have b1:Wg 0 (n0+1)=true:=WH (by omega);have b2:Wg n0 (n0+1)=true:=WH (by omega);have s1:sg n0 [j] n0=j:=by simp[sg,b0]
 refine⟨rfl,VI hns,fun x hx=>?_,hf,⟨⟨_,by rw[s0];exact hi,?_⟩,Xs h0',?_,⟨.bx w.l 5,by rw[s1];exact hj, .of_eq rfl⟩,Xo _,trivial,trivial⟩,?_⟩
 ·simp only[VX] at hx;subst hx;exact VI hlj
 ·simp only[AO.cN,dF,PV.cN,s0,s1]
  exact .cells ⟨.refl _, .refl _,hc,hd,trivial⟩
 ·simp[AO.low,bz,PV.low,b1,b2]
 ·have:(0:Nat)≠j:=fun e=>by subst e;simp at hne
  simp only[fp,s0,s1];simpa using this
end
end Go.Proofs.YtflegjieadkonaaGreatDoor
namespace Go.Proofs.YtflegjieadkonaaGreatDoor
open Go Go.Al
set_option maxRecDepth 10000
def vc (w:WS) (s:ah):WS:=⟨false,w.l++s.data.toList,w.bad,w.br⟩
theorem d183 (w:WS) (s:ah) (hb:w.l.length+s.size≤140737488355328):b8 Tryz.prog 243 [.ptr 0 0,pS s] w.O (.bM [pI s.size, .iv (.v .nilIface)]) (vc w s).H 3:=by
 refine aF ae Tryz.func243 rfl (by decide) Tryz.ntmps243 rfl (by simp) ?_;refine gA rfl (aK [0,1] (d204 w) rfl rfl rfl rfl rfl rfl rfl rfl ?_);refine gA rfl ?_;refine JK ae rfl rfl rfl rfl rfl rfl rfl rfl rfl rfl rfl rfl rfl rfl rfl rfl hb ?_;refine gA rfl (bj (by first|exact .inr rfl|exact .inl rfl) rfl rfl rfl rfl rfl (by first|exact .refl _|exact .kb _) (by first|exact .refl _|exact .kb _) rfl rfl rfl rfl (.refl _) rfl rfl)
def aP (w:WS) (b:Bool):WS:=⟨w.fr,w.l,w.bad||!b,w.br⟩
theorem Jt (w:WS) {b:Bool} (h:(!b)=false):aP w b=w:=by cases w;simp_all [aP]
theorem Ju (w:WS) {b:Bool} (h:(!b)=true):aP w b=⟨w.fr,w.l,true,w.br⟩:=by cases w;simp_all [aP]
theorem d146 (w:WS) (b:Bool):b8 Tryz.prog 216 [.ptr 0 0,pB b] w.O (.bM []) (aP w b).H 3:=by
 refine aF ae Tryz.func216 rfl (by decide) Tryz.ntmps216 rfl (by simp) ?_;refine gA rfl ?_;refine VJ (fun h=>?_) (fun h=>?_)
 ·rw[Ju w h]
  refine gA rfl (bj (by first|exact .inr rfl|exact .inl rfl) rfl rfl rfl rfl rfl (by first|exact .refl _|exact .kb _) (by first|exact .refl _|exact .kb _) rfl rfl rfl rfl (.refl _) rfl rfl)
 ·rw[Jt w h]
  refine gA rfl (bj (by first|exact .inr rfl|exact .inl rfl) rfl rfl rfl rfl rfl (by first|exact .refl _|exact .kb _) (by first|exact .refl _|exact .kb _) rfl rfl rfl rfl (.refl _) rfl rfl)
def aU (w:WS) (ss:List ah):WS:=ss.foldl vc w
def ey (ss:List ah):Nat:=(ss.map YO).sum
theorem CC (w:WS) (s:ah):(vc w s).l.length=w.l.length+s.size:=by simp[vc]
theorem gL: ∀(ss:List ah) (w:WS),(aU w ss).l.length=w.l.length+ey ss
 | [],w=>by simp[aU,ey]
 |s::r,w=>by
  have:=gL r (vc w s);simp only[aU,Wm] at this ⊢;rw[this,CC];simp[ey];omega
theorem ry: ∀(ss:List ah) (i:Nat),i<ss.length→ey (ss.take i)+(ss.getD i default).size≤ey ss
 | [],i,h=>by simp at h
 |s::r,0,_=>by simp[ey]
 |s::r,i+1,h=>by
  have:=ry r i (by simpa using h);simp[ey] at this ⊢;omega
theorem d147 (w:WS) (ss:List ah) (hl:ss.length≤1000) (hb:w.l.length+ey ss≤140737488355328):b8 Tryz.prog 217 [.ptr 0 0, .sl 2 0 ss.length 1] [w.c, .bx w.l 5,a7 1 ss ch] (.bM []) [(0,some ((aU w ss).sQ 0 3)),(3,some (.bx (aU w ss).l 5))] 4:=by
 refine aF ae Tryz.func217 rfl (by decide) Tryz.ntmps217 rfl (by simp) ?_;refine gA rfl ?_;refine zR 2 (fun k=>ch (ss.getD k default)) rfl (cZ rfl) (by simp[AF.oq,PV.bW,my]) ⟨(by simp[AO.oq,fD,PV.bW]),trivial,wO _ _ _ _ _ _,trivial⟩ ?_
 refine aL 0 ss.length (V1 _) (fun i=>⟨[(0, .ptr 0 0),(6, .iv (strs ss)),(7,pI ss.length),(8,pI i)],[(0,some ((aU w (ss.take i)).sQ 0 3)),(3,some (.bx (aU w (ss.take i)).l 5))],4⟩) (fun _=>True) [1] trivial
  (wk rfl rfl rfl ⟨.refl _,rfl, .cK rfl (fun k _=>by rw[Wn]),rfl, .refl _,rfl, .refl _,rfl,trivial⟩ ⟨⟨_,rfl, .of_eq rfl⟩,VI rfl,rfl,⟨_,rfl, .of_eq rfl⟩,VI rfl,trivial,trivial⟩ rfl) fun i hi _=>?_
 refine gA rfl ?_;refine VJ (fun h1=>?_) (fun h1=>?_)
 ·have h1:i<ss.length:=Wz.1 (of_decide_eq_true h1)
  have hs:aU w (ss.take (i+1))=vc (aU w (ss.take i)) (ss.getD i default):=c8 (g:=vc) (b:=w) h1;have hpl:=gL (ss.take i) w;have hz:=ry ss i h1;refine gA rfl (bX (d183 (aU w (ss.take i)) (ss.getD i default) (by omega)) rfl rfl rfl rfl rfl rfl rfl rfl rfl rfl rfl rfl ?_);refine gA rfl ?_;exact⟨h1,trivial,[4],wk rfl rfl rfl ⟨.refl _,rfl, .refl _,rfl, .refl _,rfl, .refl _,rfl,trivial⟩ ⟨⟨_,rfl, .of_eq (by rw[hs];rfl)⟩,VI rfl,rfl,⟨_,rfl, .of_eq (by rw[hs];rfl)⟩,VI rfl,trivial,trivial⟩ rfl⟩
 ·have h1:ss.length≤i:=Ww fun hh=>absurd (Wz.2 hh) (of_decide_eq_false h1)
  rw[VY h1];refine gA rfl (ax [3] (by first|exact .inr rfl|exact .inl rfl) rfl (wk rfl rfl rfl ⟨.refl _,rfl,trivial⟩ ⟨⟨_,rfl, .of_eq rfl⟩,VI rfl,rfl,⟨_,rfl, .of_eq rfl⟩,VI rfl,trivial,trivial⟩ rfl))
end Go.Proofs.YtflegjieadkonaaGreatDoor
namespace Go.Proofs
open Go.Shelf
def Tryz.vC:Go.Shelf.Ren:=⟨fun|171=>273|243=>285|246=>297|283=>302|284=>303|285=>304|286=>305|129=>153|317=>307|318=>308|319=>309|320=>310|337=>311|338=>312|n=>n,fun|3=>3|9=>9|2=>2|4=>4|171=>337|0=>0|53=>205|37=>243|5=>5|173=>339|212=>343|51=>203|20=>20|213=>344|46=>179|232=>345|233=>346|n=>n,fun|17=>0|18=>1|19=>2|n=>n⟩
theorem Tryz.C5:Go.Proofs.LaysM.n171 Tryz.prog Tryz.vC:={
 mixed:=by kernel_rfl
 f129:=Tryz.func153.trans (congrArg some (by kernel_rfl))
 f171:=Tryz.func273.trans (congrArg some (by kernel_rfl))
 f243:=Tryz.func285.trans (congrArg some (by kernel_rfl))
 f246:=Tryz.func297.trans (congrArg some (by kernel_rfl))
 f283:=Tryz.func302.trans (congrArg some (by kernel_rfl))
 f284:=Tryz.func303.trans (congrArg some (by kernel_rfl))
 f285:=Tryz.func304.trans (congrArg some (by kernel_rfl))
 f286:=Tryz.func305.trans (congrArg some (by kernel_rfl))
 f317:=Tryz.func307.trans (congrArg some (by kernel_rfl))
 f318:=Tryz.func308.trans (congrArg some (by kernel_rfl))
 f319:=Tryz.func309.trans (congrArg some (by kernel_rfl))
 f320:=Tryz.func310.trans (congrArg some (by kernel_rfl))
 f337:=Tryz.func311.trans (congrArg some (by kernel_rfl))
 f338:=Tryz.func312.trans (congrArg some (by kernel_rfl))
 t0:=Tryz.underlying0
 a0:=Tryz.isAgg0
 z0:=Tryz.sizeOf0
 v0:=Tryz.zeroValue0
 t2:=Tryz.underlying2
 a2:=Tryz.isAgg2
 z2:=Tryz.sizeOf2
 v2:=Tryz.zeroValue2
 t3:=Tryz.underlying3
 a3:=Tryz.isAgg3
 z3:=Tryz.sizeOf3
 v3:=Tryz.zeroValue3
 t4:=Tryz.underlying4
 a4:=Tryz.isAgg4
 z4:=Tryz.sizeOf4
 v4:=Tryz.zeroValue4
 t5:=Tryz.underlying5
 a5:=Tryz.isAgg5
 z5:=Tryz.sizeOf5
 v5:=Tryz.zeroValue5
 t9:=Tryz.underlying9
 a9:=Tryz.isAgg9
 z9:=Tryz.sizeOf9
 v9:=Tryz.zeroValue9
 t20:=Tryz.underlying20
 a20:=Tryz.isAgg20
 z20:=Tryz.sizeOf20
 v20:=Tryz.zeroValue20
 t37:=Tryz.underlying243
 a37:=Tryz.isAgg243
 z37:=Tryz.sizeOf243
 v37:=Tryz.zeroValue243
 t46:=Tryz.underlying179
 a46:=Tryz.isAgg179
 z46:=Tryz.sizeOf179
 v46:=Tryz.zeroValue179
 t51:=Tryz.underlying203
 a51:=Tryz.isAgg203
 z51:=Tryz.sizeOf203
 v51:=Tryz.zeroValue203
 t53:=Tryz.underlying205
 a53:=Tryz.isAgg205
 z53:=Tryz.sizeOf205
 v53:=Tryz.zeroValue205
 t171:=Tryz.underlying337
 a171:=Tryz.isAgg337
 z171:=Tryz.sizeOf337
 v171:=Tryz.zeroValue337
 t173:=Tryz.underlying339
 a173:=Tryz.isAgg339
 z173:=Tryz.sizeOf339
 v173:=Tryz.zeroValue339
 t212:=Tryz.underlying343
 a212:=Tryz.isAgg343
 z212:=Tryz.sizeOf343
 v212:=Tryz.zeroValue343
 t213:=Tryz.underlying344
 a213:=Tryz.isAgg344
 z213:=Tryz.sizeOf344
 t232:=Tryz.underlying345
 a232:=Tryz.isAgg345
 z232:=Tryz.sizeOf345
 v232:=Tryz.zeroValue345
 t233:=Tryz.underlying346
 a233:=Tryz.isAgg346
 z233:=Tryz.sizeOf346
 v233:=Tryz.zeroValue346
 g17:=by kernel_rfl
 g18:=by kernel_rfl
 g19:=by kernel_rfl
 i0:=by kernel_rfl
 i2:=by kernel_rfl
 i3:=by kernel_rfl
 i4:=by kernel_rfl
 i5:=by kernel_rfl
 i9:=by kernel_rfl
 i20:=by kernel_rfl
 i37:=by kernel_rfl
 i46:=by kernel_rfl
 i51:=by kernel_rfl
 i53:=by kernel_rfl
 i171:=by kernel_rfl
 i173:=by kernel_rfl
 i212:=by kernel_rfl
 i232:=by kernel_rfl
 i233:=by kernel_rfl
 m17:=by kernel_rfl
 m18:=by kernel_rfl
 m19:=by kernel_rfl}
theorem YtflegjieadkonaaGreatDoor.Ui (n:Int) (h0: -9223372036854775808≤n) (h1:n≤9223372036854775807) (w:World) (htab:Lib.TabIs Tryz.prog w "internal/strconv.uint64pow10" .u64 Lib.pow10Tab):
  Calls Tryz.prog 273 #[.int .i64 n] w fun e w'=>e= .returned (.string ⟨(Lib.itoa n).toArray⟩)∧ ∃k os,w'=Go.Sort.grow (w.drewN k) os:=Any.strconv_Itoa Tryz.C5 n h0 h1 w htab
end Go.Proofs
namespace Go.Proofs.YtflegjieadkonaaGreatDoor
open Go Go.Al
set_option maxRecDepth 10000
theorem U6:Tryz.prog.globalNamed "internal/strconv.uint64pow10" =some 0:=by kernel_rfl
theorem pow_eq:nK=Lib.pow10Tab:=by decide
theorem UW {M:Mem} {N:Nm} {U:Nat→Prop} {h:AH} {w:World} (hr:Rel M N U h w):Lib.TabIs Tryz.prog w "internal/strconv.uint64pow10" .u64 Lib.pow10Tab:=by
 obtain⟨T,fr,h1⟩:=hr.du 0 _ (M.JQ 0 _ rfl);show World.var? _ _ _=_;simp only[World.var?,U6,Xi,h1,pow_eq]
theorem Vm (n:Int) (h0: -9223372036854775808≤n) (h1:n≤9223372036854775807):Pure Tryz.prog 273 [pI n] (pS ⟨(Lib.itoa n).toArray⟩):=by
 refine⟨bL Tryz.func273 rfl (by decide),fun M N w vs hr hlen hv=>?_⟩
 obtain⟨v,rfl⟩: ∃v,vs=[v]:=by
  cases vs with
  |nil=>cases hlen
  |cons v r=>cases r with
   |nil=>exact⟨v,rfl⟩
   |cons a b=>simp at hlen
 have hv0:VR M N (· <0) (pI n) v:=hv 0 _ rfl
 have hvv:v= .int .i64 n:=by
  cases hv0 with
  |iv _ _ h=>cases h;rfl
 subst hvv;refine(Ui n h0 h1 w (UW hr)).mono ?_
 rintro e w' ⟨rfl,k,os,rfl⟩
 have hk: ∀b,b<w.heap.size→(Go.Sort.grow (w.drewN k) os).heap[b]? =w.heap[b]? :=fun b hb=>by
  show(w.heap++os)[b]? =_;rw[WO hb]
 refine⟨_,M,N,pS ⟨(Lib.itoa n).toArray⟩,[],0,rfl,⟨rfl,rfl,rfl⟩,⟨rfl,rfl,rfl,?_,fun b hb _=>hk b hb, .refl _,fun b c h1 h2=>(nomatch (h1.symm.trans h2)), .refl _ _,fun _ h=>h,fun i o hi=>(nomatch hi)⟩,⟨fun b c hb=>?_,fun i o hi=>(nomatch hi),fun i o hi=>(nomatch hi),fun i o hi=>(nomatch hi),fun i j o p hi=>(nomatch hi)⟩, .iv _ _ (.v _)⟩
 ·show w.heap.size≤(w.heap++os).size
  simp
 ·exact(hr.du b c hb).mono (hk b (hr.du b c hb).lt)
end Go.Proofs.YtflegjieadkonaaGreatDoor
namespace Go.Al
section
variable {P:Program} {ty:Ty} {nt:Nat} {s:AS} {Q:AQ} {k:List KI}
theorem Bh (hty:bP P ty) {all rest:List Oper} {o:Oper} {x:Operand} {t t' u d:Nat} {b:ByteArray} {et et' eu:aA} (ho:o.op= .convert t t' x) (hg:o.guard=none) (ht:ty t=some et) (hk:et.k= .ai .string) (ht':ty t'=some et') (hk':et'.k= .ai (.slice u)) (hu:ty u=some eu) (hku:eu.k= .ai (.int .u8))
  (hx:ev s.f x= .iv (.v (.string b))) (hd:o.dst=some d) (hlt:Wg d nt=true) (hb:b.size≤1000000)
  (h:GO P nt (.ops all rest::k) Q ⟨(d, .iv (.cK 1 b.data.toList.length fun k=>sR (b.data.toList.getD k default)))::s.f,s.h,s.nx⟩):GO P nt (.ops all (o::rest)::k) Q s:=by
 have hs:P.underlying t=some .string:=by have:=(hty t _ ht).2.1;rw[hk] at this;exact this.1
 have hsl:P.underlying t'=some (.slice u):=by have:=(hty t' _ ht').2.1;rw[hk'] at this;exact this.1
 have hu8:P.underlying u=some (.int .u8):=by have:=(hty u _ hu).2.1;rw[hku] at this;exact this.1
 refine dH (R:=fun t=>t=⟨(d, .iv (.cK 1 b.data.toList.length fun k=>sR (b.data.toList.getD k default)))::s.f,s.h,s.nx⟩) hg (OT.value (s1:=s) (p:= .iv (.cK 1 b.data.toList.length fun k=>sR (b.data.toList.getD k default))) (by cases s;simp only[putDst,hd,hlt,cond_true,c7]) fun M N a w hf=>?_) fun t ht=>by subst ht;exact h
 have hvx:=aV hf.2.1 x;rw[hx] at hvx
 have hyv:a.eval x= .string b:=by
  generalize a.eval x=v at hvx
  cases hvx with
  |iv _ _ h=>cases h;rfl
 have hrun:=Go.run_bytes_of_string (P:=P) w t t' u b hs hsl hu8;generalize hC:bytesRow b (grownCap w b.size 0 u)=C at hrun
 have hMn:M w.heap.size=none:=by
  cases hm:M w.heap.size with
  |none=>rfl
  |some c=>exact absurd (hf.1.du _ _ hm).lt (Yx _)
 have hold: ∀c,c<w.heap.size→(w.drew.alloc (.cells C u (C.size,C.size+1))).heap[c]? =w.heap[c]? :=fun c hc=>by
  show(w.heap.push _)[c]? =_;rw[XK,if_neg (by omega)]
 have hnew:(w.drew.alloc (.cells C u (C.size,C.size+1))).heap[w.heap.size]? =some (.cells C u (C.size,C.size+1)):=by
  show(w.heap.push _)[w.heap.size]? =_;simp
 have hCb: ∀j,j<b.data.toList.length→C[j]? =some (.int .u8 ((b.data.toList.getD j default).toNat:Int)):=by
  intro j hj;have hj':j<b.data.size:=by simpa using hj
  rw[←hC];simp only[bytesRow];rw[WO (by simpa using hj')];simp[VP];exact⟨b.data[j],Wx hj',by rw[Wx hj'];rfl⟩
 have hcapge:=grownCap_ge w b.size 0 u;refine⟨.slice (some ⟨w.heap.size,0,none⟩) b.size (grownCap w b.size 0 u),w.drew.alloc (.cells C u (C.size,C.size+1)),M.set w.heap.size (.cells C) hMn,N,?_,?_,?_,?_⟩
 ·simp only[execOp,ho,hyv]
  rw[Sem.run_bind,hrun];rfl
 ·have q1:M.le (M.set w.heap.size (.cells C) hMn):=fun c e hc=>by
   simp only[Mem.set];rw[if_neg fun e2=>by rw[e2,hMn] at hc;cases hc];exact hc
  have q2: ∀c e,M c=none→(M.set w.heap.size (.cells C) hMn) c=some e→w.heap.size≤c∨ ∃i o,s.h.get i=some o∧o.real=true∧N.aH i=c:=fun c e h1 h2=>by
   simp only[Mem.set] at h2;by_cases he:c=w.heap.size
   ·exact .inl (by omega)
   ·rw[if_neg he,h1] at h2
    cases h2
  exact⟨rfl,rfl,rfl,(by show w.heap.size≤(w.heap.push _).size;simp),fun c hc _=>hold c hc,q1,q2, .refl _ _,fun _ h=>h,fun i o hi hre=> .inr ⟨i,o,hi,hre,rfl⟩⟩
 ·have hle:M.le (M.set w.heap.size (.cells C) hMn):=fun c e hc=>by
   simp only[Mem.set];rw[if_neg fun e2=>by rw[e2,hMn] at hc;cases hc];exact hc
  refine⟨⟨fun c e hc=>?_,hf.1.used,fun i o hi hre=>?_,fun i o hi=>?_,hf.1.inj⟩,fun i=>(hf.2.1 i).mono hle (.refl _ _) fun _ h=>h,hf.2.2⟩
  ·simp only[Mem.set] at hc
   by_cases he:c=w.heap.size
   ·rw[if_pos he] at hc;cases hc
    exact⟨u,(C.size,C.size+1),by rw[he];exact hnew⟩
   ·rw[if_neg he] at hc
    exact(hf.1.du c e hc).mono (hold c (hf.1.du c e hc).lt)
  ·simp only[Mem.set]
   have:=hf.1.lt hi hre;rw[if_neg (by omega)];exact hf.1.dz i o hi hre
  ·cases hre:o.real with
   |true=>exact(hf.1.obj i o hi).mono hle (.refl _ _) (fun _ h=>h) (hf.1.used i o hi) (hold _ (hf.1.lt hi hre))
   |false=>
    cases o with
    |row sz es=>cases es with
     |nil=>exact .inl rfl
     |cons=>cases hre
    |bx l T=>cases l with
     |nil=>exact .inl rfl
     |cons=>cases hre
    |_=>cases hre
 ·have hbl:b.data.toList.length=b.size:=by simp
  rw[←hbl] at hcapge ⊢;by_cases h0:b.data.toList.length=0
  ·rw[h0];exact .iv _ _ (.iC _ _ _ _)
  ·refine .iv _ _ (.cK _ _ _ _ _ _ (by omega) (grownCap_le_maxLen w _ _ _ (by simp only[maxLen];omega)) (fun _ _=>rfl) (fun k j hk hj=>?_) (fun k j p hk hp=>?_))
   ·have hj0:j=0:=by omega
    subst hj0;have:=hCb k hk;simp only[Mem.cell,Mem.set,if_true,Wn,Yv,XR,this,Option.isSome_some]
   ·have hj0:j=0:=by
     have:=(VO.1 hp).1;simp[sR] at this;exact this
    subst hj0;cases hp;have:=hCb k hk;simp only[Mem.cell,Mem.set,if_true,Wn,Yv,XR,this,W6];exact .v _
theorem JP (hty:bP P ty) (l:List UInt8) {all rest:List Oper} {o:Oper} {x:Operand} {t t' u d i n:Nat} {es:List (List PV)} {et et' eu:aA} (ho:o.op= .convert t t' x) (hg:o.guard=none) (ht:ty t=some et) (hk:et.k= .ai (.slice u)) (ht':ty t'=some et') (hk':et'.k= .ai .string) (hu:ty u=some eu) (hku:eu.k= .ai (.int .u8))
  (hx:ev s.f x= .sl i 0 n 1) (hi:s.h.get i=some (.row 1 es)) (hd:o.dst=some d) (hlt:Wg d nt=true) (hes:es=l.map fun x=>(sR x).map .iv) (hn:n=l.length)
  (h:GO P nt (.ops all rest::k) Q ⟨(d, .iv (.v (.string ⟨l.toArray⟩)))::s.f,s.h,s.nx⟩):GO P nt (.ops all (o::rest)::k) Q s:=by
 have hs:P.underlying t'=some .string:=by have:=(hty t' _ ht').2.1;rw[hk'] at this;exact this.1
 have hsl:P.underlying t=some (.slice u):=by have:=(hty t _ ht).2.1;rw[hk] at this;exact this.1
 have hu8:P.underlying u=some (.int .u8):=by have:=(hty u _ hu).2.1;rw[hku] at this;exact this.1
 subst hn;subst hes;refine dH (R:=fun t=>t=⟨(d, .iv (.v (.string ⟨l.toArray⟩)))::s.f,s.h,s.nx⟩) hg (OT.value (s1:=s) (p:= .iv (.v (.string ⟨l.toArray⟩))) (by cases s;simp only[putDst,hd,hlt,cond_true,c7]) fun M N a w hf=>?_) fun t ht=>by subst ht;exact h
 have hvx:=aV hf.2.1 x;rw[hx] at hvx
 have hrun:(convert t t' (a.eval x)).run P w= .ok (.string ⟨l.toArray⟩) w:=by
  generalize a.eval x=v at hvx
  cases hor:l with
  |nil=>
   rw[hor] at hvx;generalize hq:PV.sl i 0 ([]:List UInt8).length 1=q at hvx
   cases hvx with
   |sl _ _ _ _ _ _ h0=>cases hq;simp at h0
   |mD _ _ _=>
    have:=run_convert_bytes_nil (P:=P) w t u hsl hu8 0 0 t' hs
    exact this
   |_=>cases hq
  |cons x0 r0=>
   rw[←hor];have hpos:0<l.length:=by rw[hor];simp
   generalize hln:l.length=n at hvx hpos;generalize hq:PV.sl i 0 n 1=q at hvx
   cases hvx with
   |sl _ _ _ _ cap hU h0 hl hc he=>
    cases hq;rcases hf.1.obj i _ hi with hnil|⟨_,c,T,q1,q2,q3,q4,q5⟩
    ·rw[hor] at hnil;cases hnil
    rw[XF,←hln];refine run_convert_bytes_back (P:=P) w t t' u ⟨N.aH i,0,none⟩ cap l hsl hu8 hs fun j hj=>?_;rw[eO,Wn];have hjc:j<c.size:=by rw[Wr] at q3;omega
    have:=q5 j [.iv (.v (.int .u8 (l[j].toNat:Int)))] 0 _ (by rw[VV,VS hj];rfl) rfl;rw[Yv,XR,VK,Wx hjc,W6] at this;simp only[World.cell?,q1];generalize hcj:c[j]=y at this
    cases this with
    |iv _ _ h=>cases h;simp[hjc,hcj]
   |mD _ _ _=>cases hq;omega
   |_=>cases hq
 exact⟨_,w,M,N,by simp only[execOp,ho];exact bn hrun, .refl _ _ _ _ _,hf, .iv _ _ (.v _)⟩
theorem qV (hty:bP P ty) {all rest:List Oper} {o:Oper} {x:Operand} {t t' d:Nat} {q kk:IntKind} {n:Int} {et et':aA} (ho:o.op= .convert t t' x) (hg:o.guard=none) (ht:ty t=some et) (hk:et.k= .ai (.int q)) (ht':ty t'=some et') (hk':et'.k= .ai .string)
  (hx:ev s.f x= .iv (.v (.int kk n))) (hd:o.dst=some d) (hlt:Wg d nt=true)
  (h:GO P nt (.ops all rest::k) Q ⟨(d, .iv (.v (.string (Utf8.encode n))))::s.f,s.h,s.nx⟩):GO P nt (.ops all (o::rest)::k) Q s:=by
 have hs:P.underlying t'=some .string:=by have:=(hty t' _ ht').2.1;rw[hk'] at this;exact this.1
 have hi:P.underlying t=some (.int q):=by have:=(hty t _ ht).2.1;rw[hk] at this;exact this.1
 refine dH (R:=fun t=>t=⟨(d, .iv (.v (.string (Utf8.encode n))))::s.f,s.h,s.nx⟩) hg (OT.value (s1:=s) (p:= .iv (.v (.string (Utf8.encode n)))) (by cases s;simp only[putDst,hd,hlt,cond_true,c7]) fun M N a w hf=>?_) fun t ht=>by subst ht;exact h
 have hvx:=aV hf.2.1 x;rw[hx] at hvx
 have hyv:a.eval x= .int kk n:=by
  generalize a.eval x=v at hvx
  cases hvx with
  |iv _ _ h=>cases h;rfl
 refine⟨_,w,M,N,?_, .refl _ _ _ _ _,hf, .iv _ _ (.v _)⟩;simp only[execOp,ho,hyv];refine bn ?_;simp[convert,run_underlying hi,run_underlying hs,Conv.intToString]
end
end Go.Al
namespace Go.Proofs.YtflegjieadkonaaGreatDoor
open Go Go.Al
set_option maxRecDepth 10000
def U5:ah:=⟨#[48,49,50,51,52,53,54,55,56,57,65,66,67,68,69,70]⟩
def R7 (c:UInt8):Int:=(c.toNat:Int).fdiv (2 ^ min (Int.toNat 4) IntKind.u8.bits)
def R6 (c:UInt8):Int:=IntKind.u8.wrap ((BitVec.ofInt IntKind.u8.bits (c.toNat:Int)&&&BitVec.ofInt IntKind.u8.bits 15).toNat:Int)
theorem RA (c:UInt8):0≤R7 c∧R7 c<16:=by
 have h:c.toNat<256:=c.toNat_lt
 have e:R7 c=(c.toNat:Int)/16:=by
  unfold R7;have:(2:Int) ^ min (Int.toNat 4) IntKind.u8.bits=16:=by decide
  rw[this];exact Int.fdiv_eq_ediv_of_nonneg _ (by decide)
 rw[e];omega
theorem Rz: ∀c:UInt8,0≤R6 c∧R6 c<16:=by
 intro c;have h: ∀n:Fin 256,0≤R6 (UInt8.ofNat n.val)∧R6 (UInt8.ofNat n.val)<16:=by decide
 have:=h ⟨c.toNat,c.toNat_lt⟩;simpa using this
def Ul (n:Int):UInt8:=U5.data.toList.getD n.toNat 0
def qB (c:UInt8):List UInt8:=if c.toNat=34∨c.toNat=92 then[92,c] else if c.toNat=10 then[92,110] else if c.toNat<32∨126<c.toNat then[92,120,Ul (R7 c),Ul (R6 c)] else[c]
theorem Rn (c:UInt8):(qB c).length≤4:=by
 unfold qB
 repeat' split
 all_goals simp
def po (s:ah) (i:Nat):List UInt8:=34::(s.data.toList.take i).flatMap qB
def pg (s:ah):ah:=⟨(34::s.data.toList.flatMap qB++ [34]).toArray⟩
theorem rM (s:ah): ∀i,(po s i).length≤1+4*i
 |0=>by simp[po]
 |i+1=>by
  have h:=rM s i;rcases WW i s.data.toList.length with hi|hi
  ·have:=Rn (s.data.toList.getD i default)
   simp only[po,Wu] at h ⊢;rw[bH hi,VL];omega
  ·simp only[po,VY hi] at h
   simp only[po,VY (by omega:s.data.toList.length≤i+1)];omega
theorem AV {s:ah} {i:Nat} (h:i<s.data.toList.length):po s (i+1)=po s i++qB (s.data.toList.getD i default):=by
 simp only[po,bH h,W7]
theorem Vl (s:ah) (hs:s.size≤1000):Pure Tryz.prog 274 [pS s] (pS (pg s)):=by
 have hl:s.data.toList.length=s.size:=by simp
 refine az ae Tryz.func274 rfl (by decide) Tryz.ntmps274 rfl (by simp) rfl ?_;refine gA rfl ?_;refine Bh ae rfl rfl rfl rfl rfl rfl rfl rfl rfl rfl rfl (by omega) ?_;refine gA rfl ?_
 refine aL 0 s.data.toList.length (V1 _) (fun i=>⟨[(3, .sl 1 0 (po s i).length 1),(8, .iv (.cK 1 s.data.toList.length fun k=>sR (s.data.toList.getD k default))),(9,pI s.data.toList.length),(10,pI i)],[(1,some (a7 1 (po s i) sR))],2⟩) (fun _=>True) [0] trivial
  (wk rfl rfl rfl ⟨.refl _,rfl, .refl _,rfl, .refl _,rfl, .refl _,rfl,trivial⟩ (hR rfl rfl rfl trivial) rfl) fun i hi _=>?_
 have hq:=rM s i;refine gA rfl ?_;refine VJ (fun h1=>?_) (fun h1=>?_);rotate_left
 ·have h1:s.data.toList.length≤i:=Ww fun hh=>absurd (Wz.2 hh) (of_decide_eq_false h1)
  refine gA rfl ?_;refine JP ae (po s i++ [34]) rfl rfl rfl rfl rfl rfl rfl rfl rfl rfl rfl rfl (by rw[VN];rfl) (by rw[VL];rfl) ?_;refine gA rfl (au (by first|exact .inr rfl|exact .inl rfl) rfl (.of_eq ?_));simp only[po,pg,VY h1];rfl
 have h1:i<s.data.toList.length:=Wz.1 (of_decide_eq_true h1);have hsu:=AV h1;have hgc:s.data.toList.getD (i:Int).toNat default=s.data.toList.getD i default:=rfl;generalize hc:s.data.toList.getD i default=c at hsu hgc;refine gA rfl ?_;refine VJ (fun h2=>?_) (fun h2=>?_)
 ·have h2:c.toNat=34:=by have:=of_decide_eq_true h2;rw[hgc] at this;omega
  rw[qB,if_pos (.inl h2)] at hsu;refine gA rfl ?_;exact⟨h1,trivial,[3],wk rfl rfl rfl ⟨.row (by rw[hsu,VL];rfl),rfl, .refl _,rfl, .refl _,rfl, .refl _,rfl,trivial⟩ (hR rfl (by rw[hsu,VN,←hc];rfl) rfl trivial) rfl⟩
 have h2: ¬c.toNat=34:=by have:=of_decide_eq_false h2;rw[hgc] at this;omega
 refine gA rfl ?_;refine VJ (fun h3=>?_) (fun h3=>?_)
 ·have h3:c.toNat=92:=by have:=of_decide_eq_true h3;rw[hgc] at this;omega
  rw[qB,if_pos (.inr h3)] at hsu;refine gA rfl ?_;exact⟨h1,trivial,[3],wk rfl rfl rfl ⟨.row (by rw[hsu,VL];rfl),rfl, .refl _,rfl, .refl _,rfl, .refl _,rfl,trivial⟩ (hR rfl (by rw[hsu,VN,←hc];rfl) rfl trivial) rfl⟩
 have h3: ¬c.toNat=92:=by have:=of_decide_eq_false h3;rw[hgc] at this;omega
 rw[qB,if_neg (by omega)] at hsu;refine gA rfl ?_;refine VJ (fun h4=>?_) (fun h4=>?_)
 ·have h4:c.toNat=10:=by have:=of_decide_eq_true h4;rw[hgc] at this;omega
  rw[if_pos h4] at hsu;refine gA rfl ?_;exact⟨h1,trivial,[3],wk rfl rfl rfl ⟨.row (by rw[hsu,VL];rfl),rfl, .refl _,rfl, .refl _,rfl, .refl _,rfl,trivial⟩ (hR rfl (by rw[hsu,VN];rfl) rfl trivial) rfl⟩
 have h4: ¬c.toNat=10:=by have:=of_decide_eq_false h4;rw[hgc] at this;omega
 rw[if_neg h4] at hsu;have hhi:=RA c;have hlo:=Rz c;rw[←hc] at hhi hlo;simp only[R7,R6] at hhi hlo;refine gA rfl ?_;refine VJ (fun h5=>?_) (fun h5=>?_)
 ·have h5:c.toNat<32:=by have:=of_decide_eq_true h5;rw[hgc] at this;omega
  rw[if_pos (.inl h5)] at hsu;refine lB rfl (by(repeat' (first|exact trivial|exact rfl|exact ak.refl _|exact hhi|exact hlo|apply VJ))<;>first|omega|exact hhi.1|exact hhi.2|exact hlo.1|exact hlo.2|simp) ?_;exact⟨h1,trivial,[3],wk rfl rfl rfl ⟨.row (by rw[hsu,VL];rfl),rfl, .refl _,rfl, .refl _,rfl, .refl _,rfl,trivial⟩ (hR rfl (by rw[hsu,VN,←hc];rfl) rfl trivial) rfl⟩
 have h5: ¬c.toNat<32:=by have:=of_decide_eq_false h5;rw[hgc] at this;omega
 refine gA rfl ?_;refine VJ (fun h6=>?_) (fun h6=>?_)
 ·have h6:126<c.toNat:=by have:=of_decide_eq_true h6;rw[hgc] at this;omega
  rw[if_pos (.inr h6)] at hsu;refine lB rfl (by(repeat' (first|exact trivial|exact rfl|exact ak.refl _|exact hhi|exact hlo|apply VJ))<;>first|omega|exact hhi.1|exact hhi.2|exact hlo.1|exact hlo.2|simp) ?_;exact⟨h1,trivial,[3],wk rfl rfl rfl ⟨.row (by rw[hsu,VL];rfl),rfl, .refl _,rfl, .refl _,rfl, .refl _,rfl,trivial⟩ (hR rfl (by rw[hsu,VN,←hc];rfl) rfl trivial) rfl⟩
 have h6: ¬126<c.toNat:=by have:=of_decide_eq_false h6;rw[hgc] at this;omega
 rw[if_neg (by omega)] at hsu;refine gA rfl ?_;exact⟨h1,trivial,[3],wk rfl rfl rfl ⟨.row (by rw[hsu,VL];rfl),rfl, .refl _,rfl, .refl _,rfl, .refl _,rfl,trivial⟩ (hR rfl (by rw[hsu,VN,←hc];rfl) rfl trivial) rfl⟩
def tF (v:s8):ah:=if v.kind=1 then⟨(Lib.itoa v.num).toArray⟩ else if iX v.sym then v.sym else pg v.sym
theorem rr {v:s8} (h:gp v=0) (h1:v.kind=1): -2147483647≤v.num∧v.num≤2147483647:=by
 unfold gp at h;rw[if_pos h1] at h;split at h
 ·rename_i h2;exact h2.2
 ·cases h
theorem rq {v:s8} (h:gp v=0) (h1: ¬v.kind=1):v.sym.size≤64:=by
 unfold gp at h;rw[if_neg h1] at h;split at h
 ·split at h
  ·rename_i h2;exact h2.2
  ·cases h
 ·cases h
theorem Vn (v:s8) (hv:gp v=0):Pure Tryz.prog 262 [ag v.c] (pS (tF v)):=by
 refine az ae Tryz.func262 rfl (by decide) Tryz.ntmps262 rfl (by simp) rfl ?_;refine gA rfl ?_;refine VJ (fun h1=>?_) (fun h1=>?_)
 ·have h1:v.kind=1:=by simpa using h1
  have:=rr hv h1;refine gA rfl (aj (Vm v.num (by omega) (by omega)) rfl rfl rfl rfl rfl rfl ?_);refine gA rfl (au (by first|exact .inr rfl|exact .inl rfl) rfl (.of_eq ?_));rw[tF,if_pos h1];rfl
 have h1: ¬v.kind=1:=by simpa using h1
 have hs:=rq hv h1;refine gA rfl (aj (Vh v.sym) rfl rfl rfl rfl rfl rfl ?_);refine gA rfl ?_;refine VJ (fun h2=>?_) (fun h2=>?_)
 ·have h2:iX v.sym=true:=h2
  refine gA rfl (au (by first|exact .inr rfl|exact .inl rfl) rfl (.of_eq ?_));rw[tF,if_neg h1,if_pos h2];rfl
 ·have h2:iX v.sym=false:=h2
  refine gA rfl (aj (Vl v.sym (by omega)) rfl rfl rfl rfl rfl rfl ?_);refine gA rfl (au (by first|exact .inr rfl|exact .inl rfl) rfl (.of_eq ?_));rw[tF,if_neg h1,if_neg (by rw[h2];simp)];rfl
def p1 (v:s8):ah:=if gp v=0 then tF v else⟨#[]⟩
theorem Vq (v:s8):Pure Tryz.prog 244 [ag v.c] (.bM [pS (p1 v),pI (gp v)]):=by
 refine az ae Tryz.func244 rfl (by decide) Tryz.ntmps244 rfl (by simp) rfl ?_;refine gA rfl (aj (Vv v) rfl rfl rfl rfl rfl rfl ?_);refine gA rfl ?_;refine VJ (fun h1=>?_) (fun h1=>?_)
 ·have h1: ¬gp v=0:=by simpa using h1
  refine gA rfl (au (by first|exact .inr rfl|exact .inl rfl) rfl (.of_eq ?_));rw[p1,if_neg h1];rfl
 ·have h1:gp v=0:=by simpa using h1
  refine gA rfl (aj (Vn v h1) rfl rfl rfl rfl rfl rfl ?_);refine gA rfl (au (by first|exact .inr rfl|exact .inl rfl) rfl (.of_eq ?_));rw[p1,if_pos h1,h1];rfl
def lD (w:WS) (v:s8):WS:=aU (aP w (decide (gp v=0))) [p1 v]
theorem d149 (w:WS) (v:s8) (hb:w.l.length≤1000000000000) (ht:(p1 v).size≤1000):b8 Tryz.prog 219 [.ptr 0 0,ag v.c] w.O (.bM []) (lD w v).H 3:=by
 refine aF ae Tryz.func219 rfl (by decide) Tryz.ntmps219 rfl (by simp) ?_;refine gA rfl (aj (Vq v) rfl rfl rfl rfl rfl rfl ?_);refine gA rfl (bX (d146 ⟨_,_,_,_⟩ (decide (gp v=0))) rfl rfl rfl rfl rfl rfl rfl rfl rfl rfl rfl rfl ?_);refine gA rfl (go_wp (d147 ⟨_,_,_,_⟩ [p1 v] (by simp) (by simp[ey,aP];omega)) rfl rfl rfl rfl rfl rfl rfl rfl rfl rfl rfl rfl ?_);refine gA rfl (bj (by first|exact .inr rfl|exact .inl rfl) rfl rfl rfl rfl rfl (by first|exact .refl _|exact .kb _) (by first|exact .refl _|exact .kb _) rfl rfl rfl rfl (.refl _) rfl rfl)
def b7 (op:Int):Int:=if op=1∨op=2 then 1 else if op=3∨op=4∨op=5 then 2 else if op=6 then 3 else 0
theorem J5 (op:Int):Pure Tryz.prog 246 [pI op] (pI (b7 op)):=by
 refine az ae Tryz.func246 rfl (by decide) Tryz.ntmps246 rfl (by simp) rfl ?_
 repeat' (first
  |(refine gA rfl (VJ (fun _=>?_) (fun _=>?_)))
  |(refine gA rfl (au (by first|exact .inr rfl|exact .inl rfl) rfl (.of_eq ?_))))
 all_goals(refine(CG ?_:pI _=pI _);simp only[X6,Yf,decide_eq_true_eq,decide_eq_false_iff_not] at*;simp_all [b7])
def dp (e:Expr):Int:=if e.kind=4 then b7 e.op else 4
theorem BA (e:Expr):Pure Tryz.prog 264 [ag e.c] (pI (dp e)):=by
 refine az ae Tryz.func264 rfl (by decide) Tryz.ntmps264 rfl (by simp) rfl ?_
 repeat' (first
  |(refine gA rfl (VJ (fun _=>?_) (fun _=>?_)))
  |(refine gA rfl (aj (J5 e.op) rfl rfl rfl rfl rfl rfl ?_))
  |(refine gA rfl (au (by first|exact .inr rfl|exact .inl rfl) rfl (.of_eq ?_))))
 all_goals(refine(CG ?_:pI _=pI _);simp_all [dp])
def dq (v:s8):Bool:=decide (v.kind=0)&&(decide (v.num=0)&&(decide (v.sym=VT)&&true))
def iz (e:Expr):Bool:=decide (e.kind=0)&&(decide (e.var=⟨#[]⟩)&&(dq e.val&&(decide (e.op=0)&&decide ((e.args.length:Int)=0))))
theorem J6 (e:Expr):Pure Tryz.prog 245 [ag e.c] (pB (iz e)):=by
 refine az ae Tryz.func245 rfl (by decide) Tryz.ntmps245 rfl (by simp) rfl ?_
 repeat' (first
  |(refine gA rfl (VJ (fun _=>?_) (fun _=>?_)))
  |(refine gA rfl (au (by first|exact .inr rfl|exact .inl rfl) rfl (.of_eq ?_))))
 all_goals(refine(kE ?_:pB _=pB _))
 all_goals(simp only[iz,dq, *];rfl)
def jS (l:Lit):Bool:=
 (decide (l.kind=1)||decide (l.kind=2)||!(!decide (l.atom.rel=⟨#[]⟩)||decide ((l.atom.an.length:Int)>0)))&&
 ((!(!decide (l.kind=3))||!(!decide (l.op=0)||(!iz l.left||!iz l.right)))&&
 (decide (l.kind=4)||(decide (l.dC=0)&&(decide (l.bs=⟨#[]⟩)&&(iz l.jV&&decide ((l.ar.length:Int)=0))))))
set_option maxHeartbeats 4000000 in
theorem Vp (l:Lit):Pure Tryz.prog 221 [ag l.c] (pB (jS l)):=by
 refine az ae Tryz.func221 rfl (by decide) Tryz.ntmps221 rfl (by simp) rfl ?_
 repeat' (first
  |(refine gA rfl (VJ (fun _=>?_) (fun _=>?_)))
  |(refine gA rfl (aj (J6 l.left) rfl rfl rfl rfl rfl rfl ?_))
  |(refine gA rfl (aj (J6 l.right) rfl rfl rfl rfl rfl rfl ?_))
  |(refine gA rfl (aj (J6 l.jV) rfl rfl rfl rfl rfl rfl ?_))
  |(refine gA rfl (au (by first|exact .inr rfl|exact .inl rfl) rfl (.of_eq ?_))))
 all_goals(refine(kE ?_:pB _=pB _))
 all_goals(try simp only[X6,Yf] at*)
 all_goals(simp_all [jS])
def lq (op:Int):ah:=if op=1 then⟨#[43]⟩ else if op=2 then⟨#[45]⟩ else if op=3 then⟨#[42]⟩ else if op=4 then⟨#[47]⟩ else⟨#[109,111,100]⟩
def sgL:ah:=⟨#[43,45,42,47]⟩
theorem Vk (op:Int):Pure Tryz.prog 265 [pI op] (pS (lq op)):=by
 refine az ae Tryz.func265 rfl (by decide) Tryz.ntmps265 rfl (by simp) rfl ?_;refine gA rfl ?_;refine ux ae rfl rfl rfl rfl rfl rfl rfl ?_;refine gA rfl ?_
 refine aL 0 4 (by decide) (fun i=>⟨[(0,pI op),(5, .ptr 0 0)],[(0,some (.dt sgL i))],1⟩) (fun i=> ∀k:Nat,k<i→ ¬(k:Int)+1=op) [] (by simp)
  (wk rfl rfl rfl ⟨.refl _,rfl, .refl _,rfl,trivial⟩ ⟨⟨_,rfl, .of_eq rfl⟩,VI rfl,trivial,trivial⟩ rfl) fun i hi hJ=>?_
 have hcs:i=0∨i=1∨i=2∨i=3∨i=4:=by omega
 rcases hcs with rfl|rfl|rfl|rfl|rfl
 ·refine gA rfl ?_
  refine km rfl rfl rfl rfl rfl rfl (fun h=>absurd h (by decide)) (fun _=>?_);refine gA rfl ?_;refine VJ (fun h=>?_) (fun h=>?_)
  ·have h:op=1:=by have:=of_decide_eq_true h;omega
   refine gA rfl ?_;refine qV ae rfl rfl rfl rfl rfl rfl rfl rfl rfl ?_;refine gA rfl (au (by first|exact .inr rfl|exact .inl rfl) rfl (.of_eq ?_));refine(congrArg pS ?_:pS _=pS _);subst h;decide
  ·have h: ¬op=1:=by have:=of_decide_eq_false h;omega
   refine gA rfl ?_;exact⟨by decide,fun k hk=>(by rcases(by omega:k<0∨k=0) with h'|rfl;exact hJ k h';omega),[],wk rfl rfl rfl ⟨.refl _,rfl, .refl _,rfl,trivial⟩ ⟨⟨_,rfl, .of_eq rfl⟩,VI rfl,trivial,trivial⟩ rfl⟩
 ·refine gA rfl ?_
  refine km rfl rfl rfl rfl rfl rfl (fun h=>absurd h (by decide)) (fun _=>?_);refine gA rfl ?_;refine VJ (fun h=>?_) (fun h=>?_)
  ·have h:op=2:=by have:=of_decide_eq_true h;omega
   refine gA rfl ?_;refine qV ae rfl rfl rfl rfl rfl rfl rfl rfl rfl ?_;refine gA rfl (au (by first|exact .inr rfl|exact .inl rfl) rfl (.of_eq ?_));refine(congrArg pS ?_:pS _=pS _);subst h;decide
  ·have h: ¬op=2:=by have:=of_decide_eq_false h;omega
   refine gA rfl ?_;exact⟨by decide,fun k hk=>(by rcases(by omega:k<1∨k=1) with h'|rfl;exact hJ k h';omega),[],wk rfl rfl rfl ⟨.refl _,rfl, .refl _,rfl,trivial⟩ ⟨⟨_,rfl, .of_eq rfl⟩,VI rfl,trivial,trivial⟩ rfl⟩
 ·refine gA rfl ?_
  refine km rfl rfl rfl rfl rfl rfl (fun h=>absurd h (by decide)) (fun _=>?_);refine gA rfl ?_;refine VJ (fun h=>?_) (fun h=>?_)
  ·have h:op=3:=by have:=of_decide_eq_true h;omega
   refine gA rfl ?_;refine qV ae rfl rfl rfl rfl rfl rfl rfl rfl rfl ?_;refine gA rfl (au (by first|exact .inr rfl|exact .inl rfl) rfl (.of_eq ?_));refine(congrArg pS ?_:pS _=pS _);subst h;decide
  ·have h: ¬op=3:=by have:=of_decide_eq_false h;omega
   refine gA rfl ?_;exact⟨by decide,fun k hk=>(by rcases(by omega:k<2∨k=2) with h'|rfl;exact hJ k h';omega),[],wk rfl rfl rfl ⟨.refl _,rfl, .refl _,rfl,trivial⟩ ⟨⟨_,rfl, .of_eq rfl⟩,VI rfl,trivial,trivial⟩ rfl⟩
 ·refine gA rfl ?_
  refine km rfl rfl rfl rfl rfl rfl (fun h=>absurd h (by decide)) (fun _=>?_);refine gA rfl ?_;refine VJ (fun h=>?_) (fun h=>?_)
  ·have h:op=4:=by have:=of_decide_eq_true h;omega
   refine gA rfl ?_;refine qV ae rfl rfl rfl rfl rfl rfl rfl rfl rfl ?_;refine gA rfl (au (by first|exact .inr rfl|exact .inl rfl) rfl (.of_eq ?_));refine(congrArg pS ?_:pS _=pS _);subst h;decide
  ·have h: ¬op=4:=by have:=of_decide_eq_false h;omega
   refine gA rfl ?_;exact⟨by decide,fun k hk=>(by rcases(by omega:k<3∨k=3) with h'|rfl;exact hJ k h';omega),[],wk rfl rfl rfl ⟨.refl _,rfl, .refl _,rfl,trivial⟩ ⟨⟨_,rfl, .of_eq rfl⟩,VI rfl,trivial,trivial⟩ rfl⟩
 ·refine gA rfl ?_
  refine km rfl rfl rfl rfl rfl rfl (fun _=>?_) (fun h=>absurd h (by decide));refine gA rfl (au (by first|exact .inr rfl|exact .inl rfl) rfl (.of_eq ?_));have h1:=hJ 0 (by decide);have h2:=hJ 1 (by decide);have h3:=hJ 2 (by decide);have h4:=hJ 3 (by decide);rw[lq,if_neg (by omega),if_neg (by omega),if_neg (by omega),if_neg (by omega)];rfl
end Go.Proofs.YtflegjieadkonaaGreatDoor
namespace Go.Proofs.YtflegjieadkonaaGreatDoor
open Go Go.Al
set_option maxRecDepth 10000
theorem yu (s:ah):(pg s).size≤2+4*s.size:=by
 have h:=rM s s.data.toList.length;simp only[po,Xx,Wu] at h;have e:(pg s).size=(34::s.data.toList.flatMap qB++ [34]).length:=by simp[pg,YO]
 have:s.data.toList.length=s.size:=by simp
 rw[e,VL,Wu,WM];omega
theorem oZ (v:s8):(p1 v).size≤300:=by
 unfold p1;split
 ·rename_i hv
  unfold tF;split
  ·rename_i h1
   have:=rr hv h1;have h2:=Lib.itoa_length_le v.num (by omega) (by omega);have e:(⟨(Lib.itoa v.num).toArray⟩:ByteArray).size=(Lib.itoa v.num).length:=by simp[YO]
   omega
  ·rename_i h1
   have h2:=rq hv h1;split
   ·omega
   ·have:=yu v.sym;omega
 ·decide
mutual
def Expr.ts:Expr→Nat
 | .mk _ v _ _ args=>v.size+400+Expr.ln args
def Expr.ln:List Expr→Nat
 | []=>0
 |e::r=>e.ts+Expr.ln r
end
theorem Expr.pZ (e:Expr):e.ts=e.var.size+400+Expr.ln e.args:=by cases e;rfl
theorem Expr.uU: ∀(l:List Expr) (k:Nat),k<l.length→(l.getD k default).ts≤Expr.ln l
 |e::r,0,_=>by simp[Expr.ln]
 |e::r,k+1,h=>by
  have:=Expr.uU r k (by simpa using h)
  simp only[Xj,Expr.ln];omega
 | [],k,h=>by simp at h
theorem Expr.zc: ∀(l:List Expr),l.length=2→(l.getD 0 default).ts+(l.getD 1 default).ts≤Expr.ln l
 | [a,b],_=>by simp[Expr.ln]
 | [],h=>by simp at h
 | [a],h=>by simp at h
 |a::b::c::r,h=>by simp at h
def sM:ah:=⟨#[45]⟩
def sO:ah:=⟨#[40]⟩
def sC:ah:=⟨#[41]⟩
def zj:ah:=⟨#[32]⟩
def mw (w:WS):WS:=⟨w.fr,w.l,true,w.br⟩
def mX (e:Expr):Bool:=eQ e.var&&(dq e.val&&(decide (e.op=0)&&decide ((e.args.length:Int)=0)))
def oj (e:Expr):Bool:=decide (e.var=⟨#[]⟩)&&(decide (e.op=0)&&decide ((e.args.length:Int)=0))
def qG (e:Expr):Bool:=decide (e.var=⟨#[]⟩)&&(dq e.val&&decide (b7 e.op>0))
def bR (e:Expr):Expr:=e.args.getD 0 default
def vZ (e:Expr):Expr:=e.args.getD 1 default
def vn (e:Expr):Bool:=decide (e.kind=2)&&decide (e.val.kind=1)
def lu (a:Expr):Bool:=decide (dp a<3)||(vn a&&decide (a.val.num>0))
def iY (w:WS) (e:Expr) (k:WS):WS:=
 if w.bad=true then mw w else if e.kind=1 then aU (aP w (mX e)) [e.var] else if e.kind=2 then lD (aP w (oj e)) e.val else if e.kind=4 then k else mw w
def j8 (arg:Bool→WS→Expr→WS) (w:WS) (e:Expr):WS:=
 if w.bad=true then mw w else if e.op=6 then
  (if e.args.length=1 then arg (lu (bR e)) (if(vn (bR e)&&decide ((bR e).val.num=0))=true then aU (aU w [sM]) [sM] else aU w [sM]) (bR e) else mw w)
 else if e.args.length=2 then arg (decide (dp (vZ e)≤b7 e.op)) (aU (arg (decide (dp (bR e)<b7 e.op)) w (bR e)) [zj,lq e.op,zj]) (vZ e) else mw w
def cF:Nat→WS→Expr→WS
 |0,w,_=>mw w
 |1,w,e=>iY w e (mw (aP w (qG e)))
 |m+2,w,e=>iY w e (j8 (fun must w a=>if must=true then aU (cF m (aU w [sO]) a) [sC] else cF (m+1) w a) (aP w (qG e)) e)
def tr (m:Nat) (must:Bool) (w:WS) (a:Expr):WS:=if must=true then aU (cF m (aU w [sO]) a) [sC] else cF (m+1) w a
theorem aO (w:WS) (b:Bool):(aP w b).l=w.l:=rfl
theorem eN (w:WS):(mw w).l=w.l:=rfl
theorem bC (s:ah):ey [s]=s.size:=by simp[ey]
theorem wE (op:Int):(lq op).size≤3:=by
 unfold lq
 repeat' split
 all_goals decide
theorem aN (w:WS) (s:ah):(aU w [s]).l.length=w.l.length+s.size:=by rw[gL,bC]
theorem rn (w:WS) (v:s8):(lD w v).l.length≤w.l.length+300:=by
 have:=oZ v;rw[lD,aN,aO];omega
theorem um (w k:WS) (e:Expr) (h:k.l.length≤w.l.length+e.ts):(iY w e k).l.length≤w.l.length+e.ts:=by
 have:=e.pZ;unfold iY
 repeat' split
 ·rw[eN];omega
 ·rw[aN,aO];omega
 ·have:=rn (aP w (oj e)) e.val
  rw[aO] at this;omega
 ·exact h
 ·rw[eN];omega
theorem A0 (arg:Bool→WS→Expr→WS) (harg: ∀b w a,(arg b w a).l.length≤w.l.length+(2+a.ts)) (w:WS) (e:Expr):(j8 arg w e).l.length≤w.l.length+e.ts:=by
 have h0:=e.pZ;unfold j8;split
 ·rw[eN];omega
 split
 ·split
  ·rename_i h1
   have hg:=Expr.uU e.args 0 (by omega);have e1:sM.size=1:=rfl;split
   ·have:=harg (lu (bR e)) (aU (aU w [sM]) [sM]) (bR e)
    rw[aN,aN] at this;simp only[bR] at this ⊢;omega
   ·have:=harg (lu (bR e)) (aU w [sM]) (bR e)
    rw[aN] at this;simp only[bR] at this ⊢;omega
  ·rw[eN];omega
 ·split
  ·rename_i h1
   have hg:=Expr.zc e.args h1;have h2:=harg (decide (dp (vZ e)≤b7 e.op)) (aU (arg (decide (dp (bR e)<b7 e.op)) w (bR e)) [zj,lq e.op,zj]) (vZ e);have h3:=harg (decide (dp (bR e)<b7 e.op)) w (bR e);have h4:=wE e.op;have e1:zj.size=1:=rfl;rw[gL] at h2;have e2:ey [zj,lq e.op,zj]=1+((lq e.op).size+1):=by simp[ey,e1]
   simp only[bR,vZ] at*;omega
  ·rw[eN];omega
theorem cT: ∀(n:Nat) (w:WS) (e:Expr),(cF n w e).l.length≤w.l.length+e.ts
 |0,w,e=>by rw[cF,eN];omega
 |1,w,e=>by rw[cF];exact um _ _ _ (by rw[eN,aO];omega)
 |m+2,w,e=>by
  rw[cF];refine um _ _ _ ?_
  have:=A0 (fun must w a=>if must=true then aU (cF m (aU w [sO]) a) [sC] else cF (m+1) w a) (fun b w a=>by
   split
   ·have h1:=cT m (aU w [sO]) a
    have e1:sO.size=1:=rfl;have e2:sC.size=1:=rfl;rw[aN] at h1 ⊢;omega
   ·have:=cT (m+1) w a
    omega) (aP w (qG e)) e
  rwa[aO] at this
theorem D5 (m:Nat) (b:Bool) (w:WS) (a:Expr):(tr m b w a).l.length≤w.l.length+(2+a.ts):=by
 unfold tr;split
 ·have h1:=cT m (aU w [sO]) a
  have e1:sO.size=1:=rfl;have e2:sC.size=1:=rfl;rw[aN] at h1 ⊢;omega
 ·have:=cT (m+1) w a
  omega
def PE (n:Nat):Prop:= ∀(d:Int) (w:WS) (e:Expr),d+1=n→w.l.length+e.ts≤1000000000→b8 Tryz.prog 222 [.ptr 0 0,ag e.c,pI d] w.O (.bM []) (cF n w e).H 3
theorem d225 (n:Nat) (hn:n≤1000) (hA:PE (n+1)) (hB:PE n) (must:Bool) (d:Int) (hd:d=n) (w:WS) (e:Expr) (hb:w.l.length+e.ts+2≤1000000000):b8 Tryz.prog 263 [.ptr 0 0,ag e.c,pB must,pI d] w.O (.bM []) (tr n must w e).H 3:=by
 refine aF ae Tryz.func263 rfl (by decide) Tryz.ntmps263 rfl (by simp) ?_;refine gA rfl ?_;refine VJ (fun h=>?_) (fun h=>?_)
 ·have h:must=false:=by simpa using h
  rw[tr,if_neg (by rw[h];simp)];refine gA rfl (bX (hA d w e (by omega) (by omega)) rfl rfl rfl rfl rfl rfl rfl rfl rfl rfl rfl rfl ?_);refine gA rfl (bj (by first|exact .inr rfl|exact .inl rfl) rfl rfl rfl rfl rfl (by first|exact .refl _|exact .kb _) (by first|exact .refl _|exact .kb _) rfl rfl rfl rfl (.refl _) rfl rfl)
 ·have h:must=true:=by simpa using h
  rw[tr,if_pos h];have e1:sO.size=1:=rfl;have e2:sC.size=1:=rfl;have hl:=cT n (aU w [sO]) e;have hp:=aN w sO;refine gA rfl (go_wp (d147 w [sO] (by simp) (by rw[bC,e1];omega)) rfl rfl rfl rfl rfl rfl rfl rfl rfl rfl rfl rfl ?_);refine gA rfl (bX (hB (d-1) (aU w [sO]) e (by omega) (by omega)) rfl rfl rfl rfl rfl rfl rfl rfl rfl rfl rfl rfl ?_);refine gA rfl (go_wp (d147 (cF n (aU w [sO]) e) [sC] (by simp) (by rw[bC,e2];omega)) rfl rfl rfl rfl rfl rfl rfl rfl rfl rfl rfl rfl ?_);refine gA rfl (bj (by first|exact .inr rfl|exact .inl rfl) rfl rfl rfl rfl rfl (by first|exact .refl _|exact .kb _) (by first|exact .refl _|exact .kb _) rfl rfl rfl rfl (.refl _) rfl rfl)
theorem Uw (d:Int) (hd:d<0) (w:WS) (e:Expr):b8 Tryz.prog 247 [.ptr 0 0,ag e.c,pI d] w.O (.bM []) (mw w).H 3:=by
 refine aF ae Tryz.func247 rfl (by decide) Tryz.ntmps247 rfl (by simp) ?_
 repeat' (first
  |((rename_i h;exact absurd hd (of_decide_eq_false h)))
  |(refine gA rfl (VJ (fun _=>?_) (fun _=>?_)))
  |(refine gA rfl (bj (by first|exact .inr rfl|exact .inl rfl) rfl rfl rfl rfl rfl (by first|exact .refl _|exact .kb _) (by first|exact .refl _|exact .kb _) rfl rfl rfl rfl (.refl _) rfl rfl)))
set_option maxHeartbeats 2000000 in
theorem d213 (m:Nat) (hm:m≤900) (hA:PE (m+1)) (hB:PE m) (d:Int) (hd:d=m) (w:WS) (e:Expr) (hb:w.l.length+e.ts≤1000000000):b8 Tryz.prog 247 [.ptr 0 0,ag e.c,pI d] w.O (.bM []) (j8 (tr m) w e).H 3:=by
 refine b8.le (aa:=[.ptr 0 0,ag e.c,pI d]) (args:=[.ptr 0 0,ag e.c1,pI d]) ?_ ⟨.refl _,e.zE, .refl _,trivial⟩;have hts:=e.pZ;have e1:sM.size=1:=rfl;have hm':m≤1000:=by omega
 refine aF ae Tryz.func247 rfl (by decide) Tryz.ntmps247 rfl (by simp) ?_;refine gA rfl ?_;refine VJ (fun h6=>?_) (fun h6=>?_)
 ·have h6:e.op=6:=of_decide_eq_true h6
  refine gA rfl ?_;refine VJ (fun h1=>?_) (fun h1=>?_);rotate_left
  ·have h1:w.bad=true:=h1
   rw[j8,if_pos h1];refine gA rfl (bj (by first|exact .inr rfl|exact .inl rfl) rfl rfl rfl rfl rfl (by first|exact .refl _|exact .kb _) (by first|exact .refl _|exact .kb _) rfl rfl rfl rfl (.refl _) rfl rfl)
  have h1: ¬w.bad=true:=by rw[show w.bad=false from h1];simp
  refine gA rfl ?_;refine VJ (fun h2=>?_) (fun h2=>?_);rotate_left
  ·have h2: ¬e.args.length=1:=by simp at h2;omega
   rw[j8,if_neg h1,if_pos h6,if_neg h2];refine gA rfl (bj (by first|exact .inr rfl|exact .inl rfl) rfl rfl rfl rfl rfl (by first|exact .refl _|exact .kb _) (by first|exact .refl _|exact .kb _) rfl rfl rfl rfl (.refl _) rfl rfl)
  have h2:e.args.length=1:=by simp at h2;omega
  have hg:(bR e).ts≤_:=Expr.uU e.args 0 (by omega);have hop:j8 (tr m) w e=tr m (lu (bR e)) (if(vn (bR e)&&decide ((bR e).val.num=0))=true then aU (aU w [sM]) [sM] else aU w [sM]) (bR e):=by rw[j8,if_neg h1,if_pos h6,if_pos h2]
  have hga:e.args.getD 0 default=bR e:=rfl;refine gA rfl ?_;refine VJ (fun h3=>?_) (fun h3=>?_)
  ·exact absurd (of_decide_eq_true h3) (by omega)
  refine gA rfl ?_;refine VJ (fun h7=>?_) (fun h7=>?_);rotate_left
  ·exact absurd (of_decide_eq_false h7) (by simp)
  have hl1:=aN w sM;refine gA rfl ?_;refine VJ (fun hk=>?_) (fun hk=>?_)
  ·have hk':(bR e).kind=2:=of_decide_eq_true hk
   refine gA rfl (go_wp (d147 w [sM] (by simp) (by rw[bC,e1];omega)) rfl rfl rfl rfl rfl rfl rfl rfl rfl rfl rfl rfl ?_);refine gA rfl ?_;refine VJ (fun hv=>?_) (fun hv=>?_);rotate_left
   ·have hv': ¬(bR e).val.kind=1:=of_decide_eq_false hv
    have hnb:vn (bR e)=false:=by rw[vn,decide_eq_false hv',XO]
    rw[hnb,XA,if_neg (by simp)] at hop;refine gA rfl (cz ae [] (Pure.xO (BA (bR e))) rfl rfl rfl rfl rfl rfl rfl rfl rfl rfl rfl rfl (by(repeat' (first|exact trivial|exact rfl|exact ak.refl _|exact ak.bk (by assumption)|apply VJ))<;>first|omega|(simp only[VQ];omega)|(simp;done)|(simp;omega)) rfl (by(repeat' (first|exact trivial|exact rfl|exact ak.refl _|exact ak.bk (by assumption)|apply VJ))<;>first|omega|(simp only[VQ];omega)|(simp;done)|(simp;omega)) ?_);refine gA rfl ?_;refine VJ (fun hb3=>?_) (fun hb3=>?_)
    ·have hb3':dp (bR e)<3:=of_decide_eq_true hb3
     rw[lu,decide_eq_true hb3',Yn] at hop;rw[hop];refine gA rfl (nh (d225 m hm' hA hB true d hd (aU w [sM]) (bR e) (by rw[hl1,e1];omega)) rfl rfl rfl rfl rfl rfl rfl rfl rfl rfl rfl rfl rfl rfl rfl rfl (by(repeat' (first|exact trivial|exact rfl|exact ak.refl _|exact ak.bk (by assumption)|apply VJ))<;>first|omega|(simp only[VQ];omega)|(simp;done)|(simp;omega)) rfl (by(repeat' (first|exact trivial|exact rfl|exact ak.refl _|exact ak.bk (by assumption)|apply VJ))<;>first|omega|(simp only[VQ];omega)|(simp;done)|(simp;omega)) ?_);refine gA rfl (bj (by first|exact .inr rfl|exact .inl rfl) rfl rfl rfl rfl rfl (by first|exact .refl _|exact .kb _) (by first|exact .refl _|exact .kb _) rfl rfl rfl rfl (.refl _) rfl rfl)
    ·have hb3': ¬dp (bR e)<3:=of_decide_eq_false hb3
     refine gA rfl ?_;refine VJ (fun hz=>?_) (fun hz=>?_)
     ·exact absurd (of_decide_eq_true hz) hv'
     rw[lu,decide_eq_false hb3',Xr,hnb,XA] at hop;rw[hop];refine gA rfl (nh (d225 m hm' hA hB false d hd (aU w [sM]) (bR e) (by rw[hl1,e1];omega)) rfl rfl rfl rfl rfl rfl rfl rfl rfl rfl rfl rfl rfl rfl rfl rfl (by(repeat' (first|exact trivial|exact rfl|exact ak.refl _|exact ak.bk (by assumption)|apply VJ))<;>first|omega|(simp only[VQ];omega)|(simp;done)|(simp;omega)) rfl (by(repeat' (first|exact trivial|exact rfl|exact ak.refl _|exact ak.bk (by assumption)|apply VJ))<;>first|omega|(simp only[VQ];omega)|(simp;done)|(simp;omega)) ?_);refine gA rfl (bj (by first|exact .inr rfl|exact .inl rfl) rfl rfl rfl rfl rfl (by first|exact .refl _|exact .kb _) (by first|exact .refl _|exact .kb _) rfl rfl rfl rfl (.refl _) rfl rfl)
   ·have hv':(bR e).val.kind=1:=of_decide_eq_true hv
    have hnb:vn (bR e)=true:=by rw[vn,decide_eq_true hv',decide_eq_true hk'];rfl
    rw[hnb,XU] at hop;refine gA rfl ?_;refine VJ (fun h0=>?_) (fun h0=>?_)
    ·have h0':(bR e).val.num=0:=of_decide_eq_true h0
     rw[if_pos (decide_eq_true h0')] at hop;refine gA rfl (go_wp (d147 (aU w [sM]) [sM] (by simp) (by rw[bC,hl1,e1];omega)) rfl rfl rfl rfl rfl rfl rfl rfl rfl rfl rfl rfl ?_);refine gA rfl (cz ae [] (Pure.xO (BA (bR e))) rfl rfl rfl rfl rfl rfl rfl rfl rfl rfl rfl rfl (by(repeat' (first|exact trivial|exact rfl|exact ak.refl _|exact ak.bk (by assumption)|apply VJ))<;>first|omega|(simp only[VQ];omega)|(simp;done)|(simp;omega)) rfl (by(repeat' (first|exact trivial|exact rfl|exact ak.refl _|exact ak.bk (by assumption)|apply VJ))<;>first|omega|(simp only[VQ];omega)|(simp;done)|(simp;omega)) ?_);refine gA rfl ?_;refine VJ (fun hb3=>?_) (fun hb3=>?_)
     ·have hb3':dp (bR e)<3:=of_decide_eq_true hb3
      rw[lu,decide_eq_true hb3',Yn] at hop;rw[hop];refine gA rfl (nh (d225 m hm' hA hB true d hd (aU (aU w [sM]) [sM]) (bR e) (by rw[aN,hl1,e1];omega)) rfl rfl rfl rfl rfl rfl rfl rfl rfl rfl rfl rfl rfl rfl rfl rfl (by(repeat' (first|exact trivial|exact rfl|exact ak.refl _|exact ak.bk (by assumption)|apply VJ))<;>first|omega|(simp only[VQ];omega)|(simp;done)|(simp;omega)) rfl (by(repeat' (first|exact trivial|exact rfl|exact ak.refl _|exact ak.bk (by assumption)|apply VJ))<;>first|omega|(simp only[VQ];omega)|(simp;done)|(simp;omega)) ?_);refine gA rfl (bj (by first|exact .inr rfl|exact .inl rfl) rfl rfl rfl rfl rfl (by first|exact .refl _|exact .kb _) (by first|exact .refl _|exact .kb _) rfl rfl rfl rfl (.refl _) rfl rfl)
     ·have hb3': ¬dp (bR e)<3:=of_decide_eq_false hb3
      refine gA rfl ?_;refine VJ (fun hz=>?_) (fun hz=>?_);rotate_left
      ·exact absurd hv' (of_decide_eq_false hz)
      rw[lu,decide_eq_false hb3',Xr,hnb,XU] at hop;rw[hop];refine gA rfl (nh (d225 m hm' hA hB (decide ((bR e).val.num>0)) d hd (aU (aU w [sM]) [sM]) (bR e) (by rw[aN,hl1,e1];omega)) rfl rfl rfl rfl rfl rfl rfl rfl rfl rfl rfl rfl rfl rfl rfl rfl (by(repeat' (first|exact trivial|exact rfl|exact ak.refl _|exact ak.bk (by assumption)|apply VJ))<;>first|omega|(simp only[VQ];omega)|(simp;done)|(simp;omega)) rfl (by(repeat' (first|exact trivial|exact rfl|exact ak.refl _|exact ak.bk (by assumption)|apply VJ))<;>first|omega|(simp only[VQ];omega)|(simp;done)|(simp;omega)) ?_);refine gA rfl (bj (by first|exact .inr rfl|exact .inl rfl) rfl rfl rfl rfl rfl (by first|exact .refl _|exact .kb _) (by first|exact .refl _|exact .kb _) rfl rfl rfl rfl (.refl _) rfl rfl)
    ·have h0': ¬(bR e).val.num=0:=of_decide_eq_false h0
     rw[if_neg (by simpa using h0')] at hop;refine gA rfl (cz ae [] (Pure.xO (BA (bR e))) rfl rfl rfl rfl rfl rfl rfl rfl rfl rfl rfl rfl (by(repeat' (first|exact trivial|exact rfl|exact ak.refl _|exact ak.bk (by assumption)|apply VJ))<;>first|omega|(simp only[VQ];omega)|(simp;done)|(simp;omega)) rfl (by(repeat' (first|exact trivial|exact rfl|exact ak.refl _|exact ak.bk (by assumption)|apply VJ))<;>first|omega|(simp only[VQ];omega)|(simp;done)|(simp;omega)) ?_);refine gA rfl ?_;refine VJ (fun hb3=>?_) (fun hb3=>?_)
     ·have hb3':dp (bR e)<3:=of_decide_eq_true hb3
      rw[lu,decide_eq_true hb3',Yn] at hop;rw[hop];refine gA rfl (nh (d225 m hm' hA hB true d hd (aU w [sM]) (bR e) (by rw[hl1,e1];omega)) rfl rfl rfl rfl rfl rfl rfl rfl rfl rfl rfl rfl rfl rfl rfl rfl (by(repeat' (first|exact trivial|exact rfl|exact ak.refl _|exact ak.bk (by assumption)|apply VJ))<;>first|omega|(simp only[VQ];omega)|(simp;done)|(simp;omega)) rfl (by(repeat' (first|exact trivial|exact rfl|exact ak.refl _|exact ak.bk (by assumption)|apply VJ))<;>first|omega|(simp only[VQ];omega)|(simp;done)|(simp;omega)) ?_);refine gA rfl (bj (by first|exact .inr rfl|exact .inl rfl) rfl rfl rfl rfl rfl (by first|exact .refl _|exact .kb _) (by first|exact .refl _|exact .kb _) rfl rfl rfl rfl (.refl _) rfl rfl)
     ·have hb3': ¬dp (bR e)<3:=of_decide_eq_false hb3
      refine gA rfl ?_;refine VJ (fun hz=>?_) (fun hz=>?_);rotate_left
      ·exact absurd hv' (of_decide_eq_false hz)
      rw[lu,decide_eq_false hb3',Xr,hnb,XU] at hop;rw[hop];refine gA rfl (nh (d225 m hm' hA hB (decide ((bR e).val.num>0)) d hd (aU w [sM]) (bR e) (by rw[hl1,e1];omega)) rfl rfl rfl rfl rfl rfl rfl rfl rfl rfl rfl rfl rfl rfl rfl rfl (by(repeat' (first|exact trivial|exact rfl|exact ak.refl _|exact ak.bk (by assumption)|apply VJ))<;>first|omega|(simp only[VQ];omega)|(simp;done)|(simp;omega)) rfl (by(repeat' (first|exact trivial|exact rfl|exact ak.refl _|exact ak.bk (by assumption)|apply VJ))<;>first|omega|(simp only[VQ];omega)|(simp;done)|(simp;omega)) ?_);refine gA rfl (bj (by first|exact .inr rfl|exact .inl rfl) rfl rfl rfl rfl rfl (by first|exact .refl _|exact .kb _) (by first|exact .refl _|exact .kb _) rfl rfl rfl rfl (.refl _) rfl rfl)
  ·have hk': ¬(bR e).kind=2:=of_decide_eq_false hk
   have hnb:vn (bR e)=false:=by rw[vn,decide_eq_false hk'];rfl
   rw[hnb,XA,if_neg (by simp)] at hop;refine gA rfl (go_wp (d147 w [sM] (by simp) (by rw[bC,e1];omega)) rfl rfl rfl rfl rfl rfl rfl rfl rfl rfl rfl rfl ?_);refine gA rfl (cz ae [] (Pure.xO (BA (bR e))) rfl rfl rfl rfl rfl rfl rfl rfl rfl rfl rfl rfl (by(repeat' (first|exact trivial|exact rfl|exact ak.refl _|exact ak.bk (by assumption)|apply VJ))<;>first|omega|(simp only[VQ];omega)|(simp;done)|(simp;omega)) rfl (by(repeat' (first|exact trivial|exact rfl|exact ak.refl _|exact ak.bk (by assumption)|apply VJ))<;>first|omega|(simp only[VQ];omega)|(simp;done)|(simp;omega)) ?_);refine gA rfl ?_;refine VJ (fun hb3=>?_) (fun hb3=>?_)
   ·have hb3':dp (bR e)<3:=of_decide_eq_true hb3
    rw[lu,decide_eq_true hb3',Yn] at hop;rw[hop];refine gA rfl (nh (d225 m hm' hA hB true d hd (aU w [sM]) (bR e) (by rw[hl1,e1];omega)) rfl rfl rfl rfl rfl rfl rfl rfl rfl rfl rfl rfl rfl rfl rfl rfl (by(repeat' (first|exact trivial|exact rfl|exact ak.refl _|exact ak.bk (by assumption)|apply VJ))<;>first|omega|(simp only[VQ];omega)|(simp;done)|(simp;omega)) rfl (by(repeat' (first|exact trivial|exact rfl|exact ak.refl _|exact ak.bk (by assumption)|apply VJ))<;>first|omega|(simp only[VQ];omega)|(simp;done)|(simp;omega)) ?_);refine gA rfl (bj (by first|exact .inr rfl|exact .inl rfl) rfl rfl rfl rfl rfl (by first|exact .refl _|exact .kb _) (by first|exact .refl _|exact .kb _) rfl rfl rfl rfl (.refl _) rfl rfl)
   ·have hb3': ¬dp (bR e)<3:=of_decide_eq_false hb3
    rw[lu,decide_eq_false hb3',Xr,hnb,XA] at hop;rw[hop];refine gA rfl (nh (d225 m hm' hA hB false d hd (aU w [sM]) (bR e) (by rw[hl1,e1];omega)) rfl rfl rfl rfl rfl rfl rfl rfl rfl rfl rfl rfl rfl rfl rfl rfl (by(repeat' (first|exact trivial|exact rfl|exact ak.refl _|exact ak.bk (by assumption)|apply VJ))<;>first|omega|(simp only[VQ];omega)|(simp;done)|(simp;omega)) rfl (by(repeat' (first|exact trivial|exact rfl|exact ak.refl _|exact ak.bk (by assumption)|apply VJ))<;>first|omega|(simp only[VQ];omega)|(simp;done)|(simp;omega)) ?_);refine gA rfl (bj (by first|exact .inr rfl|exact .inl rfl) rfl rfl rfl rfl rfl (by first|exact .refl _|exact .kb _) (by first|exact .refl _|exact .kb _) rfl rfl rfl rfl (.refl _) rfl rfl)
 ·have h6: ¬e.op=6:=of_decide_eq_false h6
  refine gA rfl ?_;refine VJ (fun h1=>?_) (fun h1=>?_);rotate_left
  ·have h1:w.bad=true:=h1
   rw[j8,if_pos h1];refine gA rfl (bj (by first|exact .inr rfl|exact .inl rfl) rfl rfl rfl rfl rfl (by first|exact .refl _|exact .kb _) (by first|exact .refl _|exact .kb _) rfl rfl rfl rfl (.refl _) rfl rfl)
  have h1: ¬w.bad=true:=by rw[show w.bad=false from h1];simp
  refine gA rfl ?_;refine VJ (fun h2=>?_) (fun h2=>?_);rotate_left
  ·have h2: ¬e.args.length=2:=by simp at h2;omega
   rw[j8,if_neg h1,if_neg h6,if_neg h2];refine gA rfl (bj (by first|exact .inr rfl|exact .inl rfl) rfl rfl rfl rfl rfl (by first|exact .refl _|exact .kb _) (by first|exact .refl _|exact .kb _) rfl rfl rfl rfl (.refl _) rfl rfl)
  have h2:e.args.length=2:=by simp at h2;omega
  have hg:(bR e).ts+(vZ e).ts≤_:=Expr.zc e.args h2;rw[j8,if_neg h1,if_neg h6,if_pos h2];refine gA rfl ?_;refine VJ (fun h3=>?_) (fun h3=>?_)
  ·exact absurd (of_decide_eq_true h3) (by omega)
  refine gA rfl ?_;refine VJ (fun h7=>?_) (fun h7=>?_)
  ·exact absurd (of_decide_eq_true h7) (by simp)
  refine gA rfl (cz ae [] (Pure.xO (BA (bR e))) rfl rfl rfl rfl rfl rfl rfl rfl rfl rfl rfl rfl (by(repeat' (first|exact trivial|exact rfl|exact ak.refl _|exact ak.bk (by assumption)|apply VJ))<;>first|omega|(simp only[VQ];omega)|(simp;done)|(simp;omega)) rfl (by(repeat' (first|exact trivial|exact rfl|exact ak.refl _|exact ak.bk (by assumption)|apply VJ))<;>first|omega|(simp only[VQ];omega)|(simp;done)|(simp;omega)) ?_);refine gA rfl (cz ae [] (Pure.xO (J5 e.op)) rfl rfl rfl rfl rfl rfl rfl rfl rfl rfl rfl rfl (by(repeat' (first|exact trivial|exact rfl|exact ak.refl _|exact ak.bk (by assumption)|apply VJ))<;>first|omega|(simp only[VQ];omega)|(simp;done)|(simp;omega)) rfl (by(repeat' (first|exact trivial|exact rfl|exact ak.refl _|exact ak.bk (by assumption)|apply VJ))<;>first|omega|(simp only[VQ];omega)|(simp;done)|(simp;omega)) ?_);refine gA rfl (nh (d225 m hm' hA hB (decide (dp (bR e)<b7 e.op)) d hd w (bR e) (by omega)) rfl rfl rfl rfl rfl rfl rfl rfl rfl rfl rfl rfl rfl rfl rfl rfl (by(repeat' (first|exact trivial|exact rfl|exact ak.refl _|exact ak.bk (by assumption)|apply VJ))<;>first|omega|(simp only[VQ];omega)|(simp;done)|(simp;omega)) rfl (by(repeat' (first|exact trivial|exact rfl|exact ak.refl _|exact ak.bk (by assumption)|apply VJ))<;>first|omega|(simp only[VQ];omega)|(simp;done)|(simp;omega)) ?_);refine gA rfl (aj (Vk e.op) rfl rfl rfl rfl rfl rfl ?_);have hla:=D5 m (decide (dp (bR e)<b7 e.op)) w (bR e);have hsg:=wE e.op;have e2:zj.size=1:=rfl;have e3:ey [zj,lq e.op,zj]=1+((lq e.op).size+1):=by simp[ey,e2]
  refine gA rfl (go_wp (d147 (tr m (decide (dp (bR e)<b7 e.op)) w (bR e)) [zj,lq e.op,zj] (by simp) (by rw[e3];omega)) rfl rfl rfl rfl rfl rfl rfl rfl rfl rfl rfl rfl ?_);refine gA rfl (cz ae [] (Pure.xO (BA (vZ e))) rfl rfl rfl rfl rfl rfl rfl rfl rfl rfl rfl rfl (by(repeat' (first|exact trivial|exact rfl|exact ak.refl _|exact ak.bk (by assumption)|apply VJ))<;>first|omega|(simp only[VQ];omega)|(simp;done)|(simp;omega)) rfl (by(repeat' (first|exact trivial|exact rfl|exact ak.refl _|exact ak.bk (by assumption)|apply VJ))<;>first|omega|(simp only[VQ];omega)|(simp;done)|(simp;omega)) ?_);refine gA rfl (cz ae [] (Pure.xO (J5 e.op)) rfl rfl rfl rfl rfl rfl rfl rfl rfl rfl rfl rfl (by(repeat' (first|exact trivial|exact rfl|exact ak.refl _|exact ak.bk (by assumption)|apply VJ))<;>first|omega|(simp only[VQ];omega)|(simp;done)|(simp;omega)) rfl (by(repeat' (first|exact trivial|exact rfl|exact ak.refl _|exact ak.bk (by assumption)|apply VJ))<;>first|omega|(simp only[VQ];omega)|(simp;done)|(simp;omega)) ?_);refine gA rfl (nh (d225 m hm' hA hB (decide (dp (vZ e)≤b7 e.op)) d hd (aU (tr m (decide (dp (bR e)<b7 e.op)) w (bR e)) [zj,lq e.op,zj]) (vZ e) (by rw[gL,e3];omega)) rfl rfl rfl rfl rfl rfl rfl rfl rfl rfl rfl rfl rfl rfl rfl rfl (by(repeat' (first|exact trivial|exact rfl|exact ak.refl _|exact ak.bk (by assumption)|apply VJ))<;>first|omega|(simp only[VQ];omega)|(simp;done)|(simp;omega)) rfl (by(repeat' (first|exact trivial|exact rfl|exact ak.refl _|exact ak.bk (by assumption)|apply VJ))<;>first|omega|(simp only[VQ];omega)|(simp;done)|(simp;omega)) ?_);refine gA rfl (bj (by first|exact .inr rfl|exact .inl rfl) rfl rfl rfl rfl rfl (by first|exact .refl _|exact .kb _) (by first|exact .refl _|exact .kb _) rfl rfl rfl rfl (.refl _) rfl rfl)
end Go.Proofs.YtflegjieadkonaaGreatDoor
namespace Go.Proofs.YtflegjieadkonaaGreatDoor
open Go Go.Al
set_option maxRecDepth 10000
theorem d189 (d:Int) (hd0:0≤d) (hd1:d≤1000) (w:WS) (e:Expr) (hb:w.l.length+e.ts≤1000000000) (k:WS) (hk:b8 Tryz.prog 247 [.ptr 0 0,ag e.c,pI (d-1)] (aP w (qG e)).O (.bM []) k.H 3):b8 Tryz.prog 222 [.ptr 0 0,ag e.c,pI d] w.O (.bM []) (iY w e k).H 3:=by
 have hts:=e.pZ;refine aF ae Tryz.func222 rfl (by decide) Tryz.ntmps222 rfl (by simp) ?_;refine gA rfl ?_;refine VJ (fun h1=>?_) (fun h1=>?_);rotate_left
 ·have h1:w.bad=true:=h1
  rw[iY,if_pos h1];refine gA rfl (bj (by first|exact .inr rfl|exact .inl rfl) rfl rfl rfl rfl rfl (by first|exact .refl _|exact .kb _) (by first|exact .refl _|exact .kb _) rfl rfl rfl rfl (.refl _) rfl rfl)
 have h1': ¬w.bad=true:=by rw[show w.bad=false from h1];simp
 refine gA rfl ?_;refine VJ (fun h2=>?_) (fun h2=>?_)
 ·exact absurd (of_decide_eq_true h2) (by omega)
 refine gA rfl ?_;refine VJ (fun hk1=>?_) (fun hk1=>?_)
 ·have hk1':e.kind=1:=of_decide_eq_true hk1
  have hlf:iY w e k=aU (aP w (mX e)) [e.var]:=by rw[iY,if_neg h1',if_pos hk1']
  rw[hlf];refine gA rfl (aj (y2 e.var) rfl rfl rfl rfl rfl rfl ?_);refine gA rfl ?_;refine VJ (fun g0=>?_) (fun g0=>?_);rotate_left
  ·have hx:mX e=false:=by simp only[mX,dq, *];rfl
   rw[hx];refine gA rfl (bX (d146 w false) rfl rfl rfl rfl rfl rfl rfl rfl rfl rfl rfl rfl ?_);refine gA rfl (go_wp (d147 (aP w false) [e.var] (by simp) (by rw[bC,aO];omega)) rfl rfl rfl rfl rfl rfl rfl rfl rfl rfl rfl rfl ?_);refine gA rfl (bj (by first|exact .inr rfl|exact .inl rfl) rfl rfl rfl rfl rfl (by first|exact .refl _|exact .kb _) (by first|exact .refl _|exact .kb _) rfl rfl rfl rfl (.refl _) rfl rfl)
  refine gA rfl ?_;refine VJ (fun g1=>?_) (fun g1=>?_);rotate_left
  ·have hx:mX e=false:=by simp only[mX,dq, *];rfl
   rw[hx];refine gA rfl (bX (d146 w false) rfl rfl rfl rfl rfl rfl rfl rfl rfl rfl rfl rfl ?_);refine gA rfl (go_wp (d147 (aP w false) [e.var] (by simp) (by rw[bC,aO];omega)) rfl rfl rfl rfl rfl rfl rfl rfl rfl rfl rfl rfl ?_);refine gA rfl (bj (by first|exact .inr rfl|exact .inl rfl) rfl rfl rfl rfl rfl (by first|exact .refl _|exact .kb _) (by first|exact .refl _|exact .kb _) rfl rfl rfl rfl (.refl _) rfl rfl)
  refine gA rfl ?_;refine VJ (fun g2=>?_) (fun g2=>?_);rotate_left
  ·have hx:mX e=false:=by simp only[mX,dq, *];rfl
   rw[hx];refine gA rfl (bX (d146 w false) rfl rfl rfl rfl rfl rfl rfl rfl rfl rfl rfl rfl ?_);refine gA rfl (go_wp (d147 (aP w false) [e.var] (by simp) (by rw[bC,aO];omega)) rfl rfl rfl rfl rfl rfl rfl rfl rfl rfl rfl rfl ?_);refine gA rfl (bj (by first|exact .inr rfl|exact .inl rfl) rfl rfl rfl rfl rfl (by first|exact .refl _|exact .kb _) (by first|exact .refl _|exact .kb _) rfl rfl rfl rfl (.refl _) rfl rfl)
  have hx:mX e=decide ((e.args.length:Int)=0):=by simp only[mX,dq, *];rfl
  rw[hx];refine gA rfl (bX (d146 w (decide ((e.args.length:Int)=0))) rfl rfl rfl rfl rfl rfl rfl rfl rfl rfl rfl rfl ?_);refine gA rfl (go_wp (d147 (aP w (decide ((e.args.length:Int)=0))) [e.var] (by simp) (by rw[bC,aO];omega)) rfl rfl rfl rfl rfl rfl rfl rfl rfl rfl rfl rfl ?_);refine gA rfl (bj (by first|exact .inr rfl|exact .inl rfl) rfl rfl rfl rfl rfl (by first|exact .refl _|exact .kb _) (by first|exact .refl _|exact .kb _) rfl rfl rfl rfl (.refl _) rfl rfl)
 have hk1': ¬e.kind=1:=of_decide_eq_false hk1;refine gA rfl ?_;refine VJ (fun hk2=>?_) (fun hk2=>?_)
 ·have hk2':e.kind=2:=of_decide_eq_true hk2
  have hlf:iY w e k=lD (aP w (oj e)) e.val:=by rw[iY,if_neg h1',if_neg hk1',if_pos hk2']
  rw[hlf];have htv:=oZ e.val;refine gA rfl ?_;refine VJ (fun g0=>?_) (fun g0=>?_);rotate_left
  ·have hx:oj e=false:=by simp only[oj,dq, *];rfl
   rw[hx];refine gA rfl (bX (d146 w false) rfl rfl rfl rfl rfl rfl rfl rfl rfl rfl rfl rfl ?_);refine gA rfl (bX (d149 (aP w false) e.val (by rw[aO];omega) (by omega)) rfl rfl rfl rfl rfl rfl rfl rfl rfl rfl rfl rfl ?_);refine gA rfl (bj (by first|exact .inr rfl|exact .inl rfl) rfl rfl rfl rfl rfl (by first|exact .refl _|exact .kb _) (by first|exact .refl _|exact .kb _) rfl rfl rfl rfl (.refl _) rfl rfl)
  refine gA rfl ?_;refine VJ (fun g1=>?_) (fun g1=>?_);rotate_left
  ·have hx:oj e=false:=by simp only[oj,dq, *];rfl
   rw[hx];refine gA rfl (bX (d146 w false) rfl rfl rfl rfl rfl rfl rfl rfl rfl rfl rfl rfl ?_);refine gA rfl (bX (d149 (aP w false) e.val (by rw[aO];omega) (by omega)) rfl rfl rfl rfl rfl rfl rfl rfl rfl rfl rfl rfl ?_);refine gA rfl (bj (by first|exact .inr rfl|exact .inl rfl) rfl rfl rfl rfl rfl (by first|exact .refl _|exact .kb _) (by first|exact .refl _|exact .kb _) rfl rfl rfl rfl (.refl _) rfl rfl)
  have hx:oj e=decide ((e.args.length:Int)=0):=by simp only[oj,dq, *];rfl
  rw[hx];refine gA rfl (bX (d146 w (decide ((e.args.length:Int)=0))) rfl rfl rfl rfl rfl rfl rfl rfl rfl rfl rfl rfl ?_);refine gA rfl (bX (d149 (aP w (decide ((e.args.length:Int)=0))) e.val (by rw[aO];omega) (by omega)) rfl rfl rfl rfl rfl rfl rfl rfl rfl rfl rfl rfl ?_);refine gA rfl (bj (by first|exact .inr rfl|exact .inl rfl) rfl rfl rfl rfl rfl (by first|exact .refl _|exact .kb _) (by first|exact .refl _|exact .kb _) rfl rfl rfl rfl (.refl _) rfl rfl)
 have hk2': ¬e.kind=2:=of_decide_eq_false hk2;refine gA rfl ?_;refine VJ (fun hk4=>?_) (fun hk4=>?_)
 ·have hk4':e.kind=4:=of_decide_eq_true hk4
  have hlf:iY w e k=k:=by rw[iY,if_neg h1',if_neg hk1',if_neg hk2',if_pos hk4']
  rw[hlf];refine gA rfl ?_;refine VJ (fun g0=>?_) (fun g0=>?_);rotate_left
  ·have hx:qG e=false:=by simp only[qG,dq, *];rfl
   rw[hx] at hk;refine gA rfl (bX (d146 w false) rfl rfl rfl rfl rfl rfl rfl rfl rfl rfl rfl rfl ?_);refine gA rfl (bX (hk) rfl rfl rfl rfl rfl rfl rfl rfl rfl rfl rfl rfl ?_);refine gA rfl (bj (by first|exact .inr rfl|exact .inl rfl) rfl rfl rfl rfl rfl (by first|exact .refl _|exact .kb _) (by first|exact .refl _|exact .kb _) rfl rfl rfl rfl (.refl _) rfl rfl)
  refine gA rfl ?_;refine VJ (fun g1=>?_) (fun g1=>?_);rotate_left
  ·have hx:qG e=false:=by simp only[qG,dq, *];rfl
   rw[hx] at hk;refine gA rfl (bX (d146 w false) rfl rfl rfl rfl rfl rfl rfl rfl rfl rfl rfl rfl ?_);refine gA rfl (bX (hk) rfl rfl rfl rfl rfl rfl rfl rfl rfl rfl rfl rfl ?_);refine gA rfl (bj (by first|exact .inr rfl|exact .inl rfl) rfl rfl rfl rfl rfl (by first|exact .refl _|exact .kb _) (by first|exact .refl _|exact .kb _) rfl rfl rfl rfl (.refl _) rfl rfl)
  refine gA rfl (aj (J5 e.op) rfl rfl rfl rfl rfl rfl ?_);have hx:qG e=decide (b7 e.op>0):=by simp only[qG,dq, *];rfl
  rw[hx] at hk;refine gA rfl (bX (d146 w (decide (b7 e.op>0))) rfl rfl rfl rfl rfl rfl rfl rfl rfl rfl rfl rfl ?_);refine gA rfl (bX (hk) rfl rfl rfl rfl rfl rfl rfl rfl rfl rfl rfl rfl ?_);refine gA rfl (bj (by first|exact .inr rfl|exact .inl rfl) rfl rfl rfl rfl rfl (by first|exact .refl _|exact .kb _) (by first|exact .refl _|exact .kb _) rfl rfl rfl rfl (.refl _) rfl rfl)
 have hk4': ¬e.kind=4:=of_decide_eq_false hk4;rw[iY,if_neg h1',if_neg hk1',if_neg hk2',if_neg hk4'];refine gA rfl (bj (by first|exact .inr rfl|exact .inl rfl) rfl rfl rfl rfl rfl (by first|exact .refl _|exact .kb _) (by first|exact .refl _|exact .kb _) rfl rfl rfl rfl (.refl _) rfl rfl)
theorem pe0:PE 0:=fun d w e hd hb=>by
 refine aF ae Tryz.func222 rfl (by decide) Tryz.ntmps222 rfl (by simp) ?_;rw[cF]
 repeat' (first
  |((rename_i h;exact absurd (by omega:d<0) (of_decide_eq_false h)))
  |(refine gA rfl (VJ (fun _=>?_) (fun _=>?_)))
  |(refine gA rfl (bj (by first|exact .inr rfl|exact .inl rfl) rfl rfl rfl rfl rfl (by first|exact .refl _|exact .kb _) (by first|exact .refl _|exact .kb _) rfl rfl rfl rfl (.refl _) rfl rfl)))
theorem yv: ∀n,n≤900→PE n
 |0,_=>pe0
 |1,_=>fun d w e hd hb=>d189 d (by omega) (by omega) w e hb _ (Uw (d-1) (by omega) (aP w (qG e)) e)
 |m+2,h=>fun d w e hd hb=>d189 d (by omega) (by omega) w e (by omega) _ (d213 m (by omega) (yv (m+1) (by omega)) (yv m (by omega)) (d-1) (by omega) (aP w (qG e)) e (by rw[aO];omega))
theorem nk (w:WS) (e:Expr) (hb:w.l.length+e.ts≤900000000):b8 Tryz.prog 222 [.ptr 0 0,ag e.c,pI 16] w.O (.bM []) (cF 17 w e).H 3:=yv 17 (by omega) 16 w e (by omega) (by omega)
def wK:ah:=⟨#[44,32]⟩
def Q9:ah:=⟨#[95]⟩
def gj (i:Nat) (w:WS):WS:=if i=0 then w else aU w [wK]
def vl (t:Term):Bool:=eQ t.var&&dq t.val
def vm (t:Term):Bool:=decide (t.var=⟨#[]⟩)&&dq t.val
def jx (w:WS) (t:Term):WS:=
 if t.kind=1 then aU (aP w (vl t)) [t.var] else if t.kind=2 then lD (aP w (decide (t.var=⟨#[]⟩))) t.val else if t.kind=3 then aU (aP w (vm t)) [Q9] else mw w
def fb (l:List Term) (w:WS):Nat→WS
 |0=>w
 |i+1=>jx (gj i (fb l w i)) (l.getD i default)
def jo (w:WS) (a:Atom):WS:=aU (fb a.an (aU (aP w (iX a.rel)) [a.rel,sO]) a.an.length) [sC]
def Term.ts (t:Term):Nat:=t.var.size+310
def Atom.ts (a:Atom):Nat:=a.rel.size+10+(a.an.map Term.ts).sum
theorem lg (i:Nat) (w:WS):(gj i w).l.length≤w.l.length+2:=by
 have e:wK.size=2:=rfl;unfold gj;split
 ·omega
 ·rw[aN,e];omega
theorem Ap (w:WS) (t:Term):(jx w t).l.length≤w.l.length+300+t.var.size:=by
 have e:Q9.size=1:=rfl;unfold jx
 repeat' split
 ·rw[aN,aO];omega
 ·have:=rn (aP w (decide (t.var=⟨#[]⟩))) t.val
  rw[aO] at this;omega
 ·rw[aN,aO,e];omega
 ·rw[eN];omega
theorem tJ: ∀(l:List Term) (i:Nat),i<l.length→((l.take i).map Term.ts).sum+(l.getD i default).ts≤(l.map Term.ts).sum
 | [],i,h=>by simp at h
 |s::r,0,_=>by simp
 |s::r,i+1,h=>by
  have:=tJ r i (by simpa using h);simp at this ⊢;omega
theorem ze: ∀(l:List Term) (i:Nat),((l.take i).map Term.ts).sum≤(l.map Term.ts).sum
 | [],i=>by simp
 |s::r,0=>by simp
 |s::r,i+1=>by have:=ze r i;simp at this ⊢;omega
theorem ny (l:List Term) (w:WS): ∀i,i≤l.length→(fb l w i).l.length≤w.l.length+((l.take i).map Term.ts).sum
 |0,_=>by simp[fb]
 |i+1,h=>by
  have h1:=ny l w i (by omega);have h2:=lg i (fb l w i);have h3:=Ap (gj i (fb l w i)) (l.getD i default);have h4:(l.getD i default).ts=(l.getD i default).var.size+310:=rfl
  have h5:((l.take (i+1)).map Term.ts).sum=((l.take i).map Term.ts).sum+(l.getD i default).ts:=by
   rw[aY (by omega),VN,List.sum_append];simp
  rw[fb];omega
theorem uM (w:WS) (a:Atom):(jo w a).l.length≤w.l.length+a.ts:=by
 have e1:sO.size=1:=rfl;have e2:sC.size=1:=rfl;have e3:ey [a.rel,sO]=a.rel.size+1:=by simp[ey,e1]
 have h1:=ny a.an (aU (aP w (iX a.rel)) [a.rel,sO]) a.an.length (VZ _);rw[gL,e3,aO,Xx] at h1;rw[jo,aN,e2];unfold Atom.ts;omega
theorem uk: ∀l:List Term,l.length≤(l.map Term.ts).sum
 | []=>by simp
 |t::r=>by have:=uk r;simp[Term.ts] at this ⊢;omega
set_option maxHeartbeats 1000000 in
theorem d104 (w:WS) (a:Atom) (hb:w.l.length+a.ts≤900000000):b8 Tryz.prog 188 [.ptr 0 0,ag a.c] w.O (.bM []) (jo w a).H 3:=by
 have e1:sO.size=1:=rfl;have e2:sC.size=1:=rfl;have e4:wK.size=2:=rfl;have e5:Q9.size=1:=rfl;have e3:ey [a.rel,sO]=a.rel.size+1:=by simp[ey,e1]
 have hts:a.ts=a.rel.size+10+(a.an.map Term.ts).sum:=rfl;have hlt:=uk a.an;have hl0:(aU (aP w (iX a.rel)) [a.rel,sO]).l.length=w.l.length+(a.rel.size+1):=by rw[gL,e3,aO]
 refine aF ae Tryz.func188 rfl (by decide) Tryz.ntmps188 rfl (by simp) ?_;refine gA rfl (aj (Vh a.rel) rfl rfl rfl rfl rfl rfl ?_);refine gA rfl (bX (d146 w (iX a.rel)) rfl rfl rfl rfl rfl rfl rfl rfl rfl rfl rfl rfl ?_);refine gA rfl (go_wp (d147 (aP w (iX a.rel)) [a.rel,sO] (by simp) (by rw[e3,aO];omega)) rfl rfl rfl rfl rfl rfl rfl rfl rfl rfl rfl rfl ?_);generalize hW:aU (aP w (iX a.rel)) [a.rel,sO]=w1 at*
 refine gA rfl ?_
 refine aL 0 a.an.length (V1 _) (fun i=>⟨[(0, .ptr 0 0),(17, .iv (cV 5 a.an Term.c)),(18,pI a.an.length),(19,pI i)],[(0,some ((fb a.an w1 i).sQ 0 6)),(6,some (.bx (fb a.an w1 i).l 5))],7⟩) (fun _=>True) _ trivial
  (ya (w:=w1) rfl rfl rfl rfl rfl (.refl _) (.refl _) rfl rfl rfl rfl rfl ⟨.refl _,rfl, .refl _,rfl, .refl _,rfl, .refl _,rfl,trivial⟩) fun i hi _=>?_
 have hln:=ny a.an w1 i hi;have hsl:=ze a.an i;refine gA rfl ?_;refine VJ (fun h1=>?_) (fun h1=>?_);rotate_left
 ·have h1:a.an.length≤i:=Ww fun hh=>absurd (Wz.2 hh) (of_decide_eq_false h1)
  have hie:i=a.an.length:=by omega
  subst hie;refine gA rfl (go_wp (d147 (fb a.an w1 a.an.length) [sC] (by simp) (by rw[bC,e2];omega)) rfl rfl rfl rfl rfl rfl rfl rfl rfl rfl rfl rfl ?_);rw[jo,hW];refine gA rfl (bj (by first|exact .inr rfl|exact .inl rfl) rfl rfl rfl rfl rfl (by first|exact .refl _|exact .kb _) (by first|exact .refl _|exact .kb _) rfl rfl rfl rfl (.refl _) rfl rfl)
 have h1:i<a.an.length:=Wz.1 (of_decide_eq_true h1);have hst:=tJ a.an i h1;have hs:fb a.an w1 (i+1)=jx (gj i (fb a.an w1 i)) (a.an.getD i default):=rfl;have ht:(a.an.getD i default).ts=(a.an.getD i default).var.size+310:=rfl;have htv:=oZ (a.an.getD i default).val;have hcl:=lg i (fb a.an w1 i);generalize hT:fb a.an w1 i=w2 at*
 refine gA rfl ?_;refine VJ (fun h2=>?_) (fun h2=>?_)
 ·have h2: ¬i=0:=by have:=of_decide_eq_true h2;omega
  rw[gj,if_neg h2] at hs;refine gA rfl (go_wp (d147 w2 [wK] (by simp) (by rw[bC,e4];omega)) rfl rfl rfl rfl rfl rfl rfl rfl rfl rfl rfl rfl ?_);refine gA rfl ?_;refine VJ (fun k1=>?_) (fun k1=>?_)
  ·have k1':(a.an.getD i default).kind=1:=of_decide_eq_true k1
   rw[jx,if_pos k1'] at hs;refine gA rfl (aj (y2 (a.an.getD i default).var) rfl rfl rfl rfl rfl rfl ?_);refine gA rfl ?_;refine VJ (fun g0=>?_) (fun g0=>?_);rotate_left
   ·have hx:vl (a.an.getD i default)=false:=by have g:eQ (a.an.getD i default).var=false:=g0;rw[vl,g];rfl
    rw[hx] at hs;refine gA rfl (bX (d146 (aU w2 [wK]) false) rfl rfl rfl rfl rfl rfl rfl rfl rfl rfl rfl rfl ?_);refine gA rfl (go_wp (d147 (aP (aU w2 [wK]) false) [(a.an.getD i default).var] (by simp) (by rw[bC,aO];first|omega|(rw[aN,e4];omega))) rfl rfl rfl rfl rfl rfl rfl rfl rfl rfl rfl rfl ?_);refine gA rfl ⟨h1,trivial,_,ya (hs.symm) rfl rfl rfl rfl (by first|exact .refl _|exact .kb _) (by first|exact .refl _|exact .kb _) rfl rfl rfl rfl rfl ⟨.refl _,rfl, .refl _,rfl, .refl _,rfl, .refl _,rfl,trivial⟩⟩
   have hx:vl (a.an.getD i default)=dq (a.an.getD i default).val:=by have g:eQ (a.an.getD i default).var=true:=g0;rw[vl,g];rfl
   rw[hx] at hs;refine gA rfl (bX (d146 (aU w2 [wK]) (dq (a.an.getD i default).val)) rfl rfl rfl rfl rfl rfl rfl rfl rfl rfl rfl rfl ?_);refine gA rfl (go_wp (d147 (aP (aU w2 [wK]) (dq (a.an.getD i default).val)) [(a.an.getD i default).var] (by simp) (by rw[bC,aO];first|omega|(rw[aN,e4];omega))) rfl rfl rfl rfl rfl rfl rfl rfl rfl rfl rfl rfl ?_);refine gA rfl ⟨h1,trivial,_,ya (hs.symm) rfl rfl rfl rfl (by first|exact .refl _|exact .kb _) (by first|exact .refl _|exact .kb _) rfl rfl rfl rfl rfl ⟨.refl _,rfl, .refl _,rfl, .refl _,rfl, .refl _,rfl,trivial⟩⟩
  have k1': ¬(a.an.getD i default).kind=1:=of_decide_eq_false k1;refine gA rfl ?_;refine VJ (fun k2=>?_) (fun k2=>?_)
  ·have k2':(a.an.getD i default).kind=2:=of_decide_eq_true k2
   rw[jx,if_neg k1',if_pos k2'] at hs;refine gA rfl (bX (d146 (aU w2 [wK]) (decide ((a.an.getD i default).var=⟨#[]⟩))) rfl rfl rfl rfl rfl rfl rfl rfl rfl rfl rfl rfl ?_);refine gA rfl (bX (d149 (aP (aU w2 [wK]) (decide ((a.an.getD i default).var=⟨#[]⟩))) (a.an.getD i default).val (by rw[aO];first|omega|(rw[aN,e4];omega)) (by omega)) rfl rfl rfl rfl rfl rfl rfl rfl rfl rfl rfl rfl ?_);refine gA rfl ⟨h1,trivial,_,ya (hs.symm) rfl rfl rfl rfl (by first|exact .refl _|exact .kb _) (by first|exact .refl _|exact .kb _) rfl rfl rfl rfl rfl ⟨.refl _,rfl, .refl _,rfl, .refl _,rfl, .refl _,rfl,trivial⟩⟩
  have k2': ¬(a.an.getD i default).kind=2:=of_decide_eq_false k2;refine gA rfl ?_;refine VJ (fun k3=>?_) (fun k3=>?_)
  ·have k3':(a.an.getD i default).kind=3:=of_decide_eq_true k3
   rw[jx,if_neg k1',if_neg k2',if_pos k3'] at hs;refine gA rfl ?_;refine VJ (fun g0=>?_) (fun g0=>?_);rotate_left
   ·have hx:vm (a.an.getD i default)=false:=by have g:decide ((a.an.getD i default).var=⟨#[]⟩)=false:=g0;rw[vm,g];rfl
    rw[hx] at hs;refine gA rfl (bX (d146 (aU w2 [wK]) false) rfl rfl rfl rfl rfl rfl rfl rfl rfl rfl rfl rfl ?_);refine gA rfl (go_wp (d147 (aP (aU w2 [wK]) false) [Q9] (by simp) (by rw[bC,aO];first|omega|(rw[aN,e4];omega))) rfl rfl rfl rfl rfl rfl rfl rfl rfl rfl rfl rfl ?_);refine gA rfl ⟨h1,trivial,_,ya (hs.symm) rfl rfl rfl rfl (by first|exact .refl _|exact .kb _) (by first|exact .refl _|exact .kb _) rfl rfl rfl rfl rfl ⟨.refl _,rfl, .refl _,rfl, .refl _,rfl, .refl _,rfl,trivial⟩⟩
   have hx:vm (a.an.getD i default)=dq (a.an.getD i default).val:=by have g:decide ((a.an.getD i default).var=⟨#[]⟩)=true:=g0;rw[vm,g];rfl
   rw[hx] at hs;refine gA rfl (bX (d146 (aU w2 [wK]) (dq (a.an.getD i default).val)) rfl rfl rfl rfl rfl rfl rfl rfl rfl rfl rfl rfl ?_);refine gA rfl (go_wp (d147 (aP (aU w2 [wK]) (dq (a.an.getD i default).val)) [Q9] (by simp) (by rw[bC,aO];first|omega|(rw[aN,e4];omega))) rfl rfl rfl rfl rfl rfl rfl rfl rfl rfl rfl rfl ?_);refine gA rfl ⟨h1,trivial,_,ya (hs.symm) rfl rfl rfl rfl (by first|exact .refl _|exact .kb _) (by first|exact .refl _|exact .kb _) rfl rfl rfl rfl rfl ⟨.refl _,rfl, .refl _,rfl, .refl _,rfl, .refl _,rfl,trivial⟩⟩
  have k3': ¬(a.an.getD i default).kind=3:=of_decide_eq_false k3;rw[jx,if_neg k1',if_neg k2',if_neg k3'] at hs;refine gA rfl ⟨h1,trivial,_,ya (hs.symm) rfl rfl rfl rfl (by first|exact .refl _|exact .kb _) (by first|exact .refl _|exact .kb _) rfl rfl rfl rfl rfl ⟨.refl _,rfl, .refl _,rfl, .refl _,rfl, .refl _,rfl,trivial⟩⟩
 ·have h2:i=0:=by have:=of_decide_eq_false h2;omega
  rw[gj,if_pos h2] at hs;refine gA rfl ?_;refine VJ (fun k1=>?_) (fun k1=>?_)
  ·have k1':(a.an.getD i default).kind=1:=of_decide_eq_true k1
   rw[jx,if_pos k1'] at hs;refine gA rfl (aj (y2 (a.an.getD i default).var) rfl rfl rfl rfl rfl rfl ?_);refine gA rfl ?_;refine VJ (fun g0=>?_) (fun g0=>?_);rotate_left
   ·have hx:vl (a.an.getD i default)=false:=by have g:eQ (a.an.getD i default).var=false:=g0;rw[vl,g];rfl
    rw[hx] at hs;refine gA rfl (bX (d146 w2 false) rfl rfl rfl rfl rfl rfl rfl rfl rfl rfl rfl rfl ?_);refine gA rfl (go_wp (d147 (aP w2 false) [(a.an.getD i default).var] (by simp) (by rw[bC,aO];first|omega|(rw[aN,e4];omega))) rfl rfl rfl rfl rfl rfl rfl rfl rfl rfl rfl rfl ?_);refine gA rfl ⟨h1,trivial,_,ya (hs.symm) rfl rfl rfl rfl (by first|exact .refl _|exact .kb _) (by first|exact .refl _|exact .kb _) rfl rfl rfl rfl rfl ⟨.refl _,rfl, .refl _,rfl, .refl _,rfl, .refl _,rfl,trivial⟩⟩
   have hx:vl (a.an.getD i default)=dq (a.an.getD i default).val:=by have g:eQ (a.an.getD i default).var=true:=g0;rw[vl,g];rfl
   rw[hx] at hs;refine gA rfl (bX (d146 w2 (dq (a.an.getD i default).val)) rfl rfl rfl rfl rfl rfl rfl rfl rfl rfl rfl rfl ?_);refine gA rfl (go_wp (d147 (aP w2 (dq (a.an.getD i default).val)) [(a.an.getD i default).var] (by simp) (by rw[bC,aO];first|omega|(rw[aN,e4];omega))) rfl rfl rfl rfl rfl rfl rfl rfl rfl rfl rfl rfl ?_);refine gA rfl ⟨h1,trivial,_,ya (hs.symm) rfl rfl rfl rfl (by first|exact .refl _|exact .kb _) (by first|exact .refl _|exact .kb _) rfl rfl rfl rfl rfl ⟨.refl _,rfl, .refl _,rfl, .refl _,rfl, .refl _,rfl,trivial⟩⟩
  have k1': ¬(a.an.getD i default).kind=1:=of_decide_eq_false k1;refine gA rfl ?_;refine VJ (fun k2=>?_) (fun k2=>?_)
  ·have k2':(a.an.getD i default).kind=2:=of_decide_eq_true k2
   rw[jx,if_neg k1',if_pos k2'] at hs;refine gA rfl (bX (d146 w2 (decide ((a.an.getD i default).var=⟨#[]⟩))) rfl rfl rfl rfl rfl rfl rfl rfl rfl rfl rfl rfl ?_);refine gA rfl (bX (d149 (aP w2 (decide ((a.an.getD i default).var=⟨#[]⟩))) (a.an.getD i default).val (by rw[aO];first|omega|(rw[aN,e4];omega)) (by omega)) rfl rfl rfl rfl rfl rfl rfl rfl rfl rfl rfl rfl ?_);refine gA rfl ⟨h1,trivial,_,ya (hs.symm) rfl rfl rfl rfl (by first|exact .refl _|exact .kb _) (by first|exact .refl _|exact .kb _) rfl rfl rfl rfl rfl ⟨.refl _,rfl, .refl _,rfl, .refl _,rfl, .refl _,rfl,trivial⟩⟩
  have k2': ¬(a.an.getD i default).kind=2:=of_decide_eq_false k2;refine gA rfl ?_;refine VJ (fun k3=>?_) (fun k3=>?_)
  ·have k3':(a.an.getD i default).kind=3:=of_decide_eq_true k3
   rw[jx,if_neg k1',if_neg k2',if_pos k3'] at hs;refine gA rfl ?_;refine VJ (fun g0=>?_) (fun g0=>?_);rotate_left
   ·have hx:vm (a.an.getD i default)=false:=by have g:decide ((a.an.getD i default).var=⟨#[]⟩)=false:=g0;rw[vm,g];rfl
    rw[hx] at hs;refine gA rfl (bX (d146 w2 false) rfl rfl rfl rfl rfl rfl rfl rfl rfl rfl rfl rfl ?_);refine gA rfl (go_wp (d147 (aP w2 false) [Q9] (by simp) (by rw[bC,aO];first|omega|(rw[aN,e4];omega))) rfl rfl rfl rfl rfl rfl rfl rfl rfl rfl rfl rfl ?_);refine gA rfl ⟨h1,trivial,_,ya (hs.symm) rfl rfl rfl rfl (by first|exact .refl _|exact .kb _) (by first|exact .refl _|exact .kb _) rfl rfl rfl rfl rfl ⟨.refl _,rfl, .refl _,rfl, .refl _,rfl, .refl _,rfl,trivial⟩⟩
   have hx:vm (a.an.getD i default)=dq (a.an.getD i default).val:=by have g:decide ((a.an.getD i default).var=⟨#[]⟩)=true:=g0;rw[vm,g];rfl
   rw[hx] at hs;refine gA rfl (bX (d146 w2 (dq (a.an.getD i default).val)) rfl rfl rfl rfl rfl rfl rfl rfl rfl rfl rfl rfl ?_);refine gA rfl (go_wp (d147 (aP w2 (dq (a.an.getD i default).val)) [Q9] (by simp) (by rw[bC,aO];first|omega|(rw[aN,e4];omega))) rfl rfl rfl rfl rfl rfl rfl rfl rfl rfl rfl rfl ?_);refine gA rfl ⟨h1,trivial,_,ya (hs.symm) rfl rfl rfl rfl (by first|exact .refl _|exact .kb _) (by first|exact .refl _|exact .kb _) rfl rfl rfl rfl rfl ⟨.refl _,rfl, .refl _,rfl, .refl _,rfl, .refl _,rfl,trivial⟩⟩
  have k3': ¬(a.an.getD i default).kind=3:=of_decide_eq_false k3;rw[jx,if_neg k1',if_neg k2',if_neg k3'] at hs;refine gA rfl ⟨h1,trivial,_,ya (hs.symm) rfl rfl rfl rfl (by first|exact .refl _|exact .kb _) (by first|exact .refl _|exact .kb _) rfl rfl rfl rfl rfl ⟨.refl _,rfl, .refl _,rfl, .refl _,rfl, .refl _,rfl,trivial⟩⟩
end Go.Proofs.YtflegjieadkonaaGreatDoor
namespace Go.Proofs.YtflegjieadkonaaGreatDoor
open Go Go.Al
set_option maxRecDepth 10000
def yl:ah:=⟨#[110,111,116,32]⟩
def o7:ah:=⟨#[32,61,32]⟩
def o8:ah:=⟨#[32,123,32]⟩
def BE:ah:=⟨#[32,58,32]⟩
def wJ:ah:=⟨#[32,125]⟩
def sJ (op:Int):ah:=if op=1 then⟨#[32,61,32]⟩ else if op=2 then⟨#[32,33,61,32]⟩ else if op=3 then⟨#[32,60,32]⟩ else if op=4 then⟨#[32,60,61,32]⟩ else if op=5 then⟨#[32,62,32]⟩ else⟨#[32,62,61,32]⟩
def ik (f:Int):ah:=if f=1 then⟨#[99,111,117,110,116]⟩ else if f=2 then⟨#[115,117,109]⟩ else if f=3 then⟨#[109,105,110]⟩ else⟨#[109,97,120]⟩
def td (w:WS) (n:Int):WS:=⟨w.fr,w.l,w.bad,w.br+n⟩
def cx (f:Lit→WS→WS) (l:List Lit) (w:WS):Nat→WS
 |0=>w
 |i+1=>if(cx f l w i).bad=true then cx f l w i else f (l.getD i default) (gj i (cx f l w i))
def ot (w:WS) (a:eZ):WS:=if a.func=1 then aP w (iz a.ig) else aU (cF 17 w a.ig) [BE]
def tv (f:Lit→WS→WS) (w:WS) (a:eZ):WS:=
 if a.func<1∨5≤a.func∨16≤w.br∨a.body.length=0 then mw w
 else aU (td (cx f a.body (td (ot (aU (aP w (eQ a.var)) [a.var,o7,ik a.func,o8]) a) 1) a.body.length) (-1)) [wJ]
def vz (f:Lit→WS→WS) (l:Lit) (w:WS):WS:=
 if l.kind=2 then jo (aU w [yl]) l.atom else if l.kind=1 then jo w l.atom
 else if l.kind=3 then(if l.op<1∨7≤l.op then mw (cF 17 w l.left) else cF 17 (aU (cF 17 w l.left) [sJ l.op]) l.right)
 else if l.kind=4 then tv f w l.agg else mw w
def cX:Nat→Lit→WS→WS
 |0,_,w=>w
 |n+1,l,w=>vz (cX n) l (aP w (jS l))
theorem cI: ∀(ss:List ah) (w:WS),(aU w ss).br=w.br
 | [],w=>rfl
 |s::r,w=>cI r (vc w s)
theorem rW (w:WS) (b:Bool):(aP w b).br=w.br:=rfl
theorem J8 (w:WS):(mw w).br=w.br:=rfl
theorem tC (w:WS) (v:s8):(lD w v).br=w.br:=by rw[lD,cI];rfl
theorem xq (w k:WS) (e:Expr) (h:k.br=w.br):(iY w e k).br=w.br:=by
 unfold iY
 repeat' split
 ·rfl
 ·rw[cI];rfl
 ·rw[tC];rfl
 ·exact h
 ·rfl
theorem CJ (arg:Bool→WS→Expr→WS) (harg: ∀b w a,(arg b w a).br=w.br) (w:WS) (e:Expr):(j8 arg w e).br=w.br:=by
 unfold j8
 repeat' split
 ·rfl
 ·rw[harg,cI,cI]
 ·rw[harg,cI]
 ·rfl
 ·rw[harg,cI,harg]
 ·rfl
theorem ko: ∀(n:Nat) (w:WS) (e:Expr),(cF n w e).br=w.br
 |0,w,e=>rfl
 |1,w,e=>by rw[cF];exact xq _ _ _ rfl
 |m+2,w,e=>by
  rw[cF];refine xq _ _ _ ?_;rw[CJ _ (fun b w a=>?_)]
  ·rfl
  ·split
   ·rw[cI,ko m,cI]
   ·exact ko (m+1) _ _
theorem pR (i:Nat) (w:WS):(gj i w).br=w.br:=by
 unfold gj;split
 ·rfl
 ·exact cI _ _
theorem BY (w:WS) (t:Term):(jx w t).br=w.br:=by
 unfold jx
 repeat' split
 ·rw[cI];rfl
 ·rw[tC];rfl
 ·rw[cI];rfl
 ·rfl
theorem tG (l:List Term) (w:WS): ∀i,(fb l w i).br=w.br
 |0=>rfl
 |i+1=>by rw[fb,BY,pR,tG l w i]
theorem xY (w:WS) (a:Atom):(jo w a).br=w.br:=by rw[jo,cI,tG,cI];rfl
theorem mv (f:Lit→WS→WS) (hf: ∀l w,(f l w).br=w.br) (l:List Lit) (w:WS): ∀i,(cx f l w i).br=w.br
 |0=>rfl
 |i+1=>by
  rw[cx];split
  ·exact mv f hf l w i
  ·rw[hf,pR,mv f hf l w i]
theorem CM (w:WS) (a:eZ):(ot w a).br=w.br:=by
 unfold ot;split
 ·rfl
 ·rw[cI,ko]
theorem Ke (f:Lit→WS→WS) (hf: ∀l w,(f l w).br=w.br) (w:WS) (a:eZ):(tv f w a).br=w.br:=by
 unfold tv;split
 ·rfl
 ·rw[cI]
  show(cx _ _ _ _).br+ -1=_;rw[mv f hf];show(ot _ _).br+1+ -1=_;rw[CM,cI,rW];omega
theorem JE (f:Lit→WS→WS) (hf: ∀l w,(f l w).br=w.br) (l:Lit) (w:WS):(vz f l w).br=w.br:=by
 unfold vz
 repeat' split
 ·rw[xY,cI]
 ·exact xY _ _
 ·rw[J8,ko]
 ·rw[ko,cI,ko]
 ·exact Ke f hf _ _
 ·rfl
theorem vA: ∀(n:Nat) (l:Lit) (w:WS),(cX n l w).br=w.br
 |0,_,_=>rfl
 |n+1,l,w=>by rw[cX,JE (cX n) (vA n)];rfl
mutual
def Lit.ts:Lit→Nat
 | .mk _ a _ l r _ v o b _=>100+a.ts+l.ts+r.ts+v.size+o.ts+Lit.ln b
def Lit.ln:List Lit→Nat
 | []=>0
 |e::r=>e.ts+Lit.ln r
end
theorem Lit.pZ (l:Lit):l.ts=100+l.atom.ts+l.left.ts+l.right.ts+l.bs.size+l.jV.ts+Lit.ln l.ar:=by cases l;rfl
theorem Lit.wm: ∀(l:List Lit) (i:Nat),i<l.length→Lit.ln (l.take i)+(l.getD i default).ts≤Lit.ln l
 | [],i,h=>by simp at h
 |s::r,0,_=>by simp[Lit.ln]
 |s::r,i+1,h=>by
  have:=Lit.wm r i (by simpa using h);simp only[W4,Lit.ln,Xj];omega
theorem Lit.BS: ∀(l:List Lit) (i:Nat),Lit.ln (l.take i)≤Lit.ln l
 | [],i=>by simp
 |s::r,0=>by simp[Lit.ln]
 |s::r,i+1=>by have:=Lit.BS r i;simp only[W4,Lit.ln];omega
theorem Lit.QO (l:Lit):100≤l.ts:=by rw[l.pZ];omega
theorem DU (op:Int):(sJ op).size≤4:=by
 unfold sJ
 repeat' split
 all_goals decide
theorem xJ (op:Int):(ik op).size≤5:=by
 unfold ik
 repeat' split
 all_goals decide
def Ki (f:Lit→WS→WS):Prop:= ∀l w,(f l w).l.length+4≤w.l.length+l.ts
theorem mK (f:Lit→WS→WS) (hf:Ki f) (l:List Lit) (w:WS): ∀i,i≤l.length→(cx f l w i).l.length≤w.l.length+Lit.ln (l.take i)
 |0,_=>by simp[cx,Lit.ln]
 |i+1,h=>by
  have h1:=mK f hf l w i (by omega)
  have h5:Lit.ln (l.take (i+1))=Lit.ln (l.take i)+(l.getD i default).ts:=by
   rw[aY (by omega)]
   have: ∀(a:List Lit) (b:Lit),Lit.ln (a++ [b])=Lit.ln a+b.ts:=by
    intro a b
    induction a with
    |nil=>simp[Lit.ln]
    |cons x r ih=>simp only[W7,Lit.ln,ih];omega
   exact this _ _
  rw[cx];split
  ·omega
  ·have h2:=hf (l.getD i default) (gj i (cx f l w i))
   have h3:=lg i (cx f l w i);omega
theorem zz (w:WS) (a:eZ):(ot w a).l.length≤w.l.length+a.ig.ts+3:=by
 have e:BE.size=3:=rfl;unfold ot;split
 ·rw[aO];omega
 ·have:=cT 17 w a.ig
  rw[aN,e];omega
theorem uq (w:WS) (a:eZ):(aU (aP w (eQ a.var)) [a.var,o7,ik a.func,o8]).l.length≤w.l.length+a.var.size+11:=by
 have e1:o7.size=3:=rfl;have e2:o8.size=3:=rfl;have h:=xJ a.func;have e:ey [a.var,o7,ik a.func,o8]=a.var.size+(3+((ik a.func).size+3)):=by simp[ey,e1,e2]
 rw[gL,aO,e];omega
theorem D9 (f:Lit→WS→WS) (hf:Ki f) (w:WS) (a:eZ):(tv f w a).l.length≤w.l.length+a.var.size+a.ig.ts+Lit.ln a.body+20:=by
 have e:wJ.size=2:=rfl;unfold tv;split
 ·rw[eN];omega
 ·rw[aN,e]
  show(cx _ _ _ _).l.length+2≤_;have h1:=mK f hf a.body (td (ot (aU (aP w (eQ a.var)) [a.var,o7,ik a.func,o8]) a) 1) a.body.length (VZ _);rw[Xx] at h1;have h2:=zz (aU (aP w (eQ a.var)) [a.var,o7,ik a.func,o8]) a;have h3:=uq w a;have h4:(td (ot (aU (aP w (eQ a.var)) [a.var,o7,ik a.func,o8]) a) 1).l.length=(ot (aU (aP w (eQ a.var)) [a.var,o7,ik a.func,o8]) a).l.length:=rfl;omega
theorem CZ (f:Lit→WS→WS) (hf:Ki f) (l:Lit) (w:WS):(vz f l w).l.length+4≤w.l.length+l.ts:=by
 have h0:=l.pZ;have e:yl.size=4:=rfl;unfold vz
 repeat' split
 ·have h1:=uM (aU w [yl]) l.atom
  rw[aN,e] at h1;omega
 ·have h1:=uM w l.atom;omega
 ·have h1:=cT 17 w l.left
  rw[eN];omega
 ·have h1:=cT 17 w l.left
  have h2:=cT 17 (aU (cF 17 w l.left) [sJ l.op]) l.right;have h3:=DU l.op;rw[aN] at h2;omega
 ·have h1:=D9 f hf w l.agg
  have h2:l.agg.var=l.bs:=rfl;have h3:l.agg.ig=l.jV:=rfl;have h4:l.agg.body=l.ar:=rfl;rw[h2,h3,h4] at h1;omega
 ·rw[eN];omega
theorem r8: ∀n,Ki (cX n)
 |0=>fun l w=>by have:=l.QO;rw[cX];omega
 |n+1=>fun l w=>CZ (cX n) (r8 n) l (aP w (jS l))
theorem pV {f:Lit→WS→WS} {l:List Lit} {w:WS} {i:Nat} (h:(cx f l w i).bad=true): ∀k,cx f l w (i+k)=cx f l w i
 |0=>rfl
 |k+1=>by
  have:=pV h k;rw[←Xq,cx,this,if_pos h]
end Go.Proofs.YtflegjieadkonaaGreatDoor
namespace Go.Proofs.YtflegjieadkonaaGreatDoor
open Go Go.Al
set_option maxRecDepth 10000
def Eb (n:Nat):Prop:= ∀(l:Lit) (w:WS),l.size≤n→0≤w.br→w.br≤16→w.l.length+l.ts≤900000000→b8 Tryz.prog 190 [.ptr 0 0,ag l.c] w.O (.bM []) (cX n l w).H 3
set_option maxHeartbeats 1000000 in
theorem d214 (n:Nat) (ih:Eb n) (w:WS) (ls:List Lit) (hs:Lit.aB ls≤n) (hb0:0≤w.br) (hb1:w.br≤16) (hb:w.l.length+Lit.ln ls+2≤900000000) (hn:n≤100000000):
  b8 Tryz.prog 248 [.ptr 0 0, .iv (lits ls)] w.O (.bM []) (cx (cX n) ls w ls.length).H 3:=by
 have e4:wK.size=2:=rfl;have hlt:=Lit.aI ls;refine aF ae Tryz.func248 rfl (by decide) Tryz.ntmps248 rfl (by simp) ?_;refine gA rfl ?_
 refine aL 0 ls.length (V1 _) (fun i=>⟨[(0, .ptr 0 0),(6, .iv (lits ls)),(7,pI ls.length),(8,pI i)],[(0,some ((cx (cX n) ls w i).sQ 0 2)),(2,some (.bx (cx (cX n) ls w i).l 5))],3⟩) (fun _=>True) _ trivial
  (ya (w:=w) rfl rfl rfl rfl rfl (.refl _) (.refl _) rfl rfl rfl rfl rfl ⟨.refl _,rfl, .refl _,rfl, .refl _,rfl, .refl _,rfl,trivial⟩) fun i hi _=>?_
 have hln:=mK (cX n) (r8 n) ls w i hi;have hbr:=mv (cX n) (vA n) ls w i;have hsl:=Lit.BS ls i;refine gA rfl ?_;refine VJ (fun h1=>?_) (fun h1=>?_);rotate_left
 ·have h1:ls.length≤i:=Ww fun hh=>absurd (Wz.2 hh) (of_decide_eq_false h1)
  have hie:i=ls.length:=by omega
  subst hie;refine gA rfl (bj (by first|exact .inr rfl|exact .inl rfl) rfl rfl rfl rfl rfl (by first|exact .refl _|exact .kb _) (by first|exact .refl _|exact .kb _) rfl rfl rfl rfl (.refl _) rfl rfl)
 have h1:i<ls.length:=Wz.1 (of_decide_eq_true h1);have hst:=Lit.wm ls i h1;have hsg:=Lit.bS ls i h1;have hs1:cx (cX n) ls w (i+1)=if(cx (cX n) ls w i).bad=true then cx (cX n) ls w i else cX n (ls.getD i default) (gj i (cx (cX n) ls w i)):=rfl;have hbad:=fun h=>pV (f:=cX n) (l:=ls) (w:=w) (i:=i) h (ls.length-i);rw[Nat.add_sub_cancel' (Nat.le_of_lt h1)] at hbad;have hcl:=lg i (cx (cX n) ls w i);have hcb:=pR i (cx (cX n) ls w i);generalize cx (cX n) ls w i=w2 at*
 refine gA rfl ?_;refine VJ (fun g=>?_) (fun g=>?_)
 ·have g:w2.bad=true:=g
  rw[hbad g];refine gA rfl (bj (by first|exact .inr rfl|exact .inl rfl) rfl rfl rfl rfl rfl (by first|exact .refl _|exact .kb _) (by first|exact .refl _|exact .kb _) rfl rfl rfl rfl (.refl _) rfl rfl)
 have g: ¬w2.bad=true:=by
  have g:w2.bad=false:=g;rw[g];decide
 rw[if_neg g] at hs1;refine gA rfl ?_;refine VJ (fun h2=>?_) (fun h2=>?_)
 ·have h2: ¬i=0:=by have:=of_decide_eq_true h2;omega
  rw[gj,if_neg h2] at hs1 hcl hcb;refine gA rfl (go_wp (d147 w2 [wK] (by simp) (by rw[bC,e4];omega)) rfl rfl rfl rfl rfl rfl rfl rfl rfl rfl rfl rfl ?_);refine gA rfl (bX (ih (ls.getD i default) (aU w2 [wK]) (by omega) (by omega) (by omega) (by omega)) rfl rfl rfl rfl rfl rfl rfl rfl rfl rfl rfl rfl ?_);refine gA rfl ⟨h1,trivial,_,ya (hs1.symm) rfl rfl rfl rfl (by first|exact .refl _|exact .kb _) (by first|exact .refl _|exact .kb _) rfl rfl rfl rfl rfl ⟨.refl _,rfl, .refl _,rfl, .refl _,rfl, .refl _,rfl,trivial⟩⟩
 ·have h2:i=0:=by have:=of_decide_eq_false h2;omega
  rw[gj,if_pos h2] at hs1 hcl hcb;refine gA rfl (bX (ih (ls.getD i default) w2 (by omega) (by omega) (by omega) (by omega)) rfl rfl rfl rfl rfl rfl rfl rfl rfl rfl rfl rfl ?_);refine gA rfl ⟨h1,trivial,_,ya (hs1.symm) rfl rfl rfl rfl (by first|exact .refl _|exact .kb _) (by first|exact .refl _|exact .kb _) rfl rfl rfl rfl rfl ⟨.refl _,rfl, .refl _,rfl, .refl _,rfl, .refl _,rfl,trivial⟩⟩
def eZ.ts (a:eZ):Nat:=a.var.size+a.ig.ts+Lit.ln a.body
set_option maxHeartbeats 4000000 in
theorem d190 (n:Nat) (ih:Eb n) (w:WS) (a:eZ) (hs:Lit.aB a.body≤n) (hb0:0≤w.br) (hb1:w.br≤16) (hb:w.l.length+a.ts+30≤900000000) (hn:n≤100000000):
  b8 Tryz.prog 223 [.ptr 0 0,ag a.c] w.O (.bM []) (tv (cX n) w a).H 3:=by
 refine b8.le (args:=[.ptr 0 0,ag a.c1]) ?_ ⟨.refl _,a.zE,trivial⟩;have e4:wJ.size=2:=rfl;have e5:BE.size=3:=rfl;have hlt:=Lit.aI a.body;have hts:a.ts=a.var.size+a.ig.ts+Lit.ln a.body:=rfl;have hW: ¬(a.func<1∨5≤a.func∨16≤w.br∨a.body.length=0)→tv (cX n) w a=aU (td (cx (cX n) a.body (td (ot (aU (aP w (eQ a.var)) [a.var,o7,ik a.func,o8]) a) 1) a.body.length) (-1)) [wJ]:=fun h=>if_neg h;have hB:a.func<1∨5≤a.func∨16≤w.br∨a.body.length=0→tv (cX n) w a=mw w:=fun h=>if_pos h;have hh:=uq w a;have hh2:=zz (aU (aP w (eQ a.var)) [a.var,o7,ik a.func,o8]) a;have hh3:=CM (aU (aP w (eQ a.var)) [a.var,o7,ik a.func,o8]) a;rw[cI,rW] at hh3;have hh4:(td (ot (aU (aP w (eQ a.var)) [a.var,o7,ik a.func,o8]) a) 1).l.length=(ot (aU (aP w (eQ a.var)) [a.var,o7,ik a.func,o8]) a).l.length:=rfl;have hh5:(td (ot (aU (aP w (eQ a.var)) [a.var,o7,ik a.func,o8]) a) 1).br=(ot (aU (aP w (eQ a.var)) [a.var,o7,ik a.func,o8]) a).br+1:=rfl;have hh6:=mK (cX n) (r8 n) a.body (td (ot (aU (aP w (eQ a.var)) [a.var,o7,ik a.func,o8]) a) 1) a.body.length (VZ _);rw[Xx] at hh6;have hh7:=mv (cX n) (vA n) a.body (td (ot (aU (aP w (eQ a.var)) [a.var,o7,ik a.func,o8]) a) 1) a.body.length;have hz1:ey [a.var,o7,ik a.func,o8]=a.var.size+(3+((ik a.func).size+3)):=by simp[ey,o7,o8];rfl
 have hz2:=xJ a.func;obtain⟨func,var,ig,body⟩:=a;dsimp only at*
 refine aF ae Tryz.func223 rfl (by decide) Tryz.ntmps223 rfl (by simp) ?_;refine gA rfl ?_;refine VJ (fun g1=>?_) (fun g1=>?_);rotate_left
 ·rw[hB (.inl (of_decide_eq_true g1))]
  refine gA rfl (bj (by first|exact .inr rfl|exact .inl rfl) rfl rfl rfl rfl rfl (by first|exact .refl _|exact .kb _) (by first|exact .refl _|exact .kb _) rfl rfl rfl rfl (.refl _) rfl rfl)
 refine gA rfl ?_;refine VJ (fun g2=>?_) (fun g2=>?_);rotate_left
 ·rw[hB (.inr (.inl (of_decide_eq_true g2)))]
  refine gA rfl (bj (by first|exact .inr rfl|exact .inl rfl) rfl rfl rfl rfl rfl (by first|exact .refl _|exact .kb _) (by first|exact .refl _|exact .kb _) rfl rfl rfl rfl (.refl _) rfl rfl)
 refine gA rfl ?_;refine VJ (fun g3=>?_) (fun g3=>?_);rotate_left
 ·rw[hB (.inr (.inr (.inl (of_decide_eq_true g3))))]
  refine gA rfl (bj (by first|exact .inr rfl|exact .inl rfl) rfl rfl rfl rfl rfl (by first|exact .refl _|exact .kb _) (by first|exact .refl _|exact .kb _) rfl rfl rfl rfl (.refl _) rfl rfl)
 refine gA rfl ?_;refine VJ (fun g4=>?_) (fun g4=>?_)
 ·rw[hB (.inr (.inr (.inr (YU.1 (of_decide_eq_true g4)))))]
  refine gA rfl (bj (by first|exact .inr rfl|exact .inl rfl) rfl rfl rfl rfl rfl (by first|exact .refl _|exact .kb _) (by first|exact .refl _|exact .kb _) rfl rfl rfl rfl (.refl _) rfl rfl)
 have g1: ¬func<1:=of_decide_eq_false g1;have g2: ¬func≥5:=of_decide_eq_false g2;have g3: ¬w.br≥16:=of_decide_eq_false g3;have g4: ¬body.length=0:=fun h=>of_decide_eq_false g4 (YU.2 h);rw[hW (by rintro(h|h|h|h)<;>omega)];have hf:func=1∨func=2∨func=3∨func=4:=by omega
 clear hW hB
 rcases hf with rfl|rfl|rfl|rfl
 ·have e:ik 1=⟨#[99,111,117,110,116]⟩:=rfl
  rw[e] at hh hh2 hh3 hh4 hh5 hh6 hh7 hz1 hz2 ⊢;refine gA rfl (aj (y2 var) rfl rfl rfl rfl rfl rfl ?_);refine gA rfl (bX (d146 w (eQ var)) rfl rfl rfl rfl rfl rfl rfl rfl rfl rfl rfl rfl ?_);refine gA rfl (vI (d147 (aP w (eQ var)) [var,o7,⟨#[99,111,117,110,116]⟩,o8] (by simp) (by rw[hz1,aO];omega)) rfl rfl rfl rfl rfl rfl rfl rfl rfl rfl rfl rfl rfl rfl rfl rfl (by(repeat' (first|exact trivial|exact rfl|exact ak.refl _|exact ak.bk (by assumption)|apply VJ))<;>first|omega|(simp only[VQ];omega)|(simp;done)|(simp;omega)) rfl (by(repeat' (first|exact trivial|exact rfl|exact ak.refl _|exact ak.bk (by assumption)|apply VJ))<;>first|omega|(simp only[VQ];omega)|(simp;done)|(simp;omega)) ?_);generalize hW1:aU (aP w (eQ var)) [var,o7,⟨#[99,111,117,110,116]⟩,o8]=w1 at*
  have eo:ot w1 ⟨1,var,ig,body⟩=aP w1 (iz ig):=rfl;rw[eo] at hh2 hh3 hh4 hh5 hh6 hh7 ⊢;refine gA rfl ?_;refine VJ (fun q=>?_) (fun q=>?_);rotate_left
  ·exact absurd (show true=false from q) (by decide)
  refine gA rfl (aj (J6 ig) rfl rfl rfl rfl rfl rfl ?_);refine gA rfl (bX (d146 w1 (iz ig)) rfl rfl rfl rfl rfl rfl rfl rfl rfl rfl rfl rfl ?_);generalize aP w1 (iz ig)=w2 at*
  refine gA rfl (bX (d214 n ih (td w2 1) body hs (by omega) (by omega) (by omega) hn) rfl rfl rfl rfl rfl rfl rfl rfl rfl rfl rfl rfl ?_);generalize cx (cX n) body (td w2 1) body.length=w3 at*
  refine gA rfl (go_wp (d147 (td w3 (-1)) [wJ] (by simp) (by rw[bC,e4];show w3.l.length+2≤_;omega)) rfl rfl rfl rfl rfl rfl rfl rfl rfl rfl rfl rfl ?_);refine gA rfl (bj (by first|exact .inr rfl|exact .inl rfl) rfl rfl rfl rfl rfl (by first|exact .refl _|exact .kb _) (by first|exact .refl _|exact .kb _) rfl rfl rfl rfl (.refl _) rfl rfl)
 ·have e:ik 2=⟨#[115,117,109]⟩:=rfl
  rw[e] at hh hh2 hh3 hh4 hh5 hh6 hh7 hz1 hz2 ⊢;refine gA rfl (aj (y2 var) rfl rfl rfl rfl rfl rfl ?_);refine gA rfl (bX (d146 w (eQ var)) rfl rfl rfl rfl rfl rfl rfl rfl rfl rfl rfl rfl ?_);refine gA rfl (vI (d147 (aP w (eQ var)) [var,o7,⟨#[115,117,109]⟩,o8] (by simp) (by rw[hz1,aO];omega)) rfl rfl rfl rfl rfl rfl rfl rfl rfl rfl rfl rfl rfl rfl rfl rfl (by(repeat' (first|exact trivial|exact rfl|exact ak.refl _|exact ak.bk (by assumption)|apply VJ))<;>first|omega|(simp only[VQ];omega)|(simp;done)|(simp;omega)) rfl (by(repeat' (first|exact trivial|exact rfl|exact ak.refl _|exact ak.bk (by assumption)|apply VJ))<;>first|omega|(simp only[VQ];omega)|(simp;done)|(simp;omega)) ?_);generalize hW1:aU (aP w (eQ var)) [var,o7,⟨#[115,117,109]⟩,o8]=w1 at*
  have eo:ot w1 ⟨2,var,ig,body⟩=aU (cF 17 w1 ig) [BE]:=rfl;rw[eo] at hh2 hh3 hh4 hh5 hh6 hh7 ⊢;refine gA rfl ?_;refine VJ (fun q=>?_) (fun q=>?_)
  ·exact absurd (show false=true from q) (by decide)
  have hx:=cT 17 w1 ig;refine gA rfl (bX (nk w1 ig (by omega)) rfl rfl rfl rfl rfl rfl rfl rfl rfl rfl rfl rfl ?_);refine gA rfl (go_wp (d147 (cF 17 w1 ig) [BE] (by simp) (by rw[bC,e5];omega)) rfl rfl rfl rfl rfl rfl rfl rfl rfl rfl rfl rfl ?_);generalize aU (cF 17 w1 ig) [BE]=w2 at*
  refine gA rfl (bX (d214 n ih (td w2 1) body hs (by omega) (by omega) (by omega) hn) rfl rfl rfl rfl rfl rfl rfl rfl rfl rfl rfl rfl ?_);generalize cx (cX n) body (td w2 1) body.length=w3 at*
  refine gA rfl (go_wp (d147 (td w3 (-1)) [wJ] (by simp) (by rw[bC,e4];show w3.l.length+2≤_;omega)) rfl rfl rfl rfl rfl rfl rfl rfl rfl rfl rfl rfl ?_);refine gA rfl (bj (by first|exact .inr rfl|exact .inl rfl) rfl rfl rfl rfl rfl (by first|exact .refl _|exact .kb _) (by first|exact .refl _|exact .kb _) rfl rfl rfl rfl (.refl _) rfl rfl)
 ·have e:ik 3=⟨#[109,105,110]⟩:=rfl
  rw[e] at hh hh2 hh3 hh4 hh5 hh6 hh7 hz1 hz2 ⊢;refine gA rfl (aj (y2 var) rfl rfl rfl rfl rfl rfl ?_);refine gA rfl (bX (d146 w (eQ var)) rfl rfl rfl rfl rfl rfl rfl rfl rfl rfl rfl rfl ?_);refine gA rfl (vI (d147 (aP w (eQ var)) [var,o7,⟨#[109,105,110]⟩,o8] (by simp) (by rw[hz1,aO];omega)) rfl rfl rfl rfl rfl rfl rfl rfl rfl rfl rfl rfl rfl rfl rfl rfl (by(repeat' (first|exact trivial|exact rfl|exact ak.refl _|exact ak.bk (by assumption)|apply VJ))<;>first|omega|(simp only[VQ];omega)|(simp;done)|(simp;omega)) rfl (by(repeat' (first|exact trivial|exact rfl|exact ak.refl _|exact ak.bk (by assumption)|apply VJ))<;>first|omega|(simp only[VQ];omega)|(simp;done)|(simp;omega)) ?_);generalize hW1:aU (aP w (eQ var)) [var,o7,⟨#[109,105,110]⟩,o8]=w1 at*
  have eo:ot w1 ⟨3,var,ig,body⟩=aU (cF 17 w1 ig) [BE]:=rfl;rw[eo] at hh2 hh3 hh4 hh5 hh6 hh7 ⊢;refine gA rfl ?_;refine VJ (fun q=>?_) (fun q=>?_)
  ·exact absurd (show false=true from q) (by decide)
  have hx:=cT 17 w1 ig;refine gA rfl (bX (nk w1 ig (by omega)) rfl rfl rfl rfl rfl rfl rfl rfl rfl rfl rfl rfl ?_);refine gA rfl (go_wp (d147 (cF 17 w1 ig) [BE] (by simp) (by rw[bC,e5];omega)) rfl rfl rfl rfl rfl rfl rfl rfl rfl rfl rfl rfl ?_);generalize aU (cF 17 w1 ig) [BE]=w2 at*
  refine gA rfl (bX (d214 n ih (td w2 1) body hs (by omega) (by omega) (by omega) hn) rfl rfl rfl rfl rfl rfl rfl rfl rfl rfl rfl rfl ?_);generalize cx (cX n) body (td w2 1) body.length=w3 at*
  refine gA rfl (go_wp (d147 (td w3 (-1)) [wJ] (by simp) (by rw[bC,e4];show w3.l.length+2≤_;omega)) rfl rfl rfl rfl rfl rfl rfl rfl rfl rfl rfl rfl ?_);refine gA rfl (bj (by first|exact .inr rfl|exact .inl rfl) rfl rfl rfl rfl rfl (by first|exact .refl _|exact .kb _) (by first|exact .refl _|exact .kb _) rfl rfl rfl rfl (.refl _) rfl rfl)
 ·have e:ik 4=⟨#[109,97,120]⟩:=rfl
  rw[e] at hh hh2 hh3 hh4 hh5 hh6 hh7 hz1 hz2 ⊢;refine gA rfl (aj (y2 var) rfl rfl rfl rfl rfl rfl ?_);refine gA rfl (bX (d146 w (eQ var)) rfl rfl rfl rfl rfl rfl rfl rfl rfl rfl rfl rfl ?_);refine gA rfl (vI (d147 (aP w (eQ var)) [var,o7,⟨#[109,97,120]⟩,o8] (by simp) (by rw[hz1,aO];omega)) rfl rfl rfl rfl rfl rfl rfl rfl rfl rfl rfl rfl rfl rfl rfl rfl (by(repeat' (first|exact trivial|exact rfl|exact ak.refl _|exact ak.bk (by assumption)|apply VJ))<;>first|omega|(simp only[VQ];omega)|(simp;done)|(simp;omega)) rfl (by(repeat' (first|exact trivial|exact rfl|exact ak.refl _|exact ak.bk (by assumption)|apply VJ))<;>first|omega|(simp only[VQ];omega)|(simp;done)|(simp;omega)) ?_);generalize hW1:aU (aP w (eQ var)) [var,o7,⟨#[109,97,120]⟩,o8]=w1 at*
  have eo:ot w1 ⟨4,var,ig,body⟩=aU (cF 17 w1 ig) [BE]:=rfl;rw[eo] at hh2 hh3 hh4 hh5 hh6 hh7 ⊢;refine gA rfl ?_;refine VJ (fun q=>?_) (fun q=>?_)
  ·exact absurd (show false=true from q) (by decide)
  have hx:=cT 17 w1 ig;refine gA rfl (bX (nk w1 ig (by omega)) rfl rfl rfl rfl rfl rfl rfl rfl rfl rfl rfl rfl ?_);refine gA rfl (go_wp (d147 (cF 17 w1 ig) [BE] (by simp) (by rw[bC,e5];omega)) rfl rfl rfl rfl rfl rfl rfl rfl rfl rfl rfl rfl ?_);generalize aU (cF 17 w1 ig) [BE]=w2 at*
  refine gA rfl (bX (d214 n ih (td w2 1) body hs (by omega) (by omega) (by omega) hn) rfl rfl rfl rfl rfl rfl rfl rfl rfl rfl rfl rfl ?_);generalize cx (cX n) body (td w2 1) body.length=w3 at*
  refine gA rfl (go_wp (d147 (td w3 (-1)) [wJ] (by simp) (by rw[bC,e4];show w3.l.length+2≤_;omega)) rfl rfl rfl rfl rfl rfl rfl rfl rfl rfl rfl rfl ?_);refine gA rfl (bj (by first|exact .inr rfl|exact .inl rfl) rfl rfl rfl rfl rfl (by first|exact .refl _|exact .kb _) (by first|exact .refl _|exact .kb _) rfl rfl rfl rfl (.refl _) rfl rfl)
set_option maxHeartbeats 4000000 in
theorem Bt (n:Nat) (ih:Eb n) (hn:n≤100000000):Eb (n+1):=by
 intro l w hs hb0 hb1 hb;have e4:yl.size=4:=rfl;have hsz:=l.size_eq;have hts:=l.pZ;have hag:l.agg.ts=l.bs.size+l.jV.ts+Lit.ln l.ar:=rfl;have hL:cX (n+1) l w=vz (cX n) l (aP w (jS l)):=rfl;rw[hL];have hm1:(aP w (jS l)).l.length=w.l.length:=rfl;have hm2:=rW w (jS l);have hx:=cT 17 (aP w (jS l)) l.left;obtain⟨kind,atom,op,left,right,dC,bs,jV,ar,at_⟩:=l;dsimp only[Lit.atom,Lit.left,Lit.right,Lit.bs,Lit.jV,Lit.ar] at hsz hts hag hx;refine aF ae Tryz.func190 rfl (by decide) Tryz.ntmps190 rfl (by simp) ?_;refine gA rfl (aj (Vp (.mk kind atom op left right dC bs jV ar at_)) rfl rfl rfl rfl rfl rfl ?_);refine gA rfl (bX (d146 w (jS (.mk kind atom op left right dC bs jV ar at_))) rfl rfl rfl rfl rfl rfl rfl rfl rfl rfl rfl rfl ?_);generalize aP w (jS (.mk kind atom op left right dC bs jV ar at_))=w1 at*
 have hK:vz (cX n) (.mk kind atom op left right dC bs jV ar at_) w1=if kind=2 then jo (aU w1 [yl]) atom else if kind=1 then jo w1 atom
  else if kind=3 then(if op<1∨7≤op then mw (cF 17 w1 left) else cF 17 (aU (cF 17 w1 left) [sJ op]) right)
  else if kind=4 then tv (cX n) w1 (Lit.mk kind atom op left right dC bs jV ar at_).agg else mw w1:=rfl
 rw[hK];refine gA rfl ?_;refine VJ (fun k2=>?_) (fun k2=>?_)
 ·have k2:kind=2:=of_decide_eq_true k2
  rw[if_pos k2];refine gA rfl (go_wp (d147 w1 [yl] (by simp) (by rw[bC,e4];omega)) rfl rfl rfl rfl rfl rfl rfl rfl rfl rfl rfl rfl ?_);refine gA rfl (bX (d104 (aU w1 [yl]) atom (by rw[aN,e4];omega)) rfl rfl rfl rfl rfl rfl rfl rfl rfl rfl rfl rfl ?_);refine gA rfl (bj (by first|exact .inr rfl|exact .inl rfl) rfl rfl rfl rfl rfl (by first|exact .refl _|exact .kb _) (by first|exact .refl _|exact .kb _) rfl rfl rfl rfl (.refl _) rfl rfl)
 have k2: ¬kind=2:=of_decide_eq_false k2;rw[if_neg k2];refine gA rfl ?_;refine VJ (fun k1=>?_) (fun k1=>?_)
 ·have k1:kind=1:=of_decide_eq_true k1
  rw[if_pos k1];refine gA rfl (bX (d104 w1 atom (by omega)) rfl rfl rfl rfl rfl rfl rfl rfl rfl rfl rfl rfl ?_);refine gA rfl (bj (by first|exact .inr rfl|exact .inl rfl) rfl rfl rfl rfl rfl (by first|exact .refl _|exact .kb _) (by first|exact .refl _|exact .kb _) rfl rfl rfl rfl (.refl _) rfl rfl)
 have k1: ¬kind=1:=of_decide_eq_false k1;rw[if_neg k1];refine gA rfl ?_;refine VJ (fun k3=>?_) (fun k3=>?_);rotate_left
 ·have k3: ¬kind=3:=of_decide_eq_false k3
  rw[if_neg k3];refine gA rfl ?_;refine VJ (fun k4=>?_) (fun k4=>?_)
  ·have k4:kind=4:=of_decide_eq_true k4
   rw[if_pos k4];refine gA rfl (bX (d190 n ih w1 (Lit.mk kind atom op left right dC bs jV ar at_).agg (by show Lit.aB ar≤n;omega) (by omega) (by omega) (by omega) hn) rfl rfl rfl rfl rfl rfl rfl rfl rfl rfl rfl rfl ?_);refine gA rfl (bj (by first|exact .inr rfl|exact .inl rfl) rfl rfl rfl rfl rfl (by first|exact .refl _|exact .kb _) (by first|exact .refl _|exact .kb _) rfl rfl rfl rfl (.refl _) rfl rfl)
  ·have k4: ¬kind=4:=of_decide_eq_false k4
   rw[if_neg k4];refine gA rfl (bj (by first|exact .inr rfl|exact .inl rfl) rfl rfl rfl rfl rfl (by first|exact .refl _|exact .kb _) (by first|exact .refl _|exact .kb _) rfl rfl rfl rfl (.refl _) rfl rfl)
 have k3:kind=3:=of_decide_eq_true k3;rw[if_pos k3];refine gA rfl (bX (nk w1 left (by omega)) rfl rfl rfl rfl rfl rfl rfl rfl rfl rfl rfl rfl ?_);refine gA rfl ?_;refine VJ (fun g1=>?_) (fun g1=>?_);rotate_left
 ·rw[if_pos (.inl (of_decide_eq_true g1))]
  refine gA rfl (bj (by first|exact .inr rfl|exact .inl rfl) rfl rfl rfl rfl rfl (by first|exact .refl _|exact .kb _) (by first|exact .refl _|exact .kb _) rfl rfl rfl rfl (.refl _) rfl rfl)
 refine gA rfl ?_;refine VJ (fun g2=>?_) (fun g2=>?_)
 ·rw[if_pos (.inr (of_decide_eq_true g2))]
  refine gA rfl (bj (by first|exact .inr rfl|exact .inl rfl) rfl rfl rfl rfl rfl (by first|exact .refl _|exact .kb _) (by first|exact .refl _|exact .kb _) rfl rfl rfl rfl (.refl _) rfl rfl)
 have g1: ¬op<1:=of_decide_eq_false g1;have g2: ¬op≥7:=of_decide_eq_false g2;rw[if_neg (by rintro(h|h)<;>omega)];generalize cF 17 w1 left=w2 at*
 have ho:op=1∨op=2∨op=3∨op=4∨op=5∨op=6:=by omega
 clear hK hL
 rcases ho with rfl|rfl|rfl|rfl|rfl|rfl
 ·have e:sJ 1=⟨#[32,61,32]⟩:=rfl
  have e6:((⟨#[32,61,32]⟩:ah)).size=3:=rfl;rw[e];refine lB rfl (by dsimp only[Lit.op];exact(by(repeat' (first|exact trivial|exact rfl|exact ak.refl _|exact ak.bk (by assumption)|apply VJ))<;>first|omega|(simp only[VQ];omega)|(simp;done)|(simp;omega))) (go_wp (d147 w2 [⟨#[32,61,32]⟩] (by simp) (by rw[bC,e6];omega)) rfl rfl rfl rfl rfl rfl rfl rfl rfl rfl rfl rfl ?_);refine gA rfl (bX (nk (aU w2 [⟨#[32,61,32]⟩]) right (by rw[aN,e6];omega)) rfl rfl rfl rfl rfl rfl rfl rfl rfl rfl rfl rfl ?_);refine gA rfl (bj (by first|exact .inr rfl|exact .inl rfl) rfl rfl rfl rfl rfl (by first|exact .refl _|exact .kb _) (by first|exact .refl _|exact .kb _) rfl rfl rfl rfl (.refl _) rfl rfl)
 ·have e:sJ 2=⟨#[32,33,61,32]⟩:=rfl
  have e6:((⟨#[32,33,61,32]⟩:ah)).size=4:=rfl;rw[e];refine lB rfl (by dsimp only[Lit.op];exact(by(repeat' (first|exact trivial|exact rfl|exact ak.refl _|exact ak.bk (by assumption)|apply VJ))<;>first|omega|(simp only[VQ];omega)|(simp;done)|(simp;omega))) (go_wp (d147 w2 [⟨#[32,33,61,32]⟩] (by simp) (by rw[bC,e6];omega)) rfl rfl rfl rfl rfl rfl rfl rfl rfl rfl rfl rfl ?_);refine gA rfl (bX (nk (aU w2 [⟨#[32,33,61,32]⟩]) right (by rw[aN,e6];omega)) rfl rfl rfl rfl rfl rfl rfl rfl rfl rfl rfl rfl ?_);refine gA rfl (bj (by first|exact .inr rfl|exact .inl rfl) rfl rfl rfl rfl rfl (by first|exact .refl _|exact .kb _) (by first|exact .refl _|exact .kb _) rfl rfl rfl rfl (.refl _) rfl rfl)
 ·have e:sJ 3=⟨#[32,60,32]⟩:=rfl
  have e6:((⟨#[32,60,32]⟩:ah)).size=3:=rfl;rw[e];refine lB rfl (by dsimp only[Lit.op];exact(by(repeat' (first|exact trivial|exact rfl|exact ak.refl _|exact ak.bk (by assumption)|apply VJ))<;>first|omega|(simp only[VQ];omega)|(simp;done)|(simp;omega))) (go_wp (d147 w2 [⟨#[32,60,32]⟩] (by simp) (by rw[bC,e6];omega)) rfl rfl rfl rfl rfl rfl rfl rfl rfl rfl rfl rfl ?_);refine gA rfl (bX (nk (aU w2 [⟨#[32,60,32]⟩]) right (by rw[aN,e6];omega)) rfl rfl rfl rfl rfl rfl rfl rfl rfl rfl rfl rfl ?_);refine gA rfl (bj (by first|exact .inr rfl|exact .inl rfl) rfl rfl rfl rfl rfl (by first|exact .refl _|exact .kb _) (by first|exact .refl _|exact .kb _) rfl rfl rfl rfl (.refl _) rfl rfl)
 ·have e:sJ 4=⟨#[32,60,61,32]⟩:=rfl
  have e6:((⟨#[32,60,61,32]⟩:ah)).size=4:=rfl;rw[e];refine lB rfl (by dsimp only[Lit.op];exact(by(repeat' (first|exact trivial|exact rfl|exact ak.refl _|exact ak.bk (by assumption)|apply VJ))<;>first|omega|(simp only[VQ];omega)|(simp;done)|(simp;omega))) (go_wp (d147 w2 [⟨#[32,60,61,32]⟩] (by simp) (by rw[bC,e6];omega)) rfl rfl rfl rfl rfl rfl rfl rfl rfl rfl rfl rfl ?_);refine gA rfl (bX (nk (aU w2 [⟨#[32,60,61,32]⟩]) right (by rw[aN,e6];omega)) rfl rfl rfl rfl rfl rfl rfl rfl rfl rfl rfl rfl ?_);refine gA rfl (bj (by first|exact .inr rfl|exact .inl rfl) rfl rfl rfl rfl rfl (by first|exact .refl _|exact .kb _) (by first|exact .refl _|exact .kb _) rfl rfl rfl rfl (.refl _) rfl rfl)
 ·have e:sJ 5=⟨#[32,62,32]⟩:=rfl
  have e6:((⟨#[32,62,32]⟩:ah)).size=3:=rfl;rw[e];refine lB rfl (by dsimp only[Lit.op];exact(by(repeat' (first|exact trivial|exact rfl|exact ak.refl _|exact ak.bk (by assumption)|apply VJ))<;>first|omega|(simp only[VQ];omega)|(simp;done)|(simp;omega))) (go_wp (d147 w2 [⟨#[32,62,32]⟩] (by simp) (by rw[bC,e6];omega)) rfl rfl rfl rfl rfl rfl rfl rfl rfl rfl rfl rfl ?_);refine gA rfl (bX (nk (aU w2 [⟨#[32,62,32]⟩]) right (by rw[aN,e6];omega)) rfl rfl rfl rfl rfl rfl rfl rfl rfl rfl rfl rfl ?_);refine gA rfl (bj (by first|exact .inr rfl|exact .inl rfl) rfl rfl rfl rfl rfl (by first|exact .refl _|exact .kb _) (by first|exact .refl _|exact .kb _) rfl rfl rfl rfl (.refl _) rfl rfl)
 ·have e:sJ 6=⟨#[32,62,61,32]⟩:=rfl
  have e6:((⟨#[32,62,61,32]⟩:ah)).size=4:=rfl;rw[e];refine lB rfl (by dsimp only[Lit.op];exact(by(repeat' (first|exact trivial|exact rfl|exact ak.refl _|exact ak.bk (by assumption)|apply VJ))<;>first|omega|(simp only[VQ];omega)|(simp;done)|(simp;omega))) (go_wp (d147 w2 [⟨#[32,62,61,32]⟩] (by simp) (by rw[bC,e6];omega)) rfl rfl rfl rfl rfl rfl rfl rfl rfl rfl rfl rfl ?_);refine gA rfl (bX (nk (aU w2 [⟨#[32,62,61,32]⟩]) right (by rw[aN,e6];omega)) rfl rfl rfl rfl rfl rfl rfl rfl rfl rfl rfl rfl ?_);refine gA rfl (bj (by first|exact .inr rfl|exact .inl rfl) rfl rfl rfl rfl rfl (by first|exact .refl _|exact .kb _) (by first|exact .refl _|exact .kb _) rfl rfl rfl rfl (.refl _) rfl rfl)
theorem Uf: ∀n,n≤100000001→Eb n
 |0,_=>fun l w hs=>by have:=l.size_pos;omega
 |n+1,h=>Bt n (Uf n (by omega)) (by omega)
end Go.Proofs.YtflegjieadkonaaGreatDoor
namespace Go.Proofs.YtflegjieadkonaaGreatDoor
open Go Go.Al
set_option maxRecDepth 10000
abbrev WS.o:WS:=⟨true,[],false,0⟩
section
variable {nt:Nat} {Q:AQ} {k:List KI} {s:AS}
def wN (s:AS) (i:Nat):AS:=match s with|⟨f,h,n⟩=>⟨f,(i,some (WS.o.sQ i n))::(n,some (.bx [] 5))::h,n+1⟩
theorem zP {P:Program} {c:Code} {s':AS} (i:Nat) (hi:s.h.get i=some (.cells [.iv (.v (.pointer none)), .iv (.v (.slice none 0 0)),pB false,pI 0] (some 247)))
  (hs:wN s i=s') (h:GO P nt (.code c::k) Q s'):GO P nt (.code c::k) Q s:=by
 subst hs;intro M N a w hf;obtain⟨sf,sh,sn⟩:=s;obtain⟨h1,h2⟩:=hf.1.Kn 5;have hlt:i<sn:=hf.1.used i _ hi;have hne:i≠sn:=fun e=>by omega
 have hget:AH.get ((sn,some (AO.bx [] 5))::sh) i=some (.cells [.iv (.v (.pointer none)), .iv (.v (.slice none 0 0)),pB false,pI 0] (some 247)):=by
  rw[AH.ay,if_neg hne];exact hi
 obtain⟨c0,T,e1,e2,e3,e4,e5⟩:=h2.obj i _ hget
 have hv: ∀(j:Nat) (p:PV),[PV.ei true i, .sl sn 0 0 1,pB false,pI 0][j]? =some p→VR M N (· <sn+1) p (c0.getD j undef):=by
  intro j p hp
  match j,hp with
  |0,hp=>
   cases hp;have:=e4 0 _ rfl;generalize c0.getD 0 undef=v at this ⊢
   cases this with
   |iv _ _ h=>cases h with
    |v=>exact .ei true i (Xs hlt)
  |1,hp=>
   cases hp;have:=e4 1 _ rfl;generalize c0.getD 1 undef=v at this ⊢
   cases this with
   |iv _ _ h=>cases h with
    |v=>exact .mD _ _ (Xo _)
  |2,hp=>exact e4 2 p hp
  |3,hp=>exact e4 3 p hp
  |j+4,hp=>cases hp
 obtain⟨g1,g2⟩:=h2.write (i:=i) (o0:= .cells [.iv (.v (.pointer none)), .iv (.v (.slice none 0 0)),pB false,pI 0] (some 247)) hget rfl w (WS.o.sQ i sn) rfl rfl rfl rfl (fun _ _=>rfl) ⟨c0,T,e1,e2,e3,hv,e5⟩
 have hf1:Fits M N ⟨sf,(i,some (WS.o.sQ i sn))::(sn,some (.bx [] 5))::sh,sn+1⟩ nt a w:=
  ⟨g2,fun k=>(hf.2.1 k).mono (.refl _) (.refl _ _) (fun i hi=>Xs hi),hf.2.2⟩
 exact AW.then h hf1 fun e a2 w2 M2 N2 s2 hx2 hf2 hr2=>⟨M2,N2,s2,(h1.trans g1).trans hx2,hf2,hr2⟩
end
def WS.told (w:WS):PV:= .bM [pS (if w.bad=true then⟨#[]⟩ else⟨w.l.toArray⟩),pI (if w.bad=true then 50 else 0)]
theorem d105 (w:WS):b8 Tryz.prog 189 [.ptr 0 0] w.O w.told [] 2:=by
 refine aF ae Tryz.func189 rfl (by decide) Tryz.ntmps189 rfl (by simp) ?_;refine gA rfl ?_;refine VJ (fun g=>?_) (fun g=>?_)
 ·have g:w.bad=true:=g
  unfold WS.told;rw[if_pos g,if_pos g];refine gA rfl (ax [] (by first|exact .inr rfl|exact .inl rfl) rfl (wk rfl rfl rfl ⟨.refl _,rfl,trivial⟩ trivial rfl))
 ·have g: ¬w.bad=true:=by
   have g:w.bad=false:=g;rw[g];decide
  unfold WS.told;rw[if_neg g,if_neg g];refine gA rfl (aK [0,1] (d150 w) rfl rfl rfl rfl rfl rfl rfl rfl ?_);refine gA rfl (ax [] (by first|exact .inr rfl|exact .inl rfl) rfl (wk rfl rfl rfl ⟨.refl _,rfl,trivial⟩ trivial rfl))
def UF (a:Atom):PV:=(jo WS.o a).told
def U0 (l:Lit):PV:=(cX l.size l WS.o).told
theorem c61 (a:Atom) (hb:a.ts≤900000000):Pure Tryz.prog 157 [ag a.c] (UF a):=by
 refine az ae Tryz.func157 rfl (by decide) Tryz.ntmps157 rfl (by simp) rfl ?_;refine gM 12 rfl (zP 1 rfl rfl ?_);refine gA rfl (bX (d104 WS.o a (by simpa using hb)) rfl rfl rfl rfl rfl rfl rfl rfl rfl rfl rfl rfl ?_);refine gA rfl (aK [1,3] (d105 (jo WS.o a)) rfl rfl rfl rfl rfl rfl rfl rfl ?_);refine gA rfl (au (by first|exact .inr rfl|exact .inl rfl) rfl (.of_eq ?_));rfl
theorem VA (l:Lit) (hb:l.ts≤900000000) (hs:l.size≤100000000):Pure Tryz.prog 158 [ag l.c] (U0 l):=by
 refine az ae Tryz.func158 rfl (by decide) Tryz.ntmps158 rfl (by simp) rfl ?_;refine gM 12 rfl (zP 1 rfl rfl ?_);refine gA rfl (bX (Uf l.size (by omega) l WS.o (VZ _) (by decide) (by decide) (by simpa using hb)) rfl rfl rfl rfl rfl rfl rfl rfl rfl rfl rfl rfl ?_);refine gA rfl (aK [1,3] (d105 (cX l.size l WS.o)) rfl rfl rfl rfl rfl rfl rfl rfl ?_);refine gA rfl (au (by first|exact .inr rfl|exact .inl rfl) rfl (.of_eq ?_));rfl
end Go.Proofs.YtflegjieadkonaaGreatDoor
namespace Go.Proofs.YtflegjieadkonaaGreatDoor
open Go Go.Al
set_option maxRecDepth 10000
def nI (d:Decl) (i k:Int):Int:=
 if(d.types.any fun x=>!decide (x=1)&&!decide (x=2))=true∨iX d.name=false then 1
 else if i≥64∨(d.types.length:Int)>8 then 66 else if k>0 then 60 else 0
theorem VB (d:Decl) (i k:Int):Pure Tryz.prog 123 [ag d.c,pI i,pI k] (pI (nI d i k)):=by
 refine az ae Tryz.func123 rfl (by decide) Tryz.ntmps123 rfl (by simp) rfl ?_;refine gA rfl (aK [] (d153 d.types) rfl rfl rfl rfl rfl rfl rfl rfl ?_);refine gA rfl ?_;refine VJ (fun g1=>?_) (fun g1=>?_);rotate_left
 ·rw[nI,if_pos (.inl (by simpa using g1))]
  refine gA rfl (au (by first|exact .inr rfl|exact .inl rfl) rfl (.of_eq ?_));rfl
 have g1: ¬(d.types.any fun x=>!decide (x=1)&&!decide (x=2))=true:=by
  have g1:(d.types.any fun x=>!decide (x=1)&&!decide (x=2))=false:=g1;rw[g1];decide
 refine gA rfl (aj (Vh d.name) rfl rfl rfl rfl rfl rfl ?_);refine gA rfl ?_;refine VJ (fun g2=>?_) (fun g2=>?_)
 ·have g2:iX d.name=false:=by simpa using g2
  rw[nI,if_pos (.inr g2)];refine gA rfl (au (by first|exact .inr rfl|exact .inl rfl) rfl (.of_eq ?_));rfl
 have g2: ¬iX d.name=false:=by
  have g2:iX d.name=true:=by simpa using g2
  rw[g2];decide
 rw[nI,if_neg (by rintro(h|h);exact g1 h;exact g2 h)];refine gA rfl ?_;refine VJ (fun g3=>?_) (fun g3=>?_);rotate_left
 ·rw[if_pos (.inl (by simpa using g3))]
  refine gA rfl (au (by first|exact .inr rfl|exact .inl rfl) rfl (.of_eq ?_));rfl
 have g3: ¬i≥64:=of_decide_eq_false g3;refine gA rfl ?_;refine VJ (fun g4=>?_) (fun g4=>?_)
 ·rw[if_pos (.inr (of_decide_eq_true g4))]
  refine gA rfl (au (by first|exact .inr rfl|exact .inl rfl) rfl (.of_eq ?_));rfl
 have g4: ¬(d.types.length:Int)>8:=of_decide_eq_false g4;rw[if_neg (by rintro(h|h);exact g3 h;exact g4 h)];refine gA rfl ?_;refine VJ (fun g5=>?_) (fun g5=>?_)
 ·rw[if_pos (of_decide_eq_true g5)]
  refine gA rfl (au (by first|exact .inr rfl|exact .inl rfl) rfl (.of_eq ?_));rfl
 ·rw[if_neg (of_decide_eq_false g5)]
  refine gA rfl (au (by first|exact .inr rfl|exact .inl rfl) rfl (.of_eq ?_));rfl
abbrev bY:=(KC.si .i64).K
def bY.z:bY:=(VT,0)
def bY.c (s:bY):List IV:=[iS s.1,iI s.2]
def spE (s:bY):IV:= .agg s.c
def spZ:Value:= .agg #[.string VT, .int .i64 0]
def dvP:PV→bY
 | .agg [.iv (.v (.string s)), .iv (.v (.int _ a))]=>(s,a)
 |_=>bY.z
abbrev UM:=List (bY×bY)
abbrev KM:=List (bY×Int)
abbrev oY (m:UM):AO:= .map (.si .i64) spE bY.z spZ dvP m
abbrev upI (m:UM):IV:= .dG (.si .i64) spE bY.z spZ m
abbrev pA (m:KM):AO:= .map (.si .i64) sE 0 (.int .i64 0) US m
abbrev kdI (m:KM):IV:= .dG (.si .i64) sE 0 (.int .i64 0) m
structure Want where
 lit:Int
 at_:bY
 kind:Int
 has:Int
 deriving Inhabited
def Want.c (w:Want):List IV:=[iI w.lit,iS w.at_.1,iI w.at_.2,iI w.kind,iI w.has]
structure TS where
 up:UM
 ws:List Want
 kind:KM
abbrev TS.cell (r:aw) (u j n k:Nat):AO:= .cells [.iv (b6 r), .mp u, .sl j 0 n 5, .mp k]
abbrev TS.O (r:aw) (t:TS):List AO:=[TS.cell r 1 2 t.ws.length 3,oY t.up,a7 5 t.ws Want.c,pA t.kind]
abbrev TS.K (r:aw) (t:TS):AH:=[(0,some (TS.cell r 1 2 t.ws.length 3)),(1,some (oY t.up)),(2,some (a7 5 t.ws Want.c)),(3,some (pA t.kind))]
abbrev TS.H (r:aw) (t:TS):AH:=[(0,some (TS.cell r 1 4 t.ws.length 3)),(1,some (oY t.up)),(4,some (a7 5 t.ws Want.c)),(3,some (pA t.kind))]
def dr (r:aw) (s:ah) (w:Int):bY:=(s,if bF .str (aG (aD r)) s 0>0 then-1 else w)
theorem d136 (r:aw) (t:TS) (s:ah) (w:Int):b8 Tryz.prog 225 [.ptr 0 0,pS s,pI w] (t.O r) (ag (dr r s w).c) (t.K r) 4:=by
 refine aF ae Tryz.func225 rfl (by decide) Tryz.ntmps225 rfl (by simp) ?_;refine gA rfl ?_;refine VJ (fun g=>?_) (fun g=>?_)
 ·have e:dr r s w=(s, -1):=by unfold dr;rw[if_pos (of_decide_eq_true g)]
  rw[e];refine gA rfl (ax [] (by first|exact .inr rfl|exact .inl rfl) rfl (wk rfl rfl rfl ⟨.refl _,rfl,trivial⟩ ⟨⟨_,rfl, .of_eq rfl⟩,VI rfl,rfl,hM rfl rfl rfl ⟨⟨_,rfl, .of_eq (cj _).symm⟩,VI rfl,dT _,hM rfl rfl rfl trivial⟩⟩ rfl))
 ·have e:dr r s w=(s,w):=by unfold dr;rw[if_neg (of_decide_eq_false g)]
  rw[e];refine gA rfl (ax [] (by first|exact .inr rfl|exact .inl rfl) rfl (wk rfl rfl rfl ⟨.refl _,rfl,trivial⟩ ⟨⟨_,rfl, .of_eq rfl⟩,VI rfl,rfl,hM rfl rfl rfl ⟨⟨_,rfl, .of_eq (cj _).symm⟩,VI rfl,dT _,hM rfl rfl rfl trivial⟩⟩ rfl))
def bD:UM→bY→bY
 | [],v=>v
 |(x,y)::r,v=>if x=v then bD r y else bD r v
def gl:UM→Prop
 | []=>True
 |(x,y)::r=>x≠y∧(∀q∈r,q.1≠x)∧(∀q∈r,q.2≠x)∧gl r
def An:UM→bY→Nat
 | [],_=>0
 |(x,_)::r,v=>if x=v then r.length+1 else An r v
theorem BO: ∀(m:UM) (v:bY),An m v≤m.length
 | [],_=>VZ _
 |(x,y)::r,v=>by
  have:=BO r v;unfold An;split
  ·simp
  ·simp;omega
theorem oe: ∀(m:UM) (v:bY),eI (.si .i64) m v=false→bD m v=v
 | [],_,_=>rfl
 |(x,y)::r,v,h=>by
  unfold eI at h;unfold bD;split at h
  ·cases h
  ·rename_i hx
   rw[if_neg hx];exact oe r v h
theorem lK: ∀(m:UM) (v:bY),gl m→eI (.si .i64) m v=true→bD m (bF (.si .i64) m v bY.z)=bD m v∧An m (bF (.si .i64) m v bY.z)<An m v
 | [],_,_,h=>nomatch h
 |(x,y)::r,v,ok,h=>by
  obtain⟨o1,o2,o3,o4⟩:=ok;by_cases hx:x=v
  ·subst hx
   have e:bF (.si .i64) ((x,y)::r) x bY.z=y:=if_pos rfl;rw[e];refine⟨?_,?_⟩
   ·show(if x=y then bD r y else bD r y)=if x=x then bD r y else bD r x
    rw[if_pos rfl];split<;>rfl
   ·show(if x=y then r.length+1 else An r y)<if x=x then r.length+1 else An r x
    rw[if_pos rfl,if_neg o1];have:=BO r y;omega
  ·have e:bF (.si .i64) ((x,y)::r) v bY.z=bF (.si .i64) r v bY.z:=if_neg hx
   have h2:eI (.si .i64) r v=true:=by
    unfold eI at h;rw[if_neg hx] at h;exact h
   rw[e];obtain⟨g1,g2⟩:=lK r v o4 h2
   have hne:bF (.si .i64) r v bY.z≠x:=by
    have: ∀(m:UM),(∀q∈m,q.2≠x)→eI (.si .i64) m v=true→bF (.si .i64) m v bY.z≠x:=by
     intro m
     induction m with
     |nil=>intro _ h;cases h
     |cons a r ih=>
      obtain⟨x',y'⟩:=a;intro hm h;unfold eI at h;unfold bF;split at h
      ·rename_i hx';rw[if_pos hx'];exact hm _ V8
      ·rename_i hx';rw[if_neg hx'];exact ih (fun q hq=>hm q (V2 _ hq)) h
    exact this r o3 h2
   refine⟨?_,?_⟩
   ·show(if x=_ then bD r y else bD r _)=if x=v then bD r y else bD r v
    rw[if_neg (fun e=>hne e.symm),if_neg hx];exact g1
   ·show(if x=_ then r.length+1 else An r _)<if x=v then r.length+1 else An r v
    rw[if_neg (fun e=>hne e.symm),if_neg hx];exact g2
theorem d52 (r:aw) (t:TS) (v0:bY) (ok:gl t.up):b8 Tryz.prog 201 [.ptr 0 0,ag v0.c] (t.O r) (ag (bD t.up v0).c) (t.K r) 4:=by
 refine aF ae Tryz.func201 rfl (by decide) Tryz.ntmps201 rfl (by simp) ?_;refine gA rfl ?_
 refine lZ (σ:={v:bY//bD t.up v=bD t.up v0}) (fun v=>⟨[(0, .ptr 0 0),(3, .ptr 4 0),(4, .ptr 5 0)],
  [(0,some (TS.cell r 1 2 t.ws.length 3)),(1,some (oY t.up)),(2,some (a7 5 t.ws Want.c)),(3,some (pA t.kind)),(4,some (.cells [pS v.1.1,pI v.1.2])),(5,some (.cells [pS ⟨#[]⟩,pI 0]))],6⟩) (fun v=>An t.up v.1) ⟨v0,rfl⟩ []
  (wk rfl rfl rfl ⟨.refl _,rfl, .refl _,rfl, .refl _,rfl,trivial⟩ ⟨⟨_,rfl, .of_eq rfl⟩,VI rfl,rfl,hM rfl rfl rfl ⟨⟨_,rfl, .of_eq (cj _).symm⟩,VI rfl,dT _,hM rfl rfl rfl ⟨⟨_,rfl, .of_eq rfl⟩,VI rfl,rfl,⟨_,rfl, .of_eq rfl⟩,VI rfl,rfl,trivial⟩⟩⟩ rfl) fun v=>?_
 obtain⟨v,hv⟩:=v;refine gA rfl ?_;refine VJ (fun g=>?_) (fun g=>?_)
 ·have h:eI (.si .i64) t.up v=false:=by simpa using g
  have e:bD t.up v0=v:=by rw[←hv];exact oe t.up v h
  refine gA rfl (ax [] (by first|exact .inr rfl|exact .inl rfl) rfl (wk rfl rfl rfl ⟨.of_eq (congrArg (fun x:bY=>ag x.c) e.symm),rfl,trivial⟩ ⟨⟨_,rfl, .of_eq rfl⟩,VI rfl,rfl,hM rfl rfl rfl ⟨⟨_,rfl, .of_eq (cj _).symm⟩,VI rfl,dT _,hM rfl rfl rfl trivial⟩⟩ rfl))
 ·have h:eI (.si .i64) t.up v=true:=by simpa using g
  obtain⟨h1,h2⟩:=lK t.up v ok h;refine gA rfl ?_;exact⟨⟨bF (.si .i64) t.up v bY.z,h1.trans hv⟩,[],h2,wk rfl rfl rfl ⟨.refl _,rfl, .refl _,rfl, .refl _,rfl,trivial⟩ ⟨⟨_,rfl, .of_eq rfl⟩,VI rfl,rfl,hM rfl rfl rfl ⟨⟨_,rfl, .of_eq (cj _).symm⟩,VI rfl,dT _,hM rfl rfl rfl ⟨⟨_,rfl, .of_eq rfl⟩,VI rfl,rfl,⟨_,rfl, .of_eq rfl⟩,VI rfl,rfl,trivial⟩⟩⟩ rfl⟩
def QN (r:aw) (t:TS):IV:= .jv [b6 r,upI t.up,cV 5 t.ws Want.c,kdI t.kind]
theorem c52 (r:aw) (t:TS) (v0:bY) (ok:gl t.up):Pure Tryz.prog 201 [.iv (QN r t),ag v0.c] (ag (bD t.up v0).c):=by
 refine az ae Tryz.func201 rfl (by decide) Tryz.ntmps201 rfl (by simp) rfl ?_;refine gA rfl ?_
 refine lZ (σ:={v:bY//bD t.up v=bD t.up v0}) (fun v=>⟨[(0, .iv (QN r t)),(3, .ptr 0 0),(4, .ptr 1 0)],
  [(0,some (.cells [pS v.1.1,pI v.1.2])),(1,some (.cells [pS ⟨#[]⟩,pI 0]))],2⟩) (fun v=>An t.up v.1) ⟨v0,rfl⟩ []
  (wk rfl rfl rfl ⟨.refl _,rfl, .refl _,rfl, .refl _,rfl,trivial⟩ ⟨⟨_,rfl, .of_eq rfl⟩,VI rfl,rfl,⟨_,rfl, .of_eq rfl⟩,VI rfl,rfl,trivial⟩ rfl) fun v=>?_
 obtain⟨v,hv⟩:=v;refine gA rfl ?_;refine VJ (fun g=>?_) (fun g=>?_)
 ·have h:eI (.si .i64) t.up v=false:=by simpa using g
  have e:bD t.up v0=v:=by rw[←hv];exact oe t.up v h
  refine gA rfl (au (by first|exact .inr rfl|exact .inl rfl) rfl (.of_eq ?_));exact congrArg (fun x:bY=>ag x.c) e.symm
 ·have h:eI (.si .i64) t.up v=true:=by simpa using g
  obtain⟨h1,h2⟩:=lK t.up v ok h;refine gA rfl ?_;exact⟨⟨bF (.si .i64) t.up v bY.z,h1.trans hv⟩,[],h2,wk rfl rfl rfl ⟨.refl _,rfl, .refl _,rfl, .refl _,rfl,trivial⟩ ⟨⟨_,rfl, .of_eq rfl⟩,VI rfl,rfl,⟨_,rfl, .of_eq rfl⟩,VI rfl,rfl,trivial⟩ rfl⟩
def rk (t:TS) (w:Want):Int:=if w.has=0 then bF (.si .i64) t.kind (bD t.up w.at_) 0 else w.has
def pY (t:TS) (lit:Int) (w:Want):Bool:=decide (w.lit=lit)&&!decide (rk t w=w.kind)
def oW (t:TS) (lit:Int):Bool:=t.ws.any (pY t lit)
theorem Vx (r:aw) (t:TS) (lit:Int) (ok:gl t.up) (hb:t.ws.length≤1000000000000):Pure Tryz.prog 169 [.iv (QN r t),pI lit] (pB (oW t lit)):=by
 refine az ae Tryz.func169 rfl (by decide) Tryz.ntmps169 rfl (by simp) rfl ?_;refine gA rfl ?_
 refine aL 0 t.ws.length (V1 _) (fun i=>⟨[(0, .iv (QN r t)),(1,pI lit),(11, .iv (cV 5 t.ws Want.c)),(12,pI t.ws.length),(13,pI i)],[],0⟩) (fun i=>(t.ws.take i).any (pY t lit)=false) [] rfl
  (wk rfl rfl rfl ⟨.refl _,rfl, .refl _,rfl, .refl _,rfl, .refl _,rfl, .refl _,rfl,trivial⟩ trivial rfl) fun i hi hJ=>?_
 refine gA rfl ?_;refine VJ (fun h1=>?_) (fun h1=>?_)
 ·have h1:i<t.ws.length:=by simpa using h1
  have hA:=cG hJ h1;refine gA rfl ?_;refine VJ (fun h2=>?_) (fun h2=>?_)
  ·have h2:(t.ws.getD i default).has=0:=of_decide_eq_true h2
   refine gA rfl (cz ae [] (Pure.xO (c52 r t (t.ws.getD i default).at_ ok)) rfl rfl rfl rfl rfl rfl rfl rfl rfl rfl rfl rfl (by(repeat' (first|exact trivial|exact rfl|exact ak.refl _|exact ak.bk (by assumption)|apply VJ))<;>first|omega|(simp only[VQ];omega)|(simp;done)|(simp;omega)) rfl (by(repeat' (first|exact trivial|exact rfl|exact ak.refl _|exact ak.bk (by assumption)|apply VJ))<;>first|omega|(simp only[VQ];omega)|(simp;done)|(simp;omega)) ?_);have hk:rk t (t.ws.getD i default)=bF (.si .i64) t.kind (bD t.up (t.ws.getD i default).at_) 0:=if_pos h2;refine gA rfl ?_;refine VJ (fun k1=>?_) (fun k1=>?_)
   ·have k1:(t.ws.getD i default).lit=lit:=of_decide_eq_true k1
    refine gA rfl ?_;refine VJ (fun k2=>?_) (fun k2=>?_)
    ·have k2: ¬rk t (t.ws.getD i default)=(t.ws.getD i default).kind:=by rw[hk];simpa using k2
     have e:oW t lit=true:=WU.2 ⟨t.ws.getD i default,by rw[VP,VS h1];exact WI h1,by rw[pY,decide_eq_true k1,decide_eq_false k2];rfl⟩;refine gA rfl (au (by first|exact .inr rfl|exact .inl rfl) rfl (.of_eq ?_));rw[e]
    ·have k2:rk t (t.ws.getD i default)=(t.ws.getD i default).kind:=by rw[hk];simpa using k2
     refine gA rfl ?_;exact⟨h1,hA.2 (by rw[pY,decide_eq_true k2,X6,XO]),[],wk rfl rfl rfl ⟨.refl _,rfl, .refl _,rfl, .refl _,rfl, .refl _,rfl, .refl _,rfl,trivial⟩ trivial rfl⟩
   ·have k1: ¬(t.ws.getD i default).lit=lit:=by simpa using k1
    refine gA rfl ?_;exact⟨h1,hA.2 (by rw[pY,decide_eq_false k1];rfl),[],wk rfl rfl rfl ⟨.refl _,rfl, .refl _,rfl, .refl _,rfl, .refl _,rfl, .refl _,rfl,trivial⟩ trivial rfl⟩
  ·have h2: ¬(t.ws.getD i default).has=0:=of_decide_eq_false h2
   have hk:rk t (t.ws.getD i default)=(t.ws.getD i default).has:=if_neg h2;refine gA rfl ?_;refine VJ (fun k1=>?_) (fun k1=>?_)
   ·have k1:(t.ws.getD i default).lit=lit:=of_decide_eq_true k1
    refine gA rfl ?_;refine VJ (fun k2=>?_) (fun k2=>?_)
    ·have k2: ¬rk t (t.ws.getD i default)=(t.ws.getD i default).kind:=by rw[hk];simpa using k2
     have e:oW t lit=true:=WU.2 ⟨t.ws.getD i default,by rw[VP,VS h1];exact WI h1,by rw[pY,decide_eq_true k1,decide_eq_false k2];rfl⟩;refine gA rfl (au (by first|exact .inr rfl|exact .inl rfl) rfl (.of_eq ?_));rw[e]
    ·have k2:rk t (t.ws.getD i default)=(t.ws.getD i default).kind:=by rw[hk];simpa using k2
     refine gA rfl ?_;exact⟨h1,hA.2 (by rw[pY,decide_eq_true k2,X6,XO]),[],wk rfl rfl rfl ⟨.refl _,rfl, .refl _,rfl, .refl _,rfl, .refl _,rfl, .refl _,rfl,trivial⟩ trivial rfl⟩
   ·have k1: ¬(t.ws.getD i default).lit=lit:=by simpa using k1
    refine gA rfl ?_;exact⟨h1,hA.2 (by rw[pY,decide_eq_false k1];rfl),[],wk rfl rfl rfl ⟨.refl _,rfl, .refl _,rfl, .refl _,rfl, .refl _,rfl, .refl _,rfl,trivial⟩ trivial rfl⟩
 ·have h1:t.ws.length≤i:=by simpa using h1
  rw[VY h1] at hJ;refine gA rfl (au (by first|exact .inr rfl|exact .inl rfl) rfl (.of_eq ?_));rw[oW,hJ]
end Go.Proofs.YtflegjieadkonaaGreatDoor
namespace Go.Proofs.YtflegjieadkonaaGreatDoor
open Go Go.Al
set_option maxRecDepth 10000
section
variable (r:aw) (lit w:Int)
def kY (e:Expr):List Want:=if e.kind=1 then[⟨lit,dr r e.var w,1,0⟩] else if e.kind=2 then[⟨lit,bY.z,1,e.val.kind⟩] else[]
mutual
def fg:Expr→List Want
 | .mk k v val op args=>kY r lit w (.mk k v val op args)++(if k=4 then p8 args else[])
def p8:List Expr→List Want
 | []=> []
 |e::s=>fg e++p8 s
end
theorem xh: ∀l:List Expr,p8 r lit w l=l.flatMap (fg r lit w)
 | []=>rfl
 |e::s=>by rw[p8,WT,xh s]
def gy (e:Expr):List Want:=if e.kind=4 then e.args.flatMap (fg r lit w) else[]
theorem zA (e:Expr):fg r lit w e=kY r lit w e++gy r lit w e:=by
 cases e;rw[fg,xh];rfl
end
abbrev TS.add (t:TS) (l:List Want):TS:=⟨t.up,t.ws++l,t.kind⟩
section
variable {nt:Nat} {Q:AQ} {k:List KI} {s:AS}
def tS (s:AS) (r:aw) (t:TS) (i u j m:Nat):AS:=match s with|⟨f,h,n⟩=>⟨f,(i,some (TS.cell r u n t.ws.length m))::(u,some (oY t.up))::(n,some (a7 5 t.ws Want.c))::(m,some (pA t.kind))::(i,none)::(u,none)::(j,none)::(m,none)::h,n+1⟩
theorem TY (s:AS) (r:aw) (t:TS) (i u j m:Nat):tS s r t i u j m=⟨s.f,(i,some (TS.cell r u s.nx t.ws.length m))::(u,some (oY t.up))::(s.nx,some (a7 5 t.ws Want.c))::(m,some (pA t.kind))::(i,none)::(u,none)::(j,none)::(m,none)::s.h,s.nx+1⟩:=by cases s;rfl
def tR (s:AS) (r:aw) (t:TS) (i u j m:Nat):AS:=match s with|⟨f,h,n⟩=>⟨f,(i,some (TS.cell r u j t.ws.length m))::(u,some (oY t.up))::(j,some (a7 5 t.ws Want.c))::(m,some (pA t.kind))::(i,none)::(u,none)::(j,none)::(m,none)::h,n⟩
theorem TZ (s:AS) (r:aw) (t:TS) (i u j m:Nat):tR s r t i u j m=⟨s.f,(i,some (TS.cell r u j t.ws.length m))::(u,some (oY t.up))::(j,some (a7 5 t.ws Want.c))::(m,some (pA t.kind))::(i,none)::(u,none)::(j,none)::(m,none)::s.h,s.nx⟩:=by cases s;rfl
theorem BZ {o:Oper} {c:Call} {g:FuncId} {args al:List PV} {r:aw} {t t':TS} {res:PV} {i u j m n:Nat} {es:List (List PV)} {s':AS} (hc:b8 Tryz.prog g (.ptr 0 0::args) (t.O r) res (t'.H r) 5) (ho:o.op= .call c) (ha:cM s.f c=some (g, .ptr i 0::al))
  (hi:s.h.get i=some (TS.cell r u j n m)) (hu:s.h.get u=some (oY t.up)) (hj:s.h.get j=some (.row 5 es)) (hm:s.h.get m=some (pA t.kind)) (hn:n=t.ws.length) (he:es=t.ws.map fun x=>(Want.c x).map .iv)
  (hlt:[i,u,j,m].all (fun x=>Wg x s.nx)=true) (hnd:dY [i,u,j,m]=true) (has:al=args) (hlow:bz 0 args=true) (hr:res.low 0=true)
  (hp:putDst nt o res (tS s r t' i u j m)=some s'):OT Tryz.prog nt o s (fun t=>t=s'):=by
 subst has;subst hn;subst he;have hargs: ∀σ,dF σ al=al:=fun σ=>fV σ al hlow;refine jL ho ha hc (dW hnd) (fun j hj=>VI (Wl.1 hlt j hj)) ?_ ?_ ?_
 ·simp only[V6,Wv,hi,hu,hj,hm,cj];rfl
 ·simp only[dF,hargs];rfl
 ·rintro q h0 n0 ⟨rfl,rfl,rfl⟩
  rw[PV.jC _ _ hr];rw[TY] at hp;refine⟨s',?_,rfl⟩;rw[←hp];simp only[TS.H,bf,va,W1,cj];rfl
theorem BT {o:Oper} {c:Call} {g:FuncId} {args al:List PV} {r:aw} {t:TS} {res:PV} {i u j m n:Nat} {es:List (List PV)} {s':AS} (hc:b8 Tryz.prog g (.ptr 0 0::args) (t.O r) res (t.K r) 4) (ho:o.op= .call c) (ha:cM s.f c=some (g, .ptr i 0::al))
  (hi:s.h.get i=some (TS.cell r u j n m)) (hu:s.h.get u=some (oY t.up)) (hj:s.h.get j=some (.row 5 es)) (hm:s.h.get m=some (pA t.kind)) (hn:n=t.ws.length) (he:es=t.ws.map fun x=>(Want.c x).map .iv)
  (hlt:[i,u,j,m].all (fun x=>Wg x s.nx)=true) (hnd:dY [i,u,j,m]=true) (has:al=args) (hlow:bz 0 args=true) (hr:res.low 0=true)
  (hp:putDst nt o res (tR s r t i u j m)=some s'):OT Tryz.prog nt o s (fun t=>t=s'):=by
 subst has;subst hn;subst he;have hargs: ∀σ,dF σ al=al:=fun σ=>fV σ al hlow;refine jL ho ha hc (dW hnd) (fun j hj=>VI (Wl.1 hlt j hj)) ?_ ?_ ?_
 ·simp only[V6,Wv,hi,hu,hj,hm,cj];rfl
 ·simp only[dF,hargs];rfl
 ·rintro q h0 n0 ⟨rfl,rfl,rfl⟩
  rw[PV.jC _ _ hr];rw[TZ] at hp;refine⟨s',?_,rfl⟩;rw[←hp];simp only[TS.K,bf,va,W1,cj];rfl
theorem jT {all rest:List Oper} {o:Oper} {c:Call} {g:FuncId} {args al:List PV} {r:aw} {t t':TS} {res:PV} {i u j m n:Nat} {es:List (List PV)} {s':AS} (hc:b8 Tryz.prog g (.ptr 0 0::args) (t.O r) res (t'.H r) 5) (ho:o.op= .call c) (hg:o.guard=none) (ha:cM s.f c=some (g, .ptr i 0::al))
  (hi:s.h.get i=some (TS.cell r u j n m)) (hu:s.h.get u=some (oY t.up)) (hj:s.h.get j=some (.row 5 es)) (hm:s.h.get m=some (pA t.kind)) (hn:n=t.ws.length) (he:es=t.ws.map fun x=>(Want.c x).map .iv)
  (hlt:[i,u,j,m].all (fun x=>Wg x s.nx)=true) (hnd:dY [i,u,j,m]=true) (has:al=args) (hlow:bz 0 args=true) (hr:res.low 0=true)
  (hp:putDst nt o res (tS s r t' i u j m)=some s') (h:GO Tryz.prog nt (.ops all rest::k) Q s'):GO Tryz.prog nt (.ops all (o::rest)::k) Q s:=
 dH hg (BZ hc ho ha hi hu hj hm hn he hlt hnd has hlow hr hp) fun t ht=>by subst ht;exact h
theorem jd {all:List Oper} {todo pend:List (Nat×Oper)} {j':Nat} {CA C2:Prop} {o:Oper} {c:Call} {g:FuncId} {args al:List PV} {r:aw} {t:TS} {res:PV} {i u j m n:Nat} {es:List (List PV)} {s':AS} (hc:b8 Tryz.prog g (.ptr 0 0::args) (t.O r) res (t.K r) 4)
  (hrd:fe todo=[(j',o)]) (ho:o.op= .call c) (ha:cM s.f c=some (g, .ptr i 0::al))
  (hi:s.h.get i=some (TS.cell r u j n m)) (hu:s.h.get u=some (oY t.up)) (hj:s.h.get j=some (.row 5 es)) (hm:s.h.get m=some (pA t.kind)) (hn:n=t.ws.length) (he:es=t.ws.map fun x=>(Want.c x).map .iv)
  (hlt:[i,u,j,m].all (fun x=>Wg x s.nx)=true) (hnd:dY [i,u,j,m]=true) (has:al=args) (hlow:bz 0 args=true) (hr:res.low 0=true)
  (hp:putDst nt o res (tR s r t i u j m)=some s')
  (hg:cy nt all s.f o=some true) (hpb:iW all pend o=true) (hE:oP todo [j']=true)
  (hag:s6 uT nt all s todo pend=some CA) (hCA:CA) (hag2:dP uT nt all s' (bb pend o)=some C2) (hC2:C2)
  (h:GO Tryz.prog nt (.cA all (todo.filter fun x=>!Wd x.1 j') (bb pend o)::k) Q s'):GO Tryz.prog nt (.cA all todo pend::k) Q s:=
 vJ ae hrd hg hpb hE hag hCA (BT hc ho ha hi hu hj hm hn he hlt hnd has hlow hr hp) hag2 hC2 h
theorem eY {l:List ResultVar} {r0:PV} {e:Exit} {r:aw} {t':TS} {res:PV} {j n:Nat} {es:List (List PV)} (he:e= .normal∨e= .ret) (hr:lz uT s l=some r0) (hi:s.h.get 0=some (TS.cell r 1 j n 3)) (hu:s.h.get 1=some (oY t'.up)) (hj:s.h.get j=some (.row 5 es)) (hm:s.h.get 3=some (pA t'.kind))
  (hn:n=t'.ws.length) (hes:es=t'.ws.map fun x=>(Want.c x).map .iv) (hlt:Wg j s.nx=true) (hnd:dY [0,1,j,3]=true) (hns:X0 4 s.nx=true) (hrl:ak r0 res) (hlow:res.low 0=true) (hlow5:res.low 5=true):Km uT l 4 res (t'.H r) 5 e s:=by
 subst hn;subst hes;refine ax [j] he hr ⟨rfl,VI hns,fun x hx=>?_,⟨?_,hlow5,trivial⟩,⟨⟨_,hi, .of_eq rfl⟩,VI rfl,rfl,⟨_,hu, .of_eq rfl⟩,VI rfl,trivial,⟨_,hj, .of_eq (cj _).symm⟩,VI rfl,dT _,⟨_,hm, .of_eq rfl⟩,VI rfl,trivial,trivial⟩,?_⟩
 ·simp only[VX] at hx;subst hx;exact VI hlt
 ·rw[PV.jC _ _ hlow];exact hrl
 ·exact dW hnd
theorem tc {n0 i u j m n:Nat} {es:List (List PV)} {tf:AF} {r:aw} {t t':TS} (hw:t=t') (hi:s.h.get i=some (TS.cell r u j n m)) (hu:s.h.get u=some (oY t.up)) (hj:s.h.get j=some (.row 5 es)) (hm:s.h.get m=some (pA t.kind))
  (hn:n=t.ws.length) (hes:es=t.ws.map fun x=>(Want.c x).map .iv) (hlt:Wg j s.nx=true) (hnd:dY [i,u,j,m]=true) (h0:[i,u,m].all (fun x=>Wg x n0)=true) (hns:X0 n0 s.nx=true) (hf:Pc (n0+1) (sg n0 [j]) s.f tf):
  Wk n0 [j] s ⟨tf,[(i,some (TS.cell r u n0 t'.ws.length m)),(u,some (oY t'.up)),(n0,some (a7 5 t'.ws Want.c)),(m,some (pA t'.kind))],n0+1⟩:=by
 subst hw;subst hn;subst hes;simp only[List.all_cons,List.all_nil,Bool.and_true,Wc] at h0;have hi0:i<n0:=VI h0.1;have hu0:u<n0:=VI h0.2.1;have hm0:m<n0:=VI h0.2.2;have s0:sg n0 [j] i=i:=eW hi0;have s1:sg n0 [j] u=u:=eW hu0;have s3:sg n0 [j] m=m:=eW hm0;have b0:Wg n0 n0=false:=W2.2 fun e=>absurd (VI e) (by omega);have sn:sg n0 [j] n0=j:=by simp[sg,b0]
 have c1:Wg u (n0+1)=true:=WH (by omega);have c3:Wg m (n0+1)=true:=WH (by omega);have cn:Wg n0 (n0+1)=true:=WH (by omega);refine⟨rfl,VI hns,fun x hx=>?_,hf,⟨⟨_,by rw[s0];exact hi,?_⟩,by show i<n0+1;omega,?_,⟨_,by rw[s1];exact hu, .of_eq rfl⟩,by show u<n0+1;omega,trivial,⟨_,by rw[sn];exact hj, .of_eq (cj _).symm⟩,Xo _,dT _,⟨_,by rw[s3];exact hm, .of_eq rfl⟩,by show m<n0+1;omega,trivial,trivial⟩,?_⟩
 ·simp only[VX] at hx;subst hx;exact VI hlt
 ·simp only[AO.cN,dF,PV.cN,s1,s3,sn]
  exact .of_eq rfl
 ·simp[AO.low,bz,PV.low,c1,c3,cn]
 ·simp only[fp,s0,s1,s3,sn]
  exact dW hnd
end
theorem TS.add_add (t:TS) (a b:List Want):(t.add a).add b=t.add (a++b):=by simp[TS.add]
theorem TS.add_nil (t:TS):t.add []=t:=by simp[TS.add]
def Kj (r:aw) (n:Nat):Prop:= ∀(t:TS) (e:Expr) (lit w:Int),e.size≤n→t.ws.length+Expr.aB e.args≤1000000000→b8 Tryz.prog 226 [.ptr 0 0,ag e.c,pI lit,pI w] (t.O r) (.bM []) ((t.add (gy r lit w e)).H r) 5
def R0 (r:aw) (n:Nat):Prop:= ∀(t:TS) (e:Expr) (lit w:Int),e.size≤n→t.ws.length+e.size≤1000000000→b8 Tryz.prog 199 [.ptr 0 0,ag e.c,pI lit,pI w] (t.O r) (.bM []) ((t.add (fg r lit w e)).H r) 5
theorem d92 (r:aw) (n:Nat) (ih:Kj r n):R0 r n:=by
 intro t e lit w hs hb;have hsz:=e.size_eq;rw[zA,←TS.add_add];refine aF ae Tryz.func199 rfl (by decide) Tryz.ntmps199 rfl (by simp) ?_;refine gA rfl ?_;refine VJ (fun k1=>?_) (fun k1=>?_)
 ·have k1:e.kind=1:=of_decide_eq_true k1
  have hl:kY r lit w e=[⟨lit,dr r e.var w,1,0⟩]:=if_pos k1;rw[hl];refine gA rfl (jd (d136 r t e.var w) rfl rfl rfl rfl rfl rfl rfl (by first|rfl|(rw[VL];rfl)|simp) (by first|rfl|(rw[VN];rfl)|(simp only[VN,VU];rfl)) rfl rfl rfl rfl rfl rfl rfl rfl rfl rfl (by(repeat' (first|exact trivial|exact rfl|exact ak.refl _|exact ak.bk (by assumption)|apply VJ))<;>first|omega|(simp only[VQ];omega)|(simp;done)|(simp;omega)) rfl (by(repeat' (first|exact trivial|exact rfl|exact ak.refl _|exact ak.bk (by assumption)|apply VJ))<;>first|omega|(simp only[VQ];omega)|(simp;done)|(simp;omega)) ?_);refine gA rfl (jT (ih (t.add [⟨lit,dr r e.var w,1,0⟩]) e lit w hs (by show(t.ws++_).length+_≤_;rw[VL,WM];omega)) rfl rfl rfl rfl rfl rfl rfl (by first|rfl|(rw[VL];rfl)|simp) (by first|rfl|(rw[VN];rfl)|(simp only[VN,VU];rfl)) rfl rfl rfl rfl rfl rfl ?_);refine gA rfl (eY (by first|exact .inr rfl|exact .inl rfl) rfl rfl rfl rfl rfl (by first|rfl|(rw[VL];rfl)|simp) (by first|rfl|(rw[VN];rfl)|(simp only[VN,VU];rfl)) rfl rfl rfl (.refl _) rfl rfl)
 have k1: ¬e.kind=1:=of_decide_eq_false k1;refine gA rfl ?_;refine VJ (fun k2=>?_) (fun k2=>?_)
 ·have k2:e.kind=2:=of_decide_eq_true k2
  have hl:kY r lit w e=[⟨lit,bY.z,1,e.val.kind⟩]:=by unfold kY;rw[if_neg k1,if_pos k2]
  rw[hl];refine gA rfl (jT (ih (t.add [⟨lit,bY.z,1,e.val.kind⟩]) e lit w hs (by show(t.ws++_).length+_≤_;rw[VL,WM];omega)) rfl rfl rfl rfl rfl rfl rfl (by first|rfl|(rw[VL];rfl)|simp) (by first|rfl|(rw[VN];rfl)|(simp only[VN,VU];rfl)) rfl rfl rfl rfl rfl rfl ?_);refine gA rfl (eY (by first|exact .inr rfl|exact .inl rfl) rfl rfl rfl rfl rfl (by first|rfl|(rw[VL];rfl)|simp) (by first|rfl|(rw[VN];rfl)|(simp only[VN,VU];rfl)) rfl rfl rfl (.refl _) rfl rfl)
 ·have k2: ¬e.kind=2:=of_decide_eq_false k2
  have hl:kY r lit w e=[]:=by unfold kY;rw[if_neg k1,if_neg k2]
  rw[hl,TS.add_nil];refine gA rfl (jT (ih t e lit w hs (by omega)) rfl rfl rfl rfl rfl rfl rfl (by first|rfl|(rw[VL];rfl)|simp) (by first|rfl|(rw[VN];rfl)|(simp only[VN,VU];rfl)) rfl rfl rfl rfl rfl rfl ?_);refine gA rfl (eY (by first|exact .inr rfl|exact .inl rfl) rfl rfl rfl rfl rfl (by first|rfl|(rw[VL];rfl)|simp) (by first|rfl|(rw[VN];rfl)|(simp only[VN,VU];rfl)) rfl rfl rfl (.refl _) rfl rfl)
theorem fY (r:aw) (lit w:Int): ∀e:Expr,(fg r lit w e).length≤e.size
 | .mk k v val op args=>by
  rw[fg,Expr.size,VL]
  have h1:(kY r lit w (.mk k v val op args)).length≤1:=by
   unfold kY
   repeat' split
   all_goals simp
  have h2:(if k=4 then p8 r lit w args else[]).length≤Expr.aB args:=by
   split
   ·exact numRs_len args
   ·simp
  omega
where
 numRs_len: ∀l:List Expr,(p8 r lit w l).length≤Expr.aB l
 | []=>by simp[p8]
 |e::s=>by
  have h1:=fY r lit w e;have h2:=numRs_len s;rw[p8,Expr.aB,VL];omega
theorem CN (r:aw) (lit w:Int) (l:List Expr) (i:Nat) (h:i<l.length):((l.take i).flatMap (fg r lit w)).length+(l.getD i default).size≤Expr.aB l:=by
 have h1: ∀l:List Expr,(l.flatMap (fg r lit w)).length≤Expr.aB l:=by
  intro l
  induction l with
  |nil=>simp
  |cons e s ih=>
   have:=fY r lit w e;rw[WT,VL,Expr.aB];omega
 have h2:=h1 (l.take i)
 have h3: ∀(l:List Expr) (i:Nat),i<l.length→Expr.aB (l.take i)+(l.getD i default).size≤Expr.aB l:=by
  intro l
  induction l with
  |nil=>intro i h;simp at h
  |cons e s ih=>
   intro i h
   cases i with
   |zero=>simp[Expr.aB]
   |succ i=>
    have:=ih i (by simpa using h);simp only[W4,Xj,Expr.aB];omega
 have:=h3 l i h;omega
theorem d137 (r:aw) (n:Nat) (ih:R0 r n):Kj r (n+1):=by
 intro t e lit w hs hb;have hsz:=e.size_eq;refine b8.le (args:=[.ptr 0 0,ag e.c1,pI lit,pI w]) ?_ ⟨.refl _,e.zE, .refl _, .refl _,trivial⟩;have hal:=Expr.aI e.args;refine aF ae Tryz.func226 rfl (by decide) Tryz.ntmps226 rfl (by simp) ?_;refine gA rfl ?_;refine VJ (fun k=>?_) (fun k=>?_);rotate_left
 ·have k: ¬e.kind=4:=of_decide_eq_false k
  have hl:gy r lit w e=[]:=if_neg k;rw[hl,TS.add_nil];refine gA rfl (eY (by first|exact .inr rfl|exact .inl rfl) rfl rfl rfl rfl rfl (by first|rfl|(rw[VL];rfl)|simp) (by first|rfl|(rw[VN];rfl)|(simp only[VN,VU];rfl)) rfl rfl rfl (.refl _) rfl rfl)
 have k:e.kind=4:=of_decide_eq_true k;have hl:gy r lit w e=e.args.flatMap (fg r lit w):=if_pos k;rw[hl];refine gA rfl ?_
 refine aL 0 e.args.length (V1 _) (fun i=>⟨[(0, .ptr 0 0),(2,pI lit),(3,pI w),(14, .iv (cV 7 e.args Expr.c)),(15,pI e.args.length),(16,pI i)],
  [(0,some (TS.cell r 1 5 (t.add ((e.args.take i).flatMap (fg r lit w))).ws.length 3)),(1,some (oY (t.add ((e.args.take i).flatMap (fg r lit w))).up)),(5,some (a7 5 (t.add ((e.args.take i).flatMap (fg r lit w))).ws Want.c)),(3,some (pA (t.add ((e.args.take i).flatMap (fg r lit w))).kind))],6⟩) (fun _=>True) _ trivial
  (tc (t:=t) (TS.add_nil t).symm rfl rfl rfl rfl rfl rfl rfl rfl rfl rfl ⟨.refl _,rfl, .refl _,rfl, .refl _,rfl, .refl _,rfl, .refl _,rfl, .refl _,rfl,trivial⟩) fun i hi _=>?_
 refine gA rfl ?_;refine VJ (fun h1=>?_) (fun h1=>?_)
 ·have h1:i<e.args.length:=by simpa using h1
  have hs2:=bH (f:=fg r lit w) h1;have hn:=CN r lit w e.args i h1;have hg:=Expr.bS e.args i h1;refine gA rfl (jT (ih (t.add ((e.args.take i).flatMap (fg r lit w))) (e.args.getD i default) lit w (by omega) (by show(t.ws++_).length+_≤_;rw[VL];omega)) rfl rfl rfl rfl rfl rfl rfl (by first|rfl|(rw[VL];rfl)|simp) (by first|rfl|(rw[VN];rfl)|(simp only[VN,VU];rfl)) rfl rfl rfl rfl rfl rfl ?_);refine gA rfl ⟨h1,trivial,_,tc ((by rw[TS.add_add,hs2])) rfl rfl rfl rfl (by first|rfl|(rw[VL];rfl)|simp) (by first|rfl|(rw[VN];rfl)|(simp only[VN,VU];rfl)) rfl rfl rfl rfl ⟨.refl _,rfl, .refl _,rfl, .refl _,rfl, .refl _,rfl, .refl _,rfl, .refl _,rfl,trivial⟩⟩
 ·have h1:e.args.length≤i:=by simpa using h1
  rw[VY h1];refine gA rfl (eY (by first|exact .inr rfl|exact .inl rfl) rfl rfl rfl rfl rfl (by first|rfl|(rw[VL];rfl)|simp) (by first|rfl|(rw[VN];rfl)|(simp only[VN,VU];rfl)) rfl rfl rfl (.refl _) rfl rfl)
end Go.Proofs.YtflegjieadkonaaGreatDoor
namespace Go.Proofs.YtflegjieadkonaaGreatDoor
open Go Go.Al
set_option maxRecDepth 10000
theorem pq (r:aw): ∀n,R0 r n∧Kj r n
 |0=>by
  have h0:Kj r 0:=fun t e lit w hs=>by have:=e.size_pos;omega
  exact⟨d92 r 0 h0,h0⟩
 |n+1=>by
  have h1:=d137 r n (pq r n).1;exact⟨d92 r (n+1) h1,h1⟩
theorem DQ (r:aw) (t:TS) (e:Expr) (lit w:Int) (hb:t.ws.length+e.size≤1000000000):b8 Tryz.prog 199 [.ptr 0 0,ag e.c,pI lit,pI w] (t.O r) (.bM []) ((t.add (fg r lit w e)).H r) 5:=(pq r e.size).1 t e lit w (VZ _) hb
theorem O3 (r:aw) (t:TS) (e:Expr) (lit w:Int) (hb:t.ws.length+e.size≤1000000000):b8 Tryz.prog 226 [.ptr 0 0,ag e.c,pI lit,pI w] (t.O r) (.bM []) ((t.add (gy r lit w e)).H r) 5:=(pq r e.size).2 t e lit w (VZ _) (by have:=e.size_eq;omega)
def typeAt (p:Prog) (a:Atom) (i:Nat):Int:=(mh p a.rel).types.getD i default
def kG (p:Prog) (a:Atom) (i:Nat):Bool:=decide (i<(mh p a.rel).types.length)&&(decide (typeAt p a i=1)||decide (typeAt p a i=2))
def jP (p:Prog) (r:aw) (a:Atom) (lit w:Int) (i:Nat):List Want:=
 if kG p a i=false then[]
 else if(a.an.getD i default).kind=1 then[⟨lit,dr r (a.an.getD i default).var w,typeAt p a i,0⟩]
 else if(a.an.getD i default).kind=2 then[⟨lit,bY.z,typeAt p a i,(a.an.getD i default).val.kind⟩] else[]
def fk (p:Prog) (r:aw) (a:Atom) (lit w:Int):Nat→List Want
 |0=> []
 |i+1=>fk p r a lit w i++jP p r a lit w i
theorem yf (p:Prog) (r:aw) (a:Atom) (lit w:Int) (i:Nat):(jP p r a lit w i).length≤1:=by
 unfold jP
 repeat' split
 all_goals simp
theorem ll (p:Prog) (r:aw) (a:Atom) (lit w:Int): ∀i,(fk p r a lit w i).length≤i
 |0=>VZ _
 |i+1=>by
  have h1:=ll p r a lit w i;have h2:=yf p r a lit w i;rw[fk,VL];omega
set_option maxHeartbeats 1000000 in
theorem d90 (p:Prog) (r:aw) (t:TS) (a:Atom) (lit w:Int) (hb:t.ws.length+a.an.length≤1000000000):b8 Tryz.prog 197 [.ptr 0 0, .iv (ct p),ag a.c,pI lit,pI w] (t.O r) (.bM []) ((t.add (fk p r a lit w a.an.length)).H r) 5:=by
 refine aF ae Tryz.func197 rfl (by decide) Tryz.ntmps197 rfl (by simp) ?_;refine gA rfl ?_
 refine aL 0 a.an.length (V1 _) (fun i=>⟨[(0, .ptr 0 0),(3,pI lit),(4,pI w),(10, .iv (cV 1 (mh p a.rel).types gx)),(19, .iv (cV 5 a.an Term.c)),(20,pI a.an.length),(21,pI i)],
  [(0,some (TS.cell r 1 5 (t.add (fk p r a lit w i)).ws.length 3)),(1,some (oY (t.add (fk p r a lit w i)).up)),(5,some (a7 5 (t.add (fk p r a lit w i)).ws Want.c)),(3,some (pA (t.add (fk p r a lit w i)).kind))],6⟩) (fun _=>True) _ trivial
  (tc (t:=t) (TS.add_nil t).symm rfl rfl rfl rfl rfl rfl rfl rfl rfl rfl ⟨.refl _,rfl, .refl _,rfl, .refl _,rfl, .refl _,rfl, .refl _,rfl, .refl _,rfl, .refl _,rfl,trivial⟩) fun i hi _=>?_
 refine gA rfl ?_;refine VJ (fun h1=>?_) (fun h1=>?_);rotate_left
 ·have h1:a.an.length≤i:=by simpa using h1
  have:i=a.an.length:=by omega
  subst this;refine gA rfl (eY (by first|exact .inr rfl|exact .inl rfl) rfl rfl rfl rfl rfl (by first|rfl|(rw[VL];rfl)|simp) (by first|rfl|(rw[VN];rfl)|(simp only[VN,VU];rfl)) rfl rfl rfl (.refl _) rfl rfl)
 have h1:i<a.an.length:=by simpa using h1
 have hl:=ll p r a lit w i;have hs:t.add (fk p r a lit w (i+1))=(t.add (fk p r a lit w i)).add (jP p r a lit w i):=by rw[TS.add_add];rfl
 have hwl:(t.add (fk p r a lit w i)).ws.length≤t.ws.length+i:=by show(t.ws++_).length≤_;rw[VL];omega
 generalize t.add (fk p r a lit w i)=t1 at*
 refine gA rfl ?_;refine VJ (fun g1=>?_) (fun g1=>?_);rotate_left
 ·have g1: ¬i<(mh p a.rel).types.length:=by have g:=of_decide_eq_true (show decide ((i:Int)≥((mh p a.rel).types.length:Int))=true from g1);omega
  have hf:kG p a i=false:=by rw[kG,decide_eq_false g1];rfl
  have hW:jP p r a lit w i=[]:=if_pos hf;rw[hW,TS.add_nil] at hs;refine gA rfl ⟨h1,trivial,_,tc (hs.symm) rfl rfl rfl rfl (by first|rfl|(rw[VL];rfl)|simp) (by first|rfl|(rw[VN];rfl)|(simp only[VN,VU];rfl)) rfl rfl rfl rfl ⟨.refl _,rfl, .refl _,rfl, .refl _,rfl, .refl _,rfl, .refl _,rfl, .refl _,rfl, .refl _,rfl,trivial⟩⟩
 have g1:i<(mh p a.rel).types.length:=by have g:=of_decide_eq_false (show decide ((i:Int)≥((mh p a.rel).types.length:Int))=false from g1);omega
 refine gA rfl ?_;refine VJ (fun g2=>?_) (fun g2=>?_)
 ·have g2: ¬typeAt p a i=1:=by simpa[typeAt] using g2
  refine gA rfl ?_;refine VJ (fun g3=>?_) (fun g3=>?_)
  ·have g3: ¬typeAt p a i=2:=by simpa[typeAt] using g3
   have hf:kG p a i=false:=by rw[kG,decide_eq_true g1,decide_eq_false g2,decide_eq_false g3];rfl
   have hW:jP p r a lit w i=[]:=if_pos hf;rw[hW,TS.add_nil] at hs;refine gA rfl ⟨h1,trivial,_,tc (hs.symm) rfl rfl rfl rfl (by first|rfl|(rw[VL];rfl)|simp) (by first|rfl|(rw[VN];rfl)|(simp only[VN,VU];rfl)) rfl rfl rfl rfl ⟨.refl _,rfl, .refl _,rfl, .refl _,rfl, .refl _,rfl, .refl _,rfl, .refl _,rfl, .refl _,rfl,trivial⟩⟩
  ·have g3:typeAt p a i=2:=by simpa[typeAt] using g3
   have ht:kG p a i=true:=by rw[kG,decide_eq_true g1,decide_eq_true g3,Bool.or_true];rfl
   have hW:jP p r a lit w i=if(a.an.getD i default).kind=1 then[⟨lit,dr r (a.an.getD i default).var w,typeAt p a i,0⟩]
    else if(a.an.getD i default).kind=2 then[⟨lit,bY.z,typeAt p a i,(a.an.getD i default).val.kind⟩] else[]:=by unfold jP;rw[ht];exact if_neg (by decide)
   rw[hW] at hs;refine gA rfl ?_;refine VJ (fun k1=>?_) (fun k1=>?_)
   ·have k1:(a.an.getD i default).kind=1:=of_decide_eq_true k1
    rw[if_pos k1] at hs;refine gA rfl (jd (d136 r t1 (a.an.getD i default).var w) rfl rfl rfl rfl rfl rfl rfl (by first|rfl|(rw[VL];rfl)|simp) (by first|rfl|(rw[VN];rfl)|(simp only[VN,VU];rfl)) rfl rfl rfl rfl rfl rfl rfl rfl rfl rfl (by(repeat' (first|exact trivial|exact rfl|exact ak.refl _|exact ak.bk (by assumption)|apply VJ))<;>first|omega|(simp only[VQ];omega)|(simp;done)|(simp;omega)) rfl (by(repeat' (first|exact trivial|exact rfl|exact ak.refl _|exact ak.bk (by assumption)|apply VJ))<;>first|omega|(simp only[VQ];omega)|(simp;done)|(simp;omega)) ?_);refine gA rfl ⟨h1,trivial,_,tc (hs.symm) rfl rfl rfl rfl (by first|rfl|(rw[VL];rfl)|simp) (by first|rfl|(rw[VN];rfl)|(simp only[VN,VU];rfl)) rfl rfl rfl rfl ⟨.refl _,rfl, .refl _,rfl, .refl _,rfl, .refl _,rfl, .refl _,rfl, .refl _,rfl, .refl _,rfl,trivial⟩⟩
   have k1: ¬(a.an.getD i default).kind=1:=of_decide_eq_false k1;rw[if_neg k1] at hs;refine gA rfl ?_;refine VJ (fun k2=>?_) (fun k2=>?_)
   ·have k2:(a.an.getD i default).kind=2:=of_decide_eq_true k2
    rw[if_pos k2] at hs;refine gA rfl ⟨h1,trivial,_,tc (hs.symm) rfl rfl rfl rfl (by first|rfl|(rw[VL];rfl)|simp) (by first|rfl|(rw[VN];rfl)|(simp only[VN,VU];rfl)) rfl rfl rfl rfl ⟨.refl _,rfl, .refl _,rfl, .refl _,rfl, .refl _,rfl, .refl _,rfl, .refl _,rfl, .refl _,rfl,trivial⟩⟩
   ·have k2: ¬(a.an.getD i default).kind=2:=of_decide_eq_false k2
    rw[if_neg k2,TS.add_nil] at hs;refine gA rfl ⟨h1,trivial,_,tc (hs.symm) rfl rfl rfl rfl (by first|rfl|(rw[VL];rfl)|simp) (by first|rfl|(rw[VN];rfl)|(simp only[VN,VU];rfl)) rfl rfl rfl rfl ⟨.refl _,rfl, .refl _,rfl, .refl _,rfl, .refl _,rfl, .refl _,rfl, .refl _,rfl, .refl _,rfl,trivial⟩⟩
 ·have g2:typeAt p a i=1:=by simpa[typeAt] using g2
  have ht:kG p a i=true:=by rw[kG,decide_eq_true g1,decide_eq_true g2];rfl
  have hW:jP p r a lit w i=if(a.an.getD i default).kind=1 then[⟨lit,dr r (a.an.getD i default).var w,typeAt p a i,0⟩]
   else if(a.an.getD i default).kind=2 then[⟨lit,bY.z,typeAt p a i,(a.an.getD i default).val.kind⟩] else[]:=by unfold jP;rw[ht];exact if_neg (by decide)
  rw[hW] at hs;refine gA rfl ?_;refine VJ (fun k1=>?_) (fun k1=>?_)
  ·have k1:(a.an.getD i default).kind=1:=of_decide_eq_true k1
   rw[if_pos k1] at hs;refine gA rfl (jd (d136 r t1 (a.an.getD i default).var w) rfl rfl rfl rfl rfl rfl rfl (by first|rfl|(rw[VL];rfl)|simp) (by first|rfl|(rw[VN];rfl)|(simp only[VN,VU];rfl)) rfl rfl rfl rfl rfl rfl rfl rfl rfl rfl (by(repeat' (first|exact trivial|exact rfl|exact ak.refl _|exact ak.bk (by assumption)|apply VJ))<;>first|omega|(simp only[VQ];omega)|(simp;done)|(simp;omega)) rfl (by(repeat' (first|exact trivial|exact rfl|exact ak.refl _|exact ak.bk (by assumption)|apply VJ))<;>first|omega|(simp only[VQ];omega)|(simp;done)|(simp;omega)) ?_);refine gA rfl ⟨h1,trivial,_,tc (hs.symm) rfl rfl rfl rfl (by first|rfl|(rw[VL];rfl)|simp) (by first|rfl|(rw[VN];rfl)|(simp only[VN,VU];rfl)) rfl rfl rfl rfl ⟨.refl _,rfl, .refl _,rfl, .refl _,rfl, .refl _,rfl, .refl _,rfl, .refl _,rfl, .refl _,rfl,trivial⟩⟩
  have k1: ¬(a.an.getD i default).kind=1:=of_decide_eq_false k1;rw[if_neg k1] at hs;refine gA rfl ?_;refine VJ (fun k2=>?_) (fun k2=>?_)
  ·have k2:(a.an.getD i default).kind=2:=of_decide_eq_true k2
   rw[if_pos k2] at hs;refine gA rfl ⟨h1,trivial,_,tc (hs.symm) rfl rfl rfl rfl (by first|rfl|(rw[VL];rfl)|simp) (by first|rfl|(rw[VN];rfl)|(simp only[VN,VU];rfl)) rfl rfl rfl rfl ⟨.refl _,rfl, .refl _,rfl, .refl _,rfl, .refl _,rfl, .refl _,rfl, .refl _,rfl, .refl _,rfl,trivial⟩⟩
  ·have k2: ¬(a.an.getD i default).kind=2:=of_decide_eq_false k2
   rw[if_neg k2,TS.add_nil] at hs;refine gA rfl ⟨h1,trivial,_,tc (hs.symm) rfl rfl rfl rfl (by first|rfl|(rw[VL];rfl)|simp) (by first|rfl|(rw[VN];rfl)|(simp only[VN,VU];rfl)) rfl rfl rfl rfl ⟨.refl _,rfl, .refl _,rfl, .refl _,rfl, .refl _,rfl, .refl _,rfl, .refl _,rfl, .refl _,rfl,trivial⟩⟩
def th (t:TS) (u v:bY):TS:=if u=v then t else⟨bQ (.si .i64) t.up u v,t.ws,t.kind⟩
def qI (y:Expr):Int:=if y.kind=2 then y.val.kind else 1
def fm (r:aw) (lit w:Int) (t:TS) (x y:Expr):TS:=
 if y.kind=1 then th t (bD t.up (dr r x.var w)) (bD t.up (dr r y.var w))
 else t.add (if x.kind=1 then[⟨lit,dr r x.var w,qI y,0⟩] else if x.kind=2 then[⟨lit,bY.z,qI y,x.val.kind⟩] else[⟨lit,bY.z,qI y,1⟩])
def gC (r:aw) (lit w:Int) (t:TS) (a b:Expr):TS:=
 if b.kind=1 then fm r lit w ((t.add (gy r lit w a)).add (gy r lit w b)) b a else fm r lit w ((t.add (gy r lit w a)).add (gy r lit w b)) a b
theorem IT {u v:bY} (h:(!(decide (u.1=v.1)&&(decide (u.2=v.2)&&true)))=true):u≠v:=by
 rintro rfl
 simp at h
theorem IU {u v:bY} (h:(!(decide (u.1=v.1)&&(decide (u.2=v.2)&&true)))=false):u=v:=by
 simp at h;exact Prod.ext h.1 h.2
theorem oB (r:aw) (lit w:Int) (e:Expr):(gy r lit w e).length≤e.size:=by
 have h1:=fY r lit w e;rw[zA,VL] at h1;omega
set_option maxHeartbeats 1000000 in
theorem d93 (r:aw) (t:TS) (a b:Expr) (lit w:Int) (ok:gl t.up) (hb:t.ws.length+a.size+b.size≤1000000000):b8 Tryz.prog 200 [.ptr 0 0,ag a.c,ag b.c,pI lit,pI w] (t.O r) (.bM []) ((gC r lit w t a b).H r) 5:=by
 have h1:=oB r lit w a;have h2:=oB r lit w b;have hA:gC r lit w t a b=if b.kind=1 then fm r lit w ((t.add (gy r lit w a)).add (gy r lit w b)) b a else fm r lit w ((t.add (gy r lit w a)).add (gy r lit w b)) a b:=rfl;rw[hA];have ok1:gl ((t.add (gy r lit w a)).add (gy r lit w b)).up:=ok;refine aF ae Tryz.func200 rfl (by decide) Tryz.ntmps200 rfl (by simp) ?_;refine gA rfl (jT (O3 r t a lit w (by omega)) rfl rfl rfl rfl rfl rfl rfl (by first|rfl|(rw[VL];rfl)|simp) (by first|rfl|(rw[VN];rfl)|(simp only[VN,VU];rfl)) rfl rfl rfl rfl rfl rfl ?_);refine gA rfl (jT (O3 r (t.add (gy r lit w a)) b lit w (by show(t.ws++_).length+_≤_;rw[VL];omega)) rfl rfl rfl rfl rfl rfl rfl (by first|rfl|(rw[VL];rfl)|simp) (by first|rfl|(rw[VN];rfl)|(simp only[VN,VU];rfl)) rfl rfl rfl rfl rfl rfl ?_)
 have hl:((t.add (gy r lit w a)).add (gy r lit w b)).ws.length≤t.ws.length+a.size+b.size:=by
  show((t.ws++_)++_).length≤_;rw[VL,VL];omega
 generalize(t.add (gy r lit w a)).add (gy r lit w b)=t1 at*
 refine gA rfl ?_;refine VJ (fun k1=>?_) (fun k1=>?_)
 ·have k1:b.kind=1:=of_decide_eq_true k1
  rw[if_pos k1];refine gA rfl ?_;refine VJ (fun k2=>?_) (fun k2=>?_)
  ·have k2:a.kind=2:=of_decide_eq_true k2
   have hy: ¬a.kind=1:=by omega
   have hh:qI a=a.val.kind:=if_pos k2;have hX:fm r lit w t1 b a=t1.add [⟨lit,dr r b.var w,qI a,0⟩]:=by unfold fm;rw[if_neg hy,if_pos k1]
   rw[hX,hh];refine gA rfl ?_;refine VJ (fun k3=>?_) (fun k3=>?_)
   ·exact absurd (of_decide_eq_true k3) hy
   refine gA rfl ?_;refine VJ (fun k4=>?_) (fun k4=>?_);rotate_left
   ·exact absurd k1 (of_decide_eq_false k4)
   refine gA rfl (jd (d136 r t1 b.var w) rfl rfl rfl rfl rfl rfl rfl (by first|rfl|(rw[VL];rfl)|simp) (by first|rfl|(rw[VN];rfl)|(simp only[VN,VU];rfl)) rfl rfl rfl rfl rfl rfl rfl rfl rfl rfl (by(repeat' (first|exact trivial|exact rfl|exact ak.refl _|exact ak.bk (by assumption)|apply VJ))<;>first|omega|(simp only[VQ];omega)|(simp;done)|(simp;omega)) rfl (by(repeat' (first|exact trivial|exact rfl|exact ak.refl _|exact ak.bk (by assumption)|apply VJ))<;>first|omega|(simp only[VQ];omega)|(simp;done)|(simp;omega)) ?_);refine gA rfl (eY (by first|exact .inr rfl|exact .inl rfl) rfl rfl rfl rfl rfl (by first|rfl|(rw[VL];rfl)|simp) (by first|rfl|(rw[VN];rfl)|(simp only[VN,VU];rfl)) rfl rfl rfl (.refl _) rfl rfl)
  ·have k2: ¬a.kind=2:=of_decide_eq_false k2
   refine gA rfl ?_;refine VJ (fun k3=>?_) (fun k3=>?_)
   ·have k3:a.kind=1:=of_decide_eq_true k3
    have hX:fm r lit w t1 b a=th t1 (bD t1.up (dr r b.var w)) (bD t1.up (dr r a.var w)):=if_pos k3;rw[hX];refine gA rfl (jd (d136 r t1 b.var w) rfl rfl rfl rfl rfl rfl rfl (by first|rfl|(rw[VL];rfl)|simp) (by first|rfl|(rw[VN];rfl)|(simp only[VN,VU];rfl)) rfl rfl rfl rfl rfl rfl rfl rfl rfl rfl (by(repeat' (first|exact trivial|exact rfl|exact ak.refl _|exact ak.bk (by assumption)|apply VJ))<;>first|omega|(simp only[VQ];omega)|(simp;done)|(simp;omega)) rfl (by(repeat' (first|exact trivial|exact rfl|exact ak.refl _|exact ak.bk (by assumption)|apply VJ))<;>first|omega|(simp only[VQ];omega)|(simp;done)|(simp;omega)) ?_);refine gA rfl (jd (d52 r t1 (dr r b.var w) ok1) rfl rfl rfl rfl rfl rfl rfl (by first|rfl|(rw[VL];rfl)|simp) (by first|rfl|(rw[VN];rfl)|(simp only[VN,VU];rfl)) rfl rfl rfl rfl rfl rfl rfl rfl rfl rfl (by(repeat' (first|exact trivial|exact rfl|exact ak.refl _|exact ak.bk (by assumption)|apply VJ))<;>first|omega|(simp only[VQ];omega)|(simp;done)|(simp;omega)) rfl (by(repeat' (first|exact trivial|exact rfl|exact ak.refl _|exact ak.bk (by assumption)|apply VJ))<;>first|omega|(simp only[VQ];omega)|(simp;done)|(simp;omega)) ?_);refine gA rfl (jd (d136 r t1 a.var w) rfl rfl rfl rfl rfl rfl rfl (by first|rfl|(rw[VL];rfl)|simp) (by first|rfl|(rw[VN];rfl)|(simp only[VN,VU];rfl)) rfl rfl rfl rfl rfl rfl rfl rfl rfl rfl (by(repeat' (first|exact trivial|exact rfl|exact ak.refl _|exact ak.bk (by assumption)|apply VJ))<;>first|omega|(simp only[VQ];omega)|(simp;done)|(simp;omega)) rfl (by(repeat' (first|exact trivial|exact rfl|exact ak.refl _|exact ak.bk (by assumption)|apply VJ))<;>first|omega|(simp only[VQ];omega)|(simp;done)|(simp;omega)) ?_);refine gA rfl (jd (d52 r t1 (dr r a.var w) ok1) rfl rfl rfl rfl rfl rfl rfl (by first|rfl|(rw[VL];rfl)|simp) (by first|rfl|(rw[VN];rfl)|(simp only[VN,VU];rfl)) rfl rfl rfl rfl rfl rfl rfl rfl rfl rfl (by(repeat' (first|exact trivial|exact rfl|exact ak.refl _|exact ak.bk (by assumption)|apply VJ))<;>first|omega|(simp only[VQ];omega)|(simp;done)|(simp;omega)) rfl (by(repeat' (first|exact trivial|exact rfl|exact ak.refl _|exact ak.bk (by assumption)|apply VJ))<;>first|omega|(simp only[VQ];omega)|(simp;done)|(simp;omega)) ?_);refine gA rfl ?_;refine VJ (fun k4=>?_) (fun k4=>?_)
    ·have e:th t1 (bD t1.up (dr r b.var w)) (bD t1.up (dr r a.var w))=⟨bQ (.si .i64) t1.up (bD t1.up (dr r b.var w)) (bD t1.up (dr r a.var w)),t1.ws,t1.kind⟩:=if_neg (IT k4)
     rw[e];refine lB rfl (by repeat' (first|exact trivial|exact rfl|exact agI (bY.c (bD t1.up (dr r a.var w)))|exact ak.refl _|apply VJ)) (eY (by first|exact .inr rfl|exact .inl rfl) rfl rfl rfl rfl rfl rfl rfl rfl rfl rfl (.refl _) rfl rfl)
    ·have e:th t1 (bD t1.up (dr r b.var w)) (bD t1.up (dr r a.var w))=t1:=if_pos (IU k4)
     rw[e];refine gA rfl (eY (by first|exact .inr rfl|exact .inl rfl) rfl rfl rfl rfl rfl (by first|rfl|(rw[VL];rfl)|simp) (by first|rfl|(rw[VN];rfl)|(simp only[VN,VU];rfl)) rfl rfl rfl (.refl _) rfl rfl)
   ·have hy: ¬a.kind=1:=of_decide_eq_false k3
    have hh:qI a=1:=if_neg k2;have hX:fm r lit w t1 b a=t1.add [⟨lit,dr r b.var w,qI a,0⟩]:=by unfold fm;rw[if_neg hy,if_pos k1]
    rw[hX,hh];refine gA rfl ?_;refine VJ (fun k4=>?_) (fun k4=>?_);rotate_left
    ·exact absurd k1 (of_decide_eq_false k4)
    refine gA rfl (jd (d136 r t1 b.var w) rfl rfl rfl rfl rfl rfl rfl (by first|rfl|(rw[VL];rfl)|simp) (by first|rfl|(rw[VN];rfl)|(simp only[VN,VU];rfl)) rfl rfl rfl rfl rfl rfl rfl rfl rfl rfl (by(repeat' (first|exact trivial|exact rfl|exact ak.refl _|exact ak.bk (by assumption)|apply VJ))<;>first|omega|(simp only[VQ];omega)|(simp;done)|(simp;omega)) rfl (by(repeat' (first|exact trivial|exact rfl|exact ak.refl _|exact ak.bk (by assumption)|apply VJ))<;>first|omega|(simp only[VQ];omega)|(simp;done)|(simp;omega)) ?_);refine gA rfl (eY (by first|exact .inr rfl|exact .inl rfl) rfl rfl rfl rfl rfl (by first|rfl|(rw[VL];rfl)|simp) (by first|rfl|(rw[VN];rfl)|(simp only[VN,VU];rfl)) rfl rfl rfl (.refl _) rfl rfl)
 have k1: ¬b.kind=1:=of_decide_eq_false k1;rw[if_neg k1];have hX:fm r lit w t1 a b=t1.add (if a.kind=1 then[⟨lit,dr r a.var w,qI b,0⟩] else if a.kind=2 then[⟨lit,bY.z,qI b,a.val.kind⟩] else[⟨lit,bY.z,qI b,1⟩]):=if_neg k1;rw[hX];refine gA rfl ?_;refine VJ (fun k2=>?_) (fun k2=>?_)
 ·have k2:b.kind=2:=of_decide_eq_true k2
  have hh:qI b=b.val.kind:=if_pos k2;rw[hh];refine gA rfl ?_;refine VJ (fun k3=>?_) (fun k3=>?_)
  ·exact absurd (of_decide_eq_true k3) k1
  refine gA rfl ?_;refine VJ (fun k4=>?_) (fun k4=>?_)
  ·rw[if_pos (of_decide_eq_true k4)]
   refine gA rfl (jd (d136 r t1 a.var w) rfl rfl rfl rfl rfl rfl rfl (by first|rfl|(rw[VL];rfl)|simp) (by first|rfl|(rw[VN];rfl)|(simp only[VN,VU];rfl)) rfl rfl rfl rfl rfl rfl rfl rfl rfl rfl (by(repeat' (first|exact trivial|exact rfl|exact ak.refl _|exact ak.bk (by assumption)|apply VJ))<;>first|omega|(simp only[VQ];omega)|(simp;done)|(simp;omega)) rfl (by(repeat' (first|exact trivial|exact rfl|exact ak.refl _|exact ak.bk (by assumption)|apply VJ))<;>first|omega|(simp only[VQ];omega)|(simp;done)|(simp;omega)) ?_);refine gA rfl (eY (by first|exact .inr rfl|exact .inl rfl) rfl rfl rfl rfl rfl (by first|rfl|(rw[VL];rfl)|simp) (by first|rfl|(rw[VN];rfl)|(simp only[VN,VU];rfl)) rfl rfl rfl (.refl _) rfl rfl)
  rw[if_neg (of_decide_eq_false k4)];refine gA rfl ?_;refine VJ (fun k5=>?_) (fun k5=>?_)
  ·rw[if_pos (of_decide_eq_true k5)]
   refine gA rfl (eY (by first|exact .inr rfl|exact .inl rfl) rfl rfl rfl rfl rfl (by first|rfl|(rw[VL];rfl)|simp) (by first|rfl|(rw[VN];rfl)|(simp only[VN,VU];rfl)) rfl rfl rfl (.refl _) rfl rfl)
  ·rw[if_neg (of_decide_eq_false k5)]
   refine gA rfl (eY (by first|exact .inr rfl|exact .inl rfl) rfl rfl rfl rfl rfl (by first|rfl|(rw[VL];rfl)|simp) (by first|rfl|(rw[VN];rfl)|(simp only[VN,VU];rfl)) rfl rfl rfl (.refl _) rfl rfl)
 ·have k2: ¬b.kind=2:=of_decide_eq_false k2
  have hh:qI b=1:=if_neg k2;rw[hh];refine gA rfl ?_;refine VJ (fun k3=>?_) (fun k3=>?_)
  ·exact absurd (of_decide_eq_true k3) k1
  refine gA rfl ?_;refine VJ (fun k4=>?_) (fun k4=>?_)
  ·rw[if_pos (of_decide_eq_true k4)]
   refine gA rfl (jd (d136 r t1 a.var w) rfl rfl rfl rfl rfl rfl rfl (by first|rfl|(rw[VL];rfl)|simp) (by first|rfl|(rw[VN];rfl)|(simp only[VN,VU];rfl)) rfl rfl rfl rfl rfl rfl rfl rfl rfl rfl (by(repeat' (first|exact trivial|exact rfl|exact ak.refl _|exact ak.bk (by assumption)|apply VJ))<;>first|omega|(simp only[VQ];omega)|(simp;done)|(simp;omega)) rfl (by(repeat' (first|exact trivial|exact rfl|exact ak.refl _|exact ak.bk (by assumption)|apply VJ))<;>first|omega|(simp only[VQ];omega)|(simp;done)|(simp;omega)) ?_);refine gA rfl (eY (by first|exact .inr rfl|exact .inl rfl) rfl rfl rfl rfl rfl (by first|rfl|(rw[VL];rfl)|simp) (by first|rfl|(rw[VN];rfl)|(simp only[VN,VU];rfl)) rfl rfl rfl (.refl _) rfl rfl)
  rw[if_neg (of_decide_eq_false k4)];refine gA rfl ?_;refine VJ (fun k5=>?_) (fun k5=>?_)
  ·rw[if_pos (of_decide_eq_true k5)]
   refine gA rfl (eY (by first|exact .inr rfl|exact .inl rfl) rfl rfl rfl rfl rfl (by first|rfl|(rw[VL];rfl)|simp) (by first|rfl|(rw[VN];rfl)|(simp only[VN,VU];rfl)) rfl rfl rfl (.refl _) rfl rfl)
  ·rw[if_neg (of_decide_eq_false k5)]
   refine gA rfl (eY (by first|exact .inr rfl|exact .inl rfl) rfl rfl rfl rfl rfl (by first|rfl|(rw[VL];rfl)|simp) (by first|rfl|(rw[VN];rfl)|(simp only[VN,VU];rfl)) rfl rfl rfl (.refl _) rfl rfl)
def mQ (p:Prog) (r:aw) (lit w:Int) (t:TS) (l:Lit):TS:=
 if l.kind=1∨l.kind=2 then t.add (fk p r l.atom lit w l.atom.an.length)
 else if l.kind=3 then(if l.op=1∨l.op=2 then gC r lit w t l.left l.right else(t.add (fg r lit w l.left)).add (fg r lit w l.right)) else t
theorem d91 (p:Prog) (r:aw) (t:TS) (l:Lit) (lit w:Int) (ok:gl t.up) (hb:t.ws.length+l.size≤1000000000):b8 Tryz.prog 198 [.ptr 0 0, .iv (ct p),ag l.c,pI lit,pI w] (t.O r) (.bM []) ((mQ p r lit w t l).H r) 5:=by
 have hsz:=l.size_eq;have hx:=fY r lit w l.left;refine aF ae Tryz.func198 rfl (by decide) Tryz.ntmps198 rfl (by simp) ?_;refine gA rfl ?_;refine VJ (fun k1=>?_) (fun k1=>?_);rotate_left
 ·have k1:l.kind=1:=by simpa using k1
  have hL:mQ p r lit w t l=t.add (fk p r l.atom lit w l.atom.an.length):=if_pos (.inl k1);rw[hL];refine gA rfl (jT (d90 p r t l.atom lit w (by omega)) rfl rfl rfl rfl rfl rfl rfl (by first|rfl|(rw[VL];rfl)|simp) (by first|rfl|(rw[VN];rfl)|(simp only[VN,VU];rfl)) rfl rfl rfl rfl rfl rfl ?_);refine gA rfl (eY (by first|exact .inr rfl|exact .inl rfl) rfl rfl rfl rfl rfl (by first|rfl|(rw[VL];rfl)|simp) (by first|rfl|(rw[VN];rfl)|(simp only[VN,VU];rfl)) rfl rfl rfl (.refl _) rfl rfl)
 have k1: ¬l.kind=1:=of_decide_eq_false k1;refine gA rfl ?_;refine VJ (fun k2=>?_) (fun k2=>?_)
 ·have k2:l.kind=2:=of_decide_eq_true k2
  have hL:mQ p r lit w t l=t.add (fk p r l.atom lit w l.atom.an.length):=if_pos (.inr k2);rw[hL];refine gA rfl (jT (d90 p r t l.atom lit w (by omega)) rfl rfl rfl rfl rfl rfl rfl (by first|rfl|(rw[VL];rfl)|simp) (by first|rfl|(rw[VN];rfl)|(simp only[VN,VU];rfl)) rfl rfl rfl rfl rfl rfl ?_);refine gA rfl (eY (by first|exact .inr rfl|exact .inl rfl) rfl rfl rfl rfl rfl (by first|rfl|(rw[VL];rfl)|simp) (by first|rfl|(rw[VN];rfl)|(simp only[VN,VU];rfl)) rfl rfl rfl (.refl _) rfl rfl)
 have k2: ¬l.kind=2:=of_decide_eq_false k2;have hL:mQ p r lit w t l=if l.kind=3 then(if l.op=1∨l.op=2 then gC r lit w t l.left l.right else(t.add (fg r lit w l.left)).add (fg r lit w l.right)) else t:=if_neg (by rintro(h|h);exact k1 h;exact k2 h);refine gA rfl ?_;refine VJ (fun k3=>?_) (fun k3=>?_)
 ·have k3: ¬l.kind=3:=by simpa using k3
  rw[if_neg k3] at hL;rw[hL];refine gA rfl (eY (by first|exact .inr rfl|exact .inl rfl) rfl rfl rfl rfl rfl (by first|rfl|(rw[VL];rfl)|simp) (by first|rfl|(rw[VN];rfl)|(simp only[VN,VU];rfl)) rfl rfl rfl (.refl _) rfl rfl)
 have k3:l.kind=3:=by simpa using k3
 rw[if_pos k3] at hL;refine gA rfl ?_;refine VJ (fun k4=>?_) (fun k4=>?_);rotate_left
 ·have k4:l.op=1:=by simpa using k4
  rw[if_pos (.inl k4)] at hL;rw[hL];refine gA rfl (jT (d93 r t l.left l.right lit w ok (by omega)) rfl rfl rfl rfl rfl rfl rfl (by first|rfl|(rw[VL];rfl)|simp) (by first|rfl|(rw[VN];rfl)|(simp only[VN,VU];rfl)) rfl rfl rfl rfl rfl rfl ?_);refine gA rfl (eY (by first|exact .inr rfl|exact .inl rfl) rfl rfl rfl rfl rfl (by first|rfl|(rw[VL];rfl)|simp) (by first|rfl|(rw[VN];rfl)|(simp only[VN,VU];rfl)) rfl rfl rfl (.refl _) rfl rfl)
 have k4: ¬l.op=1:=of_decide_eq_false k4;refine gA rfl ?_;refine VJ (fun k5=>?_) (fun k5=>?_)
 ·have k5:l.op=2:=of_decide_eq_true k5
  rw[if_pos (.inr k5)] at hL;rw[hL];refine gA rfl (jT (d93 r t l.left l.right lit w ok (by omega)) rfl rfl rfl rfl rfl rfl rfl (by first|rfl|(rw[VL];rfl)|simp) (by first|rfl|(rw[VN];rfl)|(simp only[VN,VU];rfl)) rfl rfl rfl rfl rfl rfl ?_);refine gA rfl (eY (by first|exact .inr rfl|exact .inl rfl) rfl rfl rfl rfl rfl (by first|rfl|(rw[VL];rfl)|simp) (by first|rfl|(rw[VN];rfl)|(simp only[VN,VU];rfl)) rfl rfl rfl (.refl _) rfl rfl)
 ·have k5: ¬l.op=2:=of_decide_eq_false k5
  rw[if_neg (by rintro(h|h);exact k4 h;exact k5 h)] at hL;rw[hL];refine gA rfl (jT (DQ r t l.left lit w (by omega)) rfl rfl rfl rfl rfl rfl rfl (by first|rfl|(rw[VL];rfl)|simp) (by first|rfl|(rw[VN];rfl)|(simp only[VN,VU];rfl)) rfl rfl rfl rfl rfl rfl ?_);refine gA rfl (jT (DQ r (t.add (fg r lit w l.left)) l.right lit w (by show(t.ws++_).length+_≤_;rw[VL];omega)) rfl rfl rfl rfl rfl rfl rfl (by first|rfl|(rw[VL];rfl)|simp) (by first|rfl|(rw[VN];rfl)|(simp only[VN,VU];rfl)) rfl rfl rfl rfl rfl rfl ?_);refine gA rfl (eY (by first|exact .inr rfl|exact .inl rfl) rfl rfl rfl rfl rfl (by first|rfl|(rw[VL];rfl)|simp) (by first|rfl|(rw[VN];rfl)|(simp only[VN,VU];rfl)) rfl rfl rfl (.refl _) rfl rfl)
theorem nF: ∀(n:Nat) (m:UM) (v:bY),gl m→An m v≤n→eI (.si .i64) m (bD m v)=false
 |n,m,v,ok,hn=>by
  cases h:eI (.si .i64) m v with
  |false=>rw[oe m v h];exact h
  |true=>
   obtain⟨h1,h2⟩:=lK m v ok h
   cases n with
   |zero=>omega
   |succ n=>rw[←h1];exact nF n m _ ok (by omega)
theorem w4: ∀(m:UM) (u v:bY),eI (.si .i64) m u=false→bQ (.si .i64) m u v=m++ [(u,v)]
 | [],_,_,_=>rfl
 |(x,y)::r,u,v,h=>by
  unfold eI at h;split at h
  ·cases h
  ·rename_i hx
   show(if x=u then _ else(x,y)::bQ (.si .i64) r u v)=_;rw[if_neg hx,w4 r u v h];rfl
theorem xz {m:UM} {u:bY} (h:eI (.si .i64) m u=false): ∀q∈m,q.1≠u:=by
 induction m with
 |nil=>intro q hq;cases hq
 |cons a r ih=>
  obtain⟨x,y⟩:=a;unfold eI at h;split at h
  ·cases h
  ·rename_i hx
   intro q hq;rcases V4.1 hq with rfl|hq
   ·exact hx
   ·exact ih h q hq
theorem tE: ∀{m:UM} {u v:bY},gl m→(∀q∈m,q.1≠u)→(∀q∈m,q.1≠v)→u≠v→gl (m++ [(u,v)])
 | [],u,v,_,_,_,hne=>⟨hne,fun q hq=>(nomatch hq),fun q hq=>(nomatch hq),trivial⟩
 |(x,y)::r,u,v,⟨o1,o2,o3,o4⟩,hu,hv,hne=>by
  refine⟨o1,fun q hq=>?_,fun q hq=>?_,tE o4 (fun q hq=>hu q (V2 _ hq)) (fun q hq=>hv q (V2 _ hq)) hne⟩
  ·rcases V3.1 hq with hq|hq
   ·exact o2 q hq
   ·simp only[VX] at hq;subst hq
    exact fun e=>hu _ V8 e.symm
  ·rcases V3.1 hq with hq|hq
   ·exact o3 q hq
   ·simp only[VX] at hq;subst hq
    exact fun e=>hv _ V8 e.symm
theorem QU {t:TS} (ok:gl t.up) (a b:bY):gl (th t (bD t.up a) (bD t.up b)).up:=by
 unfold th;split
 ·exact ok
 ·rename_i hne
  have h1:=nF _ t.up a ok (VZ _);have h2:=nF _ t.up b ok (VZ _);show gl (bQ _ _ _ _);rw[w4 _ _ _ h1];exact tE ok (xz h1) (xz h2) hne
theorem uO (r:aw) (lit w:Int) {t:TS} (ok:gl t.up) (x y:Expr):gl (fm r lit w t x y).up:=by
 unfold fm;split
 ·exact QU ok _ _
 ·exact ok
theorem x7 (r:aw) (lit w:Int) {t:TS} (ok:gl t.up) (a b:Expr):gl (gC r lit w t a b).up:=by
 unfold gC;split
 ·exact uO r lit w (t:=(t.add (gy r lit w a)).add (gy r lit w b)) ok _ _
 ·exact uO r lit w (t:=(t.add (gy r lit w a)).add (gy r lit w b)) ok _ _
theorem CY (p:Prog) (r:aw) (lit w:Int) {t:TS} (ok:gl t.up) (l:Lit):gl (mQ p r lit w t l).up:=by
 unfold mQ
 repeat' split
 ·exact ok
 ·exact x7 r lit w ok _ _
 ·exact ok
 ·exact ok
theorem QS (t:TS) (u v:bY):(th t u v).ws=t.ws:=by unfold th;split<;>rfl
theorem s5 (r:aw) (lit w:Int) (t:TS) (x y:Expr):(fm r lit w t x y).ws.length≤t.ws.length+1:=by
 unfold fm
 repeat' split
 ·rw[QS];omega
 all_goals(show(t.ws++_).length≤_;rw[VL,WM];omega)
theorem uN (r:aw) (lit w:Int) (t:TS) (a b:Expr):(gC r lit w t a b).ws.length≤t.ws.length+a.size+b.size+1:=by
 have h1:=oB r lit w a;have h2:=oB r lit w b
 have h3:((t.add (gy r lit w a)).add (gy r lit w b)).ws.length≤t.ws.length+a.size+b.size:=by
  show((t.ws++_)++_).length≤_;rw[VL,VL];omega
 unfold gC;split
 ·exact Wh (s5 _ _ _ _ _ _) (by omega)
 ·exact Wh (s5 _ _ _ _ _ _) (by omega)
theorem zD (p:Prog) (r:aw) (lit w:Int) (t:TS) (l:Lit):(mQ p r lit w t l).ws.length≤t.ws.length+l.size:=by
 have hsz:=l.size_eq;have h1:=ll p r l.atom lit w l.atom.an.length;have h2:=uN r lit w t l.left l.right;have h3:=fY r lit w l.left;have h4:=fY r lit w l.right;unfold mQ
 repeat' split
 ·show(t.ws++_).length≤_
  rw[VL];omega
 ·omega
 ·show((t.ws++_)++_).length≤_
  rw[VL,VL];omega
 ·omega
end Go.Proofs.YtflegjieadkonaaGreatDoor
