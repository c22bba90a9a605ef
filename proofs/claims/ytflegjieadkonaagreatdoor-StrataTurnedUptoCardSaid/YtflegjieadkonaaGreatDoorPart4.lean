/-
  What the proofs of the claims need: part 4 of 7.
-/
import Derived.Test.YtflegjieadkonaaGreatDoorPart3
import Derived.Shelf.Sort.Plain
import Derived.Shelf.Slices.In.SortNone
import Derived.Shelf.Slices.In.SortNone2
import Derived.WalkKit
import Derived.Lib.Builder
import Derived.Lib.UnsafeStr
import Derived.Laws.Externs
import Derived.Shelf.RegionOpenPlain
import Derived.KernelRfl
import Derived.Test.YtflegjieadkonaaGreatDoorProg
import Derived.Lib.AppendStr
import Derived.Laws.RangeString
import Derived.Shelf.LaysM
import Derived.Shelf.Strconv.Itoa3
import Derived.Laws.IdiomStrings
import Derived.Laws.BytesArg
import Derived.Lib.ItoaLen
open And renaming intro→Wl
open Array renaming getD_eq_getD_getElem?→Wm,getElem?_append_left→Xq,getElem?_eq_getElem→Xa,getElem?_eq_some_iff→Xz,getElem?_modify→W8,getElem?_push→Yq,getElem?_setIfInBounds→W1,getElem?_toList→Xh,size_append→YU
open Bool renaming and_eq_true→WN,and_false→Yu,and_true→Zf,eq_false_iff→XD,eq_iff_iff→Xn,false_and→Yd,false_or→Yb,not_false→YW,not_true→YM,or_eq_true→Xl,true_and→YA,true_or→Y7
open ByteArray renaming empty→Wu,size→Zt
open Int renaming ofNat_eq_zero→Zz,ofNat_lt→Xe,toNat_natCast→Wp
open List.Pairwise renaming nil→Zb
open List renaming all_eq_true→WX,any_eq_true→Xr,append_assoc→Wv,append_nil→Xo,cons_append→XF,eq_nil_of_length_eq_zero→Yc,flatMap_cons→XA,foldl_cons→Xf,getD_cons_succ→XO,getD_eq_getElem?_getD→Ws,getElem?_append_left→WH,getElem?_append_right→WJ,getElem?_eq_getElem→Wt,getElem?_eq_some_iff→Wr,getElem?_map→Ww,getElem?_take→W7,getElem?_toArray→Xv,getElem_mem→Xj,length_append→Wn,length_cons→W2,length_eq_zero_iff→XS,length_map→W3,length_singleton→Xp,length_take→Xb,map_append→Wq,map_cons→WI,map_nil→Xd,mem_append→WD,mem_cons→WG,mem_cons_of_mem→WE,mem_cons_self→WM,mem_singleton→Wy,nil_append→Yg,not_mem_nil→Y1,range→WL,sum_cons→XN,take_length→Ya,take_of_length_le→WB,take_succ_cons→XE
open Nat renaming add_assoc→XZ,add_zero→Yv,beq→WO,ble→YG,ble_eq_true_of_le→Xi,blt→WU,le_of_ble_eq_true→Wj,le_of_not_lt→Xc,le_refl→Wz,le_trans→WV,lt_or_ge→W9,lt_succ_of_lt→X3,lt_succ_self→XT,mul_one→Zd,zero_add→WQ,zero_le→WC,zero_mul→X0
open Option renaming getD_some→XM,map_eq_some_iff→Wx,map_some→Xy
namespace Go.Proofs.YtflegjieadkonaaGreatDoor
open Go Go.Al
set_option maxRecDepth 10000
section
variable (stp:List aj→Lit→aj×Bool)
def gS (a:List aj×Bool) (l:Lit):List aj×Bool:=if(stp a.1 l).2=true then(fb a.1 (stp a.1 l).1,true) else a
def gR (body:List Lit) (k:List aj):List aj×Bool:=body.foldl (gS stp) (k,false)
def gN (body:List Lit):Nat→List aj→List aj
 |0,k=>k
 |n+1,k=>if(gR stp body k).2=true then gN body n (gR stp body k).1 else(gR stp body k).1
variable {stp}
theorem As: ∀(body:List Lit) (k:List aj),(body.foldl (gS stp) (k,true)).2=true
 | [],k=>rfl
 |l::r,k=>by
  rw[Xf]
  have: ∃k',gS stp (k,true) l=(k',true):=by
   unfold gS;split
   ·exact⟨_,rfl⟩
   ·exact⟨_,rfl⟩
  obtain⟨k',hk⟩:=this;rw[hk];exact As r k'
theorem xR: ∀{body:List Lit} {k:List aj},(body.foldl (gS stp) (k,false)).2=false→(body.foldl (gS stp) (k,false)).1=k∧ ∀l∈body,(stp k l).2=false
 | [],k,_=>⟨rfl,by simp⟩
 |l::r,k,h=>by
  rw[Xf] at h ⊢
  cases hs:(stp k l).2 with
  |true=>
   have:gS stp (k,false) l=(fb k (stp k l).1,true):=if_pos hs
   rw[this,As] at h;cases h
  |false=>
   have:gS stp (k,false) l=(k,false):=if_neg (by rw[hs];simp);rw[this] at h ⊢;obtain⟨h1,h2⟩:=xR h
   exact⟨h1,fun x hx=>by
    rcases WG.1 hx with rfl|hx
    ·exact hs
    ·exact h2 x hx⟩
theorem zf: ∀(body:List Lit) (a:List aj×Bool),∀x∈a.1,x∈(body.foldl (gS stp) a).1
 | [],a,x,h=>h
 |l::r,a,x,h=>by
  rw[Xf];refine zf r _ x ?_;unfold gS;split
  ·exact c6.2 (.inl h)
  ·exact h
theorem D4 {body:List Lit}: ∀(n:Nat) (k:List aj),∀x∈k,x∈gN stp body n k
 |0,k,x,h=>h
 |n+1,k,x,h=>by
  unfold gN;split
  ·exact D4 n _ x (zf body (k,false) x h)
  ·exact zf body (k,false) x h
theorem p8: ∀(body:List Lit) (a:List aj×Bool),tD a.1→tD (body.foldl (gS stp) a).1
 | [],a,h=>h
 |l::r,a,h=>by
  rw[Xf];refine p8 r _ ?_;unfold gS;split
  ·exact ox h _
  ·exact h
theorem uR {body:List Lit}: ∀(n:Nat) (k:List aj),tD k→tD (gN stp body n k)
 |0,k,h=>h
 |n+1,k,h=>by
  unfold gN;split
  ·exact uR n _ (p8 body (k,false) h)
  ·exact p8 body (k,false) h
variable (hnew: ∀(k:List aj) (l:Lit),(stp k l).2=true→(stp k l).1∈ [l.left.var,l.right.var,l.bp]∧(stp k l).1∉k)
include hnew
theorem Ar {c:List aj}: ∀{body:List Lit} {a:List aj×Bool},(∀l∈body,∀v∈ [l.left.var,l.right.var,l.bp],v∈c)→
  cq c (body.foldl (gS stp) a).1≤cq c a.1∧((body.foldl (gS stp) a).2=true→a.2=true∨cq c (body.foldl (gS stp) a).1<cq c a.1)
 | [],a,_=>⟨Wz _,fun h=> .inl h⟩
 |l::r,a,hc=>by
  have h1:cq c (gS stp a l).1≤cq c a.1∧((gS stp a l).2=true→a.2=true∨cq c (gS stp a l).1<cq c a.1):=by
   unfold gS;split
   ·rename_i h
    obtain⟨g1,g2⟩:=hnew _ _ h;have:=oQ (hc l WM _ g1) g2;exact⟨by dsimp only;omega,fun _=> .inr this⟩
   ·exact⟨Wz _,fun h=> .inl h⟩
  obtain⟨g1,g2⟩:=Ar (body:=r) (a:=gS stp a l) fun l hl=>hc l (WE _ hl);rw[Xf];refine⟨by omega,fun h=>?_⟩;rcases g2 h with g3|g3
  ·rcases h1.2 g3 with g4|g4
   ·exact .inl g4
   ·exact .inr (by omega)
  ·exact .inr (by omega)
theorem D3 {body:List Lit}: ∀(n:Nat) (k:List aj),cq (bB body) k<n→ ∀l∈body,(stp (gN stp body n k) l).2=false
 |0,k,h,_,_=>by omega
 |n+1,k,h,l,hl=>by
  unfold gN
  cases hr:(gR stp body k).2 with
  |true=>
   rw[if_pos rfl];refine D3 n _ ?_ l hl;obtain⟨_,g2⟩:=Ar hnew (c:=bB body) (body:=body) (a:=(k,false)) fun l hl v hv=>u3 hl hv;rcases g2 hr with g3|g3
   ·cases g3
   ·unfold gR;dsimp only at g3;omega
  |false=>
   rw[if_neg (by simp)];obtain⟨g1,g2⟩:=xR hr;unfold gR;rw[g1];exact g2 l hl
end
theorem mz {m1:Expr→Bool} {m2:fg→Bool} {occ:List aj}: ∀{l:List Lit},(∀x∈l,lq m1 m2 occ x=none)→bK m1 m2 occ l=none
 | [],_=>rfl
 |y::r,h=>by
  simp only[bK,h y WM];exact mz fun x hx=>h x (WE _ hx)
section
variable {stp:List aj→Lit→aj×Bool} {may:List aj→Expr→Bool} {more:List aj→fg→Bool} {body:List Lit}
variable (hE: ∀(k:List aj) (l:Lit),lq (may k) (more k) k l=if(stp k l).2=true then some (stp k l).1 else none)
variable (hmay: ∀a b:List aj,(∀x∈a,x∈b)→ ∀e,may a e=true→may b e=true) (hmore: ∀a b:List aj,(∀x∈a,x∈b)→ ∀e,more a e=true→more b e=true)
include hE
theorem Jl (k:List aj) (l:Lit) (h:(stp k l).2=true):(stp k l).1∈ [l.left.var,l.right.var,l.bp]∧(stp k l).1∉k:=by
 have:=hE k l;rw[if_pos h] at this;exact sB this
include hmay hmore
theorem D1 {C:List aj} (hC: ∀l∈body,lq (may C) (more C) C l=none): ∀(b:List Lit) (a:List aj×Bool),(∀l∈b,l∈body)→(∀x∈a.1,x∈C)→ ∀x∈(b.foldl (gS stp) a).1,x∈C
 | [],a,_,h,x,hx=>h x hx
 |l::r,a,hb,h,x,hx=>by
  rw[Xf] at hx;refine D1 hC r _ (fun l hl=>hb l (WE _ hl)) (fun y hy=>?_) x hx;unfold gS at hy;split at hy
  ·rename_i hs
   rcases c6.1 hy with hy|rfl
   ·exact h y hy
   ·have:=hE a.1 l
    rw[if_pos hs] at this;exact z8 hmay hmore h this (hC l (hb l WM))
  ·exact h y hy
theorem D2 {C:List aj} (hC: ∀l∈body,lq (may C) (more C) C l=none): ∀(n:Nat) (k:List aj),(∀x∈k,x∈C)→ ∀x∈gN stp body n k,x∈C
 |0,k,h,x,hx=>h x hx
 |n+1,k,h,x,hx=>by
  unfold gN at hx;have hr:=D1 hE hmay hmore hC body (k,false) (fun _ h=>h) h;split at hx
  ·exact D2 hC n _ hr x hx
  ·exact hr x hx
theorem wW {k occ:List aj} (hk: ∀x,x∈k↔x∈occ++body.flatMap bh) (x:aj):x∈gN stp body (3*body.length+1) k↔x∈bL may more body occ:=by
 constructor
 ·refine D2 hE hmay hmore (C:=bL may more body occ) (mA (qX occ)) _ _ (fun y hy=>?_) x
  exact mK _ _ y ((hk y).1 hy)
 ·refine mJ hmay hmore (C:=gN stp body (3*body.length+1) k) (mz fun l hl=>?_) _ _ (fun y hy=>D4 _ _ y ((hk y).2 hy)) x
  have h1:=oR (bB body) k;have h2:=iO body;rw[hE,D3 (Jl hE) _ _ (by omega) l hl,if_neg (by simp)]
end
theorem xx {x:aj}: ∀{l:List Lit} {a:List aj},x∈l.foldl Bt a↔x∈a∨x∈l.flatMap bh
 | [],a=>by simp
 |t::r,a=>by
  rw[Xf,xx,XA,WD];by_cases hk:t.kind=1
  ·rw[show Bt a t=fT a (kR t.atom) from if_pos hk,show bh t=cE t.atom from if_pos hk,qI,vM,or_assoc]
  ·rw[show Bt a t=a from if_neg hk,show bh t=[] from if_neg hk];simp
theorem qE: ∀(l:List Lit) (a:List aj),tD a→tD (l.foldl Bt a)
 | [],a,h=>h
 |t::r,a,h=>by
  rw[Xf];refine qE r _ ?_;unfold Bt;split
  ·exact lV h
  ·exact h
theorem Dt (k:List aj) (l:Lit):lq (b3 k) (fun _=>false) k l=if(jX l k).2=true then some (jX l k).1 else none:=by
 unfold lq;rw[if_neg (c:=l.kind=4∧_) (fun h=>Bool.noConfusion h.2.2)]
 have:(if(fu (b3 k) k l).2=true then some (fu (b3 k) k l).1 else none)=if(jX l k).2=true then some (jX l k).1 else none:=by
  unfold fu jX b3;split
  ·rfl
  ·by_cases a1:l.left.kind=1<;>by_cases a2:l.right.kind=1<;>by_cases a3:l.left.kind=2<;>by_cases a4:l.right.kind=2<;>cases a5:c2 k l.left.var<;>cases a6:c2 k l.right.var<;>simp_all
 exact this
theorem uv (body:List Lit): ∀(n:Nat) (k:List aj),sj body n k=gN (fun k l=>jX l k) body n k
 |0,k=>rfl
 |n+1,k=>by
  rw[xm,uv body n];rfl
theorem told_plain (r:ak):ew (aJ (nB r))=j5 r:=by
 unfold j5;rw[uv];refine Cy (uR _ _ (qE _ _ Zb)) fun x=>?_;exact(wW (may:=fun occ=>b3 occ) (more:=fun _=>fun _=>false) Dt xn (fun _ _ _ _ h=>h) (fun y=>by rw[xx];simp) x).symm
end Go.Proofs.YtflegjieadkonaaGreatDoor
namespace Go.Proofs
open Go.Shelf
def Tryz.xE:Go.Shelf.Ren:=⟨fun|190=>91|125=>122|258=>121|128=>152|129=>153|302=>143|303=>144|304=>145|305=>146|306=>147|307=>148|308=>149|309=>150|310=>151|333=>180|329=>181|330=>182|334=>183|335=>184|336=>185|344=>213|n=>n,fun|31=>53|9=>9|3=>3|46=>179|0=>0|51=>203|53=>205|4=>4|183=>196|182=>195|131=>50|5=>5|218=>233|222=>237|228=>280|229=>281|n=>n,fun|n=>n⟩
theorem Tryz.Ad:Go.Proofs.Lays.n190 Tryz.prog Tryz.xE:={
 mixed:=by kernel_rfl
 f125:=Tryz.func122.trans (congrArg some (by kernel_rfl))
 f128:=Tryz.func152.trans (congrArg some (by kernel_rfl))
 f129:=Tryz.func153.trans (congrArg some (by kernel_rfl))
 f190:=Tryz.func91.trans (congrArg some (by kernel_rfl))
 f258:=Tryz.func121.trans (congrArg some (by kernel_rfl))
 f302:=Tryz.func143.trans (congrArg some (by kernel_rfl))
 f303:=Tryz.func144.trans (congrArg some (by kernel_rfl))
 f304:=Tryz.func145.trans (congrArg some (by kernel_rfl))
 f305:=Tryz.func146.trans (congrArg some (by kernel_rfl))
 f306:=Tryz.func147.trans (congrArg some (by kernel_rfl))
 f307:=Tryz.func148.trans (congrArg some (by kernel_rfl))
 f308:=Tryz.func149.trans (congrArg some (by kernel_rfl))
 f309:=Tryz.func150.trans (congrArg some (by kernel_rfl))
 f310:=Tryz.func151.trans (congrArg some (by kernel_rfl))
 f329:=Tryz.func181.trans (congrArg some (by kernel_rfl))
 f330:=Tryz.func182.trans (congrArg some (by kernel_rfl))
 f333:=Tryz.func180.trans (congrArg some (by kernel_rfl))
 f334:=Tryz.func183.trans (congrArg some (by kernel_rfl))
 f335:=Tryz.func184.trans (congrArg some (by kernel_rfl))
 f336:=Tryz.func185.trans (congrArg some (by kernel_rfl))
 f344:=Tryz.func213.trans (congrArg some (by kernel_rfl))
 t0:=Tryz.underlying0
 a0:=Tryz.isAgg0
 z0:=Tryz.sizeOf0
 v0:=Tryz.zeroValue0
 t3:=Tryz.underlying3
 a3:=Tryz.isAgg3
 z3:=Tryz.sizeOf3
 v3:=Tryz.zeroValue3
 t4:=Tryz.underlying4
 a4:=Tryz.isAgg4
 z4:=Tryz.sizeOf4
 v4:=Tryz.zeroValue4
 t5:=Tryz.underlying5
 a5:=Tryz.isAgg5
 z5:=Tryz.sizeOf5
 v5:=Tryz.zeroValue5
 t9:=Tryz.underlying9
 a9:=Tryz.isAgg9
 z9:=Tryz.sizeOf9
 v9:=Tryz.zeroValue9
 t31:=Tryz.underlying53
 a31:=Tryz.isAgg53
 z31:=Tryz.sizeOf53
 v31:=Tryz.zeroValue53
 t46:=Tryz.underlying179
 a46:=Tryz.isAgg179
 z46:=Tryz.sizeOf179
 v46:=Tryz.zeroValue179
 t51:=Tryz.underlying203
 a51:=Tryz.isAgg203
 z51:=Tryz.sizeOf203
 v51:=Tryz.zeroValue203
 t53:=Tryz.underlying205
 a53:=Tryz.isAgg205
 z53:=Tryz.sizeOf205
 v53:=Tryz.zeroValue205
 t131:=Tryz.underlying50
 a131:=Tryz.isAgg50
 z131:=Tryz.sizeOf50
 v131:=Tryz.zeroValue50
 t182:=Tryz.underlying195
 a182:=Tryz.isAgg195
 z182:=Tryz.sizeOf195
 v182:=Tryz.zeroValue195
 t183:=Tryz.underlying196
 a183:=Tryz.isAgg196
 z183:=Tryz.sizeOf196
 v183:=Tryz.zeroValue196
 t218:=Tryz.underlying233
 a218:=Tryz.isAgg233
 z218:=Tryz.sizeOf233
 v218:=Tryz.zeroValue233
 t222:=Tryz.underlying237
 a222:=Tryz.isAgg237
 z222:=Tryz.sizeOf237
 v222:=Tryz.zeroValue237
 t228:=Tryz.underlying280
 a228:=Tryz.isAgg280
 z228:=Tryz.sizeOf280
 v228:=Tryz.zeroValue280
 t229:=Tryz.underlying281
 a229:=Tryz.isAgg281
 z229:=Tryz.sizeOf281
 v229:=Tryz.zeroValue281}
theorem YtflegjieadkonaaGreatDoor.Pn:YtflegjieadkonaaGreatDoor.dH:=
 ⟨fun aG off cap ss w hH hblk hsz=>Any.slices_Sort_string Tryz.Ad aG off cap ss w hH hblk hsz,fun p cap w=>Any.slices_Sort_string_none Tryz.Ad p cap w⟩
end Go.Proofs
namespace Go.Proofs.YtflegjieadkonaaGreatDoor
open Go Go.Al
set_option maxRecDepth 10000
theorem ic {α:Type} [Inhabited α] {f:α→List IV} (h: ∀x,fv ((f x).map .iv)=true) (l:List α):allOnes ((WL l.length).map fun k=>(f (l.getD k default)).map PV.iv)=true:=by rw[mU];exact qZ h l
theorem VX (a:Atom) (hb:a.aq.length≤100000000000):Pure Tryz.prog 48 [ag a.c] (ag a.c):=by
 refine ax ae Tryz.func48 rfl (by decide) Tryz.ntmps48 rfl (by simp) rfl ?_;refine gA rfl (gP (.inr rfl) rfl (fB.sa 3 a.aq Term.c rfl (mU _ _) (by simp[PV.bm,b5]) (.done (.of_eq (by simp only[PV.cZ,mv,WQ];rfl)))))
theorem c95: ∀(n:Nat) (e:Expr),e.size≤n→e.size≤100000000000→Pure Tryz.prog 89 [ag e.c] (ag e.c)
 |0,e,h,_=>absurd e.size_pos (by omega)
 |n+1,e,h,hb=>by
  have hse:=e.size_eq;have hls:=Expr.aL e.args;refine Al.Pure.le (aa:=[ag e.c]) (args:=[ag e.c1]) ?_ ⟨e.Ac,trivial⟩;refine ax ae Tryz.func89 rfl (by decide) Tryz.ntmps89 rfl (by simp) rfl ?_;refine gA rfl ?_;refine jk 2 6 7 rfl rfl ?_
  refine aK 0 e.args.length (WC _) (fun i=>⟨[(1, .ptr 0 0),(2, .ptr 1 0),(3, .ptr 2 0),(4,pI i)],[(0,some (aE e.c1)),(1,some (.cells [pI 0,pS Wu,pI 0,pI 0,pS Wu,pI 0, .iv (.v (.slice none 0 0))])),(2,some (.cells [.iv (iI e.kind), .iv (iS e.var), .iv (iI e.val.kind), .iv (iI e.val.num), .iv (iS e.val.sym), .iv (iI e.op), .sl 4 0 i 7])),(4,some (aD 7 (e.args.take i) Expr.c))],5⟩) (fun _=>True) [3] trivial
   (wk rfl rfl rfl ⟨.refl _,rfl, .refl _,rfl, .refl _,rfl, .refl _,rfl,trivial⟩ (hC rfl rfl rfl ⟨⟨_,rfl, .of_eq rfl⟩,Wj rfl,rfl,⟨⟨_,rfl, .of_eq rfl⟩,Wj rfl,rfl,hR rfl rfl rfl trivial⟩⟩) rfl) fun i hi _=>?_
  refine gA rfl ?_;refine Wl (fun h1=>?_) (fun h1=>?_)
  ·have h1:i<e.args.length:=by simpa using h1
   have hss:=Expr.bN e.args i h1;have hlt:(e.args.take i).length=i:=by rw[Xb];omega
   have hts:=aW (l:=e.args) h1;refine gA rfl (aX ae [] (Pure.lS (c95 n (e.args.getD i default) (by omega) (by omega))) rfl rfl rfl rfl rfl rfl rfl rfl rfl rfl rfl rfl (by(repeat' (first|exact trivial|exact rfl|exact ah.refl _|exact ah.bk (by assumption)|apply Wl))<;>first|omega|(simp only[Wp];omega)|(simp;done)|(simp;omega)) rfl (by(repeat' (first|exact trivial|exact rfl|exact ah.refl _|exact ah.bk (by assumption)|apply Wl))<;>first|omega|(simp only[Wp];omega)|(simp;done)|(simp;omega)) ?_);refine gA rfl ?_;exact⟨h1,trivial,[6],wk rfl rfl rfl ⟨.refl _,rfl, .refl _,rfl, .refl _,rfl, .refl _,rfl,trivial⟩ (hC rfl rfl rfl ⟨⟨_,rfl, .of_eq rfl⟩,Wj rfl,rfl,⟨⟨_,rfl, .of_eq rfl⟩,Wj rfl,rfl,hR rfl (by rw[hts,Wq];rfl) rfl trivial⟩⟩) rfl⟩
  ·have h1:e.args.length≤i:=by simpa using h1
   have hie:i=e.args.length:=by omega
   subst hie;rw[WB (Wz _)];refine gA rfl (gP (.inr rfl) rfl (fB.sa 4 e.args Expr.c rfl rfl (by simp[PV.bm,b5]) (.done ?_)));have:ah (ag e.c1) (ag e.c):=e.R6;simp only[PV.cZ,mv,WQ];exact this
theorem Sr (e:Expr) (hb:e.size≤100000000000):Pure Tryz.prog 89 [ag e.c] (ag e.c):=c95 e.size e (Wz _) hb
theorem VP: ∀(n:Nat) (l:List Lit) (y:IV),Lit.aC l≤n→Lit.aC l≤100000000000→ke (lits l) y→Pure Tryz.prog 49 [.iv (lits l)] (.iv y):=by
 intro n
 induction n with
 |zero=>
  intro l y h hb hy;have hl:=Lit.aL l;have h0:l.length=0:=by omega
  refine ax ae Tryz.func49 rfl (by decide) Tryz.ntmps49 rfl (by simp) rfl ?_;refine gA rfl ?_
  refine aK 0 l.length (WC _) (fun i=>⟨[(0, .iv (lits l)),(3, .iv (.v (.slice none 0 0))),(4,pI i)],[],0⟩) (fun _=>True) [] trivial
   (Cj rfl rfl ⟨.refl _,rfl, .refl _,rfl, .refl _,rfl,trivial⟩ rfl) fun i hi _=>?_
  refine gA rfl ?_;refine Wl (fun h1=>?_) (fun h1=>?_)
  ·have h1:i<l.length:=by simpa using h1
   omega
  ·refine gA rfl (aw (by first|exact .inr rfl|exact .inl rfl) rfl ?_)
   have hnil:l=[]:=XS.1 h0;subst hnil
   exact .iv (fun M x hx=>hy M x (by cases hx;exact .gp _ _ _ _))
 |succ n ih=>
  intro l y h hb hy;have hl:=Lit.aL l;refine ax ae Tryz.func49 rfl (by decide) Tryz.ntmps49 rfl (by simp) rfl ?_;refine gA rfl ?_;refine jW 3 30 rfl ?_
  refine aK 0 l.length (WC _) (fun i=>⟨[(0, .iv (lits l)),(3, .sl 1 0 i 30),(4,pI i)],[(1,some (aD 30 (l.take i) Lit.c))],2⟩) (fun _=>True) [0] trivial
   (wk rfl rfl rfl ⟨.refl _,rfl, .refl _,rfl, .refl _,rfl,trivial⟩ (hR rfl rfl rfl trivial) rfl) fun i hi _=>?_
  refine gA rfl ?_;refine Wl (fun h1=>?_) (fun h1=>?_)
  ·have h1:i<l.length:=by simpa using h1
   have hss:=Lit.bN l i h1;have hse:=(l.getD i default).size_eq;have hlt:(l.take i).length=i:=by rw[Xb];omega
   have hts:=aW (l:=l) h1;refine gA rfl (an (VX (l.getD i default).atom (by omega)) rfl rfl rfl rfl rfl rfl ?_);refine gA rfl (an (Sr (l.getD i default).left (by omega)) rfl rfl rfl rfl rfl rfl ?_);refine gA rfl (an (Sr (l.getD i default).right (by omega)) rfl rfl rfl rfl rfl rfl ?_);refine gA rfl (an (Sr (l.getD i default).jZ (by omega)) rfl rfl rfl rfl rfl rfl ?_);refine gA rfl (an (Al.Pure.le (aa:=[.iv (ti (l.getD i default).ay)]) (ih (l.getD i default).ay (ti (l.getD i default).ay) (by omega) (by omega) (yY _)) ⟨.iv (mn _),trivial⟩) rfl rfl rfl rfl rfl rfl ?_);refine gA rfl ?_;exact⟨h1,trivial,[4],wk rfl rfl rfl ⟨.refl _,rfl, .refl _,rfl, .refl _,rfl,trivial⟩ (hR rfl (by rw[hts,Wq];rfl) rfl trivial) rfl⟩
  ·have h1:l.length≤i:=by simpa using h1
   have hie:i=l.length:=by omega
   subst hie;rw[WB (Wz _)];refine gA rfl (gP (r0:= .sl 1 0 l.length 30) (.inr rfl) rfl (fB.sa 1 l Lit.c rfl rfl (by simp[PV.bm,b5]) (.done ?_)));have:ah (.iv (lits l)) (.iv y):= .iv hy;simp only[PV.cZ,mv,WQ];exact this
theorem c53 (l:List Lit) (hb:Lit.aC l≤100000000000):Pure Tryz.prog 49 [.iv (lits l)] (.iv (lits l)):=VP _ l _ (Wz _) hb (fun _ _ h=>h)
def Prog.size (p:Prog):Nat:=p.ar.length+(p.ar.map fun d=>d.types.length).sum+p.rules.length+(p.rules.map ak.size).sum
theorem oz {α:Type} [Inhabited α] (f:α→Nat): ∀(l:List α) (i:Nat),i<l.length→f (l.getD i default)≤(l.map f).sum
 |x::r,0,_=>by simp
 |x::r,i+1,h=>by
  have:=oz f r i (by simpa using h);simp only[XO,WI,XN];omega
theorem kI (i sz n:Nat): ∀l:List IV,b5 i sz n (l.map .iv)
 | []=>trivial
 |x::r=>⟨trivial,kI i sz n r⟩
theorem eI {α:Type} (i sz n sz':Nat) (l:List α) (f:α→List IV):(aD sz' l f).kX i sz n:=by
 intro k e j p he hp;rw[Ww,Wx] at he;obtain⟨x,_,rfl⟩:=he;rw[Ww,Wx] at hp;obtain⟨y,_,rfl⟩:=hp;exact⟨y,rfl⟩
theorem c14 (p:Prog) (hb:p.size≤100000000000):Pure Tryz.prog 12 [ag p.c] (ag p.c):=by
 unfold Prog.size at hb;have hrl: ∀(l:List ak),l.length≤100000000000→True:=fun _ _=>trivial;refine ax ae Tryz.func12 rfl (by decide) Tryz.ntmps12 rfl (by simp) rfl ?_;refine gA rfl ?_;refine jk 2 0 4 rfl rfl ?_;refine jk 2 1 5 rfl rfl ?_
 refine aK 0 p.ar.length (WC _) (fun i=>⟨[(1, .ptr 0 0),(2, .ptr 1 0),(3, .ptr 2 0),(4,pI i)],[(0,some (aE p.c)),(1,some (.cells [.iv (.v (.slice none 0 0)), .iv (.v (.slice none 0 0))])),(2,some (.cells [.sl 5 0 i 4, .sl 4 0 0 5])),(4,some (aD 5 ([]:List ak) ak.c)),(5,some (aD 4 (p.ar.take i) Decl.c))],6⟩) (fun _=>True) [3] trivial
  (wk rfl rfl rfl ⟨.refl _,rfl, .refl _,rfl, .refl _,rfl, .refl _,rfl,trivial⟩ (hC rfl rfl rfl ⟨⟨_,rfl, .of_eq rfl⟩,Wj rfl,rfl,⟨_,rfl, .of_eq rfl⟩,Wj rfl,rfl,hR rfl rfl rfl (hR rfl rfl rfl trivial)⟩) rfl) fun i hi _=>?_
 refine gA rfl ?_;refine Wl (fun h1=>?_) (fun h1=>?_)
 ·have h1:i<p.ar.length:=by simpa using h1
  have hlt:(p.ar.take i).length=i:=by rw[Xb];omega
  have hts:=aW (l:=p.ar) h1;have htl:=oz (fun d:Decl=>d.types.length) p.ar i h1;refine gM 26 rfl ?_
  refine bU (L:=[]) (t:=⟨[(1, .ptr 0 0),(2, .ptr 1 0),(3, .ptr 2 0),(4,pI i),(5, .ptr 6 0),(6, .sl 8 0 (p.ar.getD i default).types.length 1)],[(0,some (aE p.c)),(1,some (.cells [.iv (.v (.slice none 0 0)), .iv (.v (.slice none 0 0))])),(2,some (.cells [.sl 5 0 i 4, .sl 4 0 0 5])),(4,some (aD 5 ([]:List ak) ak.c)),(5,some (aD 4 (p.ar.take i) Decl.c)),(6,some (aE (p.ar.getD i default).c)),(8,some (aD 1 (p.ar.getD i default).types fH))],9⟩)
   (wk rfl rfl rfl ⟨.refl _,rfl, .refl _,rfl, .refl _,rfl, .refl _,rfl, .refl _,rfl, .row (by rw[WQ];rfl),rfl,trivial⟩ (hC rfl rfl rfl ⟨⟨_,rfl, .of_eq rfl⟩,Wj rfl,rfl,⟨⟨_,rfl, .of_eq rfl⟩,Wj rfl,rfl,hR rfl rfl rfl (hR rfl rfl rfl (hC rfl rfl rfl (hR rfl (mU _ _) rfl trivial)))⟩⟩) rfl) ?_
  refine mZ 8 (fun k=>fH ((p.ar.getD i default).types.getD k default)) rfl (ch rfl) (by simp[AF.kX,PV.bm]) ⟨kI _ _ _ _,(by simp[AO.kX,b5,PV.bm]),(by simp[AO.kX,b5,PV.bm]),eI _ _ _ _ _ _,eI _ _ _ _ _ _,kI _ _ _ _,eI _ _ _ _ _ _,trivial⟩ ?_;refine gA rfl ?_;exact⟨h1,trivial,[10],wk rfl rfl rfl ⟨.refl _,rfl, .refl _,rfl, .refl _,rfl, .refl _,rfl,trivial⟩ (hC rfl rfl rfl ⟨⟨_,rfl, .of_eq rfl⟩,Wj rfl,rfl,⟨⟨_,rfl, .of_eq rfl⟩,Wj rfl,rfl,hR rfl rfl rfl (hR rfl (by rw[hts,Wq];simp only[WQ];rfl) rfl trivial)⟩⟩) rfl⟩
 ·have h1:p.ar.length≤i:=by simpa using h1
  have hie:i=p.ar.length:=by omega
  subst hie;rw[WB (Wz _)];refine gA rfl ?_
  refine aK 0 p.rules.length (WC _) (fun i=>⟨[(1, .ptr 0 0),(2, .ptr 1 0),(3, .ptr 2 0),(7,pI i)],[(0,some (aE p.c)),(1,some (.cells [.iv (.v (.slice none 0 0)), .iv (.v (.slice none 0 0))])),(2,some (.cells [.sl 5 0 p.ar.length 4, .sl 6 0 i 5])),(5,some (aD 4 p.ar Decl.c)),(6,some (aD 5 (p.rules.take i) ak.c))],7⟩) (fun _=>True) [4] trivial
   (wk rfl rfl rfl ⟨.refl _,rfl, .refl _,rfl, .refl _,rfl, .refl _,rfl,trivial⟩ (hC rfl rfl rfl ⟨⟨_,rfl, .of_eq rfl⟩,Wj rfl,rfl,⟨⟨_,rfl, .of_eq rfl⟩,Wj rfl,rfl,hR rfl rfl rfl (hR rfl rfl rfl trivial)⟩⟩) rfl) fun i hi _=>?_
  refine gA rfl ?_;refine Wl (fun h2=>?_) (fun h2=>?_)
  ·have h2:i<p.rules.length:=by simpa using h2
   have hlt:(p.rules.take i).length=i:=by rw[Xb];omega
   have hts:=aW (l:=p.rules) h2;have htl:=oz ak.size p.rules i h2;have hrs:(p.rules.getD i default).size=(p.rules.getD i default).head.aq.length+Lit.aC (p.rules.getD i default).body:=rfl;refine gA rfl (aX ae [] (Pure.lS (VX (p.rules.getD i default).head (by omega))) rfl rfl rfl rfl rfl rfl rfl rfl rfl rfl rfl rfl (by(repeat' (first|exact trivial|exact rfl|exact ah.refl _|exact ah.bk (by assumption)|apply Wl))<;>first|omega|(simp only[Wp];omega)|(simp;done)|(simp;omega)) rfl (by(repeat' (first|exact trivial|exact rfl|exact ah.refl _|exact ah.bk (by assumption)|apply Wl))<;>first|omega|(simp only[Wp];omega)|(simp;done)|(simp;omega)) ?_);refine gA rfl (aX ae [] (Pure.lS (c53 (p.rules.getD i default).body (by omega))) rfl rfl rfl rfl rfl rfl rfl rfl rfl rfl rfl rfl (by(repeat' (first|exact trivial|exact rfl|exact ah.refl _|exact ah.bk (by assumption)|apply Wl))<;>first|omega|(simp only[Wp];omega)|(simp;done)|(simp;omega)) rfl (by(repeat' (first|exact trivial|exact rfl|exact ah.refl _|exact ah.bk (by assumption)|apply Wl))<;>first|omega|(simp only[Wp];omega)|(simp;done)|(simp;omega)) ?_);refine gA rfl ?_;exact⟨h2,trivial,[8],wk rfl rfl rfl ⟨.refl _,rfl, .refl _,rfl, .refl _,rfl, .refl _,rfl,trivial⟩ (hC rfl rfl rfl ⟨⟨_,rfl, .of_eq rfl⟩,Wj rfl,rfl,⟨⟨_,rfl, .of_eq rfl⟩,Wj rfl,rfl,hR rfl rfl rfl (hR rfl (by rw[hts,Wq];rfl) rfl trivial)⟩⟩) rfl⟩
  ·have h2:p.rules.length≤i:=by simpa using h2
   have hie:i=p.rules.length:=by omega
   subst hie;rw[WB (Wz _)];refine gA rfl (gP (r0:= .agg [.sl 5 0 p.ar.length 4, .sl 6 0 p.rules.length 5]) (.inr rfl) rfl (fB.sa 5 p.ar Decl.c rfl rfl (by simp[PV.bm,b5]) (fB.sa 6 p.rules ak.c rfl rfl (by simp[PV.bm,b5,PV.cZ,mv,show WO 6 5=false from rfl]) (.done (.of_eq (by simp only[PV.cZ,mv,WQ,show WO 6 5=false from rfl,show WO 5 5=true from rfl,show WO 6 6=true from rfl,cond_true,cond_false];rfl))))))
theorem VS (r:ak) (hb:r.size≤10000000):Pure Tryz.prog 98 [ag r.c] (.iv (strs (j5 r))):=told_plain r▸c33 Pn r hb
end Go.Proofs.YtflegjieadkonaaGreatDoor
namespace Go.Proofs.YtflegjieadkonaaGreatDoor
open Go
set_option maxHeartbeats 2000000
set_option maxRecDepth 100000
theorem Aj: ∃j,Tryz.prog.info? 245=some j∧j.size=2:=by
 have h:(Tryz.prog.info? 245).map (fun i=>i.size)=some 2:=by kernel_rfl
 rw[Wx] at h;exact h
theorem J9:liesAt Tryz.prog Tryz.prog.depth 247 (4/Tryz.prog.cellsOf 247) 0 245 1=true:=by kernel_rfl
theorem Kz (b:Nat) (w:World) (h0:w.cell? ⟨b,0,none⟩=some (.pointer (some ⟨b,0,none⟩))):
  Calls Tryz.prog 260 #[.pointer (some ⟨b,0,none⟩)] w fun e w'=>e= .returned (.tuple #[])∧w'=w:=by
 obtain⟨j,hj,_⟩:=Aj
 go_enter Tryz.func260,Tryz.ntmps260
 go_wp2
 rw[Lib.run_neq_ptr_same w _ Tryz.underlying242 hj]
 go_wp2
 go_end0
 exact⟨rfl,rfl⟩
theorem Ey (b:Nat) (w:World) (h0:w.cell? ⟨b,0,none⟩=some (.pointer none)) (hsh:w.shape? b=some (247,4)) (hfz:w.frozen? ⟨b,0,none⟩=false):
  Calls Tryz.prog 260 #[.pointer (some ⟨b,0,none⟩)] w fun e w'=>e= .returned (.tuple #[])∧w'=w.setCell ⟨b,0,none⟩ (.pointer (some ⟨b,0,none⟩)):=by
 obtain⟨j,hj,hjs⟩:=Aj
 go_enter Tryz.func260,Tryz.ntmps260
 go_wp2
 rw[Lib.run_to_unsafe w ⟨b,0,none⟩ Tryz.underlying242 Tryz.underlying327 hj (by rw[hjs];decide) hsh (by show 0<4;decide)];simp only[Result.andThen];rw[Oper.upon_value]
 go_wp2
 rw[run_callFunc_extern Tryz.func272 (by kernel_rfl) (by kernel_rfl) (by kernel_rfl) (e:=Extern.AbiNoEscape.same) (by kernel_rfl)];rw[Lib.run_noEscape];simp only[Result.andThen];rw[Oper.upon_value]
 go_wp2
 rw[Lib.run_from_unsafe w ⟨b,0,none⟩ Tryz.underlying327 Tryz.underlying242 hj hsh J9];simp only[Result.andThen];rw[Oper.upon_value]
 go_wp2
 go_end0
 exact⟨rfl,rfl⟩
theorem Sq:Tryz.prog.cellsOf 5=1:=by kernel_rfl
theorem KD (b g cap:Nat) (p x y:Value) (cur:Array Value) (l:List UInt8) (w:World) (hbk:w.heap[b]? =some (.cells #[p, .slice (some ⟨g,0,none⟩) l.length cap,x,y] 247 (0,0))) (hg:w.heap[g]? =some (.cells cur 5 (0,0)))
  (hl:l.length≤cur.size) (hcap:l.length≤cap) (hc2:cap≤maxLen) (hcur: ∀(j:Nat) (x:UInt8),l[j]? =some x→cur.getD j undef= .int .u8 (x.toNat:Int)) (h0:l≠ []):
  Calls Tryz.prog 220 #[.pointer (some ⟨b,0,none⟩)] w fun e w'=>e= .returned (.string ⟨l.toArray⟩)∧w'=w.drew.freeze ⟨g,0,none⟩ l.length:=by
 have hl0:l.length≠0:=by simpa using h0
 have c1:w.drew.cell? ⟨b,1,none⟩=some (.slice (some ⟨g,0,none⟩) l.length cap):=by
  have:w.drew.heap[b]? =some (.cells #[p, .slice (some ⟨g,0,none⟩) l.length cap,x,y] 247 (0,0)):=hbk;rw[Lib.cell_of_heap this];rfl
 have hSD:(Builtin.unsafeSliceData_ #[243] 306 #[.slice (some ⟨g,0,none⟩) l.length cap]).run Tryz.prog w.drew= .ok (.pointer (some ⟨g,0,none⟩)) w.drew:=
  Lib.run_unsafeSliceData_row _ _ _ _ _ _ (by omega)
 have hUS:(Builtin.unsafeString_ #[306,3] 9 #[.pointer (some ⟨g,0,none⟩), .int .i64 l.length]).run Tryz.prog w.drew= .ok (.string ⟨l.toArray⟩) (w.drew.freeze ⟨g,0,none⟩ l.length):=by
  refine Lib.run_unsafeString_row w.drew 306 3 9 5 Tryz.underlying306 Sq g cur.size (by have hg':w.drew.heap[g]? =some (.cells cur 5 (0,0)):=hg;simp[World.shape?,hg']) l h0 (by omega) (by unfold maxLen at hc2;omega) ?_;intro j x hx;have hlt:j<cur.size:=by have:=(Wr.1 hx).1;omega
  have:=hcur j x hx;rw[Wm,Xa hlt] at this;show w.drew.cell? _=_;have hg':w.drew.heap[g]? =some (.cells cur 5 (0,0)):=hg;rw[Al.dZ,WQ];simp only[World.cell?,hg'];simpa[hlt] using this
 have mixed:Tryz.prog.follows .mixedOrders=true:=rfl
 go_enter Tryz.func220,Tryz.ntmps220
 go_wp2
 go_region_o
 all_goals(go_wp2;go_ret;exact⟨rfl,rfl⟩)
theorem Ss (b:Nat) (p x y:Value) (w:World) (hbk:w.heap[b]? =some (.cells #[p, .slice none 0 0,x,y] 247 (0,0))):
  Calls Tryz.prog 220 #[.pointer (some ⟨b,0,none⟩)] w fun e w'=>e= .returned (.string ⟨#[]⟩)∧w'=w.drew:=by
 have hUS:(W:World)→(Builtin.unsafeString_ #[306,3] 9 #[.pointer none, .int .i64 0]).run Tryz.prog W= .ok (.string .empty) W:=fun W=>Lib.run_unsafeString_none W _ _ _ none
 have c1:w.drew.cell? ⟨b,1,none⟩=some (.slice none 0 0):=by
  have:w.drew.heap[b]? =some (.cells #[p, .slice none 0 0,x,y] 247 (0,0)):=hbk;rw[Lib.cell_of_heap this];rfl
 have hSD:(Builtin.unsafeSliceData_ #[243] 306 #[.slice none 0 0]).run Tryz.prog w.drew= .ok (.pointer none) w.drew:=rfl;have mixed:Tryz.prog.follows .mixedOrders=true:=rfl
 go_enter Tryz.func220,Tryz.ntmps220
 go_wp2
 go_region_o
 all_goals(go_wp2;go_ret;exact⟨rfl,rfl⟩)
end Go.Proofs.YtflegjieadkonaaGreatDoor
namespace Go.Al
section
variable {P:Program} {ty:Ty} {nt:Nat} {s:AS} {Q:AQ} {k:List KI}
def te (c:UInt8):List IV:=[.v (.int .u8 (c.toNat:Int))]
theorem pJ (w:World) (t u ty' e:TypeId) (i:TypeInfo) (ht:P.underlying t=some (.slice e)) (hu:P.underlying u=some .string) (hi:P.info? e=some i) (hs1:i.size=1) (T:TypeId)
  (g sLen sCap:Nat) (cur:Array Value) (hg:w.heap[g]? =some (.cells cur T (0,0))) (b:ByteArray)
  (hroom:sLen+b.size≤sCap) (hfit:sLen+b.size≤cur.size):
  (Builtin.append_ #[t,u] ty' #[.slice (some ⟨g,0,none⟩) sLen sCap, .string b]).run P w=
   .ok (.slice (some ⟨g,0,none⟩) (sLen+b.size) sCap) (w.setRow g (cur.toList.take sLen++Lib.strCells b++cur.toList.drop (sLen+b.size)).toArray):=by
 have hf:=Lib.run_firstCells_string (P:=P) w 1 b;have hst:=run_storeCells_at P g sLen T (Lib.strCells b) 0 cur w hg (by simpa[Lib.strCells_length] using hfit) (Lib.strCells_oneCell b);simp only[Yv,Lib.strCells_length] at hst;simp[Builtin.append_,run_underlying ht,run_underlying hu,sizeOf,typeInfo,hi,hs1,Builtin.lenOf,hroom,hf,Addr.add_lit,hst]
theorem ko (w:World) (t u ty' e:TypeId) (i:TypeInfo) (ht:P.underlying t=some (.slice e)) (hu:P.underlying u=some .string) (hi:P.info? e=some i) (so:Option Addr) (sLen sCap:Nat) (hle:sLen≤sCap) (b:ByteArray) (hb:b.size=0) (hs:so=none∨ ∃b o,so=some ⟨b,o,none⟩):
  (Builtin.append_ #[t,u] ty' #[.slice so sLen sCap, .string b]).run P w= .ok (.slice so sLen sCap) w:=by
 have hf:=Lib.run_firstCells_string (P:=P) w i.size b;have hn:Lib.strCells b=[]:=Yc (by rw[Lib.strCells_length];exact hb);rw[hb,hn] at hf;rcases hs with rfl|⟨g,o,rfl⟩
 ·simp[Builtin.append_,run_underlying ht,run_underlying hu,sizeOf,typeInfo,hi,Builtin.lenOf,hb,hle,hf]
 ·simp[Builtin.append_,run_underlying ht,run_underlying hu,sizeOf,typeInfo,hi,Builtin.lenOf,hb,hle,hf,storeCells]
def q9 (s:AS) (i:Nat) (l:List UInt8) (u:TypeId):AS:=⟨s.f,(s.nx,some (.bx l u))::(i,none)::s.h,s.nx+1⟩
theorem oE {i:Nat} {l:List UInt8} {u:TypeId} {M M':Mem} {N N':Nm} {a:Act} {w w':World} (hf:Fits M N s nt a w) (hx:Ext M N (· <s.nx) s.h w M' N' (· <s.nx+1) ((s.nx,some (.bx l u))::(i,none)::s.h) w')
  (hr:Rel M' N' (· <s.nx+1) ((s.nx,some (.bx l u))::(i,none)::s.h) w'):
  Ext M N (· <s.nx) s.h w M' N' (· <(q9 s i l u).nx) (q9 s i l u).h w'∧Fits M' N' (q9 s i l u) nt a w':=
 ⟨hx,hr,hf.2.1.ext hx,hf.2.2⟩
theorem Rel.KW {M:Mem} {N:Nm} {w:World} {n:Nat} {h:AH} (hr:Rel M N (· <n) h w) (T:TypeId):Ext M N (· <n) h w M N (· <n+1) ((n,some (.bx [] T))::h) w∧Rel M N (· <n+1) ((n,some (.bx [] T))::h) w:=by
 have hget: ∀i p,AH.get ((n,some (.bx [] T))::h) i=some p→(i=n∧p= .bx [] T)∨(i<n∧h.get i=some p):=by
  intro i p hi;rw[AH.aA] at hi;split at hi
  ·rename_i hin;exact .inl ⟨hin,by simpa using hi.symm⟩
  ·exact .inr ⟨hr.used i p hi,hi⟩
 refine⟨⟨rfl,rfl,rfl,Wz _,fun _ _ _=>rfl, .refl _,fun b c h1 h2=>by simp[h1] at h2, .refl _ _,fun i hi=>by omega,fun i p hi hre=>?_⟩,⟨hr.cZ,fun i p hi=>?_,fun i p hi hre=>?_,fun i p hi=>?_,fun i j p q hi hj hp hq hij=>?_⟩⟩
 ·rcases hget i p hi with⟨rfl,rfl⟩|⟨h1,h2⟩
  ·cases hre
  ·exact .inr ⟨i,p,h2,hre,rfl⟩
 ·rcases hget i p hi with⟨rfl,rfl⟩|⟨h1,h2⟩<;>omega
 ·rcases hget i p hi with⟨rfl,rfl⟩|⟨h1,h2⟩
  ·cases hre
  ·exact hr.dA i p h2 hre
 ·rcases hget i p hi with⟨rfl,rfl⟩|⟨h1,h2⟩
  ·exact .inl rfl
  ·exact(hr.obj i p h2).mono (.refl _) (.refl _ _) (fun i hi=>by omega) h1 rfl
 ·rcases hget i p hi with⟨rfl,rfl⟩|⟨h1,h2⟩<;>rcases hget j q hj with⟨rfl,rfl⟩|⟨h3,h4⟩
  ·rfl
  ·cases hp
  ·cases hq
  ·exact hr.inj i j p q h2 h4 hp hq hij
theorem Jt (hty:bE P ty) {o:Oper} {x y:Operand} {t tu u:TypeId} (ho:o.op= .call ⟨.builtin .append, #[x,y], #[t,tu]⟩) {e et eu:aB} (ht:ty t=some e) (hk:e.k= .ai (.slice u)) (htu:ty tu=some et) (hkt:et.k= .ai .string) (hu:ty u=some eu)
  {i len:Nat} {l:List UInt8} {b:ByteArray} (hx:ev s.f x= .sl i 0 len 1) (hi:s.h.get i=some (.bx l u)) (hlen:l.length=len) (hsz:eu.size=1) (hby:eu.bytes=1) (hz:eu.zero= .int .u8 0)
  (hpy:ev s.f y= .iv (.v (.string b))) (hb2:len+b.size≤140737488355328)
  {s':AS} (hp:putDst nt o (.sl s.nx 0 (len+b.size) 1) (q9 s i (l++b.data.toList) u)=some s'):OT P nt o s (fun t=>t=s'):=by
 refine OT.value hp fun M N a w hf=>?_;obtain⟨⟨ii,hii,his,hib,hiz⟩,_⟩:=hty u _ hu;rw[hsz] at his;rw[hby] at hib;rw[hz] at hiz
 have hut:P.underlying t=some (.slice u):=by
  have:=(hty t _ ht).2.1;rw[hk] at this;exact this.1
 have hus:P.underlying tu=some .string:=by
  have:=(hty tu _ htu).2.1;rw[hkt] at this;exact this.1
 have hvx:=aS hf.2.1 x;rw[hx] at hvx;have hvy:=aS hf.2.1 y;rw[hpy] at hvy
 have hyv:a.eval y= .string b:=by
  generalize a.eval y=v at hvy
  cases hvy with
  |iv _ _ h=>cases h;rfl
 have hexec: ∀v w',(Builtin.append_ #[t,tu] o.type #[a.eval x,a.eval y]).run P w= .ok v w'→(execOp a.eval o).run P w= .ok (.value v) w':=by
  intro v w' h;simp only[execOp,ho,resolve];simp[invoke,builtin,h]
 rw[hyv] at hexec;have hin:i<s.nx:=hf.1.used i _ hi;have hne:s.nx≠i:=by omega
 have hor:=hf.1.obj i _ hi;have hbl:b.data.toList.length=b.size:=by simp
 have hcells: ∀(j:Nat) (x:UInt8),b.data.toList[j]? =some x→(Lib.strCells b).getD j undef= .int .u8 (x.toNat:Int):=by
  intro j x hx;simp only[Lib.strCells,Ws,Ww,hx,Xy,XM]
 have holds: ∀z:Array Value,(∀(j:Nat) (x:UInt8),l[j]? =some x→z.getD j undef= .int .u8 (x.toNat:Int))→(∀j,j<b.size→z.getD (len+j) undef=(Lib.strCells b).getD j undef)→
   ∀(j:Nat) (x:UInt8),(l++b.data.toList)[j]? =some x→z.getD j undef= .int .u8 (x.toNat:Int):=by
  intro z h1 h2 j x hj;rcases W9 j l.length with hk|hk
  ·rw[WH hk] at hj;exact h1 j x hj
  ·rw[WJ hk] at hj
   have hlt:j-l.length<b.size:=by rw[←hbl];exact(Wr.1 hj).1
   have:=h2 _ hlt;rw[hcells _ _ hj,show len+(j-l.length)=j by omega] at this;exact this
 have fresh: ∀(olds:List Value) (cap:Nat),olds.length=len→(∀(j:Nat) (x:UInt8),l[j]? =some x→olds.getD j undef= .int .u8 (x.toNat:Int))→len+b.size≤cap→cap≤maxLen→0<len+b.size→
   ∀z:Array Value,z=olds.toArray++(Lib.strCells b).toArray++Builtin.zeroCells (Value.int .u8 0).cells (cap-(len+b.size))→
   ∃M' N',Ext M N (· <s.nx) s.h w M' N' (· <(q9 s i (l++b.data.toList) u).nx) (q9 s i (l++b.data.toList) u).h (w.drew.alloc (.cells z u))∧Fits M' N' (q9 s i (l++b.data.toList) u) nt a (w.drew.alloc (.cells z u))∧
    VR M' N' (· <(q9 s i (l++b.data.toList) u).nx) (.sl s.nx 0 (len+b.size) 1) (.slice (some ⟨w.heap.size,0,none⟩) (len+b.size) cap):=by
  intro olds cap hol hvo hcap hcm hpos z hzz;have hz1:(Value.int IntKind.u8 0).cells.size=1:=rfl
  have hzsize:z.size=cap:=by
   rw[hzz,YU,YU,size_zeroCells,hz1];simp only[List.size_toArray,hol,Lib.strCells_length];omega
  obtain⟨N',h1,h2,h3,h4,h5⟩:=hf.1.drew.alloc (.cells z u) (.bx (l++b.data.toList) u) z.size (fun N' g1 g2 g3=>by
   refine .inr ⟨z,by rw[g1];exact heap_alloc_new _ _,g2.symm,by rw[hzsize,Wn,hlen,hbl];omega,holds z (fun j x hj=>?_) (fun j hj=>?_)⟩
   ·have hj1:=(Wr.1 hj).1
    have e1:z.getD j undef=olds.getD j undef:=by
     rw[hzz,Wm,Array.append_assoc,Xq (by simp;omega),Ws];simp
    rw[e1];exact hvo j x hj
   ·rw[hzz,Wm,Xq (by simp[Lib.strCells_length];omega),Array.getElem?_append_right (by simp;omega),Ws]
    simp[hol])
  have hr2:=(h5.del i).swap (Ne.symm hne);have hx2:=(((Ext.drew (M:=M) (N:=N) (U:=(· <s.nx)) (h:=s.h) (w:=w)).trans h4).del i).swap (Ne.symm hne);obtain⟨g1,g2⟩:=oE hf hx2 hr2;refine⟨M,N',g1,g2,?_⟩;have:=VR.sl (M:=M) (N:=N') (U:=(· <s.nx+1)) s.nx 0 (len+b.size) 1 cap (by omega) hpos hcap hcm (by rw[h2,hzsize];simp);rw[h1,X0] at this;exact this
 generalize a.eval x=vx at hvx hexec
 cases hvx with
 |lQ _ _ hU=>
  have he:l=[]:=Yc hlen;subst he;by_cases hm:b.size=0
  ·have hbn:b.data.toList=[]:=Yc (by rw[hbl];exact hm)
   have hrun:=ko (P:=P) w t tu o.type u ii hut hus hii none 0 0 (Wz _) b hm (.inl rfl);obtain⟨h1,h2⟩:=hf.1.KW u;obtain⟨g1,g2⟩:=oE (i:=i) (l:=[]) (u:=u) hf ((h1.del i).swap (Ne.symm hne)) ((h2.del i).swap (Ne.symm hne));rw[hbn,hm];exact⟨_,w,M,N,hexec _ _ hrun,g1,g2, .lQ _ _ (by simp only[q9];omega)⟩
  ·have hrun:=run_append_nil_string (P:=P) w t tu o.type u ii (.int .u8 0) hut hus hii hiz b (by omega) (by omega) (by rw[hib];omega)
   have e1:(b.data.map fun b=>Value.int .u8 b.toNat)=(Lib.strCells b).toArray:=by
    apply Array.ext';simp[Lib.strCells]
   rw[e1] at hrun;obtain⟨M',N',g1,g2,g3⟩:=fresh [] (grownCap w b.size 0 u) rfl (by simp) (by simpa using grownCap_ge w b.size 0 u) (grownCap_le_maxLen w _ _ _ (by simp only[maxLen];omega)) (by omega) _ rfl;simp only[WQ,Yg,Array.empty_append] at*
   exact⟨_,_,M',N',hexec _ _ hrun,by simpa using g1,by simpa using g2,by simpa using g3⟩
 |sl _ _ _ _ cap hU h0 hl hc hext=>
  rcases hor with rfl|⟨cur,q1,q2,q3,q4⟩
  ·simp at hlen;omega
  have hreal:(AO.bx l u).real=true:=by cases l with
   |nil=>simp at hlen;omega
   |cons=>rfl
  rw[X0] at hexec;have hcur:cur.size=cap:=by rw[q2,←hext];omega
  by_cases hm:b.size=0
  ·have hbn:b.data.toList=[]:=Yc (by rw[hbl];exact hm)
   have hrun:=ko (P:=P) w t tu o.type u ii hut hus hii (some ⟨N.aG i,0,none⟩) len cap hl b hm (.inr ⟨_,_,rfl⟩)
   obtain⟨h1,h2⟩:=hf.1.move hi hreal w (.bx (l++ []) u) rfl rfl rfl rfl (fun _ _=>rfl) (by
    rw[Xo]
    exact .inr ⟨cur,by simpa using q1,by simpa using q2,q3,q4⟩)
   obtain⟨g1,g2⟩:=oE (i:=i) hf h1 h2;rw[hbn,hm];refine⟨_,w,M,_,hexec _ _ hrun,g1,g2,?_⟩;have:=VR.sl (M:=M) (N:=N.with s.nx (N.aG i) (N.ext i)) (U:=(· <s.nx+1)) s.nx 0 len 1 cap (by omega) h0 hl hc (by simpa using hext);simpa[q9] using this
  ·by_cases hroom:len+b.size≤cap
   ·have hrun:=pJ (P:=P) w t tu o.type u ii hut hus hii his u (N.aG i) len cap cur q1 b hroom (by omega)
    generalize hL:(cur.toList.take len++Lib.strCells b++cur.toList.drop (len+b.size)).toArray=L at hrun;have hLs:L.size=cur.size:=by rw[←hL];simp[Lib.strCells_length];omega
    have hrow:=setRow_heap w (N.aG i) cur L u (0,0) q1
    have hLo: ∀j,j<len→L.getD j undef=cur.getD j undef:=by
     intro j hj;rw[←hL,Wm,Wm];simp only[Xv];rw[Wv,WH (by simp;omega),W7,if_pos hj,Xh]
    have hLn: ∀j,j<b.size→L.getD (len+j) undef=(Lib.strCells b).getD j undef:=by
     intro j hj;rw[←hL,Wm,Ws];simp only[Xv];rw[WH (by simp[Lib.strCells_length];omega),WJ (by simp;omega)];congr 2;simp;omega
    obtain⟨h1,h2⟩:=hf.1.move hi hreal (w.setRow (N.aG i) L) (.bx (l++b.data.toList) u) rfl rfl rfl (by simp) (fun b hb=>by
      simp only[World.setRow,W8]
      rw[if_neg (fun e=>hb e.symm)]) (by
     refine .inr ⟨L,by simpa using hrow,by rw[hLs];simpa using q2,by rw[hLs,hcur,Wn,hlen,hbl];omega,holds L (fun j x hj=>?_) hLn⟩;rw[hLo j (by rw[←hlen];exact(Wr.1 hj).1)]
     exact q4 j x hj)
    obtain⟨g1,g2⟩:=oE (i:=i) hf h1 h2;refine⟨_,_,M,_,hexec _ _ hrun,g1,g2,?_⟩;have:=VR.sl (M:=M) (N:=N.with s.nx (N.aG i) (N.ext i)) (U:=(· <s.nx+1)) s.nx 0 (len+b.size) 1 cap (by omega) (by omega) hroom hc (by simpa using hext);simpa[q9] using this
   ·have hold2: ∀(j:Nat) (v:Value),(cur.toList.take len)[j]? =some v→w.cell? ((⟨N.aG i,0,none⟩:Addr).add j)=some v:=by
     intro j v hv;rw[W7] at hv;split at hv
     ·rw[dZ,WQ];simp only[World.cell?,q1];simpa using hv
     ·cases hv
    have hrun:=Lib.run_append_grow_string (P:=P) w t tu o.type u ii (.int .u8 0) hut hus hii hiz ⟨N.aG i,0,none⟩ len cap (cur.toList.take len) (by rw[his];simp;omega) hold2 b (by omega) (by omega)
     (by rw[hib];exact growslice_fits (by omega) (by omega))
    obtain⟨M',N',g1,g2,g3⟩:=fresh (cur.toList.take len) (grownCap w (len+b.size) cap u) (by simp;omega) (fun j x hj=>by
      have:=q4 j x hj;have hlt:j<len:=by rw[←hlen];exact(Wr.1 hj).1
      rw[Ws,W7,if_pos hlt,Xh]
      rw[Wm] at this;exact this) (grownCap_ge w _ _ _) (grownCap_le_maxLen w _ _ _ (by simp only[maxLen];omega)) (by omega) _ rfl
    exact⟨_,_,M',N',hexec _ _ hrun,g1,g2,g3⟩
theorem Kd (hty:bE P ty) {all rest:List Oper} {o:Oper} {x y:Operand} {t tu u d:Nat} {e et eu:aB} {i len:Nat} {l:List UInt8} {b:ByteArray} (ho:o.op= .call ⟨.builtin .append, #[x,y], #[t,tu]⟩) (hg:o.guard=none) (ht:ty t=some e) (hk:e.k= .ai (.slice u)) (htu:ty tu=some et) (hkt:et.k= .ai .string) (hu:ty u=some eu)
  (hx:ev s.f x= .sl i 0 len 1) (hi:s.h.get i=some (.bx l u)) (hsz:eu.size=1) (hby:eu.bytes=1) (hz:eu.zero= .int .u8 0)
  (hpy:ev s.f y= .iv (.v (.string b))) (hd:o.dst=some d) (hlt:WU d nt=true) (hlen:l.length=len) (hb2:len+b.size≤140737488355328)
  (h:GO P nt (.ops all rest::k) Q ⟨(d, .sl s.nx 0 (l++b.data.toList).length 1)::s.f,(s.nx,some (.bx (l++b.data.toList) u))::(i,none)::s.h,s.nx+1⟩):GO P nt (.ops all (o::rest)::k) Q s:=by
 have e:(l++b.data.toList).length=len+b.size:=by rw[Wn,hlen];simp
 rw[e] at h
 exact dE hg (Jt hty ho ht hk htu hkt hu hx hi hlen hsz hby hz hpy hb2 (s':=⟨(d, .sl s.nx 0 (len+b.size) 1)::s.f,(s.nx,some (.bx (l++b.data.toList) u))::(i,none)::s.h,s.nx+1⟩) (by
  simp only[putDst,q9,hd,hlt,cond_true,c8])) fun t ht=>by subst ht;exact h
theorem CN {o:Oper} {it:Operand} (ho:o.op= .next it true) {i:Nat} (hit:ev s.f it= .ptr i 0) {b:ByteArray} {pos:Nat} (hi:s.h.get i=some (.dt b pos)) {d:Nat} (hd:o.dst=some d) (hlt:WU d nt=true):
  OT P nt o s (fun t=>(b.size≤pos∧t=⟨(d, .bP [.kb false])::s.f,s.h,s.nx⟩)∨
   (pos<b.size∧t=⟨(d, .bP [.kb true, .iv (.v (.int .i64 (pos:Nat))), .iv (.v (.int .i32 (Utf8.decode b pos).1))])::s.f,(i,some (.dt b (pos+(Utf8.decode b pos).2)))::s.h,s.nx⟩)):=by
 intro M N a w hf K Z hk;have hx:=aS hf.2.1 it;rw[hit] at hx;have hio:w.heap[N.aG i]? =some (.stringIter b pos):=hf.1.obj i _ hi;have hblk:N.aG i<w.heap.size:=(Xz.1 hio).1;have hdn:d<nt:=Wj hlt
 have hev:a.eval it= .pointer (some ⟨N.aG i,0,none⟩):=by
  generalize a.eval it=y at hx;cases hx;rfl
 unfold Oper.wp;by_cases hp:pos<b.size
 ·have hrun:(execOp a.eval o).run P w= .ok (.value (.tuple #[.bool true, .int .i64 (pos:Nat), .int .i32 (Utf8.decode b pos).1])) {w with heap:=w.heap.setIfInBounds (N.aG i) (.stringIter b (pos+(Utf8.decode b pos).2))}:=by
   simp only[execOp,ho,hev];simp[Instr.next,getObj,setObj,Sem.run,hio,hp,Result.andThen,goInt]
  rw[hrun];simp only[Oper.upon]
  obtain⟨q1,q2⟩:=hf.1.write hi rfl {w with heap:=w.heap.setIfInBounds (N.aG i) (.stringIter b (pos+(Utf8.decode b pos).2))} (.dt b (pos+(Utf8.decode b pos).2)) rfl rfl rfl (by simp) (fun c hc=>by
   show(w.heap.setIfInBounds _ _)[c]? =_
   rw[W1,if_neg (fun e=>hc e.symm)]) (by
   show(w.heap.setIfInBounds _ _)[_]? =_
   rw[W1,if_pos rfl,if_pos hblk])
  refine hk M N _ _ _ q1 ?_ (.inr ⟨hp,rfl⟩);rw[hd];refine Fits.put (s:=⟨s.f,(i,some (.dt b (pos+(Utf8.decode b pos).2)))::s.h,s.nx⟩) ⟨q2,hf.2⟩ d _ _ hdn (.bP _ _ rfl fun q p hp=>?_)
  match q with
  |0=>simp at hp;subst hp;exact .kb _
  |1=>simp at hp;subst hp;exact .iv _ _ (.v _)
  |2=>simp at hp;subst hp;exact .iv _ _ (.v _)
  |q+3=>simp at hp
 ·have hrun:(execOp a.eval o).run P w= .ok (.value (.tuple #[.bool false])) w:=by
   simp only[execOp,ho,hev];simp[Instr.next,getObj,Sem.run,hio,hp,Result.andThen]
  rw[hrun];simp only[Oper.upon];refine hk M N ⟨(d, .bP [.kb false])::s.f,s.h,s.nx⟩ _ w (.refl _ _ _ _ _) ?_ (.inl ⟨by omega,rfl⟩);rw[hd]
  exact hf.put d _ _ hdn (.bP _ _ rfl fun j p hp=>by
    match j with
    |0=>simp at hp;subst hp;exact .kb _
    |j+1=>simp at hp)
theorem kK {all rest:List Oper} {o:Oper} {it:Operand} {i:Nat} {b:ByteArray} {pos d:Nat} (ho:o.op= .next it true) (hg:o.guard=none) (hit:ev s.f it= .ptr i 0) (hi:s.h.get i=some (.dt b pos)) (hd:o.dst=some d) (hlt:WU d nt=true)
  (h1:b.size≤pos→GO P nt (.ops all rest::k) Q ⟨(d, .bP [.kb false])::s.f,s.h,s.nx⟩)
  (h2:pos<b.size→GO P nt (.ops all rest::k) Q ⟨(d, .bP [.kb true, .iv (.v (.int .i64 (pos:Nat))), .iv (.v (.int .i32 (Utf8.decode b pos).1))])::s.f,(i,some (.dt b (pos+(Utf8.decode b pos).2)))::s.h,s.nx⟩):
  GO P nt (.ops all (o::rest)::k) Q s:=by
 refine dE hg (CN ho hit hi hd hlt) fun t ht=>?_;rcases ht with⟨g1,rfl⟩|⟨g1,rfl⟩
 ·exact h1 g1
 ·exact h2 g1
theorem uQ (hty:bE P ty) {all rest:List Oper} {o:Oper} {x:Operand} {t d:Nat} {b:ByteArray} {e:aB} (ho:o.op= .range t x) (hg:o.guard=none) (ht:ty t=some e) (hk:e.k= .ai .string) (hx:ev s.f x= .iv (.v (.string b))) (hd:o.dst=some d) (hlt:WU d nt=true)
  (h:GO P nt (.ops all rest::k) Q ⟨(d, .ptr s.nx 0)::s.f,(s.nx,some (.dt b 0))::s.h,s.nx+1⟩):GO P nt (.ops all (o::rest)::k) Q s:=by
 have hus:P.underlying t=some .string:=by
  have:=(hty t _ ht).2.1;rw[hk] at this;exact this.1
 refine dE (R:=fun t=>t=⟨(d, .ptr s.nx 0)::s.f,(s.nx,some (.dt b 0))::s.h,s.nx+1⟩) hg (OT.value (s1:=newObj s (.dt b 0)) (p:= .ptr s.nx 0) (by cases s;simp only[putDst,newObj,hd,hlt,cond_true,c8]) fun M N a w hf=>?_) fun t ht=>by subst ht;exact h
 have hvx:=aS hf.2.1 x;rw[hx] at hvx
 have hyv:a.eval x= .string b:=by
  generalize a.eval x=v at hvx
  cases hvx with
  |iv _ _ h=>cases h;rfl
 obtain⟨N',h1,h2,h3,h4,h5⟩:=hf.1.alloc (.stringIter b 0) (.dt b 0) 0 (fun N' g1 g2 g3=>by
  show(w.alloc _).heap[N'.aG s.nx]? =_
  rw[g1];exact heap_alloc_new w _)
 refine⟨.pointer (some ⟨w.heap.size,0,none⟩),_,M,N',?_,h4,di hf h4 h5,?_⟩
 ·simp only[execOp,ho,hyv]
  simp[Instr.range,run_underlying hus]
 ·have:=VR.ptr (M:=M) (N:=N') (U:=(· <s.nx+1)) s.nx 0 (by omega)
  rw[h1] at this;exact this
end
end Go.Al
namespace Go.Proofs.YtflegjieadkonaaGreatDoor
open Go Go.Al
set_option maxRecDepth 10000
def JT (c:Nat):Bool:=(decide (97≤c)&&decide (c≤122))||((decide (65≤c)&&decide (c≤90))||((decide (48≤c)&&decide (c≤57))||decide (c=95)))
def okB (b:UInt8):Bool:=JT b.toNat
def hd (s:aj):Int:=((s.data.toList.getD 0 0).toNat:Int)
def rO (s:aj) (lo hi:Int):Bool:=!decide (s=⟨#[]⟩)&&(decide (s.size≤32)&&(decide (lo≤hd s)&&(decide (hd s≤hi)&&s.data.toList.all okB)))
theorem Dp {c:Nat} (h:JT c=true):c<128:=by
 simp only[JT,Xl,WN,decide_eq_true_eq] at h;omega
theorem Jr {s:aj} (h: ¬s=⟨#[]⟩):0<s.size:=by
 refine Nat.pos_of_ne_zero fun h0=>h ?_;have:s.data= #[]:=Array.eq_empty_of_size_eq_zero h0;cases s;simp_all
theorem V1 (c:Nat):Pure Tryz.prog 215 [.iv (.v (.int .i32 (c:Int)))] (pB (!JT c)):=by
 refine ax ae Tryz.func215 rfl (by decide) Tryz.ntmps215 rfl (by simp) rfl ?_
 repeat' (first
  |(refine gA rfl (Wl (fun _=>?_) (fun _=>?_)))
  |(refine gA rfl (aw (by first|exact .inr rfl|exact .inl rfl) rfl (.of_eq ?_))))
 all_goals(refine(lL ?_:pB _=pB _))
 all_goals(simp only[YM,YW,decide_eq_true_eq,decide_eq_false_iff_not] at*;rw[Xn];simp[JT];omega)
theorem Em {s:aj} {i:Nat} (h:i<s.size) (hb:okB (s.data.toList.getD i 0)=true):Utf8.decode s i=((s.data.toList.getD i 0).toNat,1):=by
 have hg:(s[i]'h)=s.data.toList.getD i 0:=by
  have:i<s.data.toList.length:=by simpa using h
  rw[Ws,Wt this];simp;rfl
 have:=decode_ascii s i h (by rw[hg];exact Dp hb);rw[this,hg]
theorem Sm {s:aj} {i:Nat} (h:i<s.size) (hb:okB (s.data.toList.getD i 0)=false):JT (Utf8.decode s i).1=false:=by
 by_cases h1:(s.data.toList.getD i 0).toNat<128
 ·have hg:(s[i]'h)=s.data.toList.getD i 0:=by
   have:i<s.data.toList.length:=by simpa using h
   rw[Ws,Wt this];simp;rfl
  have:=decode_ascii s i h (by rw[hg];exact h1);rw[this,hg];exact hb
 ·have hg:(s.get! (i+0)).toNat=(s.data.toList.getD i 0).toNat:=by
   have:i<s.data.toList.length:=by simpa using h
   rw[Ws,Wt this];simp[ByteArray.get!,getElem!_pos,h]
  have:128≤(Utf8.decode s i).1:=by
   simp only[Utf8.decode,hg,if_neg h1]
   repeat' split
   all_goals(dsimp only[Utf8.runeError];(try simp only[WN,decide_eq_true_eq] at*);omega)
  cases hk:JT (Utf8.decode s i).1 with
  |false=>rfl
  |true=>have:=Dp hk;omega
def AM (s:aj):Int:=oW (fun b=>!okB b) s.data.toList
theorem d217 (s:aj):cf Tryz.prog 259 [pS s, .cH (.func 215) [] [],pB true] [] (pI (AM s)) [] 0:=by
 have hlen:s.data.toList.length=s.size:=by simp
 refine aH ae Tryz.func259 rfl (by decide) Tryz.ntmps259 rfl (by simp) ?_;refine gA rfl ?_;refine uQ ae rfl rfl rfl rfl rfl rfl rfl ?_;refine gA rfl ?_
 refine aK 0 s.size (WC _) (fun i=>⟨[(0,pS s),(1, .cH (.func 215) [] []),(2,pB true),(10, .ptr 0 0)],[(0,some (.dt s i))],1⟩) (fun i=>(s.data.toList.take i).any (fun b=>!okB b)=false) [] (by simp)
  (wk rfl rfl rfl ⟨.refl _,rfl, .refl _,rfl, .refl _,rfl, .refl _,rfl,trivial⟩ ⟨⟨_,rfl, .of_eq rfl⟩,Wj rfl,trivial,trivial⟩ rfl) fun i hi hJ=>?_
 refine gA rfl ?_;refine kK rfl rfl rfl rfl rfl rfl (fun h1=>?_) (fun h1=>?_)
 ·have h2:s.data.toList.length≤i:=by omega
  rw[AM,fN (any_none hJ h2)];refine gA rfl (az [] (by first|exact .inr rfl|exact .inl rfl) rfl (wk rfl rfl rfl ⟨.refl _,rfl,trivial⟩ trivial rfl))
 ·have hi2:i<s.data.toList.length:=by omega
  have hg:s.data.toList.getD i default=s.data.toList.getD i 0:=rfl;refine gA rfl (an (V1 (Utf8.decode s i).1) rfl rfl rfl rfl rfl rfl ?_);refine gA rfl ?_;refine Wl (fun h2=>?_) (fun h2=>?_)
  ·have h2:JT (Utf8.decode s i).1=false:=by simpa using h2
   have hb:okB (s.data.toList.getD i 0)=false:=by
    cases hk:okB (s.data.toList.getD i 0) with
    |false=>rfl
    |true=>
     rw[Em h1 hk] at h2;exact absurd (hk.symm.trans h2) (by simp)
   rw[AM,hD hJ hi2 (by rw[hg,hb];rfl)];refine gA rfl (az [] (by first|exact .inr rfl|exact .inl rfl) rfl (wk rfl rfl rfl ⟨.refl _,rfl,trivial⟩ trivial rfl))
  ·have h2:JT (Utf8.decode s i).1=true:=by simpa using h2
   have hb:okB (s.data.toList.getD i 0)=true:=by
    cases hk:okB (s.data.toList.getD i 0) with
    |true=>rfl
    |false=>exact absurd ((Sm h1 hk).symm.trans h2) (by simp)
   have hd:=Em h1 hb;refine gA rfl ?_;exact⟨h1,(cN hJ hi2).2 (by rw[hg,hb];rfl),[],wk rfl rfl rfl ⟨.refl _,rfl, .refl _,rfl, .refl _,rfl, .refl _,rfl,trivial⟩ ⟨⟨_,rfl, .of_eq (by rw[hd];rfl)⟩,Wj rfl,trivial,trivial⟩ rfl⟩
theorem KH (l:List UInt8):(l.any fun b=>!okB b)=!l.all okB:=by
 induction l with
 |nil=>rfl
 |cons x r ih=>simp only[List.any_cons,List.all_cons,ih];cases okB x<;>rfl
theorem d203 (s:aj):cf Tryz.prog 242 [pS s, .cH (.func 215) [] []] [] (pI (AM s)) [] 0:=by
 refine aH ae Tryz.func242 rfl (by decide) Tryz.ntmps242 rfl (by simp) ?_;refine gA rfl (aN [] (d217 s) rfl rfl rfl rfl rfl rfl rfl rfl ?_);refine gA rfl (az [] (by first|exact .inr rfl|exact .inl rfl) rfl (wk rfl rfl rfl ⟨.refl _,rfl,trivial⟩ trivial rfl))
theorem d180 (s:aj):cf Tryz.prog 214 [pS s, .cH (.func 215) [] []] [] (pB (!s.data.toList.all okB)) [] 0:=by
 refine aH ae Tryz.func214 rfl (by decide) Tryz.ntmps214 rfl (by simp) ?_;refine gA rfl (aN [] (d203 s) rfl rfl rfl rfl rfl rfl rfl rfl ?_);refine gA rfl (az [] (by first|exact .inr rfl|exact .inl rfl) rfl (wk rfl rfl rfl ⟨.of_eq (lL ((hP _ _).trans (KH _))),rfl,trivial⟩ trivial rfl))
theorem Vd (s:aj) (lo hi:Int):Pure Tryz.prog 187 [pS s, .iv (.v (.int .u8 lo)), .iv (.v (.int .u8 hi))] (pB (rO s lo hi)):=by
 refine ax ae Tryz.func187 rfl (by decide) Tryz.ntmps187 rfl (by simp) rfl ?_;refine gA rfl ?_;refine Wl (fun h1=>?_) (fun h1=>?_);rotate_left
 ·have h1:s=⟨#[]⟩:=of_decide_eq_true h1
  refine gA rfl (aw (by first|exact .inr rfl|exact .inl rfl) rfl (.of_eq ?_));refine(lL ?_:pB _=pB _);subst h1;rfl
 have h1: ¬s=⟨#[]⟩:=of_decide_eq_false h1;have hp:=Jr h1;refine gA rfl ?_;refine Wl (fun h2=>?_) (fun h2=>?_);rotate_left
 ·have h2:32<s.size:=Xe.1 (of_decide_eq_true h2)
  refine gA rfl (aw (by first|exact .inr rfl|exact .inl rfl) rfl (.of_eq ?_));refine(lL ?_:pB _=pB _);have: ¬s.size≤32:=by omega
  simp[rO,this]
 have h2:s.size≤32:=by have:=of_decide_eq_false h2;omega
 refine gA rfl ?_;refine Wl (fun h3=>?_) (fun h3=>?_);rotate_left
 ·have h3:hd s<lo:=of_decide_eq_true h3
  refine gA rfl (aw (by first|exact .inr rfl|exact .inl rfl) rfl (.of_eq ?_));refine(lL ?_:pB _=pB _);have: ¬lo≤hd s:=by omega
  simp[rO,this]
 have h3:lo≤hd s:=by have: ¬hd s<lo:=of_decide_eq_false h3;omega
 refine gA rfl ?_;refine Wl (fun h4=>?_) (fun h4=>?_)
 ·have h4:hi<hd s:=of_decide_eq_true h4
  refine gA rfl (aw (by first|exact .inr rfl|exact .inl rfl) rfl (.of_eq ?_));refine(lL ?_:pB _=pB _);have: ¬hd s≤hi:=by omega
  simp[rO,this]
 have h4:hd s≤hi:=by have: ¬hd s>hi:=of_decide_eq_false h4;omega
 refine gA rfl (aN [] (d180 s) rfl rfl rfl rfl rfl rfl rfl rfl ?_);refine gA rfl (aw (by first|exact .inr rfl|exact .inl rfl) rfl (.of_eq ?_));refine(lL ?_:pB _=pB _);simp[rO,h1,h2,h3,h4]
def UH:List aj:=[⟨#[114,101,108,97,116,105,111,110]⟩,⟨#[110,111,116]⟩,⟨#[110,117,109]⟩,⟨#[115,121,109]⟩,⟨#[109,111,100]⟩,⟨#[99,111,117,110,116]⟩,⟨#[115,117,109]⟩,⟨#[109,105,110]⟩,⟨#[109,97,120]⟩]
def UI (s:aj):Bool:=UH.any fun x=>decide (s=x)
def je (s:aj):Bool:=!UI s&&rO s 97 122
def eV (s:aj):Bool:=rO s 65 90
theorem zu (s:aj):Pure Tryz.prog 218 [pS s] (pB (eV s)):=by
 refine ax ae Tryz.func218 rfl (by decide) Tryz.ntmps218 rfl (by simp) rfl ?_;refine gA rfl (an (Vd s 65 90) rfl rfl rfl rfl rfl rfl ?_);refine gA rfl (aw (by first|exact .inr rfl|exact .inl rfl) rfl (.of_eq ?_));rfl
theorem VO (s:aj):Pure Tryz.prog 156 [pS s] (pB (je s)):=by
 refine ax ae Tryz.func156 rfl (by decide) Tryz.ntmps156 rfl (by simp) rfl ?_
 repeat' (first
  |(refine gA rfl (Wl (fun _=>?_) (fun _=>?_)))
  |(refine gA rfl (an (Vd s 97 122) rfl rfl rfl rfl rfl rfl ?_))
  |(refine gA rfl (aw (by first|exact .inr rfl|exact .inl rfl) rfl (.of_eq ?_))))
 all_goals(refine(lL ?_:pB _=pB _))
 all_goals(simp only[je,UI,UH,List.any_cons,List.any_nil, *];rfl)
end Go.Proofs.YtflegjieadkonaaGreatDoor
namespace Go.Proofs.YtflegjieadkonaaGreatDoor
open Go Go.Al
set_option maxRecDepth 10000
theorem Rel.yS {M:Mem} {N:Nm} {U:Nat→Prop} {h h2:AH} {w:World} (hr:Rel M N U h w) (e: ∀i,AH.get h2 i=h.get i):Rel M N U h2 w:=
 ⟨hr.cZ,fun i o hi=>hr.used i o (by rw[←e];exact hi),fun i o hi=>hr.dA i o (by rw[←e];exact hi),fun i o hi=>hr.obj i o (by rw[←e];exact hi),fun i j o p hi hj=>hr.inj i j o p (by rw[←e];exact hi) (by rw[←e];exact hj)⟩
theorem Ext.yS {M M':Mem} {N N':Nm} {U U':Nat→Prop} {h0 h h2:AH} {w w':World} (hx:Ext M N U h0 w M' N' U' h w') (e: ∀i,AH.get h2 i=h.get i):Ext M N U h0 w M' N' U' h2 w':=
 ⟨hx.os,hx.tape,hx.output,hx.size,hx.gd,hx.ow,hx.gn,hx.nm,hx.ule,fun i o hi=>hx.fQ i o (by rw[←e];exact hi)⟩
structure WS where
 fr:Bool
 l:List UInt8
 bad:Bool
 br:Int
abbrev WS.td (w:WS) (i j:Nat):AO:= .cells [.eC w.fr i, .sl j 0 w.l.length 1,pB w.bad,pI w.br] (some 247)
abbrev WS.c (w:WS):AO:=w.td 0 1
abbrev WS.O (w:WS):List AO:=[w.c, .bx w.l 5]
abbrev WS.H (w:WS):AH:=[(0,some (w.td 0 2)),(2,some (.bx w.l 5))]
theorem d204 (w:WS):cf Tryz.prog 260 [.ptr 0 0] w.O (.bP []) [(0,some ({w with fr:=false}:WS).c),(1,some (.bx w.l 5))] 2:=by
 refine⟨bM Tryz.func260 rfl (by decide),fun M N wd vs hr hlen hv=>?_⟩
 obtain⟨v,rfl⟩: ∃v,vs=[v]:=by
  cases vs with
  |nil=>cases hlen
  |cons v r=>cases r with
   |nil=>exact⟨v,rfl⟩
   |cons a b=>simp at hlen
 have hv0:VR M N (· <2) (.ptr 0 0) v:=hv 0 _ rfl;have hvv:v= .pointer (some ⟨N.aG 0,0,none⟩):=by cases hv0;rfl
 subst hvv;have ho0:AH.get (dC 0 w.O) 0=some w.c:=rfl;obtain⟨c,T,h1,h2,h3,h4,h5⟩:=hr.obj 0 _ ho0;have hT:=h5 247 rfl;subst hT;have hc4:c.size=4:=h3.symm;have hlt:N.aG 0<wd.heap.size:=(Xz.1 h1).1
 have hc0:c.getD 0 undef= .pointer (bif w.fr then none else some ⟨N.aG 0,0,none⟩):=by
  have:=h4 0 _ rfl;generalize c.getD 0 undef=x at this;cases this;rfl
 have hcell:wd.cell? ⟨N.aG 0,0,none⟩=some (c.getD 0 undef):=by
  rw[Lib.cell_of_heap h1,Wm,Xa (by omega)];rfl
 rw[hc0] at hcell;show Calls Tryz.prog 260 #[_] wd _
 cases hfr:w.fr with
 |false=>
  rw[hfr] at hcell;refine(Kz (N.aG 0) wd hcell).mono ?_
  rintro e w' ⟨rfl,rfl⟩
  have hw:({w with fr:=false}:WS)=w:=by cases w;simp_all
  rw[hw]
  exact⟨_,M,N, .bP [],_,2,rfl,⟨rfl,rfl,rfl⟩, .refl _ _ _ _ _,hr, .bP [] #[] rfl (by simp)⟩
 |true=>
  rw[hfr] at hcell;refine(Ey (N.aG 0) wd hcell (by simp[World.shape?,h1,hc4]) (Lib.frozen_of_heap h1 0)).mono ?_
  rintro e w' ⟨rfl,rfl⟩
  have hheap:(wd.setCell ⟨N.aG 0,0,none⟩ (.pointer (some ⟨N.aG 0,0,none⟩))).heap[N.aG 0]? =some (.cells (c.setIfInBounds 0 (.pointer (some ⟨N.aG 0,0,none⟩))) 247 (0,0)):=by
   simp[World.setCell,W8,h1]
  obtain⟨g1,g2⟩:=hr.write (i:=0) (o0:=w.c) ho0 rfl (wd.setCell ⟨N.aG 0,0,none⟩ (.pointer (some ⟨N.aG 0,0,none⟩))) ({w with fr:=false}:WS).c rfl rfl rfl (by simp[World.setCell]) (fun b hb=>by
   simp only[World.setCell,W8]
   rw[if_neg (fun e=>hb e.symm)]) ⟨_,247,hheap,by simpa using h2,by simp[hc4],fun j p hj=>by
    match j,hj with
    |0,hj=>
     cases hj;rw[Wm,W1];simp only[if_true,hc4]
     exact .eC false 0 (by show 0<2;decide)
    |j+1,hj=>
     have:=h4 (j+1) p (by exact hj);rw[Wm,W1,if_neg (by omega)];rw[Wm] at this
     exact this,h5⟩
  have hget: ∀i,AH.get [(0,some ({w with fr:=false}:WS).c),(1,some (.bx w.l 5))] i=AH.get ((0,some ({w with fr:=false}:WS).c)::dC 0 w.O) i:=by
   intro i
   match i with
   |0=>rfl
   |1=>rfl
   |i+2=>rfl
  exact⟨_,M,N, .bP [],_,2,rfl,⟨rfl,rfl,rfl⟩,Ext.yS g1 hget,Rel.yS g2 hget, .bP [] #[] rfl (by simp)⟩
theorem d150 (w:WS):cf Tryz.prog 220 [.ptr 0 0] w.O (pS ⟨w.l.toArray⟩) [] 2:=by
 refine⟨bM Tryz.func220 rfl (by decide),fun M N wd vs hr hlen hv=>?_⟩
 obtain⟨v,rfl⟩: ∃v,vs=[v]:=by
  cases vs with
  |nil=>cases hlen
  |cons v r=>cases r with
   |nil=>exact⟨v,rfl⟩
   |cons a b=>simp at hlen
 have hv0:VR M N (· <2) (.ptr 0 0) v:=hv 0 _ rfl;have hvv:v= .pointer (some ⟨N.aG 0,0,none⟩):=by cases hv0;rfl
 subst hvv;have ho0:AH.get (dC 0 w.O) 0=some w.c:=rfl;have ho1:AH.get (dC 0 w.O) 1=some (.bx w.l 5):=rfl;obtain⟨c,T,h1,h2,h3,h4,h5⟩:=hr.obj 0 _ ho0;have hT:=h5 247 rfl;subst hT;have hc4:c.size=4:=h3.symm
 have hex: ∀(x1:Value),c.getD 1 undef=x1→ ∃p x y,c= #[p,x1,x,y]:=by
  intro x1 hx1;refine⟨c.getD 0 undef,c.getD 2 undef,c.getD 3 undef,?_⟩;apply Array.ext
  ·simpa using hc4
  ·intro i hi hi2
   match i,hi with
   |0,hi=>simp[Wm,hi]
   |1,hi=>rw[←hx1];simp[Wm,hi]
   |2,hi=>simp[Wm,hi]
   |3,hi=>simp[Wm,hi]
   |i+4,hi=>omega
 have hsl:=h4 1 _ rfl;have hor:=hr.obj 1 _ ho1;show Calls Tryz.prog 220 #[_] wd _;by_cases hl:w.l=[]
 ·have hx1:c.getD 1 undef= .slice none 0 0:=by
   generalize c.getD 1 undef=x at hsl;rw[hl] at hsl;generalize hq:PV.sl 1 0 ([]:List UInt8).length 1=q at hsl
   cases hsl with
   |sl i off len sz cap h h0 h1 hc he=>cases hq;simp at h0
   |lQ i sz h=>rfl
   |_=>cases hq
  obtain⟨p,x,y,rfl⟩:=hex _ hx1;refine(Ss (N.aG 0) p x y wd h1).mono ?_
  rintro e w' ⟨rfl,rfl⟩
  refine⟨.string ⟨#[]⟩,M,N,pS ⟨w.l.toArray⟩,[],2,rfl,⟨rfl,rfl,rfl⟩,?_,?_, .iv _ _ (by rw[hl];exact .v _)⟩
  ·have:=Ext.drew (M:=M) (N:=N) (U:=(· <w.O.length)) (h:=dC 0 w.O) (w:=wd)
   exact⟨this.os,this.tape,this.output,this.size,this.gd,this.ow,this.gn,this.nm,this.ule,fun i o hi=>(nomatch hi)⟩
  ·exact⟨hr.drew.cZ,fun i o hi=>(nomatch hi),fun i o hi=>(nomatch hi),fun i o hi=>(nomatch hi),fun i j o p hi=>(nomatch hi)⟩
 ·have hpos:0<w.l.length:=List.length_pos_iff.2 hl
  obtain⟨cap,hx1,hcap,hcm⟩: ∃cap,c.getD 1 undef= .slice (some ⟨N.aG 1,0,none⟩) w.l.length cap∧w.l.length≤cap∧cap≤maxLen:=by
   generalize c.getD 1 undef=x at hsl;generalize hn:w.l.length=n at hsl hpos;generalize hq:PV.sl 1 0 n 1=q at hsl
   cases hsl with
   |sl i off len sz cap h h0 hl hc he=>cases hq;exact⟨cap,by simp,hl,hc⟩
   |lQ i sz h=>cases hq;omega
   |_=>cases hq
  rcases hor with hor|⟨cur,q1,q2,q3,q4⟩
  ·exact absurd hor hl
  obtain⟨p,x,y,rfl⟩:=hex _ hx1;refine(KD (N.aG 0) (N.aG 1) cap p x y cur w.l wd h1 q1 q3 hcap hcm q4 hl).mono ?_
  rintro e w' ⟨rfl,rfl⟩
  have hre:(AO.bx w.l 5).real=true:=by cases hll:w.l with
   |nil=>exact absurd hll hl
   |cons=>rfl
  have hk: ∀b,b≠N.aG 1→(wd.drew.freeze ⟨N.aG 1,0,none⟩ w.l.length).heap[b]? =wd.heap[b]? :=by
   intro b hb;unfold World.freeze;split
   ·rfl
   ·show(wd.heap.modify _ _)[b]? =_
    simp only[W8];rw[if_neg (fun e=>hb e.symm)]
  have hos:(wd.drew.freeze ⟨N.aG 1,0,none⟩ w.l.length).os=wd.os∧(wd.drew.freeze ⟨N.aG 1,0,none⟩ w.l.length).tape=wd.tape∧(wd.drew.freeze ⟨N.aG 1,0,none⟩ w.l.length).output=wd.output∧(wd.drew.freeze ⟨N.aG 1,0,none⟩ w.l.length).heap.size=wd.heap.size:=by
   unfold World.freeze;split
   ·exact⟨rfl,rfl,rfl,rfl⟩
   ·exact⟨rfl,rfl,rfl,by show(wd.heap.modify _ _).size=_;simp⟩
  refine⟨_,M,N,pS ⟨w.l.toArray⟩,[],2,rfl,⟨rfl,rfl,rfl⟩,?_,?_, .iv _ _ (.v _)⟩
  ·exact⟨hos.1,hos.2.1,hos.2.2.1,by rw[hos.2.2.2];exact Wz _,fun b hb hn=>hk b fun e=>hn 1 _ ho1 hre e.symm, .refl _,fun b c h1 h2=>by simp[h1] at h2, .refl _ _,fun _ h=>h,fun i o hi=>(nomatch hi)⟩
  ·refine⟨fun b d hb=>?_,fun i o hi=>(nomatch hi),fun i o hi=>(nomatch hi),fun i o hi=>(nomatch hi),fun i j o p hi=>(nomatch hi)⟩
   have hne:b≠N.aG 1:=fun e=>by
    have:=hr.dA 1 _ ho1 hre;rw[←e,hb] at this;cases this
   exact(hr.cZ b d hb).mono (hk b hne)
section
variable {nt:Nat} {Q:AQ} {k:List KI} {s:AS}
def wS (s:AS) (w':WS) (i j:Nat):AS:=match s with|⟨f,h,n⟩=>⟨f,(i,some (w'.td i n))::(n,some (.bx w'.l 5))::(i,none)::(j,none)::h,n+1⟩
theorem SJ (s:AS) (w':WS) (i j:Nat):wS s w' i j=⟨s.f,(i,some (w'.td i s.nx))::(s.nx,some (.bx w'.l 5))::(i,none)::(j,none)::s.h,s.nx+1⟩:=by cases s;rfl
def Vn (s:AS) (w':WS) (i j m:Nat):AS:=match s with|⟨f,h,n⟩=>⟨f,(i,some (w'.td i n))::(n,some (.bx w'.l 5))::(i,none)::(j,none)::(m,none)::h,n+1⟩
theorem PN (s:AS) (w':WS) (i j m:Nat):Vn s w' i j m=⟨s.f,(i,some (w'.td i s.nx))::(s.nx,some (.bx w'.l 5))::(i,none)::(j,none)::(m,none)::s.h,s.nx+1⟩:=by cases s;rfl
theorem wx {o:Oper} {c:Call} {g:FuncId} {args al:List PV} {w w':WS} {r:PV} {i j:Nat} {s':AS} (hc:cf Tryz.prog g (.ptr 0 0::args) w.O r w'.H 3) (ho:o.op= .call c) (ha:cK s.f c=some (g, .ptr i 0::al))
  (hi:s.h.get i=some (w.td i j)) (hj:s.h.get j=some (.bx w.l 5)) (hlt:WU i s.nx=true) (hlj:WU j s.nx=true) (hne:WO i j=false) (has:al=args) (hlow:bz 0 args=true) (hr:r.low 0=true)
  (hp:putDst nt o r (wS s w' i j)=some s'):OT Tryz.prog nt o s (fun t=>t=s'):=by
 have hij:i≠j:=fun e=>by subst e;simp at hne
 have hnd:([i,j]:List Nat).Nodup:=by simp[hij]
 have hL: ∀x∈ [i,j],x<s.nx:=by
  intro x hx;simp only[WG,Y1,or_false] at hx;rcases hx with rfl|rfl
  ·exact Wj hlt
  ·exact Wj hlj
 subst has;have hargs: ∀σ,dJ σ al=al:=fun σ=>fV σ al hlow;refine jY ho ha hc hnd hL ?_ ?_ ?_
 ·simp only[WI,Xd,hi,hj];rfl
 ·simp only[dJ,hargs];rfl
 ·rintro q h0 n0 ⟨rfl,rfl,rfl⟩
  rw[PV.jQ _ _ hr];rw[SJ] at hp;exact⟨s',hp,rfl⟩
theorem bX {all rest:List Oper} {o:Oper} {c:Call} {g:FuncId} {args al:List PV} {w w':WS} {r:PV} {i j:Nat} {s':AS} (hc:cf Tryz.prog g (.ptr 0 0::args) w.O r w'.H 3) (ho:o.op= .call c) (hg:o.guard=none) (ha:cK s.f c=some (g, .ptr i 0::al))
  (hi:s.h.get i=some (w.td i j)) (hj:s.h.get j=some (.bx w.l 5)) (hlt:WU i s.nx=true) (hlj:WU j s.nx=true) (hne:WO i j=false) (has:al=args) (hlow:bz 0 args=true) (hr:r.low 0=true)
  (hp:putDst nt o r (wS s w' i j)=some s') (h:GO Tryz.prog nt (.ops all rest::k) Q s'):GO Tryz.prog nt (.ops all (o::rest)::k) Q s:=
 dE hg (wx hc ho ha hi hj hlt hlj hne has hlow hr hp) fun t ht=>by subst ht;exact h
theorem zy {o:Oper} {c:Call} {g:FuncId} {ss:List aj} {w w':WS} {i j m n:Nat} {s':AS} (hc:cf Tryz.prog g [.ptr 0 0, .sl 2 0 ss.length 1] [w.c, .bx w.l 5,aD 1 ss cx] (.bP []) [(0,some (w'.td 0 3)),(3,some (.bx w'.l 5))] 4) (ho:o.op= .call c) (ha:cK s.f c=some (g,[.ptr i 0, .sl m 0 n 1]))
  (hi:s.h.get i=some (w.td i j)) (hj:s.h.get j=some (.bx w.l 5)) (hm:s.h.get m=some (aD 1 ss cx)) (hn:n=ss.length) (hlt:WU i s.nx=true) (hlj:WU j s.nx=true) (hlm:WU m s.nx=true) (hnd:ei [i,j,m]=true)
  (hp:putDst nt o (.bP []) (Vn s w' i j m)=some s'):OT Tryz.prog nt o s (fun t=>t=s'):=by
 have hL: ∀x∈ [i,j,m],x<s.nx:=by
  intro x hx;simp only[WG,Y1,or_false] at hx;rcases hx with rfl|rfl|rfl
  ·exact Wj hlt
  ·exact Wj hlj
  ·exact Wj hlm
 subst hn;refine jY ho ha hc (ef hnd) hL ?_ rfl ?_
 ·simp only[WI,Xd,hi,hj,hm,cm];rfl
 ·rintro q h0 n0 ⟨rfl,rfl,rfl⟩
  rw[PN] at hp;exact⟨s',hp,rfl⟩
theorem go_wp {all rest:List Oper} {o:Oper} {c:Call} {g:FuncId} {ss:List aj} {w w':WS} {i j m n:Nat} {s':AS} (hc:cf Tryz.prog g [.ptr 0 0, .sl 2 0 ss.length 1] [w.c, .bx w.l 5,aD 1 ss cx] (.bP []) [(0,some (w'.td 0 3)),(3,some (.bx w'.l 5))] 4) (ho:o.op= .call c) (hg:o.guard=none) (ha:cK s.f c=some (g,[.ptr i 0, .sl m 0 n 1]))
  (hi:s.h.get i=some (w.td i j)) (hj:s.h.get j=some (.bx w.l 5)) (hm:s.h.get m=some (aD 1 ss cx)) (hn:n=ss.length) (hlt:WU i s.nx=true) (hlj:WU j s.nx=true) (hlm:WU m s.nx=true) (hnd:ei [i,j,m]=true)
  (hp:putDst nt o (.bP []) (Vn s w' i j m)=some s')
  (h:GO Tryz.prog nt (.ops all rest::k) Q s'):GO Tryz.prog nt (.ops all (o::rest)::k) Q s:=
 dE hg (zy hc ho ha hi hj hm hn hlt hlj hlm hnd hp) fun t ht=>by subst ht;exact h
theorem vU {all:List Oper} {todo pend:List (Nat×Oper)} {j':Nat} {CA C2:Prop} {o:Oper} {c:Call} {g:FuncId} {ss:List aj} {w w':WS} {i j m n:Nat} {s':AS} (hc:cf Tryz.prog g [.ptr 0 0, .sl 2 0 ss.length 1] [w.c, .bx w.l 5,aD 1 ss cx] (.bP []) [(0,some (w'.td 0 3)),(3,some (.bx w'.l 5))] 4)
  (hrd:fk todo=[(j',o)]) (ho:o.op= .call c) (ha:cK s.f c=some (g,[.ptr i 0, .sl m 0 n 1]))
  (hi:s.h.get i=some (w.td i j)) (hj:s.h.get j=some (.bx w.l 5)) (hm:s.h.get m=some (aD 1 ss cx)) (hn:n=ss.length) (hlt:WU i s.nx=true) (hlj:WU j s.nx=true) (hlm:WU m s.nx=true) (hnd:ei [i,j,m]=true)
  (hp:putDst nt o (.bP []) (Vn s w' i j m)=some s')
  (hg:ck nt all s.f o=some true) (hpb:jd all pend o=true) (hE:pg todo [j']=true)
  (hag:tv vg nt all s todo pend=some CA) (hCA:CA) (hag2:dU vg nt all s' (bg pend o)=some C2) (hC2:C2)
  (h:GO Tryz.prog nt (.cv all (todo.filter fun x=>!WO x.1 j') (bg pend o)::k) Q s'):GO Tryz.prog nt (.cv all todo pend::k) Q s:=
 lD ae hrd hg hpb hE hag hCA (zy hc ho ha hi hj hm hn hlt hlj hlm hnd hp) hag2 hC2 h
theorem nG {all:List Oper} {todo pend:List (Nat×Oper)} {j':Nat} {CA C2:Prop} {o:Oper} {c:Call} {g:FuncId} {args al:List PV} {w w':WS} {r:PV} {i j:Nat} {s':AS} (hc:cf Tryz.prog g (.ptr 0 0::args) w.O r w'.H 3)
  (hrd:fk todo=[(j',o)]) (ho:o.op= .call c) (ha:cK s.f c=some (g, .ptr i 0::al))
  (hi:s.h.get i=some (w.td i j)) (hj:s.h.get j=some (.bx w.l 5)) (hlt:WU i s.nx=true) (hlj:WU j s.nx=true) (hne:WO i j=false) (has:al=args) (hlow:bz 0 args=true) (hr:r.low 0=true)
  (hp:putDst nt o r (wS s w' i j)=some s')
  (hg:ck nt all s.f o=some true) (hpb:jd all pend o=true) (hE:pg todo [j']=true)
  (hag:tv vg nt all s todo pend=some CA) (hCA:CA) (hag2:dU vg nt all s' (bg pend o)=some C2) (hC2:C2)
  (h:GO Tryz.prog nt (.cv all (todo.filter fun x=>!WO x.1 j') (bg pend o)::k) Q s'):GO Tryz.prog nt (.cv all todo pend::k) Q s:=
 lD ae hrd hg hpb hE hag hCA (wx hc ho ha hi hj hlt hlj hne has hlow hr hp) hag2 hC2 h
theorem bn {l:List ResultVar} {r r0 a b c d:PV} {e:Exit} {w':WS} {j n:Nat} (he:e= .normal∨e= .ret) (hr:lR vg s l=some r0) (hi:s.h.get 0=some (.cells [a,b,c,d] (some 247))) (ha:a= .eC w'.fr 0) (hb:b= .sl j 0 n 1) (hn:n=w'.l.length) (hc:ah c (pB w'.bad)) (hd:ah d (pI w'.br))
  (hj:s.h.get j=some (.bx w'.l 5)) (hlj:WU j s.nx=true) (hne:WO 0 j=false) (hns:YG 2 s.nx=true)
  (hrl:ah r0 r) (hlow:r.low 0=true) (hlow3:r.low 3=true):KV vg l 2 r w'.H 3 e s:=by
 subst ha;subst hb;subst hn;refine az [j] he hr ⟨rfl,Wj hns,fun x hx=>?_,⟨?_,hlow3,trivial⟩,⟨⟨_,hi, .cells ⟨.refl _, .refl _,hc,hd,trivial⟩⟩,Wj rfl,rfl,⟨.bx w'.l 5,hj, .of_eq rfl⟩,Wj rfl,trivial,trivial⟩,?_⟩
 ·simp only[Wy] at hx;subst hx;exact Wj hlj
 ·rw[PV.jQ _ _ hlow];exact hrl
 ·have:(0:Nat)≠j:=fun e=>by subst e;simp at hne
  show([0,j]:List Nat).Nodup;simpa using this
theorem yo {n0 j m:Nat} {tf:AF} {w w':WS} {a b c d:PV} (hw:w=w') (hi:s.h.get 0=some (.cells [a,b,c,d] (some 247))) (ha:a= .eC w.fr 0) (hb:b= .sl j 0 m 1) (hm:m=w.l.length) (hc:ah c (pB w.bad)) (hd:ah d (pI w.br)) (hj:s.h.get j=some (.bx w.l 5))
  (hlj:WU j s.nx=true) (hne:WO 0 j=false) (h0:WU 0 n0=true) (hns:YG n0 s.nx=true) (hf:PM (n0+1) (sg n0 [j]) s.f tf):Wk n0 [j] s ⟨tf,[(0,some (w'.td 0 n0)),(n0,some (.bx w'.l 5))],n0+1⟩:=by
 subst hw;subst ha;subst hb;subst hm;have h0':0<n0:=Wj h0;have s0:sg n0 [j] 0=0:=fc h0';have b0:WU n0 n0=false:=XD.2 fun e=>absurd (Wj e) (by omega);have b1:WU 0 (n0+1)=true:=Xi (by omega);have b2:WU n0 (n0+1)=true:=Xi (by omega);have s1:sg n0 [j] n0=j:=by simp[sg,b0]
 refine⟨rfl,Wj hns,fun x hx=>?_,hf,⟨⟨_,by rw[s0];exact hi,?_⟩,X3 h0',?_,⟨.bx w.l 5,by rw[s1];exact hj, .of_eq rfl⟩,XT _,trivial,trivial⟩,?_⟩
 ·simp only[Wy] at hx;subst hx;exact Wj hlj
 ·simp only[AO.cL,dJ,PV.cL,s0,s1]
  exact .cells ⟨.refl _, .refl _,hc,hd,trivial⟩
 ·simp[AO.low,bz,PV.low,b1,b2]
 ·have:(0:Nat)≠j:=fun e=>by subst e;simp at hne
  simp only[fx,s0,s1];simpa using this
end
end Go.Proofs.YtflegjieadkonaaGreatDoor
namespace Go.Proofs.YtflegjieadkonaaGreatDoor
open Go Go.Al
set_option maxRecDepth 10000
def xg (w:WS) (s:aj):WS:=⟨false,w.l++s.data.toList,w.bad,w.br⟩
theorem d183 (w:WS) (s:aj) (hb:w.l.length+s.size≤140737488355328):cf Tryz.prog 243 [.ptr 0 0,pS s] w.O (.bP [pI s.size, .iv (.v .nilIface)]) (xg w s).H 3:=by
 refine aH ae Tryz.func243 rfl (by decide) Tryz.ntmps243 rfl (by simp) ?_;refine gA rfl (aN [0,1] (d204 w) rfl rfl rfl rfl rfl rfl rfl rfl ?_);refine gA rfl ?_;refine Kd ae rfl rfl rfl rfl rfl rfl rfl rfl rfl rfl rfl rfl rfl rfl rfl rfl hb ?_;refine gA rfl (bn (by first|exact .inr rfl|exact .inl rfl) rfl rfl rfl rfl rfl (by first|exact .refl _|exact .kb _) (by first|exact .refl _|exact .kb _) rfl rfl rfl rfl (.refl _) rfl rfl)
def aR (w:WS) (b:Bool):WS:=⟨w.fr,w.l,w.bad||!b,w.br⟩
theorem JY (w:WS) {b:Bool} (h:(!b)=false):aR w b=w:=by cases w;simp_all [aR]
theorem JZ (w:WS) {b:Bool} (h:(!b)=true):aR w b=⟨w.fr,w.l,true,w.br⟩:=by cases w;simp_all [aR]
theorem d146 (w:WS) (b:Bool):cf Tryz.prog 216 [.ptr 0 0,pB b] w.O (.bP []) (aR w b).H 3:=by
 refine aH ae Tryz.func216 rfl (by decide) Tryz.ntmps216 rfl (by simp) ?_;refine gA rfl ?_;refine Wl (fun h=>?_) (fun h=>?_)
 ·rw[JZ w h]
  refine gA rfl (bn (by first|exact .inr rfl|exact .inl rfl) rfl rfl rfl rfl rfl (by first|exact .refl _|exact .kb _) (by first|exact .refl _|exact .kb _) rfl rfl rfl rfl (.refl _) rfl rfl)
 ·rw[JY w h]
  refine gA rfl (bn (by first|exact .inr rfl|exact .inl rfl) rfl rfl rfl rfl rfl (by first|exact .refl _|exact .kb _) (by first|exact .refl _|exact .kb _) rfl rfl rfl rfl (.refl _) rfl rfl)
def aV (w:WS) (ss:List aj):WS:=ss.foldl xg w
def eH (ss:List aj):Nat:=(ss.map Zt).sum
theorem Dg (w:WS) (s:aj):(xg w s).l.length=w.l.length+s.size:=by simp[xg]
theorem gY: ∀(ss:List aj) (w:WS),(aV w ss).l.length=w.l.length+eH ss
 | [],w=>by simp[aV,eH]
 |s::r,w=>by
  have:=gY r (xg w s);simp only[aV,Xf] at this ⊢;rw[this,Dg];simp[eH];omega
theorem rY: ∀(ss:List aj) (i:Nat),i<ss.length→eH (ss.take i)+(ss.getD i default).size≤eH ss
 | [],i,h=>by simp at h
 |s::r,0,_=>by simp[eH]
 |s::r,i+1,h=>by
  have:=rY r i (by simpa using h);simp[eH] at this ⊢;omega
theorem d147 (w:WS) (ss:List aj) (hl:ss.length≤1000) (hb:w.l.length+eH ss≤140737488355328):cf Tryz.prog 217 [.ptr 0 0, .sl 2 0 ss.length 1] [w.c, .bx w.l 5,aD 1 ss cx] (.bP []) [(0,some ((aV w ss).td 0 3)),(3,some (.bx (aV w ss).l 5))] 4:=by
 refine aH ae Tryz.func217 rfl (by decide) Tryz.ntmps217 rfl (by simp) ?_;refine gA rfl ?_;refine mZ 2 (fun k=>cx (ss.getD k default)) rfl (ch rfl) (by simp[AF.kX,PV.bm,mQ]) ⟨(by simp[AO.kX,b5,PV.bm]),trivial,eI _ _ _ _ _ _,trivial⟩ ?_
 refine aK 0 ss.length (WC _) (fun i=>⟨[(0, .ptr 0 0),(6, .iv (strs ss)),(7,pI ss.length),(8,pI i)],[(0,some ((aV w (ss.take i)).td 0 3)),(3,some (.bx (aV w (ss.take i)).l 5))],4⟩) (fun _=>True) [1] trivial
  (wk rfl rfl rfl ⟨.refl _,rfl, .cz rfl (fun k _=>by rw[WQ]),rfl, .refl _,rfl, .refl _,rfl,trivial⟩ ⟨⟨_,rfl, .of_eq rfl⟩,Wj rfl,rfl,⟨_,rfl, .of_eq rfl⟩,Wj rfl,trivial,trivial⟩ rfl) fun i hi _=>?_
 refine gA rfl ?_;refine Wl (fun h1=>?_) (fun h1=>?_)
 ·have h1:i<ss.length:=Xe.1 (of_decide_eq_true h1)
  have hs:aV w (ss.take (i+1))=xg (aV w (ss.take i)) (ss.getD i default):=iL (g:=xg) (b:=w) h1;have hpl:=gY (ss.take i) w;have hz:=rY ss i h1;refine gA rfl (bX (d183 (aV w (ss.take i)) (ss.getD i default) (by omega)) rfl rfl rfl rfl rfl rfl rfl rfl rfl rfl rfl rfl ?_);refine gA rfl ?_;exact⟨h1,trivial,[4],wk rfl rfl rfl ⟨.refl _,rfl, .refl _,rfl, .refl _,rfl, .refl _,rfl,trivial⟩ ⟨⟨_,rfl, .of_eq (by rw[hs];rfl)⟩,Wj rfl,rfl,⟨_,rfl, .of_eq (by rw[hs];rfl)⟩,Wj rfl,trivial,trivial⟩ rfl⟩
 ·have h1:ss.length≤i:=Xc fun hh=>absurd (Xe.2 hh) (of_decide_eq_false h1)
  rw[WB h1];refine gA rfl (az [3] (by first|exact .inr rfl|exact .inl rfl) rfl (wk rfl rfl rfl ⟨.refl _,rfl,trivial⟩ ⟨⟨_,rfl, .of_eq rfl⟩,Wj rfl,rfl,⟨_,rfl, .of_eq rfl⟩,Wj rfl,trivial,trivial⟩ rfl))
end Go.Proofs.YtflegjieadkonaaGreatDoor
namespace Go.Proofs
open Go.Shelf
def Tryz.vQ:Go.Shelf.Ren:=⟨fun|171=>273|243=>285|246=>297|283=>302|284=>303|285=>304|286=>305|129=>153|317=>307|318=>308|319=>309|320=>310|337=>311|338=>312|n=>n,fun|3=>3|9=>9|2=>2|4=>4|171=>337|0=>0|53=>205|37=>243|5=>5|173=>339|212=>343|51=>203|20=>20|213=>344|46=>179|232=>345|233=>346|n=>n,fun|17=>0|18=>1|19=>2|n=>n⟩
theorem Tryz.DD:Go.Proofs.LaysM.n171 Tryz.prog Tryz.vQ:={
 mixed:=by kernel_rfl
 f129:=Tryz.func153.trans (congrArg some (by kernel_rfl))
 f171:=Tryz.func273.trans (congrArg some (by kernel_rfl))
 f243:=Tryz.func285.trans (congrArg some (by kernel_rfl))
 f246:=Tryz.func297.trans (congrArg some (by kernel_rfl))
 f283:=Tryz.func302.trans (congrArg some (by kernel_rfl))
 f284:=Tryz.func303.trans (congrArg some (by kernel_rfl))
 f285:=Tryz.func304.trans (congrArg some (by kernel_rfl))
 f286:=Tryz.func305.trans (congrArg some (by kernel_rfl))
 f317:=Tryz.func307.trans (congrArg some (by kernel_rfl))
 f318:=Tryz.func308.trans (congrArg some (by kernel_rfl))
 f319:=Tryz.func309.trans (congrArg some (by kernel_rfl))
 f320:=Tryz.func310.trans (congrArg some (by kernel_rfl))
 f337:=Tryz.func311.trans (congrArg some (by kernel_rfl))
 f338:=Tryz.func312.trans (congrArg some (by kernel_rfl))
 t0:=Tryz.underlying0
 a0:=Tryz.isAgg0
 z0:=Tryz.sizeOf0
 v0:=Tryz.zeroValue0
 t2:=Tryz.underlying2
 a2:=Tryz.isAgg2
 z2:=Tryz.sizeOf2
 v2:=Tryz.zeroValue2
 t3:=Tryz.underlying3
 a3:=Tryz.isAgg3
 z3:=Tryz.sizeOf3
 v3:=Tryz.zeroValue3
 t4:=Tryz.underlying4
 a4:=Tryz.isAgg4
 z4:=Tryz.sizeOf4
 v4:=Tryz.zeroValue4
 t5:=Tryz.underlying5
 a5:=Tryz.isAgg5
 z5:=Tryz.sizeOf5
 v5:=Tryz.zeroValue5
 t9:=Tryz.underlying9
 a9:=Tryz.isAgg9
 z9:=Tryz.sizeOf9
 v9:=Tryz.zeroValue9
 t20:=Tryz.underlying20
 a20:=Tryz.isAgg20
 z20:=Tryz.sizeOf20
 v20:=Tryz.zeroValue20
 t37:=Tryz.underlying243
 a37:=Tryz.isAgg243
 z37:=Tryz.sizeOf243
 v37:=Tryz.zeroValue243
 t46:=Tryz.underlying179
 a46:=Tryz.isAgg179
 z46:=Tryz.sizeOf179
 v46:=Tryz.zeroValue179
 t51:=Tryz.underlying203
 a51:=Tryz.isAgg203
 z51:=Tryz.sizeOf203
 v51:=Tryz.zeroValue203
 t53:=Tryz.underlying205
 a53:=Tryz.isAgg205
 z53:=Tryz.sizeOf205
 v53:=Tryz.zeroValue205
 t171:=Tryz.underlying337
 a171:=Tryz.isAgg337
 z171:=Tryz.sizeOf337
 v171:=Tryz.zeroValue337
 t173:=Tryz.underlying339
 a173:=Tryz.isAgg339
 z173:=Tryz.sizeOf339
 v173:=Tryz.zeroValue339
 t212:=Tryz.underlying343
 a212:=Tryz.isAgg343
 z212:=Tryz.sizeOf343
 v212:=Tryz.zeroValue343
 t213:=Tryz.underlying344
 a213:=Tryz.isAgg344
 z213:=Tryz.sizeOf344
 t232:=Tryz.underlying345
 a232:=Tryz.isAgg345
 z232:=Tryz.sizeOf345
 v232:=Tryz.zeroValue345
 t233:=Tryz.underlying346
 a233:=Tryz.isAgg346
 z233:=Tryz.sizeOf346
 v233:=Tryz.zeroValue346
 g17:=by kernel_rfl
 g18:=by kernel_rfl
 g19:=by kernel_rfl
 i0:=by kernel_rfl
 i2:=by kernel_rfl
 i3:=by kernel_rfl
 i4:=by kernel_rfl
 i5:=by kernel_rfl
 i9:=by kernel_rfl
 i20:=by kernel_rfl
 i37:=by kernel_rfl
 i46:=by kernel_rfl
 i51:=by kernel_rfl
 i53:=by kernel_rfl
 i171:=by kernel_rfl
 i173:=by kernel_rfl
 i212:=by kernel_rfl
 i232:=by kernel_rfl
 i233:=by kernel_rfl
 m17:=by kernel_rfl
 m18:=by kernel_rfl
 m19:=by kernel_rfl}
theorem YtflegjieadkonaaGreatDoor.UR (n:Int) (h0: -9223372036854775808≤n) (h1:n≤9223372036854775807) (w:World) (htab:Lib.TabIs Tryz.prog w "internal/strconv.uint64pow10" .u64 Lib.pow10Tab):
  Calls Tryz.prog 273 #[.int .i64 n] w fun e w'=>e= .returned (.string ⟨(Lib.itoa n).toArray⟩)∧ ∃k os,w'=Go.Sort.grow (w.drewN k) os:=Any.strconv_Itoa Tryz.DD n h0 h1 w htab
end Go.Proofs
namespace Go.Proofs.YtflegjieadkonaaGreatDoor
open Go Go.Al
set_option maxRecDepth 10000
theorem VD:Tryz.prog.globalNamed "internal/strconv.uint64pow10" =some 0:=by kernel_rfl
theorem pow_eq:n3=Lib.pow10Tab:=by decide
theorem Vv {M:Mem} {N:Nm} {U:Nat→Prop} {h:AH} {w:World} (hr:Rel M N U h w):Lib.TabIs Tryz.prog w "internal/strconv.uint64pow10" .u64 Lib.pow10Tab:=by
 obtain⟨T,fr,h1⟩:=hr.cZ 0 _ (M.Kk 0 _ rfl);show World.var? _ _ _=_;simp only[World.var?,VD,Option.bind_some,h1,pow_eq]
theorem VV (n:Int) (h0: -9223372036854775808≤n) (h1:n≤9223372036854775807):Pure Tryz.prog 273 [pI n] (pS ⟨(Lib.itoa n).toArray⟩):=by
 refine⟨bM Tryz.func273 rfl (by decide),fun M N w vs hr hlen hv=>?_⟩
 obtain⟨v,rfl⟩: ∃v,vs=[v]:=by
  cases vs with
  |nil=>cases hlen
  |cons v r=>cases r with
   |nil=>exact⟨v,rfl⟩
   |cons a b=>simp at hlen
 have hv0:VR M N (· <0) (pI n) v:=hv 0 _ rfl
 have hvv:v= .int .i64 n:=by
  cases hv0 with
  |iv _ _ h=>cases h;rfl
 subst hvv;refine(UR n h0 h1 w (Vv hr)).mono ?_
 rintro e w' ⟨rfl,k,os,rfl⟩
 have hk: ∀b,b<w.heap.size→(Go.Sort.grow (w.drewN k) os).heap[b]? =w.heap[b]? :=fun b hb=>by
  show(w.heap++os)[b]? =_;rw[Xq hb]
 refine⟨_,M,N,pS ⟨(Lib.itoa n).toArray⟩,[],0,rfl,⟨rfl,rfl,rfl⟩,⟨rfl,rfl,rfl,?_,fun b hb _=>hk b hb, .refl _,fun b c h1 h2=>(nomatch (h1.symm.trans h2)), .refl _ _,fun _ h=>h,fun i o hi=>(nomatch hi)⟩,⟨fun b c hb=>?_,fun i o hi=>(nomatch hi),fun i o hi=>(nomatch hi),fun i o hi=>(nomatch hi),fun i j o p hi=>(nomatch hi)⟩, .iv _ _ (.v _)⟩
 ·show w.heap.size≤(w.heap++os).size
  simp
 ·exact(hr.cZ b c hb).mono (hk b (hr.cZ b c hb).lt)
end Go.Proofs.YtflegjieadkonaaGreatDoor
namespace Go.Al
section
variable {P:Program} {ty:Ty} {nt:Nat} {s:AS} {Q:AQ} {k:List KI}
theorem BP (hty:bE P ty) {all rest:List Oper} {o:Oper} {x:Operand} {t t' u d:Nat} {b:ByteArray} {et et' eu:aB} (ho:o.op= .convert t t' x) (hg:o.guard=none) (ht:ty t=some et) (hk:et.k= .ai .string) (ht':ty t'=some et') (hk':et'.k= .ai (.slice u)) (hu:ty u=some eu) (hku:eu.k= .ai (.int .u8))
  (hx:ev s.f x= .iv (.v (.string b))) (hd:o.dst=some d) (hlt:WU d nt=true) (hb:b.size≤1000000)
  (h:GO P nt (.ops all rest::k) Q ⟨(d, .iv (.cz 1 b.data.toList.length fun k=>te (b.data.toList.getD k default)))::s.f,s.h,s.nx⟩):GO P nt (.ops all (o::rest)::k) Q s:=by
 have hs:P.underlying t=some .string:=by have:=(hty t _ ht).2.1;rw[hk] at this;exact this.1
 have hsl:P.underlying t'=some (.slice u):=by have:=(hty t' _ ht').2.1;rw[hk'] at this;exact this.1
 have hu8:P.underlying u=some (.int .u8):=by have:=(hty u _ hu).2.1;rw[hku] at this;exact this.1
 refine dE (R:=fun t=>t=⟨(d, .iv (.cz 1 b.data.toList.length fun k=>te (b.data.toList.getD k default)))::s.f,s.h,s.nx⟩) hg (OT.value (s1:=s) (p:= .iv (.cz 1 b.data.toList.length fun k=>te (b.data.toList.getD k default))) (by cases s;simp only[putDst,hd,hlt,cond_true,c8]) fun M N a w hf=>?_) fun t ht=>by subst ht;exact h
 have hvx:=aS hf.2.1 x;rw[hx] at hvx
 have hyv:a.eval x= .string b:=by
  generalize a.eval x=v at hvx
  cases hvx with
  |iv _ _ h=>cases h;rfl
 have hrun:=Go.run_bytes_of_string (P:=P) w t t' u b hs hsl hu8;generalize hC:bytesRow b (grownCap w b.size 0 u)=C at hrun
 have hMn:M w.heap.size=none:=by
  cases hm:M w.heap.size with
  |none=>rfl
  |some c=>exact absurd (hf.1.cZ _ _ hm).lt (Nat.lt_irrefl _)
 have hold: ∀c,c<w.heap.size→(w.drew.alloc (.cells C u (C.size,C.size+1))).heap[c]? =w.heap[c]? :=fun c hc=>by
  show(w.heap.push _)[c]? =_;rw[Yq,if_neg (by omega)]
 have hnew:(w.drew.alloc (.cells C u (C.size,C.size+1))).heap[w.heap.size]? =some (.cells C u (C.size,C.size+1)):=by
  show(w.heap.push _)[w.heap.size]? =_;simp
 have hCb: ∀j,j<b.data.toList.length→C[j]? =some (.int .u8 ((b.data.toList.getD j default).toNat:Int)):=by
  intro j hj;have hj':j<b.data.size:=by simpa using hj
  rw[←hC];simp only[bytesRow];rw[Xq (by simpa using hj')];simp[Ws];exact⟨b.data[j],Xa hj',by rw[Xa hj'];rfl⟩
 have hcapge:=grownCap_ge w b.size 0 u;refine⟨.slice (some ⟨w.heap.size,0,none⟩) b.size (grownCap w b.size 0 u),w.drew.alloc (.cells C u (C.size,C.size+1)),M.set w.heap.size (.cells C) hMn,N,?_,?_,?_,?_⟩
 ·simp only[execOp,ho,hyv]
  rw[Sem.run_bind,hrun];rfl
 ·have q1:M.le (M.set w.heap.size (.cells C) hMn):=fun c e hc=>by
   simp only[Mem.set];rw[if_neg fun e2=>by rw[e2,hMn] at hc;cases hc];exact hc
  have q2: ∀c e,M c=none→(M.set w.heap.size (.cells C) hMn) c=some e→w.heap.size≤c∨ ∃i o,s.h.get i=some o∧o.real=true∧N.aG i=c:=fun c e h1 h2=>by
   simp only[Mem.set] at h2;by_cases he:c=w.heap.size
   ·exact .inl (by omega)
   ·rw[if_neg he,h1] at h2
    cases h2
  exact⟨rfl,rfl,rfl,(by show w.heap.size≤(w.heap.push _).size;simp),fun c hc _=>hold c hc,q1,q2, .refl _ _,fun _ h=>h,fun i o hi hre=> .inr ⟨i,o,hi,hre,rfl⟩⟩
 ·have hle:M.le (M.set w.heap.size (.cells C) hMn):=fun c e hc=>by
   simp only[Mem.set];rw[if_neg fun e2=>by rw[e2,hMn] at hc;cases hc];exact hc
  refine⟨⟨fun c e hc=>?_,hf.1.used,fun i o hi hre=>?_,fun i o hi=>?_,hf.1.inj⟩,fun i=>(hf.2.1 i).mono hle (.refl _ _) fun _ h=>h,hf.2.2⟩
  ·simp only[Mem.set] at hc
   by_cases he:c=w.heap.size
   ·rw[if_pos he] at hc;cases hc
    exact⟨u,(C.size,C.size+1),by rw[he];exact hnew⟩
   ·rw[if_neg he] at hc
    exact(hf.1.cZ c e hc).mono (hold c (hf.1.cZ c e hc).lt)
  ·simp only[Mem.set]
   have:=hf.1.lt hi hre;rw[if_neg (by omega)];exact hf.1.dA i o hi hre
  ·cases hre:o.real with
   |true=>exact(hf.1.obj i o hi).mono hle (.refl _ _) (fun _ h=>h) (hf.1.used i o hi) (hold _ (hf.1.lt hi hre))
   |false=>
    cases o with
    |row sz es=>cases es with
     |nil=>exact .inl rfl
     |cons=>cases hre
    |bx l T=>cases l with
     |nil=>exact .inl rfl
     |cons=>cases hre
    |_=>cases hre
 ·have hbl:b.data.toList.length=b.size:=by simp
  rw[←hbl] at hcapge ⊢;by_cases h0:b.data.toList.length=0
  ·rw[h0];exact .iv _ _ (.gp _ _ _ _)
  ·refine .iv _ _ (.cz _ _ _ _ _ _ (by omega) (grownCap_le_maxLen w _ _ _ (by simp only[maxLen];omega)) (fun _ _=>rfl) (fun k j hk hj=>?_) (fun k j p hk hp=>?_))
   ·have hj0:j=0:=by omega
    subst hj0;have:=hCb k hk;simp only[Mem.cell,Mem.set,if_true,WQ,Zd,Yv,this,Option.isSome_some]
   ·have hj0:j=0:=by
     have:=(Wr.1 hp).1;simp[te] at this;exact this
    subst hj0;cases hp;have:=hCb k hk;simp only[Mem.cell,Mem.set,if_true,WQ,Zd,Yv,this,XM];exact .v _
theorem Kj (hty:bE P ty) (l:List UInt8) {all rest:List Oper} {o:Oper} {x:Operand} {t t' u d i n:Nat} {es:List (List PV)} {et et' eu:aB} (ho:o.op= .convert t t' x) (hg:o.guard=none) (ht:ty t=some et) (hk:et.k= .ai (.slice u)) (ht':ty t'=some et') (hk':et'.k= .ai .string) (hu:ty u=some eu) (hku:eu.k= .ai (.int .u8))
  (hx:ev s.f x= .sl i 0 n 1) (hi:s.h.get i=some (.row 1 es)) (hd:o.dst=some d) (hlt:WU d nt=true) (hes:es=l.map fun x=>(te x).map .iv) (hn:n=l.length)
  (h:GO P nt (.ops all rest::k) Q ⟨(d, .iv (.v (.string ⟨l.toArray⟩)))::s.f,s.h,s.nx⟩):GO P nt (.ops all (o::rest)::k) Q s:=by
 have hs:P.underlying t'=some .string:=by have:=(hty t' _ ht').2.1;rw[hk'] at this;exact this.1
 have hsl:P.underlying t=some (.slice u):=by have:=(hty t _ ht).2.1;rw[hk] at this;exact this.1
 have hu8:P.underlying u=some (.int .u8):=by have:=(hty u _ hu).2.1;rw[hku] at this;exact this.1
 subst hn;subst hes;refine dE (R:=fun t=>t=⟨(d, .iv (.v (.string ⟨l.toArray⟩)))::s.f,s.h,s.nx⟩) hg (OT.value (s1:=s) (p:= .iv (.v (.string ⟨l.toArray⟩))) (by cases s;simp only[putDst,hd,hlt,cond_true,c8]) fun M N a w hf=>?_) fun t ht=>by subst ht;exact h
 have hvx:=aS hf.2.1 x;rw[hx] at hvx
 have hrun:(convert t t' (a.eval x)).run P w= .ok (.string ⟨l.toArray⟩) w:=by
  generalize a.eval x=v at hvx
  cases hor:l with
  |nil=>
   rw[hor] at hvx;generalize hq:PV.sl i 0 ([]:List UInt8).length 1=q at hvx
   cases hvx with
   |sl _ _ _ _ _ _ h0=>cases hq;simp at h0
   |lQ _ _ _=>
    have:=run_convert_bytes_nil (P:=P) w t u hsl hu8 0 0 t' hs
    exact this
   |_=>cases hq
  |cons x0 r0=>
   rw[←hor];have hpos:0<l.length:=by rw[hor];simp
   generalize hln:l.length=n at hvx hpos;generalize hq:PV.sl i 0 n 1=q at hvx
   cases hvx with
   |sl _ _ _ _ cap hU h0 hl hc he=>
    cases hq;rcases hf.1.obj i _ hi with hnil|⟨_,c,T,q1,q2,q3,q4,q5⟩
    ·rw[hor] at hnil;cases hnil
    rw[X0,←hln];refine run_convert_bytes_back (P:=P) w t t' u ⟨N.aG i,0,none⟩ cap l hsl hu8 hs fun j hj=>?_;rw[dZ,WQ];have hjc:j<c.size:=by rw[W3] at q3;omega
    have:=q5 j [.iv (.v (.int .u8 (l[j].toNat:Int)))] 0 _ (by rw[Ww,Wt hj];rfl) rfl;rw[Zd,Yv,Wm,Xa hjc,XM] at this;simp only[World.cell?,q1];generalize hcj:c[j]=y at this
    cases this with
    |iv _ _ h=>cases h;simp[hjc,hcj]
   |lQ _ _ _=>cases hq;omega
   |_=>cases hq
 exact⟨_,w,M,N,by simp only[execOp,ho];exact bc hrun, .refl _ _ _ _ _,hf, .iv _ _ (.v _)⟩
theorem rE (hty:bE P ty) {all rest:List Oper} {o:Oper} {x:Operand} {t t' d:Nat} {q kk:IntKind} {n:Int} {et et':aB} (ho:o.op= .convert t t' x) (hg:o.guard=none) (ht:ty t=some et) (hk:et.k= .ai (.int q)) (ht':ty t'=some et') (hk':et'.k= .ai .string)
  (hx:ev s.f x= .iv (.v (.int kk n))) (hd:o.dst=some d) (hlt:WU d nt=true)
  (h:GO P nt (.ops all rest::k) Q ⟨(d, .iv (.v (.string (Utf8.encode n))))::s.f,s.h,s.nx⟩):GO P nt (.ops all (o::rest)::k) Q s:=by
 have hs:P.underlying t'=some .string:=by have:=(hty t' _ ht').2.1;rw[hk'] at this;exact this.1
 have hi:P.underlying t=some (.int q):=by have:=(hty t _ ht).2.1;rw[hk] at this;exact this.1
 refine dE (R:=fun t=>t=⟨(d, .iv (.v (.string (Utf8.encode n))))::s.f,s.h,s.nx⟩) hg (OT.value (s1:=s) (p:= .iv (.v (.string (Utf8.encode n)))) (by cases s;simp only[putDst,hd,hlt,cond_true,c8]) fun M N a w hf=>?_) fun t ht=>by subst ht;exact h
 have hvx:=aS hf.2.1 x;rw[hx] at hvx
 have hyv:a.eval x= .int kk n:=by
  generalize a.eval x=v at hvx
  cases hvx with
  |iv _ _ h=>cases h;rfl
 refine⟨_,w,M,N,?_, .refl _ _ _ _ _,hf, .iv _ _ (.v _)⟩;simp only[execOp,ho,hyv];refine bc ?_;simp[convert,run_underlying hi,run_underlying hs,Conv.intToString]
end
end Go.Al
namespace Go.Proofs.YtflegjieadkonaaGreatDoor
open Go Go.Al
set_option maxRecDepth 10000
def VC:aj:=⟨#[48,49,50,51,52,53,54,55,56,57,65,66,67,68,69,70]⟩
def SG (c:UInt8):Int:=(c.toNat:Int).fdiv (2 ^ min (Int.toNat 4) IntKind.u8.bits)
def SF (c:UInt8):Int:=IntKind.u8.wrap ((BitVec.ofInt IntKind.u8.bits (c.toNat:Int)&&&BitVec.ofInt IntKind.u8.bits 15).toNat:Int)
theorem R7 (c:UInt8):0≤SG c∧SG c<16:=by
 have h:c.toNat<256:=c.toNat_lt
 have e:SG c=(c.toNat:Int)/16:=by
  unfold SG;have:(2:Int) ^ min (Int.toNat 4) IntKind.u8.bits=16:=by decide
  rw[this];exact Int.fdiv_eq_ediv_of_nonneg _ (by decide)
 rw[e];omega
theorem R5: ∀c:UInt8,0≤SF c∧SF c<16:=by
 intro c;have h: ∀n:Fin 256,0≤SF (UInt8.ofNat n.val)∧SF (UInt8.ofNat n.val)<16:=by decide
 have:=h ⟨c.toNat,c.toNat_lt⟩;simpa using this
def UU (n:Int):UInt8:=VC.data.toList.getD n.toNat 0
def qB (c:UInt8):List UInt8:=if c.toNat=34∨c.toNat=92 then[92,c] else if c.toNat=10 then[92,110] else if c.toNat<32∨126<c.toNat then[92,120,UU (SG c),UU (SF c)] else[c]
theorem RV (c:UInt8):(qB c).length≤4:=by
 unfold qB
 repeat' split
 all_goals simp
def pT (s:aj) (i:Nat):List UInt8:=34::(s.data.toList.take i).flatMap qB
def pO (s:aj):aj:=⟨(34::s.data.toList.flatMap qB++ [34]).toArray⟩
theorem sq (s:aj): ∀i,(pT s i).length≤1+4*i
 |0=>by simp[pT]
 |i+1=>by
  have h:=sq s i;rcases W9 i s.data.toList.length with hi|hi
  ·have:=RV (s.data.toList.getD i default)
   simp only[pT,W2] at h ⊢;rw[bI hi,Wn];omega
  ·simp only[pT,WB hi] at h
   simp only[pT,WB (by omega:s.data.toList.length≤i+1)];omega
theorem Bv {s:aj} {i:Nat} (h:i<s.data.toList.length):pT s (i+1)=pT s i++qB (s.data.toList.getD i default):=by
 simp only[pT,bI h,XF]
theorem VU (s:aj) (hs:s.size≤1000):Pure Tryz.prog 274 [pS s] (pS (pO s)):=by
 have hl:s.data.toList.length=s.size:=by simp
 refine ax ae Tryz.func274 rfl (by decide) Tryz.ntmps274 rfl (by simp) rfl ?_;refine gA rfl ?_;refine BP ae rfl rfl rfl rfl rfl rfl rfl rfl rfl rfl rfl (by omega) ?_;refine gA rfl ?_
 refine aK 0 s.data.toList.length (WC _) (fun i=>⟨[(3, .sl 1 0 (pT s i).length 1),(8, .iv (.cz 1 s.data.toList.length fun k=>te (s.data.toList.getD k default))),(9,pI s.data.toList.length),(10,pI i)],[(1,some (aD 1 (pT s i) te))],2⟩) (fun _=>True) [0] trivial
  (wk rfl rfl rfl ⟨.refl _,rfl, .refl _,rfl, .refl _,rfl, .refl _,rfl,trivial⟩ (hR rfl rfl rfl trivial) rfl) fun i hi _=>?_
 have hq:=sq s i;refine gA rfl ?_;refine Wl (fun h1=>?_) (fun h1=>?_);rotate_left
 ·have h1:s.data.toList.length≤i:=Xc fun hh=>absurd (Xe.2 hh) (of_decide_eq_false h1)
  refine gA rfl ?_;refine Kj ae (pT s i++ [34]) rfl rfl rfl rfl rfl rfl rfl rfl rfl rfl rfl rfl (by rw[Wq];rfl) (by rw[Wn];rfl) ?_;refine gA rfl (aw (by first|exact .inr rfl|exact .inl rfl) rfl (.of_eq ?_));simp only[pT,pO,WB h1];rfl
 have h1:i<s.data.toList.length:=Xe.1 (of_decide_eq_true h1);have hsu:=Bv h1;have hgc:s.data.toList.getD (i:Int).toNat default=s.data.toList.getD i default:=rfl;generalize hc:s.data.toList.getD i default=c at hsu hgc;refine gA rfl ?_;refine Wl (fun h2=>?_) (fun h2=>?_)
 ·have h2:c.toNat=34:=by have:=of_decide_eq_true h2;rw[hgc] at this;omega
  rw[qB,if_pos (.inl h2)] at hsu;refine gA rfl ?_;exact⟨h1,trivial,[3],wk rfl rfl rfl ⟨.row (by rw[hsu,Wn];rfl),rfl, .refl _,rfl, .refl _,rfl, .refl _,rfl,trivial⟩ (hR rfl (by rw[hsu,Wq,←hc];rfl) rfl trivial) rfl⟩
 have h2: ¬c.toNat=34:=by have:=of_decide_eq_false h2;rw[hgc] at this;omega
 refine gA rfl ?_;refine Wl (fun h3=>?_) (fun h3=>?_)
 ·have h3:c.toNat=92:=by have:=of_decide_eq_true h3;rw[hgc] at this;omega
  rw[qB,if_pos (.inr h3)] at hsu;refine gA rfl ?_;exact⟨h1,trivial,[3],wk rfl rfl rfl ⟨.row (by rw[hsu,Wn];rfl),rfl, .refl _,rfl, .refl _,rfl, .refl _,rfl,trivial⟩ (hR rfl (by rw[hsu,Wq,←hc];rfl) rfl trivial) rfl⟩
 have h3: ¬c.toNat=92:=by have:=of_decide_eq_false h3;rw[hgc] at this;omega
 rw[qB,if_neg (by omega)] at hsu;refine gA rfl ?_;refine Wl (fun h4=>?_) (fun h4=>?_)
 ·have h4:c.toNat=10:=by have:=of_decide_eq_true h4;rw[hgc] at this;omega
  rw[if_pos h4] at hsu;refine gA rfl ?_;exact⟨h1,trivial,[3],wk rfl rfl rfl ⟨.row (by rw[hsu,Wn];rfl),rfl, .refl _,rfl, .refl _,rfl, .refl _,rfl,trivial⟩ (hR rfl (by rw[hsu,Wq];rfl) rfl trivial) rfl⟩
 have h4: ¬c.toNat=10:=by have:=of_decide_eq_false h4;rw[hgc] at this;omega
 rw[if_neg h4] at hsu;have hhi:=R7 c;have hlo:=R5 c;rw[←hc] at hhi hlo;simp only[SG,SF] at hhi hlo;refine gA rfl ?_;refine Wl (fun h5=>?_) (fun h5=>?_)
 ·have h5:c.toNat<32:=by have:=of_decide_eq_true h5;rw[hgc] at this;omega
  rw[if_pos (.inl h5)] at hsu;refine lU rfl (by(repeat' (first|exact trivial|exact rfl|exact ah.refl _|exact hhi|exact hlo|apply Wl))<;>first|omega|exact hhi.1|exact hhi.2|exact hlo.1|exact hlo.2|simp) ?_;exact⟨h1,trivial,[3],wk rfl rfl rfl ⟨.row (by rw[hsu,Wn];rfl),rfl, .refl _,rfl, .refl _,rfl, .refl _,rfl,trivial⟩ (hR rfl (by rw[hsu,Wq,←hc];rfl) rfl trivial) rfl⟩
 have h5: ¬c.toNat<32:=by have:=of_decide_eq_false h5;rw[hgc] at this;omega
 refine gA rfl ?_;refine Wl (fun h6=>?_) (fun h6=>?_)
 ·have h6:126<c.toNat:=by have:=of_decide_eq_true h6;rw[hgc] at this;omega
  rw[if_pos (.inr h6)] at hsu;refine lU rfl (by(repeat' (first|exact trivial|exact rfl|exact ah.refl _|exact hhi|exact hlo|apply Wl))<;>first|omega|exact hhi.1|exact hhi.2|exact hlo.1|exact hlo.2|simp) ?_;exact⟨h1,trivial,[3],wk rfl rfl rfl ⟨.row (by rw[hsu,Wn];rfl),rfl, .refl _,rfl, .refl _,rfl, .refl _,rfl,trivial⟩ (hR rfl (by rw[hsu,Wq,←hc];rfl) rfl trivial) rfl⟩
 have h6: ¬126<c.toNat:=by have:=of_decide_eq_false h6;rw[hgc] at this;omega
 rw[if_neg (by omega)] at hsu;refine gA rfl ?_;exact⟨h1,trivial,[3],wk rfl rfl rfl ⟨.row (by rw[hsu,Wn];rfl),rfl, .refl _,rfl, .refl _,rfl, .refl _,rfl,trivial⟩ (hR rfl (by rw[hsu,Wq,←hc];rfl) rfl trivial) rfl⟩
def uc (v:tx):aj:=if v.kind=1 then⟨(Lib.itoa v.num).toArray⟩ else if je v.sym then v.sym else pO v.sym
theorem rV {v:tx} (h:gv v=0) (h1:v.kind=1): -2147483647≤v.num∧v.num≤2147483647:=by
 unfold gv at h;rw[if_pos h1] at h;split at h
 ·rename_i h2;exact h2.2
 ·cases h
theorem rU {v:tx} (h:gv v=0) (h1: ¬v.kind=1):v.sym.size≤64:=by
 unfold gv at h;rw[if_neg h1] at h;split at h
 ·split at h
  ·rename_i h2;exact h2.2
  ·cases h
 ·cases h
theorem VW (v:tx) (hv:gv v=0):Pure Tryz.prog 262 [ag v.c] (pS (uc v)):=by
 refine ax ae Tryz.func262 rfl (by decide) Tryz.ntmps262 rfl (by simp) rfl ?_;refine gA rfl ?_;refine Wl (fun h1=>?_) (fun h1=>?_)
 ·have h1:v.kind=1:=by simpa using h1
  have:=rV hv h1;refine gA rfl (an (VV v.num (by omega) (by omega)) rfl rfl rfl rfl rfl rfl ?_);refine gA rfl (aw (by first|exact .inr rfl|exact .inl rfl) rfl (.of_eq ?_));rw[uc,if_pos h1];rfl
 have h1: ¬v.kind=1:=by simpa using h1
 have hs:=rU hv h1;refine gA rfl (an (VO v.sym) rfl rfl rfl rfl rfl rfl ?_);refine gA rfl ?_;refine Wl (fun h2=>?_) (fun h2=>?_)
 ·have h2:je v.sym=true:=h2
  refine gA rfl (aw (by first|exact .inr rfl|exact .inl rfl) rfl (.of_eq ?_));rw[uc,if_neg h1,if_pos h2];rfl
 ·have h2:je v.sym=false:=h2
  refine gA rfl (an (VU v.sym (by omega)) rfl rfl rfl rfl rfl rfl ?_);refine gA rfl (aw (by first|exact .inr rfl|exact .inl rfl) rfl (.of_eq ?_));rw[uc,if_neg h1,if_neg (by rw[h2];simp)];rfl
def qx (v:tx):aj:=if gv v=0 then uc v else⟨#[]⟩
theorem V0 (v:tx):Pure Tryz.prog 244 [ag v.c] (.bP [pS (qx v),pI (gv v)]):=by
 refine ax ae Tryz.func244 rfl (by decide) Tryz.ntmps244 rfl (by simp) rfl ?_;refine gA rfl (an (V5 v) rfl rfl rfl rfl rfl rfl ?_);refine gA rfl ?_;refine Wl (fun h1=>?_) (fun h1=>?_)
 ·have h1: ¬gv v=0:=by simpa using h1
  refine gA rfl (aw (by first|exact .inr rfl|exact .inl rfl) rfl (.of_eq ?_));rw[qx,if_neg h1];rfl
 ·have h1:gv v=0:=by simpa using h1
  refine gA rfl (an (VW v h1) rfl rfl rfl rfl rfl rfl ?_);refine gA rfl (aw (by first|exact .inr rfl|exact .inl rfl) rfl (.of_eq ?_));rw[qx,if_pos h1,h1];rfl
def lW (w:WS) (v:tx):WS:=aV (aR w (decide (gv v=0))) [qx v]
theorem d149 (w:WS) (v:tx) (hb:w.l.length≤1000000000000) (ht:(qx v).size≤1000):cf Tryz.prog 219 [.ptr 0 0,ag v.c] w.O (.bP []) (lW w v).H 3:=by
 refine aH ae Tryz.func219 rfl (by decide) Tryz.ntmps219 rfl (by simp) ?_;refine gA rfl (an (V0 v) rfl rfl rfl rfl rfl rfl ?_);refine gA rfl (bX (d146 ⟨_,_,_,_⟩ (decide (gv v=0))) rfl rfl rfl rfl rfl rfl rfl rfl rfl rfl rfl rfl ?_);refine gA rfl (go_wp (d147 ⟨_,_,_,_⟩ [qx v] (by simp) (by simp[eH,aR];omega)) rfl rfl rfl rfl rfl rfl rfl rfl rfl rfl rfl rfl ?_);refine gA rfl (bn (by first|exact .inr rfl|exact .inl rfl) rfl rfl rfl rfl rfl (by first|exact .refl _|exact .kb _) (by first|exact .refl _|exact .kb _) rfl rfl rfl rfl (.refl _) rfl rfl)
def b8 (op:Int):Int:=if op=1∨op=2 then 1 else if op=3∨op=4∨op=5 then 2 else if op=6 then 3 else 0
theorem KA (op:Int):Pure Tryz.prog 246 [pI op] (pI (b8 op)):=by
 refine ax ae Tryz.func246 rfl (by decide) Tryz.ntmps246 rfl (by simp) rfl ?_
 repeat' (first
  |(refine gA rfl (Wl (fun _=>?_) (fun _=>?_)))
  |(refine gA rfl (aw (by first|exact .inr rfl|exact .inl rfl) rfl (.of_eq ?_))))
 all_goals(refine(Dj ?_:pI _=pI _);simp only[YM,YW,decide_eq_true_eq,decide_eq_false_iff_not] at*;simp_all [b8])
def dp (e:Expr):Int:=if e.kind=4 then b8 e.op else 4
theorem B9 (e:Expr):Pure Tryz.prog 264 [ag e.c] (pI (dp e)):=by
 refine ax ae Tryz.func264 rfl (by decide) Tryz.ntmps264 rfl (by simp) rfl ?_
 repeat' (first
  |(refine gA rfl (Wl (fun _=>?_) (fun _=>?_)))
  |(refine gA rfl (an (KA e.op) rfl rfl rfl rfl rfl rfl ?_))
  |(refine gA rfl (aw (by first|exact .inr rfl|exact .inl rfl) rfl (.of_eq ?_))))
 all_goals(refine(Dj ?_:pI _=pI _);simp_all [dp])
def dq (v:tx):Bool:=decide (v.kind=0)&&(decide (v.num=0)&&(decide (v.sym=Wu)&&true))
def iE (e:Expr):Bool:=decide (e.kind=0)&&(decide (e.var=⟨#[]⟩)&&(dq e.val&&(decide (e.op=0)&&decide ((e.args.length:Int)=0))))
theorem KB (e:Expr):Pure Tryz.prog 245 [ag e.c] (pB (iE e)):=by
 refine ax ae Tryz.func245 rfl (by decide) Tryz.ntmps245 rfl (by simp) rfl ?_
 repeat' (first
  |(refine gA rfl (Wl (fun _=>?_) (fun _=>?_)))
  |(refine gA rfl (aw (by first|exact .inr rfl|exact .inl rfl) rfl (.of_eq ?_))))
 all_goals(refine(lL ?_:pB _=pB _))
 all_goals(simp only[iE,dq, *];rfl)
def j7 (l:Lit):Bool:=
 (decide (l.kind=1)||decide (l.kind=2)||!(!decide (l.atom.rel=⟨#[]⟩)||decide ((l.atom.aq.length:Int)>0)))&&
 ((!(!decide (l.kind=3))||!(!decide (l.op=0)||(!iE l.left||!iE l.right)))&&
 (decide (l.kind=4)||(decide (l.dG=0)&&(decide (l.bp=⟨#[]⟩)&&(iE l.jZ&&decide ((l.ay.length:Int)=0))))))
set_option maxHeartbeats 4000000 in
theorem VZ (l:Lit):Pure Tryz.prog 221 [ag l.c] (pB (j7 l)):=by
 refine ax ae Tryz.func221 rfl (by decide) Tryz.ntmps221 rfl (by simp) rfl ?_
 repeat' (first
  |(refine gA rfl (Wl (fun _=>?_) (fun _=>?_)))
  |(refine gA rfl (an (KB l.left) rfl rfl rfl rfl rfl rfl ?_))
  |(refine gA rfl (an (KB l.right) rfl rfl rfl rfl rfl rfl ?_))
  |(refine gA rfl (an (KB l.jZ) rfl rfl rfl rfl rfl rfl ?_))
  |(refine gA rfl (aw (by first|exact .inr rfl|exact .inl rfl) rfl (.of_eq ?_))))
 all_goals(refine(lL ?_:pB _=pB _))
 all_goals(try simp only[YM,YW] at*)
 all_goals(simp_all [j7])
def lK (op:Int):aj:=if op=1 then⟨#[43]⟩ else if op=2 then⟨#[45]⟩ else if op=3 then⟨#[42]⟩ else if op=4 then⟨#[47]⟩ else⟨#[109,111,100]⟩
def sgL:aj:=⟨#[43,45,42,47]⟩
theorem VT (op:Int):Pure Tryz.prog 265 [pI op] (pS (lK op)):=by
 refine ax ae Tryz.func265 rfl (by decide) Tryz.ntmps265 rfl (by simp) rfl ?_;refine gA rfl ?_;refine uQ ae rfl rfl rfl rfl rfl rfl rfl ?_;refine gA rfl ?_
 refine aK 0 4 (by decide) (fun i=>⟨[(0,pI op),(5, .ptr 0 0)],[(0,some (.dt sgL i))],1⟩) (fun i=> ∀k:Nat,k<i→ ¬(k:Int)+1=op) [] (by simp)
  (wk rfl rfl rfl ⟨.refl _,rfl, .refl _,rfl,trivial⟩ ⟨⟨_,rfl, .of_eq rfl⟩,Wj rfl,trivial,trivial⟩ rfl) fun i hi hJ=>?_
 have hcs:i=0∨i=1∨i=2∨i=3∨i=4:=by omega
 rcases hcs with rfl|rfl|rfl|rfl|rfl
 ·refine gA rfl ?_
  refine kK rfl rfl rfl rfl rfl rfl (fun h=>absurd h (by decide)) (fun _=>?_);refine gA rfl ?_;refine Wl (fun h=>?_) (fun h=>?_)
  ·have h:op=1:=by have:=of_decide_eq_true h;omega
   refine gA rfl ?_;refine rE ae rfl rfl rfl rfl rfl rfl rfl rfl rfl ?_;refine gA rfl (aw (by first|exact .inr rfl|exact .inl rfl) rfl (.of_eq ?_));refine(congrArg pS ?_:pS _=pS _);subst h;decide
  ·have h: ¬op=1:=by have:=of_decide_eq_false h;omega
   refine gA rfl ?_;exact⟨by decide,fun k hk=>(by rcases(by omega:k<0∨k=0) with h'|rfl;exact hJ k h';omega),[],wk rfl rfl rfl ⟨.refl _,rfl, .refl _,rfl,trivial⟩ ⟨⟨_,rfl, .of_eq rfl⟩,Wj rfl,trivial,trivial⟩ rfl⟩
 ·refine gA rfl ?_
  refine kK rfl rfl rfl rfl rfl rfl (fun h=>absurd h (by decide)) (fun _=>?_);refine gA rfl ?_;refine Wl (fun h=>?_) (fun h=>?_)
  ·have h:op=2:=by have:=of_decide_eq_true h;omega
   refine gA rfl ?_;refine rE ae rfl rfl rfl rfl rfl rfl rfl rfl rfl ?_;refine gA rfl (aw (by first|exact .inr rfl|exact .inl rfl) rfl (.of_eq ?_));refine(congrArg pS ?_:pS _=pS _);subst h;decide
  ·have h: ¬op=2:=by have:=of_decide_eq_false h;omega
   refine gA rfl ?_;exact⟨by decide,fun k hk=>(by rcases(by omega:k<1∨k=1) with h'|rfl;exact hJ k h';omega),[],wk rfl rfl rfl ⟨.refl _,rfl, .refl _,rfl,trivial⟩ ⟨⟨_,rfl, .of_eq rfl⟩,Wj rfl,trivial,trivial⟩ rfl⟩
 ·refine gA rfl ?_
  refine kK rfl rfl rfl rfl rfl rfl (fun h=>absurd h (by decide)) (fun _=>?_);refine gA rfl ?_;refine Wl (fun h=>?_) (fun h=>?_)
  ·have h:op=3:=by have:=of_decide_eq_true h;omega
   refine gA rfl ?_;refine rE ae rfl rfl rfl rfl rfl rfl rfl rfl rfl ?_;refine gA rfl (aw (by first|exact .inr rfl|exact .inl rfl) rfl (.of_eq ?_));refine(congrArg pS ?_:pS _=pS _);subst h;decide
  ·have h: ¬op=3:=by have:=of_decide_eq_false h;omega
   refine gA rfl ?_;exact⟨by decide,fun k hk=>(by rcases(by omega:k<2∨k=2) with h'|rfl;exact hJ k h';omega),[],wk rfl rfl rfl ⟨.refl _,rfl, .refl _,rfl,trivial⟩ ⟨⟨_,rfl, .of_eq rfl⟩,Wj rfl,trivial,trivial⟩ rfl⟩
 ·refine gA rfl ?_
  refine kK rfl rfl rfl rfl rfl rfl (fun h=>absurd h (by decide)) (fun _=>?_);refine gA rfl ?_;refine Wl (fun h=>?_) (fun h=>?_)
  ·have h:op=4:=by have:=of_decide_eq_true h;omega
   refine gA rfl ?_;refine rE ae rfl rfl rfl rfl rfl rfl rfl rfl rfl ?_;refine gA rfl (aw (by first|exact .inr rfl|exact .inl rfl) rfl (.of_eq ?_));refine(congrArg pS ?_:pS _=pS _);subst h;decide
  ·have h: ¬op=4:=by have:=of_decide_eq_false h;omega
   refine gA rfl ?_;exact⟨by decide,fun k hk=>(by rcases(by omega:k<3∨k=3) with h'|rfl;exact hJ k h';omega),[],wk rfl rfl rfl ⟨.refl _,rfl, .refl _,rfl,trivial⟩ ⟨⟨_,rfl, .of_eq rfl⟩,Wj rfl,trivial,trivial⟩ rfl⟩
 ·refine gA rfl ?_
  refine kK rfl rfl rfl rfl rfl rfl (fun _=>?_) (fun h=>absurd h (by decide));refine gA rfl (aw (by first|exact .inr rfl|exact .inl rfl) rfl (.of_eq ?_));have h1:=hJ 0 (by decide);have h2:=hJ 1 (by decide);have h3:=hJ 2 (by decide);have h4:=hJ 3 (by decide);rw[lK,if_neg (by omega),if_neg (by omega),if_neg (by omega),if_neg (by omega)];rfl
end Go.Proofs.YtflegjieadkonaaGreatDoor
namespace Go.Proofs.YtflegjieadkonaaGreatDoor
open Go Go.Al
set_option maxRecDepth 10000
theorem yP (s:aj):(pO s).size≤2+4*s.size:=by
 have h:=sq s s.data.toList.length;simp only[pT,Ya,W2] at h;have e:(pO s).size=(34::s.data.toList.flatMap qB++ [34]).length:=by simp[pO,Zt]
 have:s.data.toList.length=s.size:=by simp
 rw[e,Wn,W2,Xp];omega
theorem pD (v:tx):(qx v).size≤300:=by
 unfold qx;split
 ·rename_i hv
  unfold uc;split
  ·rename_i h1
   have:=rV hv h1;have h2:=Lib.itoa_length_le v.num (by omega) (by omega);have e:(⟨(Lib.itoa v.num).toArray⟩:ByteArray).size=(Lib.itoa v.num).length:=by simp[Zt]
   omega
  ·rename_i h1
   have h2:=rU hv h1;split
   ·omega
   ·have:=yP v.sym;omega
 ·decide
mutual
def Expr.ts:Expr→Nat
 | .mk _ v _ _ args=>v.size+400+Expr.lJ args
def Expr.lJ:List Expr→Nat
 | []=>0
 |e::r=>e.ts+Expr.lJ r
end
theorem Expr.qw (e:Expr):e.ts=e.var.size+400+Expr.lJ e.args:=by cases e;rfl
theorem Expr.vh: ∀(l:List Expr) (k:Nat),k<l.length→(l.getD k default).ts≤Expr.lJ l
 |e::r,0,_=>by simp[Expr.lJ]
 |e::r,k+1,h=>by
  have:=Expr.vh r k (by simpa using h)
  simp only[XO,Expr.lJ];omega
 | [],k,h=>by simp at h
theorem Expr.zF: ∀(l:List Expr),l.length=2→(l.getD 0 default).ts+(l.getD 1 default).ts≤Expr.lJ l
 | [a,b],_=>by simp[Expr.lJ]
 | [],h=>by simp at h
 | [a],h=>by simp at h
 |a::b::c::r,h=>by simp at h
def sM:aj:=⟨#[45]⟩
def sO:aj:=⟨#[40]⟩
def sC:aj:=⟨#[41]⟩
def zN:aj:=⟨#[32]⟩
def mO (w:WS):WS:=⟨w.fr,w.l,true,w.br⟩
def nC (e:Expr):Bool:=eV e.var&&(dq e.val&&(decide (e.op=0)&&decide ((e.args.length:Int)=0)))
def oN (e:Expr):Bool:=decide (e.var=⟨#[]⟩)&&(decide (e.op=0)&&decide ((e.args.length:Int)=0))
def re (e:Expr):Bool:=decide (e.var=⟨#[]⟩)&&(dq e.val&&decide (b8 e.op>0))
def bT (e:Expr):Expr:=e.args.getD 0 default
def wi (e:Expr):Expr:=e.args.getD 1 default
def vI (e:Expr):Bool:=decide (e.kind=2)&&decide (e.val.kind=1)
def lM (a:Expr):Bool:=decide (dp a<3)||(vI a&&decide (a.val.num>0))
def jg (w:WS) (e:Expr) (k:WS):WS:=
 if w.bad=true then mO w else if e.kind=1 then aV (aR w (nC e)) [e.var] else if e.kind=2 then lW (aR w (oN e)) e.val else if e.kind=4 then k else mO w
def kB (arg:Bool→WS→Expr→WS) (w:WS) (e:Expr):WS:=
 if w.bad=true then mO w else if e.op=6 then
  (if e.args.length=1 then arg (lM (bT e)) (if(vI (bT e)&&decide ((bT e).val.num=0))=true then aV (aV w [sM]) [sM] else aV w [sM]) (bT e) else mO w)
 else if e.args.length=2 then arg (decide (dp (wi e)≤b8 e.op)) (aV (arg (decide (dp (bT e)<b8 e.op)) w (bT e)) [zN,lK e.op,zN]) (wi e) else mO w
def cG:Nat→WS→Expr→WS
 |0,w,_=>mO w
 |1,w,e=>jg w e (mO (aR w (re e)))
 |m+2,w,e=>jg w e (kB (fun must w a=>if must=true then aV (cG m (aV w [sO]) a) [sC] else cG (m+1) w a) (aR w (re e)) e)
def tQ (m:Nat) (must:Bool) (w:WS) (a:Expr):WS:=if must=true then aV (cG m (aV w [sO]) a) [sC] else cG (m+1) w a
theorem aQ (w:WS) (b:Bool):(aR w b).l=w.l:=rfl
theorem eT (w:WS):(mO w).l=w.l:=rfl
theorem bC (s:aj):eH [s]=s.size:=by simp[eH]
theorem wQ (op:Int):(lK op).size≤3:=by
 unfold lK
 repeat' split
 all_goals decide
theorem aP (w:WS) (s:aj):(aV w [s]).l.length=w.l.length+s.size:=by rw[gY,bC]
theorem rT (w:WS) (v:tx):(lW w v).l.length≤w.l.length+300:=by
 have:=pD v;rw[lW,aP,aQ];omega
theorem uK (w k:WS) (e:Expr) (h:k.l.length≤w.l.length+e.ts):(jg w e k).l.length≤w.l.length+e.ts:=by
 have:=e.qw;unfold jg
 repeat' split
 ·rw[eT];omega
 ·rw[aP,aQ];omega
 ·have:=rT (aR w (oN e)) e.val
  rw[aQ] at this;omega
 ·exact h
 ·rw[eT];omega
theorem By (arg:Bool→WS→Expr→WS) (harg: ∀b w a,(arg b w a).l.length≤w.l.length+(2+a.ts)) (w:WS) (e:Expr):(kB arg w e).l.length≤w.l.length+e.ts:=by
 have h0:=e.qw;unfold kB;split
 ·rw[eT];omega
 split
 ·split
  ·rename_i h1
   have hg:=Expr.vh e.args 0 (by omega);have e1:sM.size=1:=rfl;split
   ·have:=harg (lM (bT e)) (aV (aV w [sM]) [sM]) (bT e)
    rw[aP,aP] at this;simp only[bT] at this ⊢;omega
   ·have:=harg (lM (bT e)) (aV w [sM]) (bT e)
    rw[aP] at this;simp only[bT] at this ⊢;omega
  ·rw[eT];omega
 ·split
  ·rename_i h1
   have hg:=Expr.zF e.args h1;have h2:=harg (decide (dp (wi e)≤b8 e.op)) (aV (arg (decide (dp (bT e)<b8 e.op)) w (bT e)) [zN,lK e.op,zN]) (wi e);have h3:=harg (decide (dp (bT e)<b8 e.op)) w (bT e);have h4:=wQ e.op;have e1:zN.size=1:=rfl;rw[gY] at h2;have e2:eH [zN,lK e.op,zN]=1+((lK e.op).size+1):=by simp[eH,e1]
   simp only[bT,wi] at*;omega
  ·rw[eT];omega
theorem cU: ∀(n:Nat) (w:WS) (e:Expr),(cG n w e).l.length≤w.l.length+e.ts
 |0,w,e=>by rw[cG,eT];omega
 |1,w,e=>by rw[cG];exact uK _ _ _ (by rw[eT,aQ];omega)
 |m+2,w,e=>by
  rw[cG];refine uK _ _ _ ?_
  have:=By (fun must w a=>if must=true then aV (cG m (aV w [sO]) a) [sC] else cG (m+1) w a) (fun b w a=>by
   split
   ·have h1:=cU m (aV w [sO]) a
    have e1:sO.size=1:=rfl;have e2:sC.size=1:=rfl;rw[aP] at h1 ⊢;omega
   ·have:=cU (m+1) w a
    omega) (aR w (re e)) e
  rwa[aQ] at this
theorem EC (m:Nat) (b:Bool) (w:WS) (a:Expr):(tQ m b w a).l.length≤w.l.length+(2+a.ts):=by
 unfold tQ;split
 ·have h1:=cU m (aV w [sO]) a
  have e1:sO.size=1:=rfl;have e2:sC.size=1:=rfl;rw[aP] at h1 ⊢;omega
 ·have:=cU (m+1) w a
  omega
def PE (n:Nat):Prop:= ∀(d:Int) (w:WS) (e:Expr),d+1=n→w.l.length+e.ts≤1000000000→cf Tryz.prog 222 [.ptr 0 0,ag e.c,pI d] w.O (.bP []) (cG n w e).H 3
theorem d225 (n:Nat) (hn:n≤1000) (hA:PE (n+1)) (hB:PE n) (must:Bool) (d:Int) (hd:d=n) (w:WS) (e:Expr) (hb:w.l.length+e.ts+2≤1000000000):cf Tryz.prog 263 [.ptr 0 0,ag e.c,pB must,pI d] w.O (.bP []) (tQ n must w e).H 3:=by
 refine aH ae Tryz.func263 rfl (by decide) Tryz.ntmps263 rfl (by simp) ?_;refine gA rfl ?_;refine Wl (fun h=>?_) (fun h=>?_)
 ·have h:must=false:=by simpa using h
  rw[tQ,if_neg (by rw[h];simp)];refine gA rfl (bX (hA d w e (by omega) (by omega)) rfl rfl rfl rfl rfl rfl rfl rfl rfl rfl rfl rfl ?_);refine gA rfl (bn (by first|exact .inr rfl|exact .inl rfl) rfl rfl rfl rfl rfl (by first|exact .refl _|exact .kb _) (by first|exact .refl _|exact .kb _) rfl rfl rfl rfl (.refl _) rfl rfl)
 ·have h:must=true:=by simpa using h
  rw[tQ,if_pos h];have e1:sO.size=1:=rfl;have e2:sC.size=1:=rfl;have hl:=cU n (aV w [sO]) e;have hp:=aP w sO;refine gA rfl (go_wp (d147 w [sO] (by simp) (by rw[bC,e1];omega)) rfl rfl rfl rfl rfl rfl rfl rfl rfl rfl rfl rfl ?_);refine gA rfl (bX (hB (d-1) (aV w [sO]) e (by omega) (by omega)) rfl rfl rfl rfl rfl rfl rfl rfl rfl rfl rfl rfl ?_);refine gA rfl (go_wp (d147 (cG n (aV w [sO]) e) [sC] (by simp) (by rw[bC,e2];omega)) rfl rfl rfl rfl rfl rfl rfl rfl rfl rfl rfl rfl ?_);refine gA rfl (bn (by first|exact .inr rfl|exact .inl rfl) rfl rfl rfl rfl rfl (by first|exact .refl _|exact .kb _) (by first|exact .refl _|exact .kb _) rfl rfl rfl rfl (.refl _) rfl rfl)
theorem U7 (d:Int) (hd:d<0) (w:WS) (e:Expr):cf Tryz.prog 247 [.ptr 0 0,ag e.c,pI d] w.O (.bP []) (mO w).H 3:=by
 refine aH ae Tryz.func247 rfl (by decide) Tryz.ntmps247 rfl (by simp) ?_
 repeat' (first
  |((rename_i h;exact absurd hd (of_decide_eq_false h)))
  |(refine gA rfl (Wl (fun _=>?_) (fun _=>?_)))
  |(refine gA rfl (bn (by first|exact .inr rfl|exact .inl rfl) rfl rfl rfl rfl rfl (by first|exact .refl _|exact .kb _) (by first|exact .refl _|exact .kb _) rfl rfl rfl rfl (.refl _) rfl rfl)))
set_option maxHeartbeats 2000000 in
theorem d213 (m:Nat) (hm:m≤900) (hA:PE (m+1)) (hB:PE m) (d:Int) (hd:d=m) (w:WS) (e:Expr) (hb:w.l.length+e.ts≤1000000000):cf Tryz.prog 247 [.ptr 0 0,ag e.c,pI d] w.O (.bP []) (kB (tQ m) w e).H 3:=by
 refine cf.le (aa:=[.ptr 0 0,ag e.c,pI d]) (args:=[.ptr 0 0,ag e.c1,pI d]) ?_ ⟨.refl _,e.Ac, .refl _,trivial⟩;have hts:=e.qw;have e1:sM.size=1:=rfl;have hm':m≤1000:=by omega
 refine aH ae Tryz.func247 rfl (by decide) Tryz.ntmps247 rfl (by simp) ?_;refine gA rfl ?_;refine Wl (fun h6=>?_) (fun h6=>?_)
 ·have h6:e.op=6:=of_decide_eq_true h6
  refine gA rfl ?_;refine Wl (fun h1=>?_) (fun h1=>?_);rotate_left
  ·have h1:w.bad=true:=h1
   rw[kB,if_pos h1];refine gA rfl (bn (by first|exact .inr rfl|exact .inl rfl) rfl rfl rfl rfl rfl (by first|exact .refl _|exact .kb _) (by first|exact .refl _|exact .kb _) rfl rfl rfl rfl (.refl _) rfl rfl)
  have h1: ¬w.bad=true:=by rw[show w.bad=false from h1];simp
  refine gA rfl ?_;refine Wl (fun h2=>?_) (fun h2=>?_);rotate_left
  ·have h2: ¬e.args.length=1:=by simp at h2;omega
   rw[kB,if_neg h1,if_pos h6,if_neg h2];refine gA rfl (bn (by first|exact .inr rfl|exact .inl rfl) rfl rfl rfl rfl rfl (by first|exact .refl _|exact .kb _) (by first|exact .refl _|exact .kb _) rfl rfl rfl rfl (.refl _) rfl rfl)
  have h2:e.args.length=1:=by simp at h2;omega
  have hg:(bT e).ts≤_:=Expr.vh e.args 0 (by omega);have hop:kB (tQ m) w e=tQ m (lM (bT e)) (if(vI (bT e)&&decide ((bT e).val.num=0))=true then aV (aV w [sM]) [sM] else aV w [sM]) (bT e):=by rw[kB,if_neg h1,if_pos h6,if_pos h2]
  have hga:e.args.getD 0 default=bT e:=rfl;refine gA rfl ?_;refine Wl (fun h3=>?_) (fun h3=>?_)
  ·exact absurd (of_decide_eq_true h3) (by omega)
  refine gA rfl ?_;refine Wl (fun h7=>?_) (fun h7=>?_);rotate_left
  ·exact absurd (of_decide_eq_false h7) (by simp)
  have hl1:=aP w sM;refine gA rfl ?_;refine Wl (fun hk=>?_) (fun hk=>?_)
  ·have hk':(bT e).kind=2:=of_decide_eq_true hk
   refine gA rfl (go_wp (d147 w [sM] (by simp) (by rw[bC,e1];omega)) rfl rfl rfl rfl rfl rfl rfl rfl rfl rfl rfl rfl ?_);refine gA rfl ?_;refine Wl (fun hv=>?_) (fun hv=>?_);rotate_left
   ·have hv': ¬(bT e).val.kind=1:=of_decide_eq_false hv
    have hnb:vI (bT e)=false:=by rw[vI,decide_eq_false hv',Yu]
    rw[hnb,Yd,if_neg (by simp)] at hop;refine gA rfl (aX ae [] (Pure.lS (B9 (bT e))) rfl rfl rfl rfl rfl rfl rfl rfl rfl rfl rfl rfl (by(repeat' (first|exact trivial|exact rfl|exact ah.refl _|exact ah.bk (by assumption)|apply Wl))<;>first|omega|(simp only[Wp];omega)|(simp;done)|(simp;omega)) rfl (by(repeat' (first|exact trivial|exact rfl|exact ah.refl _|exact ah.bk (by assumption)|apply Wl))<;>first|omega|(simp only[Wp];omega)|(simp;done)|(simp;omega)) ?_);refine gA rfl ?_;refine Wl (fun hb3=>?_) (fun hb3=>?_)
    ·have hb3':dp (bT e)<3:=of_decide_eq_true hb3
     rw[lM,decide_eq_true hb3',Y7] at hop;rw[hop];refine gA rfl (nG (d225 m hm' hA hB true d hd (aV w [sM]) (bT e) (by rw[hl1,e1];omega)) rfl rfl rfl rfl rfl rfl rfl rfl rfl rfl rfl rfl rfl rfl rfl rfl (by(repeat' (first|exact trivial|exact rfl|exact ah.refl _|exact ah.bk (by assumption)|apply Wl))<;>first|omega|(simp only[Wp];omega)|(simp;done)|(simp;omega)) rfl (by(repeat' (first|exact trivial|exact rfl|exact ah.refl _|exact ah.bk (by assumption)|apply Wl))<;>first|omega|(simp only[Wp];omega)|(simp;done)|(simp;omega)) ?_);refine gA rfl (bn (by first|exact .inr rfl|exact .inl rfl) rfl rfl rfl rfl rfl (by first|exact .refl _|exact .kb _) (by first|exact .refl _|exact .kb _) rfl rfl rfl rfl (.refl _) rfl rfl)
    ·have hb3': ¬dp (bT e)<3:=of_decide_eq_false hb3
     refine gA rfl ?_;refine Wl (fun hz=>?_) (fun hz=>?_)
     ·exact absurd (of_decide_eq_true hz) hv'
     rw[lM,decide_eq_false hb3',Yb,hnb,Yd] at hop;rw[hop];refine gA rfl (nG (d225 m hm' hA hB false d hd (aV w [sM]) (bT e) (by rw[hl1,e1];omega)) rfl rfl rfl rfl rfl rfl rfl rfl rfl rfl rfl rfl rfl rfl rfl rfl (by(repeat' (first|exact trivial|exact rfl|exact ah.refl _|exact ah.bk (by assumption)|apply Wl))<;>first|omega|(simp only[Wp];omega)|(simp;done)|(simp;omega)) rfl (by(repeat' (first|exact trivial|exact rfl|exact ah.refl _|exact ah.bk (by assumption)|apply Wl))<;>first|omega|(simp only[Wp];omega)|(simp;done)|(simp;omega)) ?_);refine gA rfl (bn (by first|exact .inr rfl|exact .inl rfl) rfl rfl rfl rfl rfl (by first|exact .refl _|exact .kb _) (by first|exact .refl _|exact .kb _) rfl rfl rfl rfl (.refl _) rfl rfl)
   ·have hv':(bT e).val.kind=1:=of_decide_eq_true hv
    have hnb:vI (bT e)=true:=by rw[vI,decide_eq_true hv',decide_eq_true hk'];rfl
    rw[hnb,YA] at hop;refine gA rfl ?_;refine Wl (fun h0=>?_) (fun h0=>?_)
    ·have h0':(bT e).val.num=0:=of_decide_eq_true h0
     rw[if_pos (decide_eq_true h0')] at hop;refine gA rfl (go_wp (d147 (aV w [sM]) [sM] (by simp) (by rw[bC,hl1,e1];omega)) rfl rfl rfl rfl rfl rfl rfl rfl rfl rfl rfl rfl ?_);refine gA rfl (aX ae [] (Pure.lS (B9 (bT e))) rfl rfl rfl rfl rfl rfl rfl rfl rfl rfl rfl rfl (by(repeat' (first|exact trivial|exact rfl|exact ah.refl _|exact ah.bk (by assumption)|apply Wl))<;>first|omega|(simp only[Wp];omega)|(simp;done)|(simp;omega)) rfl (by(repeat' (first|exact trivial|exact rfl|exact ah.refl _|exact ah.bk (by assumption)|apply Wl))<;>first|omega|(simp only[Wp];omega)|(simp;done)|(simp;omega)) ?_);refine gA rfl ?_;refine Wl (fun hb3=>?_) (fun hb3=>?_)
     ·have hb3':dp (bT e)<3:=of_decide_eq_true hb3
      rw[lM,decide_eq_true hb3',Y7] at hop;rw[hop];refine gA rfl (nG (d225 m hm' hA hB true d hd (aV (aV w [sM]) [sM]) (bT e) (by rw[aP,hl1,e1];omega)) rfl rfl rfl rfl rfl rfl rfl rfl rfl rfl rfl rfl rfl rfl rfl rfl (by(repeat' (first|exact trivial|exact rfl|exact ah.refl _|exact ah.bk (by assumption)|apply Wl))<;>first|omega|(simp only[Wp];omega)|(simp;done)|(simp;omega)) rfl (by(repeat' (first|exact trivial|exact rfl|exact ah.refl _|exact ah.bk (by assumption)|apply Wl))<;>first|omega|(simp only[Wp];omega)|(simp;done)|(simp;omega)) ?_);refine gA rfl (bn (by first|exact .inr rfl|exact .inl rfl) rfl rfl rfl rfl rfl (by first|exact .refl _|exact .kb _) (by first|exact .refl _|exact .kb _) rfl rfl rfl rfl (.refl _) rfl rfl)
     ·have hb3': ¬dp (bT e)<3:=of_decide_eq_false hb3
      refine gA rfl ?_;refine Wl (fun hz=>?_) (fun hz=>?_);rotate_left
      ·exact absurd hv' (of_decide_eq_false hz)
      rw[lM,decide_eq_false hb3',Yb,hnb,YA] at hop;rw[hop];refine gA rfl (nG (d225 m hm' hA hB (decide ((bT e).val.num>0)) d hd (aV (aV w [sM]) [sM]) (bT e) (by rw[aP,hl1,e1];omega)) rfl rfl rfl rfl rfl rfl rfl rfl rfl rfl rfl rfl rfl rfl rfl rfl (by(repeat' (first|exact trivial|exact rfl|exact ah.refl _|exact ah.bk (by assumption)|apply Wl))<;>first|omega|(simp only[Wp];omega)|(simp;done)|(simp;omega)) rfl (by(repeat' (first|exact trivial|exact rfl|exact ah.refl _|exact ah.bk (by assumption)|apply Wl))<;>first|omega|(simp only[Wp];omega)|(simp;done)|(simp;omega)) ?_);refine gA rfl (bn (by first|exact .inr rfl|exact .inl rfl) rfl rfl rfl rfl rfl (by first|exact .refl _|exact .kb _) (by first|exact .refl _|exact .kb _) rfl rfl rfl rfl (.refl _) rfl rfl)
    ·have h0': ¬(bT e).val.num=0:=of_decide_eq_false h0
     rw[if_neg (by simpa using h0')] at hop;refine gA rfl (aX ae [] (Pure.lS (B9 (bT e))) rfl rfl rfl rfl rfl rfl rfl rfl rfl rfl rfl rfl (by(repeat' (first|exact trivial|exact rfl|exact ah.refl _|exact ah.bk (by assumption)|apply Wl))<;>first|omega|(simp only[Wp];omega)|(simp;done)|(simp;omega)) rfl (by(repeat' (first|exact trivial|exact rfl|exact ah.refl _|exact ah.bk (by assumption)|apply Wl))<;>first|omega|(simp only[Wp];omega)|(simp;done)|(simp;omega)) ?_);refine gA rfl ?_;refine Wl (fun hb3=>?_) (fun hb3=>?_)
     ·have hb3':dp (bT e)<3:=of_decide_eq_true hb3
      rw[lM,decide_eq_true hb3',Y7] at hop;rw[hop];refine gA rfl (nG (d225 m hm' hA hB true d hd (aV w [sM]) (bT e) (by rw[hl1,e1];omega)) rfl rfl rfl rfl rfl rfl rfl rfl rfl rfl rfl rfl rfl rfl rfl rfl (by(repeat' (first|exact trivial|exact rfl|exact ah.refl _|exact ah.bk (by assumption)|apply Wl))<;>first|omega|(simp only[Wp];omega)|(simp;done)|(simp;omega)) rfl (by(repeat' (first|exact trivial|exact rfl|exact ah.refl _|exact ah.bk (by assumption)|apply Wl))<;>first|omega|(simp only[Wp];omega)|(simp;done)|(simp;omega)) ?_);refine gA rfl (bn (by first|exact .inr rfl|exact .inl rfl) rfl rfl rfl rfl rfl (by first|exact .refl _|exact .kb _) (by first|exact .refl _|exact .kb _) rfl rfl rfl rfl (.refl _) rfl rfl)
     ·have hb3': ¬dp (bT e)<3:=of_decide_eq_false hb3
      refine gA rfl ?_;refine Wl (fun hz=>?_) (fun hz=>?_);rotate_left
      ·exact absurd hv' (of_decide_eq_false hz)
      rw[lM,decide_eq_false hb3',Yb,hnb,YA] at hop;rw[hop];refine gA rfl (nG (d225 m hm' hA hB (decide ((bT e).val.num>0)) d hd (aV w [sM]) (bT e) (by rw[hl1,e1];omega)) rfl rfl rfl rfl rfl rfl rfl rfl rfl rfl rfl rfl rfl rfl rfl rfl (by(repeat' (first|exact trivial|exact rfl|exact ah.refl _|exact ah.bk (by assumption)|apply Wl))<;>first|omega|(simp only[Wp];omega)|(simp;done)|(simp;omega)) rfl (by(repeat' (first|exact trivial|exact rfl|exact ah.refl _|exact ah.bk (by assumption)|apply Wl))<;>first|omega|(simp only[Wp];omega)|(simp;done)|(simp;omega)) ?_);refine gA rfl (bn (by first|exact .inr rfl|exact .inl rfl) rfl rfl rfl rfl rfl (by first|exact .refl _|exact .kb _) (by first|exact .refl _|exact .kb _) rfl rfl rfl rfl (.refl _) rfl rfl)
  ·have hk': ¬(bT e).kind=2:=of_decide_eq_false hk
   have hnb:vI (bT e)=false:=by rw[vI,decide_eq_false hk'];rfl
   rw[hnb,Yd,if_neg (by simp)] at hop;refine gA rfl (go_wp (d147 w [sM] (by simp) (by rw[bC,e1];omega)) rfl rfl rfl rfl rfl rfl rfl rfl rfl rfl rfl rfl ?_);refine gA rfl (aX ae [] (Pure.lS (B9 (bT e))) rfl rfl rfl rfl rfl rfl rfl rfl rfl rfl rfl rfl (by(repeat' (first|exact trivial|exact rfl|exact ah.refl _|exact ah.bk (by assumption)|apply Wl))<;>first|omega|(simp only[Wp];omega)|(simp;done)|(simp;omega)) rfl (by(repeat' (first|exact trivial|exact rfl|exact ah.refl _|exact ah.bk (by assumption)|apply Wl))<;>first|omega|(simp only[Wp];omega)|(simp;done)|(simp;omega)) ?_);refine gA rfl ?_;refine Wl (fun hb3=>?_) (fun hb3=>?_)
   ·have hb3':dp (bT e)<3:=of_decide_eq_true hb3
    rw[lM,decide_eq_true hb3',Y7] at hop;rw[hop];refine gA rfl (nG (d225 m hm' hA hB true d hd (aV w [sM]) (bT e) (by rw[hl1,e1];omega)) rfl rfl rfl rfl rfl rfl rfl rfl rfl rfl rfl rfl rfl rfl rfl rfl (by(repeat' (first|exact trivial|exact rfl|exact ah.refl _|exact ah.bk (by assumption)|apply Wl))<;>first|omega|(simp only[Wp];omega)|(simp;done)|(simp;omega)) rfl (by(repeat' (first|exact trivial|exact rfl|exact ah.refl _|exact ah.bk (by assumption)|apply Wl))<;>first|omega|(simp only[Wp];omega)|(simp;done)|(simp;omega)) ?_);refine gA rfl (bn (by first|exact .inr rfl|exact .inl rfl) rfl rfl rfl rfl rfl (by first|exact .refl _|exact .kb _) (by first|exact .refl _|exact .kb _) rfl rfl rfl rfl (.refl _) rfl rfl)
   ·have hb3': ¬dp (bT e)<3:=of_decide_eq_false hb3
    rw[lM,decide_eq_false hb3',Yb,hnb,Yd] at hop;rw[hop];refine gA rfl (nG (d225 m hm' hA hB false d hd (aV w [sM]) (bT e) (by rw[hl1,e1];omega)) rfl rfl rfl rfl rfl rfl rfl rfl rfl rfl rfl rfl rfl rfl rfl rfl (by(repeat' (first|exact trivial|exact rfl|exact ah.refl _|exact ah.bk (by assumption)|apply Wl))<;>first|omega|(simp only[Wp];omega)|(simp;done)|(simp;omega)) rfl (by(repeat' (first|exact trivial|exact rfl|exact ah.refl _|exact ah.bk (by assumption)|apply Wl))<;>first|omega|(simp only[Wp];omega)|(simp;done)|(simp;omega)) ?_);refine gA rfl (bn (by first|exact .inr rfl|exact .inl rfl) rfl rfl rfl rfl rfl (by first|exact .refl _|exact .kb _) (by first|exact .refl _|exact .kb _) rfl rfl rfl rfl (.refl _) rfl rfl)
 ·have h6: ¬e.op=6:=of_decide_eq_false h6
  refine gA rfl ?_;refine Wl (fun h1=>?_) (fun h1=>?_);rotate_left
  ·have h1:w.bad=true:=h1
   rw[kB,if_pos h1];refine gA rfl (bn (by first|exact .inr rfl|exact .inl rfl) rfl rfl rfl rfl rfl (by first|exact .refl _|exact .kb _) (by first|exact .refl _|exact .kb _) rfl rfl rfl rfl (.refl _) rfl rfl)
  have h1: ¬w.bad=true:=by rw[show w.bad=false from h1];simp
  refine gA rfl ?_;refine Wl (fun h2=>?_) (fun h2=>?_);rotate_left
  ·have h2: ¬e.args.length=2:=by simp at h2;omega
   rw[kB,if_neg h1,if_neg h6,if_neg h2];refine gA rfl (bn (by first|exact .inr rfl|exact .inl rfl) rfl rfl rfl rfl rfl (by first|exact .refl _|exact .kb _) (by first|exact .refl _|exact .kb _) rfl rfl rfl rfl (.refl _) rfl rfl)
  have h2:e.args.length=2:=by simp at h2;omega
  have hg:(bT e).ts+(wi e).ts≤_:=Expr.zF e.args h2;rw[kB,if_neg h1,if_neg h6,if_pos h2];refine gA rfl ?_;refine Wl (fun h3=>?_) (fun h3=>?_)
  ·exact absurd (of_decide_eq_true h3) (by omega)
  refine gA rfl ?_;refine Wl (fun h7=>?_) (fun h7=>?_)
  ·exact absurd (of_decide_eq_true h7) (by simp)
  refine gA rfl (aX ae [] (Pure.lS (B9 (bT e))) rfl rfl rfl rfl rfl rfl rfl rfl rfl rfl rfl rfl (by(repeat' (first|exact trivial|exact rfl|exact ah.refl _|exact ah.bk (by assumption)|apply Wl))<;>first|omega|(simp only[Wp];omega)|(simp;done)|(simp;omega)) rfl (by(repeat' (first|exact trivial|exact rfl|exact ah.refl _|exact ah.bk (by assumption)|apply Wl))<;>first|omega|(simp only[Wp];omega)|(simp;done)|(simp;omega)) ?_);refine gA rfl (aX ae [] (Pure.lS (KA e.op)) rfl rfl rfl rfl rfl rfl rfl rfl rfl rfl rfl rfl (by(repeat' (first|exact trivial|exact rfl|exact ah.refl _|exact ah.bk (by assumption)|apply Wl))<;>first|omega|(simp only[Wp];omega)|(simp;done)|(simp;omega)) rfl (by(repeat' (first|exact trivial|exact rfl|exact ah.refl _|exact ah.bk (by assumption)|apply Wl))<;>first|omega|(simp only[Wp];omega)|(simp;done)|(simp;omega)) ?_);refine gA rfl (nG (d225 m hm' hA hB (decide (dp (bT e)<b8 e.op)) d hd w (bT e) (by omega)) rfl rfl rfl rfl rfl rfl rfl rfl rfl rfl rfl rfl rfl rfl rfl rfl (by(repeat' (first|exact trivial|exact rfl|exact ah.refl _|exact ah.bk (by assumption)|apply Wl))<;>first|omega|(simp only[Wp];omega)|(simp;done)|(simp;omega)) rfl (by(repeat' (first|exact trivial|exact rfl|exact ah.refl _|exact ah.bk (by assumption)|apply Wl))<;>first|omega|(simp only[Wp];omega)|(simp;done)|(simp;omega)) ?_);refine gA rfl (an (VT e.op) rfl rfl rfl rfl rfl rfl ?_);have hla:=EC m (decide (dp (bT e)<b8 e.op)) w (bT e);have hsg:=wQ e.op;have e2:zN.size=1:=rfl;have e3:eH [zN,lK e.op,zN]=1+((lK e.op).size+1):=by simp[eH,e2]
  refine gA rfl (go_wp (d147 (tQ m (decide (dp (bT e)<b8 e.op)) w (bT e)) [zN,lK e.op,zN] (by simp) (by rw[e3];omega)) rfl rfl rfl rfl rfl rfl rfl rfl rfl rfl rfl rfl ?_);refine gA rfl (aX ae [] (Pure.lS (B9 (wi e))) rfl rfl rfl rfl rfl rfl rfl rfl rfl rfl rfl rfl (by(repeat' (first|exact trivial|exact rfl|exact ah.refl _|exact ah.bk (by assumption)|apply Wl))<;>first|omega|(simp only[Wp];omega)|(simp;done)|(simp;omega)) rfl (by(repeat' (first|exact trivial|exact rfl|exact ah.refl _|exact ah.bk (by assumption)|apply Wl))<;>first|omega|(simp only[Wp];omega)|(simp;done)|(simp;omega)) ?_);refine gA rfl (aX ae [] (Pure.lS (KA e.op)) rfl rfl rfl rfl rfl rfl rfl rfl rfl rfl rfl rfl (by(repeat' (first|exact trivial|exact rfl|exact ah.refl _|exact ah.bk (by assumption)|apply Wl))<;>first|omega|(simp only[Wp];omega)|(simp;done)|(simp;omega)) rfl (by(repeat' (first|exact trivial|exact rfl|exact ah.refl _|exact ah.bk (by assumption)|apply Wl))<;>first|omega|(simp only[Wp];omega)|(simp;done)|(simp;omega)) ?_);refine gA rfl (nG (d225 m hm' hA hB (decide (dp (wi e)≤b8 e.op)) d hd (aV (tQ m (decide (dp (bT e)<b8 e.op)) w (bT e)) [zN,lK e.op,zN]) (wi e) (by rw[gY,e3];omega)) rfl rfl rfl rfl rfl rfl rfl rfl rfl rfl rfl rfl rfl rfl rfl rfl (by(repeat' (first|exact trivial|exact rfl|exact ah.refl _|exact ah.bk (by assumption)|apply Wl))<;>first|omega|(simp only[Wp];omega)|(simp;done)|(simp;omega)) rfl (by(repeat' (first|exact trivial|exact rfl|exact ah.refl _|exact ah.bk (by assumption)|apply Wl))<;>first|omega|(simp only[Wp];omega)|(simp;done)|(simp;omega)) ?_);refine gA rfl (bn (by first|exact .inr rfl|exact .inl rfl) rfl rfl rfl rfl rfl (by first|exact .refl _|exact .kb _) (by first|exact .refl _|exact .kb _) rfl rfl rfl rfl (.refl _) rfl rfl)
end Go.Proofs.YtflegjieadkonaaGreatDoor
namespace Go.Proofs.YtflegjieadkonaaGreatDoor
open Go Go.Al
set_option maxRecDepth 10000
theorem d189 (d:Int) (hd0:0≤d) (hd1:d≤1000) (w:WS) (e:Expr) (hb:w.l.length+e.ts≤1000000000) (k:WS) (hk:cf Tryz.prog 247 [.ptr 0 0,ag e.c,pI (d-1)] (aR w (re e)).O (.bP []) k.H 3):cf Tryz.prog 222 [.ptr 0 0,ag e.c,pI d] w.O (.bP []) (jg w e k).H 3:=by
 have hts:=e.qw;refine aH ae Tryz.func222 rfl (by decide) Tryz.ntmps222 rfl (by simp) ?_;refine gA rfl ?_;refine Wl (fun h1=>?_) (fun h1=>?_);rotate_left
 ·have h1:w.bad=true:=h1
  rw[jg,if_pos h1];refine gA rfl (bn (by first|exact .inr rfl|exact .inl rfl) rfl rfl rfl rfl rfl (by first|exact .refl _|exact .kb _) (by first|exact .refl _|exact .kb _) rfl rfl rfl rfl (.refl _) rfl rfl)
 have h1': ¬w.bad=true:=by rw[show w.bad=false from h1];simp
 refine gA rfl ?_;refine Wl (fun h2=>?_) (fun h2=>?_)
 ·exact absurd (of_decide_eq_true h2) (by omega)
 refine gA rfl ?_;refine Wl (fun hk1=>?_) (fun hk1=>?_)
 ·have hk1':e.kind=1:=of_decide_eq_true hk1
  have hlf:jg w e k=aV (aR w (nC e)) [e.var]:=by rw[jg,if_neg h1',if_pos hk1']
  rw[hlf];refine gA rfl (an (zu e.var) rfl rfl rfl rfl rfl rfl ?_);refine gA rfl ?_;refine Wl (fun g0=>?_) (fun g0=>?_);rotate_left
  ·have hx:nC e=false:=by simp only[nC,dq, *];rfl
   rw[hx];refine gA rfl (bX (d146 w false) rfl rfl rfl rfl rfl rfl rfl rfl rfl rfl rfl rfl ?_);refine gA rfl (go_wp (d147 (aR w false) [e.var] (by simp) (by rw[bC,aQ];omega)) rfl rfl rfl rfl rfl rfl rfl rfl rfl rfl rfl rfl ?_);refine gA rfl (bn (by first|exact .inr rfl|exact .inl rfl) rfl rfl rfl rfl rfl (by first|exact .refl _|exact .kb _) (by first|exact .refl _|exact .kb _) rfl rfl rfl rfl (.refl _) rfl rfl)
  refine gA rfl ?_;refine Wl (fun g1=>?_) (fun g1=>?_);rotate_left
  ·have hx:nC e=false:=by simp only[nC,dq, *];rfl
   rw[hx];refine gA rfl (bX (d146 w false) rfl rfl rfl rfl rfl rfl rfl rfl rfl rfl rfl rfl ?_);refine gA rfl (go_wp (d147 (aR w false) [e.var] (by simp) (by rw[bC,aQ];omega)) rfl rfl rfl rfl rfl rfl rfl rfl rfl rfl rfl rfl ?_);refine gA rfl (bn (by first|exact .inr rfl|exact .inl rfl) rfl rfl rfl rfl rfl (by first|exact .refl _|exact .kb _) (by first|exact .refl _|exact .kb _) rfl rfl rfl rfl (.refl _) rfl rfl)
  refine gA rfl ?_;refine Wl (fun g2=>?_) (fun g2=>?_);rotate_left
  ·have hx:nC e=false:=by simp only[nC,dq, *];rfl
   rw[hx];refine gA rfl (bX (d146 w false) rfl rfl rfl rfl rfl rfl rfl rfl rfl rfl rfl rfl ?_);refine gA rfl (go_wp (d147 (aR w false) [e.var] (by simp) (by rw[bC,aQ];omega)) rfl rfl rfl rfl rfl rfl rfl rfl rfl rfl rfl rfl ?_);refine gA rfl (bn (by first|exact .inr rfl|exact .inl rfl) rfl rfl rfl rfl rfl (by first|exact .refl _|exact .kb _) (by first|exact .refl _|exact .kb _) rfl rfl rfl rfl (.refl _) rfl rfl)
  have hx:nC e=decide ((e.args.length:Int)=0):=by simp only[nC,dq, *];rfl
  rw[hx];refine gA rfl (bX (d146 w (decide ((e.args.length:Int)=0))) rfl rfl rfl rfl rfl rfl rfl rfl rfl rfl rfl rfl ?_);refine gA rfl (go_wp (d147 (aR w (decide ((e.args.length:Int)=0))) [e.var] (by simp) (by rw[bC,aQ];omega)) rfl rfl rfl rfl rfl rfl rfl rfl rfl rfl rfl rfl ?_);refine gA rfl (bn (by first|exact .inr rfl|exact .inl rfl) rfl rfl rfl rfl rfl (by first|exact .refl _|exact .kb _) (by first|exact .refl _|exact .kb _) rfl rfl rfl rfl (.refl _) rfl rfl)
 have hk1': ¬e.kind=1:=of_decide_eq_false hk1;refine gA rfl ?_;refine Wl (fun hk2=>?_) (fun hk2=>?_)
 ·have hk2':e.kind=2:=of_decide_eq_true hk2
  have hlf:jg w e k=lW (aR w (oN e)) e.val:=by rw[jg,if_neg h1',if_neg hk1',if_pos hk2']
  rw[hlf];have htv:=pD e.val;refine gA rfl ?_;refine Wl (fun g0=>?_) (fun g0=>?_);rotate_left
  ·have hx:oN e=false:=by simp only[oN,dq, *];rfl
   rw[hx];refine gA rfl (bX (d146 w false) rfl rfl rfl rfl rfl rfl rfl rfl rfl rfl rfl rfl ?_);refine gA rfl (bX (d149 (aR w false) e.val (by rw[aQ];omega) (by omega)) rfl rfl rfl rfl rfl rfl rfl rfl rfl rfl rfl rfl ?_);refine gA rfl (bn (by first|exact .inr rfl|exact .inl rfl) rfl rfl rfl rfl rfl (by first|exact .refl _|exact .kb _) (by first|exact .refl _|exact .kb _) rfl rfl rfl rfl (.refl _) rfl rfl)
  refine gA rfl ?_;refine Wl (fun g1=>?_) (fun g1=>?_);rotate_left
  ·have hx:oN e=false:=by simp only[oN,dq, *];rfl
   rw[hx];refine gA rfl (bX (d146 w false) rfl rfl rfl rfl rfl rfl rfl rfl rfl rfl rfl rfl ?_);refine gA rfl (bX (d149 (aR w false) e.val (by rw[aQ];omega) (by omega)) rfl rfl rfl rfl rfl rfl rfl rfl rfl rfl rfl rfl ?_);refine gA rfl (bn (by first|exact .inr rfl|exact .inl rfl) rfl rfl rfl rfl rfl (by first|exact .refl _|exact .kb _) (by first|exact .refl _|exact .kb _) rfl rfl rfl rfl (.refl _) rfl rfl)
  have hx:oN e=decide ((e.args.length:Int)=0):=by simp only[oN,dq, *];rfl
  rw[hx];refine gA rfl (bX (d146 w (decide ((e.args.length:Int)=0))) rfl rfl rfl rfl rfl rfl rfl rfl rfl rfl rfl rfl ?_);refine gA rfl (bX (d149 (aR w (decide ((e.args.length:Int)=0))) e.val (by rw[aQ];omega) (by omega)) rfl rfl rfl rfl rfl rfl rfl rfl rfl rfl rfl rfl ?_);refine gA rfl (bn (by first|exact .inr rfl|exact .inl rfl) rfl rfl rfl rfl rfl (by first|exact .refl _|exact .kb _) (by first|exact .refl _|exact .kb _) rfl rfl rfl rfl (.refl _) rfl rfl)
 have hk2': ¬e.kind=2:=of_decide_eq_false hk2;refine gA rfl ?_;refine Wl (fun hk4=>?_) (fun hk4=>?_)
 ·have hk4':e.kind=4:=of_decide_eq_true hk4
  have hlf:jg w e k=k:=by rw[jg,if_neg h1',if_neg hk1',if_neg hk2',if_pos hk4']
  rw[hlf];refine gA rfl ?_;refine Wl (fun g0=>?_) (fun g0=>?_);rotate_left
  ·have hx:re e=false:=by simp only[re,dq, *];rfl
   rw[hx] at hk;refine gA rfl (bX (d146 w false) rfl rfl rfl rfl rfl rfl rfl rfl rfl rfl rfl rfl ?_);refine gA rfl (bX (hk) rfl rfl rfl rfl rfl rfl rfl rfl rfl rfl rfl rfl ?_);refine gA rfl (bn (by first|exact .inr rfl|exact .inl rfl) rfl rfl rfl rfl rfl (by first|exact .refl _|exact .kb _) (by first|exact .refl _|exact .kb _) rfl rfl rfl rfl (.refl _) rfl rfl)
  refine gA rfl ?_;refine Wl (fun g1=>?_) (fun g1=>?_);rotate_left
  ·have hx:re e=false:=by simp only[re,dq, *];rfl
   rw[hx] at hk;refine gA rfl (bX (d146 w false) rfl rfl rfl rfl rfl rfl rfl rfl rfl rfl rfl rfl ?_);refine gA rfl (bX (hk) rfl rfl rfl rfl rfl rfl rfl rfl rfl rfl rfl rfl ?_);refine gA rfl (bn (by first|exact .inr rfl|exact .inl rfl) rfl rfl rfl rfl rfl (by first|exact .refl _|exact .kb _) (by first|exact .refl _|exact .kb _) rfl rfl rfl rfl (.refl _) rfl rfl)
  refine gA rfl (an (KA e.op) rfl rfl rfl rfl rfl rfl ?_);have hx:re e=decide (b8 e.op>0):=by simp only[re,dq, *];rfl
  rw[hx] at hk;refine gA rfl (bX (d146 w (decide (b8 e.op>0))) rfl rfl rfl rfl rfl rfl rfl rfl rfl rfl rfl rfl ?_);refine gA rfl (bX (hk) rfl rfl rfl rfl rfl rfl rfl rfl rfl rfl rfl rfl ?_);refine gA rfl (bn (by first|exact .inr rfl|exact .inl rfl) rfl rfl rfl rfl rfl (by first|exact .refl _|exact .kb _) (by first|exact .refl _|exact .kb _) rfl rfl rfl rfl (.refl _) rfl rfl)
 have hk4': ¬e.kind=4:=of_decide_eq_false hk4;rw[jg,if_neg h1',if_neg hk1',if_neg hk2',if_neg hk4'];refine gA rfl (bn (by first|exact .inr rfl|exact .inl rfl) rfl rfl rfl rfl rfl (by first|exact .refl _|exact .kb _) (by first|exact .refl _|exact .kb _) rfl rfl rfl rfl (.refl _) rfl rfl)
theorem pe0:PE 0:=fun d w e hd hb=>by
 refine aH ae Tryz.func222 rfl (by decide) Tryz.ntmps222 rfl (by simp) ?_;rw[cG]
 repeat' (first
  |((rename_i h;exact absurd (by omega:d<0) (of_decide_eq_false h)))
  |(refine gA rfl (Wl (fun _=>?_) (fun _=>?_)))
  |(refine gA rfl (bn (by first|exact .inr rfl|exact .inl rfl) rfl rfl rfl rfl rfl (by first|exact .refl _|exact .kb _) (by first|exact .refl _|exact .kb _) rfl rfl rfl rfl (.refl _) rfl rfl)))
theorem yQ: ∀n,n≤900→PE n
 |0,_=>pe0
 |1,_=>fun d w e hd hb=>d189 d (by omega) (by omega) w e hb _ (U7 (d-1) (by omega) (aR w (re e)) e)
 |m+2,h=>fun d w e hd hb=>d189 d (by omega) (by omega) w e (by omega) _ (d213 m (by omega) (yQ (m+1) (by omega)) (yQ m (by omega)) (d-1) (by omega) (aR w (re e)) e (by rw[aQ];omega))
theorem nJ (w:WS) (e:Expr) (hb:w.l.length+e.ts≤900000000):cf Tryz.prog 222 [.ptr 0 0,ag e.c,pI 16] w.O (.bP []) (cG 17 w e).H 3:=yQ 17 (by omega) 16 w e (by omega) (by omega)
def wZ:aj:=⟨#[44,32]⟩
def RK:aj:=⟨#[95]⟩
def gk (i:Nat) (w:WS):WS:=if i=0 then w else aV w [wZ]
def vG (t:Term):Bool:=eV t.var&&dq t.val
def vH (t:Term):Bool:=decide (t.var=⟨#[]⟩)&&dq t.val
def jL (w:WS) (t:Term):WS:=
 if t.kind=1 then aV (aR w (vG t)) [t.var] else if t.kind=2 then lW (aR w (decide (t.var=⟨#[]⟩))) t.val else if t.kind=3 then aV (aR w (vH t)) [RK] else mO w
def fi (l:List Term) (w:WS):Nat→WS
 |0=>w
 |i+1=>jL (gk i (fi l w i)) (l.getD i default)
def jB (w:WS) (a:Atom):WS:=aV (fi a.aq (aV (aR w (je a.rel)) [a.rel,sO]) a.aq.length) [sC]
def Term.ts (t:Term):Nat:=t.var.size+310
def Atom.ts (a:Atom):Nat:=a.rel.size+10+(a.aq.map Term.ts).sum
theorem lF (i:Nat) (w:WS):(gk i w).l.length≤w.l.length+2:=by
 have e:wZ.size=2:=rfl;unfold gk;split
 ·omega
 ·rw[aP,e];omega
theorem A4 (w:WS) (t:Term):(jL w t).l.length≤w.l.length+300+t.var.size:=by
 have e:RK.size=1:=rfl;unfold jL
 repeat' split
 ·rw[aP,aQ];omega
 ·have:=rT (aR w (decide (t.var=⟨#[]⟩))) t.val
  rw[aQ] at this;omega
 ·rw[aP,aQ,e];omega
 ·rw[eT];omega
theorem uf: ∀(l:List Term) (i:Nat),i<l.length→((l.take i).map Term.ts).sum+(l.getD i default).ts≤(l.map Term.ts).sum
 | [],i,h=>by simp at h
 |s::r,0,_=>by simp
 |s::r,i+1,h=>by
  have:=uf r i (by simpa using h);simp at this ⊢;omega
theorem zI: ∀(l:List Term) (i:Nat),((l.take i).map Term.ts).sum≤(l.map Term.ts).sum
 | [],i=>by simp
 |s::r,0=>by simp
 |s::r,i+1=>by have:=zI r i;simp at this ⊢;omega
theorem nP (l:List Term) (w:WS): ∀i,i≤l.length→(fi l w i).l.length≤w.l.length+((l.take i).map Term.ts).sum
 |0,_=>by simp[fi]
 |i+1,h=>by
  have h1:=nP l w i (by omega);have h2:=lF i (fi l w i);have h3:=A4 (gk i (fi l w i)) (l.getD i default);have h4:(l.getD i default).ts=(l.getD i default).var.size+310:=rfl
  have h5:((l.take (i+1)).map Term.ts).sum=((l.take i).map Term.ts).sum+(l.getD i default).ts:=by
   rw[aW (by omega),Wq,List.sum_append];simp
  rw[fi];omega
theorem u9 (w:WS) (a:Atom):(jB w a).l.length≤w.l.length+a.ts:=by
 have e1:sO.size=1:=rfl;have e2:sC.size=1:=rfl;have e3:eH [a.rel,sO]=a.rel.size+1:=by simp[eH,e1]
 have h1:=nP a.aq (aV (aR w (je a.rel)) [a.rel,sO]) a.aq.length (Wz _);rw[gY,e3,aQ,Ya] at h1;rw[jB,aP,e2];unfold Atom.ts;omega
theorem uJ: ∀l:List Term,l.length≤(l.map Term.ts).sum
 | []=>by simp
 |t::r=>by have:=uJ r;simp[Term.ts] at this ⊢;omega
set_option maxHeartbeats 1000000 in
theorem d104 (w:WS) (a:Atom) (hb:w.l.length+a.ts≤900000000):cf Tryz.prog 188 [.ptr 0 0,ag a.c] w.O (.bP []) (jB w a).H 3:=by
 have e1:sO.size=1:=rfl;have e2:sC.size=1:=rfl;have e4:wZ.size=2:=rfl;have e5:RK.size=1:=rfl;have e3:eH [a.rel,sO]=a.rel.size+1:=by simp[eH,e1]
 have hts:a.ts=a.rel.size+10+(a.aq.map Term.ts).sum:=rfl;have hlt:=uJ a.aq;have hl0:(aV (aR w (je a.rel)) [a.rel,sO]).l.length=w.l.length+(a.rel.size+1):=by rw[gY,e3,aQ]
 refine aH ae Tryz.func188 rfl (by decide) Tryz.ntmps188 rfl (by simp) ?_;refine gA rfl (an (VO a.rel) rfl rfl rfl rfl rfl rfl ?_);refine gA rfl (bX (d146 w (je a.rel)) rfl rfl rfl rfl rfl rfl rfl rfl rfl rfl rfl rfl ?_);refine gA rfl (go_wp (d147 (aR w (je a.rel)) [a.rel,sO] (by simp) (by rw[e3,aQ];omega)) rfl rfl rfl rfl rfl rfl rfl rfl rfl rfl rfl rfl ?_);generalize hW:aV (aR w (je a.rel)) [a.rel,sO]=w1 at*
 refine gA rfl ?_
 refine aK 0 a.aq.length (WC _) (fun i=>⟨[(0, .ptr 0 0),(17, .iv (cM 5 a.aq Term.c)),(18,pI a.aq.length),(19,pI i)],[(0,some ((fi a.aq w1 i).td 0 6)),(6,some (.bx (fi a.aq w1 i).l 5))],7⟩) (fun _=>True) _ trivial
  (yo (w:=w1) rfl rfl rfl rfl rfl (.refl _) (.refl _) rfl rfl rfl rfl rfl ⟨.refl _,rfl, .refl _,rfl, .refl _,rfl, .refl _,rfl,trivial⟩) fun i hi _=>?_
 have hln:=nP a.aq w1 i hi;have hsl:=zI a.aq i;refine gA rfl ?_;refine Wl (fun h1=>?_) (fun h1=>?_);rotate_left
 ·have h1:a.aq.length≤i:=Xc fun hh=>absurd (Xe.2 hh) (of_decide_eq_false h1)
  have hie:i=a.aq.length:=by omega
  subst hie;refine gA rfl (go_wp (d147 (fi a.aq w1 a.aq.length) [sC] (by simp) (by rw[bC,e2];omega)) rfl rfl rfl rfl rfl rfl rfl rfl rfl rfl rfl rfl ?_);rw[jB,hW];refine gA rfl (bn (by first|exact .inr rfl|exact .inl rfl) rfl rfl rfl rfl rfl (by first|exact .refl _|exact .kb _) (by first|exact .refl _|exact .kb _) rfl rfl rfl rfl (.refl _) rfl rfl)
 have h1:i<a.aq.length:=Xe.1 (of_decide_eq_true h1);have hst:=uf a.aq i h1;have hs:fi a.aq w1 (i+1)=jL (gk i (fi a.aq w1 i)) (a.aq.getD i default):=rfl;have ht:(a.aq.getD i default).ts=(a.aq.getD i default).var.size+310:=rfl;have htv:=pD (a.aq.getD i default).val;have hcl:=lF i (fi a.aq w1 i);generalize hT:fi a.aq w1 i=w2 at*
 refine gA rfl ?_;refine Wl (fun h2=>?_) (fun h2=>?_)
 ·have h2: ¬i=0:=by have:=of_decide_eq_true h2;omega
  rw[gk,if_neg h2] at hs;refine gA rfl (go_wp (d147 w2 [wZ] (by simp) (by rw[bC,e4];omega)) rfl rfl rfl rfl rfl rfl rfl rfl rfl rfl rfl rfl ?_);refine gA rfl ?_;refine Wl (fun k1=>?_) (fun k1=>?_)
  ·have k1':(a.aq.getD i default).kind=1:=of_decide_eq_true k1
   rw[jL,if_pos k1'] at hs;refine gA rfl (an (zu (a.aq.getD i default).var) rfl rfl rfl rfl rfl rfl ?_);refine gA rfl ?_;refine Wl (fun g0=>?_) (fun g0=>?_);rotate_left
   ·have hx:vG (a.aq.getD i default)=false:=by have g:eV (a.aq.getD i default).var=false:=g0;rw[vG,g];rfl
    rw[hx] at hs;refine gA rfl (bX (d146 (aV w2 [wZ]) false) rfl rfl rfl rfl rfl rfl rfl rfl rfl rfl rfl rfl ?_);refine gA rfl (go_wp (d147 (aR (aV w2 [wZ]) false) [(a.aq.getD i default).var] (by simp) (by rw[bC,aQ];first|omega|(rw[aP,e4];omega))) rfl rfl rfl rfl rfl rfl rfl rfl rfl rfl rfl rfl ?_);refine gA rfl ⟨h1,trivial,_,yo (hs.symm) rfl rfl rfl rfl (by first|exact .refl _|exact .kb _) (by first|exact .refl _|exact .kb _) rfl rfl rfl rfl rfl ⟨.refl _,rfl, .refl _,rfl, .refl _,rfl, .refl _,rfl,trivial⟩⟩
   have hx:vG (a.aq.getD i default)=dq (a.aq.getD i default).val:=by have g:eV (a.aq.getD i default).var=true:=g0;rw[vG,g];rfl
   rw[hx] at hs;refine gA rfl (bX (d146 (aV w2 [wZ]) (dq (a.aq.getD i default).val)) rfl rfl rfl rfl rfl rfl rfl rfl rfl rfl rfl rfl ?_);refine gA rfl (go_wp (d147 (aR (aV w2 [wZ]) (dq (a.aq.getD i default).val)) [(a.aq.getD i default).var] (by simp) (by rw[bC,aQ];first|omega|(rw[aP,e4];omega))) rfl rfl rfl rfl rfl rfl rfl rfl rfl rfl rfl rfl ?_);refine gA rfl ⟨h1,trivial,_,yo (hs.symm) rfl rfl rfl rfl (by first|exact .refl _|exact .kb _) (by first|exact .refl _|exact .kb _) rfl rfl rfl rfl rfl ⟨.refl _,rfl, .refl _,rfl, .refl _,rfl, .refl _,rfl,trivial⟩⟩
  have k1': ¬(a.aq.getD i default).kind=1:=of_decide_eq_false k1;refine gA rfl ?_;refine Wl (fun k2=>?_) (fun k2=>?_)
  ·have k2':(a.aq.getD i default).kind=2:=of_decide_eq_true k2
   rw[jL,if_neg k1',if_pos k2'] at hs;refine gA rfl (bX (d146 (aV w2 [wZ]) (decide ((a.aq.getD i default).var=⟨#[]⟩))) rfl rfl rfl rfl rfl rfl rfl rfl rfl rfl rfl rfl ?_);refine gA rfl (bX (d149 (aR (aV w2 [wZ]) (decide ((a.aq.getD i default).var=⟨#[]⟩))) (a.aq.getD i default).val (by rw[aQ];first|omega|(rw[aP,e4];omega)) (by omega)) rfl rfl rfl rfl rfl rfl rfl rfl rfl rfl rfl rfl ?_);refine gA rfl ⟨h1,trivial,_,yo (hs.symm) rfl rfl rfl rfl (by first|exact .refl _|exact .kb _) (by first|exact .refl _|exact .kb _) rfl rfl rfl rfl rfl ⟨.refl _,rfl, .refl _,rfl, .refl _,rfl, .refl _,rfl,trivial⟩⟩
  have k2': ¬(a.aq.getD i default).kind=2:=of_decide_eq_false k2;refine gA rfl ?_;refine Wl (fun k3=>?_) (fun k3=>?_)
  ·have k3':(a.aq.getD i default).kind=3:=of_decide_eq_true k3
   rw[jL,if_neg k1',if_neg k2',if_pos k3'] at hs;refine gA rfl ?_;refine Wl (fun g0=>?_) (fun g0=>?_);rotate_left
   ·have hx:vH (a.aq.getD i default)=false:=by have g:decide ((a.aq.getD i default).var=⟨#[]⟩)=false:=g0;rw[vH,g];rfl
    rw[hx] at hs;refine gA rfl (bX (d146 (aV w2 [wZ]) false) rfl rfl rfl rfl rfl rfl rfl rfl rfl rfl rfl rfl ?_);refine gA rfl (go_wp (d147 (aR (aV w2 [wZ]) false) [RK] (by simp) (by rw[bC,aQ];first|omega|(rw[aP,e4];omega))) rfl rfl rfl rfl rfl rfl rfl rfl rfl rfl rfl rfl ?_);refine gA rfl ⟨h1,trivial,_,yo (hs.symm) rfl rfl rfl rfl (by first|exact .refl _|exact .kb _) (by first|exact .refl _|exact .kb _) rfl rfl rfl rfl rfl ⟨.refl _,rfl, .refl _,rfl, .refl _,rfl, .refl _,rfl,trivial⟩⟩
   have hx:vH (a.aq.getD i default)=dq (a.aq.getD i default).val:=by have g:decide ((a.aq.getD i default).var=⟨#[]⟩)=true:=g0;rw[vH,g];rfl
   rw[hx] at hs;refine gA rfl (bX (d146 (aV w2 [wZ]) (dq (a.aq.getD i default).val)) rfl rfl rfl rfl rfl rfl rfl rfl rfl rfl rfl rfl ?_);refine gA rfl (go_wp (d147 (aR (aV w2 [wZ]) (dq (a.aq.getD i default).val)) [RK] (by simp) (by rw[bC,aQ];first|omega|(rw[aP,e4];omega))) rfl rfl rfl rfl rfl rfl rfl rfl rfl rfl rfl rfl ?_);refine gA rfl ⟨h1,trivial,_,yo (hs.symm) rfl rfl rfl rfl (by first|exact .refl _|exact .kb _) (by first|exact .refl _|exact .kb _) rfl rfl rfl rfl rfl ⟨.refl _,rfl, .refl _,rfl, .refl _,rfl, .refl _,rfl,trivial⟩⟩
  have k3': ¬(a.aq.getD i default).kind=3:=of_decide_eq_false k3;rw[jL,if_neg k1',if_neg k2',if_neg k3'] at hs;refine gA rfl ⟨h1,trivial,_,yo (hs.symm) rfl rfl rfl rfl (by first|exact .refl _|exact .kb _) (by first|exact .refl _|exact .kb _) rfl rfl rfl rfl rfl ⟨.refl _,rfl, .refl _,rfl, .refl _,rfl, .refl _,rfl,trivial⟩⟩
 ·have h2:i=0:=by have:=of_decide_eq_false h2;omega
  rw[gk,if_pos h2] at hs;refine gA rfl ?_;refine Wl (fun k1=>?_) (fun k1=>?_)
  ·have k1':(a.aq.getD i default).kind=1:=of_decide_eq_true k1
   rw[jL,if_pos k1'] at hs;refine gA rfl (an (zu (a.aq.getD i default).var) rfl rfl rfl rfl rfl rfl ?_);refine gA rfl ?_;refine Wl (fun g0=>?_) (fun g0=>?_);rotate_left
   ·have hx:vG (a.aq.getD i default)=false:=by have g:eV (a.aq.getD i default).var=false:=g0;rw[vG,g];rfl
    rw[hx] at hs;refine gA rfl (bX (d146 w2 false) rfl rfl rfl rfl rfl rfl rfl rfl rfl rfl rfl rfl ?_);refine gA rfl (go_wp (d147 (aR w2 false) [(a.aq.getD i default).var] (by simp) (by rw[bC,aQ];first|omega|(rw[aP,e4];omega))) rfl rfl rfl rfl rfl rfl rfl rfl rfl rfl rfl rfl ?_);refine gA rfl ⟨h1,trivial,_,yo (hs.symm) rfl rfl rfl rfl (by first|exact .refl _|exact .kb _) (by first|exact .refl _|exact .kb _) rfl rfl rfl rfl rfl ⟨.refl _,rfl, .refl _,rfl, .refl _,rfl, .refl _,rfl,trivial⟩⟩
   have hx:vG (a.aq.getD i default)=dq (a.aq.getD i default).val:=by have g:eV (a.aq.getD i default).var=true:=g0;rw[vG,g];rfl
   rw[hx] at hs;refine gA rfl (bX (d146 w2 (dq (a.aq.getD i default).val)) rfl rfl rfl rfl rfl rfl rfl rfl rfl rfl rfl rfl ?_);refine gA rfl (go_wp (d147 (aR w2 (dq (a.aq.getD i default).val)) [(a.aq.getD i default).var] (by simp) (by rw[bC,aQ];first|omega|(rw[aP,e4];omega))) rfl rfl rfl rfl rfl rfl rfl rfl rfl rfl rfl rfl ?_);refine gA rfl ⟨h1,trivial,_,yo (hs.symm) rfl rfl rfl rfl (by first|exact .refl _|exact .kb _) (by first|exact .refl _|exact .kb _) rfl rfl rfl rfl rfl ⟨.refl _,rfl, .refl _,rfl, .refl _,rfl, .refl _,rfl,trivial⟩⟩
  have k1': ¬(a.aq.getD i default).kind=1:=of_decide_eq_false k1;refine gA rfl ?_;refine Wl (fun k2=>?_) (fun k2=>?_)
  ·have k2':(a.aq.getD i default).kind=2:=of_decide_eq_true k2
   rw[jL,if_neg k1',if_pos k2'] at hs;refine gA rfl (bX (d146 w2 (decide ((a.aq.getD i default).var=⟨#[]⟩))) rfl rfl rfl rfl rfl rfl rfl rfl rfl rfl rfl rfl ?_);refine gA rfl (bX (d149 (aR w2 (decide ((a.aq.getD i default).var=⟨#[]⟩))) (a.aq.getD i default).val (by rw[aQ];first|omega|(rw[aP,e4];omega)) (by omega)) rfl rfl rfl rfl rfl rfl rfl rfl rfl rfl rfl rfl ?_);refine gA rfl ⟨h1,trivial,_,yo (hs.symm) rfl rfl rfl rfl (by first|exact .refl _|exact .kb _) (by first|exact .refl _|exact .kb _) rfl rfl rfl rfl rfl ⟨.refl _,rfl, .refl _,rfl, .refl _,rfl, .refl _,rfl,trivial⟩⟩
  have k2': ¬(a.aq.getD i default).kind=2:=of_decide_eq_false k2;refine gA rfl ?_;refine Wl (fun k3=>?_) (fun k3=>?_)
  ·have k3':(a.aq.getD i default).kind=3:=of_decide_eq_true k3
   rw[jL,if_neg k1',if_neg k2',if_pos k3'] at hs;refine gA rfl ?_;refine Wl (fun g0=>?_) (fun g0=>?_);rotate_left
   ·have hx:vH (a.aq.getD i default)=false:=by have g:decide ((a.aq.getD i default).var=⟨#[]⟩)=false:=g0;rw[vH,g];rfl
    rw[hx] at hs;refine gA rfl (bX (d146 w2 false) rfl rfl rfl rfl rfl rfl rfl rfl rfl rfl rfl rfl ?_);refine gA rfl (go_wp (d147 (aR w2 false) [RK] (by simp) (by rw[bC,aQ];first|omega|(rw[aP,e4];omega))) rfl rfl rfl rfl rfl rfl rfl rfl rfl rfl rfl rfl ?_);refine gA rfl ⟨h1,trivial,_,yo (hs.symm) rfl rfl rfl rfl (by first|exact .refl _|exact .kb _) (by first|exact .refl _|exact .kb _) rfl rfl rfl rfl rfl ⟨.refl _,rfl, .refl _,rfl, .refl _,rfl, .refl _,rfl,trivial⟩⟩
   have hx:vH (a.aq.getD i default)=dq (a.aq.getD i default).val:=by have g:decide ((a.aq.getD i default).var=⟨#[]⟩)=true:=g0;rw[vH,g];rfl
   rw[hx] at hs;refine gA rfl (bX (d146 w2 (dq (a.aq.getD i default).val)) rfl rfl rfl rfl rfl rfl rfl rfl rfl rfl rfl rfl ?_);refine gA rfl (go_wp (d147 (aR w2 (dq (a.aq.getD i default).val)) [RK] (by simp) (by rw[bC,aQ];first|omega|(rw[aP,e4];omega))) rfl rfl rfl rfl rfl rfl rfl rfl rfl rfl rfl rfl ?_);refine gA rfl ⟨h1,trivial,_,yo (hs.symm) rfl rfl rfl rfl (by first|exact .refl _|exact .kb _) (by first|exact .refl _|exact .kb _) rfl rfl rfl rfl rfl ⟨.refl _,rfl, .refl _,rfl, .refl _,rfl, .refl _,rfl,trivial⟩⟩
  have k3': ¬(a.aq.getD i default).kind=3:=of_decide_eq_false k3;rw[jL,if_neg k1',if_neg k2',if_neg k3'] at hs;refine gA rfl ⟨h1,trivial,_,yo (hs.symm) rfl rfl rfl rfl (by first|exact .refl _|exact .kb _) (by first|exact .refl _|exact .kb _) rfl rfl rfl rfl rfl ⟨.refl _,rfl, .refl _,rfl, .refl _,rfl, .refl _,rfl,trivial⟩⟩
end Go.Proofs.YtflegjieadkonaaGreatDoor
namespace Go.Proofs.YtflegjieadkonaaGreatDoor
open Go Go.Al
set_option maxRecDepth 10000
def yG:aj:=⟨#[110,111,116,32]⟩
def pG:aj:=⟨#[32,61,32]⟩
def pH:aj:=⟨#[32,123,32]⟩
def Cd:aj:=⟨#[32,58,32]⟩
def wY:aj:=⟨#[32,125]⟩
def s9 (op:Int):aj:=if op=1 then⟨#[32,61,32]⟩ else if op=2 then⟨#[32,33,61,32]⟩ else if op=3 then⟨#[32,60,32]⟩ else if op=4 then⟨#[32,60,61,32]⟩ else if op=5 then⟨#[32,62,32]⟩ else⟨#[32,62,61,32]⟩
def iu (f:Int):aj:=if f=1 then⟨#[99,111,117,110,116]⟩ else if f=2 then⟨#[115,117,109]⟩ else if f=3 then⟨#[109,105,110]⟩ else⟨#[109,97,120]⟩
def tC (w:WS) (n:Int):WS:=⟨w.fr,w.l,w.bad,w.br+n⟩
def cS (f:Lit→WS→WS) (l:List Lit) (w:WS):Nat→WS
 |0=>w
 |i+1=>if(cS f l w i).bad=true then cS f l w i else f (l.getD i default) (gk i (cS f l w i))
def ou (w:WS) (a:fg):WS:=if a.func=1 then aR w (iE a.iq) else aV (cG 17 w a.iq) [Cd]
def wo (f:Lit→WS→WS) (w:WS) (a:fg):WS:=
 if a.func<1∨5≤a.func∨16≤w.br∨a.body.length=0 then mO w
 else aV (tC (cS f a.body (tC (ou (aV (aR w (eV a.var)) [a.var,pG,iu a.func,pH]) a) 1) a.body.length) (-1)) [wY]
def y0 (f:Lit→WS→WS) (l:Lit) (w:WS):WS:=
 if l.kind=2 then jB (aV w [yG]) l.atom else if l.kind=1 then jB w l.atom
 else if l.kind=3 then(if l.op<1∨7≤l.op then mO (cG 17 w l.left) else cG 17 (aV (cG 17 w l.left) [s9 l.op]) l.right)
 else if l.kind=4 then wo f w l.agg else mO w
def df:Nat→Lit→WS→WS
 |0,_,w=>w
 |n+1,l,w=>y0 (df n) l (aR w (j7 l))
theorem cI: ∀(ss:List aj) (w:WS),(aV w ss).br=w.br
 | [],w=>rfl
 |s::r,w=>cI r (xg w s)
theorem sE (w:WS) (b:Bool):(aR w b).br=w.br:=rfl
theorem KE (w:WS):(mO w).br=w.br:=rfl
theorem tZ (w:WS) (v:tx):(lW w v).br=w.br:=by rw[lW,cI];rfl
theorem xD (w k:WS) (e:Expr) (h:k.br=w.br):(jg w e k).br=w.br:=by
 unfold jg
 repeat' split
 ·rfl
 ·rw[cI];rfl
 ·rw[tZ];rfl
 ·exact h
 ·rfl
theorem Dm (arg:Bool→WS→Expr→WS) (harg: ∀b w a,(arg b w a).br=w.br) (w:WS) (e:Expr):(kB arg w e).br=w.br:=by
 unfold kB
 repeat' split
 ·rfl
 ·rw[harg,cI,cI]
 ·rw[harg,cI]
 ·rfl
 ·rw[harg,cI,harg]
 ·rfl
theorem kP: ∀(n:Nat) (w:WS) (e:Expr),(cG n w e).br=w.br
 |0,w,e=>rfl
 |1,w,e=>by rw[cG];exact xD _ _ _ rfl
 |m+2,w,e=>by
  rw[cG];refine xD _ _ _ ?_;rw[Dm _ (fun b w a=>?_)]
  ·rfl
  ·split
   ·rw[cI,kP m,cI]
   ·exact kP (m+1) _ _
theorem qp (i:Nat) (w:WS):(gk i w).br=w.br:=by
 unfold gk;split
 ·rfl
 ·exact cI _ _
theorem Cz (w:WS) (t:Term):(jL w t).br=w.br:=by
 unfold jL
 repeat' split
 ·rw[cI];rfl
 ·rw[tZ];rfl
 ·rw[cI];rfl
 ·rfl
theorem ud (l:List Term) (w:WS): ∀i,(fi l w i).br=w.br
 |0=>rfl
 |i+1=>by rw[fi,Cz,qp,ud l w i]
theorem yj (w:WS) (a:Atom):(jB w a).br=w.br:=by rw[jB,cI,ud,cI];rfl
theorem mN (f:Lit→WS→WS) (hf: ∀l w,(f l w).br=w.br) (l:List Lit) (w:WS): ∀i,(cS f l w i).br=w.br
 |0=>rfl
 |i+1=>by
  rw[cS];split
  ·exact mN f hf l w i
  ·rw[hf,qp,mN f hf l w i]
theorem Dq (w:WS) (a:fg):(ou w a).br=w.br:=by
 unfold ou;split
 ·rfl
 ·rw[cI,kP]
theorem KL (f:Lit→WS→WS) (hf: ∀l w,(f l w).br=w.br) (w:WS) (a:fg):(wo f w a).br=w.br:=by
 unfold wo;split
 ·rfl
 ·rw[cI]
  show(cS _ _ _ _).br+ -1=_;rw[mN f hf];show(ou _ _).br+1+ -1=_;rw[Dq,cI,sE];omega
theorem J8 (f:Lit→WS→WS) (hf: ∀l w,(f l w).br=w.br) (l:Lit) (w:WS):(y0 f l w).br=w.br:=by
 unfold y0
 repeat' split
 ·rw[yj,cI]
 ·exact yj _ _
 ·rw[KE,kP]
 ·rw[kP,cI,kP]
 ·exact KL f hf _ _
 ·rfl
theorem vP: ∀(n:Nat) (l:Lit) (w:WS),(df n l w).br=w.br
 |0,_,_=>rfl
 |n+1,l,w=>by rw[df,J8 (df n) (vP n)];rfl
mutual
def Lit.ts:Lit→Nat
 | .mk _ a _ l r _ v o b _=>100+a.ts+l.ts+r.ts+v.size+o.ts+Lit.lJ b
def Lit.lJ:List Lit→Nat
 | []=>0
 |e::r=>e.ts+Lit.lJ r
end
theorem Lit.qw (l:Lit):l.ts=100+l.atom.ts+l.left.ts+l.right.ts+l.bp.size+l.jZ.ts+Lit.lJ l.ay:=by cases l;rfl
theorem Lit.wC: ∀(l:List Lit) (i:Nat),i<l.length→Lit.lJ (l.take i)+(l.getD i default).ts≤Lit.lJ l
 | [],i,h=>by simp at h
 |s::r,0,_=>by simp[Lit.lJ]
 |s::r,i+1,h=>by
  have:=Lit.wC r i (by simpa using h);simp only[XE,Lit.lJ,XO];omega
theorem Lit.Cu: ∀(l:List Lit) (i:Nat),Lit.lJ (l.take i)≤Lit.lJ l
 | [],i=>by simp
 |s::r,0=>by simp[Lit.lJ]
 |s::r,i+1=>by have:=Lit.Cu r i;simp only[XE,Lit.lJ];omega
theorem Lit.Rw (l:Lit):100≤l.ts:=by rw[l.qw];omega
theorem Et (op:Int):(s9 op).size≤4:=by
 unfold s9
 repeat' split
 all_goals decide
theorem xU (op:Int):(iu op).size≤5:=by
 unfold iu
 repeat' split
 all_goals decide
def KQ (f:Lit→WS→WS):Prop:= ∀l w,(f l w).l.length+4≤w.l.length+l.ts
theorem nj (f:Lit→WS→WS) (hf:KQ f) (l:List Lit) (w:WS): ∀i,i≤l.length→(cS f l w i).l.length≤w.l.length+Lit.lJ (l.take i)
 |0,_=>by simp[cS,Lit.lJ]
 |i+1,h=>by
  have h1:=nj f hf l w i (by omega)
  have h5:Lit.lJ (l.take (i+1))=Lit.lJ (l.take i)+(l.getD i default).ts:=by
   rw[aW (by omega)]
   have: ∀(a:List Lit) (b:Lit),Lit.lJ (a++ [b])=Lit.lJ a+b.ts:=by
    intro a b
    induction a with
    |nil=>simp[Lit.lJ]
    |cons x r ih=>simp only[XF,Lit.lJ,ih];omega
   exact this _ _
  rw[cS];split
  ·omega
  ·have h2:=hf (l.getD i default) (gk i (cS f l w i))
   have h3:=lF i (cS f l w i);omega
theorem z6 (w:WS) (a:fg):(ou w a).l.length≤w.l.length+a.iq.ts+3:=by
 have e:Cd.size=3:=rfl;unfold ou;split
 ·rw[aQ];omega
 ·have:=cU 17 w a.iq
  rw[aP,e];omega
theorem uM (w:WS) (a:fg):(aV (aR w (eV a.var)) [a.var,pG,iu a.func,pH]).l.length≤w.l.length+a.var.size+11:=by
 have e1:pG.size=3:=rfl;have e2:pH.size=3:=rfl;have h:=xU a.func;have e:eH [a.var,pG,iu a.func,pH]=a.var.size+(3+((iu a.func).size+3)):=by simp[eH,e1,e2]
 rw[gY,aQ,e];omega
theorem EG (f:Lit→WS→WS) (hf:KQ f) (w:WS) (a:fg):(wo f w a).l.length≤w.l.length+a.var.size+a.iq.ts+Lit.lJ a.body+20:=by
 have e:wY.size=2:=rfl;unfold wo;split
 ·rw[eT];omega
 ·rw[aP,e]
  show(cS _ _ _ _).l.length+2≤_;have h1:=nj f hf a.body (tC (ou (aV (aR w (eV a.var)) [a.var,pG,iu a.func,pH]) a) 1) a.body.length (Wz _);rw[Ya] at h1;have h2:=z6 (aV (aR w (eV a.var)) [a.var,pG,iu a.func,pH]) a;have h3:=uM w a;have h4:(tC (ou (aV (aR w (eV a.var)) [a.var,pG,iu a.func,pH]) a) 1).l.length=(ou (aV (aR w (eV a.var)) [a.var,pG,iu a.func,pH]) a).l.length:=rfl;omega
theorem DB (f:Lit→WS→WS) (hf:KQ f) (l:Lit) (w:WS):(y0 f l w).l.length+4≤w.l.length+l.ts:=by
 have h0:=l.qw;have e:yG.size=4:=rfl;unfold y0
 repeat' split
 ·have h1:=u9 (aV w [yG]) l.atom
  rw[aP,e] at h1;omega
 ·have h1:=u9 w l.atom;omega
 ·have h1:=cU 17 w l.left
  rw[eT];omega
 ·have h1:=cU 17 w l.left
  have h2:=cU 17 (aV (cG 17 w l.left) [s9 l.op]) l.right;have h3:=Et l.op;rw[aP] at h2;omega
 ·have h1:=EG f hf w l.agg
  have h2:l.agg.var=l.bp:=rfl;have h3:l.agg.iq=l.jZ:=rfl;have h4:l.agg.body=l.ay:=rfl;rw[h2,h3,h4] at h1;omega
 ·rw[eT];omega
theorem sI: ∀n,KQ (df n)
 |0=>fun l w=>by have:=l.Rw;rw[df];omega
 |n+1=>fun l w=>DB (df n) (sI n) l (aR w (j7 l))
theorem u6 {f:Lit→WS→WS} {l:List Lit} {w:WS} {i:Nat} (h:(cS f l w i).bad=true): ∀k,cS f l w (i+k)=cS f l w i
 |0=>rfl
 |k+1=>by
  have:=u6 h k;rw[←XZ,cS,this,if_pos h]
end Go.Proofs.YtflegjieadkonaaGreatDoor
namespace Go.Proofs.YtflegjieadkonaaGreatDoor
open Go Go.Al
set_option maxRecDepth 10000
def EI (n:Nat):Prop:= ∀(l:Lit) (w:WS),l.size≤n→0≤w.br→w.br≤16→w.l.length+l.ts≤900000000→cf Tryz.prog 190 [.ptr 0 0,ag l.c] w.O (.bP []) (df n l w).H 3
set_option maxHeartbeats 1000000 in
theorem d214 (n:Nat) (ih:EI n) (w:WS) (ls:List Lit) (hs:Lit.aC ls≤n) (hb0:0≤w.br) (hb1:w.br≤16) (hb:w.l.length+Lit.lJ ls+2≤900000000) (hn:n≤100000000):
  cf Tryz.prog 248 [.ptr 0 0, .iv (lits ls)] w.O (.bP []) (cS (df n) ls w ls.length).H 3:=by
 have e4:wZ.size=2:=rfl;have hlt:=Lit.aL ls;refine aH ae Tryz.func248 rfl (by decide) Tryz.ntmps248 rfl (by simp) ?_;refine gA rfl ?_
 refine aK 0 ls.length (WC _) (fun i=>⟨[(0, .ptr 0 0),(6, .iv (lits ls)),(7,pI ls.length),(8,pI i)],[(0,some ((cS (df n) ls w i).td 0 2)),(2,some (.bx (cS (df n) ls w i).l 5))],3⟩) (fun _=>True) _ trivial
  (yo (w:=w) rfl rfl rfl rfl rfl (.refl _) (.refl _) rfl rfl rfl rfl rfl ⟨.refl _,rfl, .refl _,rfl, .refl _,rfl, .refl _,rfl,trivial⟩) fun i hi _=>?_
 have hln:=nj (df n) (sI n) ls w i hi;have hbr:=mN (df n) (vP n) ls w i;have hsl:=Lit.Cu ls i;refine gA rfl ?_;refine Wl (fun h1=>?_) (fun h1=>?_);rotate_left
 ·have h1:ls.length≤i:=Xc fun hh=>absurd (Xe.2 hh) (of_decide_eq_false h1)
  have hie:i=ls.length:=by omega
  subst hie;refine gA rfl (bn (by first|exact .inr rfl|exact .inl rfl) rfl rfl rfl rfl rfl (by first|exact .refl _|exact .kb _) (by first|exact .refl _|exact .kb _) rfl rfl rfl rfl (.refl _) rfl rfl)
 have h1:i<ls.length:=Xe.1 (of_decide_eq_true h1);have hst:=Lit.wC ls i h1;have hsg:=Lit.bN ls i h1;have hs1:cS (df n) ls w (i+1)=if(cS (df n) ls w i).bad=true then cS (df n) ls w i else df n (ls.getD i default) (gk i (cS (df n) ls w i)):=rfl;have hbad:=fun h=>u6 (f:=df n) (l:=ls) (w:=w) (i:=i) h (ls.length-i);rw[Nat.add_sub_cancel' (Nat.le_of_lt h1)] at hbad;have hcl:=lF i (cS (df n) ls w i);have hcb:=qp i (cS (df n) ls w i);generalize cS (df n) ls w i=w2 at*
 refine gA rfl ?_;refine Wl (fun g=>?_) (fun g=>?_)
 ·have g:w2.bad=true:=g
  rw[hbad g];refine gA rfl (bn (by first|exact .inr rfl|exact .inl rfl) rfl rfl rfl rfl rfl (by first|exact .refl _|exact .kb _) (by first|exact .refl _|exact .kb _) rfl rfl rfl rfl (.refl _) rfl rfl)
 have g: ¬w2.bad=true:=by
  have g:w2.bad=false:=g;rw[g];decide
 rw[if_neg g] at hs1;refine gA rfl ?_;refine Wl (fun h2=>?_) (fun h2=>?_)
 ·have h2: ¬i=0:=by have:=of_decide_eq_true h2;omega
  rw[gk,if_neg h2] at hs1 hcl hcb;refine gA rfl (go_wp (d147 w2 [wZ] (by simp) (by rw[bC,e4];omega)) rfl rfl rfl rfl rfl rfl rfl rfl rfl rfl rfl rfl ?_);refine gA rfl (bX (ih (ls.getD i default) (aV w2 [wZ]) (by omega) (by omega) (by omega) (by omega)) rfl rfl rfl rfl rfl rfl rfl rfl rfl rfl rfl rfl ?_);refine gA rfl ⟨h1,trivial,_,yo (hs1.symm) rfl rfl rfl rfl (by first|exact .refl _|exact .kb _) (by first|exact .refl _|exact .kb _) rfl rfl rfl rfl rfl ⟨.refl _,rfl, .refl _,rfl, .refl _,rfl, .refl _,rfl,trivial⟩⟩
 ·have h2:i=0:=by have:=of_decide_eq_false h2;omega
  rw[gk,if_pos h2] at hs1 hcl hcb;refine gA rfl (bX (ih (ls.getD i default) w2 (by omega) (by omega) (by omega) (by omega)) rfl rfl rfl rfl rfl rfl rfl rfl rfl rfl rfl rfl ?_);refine gA rfl ⟨h1,trivial,_,yo (hs1.symm) rfl rfl rfl rfl (by first|exact .refl _|exact .kb _) (by first|exact .refl _|exact .kb _) rfl rfl rfl rfl rfl ⟨.refl _,rfl, .refl _,rfl, .refl _,rfl, .refl _,rfl,trivial⟩⟩
def fg.ts (a:fg):Nat:=a.var.size+a.iq.ts+Lit.lJ a.body
set_option maxHeartbeats 4000000 in
theorem d190 (n:Nat) (ih:EI n) (w:WS) (a:fg) (hs:Lit.aC a.body≤n) (hb0:0≤w.br) (hb1:w.br≤16) (hb:w.l.length+a.ts+30≤900000000) (hn:n≤100000000):
  cf Tryz.prog 223 [.ptr 0 0,ag a.c] w.O (.bP []) (wo (df n) w a).H 3:=by
 refine cf.le (args:=[.ptr 0 0,ag a.c1]) ?_ ⟨.refl _,a.Ac,trivial⟩;have e4:wY.size=2:=rfl;have e5:Cd.size=3:=rfl;have hlt:=Lit.aL a.body;have hts:a.ts=a.var.size+a.iq.ts+Lit.lJ a.body:=rfl;have hW: ¬(a.func<1∨5≤a.func∨16≤w.br∨a.body.length=0)→wo (df n) w a=aV (tC (cS (df n) a.body (tC (ou (aV (aR w (eV a.var)) [a.var,pG,iu a.func,pH]) a) 1) a.body.length) (-1)) [wY]:=fun h=>if_neg h;have hB:a.func<1∨5≤a.func∨16≤w.br∨a.body.length=0→wo (df n) w a=mO w:=fun h=>if_pos h;have hh:=uM w a;have hh2:=z6 (aV (aR w (eV a.var)) [a.var,pG,iu a.func,pH]) a;have hh3:=Dq (aV (aR w (eV a.var)) [a.var,pG,iu a.func,pH]) a;rw[cI,sE] at hh3;have hh4:(tC (ou (aV (aR w (eV a.var)) [a.var,pG,iu a.func,pH]) a) 1).l.length=(ou (aV (aR w (eV a.var)) [a.var,pG,iu a.func,pH]) a).l.length:=rfl;have hh5:(tC (ou (aV (aR w (eV a.var)) [a.var,pG,iu a.func,pH]) a) 1).br=(ou (aV (aR w (eV a.var)) [a.var,pG,iu a.func,pH]) a).br+1:=rfl;have hh6:=nj (df n) (sI n) a.body (tC (ou (aV (aR w (eV a.var)) [a.var,pG,iu a.func,pH]) a) 1) a.body.length (Wz _);rw[Ya] at hh6;have hh7:=mN (df n) (vP n) a.body (tC (ou (aV (aR w (eV a.var)) [a.var,pG,iu a.func,pH]) a) 1) a.body.length;have hz1:eH [a.var,pG,iu a.func,pH]=a.var.size+(3+((iu a.func).size+3)):=by simp[eH,pG,pH];rfl
 have hz2:=xU a.func;obtain⟨func,var,iq,body⟩:=a;dsimp only at*
 refine aH ae Tryz.func223 rfl (by decide) Tryz.ntmps223 rfl (by simp) ?_;refine gA rfl ?_;refine Wl (fun g1=>?_) (fun g1=>?_);rotate_left
 ·rw[hB (.inl (of_decide_eq_true g1))]
  refine gA rfl (bn (by first|exact .inr rfl|exact .inl rfl) rfl rfl rfl rfl rfl (by first|exact .refl _|exact .kb _) (by first|exact .refl _|exact .kb _) rfl rfl rfl rfl (.refl _) rfl rfl)
 refine gA rfl ?_;refine Wl (fun g2=>?_) (fun g2=>?_);rotate_left
 ·rw[hB (.inr (.inl (of_decide_eq_true g2)))]
  refine gA rfl (bn (by first|exact .inr rfl|exact .inl rfl) rfl rfl rfl rfl rfl (by first|exact .refl _|exact .kb _) (by first|exact .refl _|exact .kb _) rfl rfl rfl rfl (.refl _) rfl rfl)
 refine gA rfl ?_;refine Wl (fun g3=>?_) (fun g3=>?_);rotate_left
 ·rw[hB (.inr (.inr (.inl (of_decide_eq_true g3))))]
  refine gA rfl (bn (by first|exact .inr rfl|exact .inl rfl) rfl rfl rfl rfl rfl (by first|exact .refl _|exact .kb _) (by first|exact .refl _|exact .kb _) rfl rfl rfl rfl (.refl _) rfl rfl)
 refine gA rfl ?_;refine Wl (fun g4=>?_) (fun g4=>?_)
 ·rw[hB (.inr (.inr (.inr (Zz.1 (of_decide_eq_true g4)))))]
  refine gA rfl (bn (by first|exact .inr rfl|exact .inl rfl) rfl rfl rfl rfl rfl (by first|exact .refl _|exact .kb _) (by first|exact .refl _|exact .kb _) rfl rfl rfl rfl (.refl _) rfl rfl)
 have g1: ¬func<1:=of_decide_eq_false g1;have g2: ¬func≥5:=of_decide_eq_false g2;have g3: ¬w.br≥16:=of_decide_eq_false g3;have g4: ¬body.length=0:=fun h=>of_decide_eq_false g4 (Zz.2 h);rw[hW (by rintro(h|h|h|h)<;>omega)];have hf:func=1∨func=2∨func=3∨func=4:=by omega
 clear hW hB
 rcases hf with rfl|rfl|rfl|rfl
 ·have e:iu 1=⟨#[99,111,117,110,116]⟩:=rfl
  rw[e] at hh hh2 hh3 hh4 hh5 hh6 hh7 hz1 hz2 ⊢;refine gA rfl (an (zu var) rfl rfl rfl rfl rfl rfl ?_);refine gA rfl (bX (d146 w (eV var)) rfl rfl rfl rfl rfl rfl rfl rfl rfl rfl rfl rfl ?_);refine gA rfl (vU (d147 (aR w (eV var)) [var,pG,⟨#[99,111,117,110,116]⟩,pH] (by simp) (by rw[hz1,aQ];omega)) rfl rfl rfl rfl rfl rfl rfl rfl rfl rfl rfl rfl rfl rfl rfl rfl (by(repeat' (first|exact trivial|exact rfl|exact ah.refl _|exact ah.bk (by assumption)|apply Wl))<;>first|omega|(simp only[Wp];omega)|(simp;done)|(simp;omega)) rfl (by(repeat' (first|exact trivial|exact rfl|exact ah.refl _|exact ah.bk (by assumption)|apply Wl))<;>first|omega|(simp only[Wp];omega)|(simp;done)|(simp;omega)) ?_);generalize hW1:aV (aR w (eV var)) [var,pG,⟨#[99,111,117,110,116]⟩,pH]=w1 at*
  have eo:ou w1 ⟨1,var,iq,body⟩=aR w1 (iE iq):=rfl;rw[eo] at hh2 hh3 hh4 hh5 hh6 hh7 ⊢;refine gA rfl ?_;refine Wl (fun q=>?_) (fun q=>?_);rotate_left
  ·exact absurd (show true=false from q) (by decide)
  refine gA rfl (an (KB iq) rfl rfl rfl rfl rfl rfl ?_);refine gA rfl (bX (d146 w1 (iE iq)) rfl rfl rfl rfl rfl rfl rfl rfl rfl rfl rfl rfl ?_);generalize aR w1 (iE iq)=w2 at*
  refine gA rfl (bX (d214 n ih (tC w2 1) body hs (by omega) (by omega) (by omega) hn) rfl rfl rfl rfl rfl rfl rfl rfl rfl rfl rfl rfl ?_);generalize cS (df n) body (tC w2 1) body.length=w3 at*
  refine gA rfl (go_wp (d147 (tC w3 (-1)) [wY] (by simp) (by rw[bC,e4];show w3.l.length+2≤_;omega)) rfl rfl rfl rfl rfl rfl rfl rfl rfl rfl rfl rfl ?_);refine gA rfl (bn (by first|exact .inr rfl|exact .inl rfl) rfl rfl rfl rfl rfl (by first|exact .refl _|exact .kb _) (by first|exact .refl _|exact .kb _) rfl rfl rfl rfl (.refl _) rfl rfl)
 ·have e:iu 2=⟨#[115,117,109]⟩:=rfl
  rw[e] at hh hh2 hh3 hh4 hh5 hh6 hh7 hz1 hz2 ⊢;refine gA rfl (an (zu var) rfl rfl rfl rfl rfl rfl ?_);refine gA rfl (bX (d146 w (eV var)) rfl rfl rfl rfl rfl rfl rfl rfl rfl rfl rfl rfl ?_);refine gA rfl (vU (d147 (aR w (eV var)) [var,pG,⟨#[115,117,109]⟩,pH] (by simp) (by rw[hz1,aQ];omega)) rfl rfl rfl rfl rfl rfl rfl rfl rfl rfl rfl rfl rfl rfl rfl rfl (by(repeat' (first|exact trivial|exact rfl|exact ah.refl _|exact ah.bk (by assumption)|apply Wl))<;>first|omega|(simp only[Wp];omega)|(simp;done)|(simp;omega)) rfl (by(repeat' (first|exact trivial|exact rfl|exact ah.refl _|exact ah.bk (by assumption)|apply Wl))<;>first|omega|(simp only[Wp];omega)|(simp;done)|(simp;omega)) ?_);generalize hW1:aV (aR w (eV var)) [var,pG,⟨#[115,117,109]⟩,pH]=w1 at*
  have eo:ou w1 ⟨2,var,iq,body⟩=aV (cG 17 w1 iq) [Cd]:=rfl;rw[eo] at hh2 hh3 hh4 hh5 hh6 hh7 ⊢;refine gA rfl ?_;refine Wl (fun q=>?_) (fun q=>?_)
  ·exact absurd (show false=true from q) (by decide)
  have hx:=cU 17 w1 iq;refine gA rfl (bX (nJ w1 iq (by omega)) rfl rfl rfl rfl rfl rfl rfl rfl rfl rfl rfl rfl ?_);refine gA rfl (go_wp (d147 (cG 17 w1 iq) [Cd] (by simp) (by rw[bC,e5];omega)) rfl rfl rfl rfl rfl rfl rfl rfl rfl rfl rfl rfl ?_);generalize aV (cG 17 w1 iq) [Cd]=w2 at*
  refine gA rfl (bX (d214 n ih (tC w2 1) body hs (by omega) (by omega) (by omega) hn) rfl rfl rfl rfl rfl rfl rfl rfl rfl rfl rfl rfl ?_);generalize cS (df n) body (tC w2 1) body.length=w3 at*
  refine gA rfl (go_wp (d147 (tC w3 (-1)) [wY] (by simp) (by rw[bC,e4];show w3.l.length+2≤_;omega)) rfl rfl rfl rfl rfl rfl rfl rfl rfl rfl rfl rfl ?_);refine gA rfl (bn (by first|exact .inr rfl|exact .inl rfl) rfl rfl rfl rfl rfl (by first|exact .refl _|exact .kb _) (by first|exact .refl _|exact .kb _) rfl rfl rfl rfl (.refl _) rfl rfl)
 ·have e:iu 3=⟨#[109,105,110]⟩:=rfl
  rw[e] at hh hh2 hh3 hh4 hh5 hh6 hh7 hz1 hz2 ⊢;refine gA rfl (an (zu var) rfl rfl rfl rfl rfl rfl ?_);refine gA rfl (bX (d146 w (eV var)) rfl rfl rfl rfl rfl rfl rfl rfl rfl rfl rfl rfl ?_);refine gA rfl (vU (d147 (aR w (eV var)) [var,pG,⟨#[109,105,110]⟩,pH] (by simp) (by rw[hz1,aQ];omega)) rfl rfl rfl rfl rfl rfl rfl rfl rfl rfl rfl rfl rfl rfl rfl rfl (by(repeat' (first|exact trivial|exact rfl|exact ah.refl _|exact ah.bk (by assumption)|apply Wl))<;>first|omega|(simp only[Wp];omega)|(simp;done)|(simp;omega)) rfl (by(repeat' (first|exact trivial|exact rfl|exact ah.refl _|exact ah.bk (by assumption)|apply Wl))<;>first|omega|(simp only[Wp];omega)|(simp;done)|(simp;omega)) ?_);generalize hW1:aV (aR w (eV var)) [var,pG,⟨#[109,105,110]⟩,pH]=w1 at*
  have eo:ou w1 ⟨3,var,iq,body⟩=aV (cG 17 w1 iq) [Cd]:=rfl;rw[eo] at hh2 hh3 hh4 hh5 hh6 hh7 ⊢;refine gA rfl ?_;refine Wl (fun q=>?_) (fun q=>?_)
  ·exact absurd (show false=true from q) (by decide)
  have hx:=cU 17 w1 iq;refine gA rfl (bX (nJ w1 iq (by omega)) rfl rfl rfl rfl rfl rfl rfl rfl rfl rfl rfl rfl ?_);refine gA rfl (go_wp (d147 (cG 17 w1 iq) [Cd] (by simp) (by rw[bC,e5];omega)) rfl rfl rfl rfl rfl rfl rfl rfl rfl rfl rfl rfl ?_);generalize aV (cG 17 w1 iq) [Cd]=w2 at*
  refine gA rfl (bX (d214 n ih (tC w2 1) body hs (by omega) (by omega) (by omega) hn) rfl rfl rfl rfl rfl rfl rfl rfl rfl rfl rfl rfl ?_);generalize cS (df n) body (tC w2 1) body.length=w3 at*
  refine gA rfl (go_wp (d147 (tC w3 (-1)) [wY] (by simp) (by rw[bC,e4];show w3.l.length+2≤_;omega)) rfl rfl rfl rfl rfl rfl rfl rfl rfl rfl rfl rfl ?_);refine gA rfl (bn (by first|exact .inr rfl|exact .inl rfl) rfl rfl rfl rfl rfl (by first|exact .refl _|exact .kb _) (by first|exact .refl _|exact .kb _) rfl rfl rfl rfl (.refl _) rfl rfl)
 ·have e:iu 4=⟨#[109,97,120]⟩:=rfl
  rw[e] at hh hh2 hh3 hh4 hh5 hh6 hh7 hz1 hz2 ⊢;refine gA rfl (an (zu var) rfl rfl rfl rfl rfl rfl ?_);refine gA rfl (bX (d146 w (eV var)) rfl rfl rfl rfl rfl rfl rfl rfl rfl rfl rfl rfl ?_);refine gA rfl (vU (d147 (aR w (eV var)) [var,pG,⟨#[109,97,120]⟩,pH] (by simp) (by rw[hz1,aQ];omega)) rfl rfl rfl rfl rfl rfl rfl rfl rfl rfl rfl rfl rfl rfl rfl rfl (by(repeat' (first|exact trivial|exact rfl|exact ah.refl _|exact ah.bk (by assumption)|apply Wl))<;>first|omega|(simp only[Wp];omega)|(simp;done)|(simp;omega)) rfl (by(repeat' (first|exact trivial|exact rfl|exact ah.refl _|exact ah.bk (by assumption)|apply Wl))<;>first|omega|(simp only[Wp];omega)|(simp;done)|(simp;omega)) ?_);generalize hW1:aV (aR w (eV var)) [var,pG,⟨#[109,97,120]⟩,pH]=w1 at*
  have eo:ou w1 ⟨4,var,iq,body⟩=aV (cG 17 w1 iq) [Cd]:=rfl;rw[eo] at hh2 hh3 hh4 hh5 hh6 hh7 ⊢;refine gA rfl ?_;refine Wl (fun q=>?_) (fun q=>?_)
  ·exact absurd (show false=true from q) (by decide)
  have hx:=cU 17 w1 iq;refine gA rfl (bX (nJ w1 iq (by omega)) rfl rfl rfl rfl rfl rfl rfl rfl rfl rfl rfl rfl ?_);refine gA rfl (go_wp (d147 (cG 17 w1 iq) [Cd] (by simp) (by rw[bC,e5];omega)) rfl rfl rfl rfl rfl rfl rfl rfl rfl rfl rfl rfl ?_);generalize aV (cG 17 w1 iq) [Cd]=w2 at*
  refine gA rfl (bX (d214 n ih (tC w2 1) body hs (by omega) (by omega) (by omega) hn) rfl rfl rfl rfl rfl rfl rfl rfl rfl rfl rfl rfl ?_);generalize cS (df n) body (tC w2 1) body.length=w3 at*
  refine gA rfl (go_wp (d147 (tC w3 (-1)) [wY] (by simp) (by rw[bC,e4];show w3.l.length+2≤_;omega)) rfl rfl rfl rfl rfl rfl rfl rfl rfl rfl rfl rfl ?_);refine gA rfl (bn (by first|exact .inr rfl|exact .inl rfl) rfl rfl rfl rfl rfl (by first|exact .refl _|exact .kb _) (by first|exact .refl _|exact .kb _) rfl rfl rfl rfl (.refl _) rfl rfl)
set_option maxHeartbeats 4000000 in
theorem B2 (n:Nat) (ih:EI n) (hn:n≤100000000):EI (n+1):=by
 intro l w hs hb0 hb1 hb;have e4:yG.size=4:=rfl;have hsz:=l.size_eq;have hts:=l.qw;have hag:l.agg.ts=l.bp.size+l.jZ.ts+Lit.lJ l.ay:=rfl;have hL:df (n+1) l w=y0 (df n) l (aR w (j7 l)):=rfl;rw[hL];have hm1:(aR w (j7 l)).l.length=w.l.length:=rfl;have hm2:=sE w (j7 l);have hx:=cU 17 (aR w (j7 l)) l.left;obtain⟨kind,atom,op,left,right,dG,bp,jZ,ay,at_⟩:=l;dsimp only[Lit.atom,Lit.left,Lit.right,Lit.bp,Lit.jZ,Lit.ay] at hsz hts hag hx;refine aH ae Tryz.func190 rfl (by decide) Tryz.ntmps190 rfl (by simp) ?_;refine gA rfl (an (VZ (.mk kind atom op left right dG bp jZ ay at_)) rfl rfl rfl rfl rfl rfl ?_);refine gA rfl (bX (d146 w (j7 (.mk kind atom op left right dG bp jZ ay at_))) rfl rfl rfl rfl rfl rfl rfl rfl rfl rfl rfl rfl ?_);generalize aR w (j7 (.mk kind atom op left right dG bp jZ ay at_))=w1 at*
 have hK:y0 (df n) (.mk kind atom op left right dG bp jZ ay at_) w1=if kind=2 then jB (aV w1 [yG]) atom else if kind=1 then jB w1 atom
  else if kind=3 then(if op<1∨7≤op then mO (cG 17 w1 left) else cG 17 (aV (cG 17 w1 left) [s9 op]) right)
  else if kind=4 then wo (df n) w1 (Lit.mk kind atom op left right dG bp jZ ay at_).agg else mO w1:=rfl
 rw[hK];refine gA rfl ?_;refine Wl (fun k2=>?_) (fun k2=>?_)
 ·have k2:kind=2:=of_decide_eq_true k2
  rw[if_pos k2];refine gA rfl (go_wp (d147 w1 [yG] (by simp) (by rw[bC,e4];omega)) rfl rfl rfl rfl rfl rfl rfl rfl rfl rfl rfl rfl ?_);refine gA rfl (bX (d104 (aV w1 [yG]) atom (by rw[aP,e4];omega)) rfl rfl rfl rfl rfl rfl rfl rfl rfl rfl rfl rfl ?_);refine gA rfl (bn (by first|exact .inr rfl|exact .inl rfl) rfl rfl rfl rfl rfl (by first|exact .refl _|exact .kb _) (by first|exact .refl _|exact .kb _) rfl rfl rfl rfl (.refl _) rfl rfl)
 have k2: ¬kind=2:=of_decide_eq_false k2;rw[if_neg k2];refine gA rfl ?_;refine Wl (fun k1=>?_) (fun k1=>?_)
 ·have k1:kind=1:=of_decide_eq_true k1
  rw[if_pos k1];refine gA rfl (bX (d104 w1 atom (by omega)) rfl rfl rfl rfl rfl rfl rfl rfl rfl rfl rfl rfl ?_);refine gA rfl (bn (by first|exact .inr rfl|exact .inl rfl) rfl rfl rfl rfl rfl (by first|exact .refl _|exact .kb _) (by first|exact .refl _|exact .kb _) rfl rfl rfl rfl (.refl _) rfl rfl)
 have k1: ¬kind=1:=of_decide_eq_false k1;rw[if_neg k1];refine gA rfl ?_;refine Wl (fun k3=>?_) (fun k3=>?_);rotate_left
 ·have k3: ¬kind=3:=of_decide_eq_false k3
  rw[if_neg k3];refine gA rfl ?_;refine Wl (fun k4=>?_) (fun k4=>?_)
  ·have k4:kind=4:=of_decide_eq_true k4
   rw[if_pos k4];refine gA rfl (bX (d190 n ih w1 (Lit.mk kind atom op left right dG bp jZ ay at_).agg (by show Lit.aC ay≤n;omega) (by omega) (by omega) (by omega) hn) rfl rfl rfl rfl rfl rfl rfl rfl rfl rfl rfl rfl ?_);refine gA rfl (bn (by first|exact .inr rfl|exact .inl rfl) rfl rfl rfl rfl rfl (by first|exact .refl _|exact .kb _) (by first|exact .refl _|exact .kb _) rfl rfl rfl rfl (.refl _) rfl rfl)
  ·have k4: ¬kind=4:=of_decide_eq_false k4
   rw[if_neg k4];refine gA rfl (bn (by first|exact .inr rfl|exact .inl rfl) rfl rfl rfl rfl rfl (by first|exact .refl _|exact .kb _) (by first|exact .refl _|exact .kb _) rfl rfl rfl rfl (.refl _) rfl rfl)
 have k3:kind=3:=of_decide_eq_true k3;rw[if_pos k3];refine gA rfl (bX (nJ w1 left (by omega)) rfl rfl rfl rfl rfl rfl rfl rfl rfl rfl rfl rfl ?_);refine gA rfl ?_;refine Wl (fun g1=>?_) (fun g1=>?_);rotate_left
 ·rw[if_pos (.inl (of_decide_eq_true g1))]
  refine gA rfl (bn (by first|exact .inr rfl|exact .inl rfl) rfl rfl rfl rfl rfl (by first|exact .refl _|exact .kb _) (by first|exact .refl _|exact .kb _) rfl rfl rfl rfl (.refl _) rfl rfl)
 refine gA rfl ?_;refine Wl (fun g2=>?_) (fun g2=>?_)
 ·rw[if_pos (.inr (of_decide_eq_true g2))]
  refine gA rfl (bn (by first|exact .inr rfl|exact .inl rfl) rfl rfl rfl rfl rfl (by first|exact .refl _|exact .kb _) (by first|exact .refl _|exact .kb _) rfl rfl rfl rfl (.refl _) rfl rfl)
 have g1: ¬op<1:=of_decide_eq_false g1;have g2: ¬op≥7:=of_decide_eq_false g2;rw[if_neg (by rintro(h|h)<;>omega)];generalize cG 17 w1 left=w2 at*
 have ho:op=1∨op=2∨op=3∨op=4∨op=5∨op=6:=by omega
 clear hK hL
 rcases ho with rfl|rfl|rfl|rfl|rfl|rfl
 ·have e:s9 1=⟨#[32,61,32]⟩:=rfl
  have e6:((⟨#[32,61,32]⟩:aj)).size=3:=rfl;rw[e];refine lU rfl (by dsimp only[Lit.op];exact(by(repeat' (first|exact trivial|exact rfl|exact ah.refl _|exact ah.bk (by assumption)|apply Wl))<;>first|omega|(simp only[Wp];omega)|(simp;done)|(simp;omega))) (go_wp (d147 w2 [⟨#[32,61,32]⟩] (by simp) (by rw[bC,e6];omega)) rfl rfl rfl rfl rfl rfl rfl rfl rfl rfl rfl rfl ?_);refine gA rfl (bX (nJ (aV w2 [⟨#[32,61,32]⟩]) right (by rw[aP,e6];omega)) rfl rfl rfl rfl rfl rfl rfl rfl rfl rfl rfl rfl ?_);refine gA rfl (bn (by first|exact .inr rfl|exact .inl rfl) rfl rfl rfl rfl rfl (by first|exact .refl _|exact .kb _) (by first|exact .refl _|exact .kb _) rfl rfl rfl rfl (.refl _) rfl rfl)
 ·have e:s9 2=⟨#[32,33,61,32]⟩:=rfl
  have e6:((⟨#[32,33,61,32]⟩:aj)).size=4:=rfl;rw[e];refine lU rfl (by dsimp only[Lit.op];exact(by(repeat' (first|exact trivial|exact rfl|exact ah.refl _|exact ah.bk (by assumption)|apply Wl))<;>first|omega|(simp only[Wp];omega)|(simp;done)|(simp;omega))) (go_wp (d147 w2 [⟨#[32,33,61,32]⟩] (by simp) (by rw[bC,e6];omega)) rfl rfl rfl rfl rfl rfl rfl rfl rfl rfl rfl rfl ?_);refine gA rfl (bX (nJ (aV w2 [⟨#[32,33,61,32]⟩]) right (by rw[aP,e6];omega)) rfl rfl rfl rfl rfl rfl rfl rfl rfl rfl rfl rfl ?_);refine gA rfl (bn (by first|exact .inr rfl|exact .inl rfl) rfl rfl rfl rfl rfl (by first|exact .refl _|exact .kb _) (by first|exact .refl _|exact .kb _) rfl rfl rfl rfl (.refl _) rfl rfl)
 ·have e:s9 3=⟨#[32,60,32]⟩:=rfl
  have e6:((⟨#[32,60,32]⟩:aj)).size=3:=rfl;rw[e];refine lU rfl (by dsimp only[Lit.op];exact(by(repeat' (first|exact trivial|exact rfl|exact ah.refl _|exact ah.bk (by assumption)|apply Wl))<;>first|omega|(simp only[Wp];omega)|(simp;done)|(simp;omega))) (go_wp (d147 w2 [⟨#[32,60,32]⟩] (by simp) (by rw[bC,e6];omega)) rfl rfl rfl rfl rfl rfl rfl rfl rfl rfl rfl rfl ?_);refine gA rfl (bX (nJ (aV w2 [⟨#[32,60,32]⟩]) right (by rw[aP,e6];omega)) rfl rfl rfl rfl rfl rfl rfl rfl rfl rfl rfl rfl ?_);refine gA rfl (bn (by first|exact .inr rfl|exact .inl rfl) rfl rfl rfl rfl rfl (by first|exact .refl _|exact .kb _) (by first|exact .refl _|exact .kb _) rfl rfl rfl rfl (.refl _) rfl rfl)
 ·have e:s9 4=⟨#[32,60,61,32]⟩:=rfl
  have e6:((⟨#[32,60,61,32]⟩:aj)).size=4:=rfl;rw[e];refine lU rfl (by dsimp only[Lit.op];exact(by(repeat' (first|exact trivial|exact rfl|exact ah.refl _|exact ah.bk (by assumption)|apply Wl))<;>first|omega|(simp only[Wp];omega)|(simp;done)|(simp;omega))) (go_wp (d147 w2 [⟨#[32,60,61,32]⟩] (by simp) (by rw[bC,e6];omega)) rfl rfl rfl rfl rfl rfl rfl rfl rfl rfl rfl rfl ?_);refine gA rfl (bX (nJ (aV w2 [⟨#[32,60,61,32]⟩]) right (by rw[aP,e6];omega)) rfl rfl rfl rfl rfl rfl rfl rfl rfl rfl rfl rfl ?_);refine gA rfl (bn (by first|exact .inr rfl|exact .inl rfl) rfl rfl rfl rfl rfl (by first|exact .refl _|exact .kb _) (by first|exact .refl _|exact .kb _) rfl rfl rfl rfl (.refl _) rfl rfl)
 ·have e:s9 5=⟨#[32,62,32]⟩:=rfl
  have e6:((⟨#[32,62,32]⟩:aj)).size=3:=rfl;rw[e];refine lU rfl (by dsimp only[Lit.op];exact(by(repeat' (first|exact trivial|exact rfl|exact ah.refl _|exact ah.bk (by assumption)|apply Wl))<;>first|omega|(simp only[Wp];omega)|(simp;done)|(simp;omega))) (go_wp (d147 w2 [⟨#[32,62,32]⟩] (by simp) (by rw[bC,e6];omega)) rfl rfl rfl rfl rfl rfl rfl rfl rfl rfl rfl rfl ?_);refine gA rfl (bX (nJ (aV w2 [⟨#[32,62,32]⟩]) right (by rw[aP,e6];omega)) rfl rfl rfl rfl rfl rfl rfl rfl rfl rfl rfl rfl ?_);refine gA rfl (bn (by first|exact .inr rfl|exact .inl rfl) rfl rfl rfl rfl rfl (by first|exact .refl _|exact .kb _) (by first|exact .refl _|exact .kb _) rfl rfl rfl rfl (.refl _) rfl rfl)
 ·have e:s9 6=⟨#[32,62,61,32]⟩:=rfl
  have e6:((⟨#[32,62,61,32]⟩:aj)).size=4:=rfl;rw[e];refine lU rfl (by dsimp only[Lit.op];exact(by(repeat' (first|exact trivial|exact rfl|exact ah.refl _|exact ah.bk (by assumption)|apply Wl))<;>first|omega|(simp only[Wp];omega)|(simp;done)|(simp;omega))) (go_wp (d147 w2 [⟨#[32,62,61,32]⟩] (by simp) (by rw[bC,e6];omega)) rfl rfl rfl rfl rfl rfl rfl rfl rfl rfl rfl rfl ?_);refine gA rfl (bX (nJ (aV w2 [⟨#[32,62,61,32]⟩]) right (by rw[aP,e6];omega)) rfl rfl rfl rfl rfl rfl rfl rfl rfl rfl rfl rfl ?_);refine gA rfl (bn (by first|exact .inr rfl|exact .inl rfl) rfl rfl rfl rfl rfl (by first|exact .refl _|exact .kb _) (by first|exact .refl _|exact .kb _) rfl rfl rfl rfl (.refl _) rfl rfl)
theorem UP: ∀n,n≤100000001→EI n
 |0,_=>fun l w hs=>by have:=l.size_pos;omega
 |n+1,h=>B2 n (UP n (by omega)) (by omega)
end Go.Proofs.YtflegjieadkonaaGreatDoor
namespace Go.Proofs.YtflegjieadkonaaGreatDoor
open Go Go.Al
set_option maxRecDepth 10000
abbrev WS.o:WS:=⟨true,[],false,0⟩
section
variable {nt:Nat} {Q:AQ} {k:List KI} {s:AS}
def wN (s:AS) (i:Nat):AS:=match s with|⟨f,h,n⟩=>⟨f,(i,some (WS.o.td i n))::(n,some (.bx [] 5))::h,n+1⟩
theorem Ao {P:Program} {c:Code} {s':AS} (i:Nat) (hi:s.h.get i=some (.cells [.iv (.v (.pointer none)), .iv (.v (.slice none 0 0)),pB false,pI 0] (some 247)))
  (hs:wN s i=s') (h:GO P nt (.code c::k) Q s'):GO P nt (.code c::k) Q s:=by
 subst hs;intro M N a w hf;obtain⟨sf,sh,sn⟩:=s;obtain⟨h1,h2⟩:=hf.1.KW 5;have hlt:i<sn:=hf.1.used i _ hi;have hne:i≠sn:=fun e=>by omega
 have hget:AH.get ((sn,some (AO.bx [] 5))::sh) i=some (.cells [.iv (.v (.pointer none)), .iv (.v (.slice none 0 0)),pB false,pI 0] (some 247)):=by
  rw[AH.aA,if_neg hne];exact hi
 obtain⟨c0,T,e1,e2,e3,e4,e5⟩:=h2.obj i _ hget
 have hv: ∀(j:Nat) (p:PV),[PV.eC true i, .sl sn 0 0 1,pB false,pI 0][j]? =some p→VR M N (· <sn+1) p (c0.getD j undef):=by
  intro j p hp
  match j,hp with
  |0,hp=>
   cases hp;have:=e4 0 _ rfl;generalize c0.getD 0 undef=v at this ⊢
   cases this with
   |iv _ _ h=>cases h with
    |v=>exact .eC true i (X3 hlt)
  |1,hp=>
   cases hp;have:=e4 1 _ rfl;generalize c0.getD 1 undef=v at this ⊢
   cases this with
   |iv _ _ h=>cases h with
    |v=>exact .lQ _ _ (XT _)
  |2,hp=>exact e4 2 p hp
  |3,hp=>exact e4 3 p hp
  |j+4,hp=>cases hp
 obtain⟨g1,g2⟩:=h2.write (i:=i) (o0:= .cells [.iv (.v (.pointer none)), .iv (.v (.slice none 0 0)),pB false,pI 0] (some 247)) hget rfl w (WS.o.td i sn) rfl rfl rfl rfl (fun _ _=>rfl) ⟨c0,T,e1,e2,e3,hv,e5⟩
 have hf1:Fits M N ⟨sf,(i,some (WS.o.td i sn))::(sn,some (.bx [] 5))::sh,sn+1⟩ nt a w:=
  ⟨g2,fun k=>(hf.2.1 k).mono (.refl _) (.refl _ _) (fun i hi=>X3 hi),hf.2.2⟩
 exact AW.then h hf1 fun e a2 w2 M2 N2 s2 hx2 hf2 hr2=>⟨M2,N2,s2,(h1.trans g1).trans hx2,hf2,hr2⟩
end
def WS.told (w:WS):PV:= .bP [pS (if w.bad=true then⟨#[]⟩ else⟨w.l.toArray⟩),pI (if w.bad=true then 50 else 0)]
theorem d105 (w:WS):cf Tryz.prog 189 [.ptr 0 0] w.O w.told [] 2:=by
 refine aH ae Tryz.func189 rfl (by decide) Tryz.ntmps189 rfl (by simp) ?_;refine gA rfl ?_;refine Wl (fun g=>?_) (fun g=>?_)
 ·have g:w.bad=true:=g
  unfold WS.told;rw[if_pos g,if_pos g];refine gA rfl (az [] (by first|exact .inr rfl|exact .inl rfl) rfl (wk rfl rfl rfl ⟨.refl _,rfl,trivial⟩ trivial rfl))
 ·have g: ¬w.bad=true:=by
   have g:w.bad=false:=g;rw[g];decide
  unfold WS.told;rw[if_neg g,if_neg g];refine gA rfl (aN [0,1] (d150 w) rfl rfl rfl rfl rfl rfl rfl rfl ?_);refine gA rfl (az [] (by first|exact .inr rfl|exact .inl rfl) rfl (wk rfl rfl rfl ⟨.refl _,rfl,trivial⟩ trivial rfl))
def Vf (a:Atom):PV:=(jB WS.o a).told
def Vz (l:Lit):PV:=(df l.size l WS.o).told
theorem c61 (a:Atom) (hb:a.ts≤900000000):Pure Tryz.prog 157 [ag a.c] (Vf a):=by
 refine ax ae Tryz.func157 rfl (by decide) Tryz.ntmps157 rfl (by simp) rfl ?_;refine gM 12 rfl (Ao 1 rfl rfl ?_);refine gA rfl (bX (d104 WS.o a (by simpa using hb)) rfl rfl rfl rfl rfl rfl rfl rfl rfl rfl rfl rfl ?_);refine gA rfl (aN [1,3] (d105 (jB WS.o a)) rfl rfl rfl rfl rfl rfl rfl rfl ?_);refine gA rfl (aw (by first|exact .inr rfl|exact .inl rfl) rfl (.of_eq ?_));rfl
theorem Wb (l:Lit) (hb:l.ts≤900000000) (hs:l.size≤100000000):Pure Tryz.prog 158 [ag l.c] (Vz l):=by
 refine ax ae Tryz.func158 rfl (by decide) Tryz.ntmps158 rfl (by simp) rfl ?_;refine gM 12 rfl (Ao 1 rfl rfl ?_);refine gA rfl (bX (UP l.size (by omega) l WS.o (Wz _) (by decide) (by decide) (by simpa using hb)) rfl rfl rfl rfl rfl rfl rfl rfl rfl rfl rfl rfl ?_);refine gA rfl (aN [1,3] (d105 (df l.size l WS.o)) rfl rfl rfl rfl rfl rfl rfl rfl ?_);refine gA rfl (aw (by first|exact .inr rfl|exact .inl rfl) rfl (.of_eq ?_));rfl
end Go.Proofs.YtflegjieadkonaaGreatDoor
namespace Go.Proofs.YtflegjieadkonaaGreatDoor
open Go Go.Al
set_option maxRecDepth 10000
def nY (d:Decl) (i k:Int):Int:=
 if(d.types.any fun x=>!decide (x=1)&&!decide (x=2))=true∨je d.name=false then 1
 else if i≥64∨(d.types.length:Int)>8 then 66 else if k>0 then 60 else 0
theorem Wc (d:Decl) (i k:Int):Pure Tryz.prog 123 [ag d.c,pI i,pI k] (pI (nY d i k)):=by
 refine ax ae Tryz.func123 rfl (by decide) Tryz.ntmps123 rfl (by simp) rfl ?_;refine gA rfl (aN [] (d153 d.types) rfl rfl rfl rfl rfl rfl rfl rfl ?_);refine gA rfl ?_;refine Wl (fun g1=>?_) (fun g1=>?_);rotate_left
 ·rw[nY,if_pos (.inl (by simpa using g1))]
  refine gA rfl (aw (by first|exact .inr rfl|exact .inl rfl) rfl (.of_eq ?_));rfl
 have g1: ¬(d.types.any fun x=>!decide (x=1)&&!decide (x=2))=true:=by
  have g1:(d.types.any fun x=>!decide (x=1)&&!decide (x=2))=false:=g1;rw[g1];decide
 refine gA rfl (an (VO d.name) rfl rfl rfl rfl rfl rfl ?_);refine gA rfl ?_;refine Wl (fun g2=>?_) (fun g2=>?_)
 ·have g2:je d.name=false:=by simpa using g2
  rw[nY,if_pos (.inr g2)];refine gA rfl (aw (by first|exact .inr rfl|exact .inl rfl) rfl (.of_eq ?_));rfl
 have g2: ¬je d.name=false:=by
  have g2:je d.name=true:=by simpa using g2
  rw[g2];decide
 rw[nY,if_neg (by rintro(h|h);exact g1 h;exact g2 h)];refine gA rfl ?_;refine Wl (fun g3=>?_) (fun g3=>?_);rotate_left
 ·rw[if_pos (.inl (by simpa using g3))]
  refine gA rfl (aw (by first|exact .inr rfl|exact .inl rfl) rfl (.of_eq ?_));rfl
 have g3: ¬i≥64:=of_decide_eq_false g3;refine gA rfl ?_;refine Wl (fun g4=>?_) (fun g4=>?_)
 ·rw[if_pos (.inr (of_decide_eq_true g4))]
  refine gA rfl (aw (by first|exact .inr rfl|exact .inl rfl) rfl (.of_eq ?_));rfl
 have g4: ¬(d.types.length:Int)>8:=of_decide_eq_false g4;rw[if_neg (by rintro(h|h);exact g3 h;exact g4 h)];refine gA rfl ?_;refine Wl (fun g5=>?_) (fun g5=>?_)
 ·rw[if_pos (of_decide_eq_true g5)]
  refine gA rfl (aw (by first|exact .inr rfl|exact .inl rfl) rfl (.of_eq ?_));rfl
 ·rw[if_neg (of_decide_eq_false g5)]
  refine gA rfl (aw (by first|exact .inr rfl|exact .inl rfl) rfl (.of_eq ?_));rfl
abbrev bY:=(KC.si .i64).K
def bY.z:bY:=(Wu,0)
def bY.c (s:bY):List IV:=[iS s.1,iI s.2]
def spE (s:bY):IV:= .agg s.c
def spZ:Value:= .agg #[.string Wu, .int .i64 0]
def dvP:PV→bY
 | .agg [.iv (.v (.string s)), .iv (.v (.int _ a))]=>(s,a)
 |_=>bY.z
abbrev UM:=List (bY×bY)
abbrev KM:=List (bY×Int)
abbrev pC (m:UM):AO:= .map (.si .i64) spE bY.z spZ dvP m
abbrev upI (m:UM):IV:= .dK (.si .i64) spE bY.z spZ m
abbrev p3 (m:KM):AO:= .map (.si .i64) s4 0 (.int .i64 0) Vr m
abbrev kdI (m:KM):IV:= .dK (.si .i64) s4 0 (.int .i64 0) m
structure Want where
 lit:Int
 at_:bY
 kind:Int
 has:Int
 deriving Inhabited
def Want.c (w:Want):List IV:=[iI w.lit,iS w.at_.1,iI w.at_.2,iI w.kind,iI w.has]
structure TS where
 up:UM
 ws:List Want
 kind:KM
abbrev TS.cell (r:ak) (u j n k:Nat):AO:= .cells [.iv (b7 r), .mp u, .sl j 0 n 5, .mp k]
abbrev TS.O (r:ak) (t:TS):List AO:=[TS.cell r 1 2 t.ws.length 3,pC t.up,aD 5 t.ws Want.c,p3 t.kind]
abbrev TS.K (r:ak) (t:TS):AH:=[(0,some (TS.cell r 1 2 t.ws.length 3)),(1,some (pC t.up)),(2,some (aD 5 t.ws Want.c)),(3,some (p3 t.kind))]
abbrev TS.H (r:ak) (t:TS):AH:=[(0,some (TS.cell r 1 4 t.ws.length 3)),(1,some (pC t.up)),(4,some (aD 5 t.ws Want.c)),(3,some (p3 t.kind))]
def dr (r:ak) (s:aj) (w:Int):bY:=(s,if bG .str (aJ (aI r)) s 0>0 then-1 else w)
theorem d136 (r:ak) (t:TS) (s:aj) (w:Int):cf Tryz.prog 225 [.ptr 0 0,pS s,pI w] (t.O r) (ag (dr r s w).c) (t.K r) 4:=by
 refine aH ae Tryz.func225 rfl (by decide) Tryz.ntmps225 rfl (by simp) ?_;refine gA rfl ?_;refine Wl (fun g=>?_) (fun g=>?_)
 ·have e:dr r s w=(s, -1):=by unfold dr;rw[if_pos (of_decide_eq_true g)]
  rw[e];refine gA rfl (az [] (by first|exact .inr rfl|exact .inl rfl) rfl (wk rfl rfl rfl ⟨.refl _,rfl,trivial⟩ ⟨⟨_,rfl, .of_eq rfl⟩,Wj rfl,rfl,hM rfl rfl rfl ⟨⟨_,rfl, .of_eq (cm _).symm⟩,Wj rfl,dX _,hM rfl rfl rfl trivial⟩⟩ rfl))
 ·have e:dr r s w=(s,w):=by unfold dr;rw[if_neg (of_decide_eq_false g)]
  rw[e];refine gA rfl (az [] (by first|exact .inr rfl|exact .inl rfl) rfl (wk rfl rfl rfl ⟨.refl _,rfl,trivial⟩ ⟨⟨_,rfl, .of_eq rfl⟩,Wj rfl,rfl,hM rfl rfl rfl ⟨⟨_,rfl, .of_eq (cm _).symm⟩,Wj rfl,dX _,hM rfl rfl rfl trivial⟩⟩ rfl))
def bD:UM→bY→bY
 | [],v=>v
 |(x,y)::r,v=>if x=v then bD r y else bD r v
def gm:UM→Prop
 | []=>True
 |(x,y)::r=>x≠y∧(∀q∈r,q.1≠x)∧(∀q∈r,q.2≠x)∧gm r
def A2:UM→bY→Nat
 | [],_=>0
 |(x,_)::r,v=>if x=v then r.length+1 else A2 r v
theorem Cq: ∀(m:UM) (v:bY),A2 m v≤m.length
 | [],_=>Wz _
 |(x,y)::r,v=>by
  have:=Cq r v;unfold A2;split
  ·simp
  ·simp;omega
theorem oI: ∀(m:UM) (v:bY),eO (.si .i64) m v=false→bD m v=v
 | [],_,_=>rfl
 |(x,y)::r,v,h=>by
  unfold eO at h;unfold bD;split at h
  ·cases h
  ·rename_i hx
   rw[if_neg hx];exact oI r v h
theorem l0: ∀(m:UM) (v:bY),gm m→eO (.si .i64) m v=true→bD m (bG (.si .i64) m v bY.z)=bD m v∧A2 m (bG (.si .i64) m v bY.z)<A2 m v
 | [],_,_,h=>nomatch h
 |(x,y)::r,v,ok,h=>by
  obtain⟨o1,o2,o3,o4⟩:=ok;by_cases hx:x=v
  ·subst hx
   have e:bG (.si .i64) ((x,y)::r) x bY.z=y:=if_pos rfl;rw[e];refine⟨?_,?_⟩
   ·show(if x=y then bD r y else bD r y)=if x=x then bD r y else bD r x
    rw[if_pos rfl];split<;>rfl
   ·show(if x=y then r.length+1 else A2 r y)<if x=x then r.length+1 else A2 r x
    rw[if_pos rfl,if_neg o1];have:=Cq r y;omega
  ·have e:bG (.si .i64) ((x,y)::r) v bY.z=bG (.si .i64) r v bY.z:=if_neg hx
   have h2:eO (.si .i64) r v=true:=by
    unfold eO at h;rw[if_neg hx] at h;exact h
   rw[e];obtain⟨g1,g2⟩:=l0 r v o4 h2
   have hne:bG (.si .i64) r v bY.z≠x:=by
    have: ∀(m:UM),(∀q∈m,q.2≠x)→eO (.si .i64) m v=true→bG (.si .i64) m v bY.z≠x:=by
     intro m
     induction m with
     |nil=>intro _ h;cases h
     |cons a r ih=>
      obtain⟨x',y'⟩:=a;intro hm h;unfold eO at h;unfold bG;split at h
      ·rename_i hx';rw[if_pos hx'];exact hm _ WM
      ·rename_i hx';rw[if_neg hx'];exact ih (fun q hq=>hm q (WE _ hq)) h
    exact this r o3 h2
   refine⟨?_,?_⟩
   ·show(if x=_ then bD r y else bD r _)=if x=v then bD r y else bD r v
    rw[if_neg (fun e=>hne e.symm),if_neg hx];exact g1
   ·show(if x=_ then r.length+1 else A2 r _)<if x=v then r.length+1 else A2 r v
    rw[if_neg (fun e=>hne e.symm),if_neg hx];exact g2
theorem d52 (r:ak) (t:TS) (v0:bY) (ok:gm t.up):cf Tryz.prog 201 [.ptr 0 0,ag v0.c] (t.O r) (ag (bD t.up v0).c) (t.K r) 4:=by
 refine aH ae Tryz.func201 rfl (by decide) Tryz.ntmps201 rfl (by simp) ?_;refine gA rfl ?_
 refine mu (σ:={v:bY//bD t.up v=bD t.up v0}) (fun v=>⟨[(0, .ptr 0 0),(3, .ptr 4 0),(4, .ptr 5 0)],
  [(0,some (TS.cell r 1 2 t.ws.length 3)),(1,some (pC t.up)),(2,some (aD 5 t.ws Want.c)),(3,some (p3 t.kind)),(4,some (.cells [pS v.1.1,pI v.1.2])),(5,some (.cells [pS ⟨#[]⟩,pI 0]))],6⟩) (fun v=>A2 t.up v.1) ⟨v0,rfl⟩ []
  (wk rfl rfl rfl ⟨.refl _,rfl, .refl _,rfl, .refl _,rfl,trivial⟩ ⟨⟨_,rfl, .of_eq rfl⟩,Wj rfl,rfl,hM rfl rfl rfl ⟨⟨_,rfl, .of_eq (cm _).symm⟩,Wj rfl,dX _,hM rfl rfl rfl ⟨⟨_,rfl, .of_eq rfl⟩,Wj rfl,rfl,⟨_,rfl, .of_eq rfl⟩,Wj rfl,rfl,trivial⟩⟩⟩ rfl) fun v=>?_
 obtain⟨v,hv⟩:=v;refine gA rfl ?_;refine Wl (fun g=>?_) (fun g=>?_)
 ·have h:eO (.si .i64) t.up v=false:=by simpa using g
  have e:bD t.up v0=v:=by rw[←hv];exact oI t.up v h
  refine gA rfl (az [] (by first|exact .inr rfl|exact .inl rfl) rfl (wk rfl rfl rfl ⟨.of_eq (congrArg (fun x:bY=>ag x.c) e.symm),rfl,trivial⟩ ⟨⟨_,rfl, .of_eq rfl⟩,Wj rfl,rfl,hM rfl rfl rfl ⟨⟨_,rfl, .of_eq (cm _).symm⟩,Wj rfl,dX _,hM rfl rfl rfl trivial⟩⟩ rfl))
 ·have h:eO (.si .i64) t.up v=true:=by simpa using g
  obtain⟨h1,h2⟩:=l0 t.up v ok h;refine gA rfl ?_;exact⟨⟨bG (.si .i64) t.up v bY.z,h1.trans hv⟩,[],h2,wk rfl rfl rfl ⟨.refl _,rfl, .refl _,rfl, .refl _,rfl,trivial⟩ ⟨⟨_,rfl, .of_eq rfl⟩,Wj rfl,rfl,hM rfl rfl rfl ⟨⟨_,rfl, .of_eq (cm _).symm⟩,Wj rfl,dX _,hM rfl rfl rfl ⟨⟨_,rfl, .of_eq rfl⟩,Wj rfl,rfl,⟨_,rfl, .of_eq rfl⟩,Wj rfl,rfl,trivial⟩⟩⟩ rfl⟩
def Rv (r:ak) (t:TS):IV:= .jI [b7 r,upI t.up,cM 5 t.ws Want.c,kdI t.kind]
theorem c52 (r:ak) (t:TS) (v0:bY) (ok:gm t.up):Pure Tryz.prog 201 [.iv (Rv r t),ag v0.c] (ag (bD t.up v0).c):=by
 refine ax ae Tryz.func201 rfl (by decide) Tryz.ntmps201 rfl (by simp) rfl ?_;refine gA rfl ?_
 refine mu (σ:={v:bY//bD t.up v=bD t.up v0}) (fun v=>⟨[(0, .iv (Rv r t)),(3, .ptr 0 0),(4, .ptr 1 0)],
  [(0,some (.cells [pS v.1.1,pI v.1.2])),(1,some (.cells [pS ⟨#[]⟩,pI 0]))],2⟩) (fun v=>A2 t.up v.1) ⟨v0,rfl⟩ []
  (wk rfl rfl rfl ⟨.refl _,rfl, .refl _,rfl, .refl _,rfl,trivial⟩ ⟨⟨_,rfl, .of_eq rfl⟩,Wj rfl,rfl,⟨_,rfl, .of_eq rfl⟩,Wj rfl,rfl,trivial⟩ rfl) fun v=>?_
 obtain⟨v,hv⟩:=v;refine gA rfl ?_;refine Wl (fun g=>?_) (fun g=>?_)
 ·have h:eO (.si .i64) t.up v=false:=by simpa using g
  have e:bD t.up v0=v:=by rw[←hv];exact oI t.up v h
  refine gA rfl (aw (by first|exact .inr rfl|exact .inl rfl) rfl (.of_eq ?_));exact congrArg (fun x:bY=>ag x.c) e.symm
 ·have h:eO (.si .i64) t.up v=true:=by simpa using g
  obtain⟨h1,h2⟩:=l0 t.up v ok h;refine gA rfl ?_;exact⟨⟨bG (.si .i64) t.up v bY.z,h1.trans hv⟩,[],h2,wk rfl rfl rfl ⟨.refl _,rfl, .refl _,rfl, .refl _,rfl,trivial⟩ ⟨⟨_,rfl, .of_eq rfl⟩,Wj rfl,rfl,⟨_,rfl, .of_eq rfl⟩,Wj rfl,rfl,trivial⟩ rfl⟩
def rR (t:TS) (w:Want):Int:=if w.has=0 then bG (.si .i64) t.kind (bD t.up w.at_) 0 else w.has
def qv (t:TS) (lit:Int) (w:Want):Bool:=decide (w.lit=lit)&&!decide (rR t w=w.kind)
def pz (t:TS) (lit:Int):Bool:=t.ws.any (qv t lit)
theorem V7 (r:ak) (t:TS) (lit:Int) (ok:gm t.up) (hb:t.ws.length≤1000000000000):Pure Tryz.prog 169 [.iv (Rv r t),pI lit] (pB (pz t lit)):=by
 refine ax ae Tryz.func169 rfl (by decide) Tryz.ntmps169 rfl (by simp) rfl ?_;refine gA rfl ?_
 refine aK 0 t.ws.length (WC _) (fun i=>⟨[(0, .iv (Rv r t)),(1,pI lit),(11, .iv (cM 5 t.ws Want.c)),(12,pI t.ws.length),(13,pI i)],[],0⟩) (fun i=>(t.ws.take i).any (qv t lit)=false) [] rfl
  (wk rfl rfl rfl ⟨.refl _,rfl, .refl _,rfl, .refl _,rfl, .refl _,rfl, .refl _,rfl,trivial⟩ trivial rfl) fun i hi hJ=>?_
 refine gA rfl ?_;refine Wl (fun h1=>?_) (fun h1=>?_)
 ·have h1:i<t.ws.length:=by simpa using h1
  have hA:=cN hJ h1;refine gA rfl ?_;refine Wl (fun h2=>?_) (fun h2=>?_)
  ·have h2:(t.ws.getD i default).has=0:=of_decide_eq_true h2
   refine gA rfl (aX ae [] (Pure.lS (c52 r t (t.ws.getD i default).at_ ok)) rfl rfl rfl rfl rfl rfl rfl rfl rfl rfl rfl rfl (by(repeat' (first|exact trivial|exact rfl|exact ah.refl _|exact ah.bk (by assumption)|apply Wl))<;>first|omega|(simp only[Wp];omega)|(simp;done)|(simp;omega)) rfl (by(repeat' (first|exact trivial|exact rfl|exact ah.refl _|exact ah.bk (by assumption)|apply Wl))<;>first|omega|(simp only[Wp];omega)|(simp;done)|(simp;omega)) ?_);have hk:rR t (t.ws.getD i default)=bG (.si .i64) t.kind (bD t.up (t.ws.getD i default).at_) 0:=if_pos h2;refine gA rfl ?_;refine Wl (fun k1=>?_) (fun k1=>?_)
   ·have k1:(t.ws.getD i default).lit=lit:=of_decide_eq_true k1
    refine gA rfl ?_;refine Wl (fun k2=>?_) (fun k2=>?_)
    ·have k2: ¬rR t (t.ws.getD i default)=(t.ws.getD i default).kind:=by rw[hk];simpa using k2
     have e:pz t lit=true:=Xr.2 ⟨t.ws.getD i default,by rw[Ws,Wt h1];exact Xj h1,by rw[qv,decide_eq_true k1,decide_eq_false k2];rfl⟩;refine gA rfl (aw (by first|exact .inr rfl|exact .inl rfl) rfl (.of_eq ?_));rw[e]
    ·have k2:rR t (t.ws.getD i default)=(t.ws.getD i default).kind:=by rw[hk];simpa using k2
     refine gA rfl ?_;exact⟨h1,hA.2 (by rw[qv,decide_eq_true k2,YM,Yu]),[],wk rfl rfl rfl ⟨.refl _,rfl, .refl _,rfl, .refl _,rfl, .refl _,rfl, .refl _,rfl,trivial⟩ trivial rfl⟩
   ·have k1: ¬(t.ws.getD i default).lit=lit:=by simpa using k1
    refine gA rfl ?_;exact⟨h1,hA.2 (by rw[qv,decide_eq_false k1];rfl),[],wk rfl rfl rfl ⟨.refl _,rfl, .refl _,rfl, .refl _,rfl, .refl _,rfl, .refl _,rfl,trivial⟩ trivial rfl⟩
  ·have h2: ¬(t.ws.getD i default).has=0:=of_decide_eq_false h2
   have hk:rR t (t.ws.getD i default)=(t.ws.getD i default).has:=if_neg h2;refine gA rfl ?_;refine Wl (fun k1=>?_) (fun k1=>?_)
   ·have k1:(t.ws.getD i default).lit=lit:=of_decide_eq_true k1
    refine gA rfl ?_;refine Wl (fun k2=>?_) (fun k2=>?_)
    ·have k2: ¬rR t (t.ws.getD i default)=(t.ws.getD i default).kind:=by rw[hk];simpa using k2
     have e:pz t lit=true:=Xr.2 ⟨t.ws.getD i default,by rw[Ws,Wt h1];exact Xj h1,by rw[qv,decide_eq_true k1,decide_eq_false k2];rfl⟩;refine gA rfl (aw (by first|exact .inr rfl|exact .inl rfl) rfl (.of_eq ?_));rw[e]
    ·have k2:rR t (t.ws.getD i default)=(t.ws.getD i default).kind:=by rw[hk];simpa using k2
     refine gA rfl ?_;exact⟨h1,hA.2 (by rw[qv,decide_eq_true k2,YM,Yu]),[],wk rfl rfl rfl ⟨.refl _,rfl, .refl _,rfl, .refl _,rfl, .refl _,rfl, .refl _,rfl,trivial⟩ trivial rfl⟩
   ·have k1: ¬(t.ws.getD i default).lit=lit:=by simpa using k1
    refine gA rfl ?_;exact⟨h1,hA.2 (by rw[qv,decide_eq_false k1];rfl),[],wk rfl rfl rfl ⟨.refl _,rfl, .refl _,rfl, .refl _,rfl, .refl _,rfl, .refl _,rfl,trivial⟩ trivial rfl⟩
 ·have h1:t.ws.length≤i:=by simpa using h1
  rw[WB h1] at hJ;refine gA rfl (aw (by first|exact .inr rfl|exact .inl rfl) rfl (.of_eq ?_));rw[pz,hJ]
end Go.Proofs.YtflegjieadkonaaGreatDoor
namespace Go.Proofs.YtflegjieadkonaaGreatDoor
open Go Go.Al
set_option maxRecDepth 10000
section
variable (r:ak) (lit w:Int)
def lA (e:Expr):List Want:=if e.kind=1 then[⟨lit,dr r e.var w,1,0⟩] else if e.kind=2 then[⟨lit,bY.z,1,e.val.kind⟩] else[]
mutual
def fo:Expr→List Want
 | .mk k v val op args=>lA r lit w (.mk k v val op args)++(if k=4 then qF args else[])
def qF:List Expr→List Want
 | []=> []
 |e::s=>fo e++qF s
end
theorem xv: ∀l:List Expr,qF r lit w l=l.flatMap (fo r lit w)
 | []=>rfl
 |e::s=>by rw[qF,XA,xv s]
def gB (e:Expr):List Want:=if e.kind=4 then e.args.flatMap (fo r lit w) else[]
theorem z7 (e:Expr):fo r lit w e=lA r lit w e++gB r lit w e:=by
 cases e;rw[fo,xv];rfl
end
abbrev TS.add (t:TS) (l:List Want):TS:=⟨t.up,t.ws++l,t.kind⟩
section
variable {nt:Nat} {Q:AQ} {k:List KI} {s:AS}
def tS (s:AS) (r:ak) (t:TS) (i u j m:Nat):AS:=match s with|⟨f,h,n⟩=>⟨f,(i,some (TS.cell r u n t.ws.length m))::(u,some (pC t.up))::(n,some (aD 5 t.ws Want.c))::(m,some (p3 t.kind))::(i,none)::(u,none)::(j,none)::(m,none)::h,n+1⟩
theorem Uw (s:AS) (r:ak) (t:TS) (i u j m:Nat):tS s r t i u j m=⟨s.f,(i,some (TS.cell r u s.nx t.ws.length m))::(u,some (pC t.up))::(s.nx,some (aD 5 t.ws Want.c))::(m,some (p3 t.kind))::(i,none)::(u,none)::(j,none)::(m,none)::s.h,s.nx+1⟩:=by cases s;rfl
def tR (s:AS) (r:ak) (t:TS) (i u j m:Nat):AS:=match s with|⟨f,h,n⟩=>⟨f,(i,some (TS.cell r u j t.ws.length m))::(u,some (pC t.up))::(j,some (aD 5 t.ws Want.c))::(m,some (p3 t.kind))::(i,none)::(u,none)::(j,none)::(m,none)::h,n⟩
theorem Ux (s:AS) (r:ak) (t:TS) (i u j m:Nat):tR s r t i u j m=⟨s.f,(i,some (TS.cell r u j t.ws.length m))::(u,some (pC t.up))::(j,some (aD 5 t.ws Want.c))::(m,some (p3 t.kind))::(i,none)::(u,none)::(j,none)::(m,none)::s.h,s.nx⟩:=by cases s;rfl
theorem CB {o:Oper} {c:Call} {g:FuncId} {args al:List PV} {r:ak} {t t':TS} {res:PV} {i u j m n:Nat} {es:List (List PV)} {s':AS} (hc:cf Tryz.prog g (.ptr 0 0::args) (t.O r) res (t'.H r) 5) (ho:o.op= .call c) (ha:cK s.f c=some (g, .ptr i 0::al))
  (hi:s.h.get i=some (TS.cell r u j n m)) (hu:s.h.get u=some (pC t.up)) (hj:s.h.get j=some (.row 5 es)) (hm:s.h.get m=some (p3 t.kind)) (hn:n=t.ws.length) (he:es=t.ws.map fun x=>(Want.c x).map .iv)
  (hlt:[i,u,j,m].all (fun x=>WU x s.nx)=true) (hnd:ei [i,u,j,m]=true) (has:al=args) (hlow:bz 0 args=true) (hr:res.low 0=true)
  (hp:putDst nt o res (tS s r t' i u j m)=some s'):OT Tryz.prog nt o s (fun t=>t=s'):=by
 subst has;subst hn;subst he;have hargs: ∀σ,dJ σ al=al:=fun σ=>fV σ al hlow;refine jY ho ha hc (ef hnd) (fun j hj=>Wj (WX.1 hlt j hj)) ?_ ?_ ?_
 ·simp only[WI,Xd,hi,hu,hj,hm,cm];rfl
 ·simp only[dJ,hargs];rfl
 ·rintro q h0 n0 ⟨rfl,rfl,rfl⟩
  rw[PV.jQ _ _ hr];rw[Uw] at hp;refine⟨s',?_,rfl⟩;rw[←hp];simp only[TS.H,bj,vu,Xy,cm];rfl
theorem Cv {o:Oper} {c:Call} {g:FuncId} {args al:List PV} {r:ak} {t:TS} {res:PV} {i u j m n:Nat} {es:List (List PV)} {s':AS} (hc:cf Tryz.prog g (.ptr 0 0::args) (t.O r) res (t.K r) 4) (ho:o.op= .call c) (ha:cK s.f c=some (g, .ptr i 0::al))
  (hi:s.h.get i=some (TS.cell r u j n m)) (hu:s.h.get u=some (pC t.up)) (hj:s.h.get j=some (.row 5 es)) (hm:s.h.get m=some (p3 t.kind)) (hn:n=t.ws.length) (he:es=t.ws.map fun x=>(Want.c x).map .iv)
  (hlt:[i,u,j,m].all (fun x=>WU x s.nx)=true) (hnd:ei [i,u,j,m]=true) (has:al=args) (hlow:bz 0 args=true) (hr:res.low 0=true)
  (hp:putDst nt o res (tR s r t i u j m)=some s'):OT Tryz.prog nt o s (fun t=>t=s'):=by
 subst has;subst hn;subst he;have hargs: ∀σ,dJ σ al=al:=fun σ=>fV σ al hlow;refine jY ho ha hc (ef hnd) (fun j hj=>Wj (WX.1 hlt j hj)) ?_ ?_ ?_
 ·simp only[WI,Xd,hi,hu,hj,hm,cm];rfl
 ·simp only[dJ,hargs];rfl
 ·rintro q h0 n0 ⟨rfl,rfl,rfl⟩
  rw[PV.jQ _ _ hr];rw[Ux] at hp;refine⟨s',?_,rfl⟩;rw[←hp];simp only[TS.K,bj,vu,Xy,cm];rfl
theorem j8 {all rest:List Oper} {o:Oper} {c:Call} {g:FuncId} {args al:List PV} {r:ak} {t t':TS} {res:PV} {i u j m n:Nat} {es:List (List PV)} {s':AS} (hc:cf Tryz.prog g (.ptr 0 0::args) (t.O r) res (t'.H r) 5) (ho:o.op= .call c) (hg:o.guard=none) (ha:cK s.f c=some (g, .ptr i 0::al))
  (hi:s.h.get i=some (TS.cell r u j n m)) (hu:s.h.get u=some (pC t.up)) (hj:s.h.get j=some (.row 5 es)) (hm:s.h.get m=some (p3 t.kind)) (hn:n=t.ws.length) (he:es=t.ws.map fun x=>(Want.c x).map .iv)
  (hlt:[i,u,j,m].all (fun x=>WU x s.nx)=true) (hnd:ei [i,u,j,m]=true) (has:al=args) (hlow:bz 0 args=true) (hr:res.low 0=true)
  (hp:putDst nt o res (tS s r t' i u j m)=some s') (h:GO Tryz.prog nt (.ops all rest::k) Q s'):GO Tryz.prog nt (.ops all (o::rest)::k) Q s:=
 dE hg (CB hc ho ha hi hu hj hm hn he hlt hnd has hlow hr hp) fun t ht=>by subst ht;exact h
theorem jl {all:List Oper} {todo pend:List (Nat×Oper)} {j':Nat} {CA C2:Prop} {o:Oper} {c:Call} {g:FuncId} {args al:List PV} {r:ak} {t:TS} {res:PV} {i u j m n:Nat} {es:List (List PV)} {s':AS} (hc:cf Tryz.prog g (.ptr 0 0::args) (t.O r) res (t.K r) 4)
  (hrd:fk todo=[(j',o)]) (ho:o.op= .call c) (ha:cK s.f c=some (g, .ptr i 0::al))
  (hi:s.h.get i=some (TS.cell r u j n m)) (hu:s.h.get u=some (pC t.up)) (hj:s.h.get j=some (.row 5 es)) (hm:s.h.get m=some (p3 t.kind)) (hn:n=t.ws.length) (he:es=t.ws.map fun x=>(Want.c x).map .iv)
  (hlt:[i,u,j,m].all (fun x=>WU x s.nx)=true) (hnd:ei [i,u,j,m]=true) (has:al=args) (hlow:bz 0 args=true) (hr:res.low 0=true)
  (hp:putDst nt o res (tR s r t i u j m)=some s')
  (hg:ck nt all s.f o=some true) (hpb:jd all pend o=true) (hE:pg todo [j']=true)
  (hag:tv vg nt all s todo pend=some CA) (hCA:CA) (hag2:dU vg nt all s' (bg pend o)=some C2) (hC2:C2)
  (h:GO Tryz.prog nt (.cv all (todo.filter fun x=>!WO x.1 j') (bg pend o)::k) Q s'):GO Tryz.prog nt (.cv all todo pend::k) Q s:=
 lD ae hrd hg hpb hE hag hCA (Cv hc ho ha hi hu hj hm hn he hlt hnd has hlow hr hp) hag2 hC2 h
theorem fe {l:List ResultVar} {r0:PV} {e:Exit} {r:ak} {t':TS} {res:PV} {j n:Nat} {es:List (List PV)} (he:e= .normal∨e= .ret) (hr:lR vg s l=some r0) (hi:s.h.get 0=some (TS.cell r 1 j n 3)) (hu:s.h.get 1=some (pC t'.up)) (hj:s.h.get j=some (.row 5 es)) (hm:s.h.get 3=some (p3 t'.kind))
  (hn:n=t'.ws.length) (hes:es=t'.ws.map fun x=>(Want.c x).map .iv) (hlt:WU j s.nx=true) (hnd:ei [0,1,j,3]=true) (hns:YG 4 s.nx=true) (hrl:ah r0 res) (hlow:res.low 0=true) (hlow5:res.low 5=true):KV vg l 4 res (t'.H r) 5 e s:=by
 subst hn;subst hes;refine az [j] he hr ⟨rfl,Wj hns,fun x hx=>?_,⟨?_,hlow5,trivial⟩,⟨⟨_,hi, .of_eq rfl⟩,Wj rfl,rfl,⟨_,hu, .of_eq rfl⟩,Wj rfl,trivial,⟨_,hj, .of_eq (cm _).symm⟩,Wj rfl,dX _,⟨_,hm, .of_eq rfl⟩,Wj rfl,trivial,trivial⟩,?_⟩
 ·simp only[Wy] at hx;subst hx;exact Wj hlt
 ·rw[PV.jQ _ _ hlow];exact hrl
 ·exact ef hnd
theorem tB {n0 i u j m n:Nat} {es:List (List PV)} {tf:AF} {r:ak} {t t':TS} (hw:t=t') (hi:s.h.get i=some (TS.cell r u j n m)) (hu:s.h.get u=some (pC t.up)) (hj:s.h.get j=some (.row 5 es)) (hm:s.h.get m=some (p3 t.kind))
  (hn:n=t.ws.length) (hes:es=t.ws.map fun x=>(Want.c x).map .iv) (hlt:WU j s.nx=true) (hnd:ei [i,u,j,m]=true) (h0:[i,u,m].all (fun x=>WU x n0)=true) (hns:YG n0 s.nx=true) (hf:PM (n0+1) (sg n0 [j]) s.f tf):
  Wk n0 [j] s ⟨tf,[(i,some (TS.cell r u n0 t'.ws.length m)),(u,some (pC t'.up)),(n0,some (aD 5 t'.ws Want.c)),(m,some (p3 t'.kind))],n0+1⟩:=by
 subst hw;subst hn;subst hes;simp only[List.all_cons,List.all_nil,Zf,WN] at h0;have hi0:i<n0:=Wj h0.1;have hu0:u<n0:=Wj h0.2.1;have hm0:m<n0:=Wj h0.2.2;have s0:sg n0 [j] i=i:=fc hi0;have s1:sg n0 [j] u=u:=fc hu0;have s3:sg n0 [j] m=m:=fc hm0;have b0:WU n0 n0=false:=XD.2 fun e=>absurd (Wj e) (by omega);have sn:sg n0 [j] n0=j:=by simp[sg,b0]
 have c1:WU u (n0+1)=true:=Xi (by omega);have c3:WU m (n0+1)=true:=Xi (by omega);have cn:WU n0 (n0+1)=true:=Xi (by omega);refine⟨rfl,Wj hns,fun x hx=>?_,hf,⟨⟨_,by rw[s0];exact hi,?_⟩,by show i<n0+1;omega,?_,⟨_,by rw[s1];exact hu, .of_eq rfl⟩,by show u<n0+1;omega,trivial,⟨_,by rw[sn];exact hj, .of_eq (cm _).symm⟩,XT _,dX _,⟨_,by rw[s3];exact hm, .of_eq rfl⟩,by show m<n0+1;omega,trivial,trivial⟩,?_⟩
 ·simp only[Wy] at hx;subst hx;exact Wj hlt
 ·simp only[AO.cL,dJ,PV.cL,s1,s3,sn]
  exact .of_eq rfl
 ·simp[AO.low,bz,PV.low,c1,c3,cn]
 ·simp only[fx,s0,s1,s3,sn]
  exact ef hnd
end
theorem TS.add_add (t:TS) (a b:List Want):(t.add a).add b=t.add (a++b):=by simp[TS.add]
theorem TS.add_nil (t:TS):t.add []=t:=by simp[TS.add]
def KR (r:ak) (n:Nat):Prop:= ∀(t:TS) (e:Expr) (lit w:Int),e.size≤n→t.ws.length+Expr.aC e.args≤1000000000→cf Tryz.prog 226 [.ptr 0 0,ag e.c,pI lit,pI w] (t.O r) (.bP []) ((t.add (gB r lit w e)).H r) 5
def Sy (r:ak) (n:Nat):Prop:= ∀(t:TS) (e:Expr) (lit w:Int),e.size≤n→t.ws.length+e.size≤1000000000→cf Tryz.prog 199 [.ptr 0 0,ag e.c,pI lit,pI w] (t.O r) (.bP []) ((t.add (fo r lit w e)).H r) 5
theorem d92 (r:ak) (n:Nat) (ih:KR r n):Sy r n:=by
 intro t e lit w hs hb;have hsz:=e.size_eq;rw[z7,←TS.add_add];refine aH ae Tryz.func199 rfl (by decide) Tryz.ntmps199 rfl (by simp) ?_;refine gA rfl ?_;refine Wl (fun k1=>?_) (fun k1=>?_)
 ·have k1:e.kind=1:=of_decide_eq_true k1
  have hl:lA r lit w e=[⟨lit,dr r e.var w,1,0⟩]:=if_pos k1;rw[hl];refine gA rfl (jl (d136 r t e.var w) rfl rfl rfl rfl rfl rfl rfl (by first|rfl|(rw[Wn];rfl)|simp) (by first|rfl|(rw[Wq];rfl)|(simp only[Wq,Wv];rfl)) rfl rfl rfl rfl rfl rfl rfl rfl rfl rfl (by(repeat' (first|exact trivial|exact rfl|exact ah.refl _|exact ah.bk (by assumption)|apply Wl))<;>first|omega|(simp only[Wp];omega)|(simp;done)|(simp;omega)) rfl (by(repeat' (first|exact trivial|exact rfl|exact ah.refl _|exact ah.bk (by assumption)|apply Wl))<;>first|omega|(simp only[Wp];omega)|(simp;done)|(simp;omega)) ?_);refine gA rfl (j8 (ih (t.add [⟨lit,dr r e.var w,1,0⟩]) e lit w hs (by show(t.ws++_).length+_≤_;rw[Wn,Xp];omega)) rfl rfl rfl rfl rfl rfl rfl (by first|rfl|(rw[Wn];rfl)|simp) (by first|rfl|(rw[Wq];rfl)|(simp only[Wq,Wv];rfl)) rfl rfl rfl rfl rfl rfl ?_);refine gA rfl (fe (by first|exact .inr rfl|exact .inl rfl) rfl rfl rfl rfl rfl (by first|rfl|(rw[Wn];rfl)|simp) (by first|rfl|(rw[Wq];rfl)|(simp only[Wq,Wv];rfl)) rfl rfl rfl (.refl _) rfl rfl)
 have k1: ¬e.kind=1:=of_decide_eq_false k1;refine gA rfl ?_;refine Wl (fun k2=>?_) (fun k2=>?_)
 ·have k2:e.kind=2:=of_decide_eq_true k2
  have hl:lA r lit w e=[⟨lit,bY.z,1,e.val.kind⟩]:=by unfold lA;rw[if_neg k1,if_pos k2]
  rw[hl];refine gA rfl (j8 (ih (t.add [⟨lit,bY.z,1,e.val.kind⟩]) e lit w hs (by show(t.ws++_).length+_≤_;rw[Wn,Xp];omega)) rfl rfl rfl rfl rfl rfl rfl (by first|rfl|(rw[Wn];rfl)|simp) (by first|rfl|(rw[Wq];rfl)|(simp only[Wq,Wv];rfl)) rfl rfl rfl rfl rfl rfl ?_);refine gA rfl (fe (by first|exact .inr rfl|exact .inl rfl) rfl rfl rfl rfl rfl (by first|rfl|(rw[Wn];rfl)|simp) (by first|rfl|(rw[Wq];rfl)|(simp only[Wq,Wv];rfl)) rfl rfl rfl (.refl _) rfl rfl)
 ·have k2: ¬e.kind=2:=of_decide_eq_false k2
  have hl:lA r lit w e=[]:=by unfold lA;rw[if_neg k1,if_neg k2]
  rw[hl,TS.add_nil];refine gA rfl (j8 (ih t e lit w hs (by omega)) rfl rfl rfl rfl rfl rfl rfl (by first|rfl|(rw[Wn];rfl)|simp) (by first|rfl|(rw[Wq];rfl)|(simp only[Wq,Wv];rfl)) rfl rfl rfl rfl rfl rfl ?_);refine gA rfl (fe (by first|exact .inr rfl|exact .inl rfl) rfl rfl rfl rfl rfl (by first|rfl|(rw[Wn];rfl)|simp) (by first|rfl|(rw[Wq];rfl)|(simp only[Wq,Wv];rfl)) rfl rfl rfl (.refl _) rfl rfl)
theorem fY (r:ak) (lit w:Int): ∀e:Expr,(fo r lit w e).length≤e.size
 | .mk k v val op args=>by
  rw[fo,Expr.size,Wn]
  have h1:(lA r lit w (.mk k v val op args)).length≤1:=by
   unfold lA
   repeat' split
   all_goals simp
  have h2:(if k=4 then qF r lit w args else[]).length≤Expr.aC args:=by
   split
   ·exact numRs_len args
   ·simp
  omega
where
 numRs_len: ∀l:List Expr,(qF r lit w l).length≤Expr.aC l
 | []=>by simp[qF]
 |e::s=>by
  have h1:=fY r lit w e;have h2:=numRs_len s;rw[qF,Expr.aC,Wn];omega
theorem Dr (r:ak) (lit w:Int) (l:List Expr) (i:Nat) (h:i<l.length):((l.take i).flatMap (fo r lit w)).length+(l.getD i default).size≤Expr.aC l:=by
 have h1: ∀l:List Expr,(l.flatMap (fo r lit w)).length≤Expr.aC l:=by
  intro l
  induction l with
  |nil=>simp
  |cons e s ih=>
   have:=fY r lit w e;rw[XA,Wn,Expr.aC];omega
 have h2:=h1 (l.take i)
 have h3: ∀(l:List Expr) (i:Nat),i<l.length→Expr.aC (l.take i)+(l.getD i default).size≤Expr.aC l:=by
  intro l
  induction l with
  |nil=>intro i h;simp at h
  |cons e s ih=>
   intro i h
   cases i with
   |zero=>simp[Expr.aC]
   |succ i=>
    have:=ih i (by simpa using h);simp only[XE,XO,Expr.aC];omega
 have:=h3 l i h;omega
theorem d137 (r:ak) (n:Nat) (ih:Sy r n):KR r (n+1):=by
 intro t e lit w hs hb;have hsz:=e.size_eq;refine cf.le (args:=[.ptr 0 0,ag e.c1,pI lit,pI w]) ?_ ⟨.refl _,e.Ac, .refl _, .refl _,trivial⟩;have hal:=Expr.aL e.args;refine aH ae Tryz.func226 rfl (by decide) Tryz.ntmps226 rfl (by simp) ?_;refine gA rfl ?_;refine Wl (fun k=>?_) (fun k=>?_);rotate_left
 ·have k: ¬e.kind=4:=of_decide_eq_false k
  have hl:gB r lit w e=[]:=if_neg k;rw[hl,TS.add_nil];refine gA rfl (fe (by first|exact .inr rfl|exact .inl rfl) rfl rfl rfl rfl rfl (by first|rfl|(rw[Wn];rfl)|simp) (by first|rfl|(rw[Wq];rfl)|(simp only[Wq,Wv];rfl)) rfl rfl rfl (.refl _) rfl rfl)
 have k:e.kind=4:=of_decide_eq_true k;have hl:gB r lit w e=e.args.flatMap (fo r lit w):=if_pos k;rw[hl];refine gA rfl ?_
 refine aK 0 e.args.length (WC _) (fun i=>⟨[(0, .ptr 0 0),(2,pI lit),(3,pI w),(14, .iv (cM 7 e.args Expr.c)),(15,pI e.args.length),(16,pI i)],
  [(0,some (TS.cell r 1 5 (t.add ((e.args.take i).flatMap (fo r lit w))).ws.length 3)),(1,some (pC (t.add ((e.args.take i).flatMap (fo r lit w))).up)),(5,some (aD 5 (t.add ((e.args.take i).flatMap (fo r lit w))).ws Want.c)),(3,some (p3 (t.add ((e.args.take i).flatMap (fo r lit w))).kind))],6⟩) (fun _=>True) _ trivial
  (tB (t:=t) (TS.add_nil t).symm rfl rfl rfl rfl rfl rfl rfl rfl rfl rfl ⟨.refl _,rfl, .refl _,rfl, .refl _,rfl, .refl _,rfl, .refl _,rfl, .refl _,rfl,trivial⟩) fun i hi _=>?_
 refine gA rfl ?_;refine Wl (fun h1=>?_) (fun h1=>?_)
 ·have h1:i<e.args.length:=by simpa using h1
  have hs2:=bI (f:=fo r lit w) h1;have hn:=Dr r lit w e.args i h1;have hg:=Expr.bN e.args i h1;refine gA rfl (j8 (ih (t.add ((e.args.take i).flatMap (fo r lit w))) (e.args.getD i default) lit w (by omega) (by show(t.ws++_).length+_≤_;rw[Wn];omega)) rfl rfl rfl rfl rfl rfl rfl (by first|rfl|(rw[Wn];rfl)|simp) (by first|rfl|(rw[Wq];rfl)|(simp only[Wq,Wv];rfl)) rfl rfl rfl rfl rfl rfl ?_);refine gA rfl ⟨h1,trivial,_,tB ((by rw[TS.add_add,hs2])) rfl rfl rfl rfl (by first|rfl|(rw[Wn];rfl)|simp) (by first|rfl|(rw[Wq];rfl)|(simp only[Wq,Wv];rfl)) rfl rfl rfl rfl ⟨.refl _,rfl, .refl _,rfl, .refl _,rfl, .refl _,rfl, .refl _,rfl, .refl _,rfl,trivial⟩⟩
 ·have h1:e.args.length≤i:=by simpa using h1
  rw[WB h1];refine gA rfl (fe (by first|exact .inr rfl|exact .inl rfl) rfl rfl rfl rfl rfl (by first|rfl|(rw[Wn];rfl)|simp) (by first|rfl|(rw[Wq];rfl)|(simp only[Wq,Wv];rfl)) rfl rfl rfl (.refl _) rfl rfl)
end Go.Proofs.YtflegjieadkonaaGreatDoor
namespace Go.Proofs.YtflegjieadkonaaGreatDoor
open Go Go.Al
set_option maxRecDepth 10000
theorem pU (r:ak): ∀n,Sy r n∧KR r n
 |0=>by
  have h0:KR r 0:=fun t e lit w hs=>by have:=e.size_pos;omega
  exact⟨d92 r 0 h0,h0⟩
 |n+1=>by
  have h1:=d137 r n (pU r n).1;exact⟨d92 r (n+1) h1,h1⟩
theorem En (r:ak) (t:TS) (e:Expr) (lit w:Int) (hb:t.ws.length+e.size≤1000000000):cf Tryz.prog 199 [.ptr 0 0,ag e.c,pI lit,pI w] (t.O r) (.bP []) ((t.add (fo r lit w e)).H r) 5:=(pU r e.size).1 t e lit w (Wz _) hb
theorem PB (r:ak) (t:TS) (e:Expr) (lit w:Int) (hb:t.ws.length+e.size≤1000000000):cf Tryz.prog 226 [.ptr 0 0,ag e.c,pI lit,pI w] (t.O r) (.bP []) ((t.add (gB r lit w e)).H r) 5:=(pU r e.size).2 t e lit w (Wz _) (by have:=e.size_eq;omega)
def typeAt (p:Prog) (a:Atom) (i:Nat):Int:=(ju p a.rel).types.getD i default
def ig (p:Prog) (a:Atom) (i:Nat):Bool:=decide (i<(ju p a.rel).types.length)&&(decide (typeAt p a i=1)||decide (typeAt p a i=2))
def iV (p:Prog) (r:ak) (a:Atom) (lit w:Int) (i:Nat):List Want:=
 if ig p a i=false then[]
 else if(a.aq.getD i default).kind=1 then[⟨lit,dr r (a.aq.getD i default).var w,typeAt p a i,0⟩]
 else if(a.aq.getD i default).kind=2 then[⟨lit,bY.z,typeAt p a i,(a.aq.getD i default).val.kind⟩] else[]
def dF (p:Prog) (r:ak) (a:Atom) (lit w:Int):Nat→List Want
 |0=> []
 |i+1=>dF p r a lit w i++iV p r a lit w i
theorem yw (p:Prog) (r:ak) (a:Atom) (lit w:Int) (i:Nat):(iV p r a lit w i).length≤1:=by
 unfold iV
 repeat' split
 all_goals simp
theorem lI (p:Prog) (r:ak) (a:Atom) (lit w:Int): ∀i,(dF p r a lit w i).length≤i
 |0=>Wz _
 |i+1=>by
  have h1:=lI p r a lit w i;have h2:=yw p r a lit w i;rw[dF,Wn];omega
set_option maxHeartbeats 1000000 in
theorem d90 (p:Prog) (r:ak) (t:TS) (a:Atom) (lit w:Int) (hb:t.ws.length+a.aq.length≤1000000000):cf Tryz.prog 197 [.ptr 0 0, .iv (cC p),ag a.c,pI lit,pI w] (t.O r) (.bP []) ((t.add (dF p r a lit w a.aq.length)).H r) 5:=by
 refine aH ae Tryz.func197 rfl (by decide) Tryz.ntmps197 rfl (by simp) ?_;refine gA rfl ?_
 refine aK 0 a.aq.length (WC _) (fun i=>⟨[(0, .ptr 0 0),(3,pI lit),(4,pI w),(10, .iv (cM 1 (ju p a.rel).types fH)),(19, .iv (cM 5 a.aq Term.c)),(20,pI a.aq.length),(21,pI i)],
  [(0,some (TS.cell r 1 5 (t.add (dF p r a lit w i)).ws.length 3)),(1,some (pC (t.add (dF p r a lit w i)).up)),(5,some (aD 5 (t.add (dF p r a lit w i)).ws Want.c)),(3,some (p3 (t.add (dF p r a lit w i)).kind))],6⟩) (fun _=>True) _ trivial
  (tB (t:=t) (TS.add_nil t).symm rfl rfl rfl rfl rfl rfl rfl rfl rfl rfl ⟨.refl _,rfl, .refl _,rfl, .refl _,rfl, .refl _,rfl, .refl _,rfl, .refl _,rfl, .refl _,rfl,trivial⟩) fun i hi _=>?_
 refine gA rfl ?_;refine Wl (fun h1=>?_) (fun h1=>?_);rotate_left
 ·have h1:a.aq.length≤i:=by simpa using h1
  have:i=a.aq.length:=by omega
  subst this;refine gA rfl (fe (by first|exact .inr rfl|exact .inl rfl) rfl rfl rfl rfl rfl (by first|rfl|(rw[Wn];rfl)|simp) (by first|rfl|(rw[Wq];rfl)|(simp only[Wq,Wv];rfl)) rfl rfl rfl (.refl _) rfl rfl)
 have h1:i<a.aq.length:=by simpa using h1
 have hl:=lI p r a lit w i;have hs:t.add (dF p r a lit w (i+1))=(t.add (dF p r a lit w i)).add (iV p r a lit w i):=by rw[TS.add_add];rfl
 have hwl:(t.add (dF p r a lit w i)).ws.length≤t.ws.length+i:=by show(t.ws++_).length≤_;rw[Wn];omega
 generalize t.add (dF p r a lit w i)=t1 at*
 refine gA rfl ?_;refine Wl (fun g1=>?_) (fun g1=>?_);rotate_left
 ·have g1: ¬i<(ju p a.rel).types.length:=by have g:=of_decide_eq_true (show decide ((i:Int)≥((ju p a.rel).types.length:Int))=true from g1);omega
  have hf:ig p a i=false:=by rw[ig,decide_eq_false g1];rfl
  have hW:iV p r a lit w i=[]:=if_pos hf;rw[hW,TS.add_nil] at hs;refine gA rfl ⟨h1,trivial,_,tB (hs.symm) rfl rfl rfl rfl (by first|rfl|(rw[Wn];rfl)|simp) (by first|rfl|(rw[Wq];rfl)|(simp only[Wq,Wv];rfl)) rfl rfl rfl rfl ⟨.refl _,rfl, .refl _,rfl, .refl _,rfl, .refl _,rfl, .refl _,rfl, .refl _,rfl, .refl _,rfl,trivial⟩⟩
 have g1:i<(ju p a.rel).types.length:=by have g:=of_decide_eq_false (show decide ((i:Int)≥((ju p a.rel).types.length:Int))=false from g1);omega
 refine gA rfl ?_;refine Wl (fun g2=>?_) (fun g2=>?_)
 ·have g2: ¬typeAt p a i=1:=by simpa[typeAt] using g2
  refine gA rfl ?_;refine Wl (fun g3=>?_) (fun g3=>?_)
  ·have g3: ¬typeAt p a i=2:=by simpa[typeAt] using g3
   have hf:ig p a i=false:=by rw[ig,decide_eq_true g1,decide_eq_false g2,decide_eq_false g3];rfl
   have hW:iV p r a lit w i=[]:=if_pos hf;rw[hW,TS.add_nil] at hs;refine gA rfl ⟨h1,trivial,_,tB (hs.symm) rfl rfl rfl rfl (by first|rfl|(rw[Wn];rfl)|simp) (by first|rfl|(rw[Wq];rfl)|(simp only[Wq,Wv];rfl)) rfl rfl rfl rfl ⟨.refl _,rfl, .refl _,rfl, .refl _,rfl, .refl _,rfl, .refl _,rfl, .refl _,rfl, .refl _,rfl,trivial⟩⟩
  ·have g3:typeAt p a i=2:=by simpa[typeAt] using g3
   have ht:ig p a i=true:=by rw[ig,decide_eq_true g1,decide_eq_true g3,Bool.or_true];rfl
   have hW:iV p r a lit w i=if(a.aq.getD i default).kind=1 then[⟨lit,dr r (a.aq.getD i default).var w,typeAt p a i,0⟩]
    else if(a.aq.getD i default).kind=2 then[⟨lit,bY.z,typeAt p a i,(a.aq.getD i default).val.kind⟩] else[]:=by unfold iV;rw[ht];exact if_neg (by decide)
   rw[hW] at hs;refine gA rfl ?_;refine Wl (fun k1=>?_) (fun k1=>?_)
   ·have k1:(a.aq.getD i default).kind=1:=of_decide_eq_true k1
    rw[if_pos k1] at hs;refine gA rfl (jl (d136 r t1 (a.aq.getD i default).var w) rfl rfl rfl rfl rfl rfl rfl (by first|rfl|(rw[Wn];rfl)|simp) (by first|rfl|(rw[Wq];rfl)|(simp only[Wq,Wv];rfl)) rfl rfl rfl rfl rfl rfl rfl rfl rfl rfl (by(repeat' (first|exact trivial|exact rfl|exact ah.refl _|exact ah.bk (by assumption)|apply Wl))<;>first|omega|(simp only[Wp];omega)|(simp;done)|(simp;omega)) rfl (by(repeat' (first|exact trivial|exact rfl|exact ah.refl _|exact ah.bk (by assumption)|apply Wl))<;>first|omega|(simp only[Wp];omega)|(simp;done)|(simp;omega)) ?_);refine gA rfl ⟨h1,trivial,_,tB (hs.symm) rfl rfl rfl rfl (by first|rfl|(rw[Wn];rfl)|simp) (by first|rfl|(rw[Wq];rfl)|(simp only[Wq,Wv];rfl)) rfl rfl rfl rfl ⟨.refl _,rfl, .refl _,rfl, .refl _,rfl, .refl _,rfl, .refl _,rfl, .refl _,rfl, .refl _,rfl,trivial⟩⟩
   have k1: ¬(a.aq.getD i default).kind=1:=of_decide_eq_false k1;rw[if_neg k1] at hs;refine gA rfl ?_;refine Wl (fun k2=>?_) (fun k2=>?_)
   ·have k2:(a.aq.getD i default).kind=2:=of_decide_eq_true k2
    rw[if_pos k2] at hs;refine gA rfl ⟨h1,trivial,_,tB (hs.symm) rfl rfl rfl rfl (by first|rfl|(rw[Wn];rfl)|simp) (by first|rfl|(rw[Wq];rfl)|(simp only[Wq,Wv];rfl)) rfl rfl rfl rfl ⟨.refl _,rfl, .refl _,rfl, .refl _,rfl, .refl _,rfl, .refl _,rfl, .refl _,rfl, .refl _,rfl,trivial⟩⟩
   ·have k2: ¬(a.aq.getD i default).kind=2:=of_decide_eq_false k2
    rw[if_neg k2,TS.add_nil] at hs;refine gA rfl ⟨h1,trivial,_,tB (hs.symm) rfl rfl rfl rfl (by first|rfl|(rw[Wn];rfl)|simp) (by first|rfl|(rw[Wq];rfl)|(simp only[Wq,Wv];rfl)) rfl rfl rfl rfl ⟨.refl _,rfl, .refl _,rfl, .refl _,rfl, .refl _,rfl, .refl _,rfl, .refl _,rfl, .refl _,rfl,trivial⟩⟩
 ·have g2:typeAt p a i=1:=by simpa[typeAt] using g2
  have ht:ig p a i=true:=by rw[ig,decide_eq_true g1,decide_eq_true g2];rfl
  have hW:iV p r a lit w i=if(a.aq.getD i default).kind=1 then[⟨lit,dr r (a.aq.getD i default).var w,typeAt p a i,0⟩]
   else if(a.aq.getD i default).kind=2 then[⟨lit,bY.z,typeAt p a i,(a.aq.getD i default).val.kind⟩] else[]:=by unfold iV;rw[ht];exact if_neg (by decide)
  rw[hW] at hs;refine gA rfl ?_;refine Wl (fun k1=>?_) (fun k1=>?_)
  ·have k1:(a.aq.getD i default).kind=1:=of_decide_eq_true k1
   rw[if_pos k1] at hs;refine gA rfl (jl (d136 r t1 (a.aq.getD i default).var w) rfl rfl rfl rfl rfl rfl rfl (by first|rfl|(rw[Wn];rfl)|simp) (by first|rfl|(rw[Wq];rfl)|(simp only[Wq,Wv];rfl)) rfl rfl rfl rfl rfl rfl rfl rfl rfl rfl (by(repeat' (first|exact trivial|exact rfl|exact ah.refl _|exact ah.bk (by assumption)|apply Wl))<;>first|omega|(simp only[Wp];omega)|(simp;done)|(simp;omega)) rfl (by(repeat' (first|exact trivial|exact rfl|exact ah.refl _|exact ah.bk (by assumption)|apply Wl))<;>first|omega|(simp only[Wp];omega)|(simp;done)|(simp;omega)) ?_);refine gA rfl ⟨h1,trivial,_,tB (hs.symm) rfl rfl rfl rfl (by first|rfl|(rw[Wn];rfl)|simp) (by first|rfl|(rw[Wq];rfl)|(simp only[Wq,Wv];rfl)) rfl rfl rfl rfl ⟨.refl _,rfl, .refl _,rfl, .refl _,rfl, .refl _,rfl, .refl _,rfl, .refl _,rfl, .refl _,rfl,trivial⟩⟩
  have k1: ¬(a.aq.getD i default).kind=1:=of_decide_eq_false k1;rw[if_neg k1] at hs;refine gA rfl ?_;refine Wl (fun k2=>?_) (fun k2=>?_)
  ·have k2:(a.aq.getD i default).kind=2:=of_decide_eq_true k2
   rw[if_pos k2] at hs;refine gA rfl ⟨h1,trivial,_,tB (hs.symm) rfl rfl rfl rfl (by first|rfl|(rw[Wn];rfl)|simp) (by first|rfl|(rw[Wq];rfl)|(simp only[Wq,Wv];rfl)) rfl rfl rfl rfl ⟨.refl _,rfl, .refl _,rfl, .refl _,rfl, .refl _,rfl, .refl _,rfl, .refl _,rfl, .refl _,rfl,trivial⟩⟩
  ·have k2: ¬(a.aq.getD i default).kind=2:=of_decide_eq_false k2
   rw[if_neg k2,TS.add_nil] at hs;refine gA rfl ⟨h1,trivial,_,tB (hs.symm) rfl rfl rfl rfl (by first|rfl|(rw[Wn];rfl)|simp) (by first|rfl|(rw[Wq];rfl)|(simp only[Wq,Wv];rfl)) rfl rfl rfl rfl ⟨.refl _,rfl, .refl _,rfl, .refl _,rfl, .refl _,rfl, .refl _,rfl, .refl _,rfl, .refl _,rfl,trivial⟩⟩
def tF (t:TS) (u v:bY):TS:=if u=v then t else⟨bS (.si .i64) t.up u v,t.ws,t.kind⟩
def rh (y:Expr):Int:=if y.kind=2 then y.val.kind else 1
def fw (r:ak) (lit w:Int) (t:TS) (x y:Expr):TS:=
 if y.kind=1 then tF t (bD t.up (dr r x.var w)) (bD t.up (dr r y.var w))
 else t.add (if x.kind=1 then[⟨lit,dr r x.var w,rh y,0⟩] else if x.kind=2 then[⟨lit,bY.z,rh y,x.val.kind⟩] else[⟨lit,bY.z,rh y,1⟩])
def gF (r:ak) (lit w:Int) (t:TS) (a b:Expr):TS:=
 if b.kind=1 then fw r lit w ((t.add (gB r lit w a)).add (gB r lit w b)) b a else fw r lit w ((t.add (gB r lit w a)).add (gB r lit w b)) a b
theorem Jp {u v:bY} (h:(!(decide (u.1=v.1)&&(decide (u.2=v.2)&&true)))=true):u≠v:=by
 rintro rfl
 simp at h
theorem Jq {u v:bY} (h:(!(decide (u.1=v.1)&&(decide (u.2=v.2)&&true)))=false):u=v:=by
 simp at h;exact Prod.ext h.1 h.2
theorem oV (r:ak) (lit w:Int) (e:Expr):(gB r lit w e).length≤e.size:=by
 have h1:=fY r lit w e;rw[z7,Wn] at h1;omega
set_option maxHeartbeats 1000000 in
theorem d93 (r:ak) (t:TS) (a b:Expr) (lit w:Int) (ok:gm t.up) (hb:t.ws.length+a.size+b.size≤1000000000):cf Tryz.prog 200 [.ptr 0 0,ag a.c,ag b.c,pI lit,pI w] (t.O r) (.bP []) ((gF r lit w t a b).H r) 5:=by
 have h1:=oV r lit w a;have h2:=oV r lit w b;have hA:gF r lit w t a b=if b.kind=1 then fw r lit w ((t.add (gB r lit w a)).add (gB r lit w b)) b a else fw r lit w ((t.add (gB r lit w a)).add (gB r lit w b)) a b:=rfl;rw[hA];have ok1:gm ((t.add (gB r lit w a)).add (gB r lit w b)).up:=ok;refine aH ae Tryz.func200 rfl (by decide) Tryz.ntmps200 rfl (by simp) ?_;refine gA rfl (j8 (PB r t a lit w (by omega)) rfl rfl rfl rfl rfl rfl rfl (by first|rfl|(rw[Wn];rfl)|simp) (by first|rfl|(rw[Wq];rfl)|(simp only[Wq,Wv];rfl)) rfl rfl rfl rfl rfl rfl ?_);refine gA rfl (j8 (PB r (t.add (gB r lit w a)) b lit w (by show(t.ws++_).length+_≤_;rw[Wn];omega)) rfl rfl rfl rfl rfl rfl rfl (by first|rfl|(rw[Wn];rfl)|simp) (by first|rfl|(rw[Wq];rfl)|(simp only[Wq,Wv];rfl)) rfl rfl rfl rfl rfl rfl ?_)
 have hl:((t.add (gB r lit w a)).add (gB r lit w b)).ws.length≤t.ws.length+a.size+b.size:=by
  show((t.ws++_)++_).length≤_;rw[Wn,Wn];omega
 generalize(t.add (gB r lit w a)).add (gB r lit w b)=t1 at*
 refine gA rfl ?_;refine Wl (fun k1=>?_) (fun k1=>?_)
 ·have k1:b.kind=1:=of_decide_eq_true k1
  rw[if_pos k1];refine gA rfl ?_;refine Wl (fun k2=>?_) (fun k2=>?_)
  ·have k2:a.kind=2:=of_decide_eq_true k2
   have hy: ¬a.kind=1:=by omega
   have hh:rh a=a.val.kind:=if_pos k2;have hX:fw r lit w t1 b a=t1.add [⟨lit,dr r b.var w,rh a,0⟩]:=by unfold fw;rw[if_neg hy,if_pos k1]
   rw[hX,hh];refine gA rfl ?_;refine Wl (fun k3=>?_) (fun k3=>?_)
   ·exact absurd (of_decide_eq_true k3) hy
   refine gA rfl ?_;refine Wl (fun k4=>?_) (fun k4=>?_);rotate_left
   ·exact absurd k1 (of_decide_eq_false k4)
   refine gA rfl (jl (d136 r t1 b.var w) rfl rfl rfl rfl rfl rfl rfl (by first|rfl|(rw[Wn];rfl)|simp) (by first|rfl|(rw[Wq];rfl)|(simp only[Wq,Wv];rfl)) rfl rfl rfl rfl rfl rfl rfl rfl rfl rfl (by(repeat' (first|exact trivial|exact rfl|exact ah.refl _|exact ah.bk (by assumption)|apply Wl))<;>first|omega|(simp only[Wp];omega)|(simp;done)|(simp;omega)) rfl (by(repeat' (first|exact trivial|exact rfl|exact ah.refl _|exact ah.bk (by assumption)|apply Wl))<;>first|omega|(simp only[Wp];omega)|(simp;done)|(simp;omega)) ?_);refine gA rfl (fe (by first|exact .inr rfl|exact .inl rfl) rfl rfl rfl rfl rfl (by first|rfl|(rw[Wn];rfl)|simp) (by first|rfl|(rw[Wq];rfl)|(simp only[Wq,Wv];rfl)) rfl rfl rfl (.refl _) rfl rfl)
  ·have k2: ¬a.kind=2:=of_decide_eq_false k2
   refine gA rfl ?_;refine Wl (fun k3=>?_) (fun k3=>?_)
   ·have k3:a.kind=1:=of_decide_eq_true k3
    have hX:fw r lit w t1 b a=tF t1 (bD t1.up (dr r b.var w)) (bD t1.up (dr r a.var w)):=if_pos k3;rw[hX];refine gA rfl (jl (d136 r t1 b.var w) rfl rfl rfl rfl rfl rfl rfl (by first|rfl|(rw[Wn];rfl)|simp) (by first|rfl|(rw[Wq];rfl)|(simp only[Wq,Wv];rfl)) rfl rfl rfl rfl rfl rfl rfl rfl rfl rfl (by(repeat' (first|exact trivial|exact rfl|exact ah.refl _|exact ah.bk (by assumption)|apply Wl))<;>first|omega|(simp only[Wp];omega)|(simp;done)|(simp;omega)) rfl (by(repeat' (first|exact trivial|exact rfl|exact ah.refl _|exact ah.bk (by assumption)|apply Wl))<;>first|omega|(simp only[Wp];omega)|(simp;done)|(simp;omega)) ?_);refine gA rfl (jl (d52 r t1 (dr r b.var w) ok1) rfl rfl rfl rfl rfl rfl rfl (by first|rfl|(rw[Wn];rfl)|simp) (by first|rfl|(rw[Wq];rfl)|(simp only[Wq,Wv];rfl)) rfl rfl rfl rfl rfl rfl rfl rfl rfl rfl (by(repeat' (first|exact trivial|exact rfl|exact ah.refl _|exact ah.bk (by assumption)|apply Wl))<;>first|omega|(simp only[Wp];omega)|(simp;done)|(simp;omega)) rfl (by(repeat' (first|exact trivial|exact rfl|exact ah.refl _|exact ah.bk (by assumption)|apply Wl))<;>first|omega|(simp only[Wp];omega)|(simp;done)|(simp;omega)) ?_);refine gA rfl (jl (d136 r t1 a.var w) rfl rfl rfl rfl rfl rfl rfl (by first|rfl|(rw[Wn];rfl)|simp) (by first|rfl|(rw[Wq];rfl)|(simp only[Wq,Wv];rfl)) rfl rfl rfl rfl rfl rfl rfl rfl rfl rfl (by(repeat' (first|exact trivial|exact rfl|exact ah.refl _|exact ah.bk (by assumption)|apply Wl))<;>first|omega|(simp only[Wp];omega)|(simp;done)|(simp;omega)) rfl (by(repeat' (first|exact trivial|exact rfl|exact ah.refl _|exact ah.bk (by assumption)|apply Wl))<;>first|omega|(simp only[Wp];omega)|(simp;done)|(simp;omega)) ?_);refine gA rfl (jl (d52 r t1 (dr r a.var w) ok1) rfl rfl rfl rfl rfl rfl rfl (by first|rfl|(rw[Wn];rfl)|simp) (by first|rfl|(rw[Wq];rfl)|(simp only[Wq,Wv];rfl)) rfl rfl rfl rfl rfl rfl rfl rfl rfl rfl (by(repeat' (first|exact trivial|exact rfl|exact ah.refl _|exact ah.bk (by assumption)|apply Wl))<;>first|omega|(simp only[Wp];omega)|(simp;done)|(simp;omega)) rfl (by(repeat' (first|exact trivial|exact rfl|exact ah.refl _|exact ah.bk (by assumption)|apply Wl))<;>first|omega|(simp only[Wp];omega)|(simp;done)|(simp;omega)) ?_);refine gA rfl ?_;refine Wl (fun k4=>?_) (fun k4=>?_)
    ·have e:tF t1 (bD t1.up (dr r b.var w)) (bD t1.up (dr r a.var w))=⟨bS (.si .i64) t1.up (bD t1.up (dr r b.var w)) (bD t1.up (dr r a.var w)),t1.ws,t1.kind⟩:=if_neg (Jp k4)
     rw[e];refine lU rfl (by repeat' (first|exact trivial|exact rfl|exact agI (bY.c (bD t1.up (dr r a.var w)))|exact ah.refl _|apply Wl)) (fe (by first|exact .inr rfl|exact .inl rfl) rfl rfl rfl rfl rfl rfl rfl rfl rfl rfl (.refl _) rfl rfl)
    ·have e:tF t1 (bD t1.up (dr r b.var w)) (bD t1.up (dr r a.var w))=t1:=if_pos (Jq k4)
     rw[e];refine gA rfl (fe (by first|exact .inr rfl|exact .inl rfl) rfl rfl rfl rfl rfl (by first|rfl|(rw[Wn];rfl)|simp) (by first|rfl|(rw[Wq];rfl)|(simp only[Wq,Wv];rfl)) rfl rfl rfl (.refl _) rfl rfl)
   ·have hy: ¬a.kind=1:=of_decide_eq_false k3
    have hh:rh a=1:=if_neg k2;have hX:fw r lit w t1 b a=t1.add [⟨lit,dr r b.var w,rh a,0⟩]:=by unfold fw;rw[if_neg hy,if_pos k1]
    rw[hX,hh];refine gA rfl ?_;refine Wl (fun k4=>?_) (fun k4=>?_);rotate_left
    ·exact absurd k1 (of_decide_eq_false k4)
    refine gA rfl (jl (d136 r t1 b.var w) rfl rfl rfl rfl rfl rfl rfl (by first|rfl|(rw[Wn];rfl)|simp) (by first|rfl|(rw[Wq];rfl)|(simp only[Wq,Wv];rfl)) rfl rfl rfl rfl rfl rfl rfl rfl rfl rfl (by(repeat' (first|exact trivial|exact rfl|exact ah.refl _|exact ah.bk (by assumption)|apply Wl))<;>first|omega|(simp only[Wp];omega)|(simp;done)|(simp;omega)) rfl (by(repeat' (first|exact trivial|exact rfl|exact ah.refl _|exact ah.bk (by assumption)|apply Wl))<;>first|omega|(simp only[Wp];omega)|(simp;done)|(simp;omega)) ?_);refine gA rfl (fe (by first|exact .inr rfl|exact .inl rfl) rfl rfl rfl rfl rfl (by first|rfl|(rw[Wn];rfl)|simp) (by first|rfl|(rw[Wq];rfl)|(simp only[Wq,Wv];rfl)) rfl rfl rfl (.refl _) rfl rfl)
 have k1: ¬b.kind=1:=of_decide_eq_false k1;rw[if_neg k1];have hX:fw r lit w t1 a b=t1.add (if a.kind=1 then[⟨lit,dr r a.var w,rh b,0⟩] else if a.kind=2 then[⟨lit,bY.z,rh b,a.val.kind⟩] else[⟨lit,bY.z,rh b,1⟩]):=if_neg k1;rw[hX];refine gA rfl ?_;refine Wl (fun k2=>?_) (fun k2=>?_)
 ·have k2:b.kind=2:=of_decide_eq_true k2
  have hh:rh b=b.val.kind:=if_pos k2;rw[hh];refine gA rfl ?_;refine Wl (fun k3=>?_) (fun k3=>?_)
  ·exact absurd (of_decide_eq_true k3) k1
  refine gA rfl ?_;refine Wl (fun k4=>?_) (fun k4=>?_)
  ·rw[if_pos (of_decide_eq_true k4)]
   refine gA rfl (jl (d136 r t1 a.var w) rfl rfl rfl rfl rfl rfl rfl (by first|rfl|(rw[Wn];rfl)|simp) (by first|rfl|(rw[Wq];rfl)|(simp only[Wq,Wv];rfl)) rfl rfl rfl rfl rfl rfl rfl rfl rfl rfl (by(repeat' (first|exact trivial|exact rfl|exact ah.refl _|exact ah.bk (by assumption)|apply Wl))<;>first|omega|(simp only[Wp];omega)|(simp;done)|(simp;omega)) rfl (by(repeat' (first|exact trivial|exact rfl|exact ah.refl _|exact ah.bk (by assumption)|apply Wl))<;>first|omega|(simp only[Wp];omega)|(simp;done)|(simp;omega)) ?_);refine gA rfl (fe (by first|exact .inr rfl|exact .inl rfl) rfl rfl rfl rfl rfl (by first|rfl|(rw[Wn];rfl)|simp) (by first|rfl|(rw[Wq];rfl)|(simp only[Wq,Wv];rfl)) rfl rfl rfl (.refl _) rfl rfl)
  rw[if_neg (of_decide_eq_false k4)];refine gA rfl ?_;refine Wl (fun k5=>?_) (fun k5=>?_)
  ·rw[if_pos (of_decide_eq_true k5)]
   refine gA rfl (fe (by first|exact .inr rfl|exact .inl rfl) rfl rfl rfl rfl rfl (by first|rfl|(rw[Wn];rfl)|simp) (by first|rfl|(rw[Wq];rfl)|(simp only[Wq,Wv];rfl)) rfl rfl rfl (.refl _) rfl rfl)
  ·rw[if_neg (of_decide_eq_false k5)]
   refine gA rfl (fe (by first|exact .inr rfl|exact .inl rfl) rfl rfl rfl rfl rfl (by first|rfl|(rw[Wn];rfl)|simp) (by first|rfl|(rw[Wq];rfl)|(simp only[Wq,Wv];rfl)) rfl rfl rfl (.refl _) rfl rfl)
 ·have k2: ¬b.kind=2:=of_decide_eq_false k2
  have hh:rh b=1:=if_neg k2;rw[hh];refine gA rfl ?_;refine Wl (fun k3=>?_) (fun k3=>?_)
  ·exact absurd (of_decide_eq_true k3) k1
  refine gA rfl ?_;refine Wl (fun k4=>?_) (fun k4=>?_)
  ·rw[if_pos (of_decide_eq_true k4)]
   refine gA rfl (jl (d136 r t1 a.var w) rfl rfl rfl rfl rfl rfl rfl (by first|rfl|(rw[Wn];rfl)|simp) (by first|rfl|(rw[Wq];rfl)|(simp only[Wq,Wv];rfl)) rfl rfl rfl rfl rfl rfl rfl rfl rfl rfl (by(repeat' (first|exact trivial|exact rfl|exact ah.refl _|exact ah.bk (by assumption)|apply Wl))<;>first|omega|(simp only[Wp];omega)|(simp;done)|(simp;omega)) rfl (by(repeat' (first|exact trivial|exact rfl|exact ah.refl _|exact ah.bk (by assumption)|apply Wl))<;>first|omega|(simp only[Wp];omega)|(simp;done)|(simp;omega)) ?_);refine gA rfl (fe (by first|exact .inr rfl|exact .inl rfl) rfl rfl rfl rfl rfl (by first|rfl|(rw[Wn];rfl)|simp) (by first|rfl|(rw[Wq];rfl)|(simp only[Wq,Wv];rfl)) rfl rfl rfl (.refl _) rfl rfl)
  rw[if_neg (of_decide_eq_false k4)];refine gA rfl ?_;refine Wl (fun k5=>?_) (fun k5=>?_)
  ·rw[if_pos (of_decide_eq_true k5)]
   refine gA rfl (fe (by first|exact .inr rfl|exact .inl rfl) rfl rfl rfl rfl rfl (by first|rfl|(rw[Wn];rfl)|simp) (by first|rfl|(rw[Wq];rfl)|(simp only[Wq,Wv];rfl)) rfl rfl rfl (.refl _) rfl rfl)
  ·rw[if_neg (of_decide_eq_false k5)]
   refine gA rfl (fe (by first|exact .inr rfl|exact .inl rfl) rfl rfl rfl rfl rfl (by first|rfl|(rw[Wn];rfl)|simp) (by first|rfl|(rw[Wq];rfl)|(simp only[Wq,Wv];rfl)) rfl rfl rfl (.refl _) rfl rfl)
def ly (p:Prog) (r:ak) (lit w:Int) (t:TS) (l:Lit):TS:=
 if l.kind=1∨l.kind=2 then t.add (dF p r l.atom lit w l.atom.aq.length)
 else if l.kind=3 then(if l.op=1∨l.op=2 then gF r lit w t l.left l.right else(t.add (fo r lit w l.left)).add (fo r lit w l.right)) else t
theorem d91 (p:Prog) (r:ak) (t:TS) (l:Lit) (lit w:Int) (ok:gm t.up) (hb:t.ws.length+l.size≤1000000000):cf Tryz.prog 198 [.ptr 0 0, .iv (cC p),ag l.c,pI lit,pI w] (t.O r) (.bP []) ((ly p r lit w t l).H r) 5:=by
 have hsz:=l.size_eq;have hx:=fY r lit w l.left;refine aH ae Tryz.func198 rfl (by decide) Tryz.ntmps198 rfl (by simp) ?_;refine gA rfl ?_;refine Wl (fun k1=>?_) (fun k1=>?_);rotate_left
 ·have k1:l.kind=1:=by simpa using k1
  have hL:ly p r lit w t l=t.add (dF p r l.atom lit w l.atom.aq.length):=if_pos (.inl k1);rw[hL];refine gA rfl (j8 (d90 p r t l.atom lit w (by omega)) rfl rfl rfl rfl rfl rfl rfl (by first|rfl|(rw[Wn];rfl)|simp) (by first|rfl|(rw[Wq];rfl)|(simp only[Wq,Wv];rfl)) rfl rfl rfl rfl rfl rfl ?_);refine gA rfl (fe (by first|exact .inr rfl|exact .inl rfl) rfl rfl rfl rfl rfl (by first|rfl|(rw[Wn];rfl)|simp) (by first|rfl|(rw[Wq];rfl)|(simp only[Wq,Wv];rfl)) rfl rfl rfl (.refl _) rfl rfl)
 have k1: ¬l.kind=1:=of_decide_eq_false k1;refine gA rfl ?_;refine Wl (fun k2=>?_) (fun k2=>?_)
 ·have k2:l.kind=2:=of_decide_eq_true k2
  have hL:ly p r lit w t l=t.add (dF p r l.atom lit w l.atom.aq.length):=if_pos (.inr k2);rw[hL];refine gA rfl (j8 (d90 p r t l.atom lit w (by omega)) rfl rfl rfl rfl rfl rfl rfl (by first|rfl|(rw[Wn];rfl)|simp) (by first|rfl|(rw[Wq];rfl)|(simp only[Wq,Wv];rfl)) rfl rfl rfl rfl rfl rfl ?_);refine gA rfl (fe (by first|exact .inr rfl|exact .inl rfl) rfl rfl rfl rfl rfl (by first|rfl|(rw[Wn];rfl)|simp) (by first|rfl|(rw[Wq];rfl)|(simp only[Wq,Wv];rfl)) rfl rfl rfl (.refl _) rfl rfl)
 have k2: ¬l.kind=2:=of_decide_eq_false k2;have hL:ly p r lit w t l=if l.kind=3 then(if l.op=1∨l.op=2 then gF r lit w t l.left l.right else(t.add (fo r lit w l.left)).add (fo r lit w l.right)) else t:=if_neg (by rintro(h|h);exact k1 h;exact k2 h);refine gA rfl ?_;refine Wl (fun k3=>?_) (fun k3=>?_)
 ·have k3: ¬l.kind=3:=by simpa using k3
  rw[if_neg k3] at hL;rw[hL];refine gA rfl (fe (by first|exact .inr rfl|exact .inl rfl) rfl rfl rfl rfl rfl (by first|rfl|(rw[Wn];rfl)|simp) (by first|rfl|(rw[Wq];rfl)|(simp only[Wq,Wv];rfl)) rfl rfl rfl (.refl _) rfl rfl)
 have k3:l.kind=3:=by simpa using k3
 rw[if_pos k3] at hL;refine gA rfl ?_;refine Wl (fun k4=>?_) (fun k4=>?_);rotate_left
 ·have k4:l.op=1:=by simpa using k4
  rw[if_pos (.inl k4)] at hL;rw[hL];refine gA rfl (j8 (d93 r t l.left l.right lit w ok (by omega)) rfl rfl rfl rfl rfl rfl rfl (by first|rfl|(rw[Wn];rfl)|simp) (by first|rfl|(rw[Wq];rfl)|(simp only[Wq,Wv];rfl)) rfl rfl rfl rfl rfl rfl ?_);refine gA rfl (fe (by first|exact .inr rfl|exact .inl rfl) rfl rfl rfl rfl rfl (by first|rfl|(rw[Wn];rfl)|simp) (by first|rfl|(rw[Wq];rfl)|(simp only[Wq,Wv];rfl)) rfl rfl rfl (.refl _) rfl rfl)
 have k4: ¬l.op=1:=of_decide_eq_false k4;refine gA rfl ?_;refine Wl (fun k5=>?_) (fun k5=>?_)
 ·have k5:l.op=2:=of_decide_eq_true k5
  rw[if_pos (.inr k5)] at hL;rw[hL];refine gA rfl (j8 (d93 r t l.left l.right lit w ok (by omega)) rfl rfl rfl rfl rfl rfl rfl (by first|rfl|(rw[Wn];rfl)|simp) (by first|rfl|(rw[Wq];rfl)|(simp only[Wq,Wv];rfl)) rfl rfl rfl rfl rfl rfl ?_);refine gA rfl (fe (by first|exact .inr rfl|exact .inl rfl) rfl rfl rfl rfl rfl (by first|rfl|(rw[Wn];rfl)|simp) (by first|rfl|(rw[Wq];rfl)|(simp only[Wq,Wv];rfl)) rfl rfl rfl (.refl _) rfl rfl)
 ·have k5: ¬l.op=2:=of_decide_eq_false k5
  rw[if_neg (by rintro(h|h);exact k4 h;exact k5 h)] at hL;rw[hL];refine gA rfl (j8 (En r t l.left lit w (by omega)) rfl rfl rfl rfl rfl rfl rfl (by first|rfl|(rw[Wn];rfl)|simp) (by first|rfl|(rw[Wq];rfl)|(simp only[Wq,Wv];rfl)) rfl rfl rfl rfl rfl rfl ?_);refine gA rfl (j8 (En r (t.add (fo r lit w l.left)) l.right lit w (by show(t.ws++_).length+_≤_;rw[Wn];omega)) rfl rfl rfl rfl rfl rfl rfl (by first|rfl|(rw[Wn];rfl)|simp) (by first|rfl|(rw[Wq];rfl)|(simp only[Wq,Wv];rfl)) rfl rfl rfl rfl rfl rfl ?_);refine gA rfl (fe (by first|exact .inr rfl|exact .inl rfl) rfl rfl rfl rfl rfl (by first|rfl|(rw[Wn];rfl)|simp) (by first|rfl|(rw[Wq];rfl)|(simp only[Wq,Wv];rfl)) rfl rfl rfl (.refl _) rfl rfl)
theorem nV: ∀(n:Nat) (m:UM) (v:bY),gm m→A2 m v≤n→eO (.si .i64) m (bD m v)=false
 |n,m,v,ok,hn=>by
  cases h:eO (.si .i64) m v with
  |false=>rw[oI m v h];exact h
  |true=>
   obtain⟨h1,h2⟩:=l0 m v ok h
   cases n with
   |zero=>omega
   |succ n=>rw[←h1];exact nV n m _ ok (by omega)
theorem xh: ∀(m:UM) (u v:bY),eO (.si .i64) m u=false→bS (.si .i64) m u v=m++ [(u,v)]
 | [],_,_,_=>rfl
 |(x,y)::r,u,v,h=>by
  unfold eO at h;split at h
  ·cases h
  ·rename_i hx
   show(if x=u then _ else(x,y)::bS (.si .i64) r u v)=_;rw[if_neg hx,xh r u v h];rfl
theorem xL {m:UM} {u:bY} (h:eO (.si .i64) m u=false): ∀q∈m,q.1≠u:=by
 induction m with
 |nil=>intro q hq;cases hq
 |cons a r ih=>
  obtain⟨x,y⟩:=a;unfold eO at h;split at h
  ·cases h
  ·rename_i hx
   intro q hq;rcases WG.1 hq with rfl|hq
   ·exact hx
   ·exact ih h q hq
theorem ub: ∀{m:UM} {u v:bY},gm m→(∀q∈m,q.1≠u)→(∀q∈m,q.1≠v)→u≠v→gm (m++ [(u,v)])
 | [],u,v,_,_,_,hne=>⟨hne,fun q hq=>(nomatch hq),fun q hq=>(nomatch hq),trivial⟩
 |(x,y)::r,u,v,⟨o1,o2,o3,o4⟩,hu,hv,hne=>by
  refine⟨o1,fun q hq=>?_,fun q hq=>?_,ub o4 (fun q hq=>hu q (WE _ hq)) (fun q hq=>hv q (WE _ hq)) hne⟩
  ·rcases WD.1 hq with hq|hq
   ·exact o2 q hq
   ·simp only[Wy] at hq;subst hq
    exact fun e=>hu _ WM e.symm
  ·rcases WD.1 hq with hq|hq
   ·exact o3 q hq
   ·simp only[Wy] at hq;subst hq
    exact fun e=>hv _ WM e.symm
theorem RA {t:TS} (ok:gm t.up) (a b:bY):gm (tF t (bD t.up a) (bD t.up b)).up:=by
 unfold tF;split
 ·exact ok
 ·rename_i hne
  have h1:=nV _ t.up a ok (Wz _);have h2:=nV _ t.up b ok (Wz _);show gm (bS _ _ _ _);rw[xh _ _ _ h1];exact ub ok (xL h1) (xL h2) hne
theorem vb (r:ak) (lit w:Int) {t:TS} (ok:gm t.up) (x y:Expr):gm (fw r lit w t x y).up:=by
 unfold fw;split
 ·exact RA ok _ _
 ·exact ok
theorem yl (r:ak) (lit w:Int) {t:TS} (ok:gm t.up) (a b:Expr):gm (gF r lit w t a b).up:=by
 unfold gF;split
 ·exact vb r lit w (t:=(t.add (gB r lit w a)).add (gB r lit w b)) ok _ _
 ·exact vb r lit w (t:=(t.add (gB r lit w a)).add (gB r lit w b)) ok _ _
theorem DA (p:Prog) (r:ak) (lit w:Int) {t:TS} (ok:gm t.up) (l:Lit):gm (ly p r lit w t l).up:=by
 unfold ly
 repeat' split
 ·exact ok
 ·exact yl r lit w ok _ _
 ·exact ok
 ·exact ok
theorem Rz (t:TS) (u v:bY):(tF t u v).ws=t.ws:=by unfold tF;split<;>rfl
theorem tt (r:ak) (lit w:Int) (t:TS) (x y:Expr):(fw r lit w t x y).ws.length≤t.ws.length+1:=by
 unfold fw
 repeat' split
 ·rw[Rz];omega
 all_goals(show(t.ws++_).length≤_;rw[Wn,Xp];omega)
theorem va (r:ak) (lit w:Int) (t:TS) (a b:Expr):(gF r lit w t a b).ws.length≤t.ws.length+a.size+b.size+1:=by
 have h1:=oV r lit w a;have h2:=oV r lit w b
 have h3:((t.add (gB r lit w a)).add (gB r lit w b)).ws.length≤t.ws.length+a.size+b.size:=by
  show((t.ws++_)++_).length≤_;rw[Wn,Wn];omega
 unfold gF;split
 ·exact WV (tt _ _ _ _ _ _) (by omega)
 ·exact WV (tt _ _ _ _ _ _) (by omega)
theorem Ab (p:Prog) (r:ak) (lit w:Int) (t:TS) (l:Lit):(ly p r lit w t l).ws.length≤t.ws.length+l.size:=by
 have hsz:=l.size_eq;have h1:=lI p r l.atom lit w l.atom.aq.length;have h2:=va r lit w t l.left l.right;have h3:=fY r lit w l.left;have h4:=fY r lit w l.right;unfold ly
 repeat' split
 ·show(t.ws++_).length≤_
  rw[Wn];omega
 ·omega
 ·show((t.ws++_)++_).length≤_
  rw[Wn,Wn];omega
 ·omega
end Go.Proofs.YtflegjieadkonaaGreatDoor
