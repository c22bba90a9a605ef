/-
  What the proofs of the claims need: part 3 of 7.
-/
import Derived.Test.YtflegjieadkonaaGreatDoorPart2
import Derived.Sort.EncStr
import Derived.Sort.Grow
import Derived.Sort.Walk0
import Derived.Shelf.Sort.Plain
import Derived.Shelf.Slices.In.SortNone
import Derived.Shelf.Slices.In.SortNone2
import Derived.WalkKit
import Derived.Lib.Builder
import Derived.Lib.UnsafeStr
import Derived.Laws.Externs
import Derived.Shelf.RegionOpenPlain
import Derived.KernelRfl
import Derived.Test.YtflegjieadkonaaGreatDoorProg
import Derived.Laws.RangeString
import Derived.Shelf.LaysM
import Derived.Shelf.Strconv.Itoa3
import Derived.Lib.ItoaLen
open And renaming intro→YW
open Array renaming getD_eq_getD_getElem?→Yf,getElem?_append_left→Zr,getElem?_eq_getElem→Zb,getElem?_eq_some_iff→Zy,getElem?_modify→Za,getElem?_setIfInBounds→Y2
open Bool renaming and_eq_true→YB,and_false→Zv,and_true→aaF,eq_false_iff→Zq,eq_iff_iff→YU,false_and→Zm,false_eq_true→ZH,false_or→Zt,not_eq_true'→Y1,not_false→aaC,not_true→aaS,or_eq_true→Y3,or_true→aaA,true_and→Zc,true_or→aaK
open ByteArray renaming empty→Yp,size→aa6
open Classical renaming byContradiction→Zu
open Int renaming ofNat_eq_zero→abD,toNat_natCast→YK
open List.Nodup renaming length_le_of_subset→Zl
open List.Pairwise renaming nil→Z6
open List renaming all_cons→abe,all_eq_false→Z1,all_eq_true→YG,any_cons→abd,any_eq_false→Y5,any_eq_true→Y8,append_assoc→Yu,append_nil→Y0,cons_append→ZO,ext_getElem?→ZS,filterMap_append→abo,filterMap_cons→aby,filter_cons→ZD,filter_eq_self→abz,filter_sublist→aaR,findIdx?_eq_none_iff→aaO,findIdx?_eq_some_iff_getElem→aay,flatMap_cons→Zk,foldl_append→Z7,foldl_cons→YN,getD_cons_succ→ZE,getD_eq_getElem?_getD→Ye,getElem?_eq_getElem→Yi,getElem?_eq_some_iff→Yj,getElem?_map→Yo,getElem?_of_mem→Y9,getElem?_take→Zi,getElem_inj→aaM,getElem_map→aa1,getElem_mem→YZ,le_antisymm→abh,length_append→Yg,length_cons→YT,length_eq_zero_iff→ZP,length_filter_le→Ze,length_map→YH,length_nil→ZM,length_range→aah,length_singleton→YY,length_take→YV,map_append→Yk,map_cons→Yz,map_map→Z4,map_nil→Y7,mem_append→Ys,mem_append_left→YQ,mem_append_right→ZK,mem_cons→Yx,mem_cons_of_mem→Yt,mem_cons_self→Yy,mem_filter→YO,mem_flatMap→ZZ,mem_map→YP,mem_of_getElem?→YL,mem_of_mem_take→aaI,mem_range→YM,mem_singleton→Yr,nodup_append→Z2,nodup_cons→Zo,nodup_nil→Zd,not_lt→abJ,not_mem_nil→aaL,pairwise_cons→ZI,range→Yv,sum_cons→aaa,take_length→Z5,take_of_length_le→Yn,take_succ_cons→ZF
open Nat renaming add_assoc→ZR,add_zero→aaw,beq→YJ,ble→aaf,ble_eq_true_of_le→YX,blt→YD,le_add_left→ZX,le_of_ble_eq_true→Yd,le_refl→Ym,le_trans→YR,lt_or_ge→Zj,lt_succ_of_lt→aag,lt_succ_self→ZY,mul_one→aba,zero_add→YC,zero_le→Yl
open Option renaming bind_some→abg,getD_some→ZG,map_eq_some_iff→Yq,map_some→Zg
open Option.some renaming injEq→Yh
set_option maxRecDepth 100000
open Bool renaming false→li,true→lc
open Decidable renaming decide→lw
open Inhabited renaming default→io
open Option renaming none→kw,some→jp
open Array renaming range→abv
open Array renaming getElem?_map→aaD
open Nat renaming mul_le_mul_right→YS
open Nat renaming add_mul→Zz
open List renaming getElem?_append_right→YF
open Array renaming getElem?_toList→Zn
namespace Go.Proofs.YtflegjieadkonaaGreatDoor
open Go Go.Al Go.Proofs.Tryz
def dU(l:Lit)(b:List aj):aj×Bool:=
 if¬l.kind=3∨ ¬l.op=1 then(Yp,li)
 else if l.left.kind=1∧ch b l.left.var=li∧(l.right.kind=2∨l.right.kind=1∧ch b l.right.var=lc) then(l.left.var,lc)
 else if l.right.kind=1∧(if l.left.kind=1 then ch b l.left.var else lw (l.left.kind=2))=lc then(l.right.var,!ch b l.right.var)
 else(Yp,li)
theorem c78(l:Lit)(b:List aj):Pure prog 177 [ag l.c,.iv (strs b)] (.bX [pS (dU l b).1,pB (dU l b).2]):=by
 refine ad ab func177 Z (by decide) ntmps177 Z (by simp) Z ?_
 repeat' (first|(refine gA Z (zI (fun _=>?_) (fun _=>?_)))|(refine gA Z (zp (Js b l.left.var) ?_))|(refine gA Z (zp (Js b l.right.var) ?_))|(refine gA Z (zL (.of_eq ?_))))
 all_goals first
  |exact jN (a:=(Yp,li)) (by simp_all [dU])
  |exact jN (a:=(l.left.var,lc)) (by simp_all [dU])
  |exact jN (a:=(l.right.var,!ch b l.right.var)) (by simp_all [dU])
  |(exfalso;simp_all;done)
theorem pg{e:Expr}(h:e.kind=1):aR e=[e.var]:=by
 rw[wa,am h,qZ];rfl
theorem Iq{l:Lit}{k:List aj}(h:(ko l k).2=lc):((ko l k).1=l.left.var∨(ko l k).1=l.right.var)∧(ko l k).1∉k:=by
 unfold ko at h ⊢;split at h
 .cases h
 .rename_i u;rw[be u];split at h
  .rename_i b;rw[am b];refine⟨.inl Z,fun j=>?_⟩;have:=b.2.1;rw[pg b.1]at this;simp[lY,aP.2 j]at this
  .rename_i b;rw[be b];split at h
   .rename_i d;rw[am d];refine⟨.inr Z,fun j=>?_⟩;have:=d.2.1;rw[pg d.1]at this;simp[lY,aP.2 j]at this
   .cases h
theorem Jy{a:fa}{k o:List aj}(h:su a k o=lc):a.var∉k:=by
 unfold su at h;simp only[YB,Y1]at h;exact ei.1 h.1
def bH(body:List Lit):List aj:=body.flatMap fun l=> [l.left.var,l.right.var,l.bp]
def bI(c k:List aj):Nat:=(c.filter fun x=>!ch k x).length
theorem jM: ∀body:List Lit,(bH body).length=3*body.length
 | []=>rfl
 |l::r=>by have:=jM r;simp only[bH,Zk,Yg,YT,ZM]at this ⊢;omega
theorem oZ(c k:List aj):bI c k<=c.length:=Ze _ _
theorem oY{v:aj}{k:List aj}: ∀{c:List aj},v∈c->v∉k->bI c (bZ k v)<bI c k:=by
 have mono: ∀c:List aj,bI c (bZ k v)<=bI c k:=by
  intro c
  induction c with
  |nil=>exact Ym _
  |cons x r d=>
   simp only[bI]at d ⊢;simp only[ZD];by_cases b:x∈k
   .have:ch (bZ k v) x=lc:=aP.2 (ct.2 (.inl b));rw[this,aP.2 b];exact d
   .simp only[ei.2 b,aaC,if_true,YT];split<;>(try simp only[YT])<;>omega
 intro c u y
 induction c with
 |nil=>cases u
 |cons x r d=>
  have A:=mono r;simp only[bI]at d A ⊢;simp only[ZD];by_cases j:x=v
  .subst j;have:ch (bZ k x) x=lc:=aP.2 (ct.2 (.inr Z));simp[this,ei.2 y];omega
  .have B:v∈r:=by
    rcases Yx.1 u with h|h
    .exact absurd h.symm j
    .exact h
   have d:=d B;by_cases b:x∈k
   .have:ch (bZ k v) x=lc:=aP.2 (ct.2 (.inl b));simp[this,aP.2 b];exact d
   .have:ch (bZ k v) x=li:=ei.2 fun h=>by rcases ct.1 h with h|h;exact b h;exact j h
    simp[this,ei.2 b];omega
def fH(own:Bool)(outer:List aj)(k:List aj)(l:Lit):aj×Bool:=if own=lc∧l.kind=4 then(l.bp,su l.agg k outer) else ko l k
def stepG(own:Bool)(outer:List aj)(a:List aj×Bool)(l:Lit):List aj×Bool:=if(fH own outer a.1 l).2=lc then(bZ a.1 (fH own outer a.1 l).1,lc) else a
def nN(own:Bool)(outer:List aj)(body:List Lit)(k:List aj):List aj×Bool:=body.foldl (stepG own outer) (k,li)
def Az(own:Bool)(outer:List aj)(body:List Lit):Nat->List aj->List aj
 |0,k=>k
 |n+1,k=>if(nN own outer body k).2=lc then Az own outer body n (nN own outer body k).1 else(nN own outer body k).1
theorem yi{own:Bool}{outer:List aj}{body:List Lit}{n:Nat}{k:List aj}:Az own outer body (n+1) k=if(nN own outer body k).2=lc then Az own outer body n (nN own outer body k).1 else(nN own outer body k).1:=rfl
def gU(k:List aj)(l:Lit):List aj:=if l.kind=1 then cv k (dE l.atom) else k
def tr(own:Bool)(outer:List aj)(body:List Lit)(k:List aj):List aj:=Az own outer body (3*body.length+1) (body.foldl gU k)
theorem Ii{own:Bool}{outer k:List aj}{l:Lit}(h:(fH own outer k l).2=lc):(fH own outer k l).1∈ [l.left.var,l.right.var,l.bp]∧(fH own outer k l).1∉k:=by
 unfold fH at h ⊢;split at h
 .rename_i b;rw[am b];exact⟨by simp,Jy (a:=l.agg) h⟩
 .rename_i b;rw[be b];obtain⟨h2,d⟩:=Iq h;refine⟨?_,d⟩;rcases h2 with h2|h2<;>simp[h2]
theorem rA{body:List Lit}{l:Lit}(h:l∈body){v:aj}(b:v∈ [l.left.var,l.right.var,l.bp]):v∈bH body:=ZZ.2 ⟨l,h,b⟩
theorem Kc{own:Bool}{outer c:List aj}{a:List aj×Bool}{l:Lit}(hc: ∀v∈ [l.left.var,l.right.var,l.bp],v∈c):
  (stepG own outer a l).1.length+bI c (stepG own outer a l).1<=a.1.length+bI c a.1∧bI c (stepG own outer a l).1<=bI c a.1∧
  ((stepG own outer a l).2=lc->a.2=lc∨bI c (stepG own outer a l).1<bI c a.1):=by
 unfold stepG;split
 .rename_i h;obtain⟨b,d⟩:=Ii h;have j:=oY (hc _ b) d;have u:=jA a.1 (fH own outer a.1 l).1;exact⟨by dsimp only;omega,by dsimp only;omega,fun _=> .inr j⟩
 .exact⟨Ym _,Ym _,fun h=> .inl h⟩
theorem Eo{own:Bool}{outer c:List aj}: ∀{body:List Lit} {a:List aj×Bool},(∀l∈body,∀v∈ [l.left.var,l.right.var,l.bp],v∈c)->
  (body.foldl (stepG own outer) a).1.length+bI c (body.foldl (stepG own outer) a).1<=a.1.length+bI c a.1∧bI c (body.foldl (stepG own outer) a).1<=bI c a.1∧
  ((body.foldl (stepG own outer) a).2=lc->a.2=lc∨bI c (body.foldl (stepG own outer) a).1<bI c a.1)
 | [],a,_=>⟨Ym _,Ym _,fun h=> .inl h⟩
 |l::r,a,hc=>by
  obtain⟨j,u,b⟩:=Kc (own:=own) (outer:=outer) (a:=a) (hc l Yy);obtain⟨g1,g2,g3⟩:=Eo (own:=own) (outer:=outer) (body:=r) (a:=stepG own outer a l) fun l d=>hc l (Yt _ d);simp only[YN];refine⟨by omega,by omega,fun h=>?_⟩;rcases g3 h with g|g
  .rcases b g with h|h
   .exact .inl h
   .exact .inr (by omega)
  .exact .inr (by omega)
theorem KR(k:List aj)(l:Lit):(gU k l).length+2<=k.length+l.size:=by
 have b:=eQ (dE l.atom) k;have d:=iG l.atom;have j:=l.size_eq;unfold gU;split<;>omega
theorem iV: ∀(l:List Lit) (a:List aj),(l.foldl gU a).length<=a.length+Lit.aA l
 | [],a=>by simp[Lit.aA]
 |e::r,a=>by
  have b:=iV r (gU a e);have d:=KR a e;simp only[YN,Lit.aA];omega
theorem c74(body:List Lit)(d outer:List aj)(own:Bool)(hb:d.length+4*Lit.aA body<=1000000000000):Pure prog 269 [.iv (lits body),.iv (strs d),.iv (strs outer),pB own] (.iv (strs (tr own outer body d))):=by
 have b0:=Lit.ax body;have j0:=iV body d;have d0:=jM body;have i0:=oZ (bH body) (body.foldl gU d);refine ad ab func269 Z (by decide) ntmps269 Z (by simp) Z ?_;refine gA Z ?_;refine ar 0 body.length (Yl _) (fun i=>⟨[(0,.iv (lits body)),(1,.iv (strs ((body.take i).foldl gU d))),(2,.iv (strs outer)),(3,pB own),(9,pI i)],[],0⟩) (fun _=>True) [] ac
  (kT Z Z (bv (bv (bv (bv (bv trivial))))) Z) fun i hi _=>?_
 refine zJ Z Z (fun F=>?_) fun F=>?_
 .have F:=ci F;have j:=cF (g:=gU) (b:=d) F;have Y:=iV (body.take i) d;have hn:=Lit.cJ body i F;have c0:=iG (body.getD i io).atom;have m0:=(body.getD i io).size_eq;refine zJ Z Z (fun C=>?_) fun C=>?_
  .have C:(body.getD i io).kind=1:=by simpa using C
   rw[show gU ((body.take i).foldl gU d) (body.getD i io)=_ from am C]at j;refine gA Z (zp (Ur (body.getD i io).atom (by omega)) ?_);refine gA Z (bn (T6 _ _ (by omega)) Z Z Z Z Z Z ?_);refine gA Z ⟨F,ac,[],kT Z Z (bv ⟨.of_eq (by rw[j];rfl),rfl,bv (bv (bv ac))⟩) Z⟩
  .have C: ¬(body.getD i io).kind=1:=by simpa using C
   rw[show gU ((body.take i).foldl gU d) (body.getD i io)=_ from be C]at j;refine gA Z ⟨F,ac,[],kT Z Z (bv ⟨.of_eq (by rw[j];rfl),rfl,bv (bv (bv ac))⟩) Z⟩
 have F:=co F;have e0:(body.take i).foldl gU d=body.foldl gU d:=ma F;rw[e0];refine gA Z ?_;refine ow (σ:={x:List aj×Bool×Nat//tr own outer body d=(if x.2.1=lc then Az own outer body (x.2.2+1) x.1 else x.1)∧(x.2.1=lc->bI (bH body) x.1<=x.2.2)∧x.1.length+bI (bH body) x.1<=(body.foldl gU d).length+bI (bH body) (body.foldl gU d)})
  (fun x=>⟨[(0,.iv (lits body)),(1,.iv (strs x.1.1)),(2,.iv (strs outer)),(3,pB own),(11,pB x.1.2.1)],[],0⟩) (fun x=>if x.1.2.1=lc then bI (bH body) x.1.1+1 else 0)
  ⟨(body.foldl gU d,lc,3*body.length),by simp[tr],fun _=>by dsimp only;omega,Ym _⟩ [] (kT Z Z (bv (bv (bv (bv ⟨.rK Z,rfl,ac⟩)))) Z) ?_
 rintro⟨⟨k,more,f⟩,hx1,hx2,hx3⟩;dsimp only at hx1 hx2 hx3 ⊢;refine zJ Z Z (fun C=>?_) fun C=>?_
 .subst C;rw[am Z]at hx1;have g0:=hx2 Z;refine gA Z ?_;refine ar 0 body.length (Yl _) (fun i=>⟨[(0,.iv (lits body)),(1,.iv (strs ((body.take i).foldl (stepG own outer) (k,li)).1)),(2,.iv (strs outer)),(3,pB own),(11,pB ((body.take i).foldl (stepG own outer) (k,li)).2),(12,pI i)],[],0⟩) (fun _=>True) [] ac
   (kT Z Z (bv (bv (bv (bv ⟨.rK Z,rfl,bv trivial⟩)))) Z) fun i hi _=>?_
  have B:=Eo (own:=own) (outer:=outer) (c:=bH body) (body:=body.take i) (a:=(k,li)) fun l hl v Y=>rA (aaI hl) Y;dsimp only at B;refine zJ Z Z (fun A=>?_) fun A=>?_
  .have A:=ci A;have j:=cF (g:=stepG own outer) (b:=(k,li)) A;generalize f0:(body.take i).foldl (stepG own outer) (k,li)=ka at B j ⊢;have k0:=Lit.aS body i A;have a0:=(body.getD i io).fC;refine gA Z (zp (XT (body.getD i io) ka.1 (by omega)) ?_);refine zJ Z Z (fun J=>?_) fun J=>?_
   .subst J;refine zJ Z Z (fun I=>?_) fun I=>?_
    .have I:(body.getD i io).kind=4:=by simpa using I
     have y:fH lc outer ka.1 (body.getD i io)=((body.getD i io).bp,su (body.getD i io).agg ka.1 outer):=am ⟨rfl,I⟩;refine gA Z (zp (XS (body.getD i io).agg ka.1 outer (by omega)) ?_);refine zJ Z Z (fun D=>?_) fun D=>?_
     .have u:stepG lc outer ka (body.getD i io)=(bZ ka.1 (body.getD i io).bp,lc):=by unfold stepG;rw[y,am D]
      rw[u]at j;refine gA Z (bn (Na ka.1 _ (by omega)) Z Z Z Z Z Z ?_);refine gA Z ⟨A,ac,[],kT Z Z (bv ⟨.of_eq (by rw[j];rfl),rfl,bv (bv ⟨.rK (by rw[j]),rfl,bv ac⟩)⟩) Z⟩
     .have u:stepG lc outer ka (body.getD i io)=ka:=by unfold stepG;rw[y,be (by rw[D];simp)]
      rw[u]at j;refine gA Z ⟨A,ac,[],kT Z Z (bv ⟨.of_eq (by rw[j];rfl),rfl,bv (bv ⟨.of_eq (by rw[j];rfl),rfl,bv ac⟩)⟩) Z⟩
    .have I: ¬(body.getD i io).kind=4:=by simpa using I
     have y:fH lc outer ka.1 (body.getD i io)=ko (body.getD i io) ka.1:=be (fun h=>I h.2);refine zJ Z Z (fun D=>?_) fun D=>?_
     .have u:stepG lc outer ka (body.getD i io)=(bZ ka.1 (ko (body.getD i io) ka.1).1,lc):=by unfold stepG;rw[y,am D]
      rw[u]at j;refine gA Z (bn (Na ka.1 _ (by omega)) Z Z Z Z Z Z ?_);refine gA Z ⟨A,ac,[],kT Z Z (bv ⟨.of_eq (by rw[j];rfl),rfl,bv (bv ⟨.rK (by rw[j]),rfl,bv ac⟩)⟩) Z⟩
     .have u:stepG lc outer ka (body.getD i io)=ka:=by unfold stepG;rw[y,be (by rw[D];simp)]
      rw[u]at j;refine gA Z ⟨A,ac,[],kT Z Z (bv ⟨.of_eq (by rw[j];rfl),rfl,bv (bv ⟨.of_eq (by rw[j];rfl),rfl,bv ac⟩)⟩) Z⟩
   .have J:own=li:=J;subst J;have y:fH li outer ka.1 (body.getD i io)=ko (body.getD i io) ka.1:=be (fun h=>by cases h.1);refine zJ Z Z (fun D=>?_) fun D=>?_
    .have u:stepG li outer ka (body.getD i io)=(bZ ka.1 (ko (body.getD i io) ka.1).1,lc):=by unfold stepG;rw[y,am D]
     rw[u]at j;refine gA Z (bn (Na ka.1 _ (by omega)) Z Z Z Z Z Z ?_);refine gA Z ⟨A,ac,[],kT Z Z (bv ⟨.of_eq (by rw[j];rfl),rfl,bv (bv ⟨.rK (by rw[j]),rfl,bv ac⟩)⟩) Z⟩
    .have u:stepG li outer ka (body.getD i io)=ka:=by unfold stepG;rw[y,be (by rw[D];simp)]
     rw[u]at j;refine gA Z ⟨A,ac,[],kT Z Z (bv ⟨.of_eq (by rw[j];rfl),rfl,bv (bv ⟨.of_eq (by rw[j];rfl),rfl,bv ac⟩)⟩) Z⟩
  .have A:=co A;have e1:(body.take i).foldl (stepG own outer) (k,li)=nN own outer body k:=ma A;rw[e1]at B ⊢;refine gA Z ?_;refine⟨⟨((nN own outer body k).1,(nN own outer body k).2,f-1),?_,fun G=>?_,by dsimp only;omega⟩,[],?_,kT Z Z (bv (bv (bv (bv (bv ac))))) Z⟩
   .dsimp only;rw[hx1,yi];by_cases G:(nN own outer body k).2=lc
    .have:=B.2.2 G;have S:f-1+1=f:=by simp at this;omega
     rw[am G,am G,S]
    .rw[be G,be G]
   .have:=B.2.2 G;simp at this;dsimp only;omega
   .dsimp only;split
    .rename_i G;have:=B.2.2 G;simp at this;simp;omega
    .simp
 .subst C;rw[be (by simp)]at hx1;refine gA Z (zL (.of_eq ?_));rw[hx1];rfl
def gf(may:Expr->Bool)(occ:List aj)(l:Lit):aj×Bool:=
 if¬l.kind=3∨ ¬l.op=1 then(Yp,li)
 else if l.left.kind=1∧ch occ l.left.var=li∧may l.right=lc then(l.left.var,lc)
 else if l.right.kind=1∧ch occ l.right.var=li∧may l.left=lc then(l.right.var,lc)
 else(Yp,li)
theorem cY{occ:List aj}{s:aj}:ch occ s=!lw (bY .str (aJ occ) s 0=0):=by
 rw[bR];by_cases h:s∈occ
 .have:=oD.2 h;rw[aP.2 h];simp;omega
 .rw[ei.2 h,rz.2 h];rfl
def c7(occ:List aj)(e:Expr):Bool:=lw (e.kind=2)||(lw (e.kind=1)&&ch occ e.var)
theorem fx{a b:Bool}(h:a=b):pB a=pB b:=by rw[h]
theorem d76(occ:List aj)(e:Expr)(hb:e.size<=1000000000000):cj prog 127 [ag e.c,.ptr 1 0] [dd (aJ occ),.cells [.mp 0]] (pB (c7 occ e)) [(0,jp (dd (aJ occ))),(1,jp (.cells [.mp 0]))] 2:=by
 have b:=bR occ e.var;have d:=cY (occ:=occ) (s:=e.var);refine aE ab func127 Z (by decide) ntmps127 Z (by simp) ?_
 repeat' (first
  |(refine gA Z (zI (fun _=>?_) (fun _=>?_)))
  |fail)
 all_goals first
  |(refine gA Z (fp [] (.inr Z) Z (zM ⟨.of_eq (fx (a:=lc) ?_),rfl,ac⟩ (zC (zO ac))));simp_all [c7];done)
  |(refine gA Z (fp [] (.inr Z) Z (zM ⟨.of_eq (fx (a:=li) ?_),rfl,ac⟩ (zC (zO ac))));simp_all [c7];done)
  |(refine gA Z (fp [] (.inr Z) Z (zM ⟨.of_eq (fx (a:=lw (bY .str (aJ occ) e.var 0>0)) ?_),rfl,ac⟩ (zC (zO ac))));rw[c7,d,b];simp_all;by_cases j:tA occ e.var=0<;>simp[j]<;>omega)
theorem c77(a:fa):Pure prog 128 [ag a.c] (pB li):=by
 refine ad ab func128 Z (by decide) ntmps128 Z (by simp) Z ?_;exact zU Z
theorem XC(a:fa):Pure prog 229 [ag a.c] (pB li):=by
 refine ad ab func229 Z (by decide) ntmps229 Z (by simp) Z ?_;exact zU Z
def iX(out occ:List aj)(a:fa):Bool:=(bj a).all fun x=>lw (x=a.var)||(!ch out x||ch occ x)
theorem d126(r:aq)(occ:List aj)(a:fa)(hb:a.size<=1000000000000):cj prog 228 [ag a.c,.ptr 1 0,.ptr 2 0] [dd (aJ occ),.cells [.iv (da r)],.cells [.mp 0]] (pB (iX (az r) occ a)) [(0,jp (dd (aJ occ))),(1,jp (.cells [.iv (da r)])),(2,jp (.cells [.mp 0]))] 3:=by
 refine aE ab func228 Z (by decide) ntmps228 Z (by simp) ?_;refine gA Z (zq [] (d127 a hb) ?_);refine gA Z ?_;refine ib (aJ (bj a)) (fun u=>⟨[(1,.ptr 1 0),(2,.ptr 2 0),(3,.ptr 3 0),(8,.ptr 5 0)],[(0,jp (dd (aJ occ))),(1,jp (.cells [.iv (da r)])),(2,jp (.cells [.mp 0])),(3,jp (ak a.c)),(5,jp (.b3 .str yw (aJ (bj a)) u kw))],6⟩) (fun u=> ∀j∈u,∀x,(aJ (bj a))[j]? =jp x->(lw (x.1=a.var)||(!ch (az r) x.1||ch occ x.1))=lc) [] (by simp)
  (zW (zC ⟨⟨_,rfl,.of_eq Z⟩,Yd Z,rfl,⟨_,rfl,.of_eq Z⟩,Yd Z,rfl,zK (hI Z Z (.inl Z) Z trivial)⟩)) fun u F=>?_
 refine ox Z ac (eW Z Z Z Z Z (by decide) (fun b=>?_) fun j x d A=>?_)
 .refine gA Z (zD [] Z (zM ⟨.of_eq (fx (a:=lc) (YG.2 fun t G=>all_keys (p:=fun t=>(lw (t=a.var)||(!ch (az r) t||ch occ t))=lc) b F t G).symm),rfl,ac⟩ (zC ⟨⟨_,rfl,.of_eq Z⟩,Yd Z,rfl,⟨_,rfl,.of_eq Z⟩,Yd Z,rfl,ac⟩)))
 .have more:(lw (x.1=a.var)||(!ch (az r) x.1||ch occ x.1))=lc-> ∀i∈j::u,∀x,(aJ (bj a))[i]? =jp x->(lw (x.1=a.var)||(!ch (az r) x.1||ch occ x.1))=lc:=fun h i hi y B=>by
   rcases Yx.1 hi with rfl|hi
   .rw[d]at B;cases B;exact h
   .exact F i hi y B
  have C:=cY (occ:=az r) (s:=x.1);have D:=cY (occ:=occ) (s:=x.1);have I:=bR (az r) x.1;have J:=bR occ x.1;refine zJ Z Z (fun g1=>?_) fun g1=>?_
  .have g1:lw (x.1=a.var)=li:=by simpa using g1
   refine zJ Z Z (fun g2=>?_) fun g2=>?_
   .have g2:ch (az r) x.1=lc:=by
     have:=zT g2;rw[C];simp;omega
    refine zJ Z Z (fun g3=>?_) fun g3=>?_
    .have g3:ch occ x.1=li:=by rw[D,g3];rfl
     refine gA Z (zD [] Z (zM ⟨.of_eq (fx (a:=li) (Z1.2 ⟨x.1,w5 d,by rw[g1,g2,g3];simp⟩).symm),rfl,ac⟩ (zC ⟨⟨_,rfl,.of_eq Z⟩,Yd Z,rfl,⟨_,rfl,.of_eq Z⟩,Yd Z,rfl,ac⟩)))
    .have g3:ch occ x.1=lc:=by rw[D,g3];rfl
     refine gA Z ⟨j,x,d,A,more (by rw[g3];simp),[],zW (zC ⟨⟨_,rfl,.of_eq Z⟩,Yd Z,rfl,⟨_,rfl,.of_eq Z⟩,Yd Z,rfl,zK (hI Z Z (.inr Z) Z ac)⟩)⟩
   .have g2:ch (az r) x.1=li:=by
     have:=zF g2;rw[C];simp;omega
    refine gA Z ⟨j,x,d,A,more (by rw[g2];simp),[],zW (zC ⟨⟨_,rfl,.of_eq Z⟩,Yd Z,rfl,⟨_,rfl,.of_eq Z⟩,Yd Z,rfl,zK (hI Z Z (.inr Z) Z ac)⟩)⟩
  .have g1:lw (x.1=a.var)=lc:=by simpa using g1
   refine gA Z ⟨j,x,d,A,more (by rw[g1];simp),[],zW (zC ⟨⟨_,rfl,.of_eq Z⟩,Yd Z,rfl,⟨_,rfl,.of_eq Z⟩,Yd Z,rfl,zK (hI Z Z (.inr Z) Z ac)⟩)⟩
def mE(may:Expr->Bool)(more:fa->Bool)(occ:List aj)(l:Lit):Option aj:=
 if(gf may occ l).2=lc then jp (gf may occ l).1 else if l.kind=4∧ch occ l.bp=li∧more l.agg=lc then jp l.bp else kw
def cK(may:Expr->Bool)(more:fa->Bool)(occ:List aj):List Lit->Option aj
 | []=>kw
 |l::r=>match mE may more occ l with
  |some v=>jp v
  |none=>cK may more occ r
def dV(may:List aj->Expr->Bool)(more:List aj->fa->Bool)(body:List Lit):Nat->List aj->List aj
 |0,occ=>occ
 |n+1,occ=>match cK (may occ) (more occ) occ body with
  |some v=>dV may more body n (occ++ [v])
  |none=>occ
def bK(l:Lit):List aj:=if l.kind=1 then de l.atom else[]
def cN(may:List aj->Expr->Bool)(more:List aj->fa->Bool)(body:List Lit)(occ:List aj):List aj:=dV may more body (3*body.length+1) (occ++body.flatMap bK)
theorem fS{may:List aj->Expr->Bool}{more:List aj->fa->Bool}{body:List Lit}{n:Nat}{occ:List aj}{v:aj}(h:cK (may occ) (more occ) occ body=jp v):dV may more body (n+1) occ=dV may more body n (occ++ [v]):=by
 simp only[dV,h]
theorem fU{may:List aj->Expr->Bool}{more:List aj->fa->Bool}{body:List Lit}{n:Nat}{occ:List aj}(h:cK (may occ) (more occ) occ body=kw):dV may more body (n+1) occ=occ:=by
 simp only[dV,h]
theorem nQ{may:Expr->Bool}{more:fa->Bool}{occ:List aj}: ∀{l m:List Lit},cK may more occ l=kw->cK may more occ (l++m)=cK may more occ m
 | [],_,_=>rfl
 |x::r,m,h=>by
  simp only[cK]at h;split at h
  .cases h
  .rename_i b;simp only[ZO,cK,b];exact nQ h
theorem eY{may:Expr->Bool}{more:fa->Bool}{occ:List aj}{l:List Lit}{i:Nat}(h:cK may more occ (l.take i)=kw)(hi:i<l.length)(b:mE may more occ (l.getD i io)=kw):cK may more occ (l.take (i+1))=kw:=by
 rw[aK hi,nQ h];simp only[cK,b]
theorem tv{may:Expr->Bool}{more:fa->Bool}{occ:List aj}{l:List Lit}{i:Nat}{v:aj}(h:cK may more occ (l.take i)=kw)(hi:i<l.length)(b:mE may more occ (l.getD i io)=jp v):cK may more occ l=jp v:=by
 have e:l=l.take i++(l.getD i io::l.drop (i+1)):=by
  rw[Ye,Yi hi,ZG,List.getElem_cons_drop,List.take_append_drop]
 rw[e,nQ h];simp only[cK,b]
theorem xU{may:Expr->Bool}{more:fa->Bool}{occ:List aj}{l:Lit}{v:aj}(h:mE may more occ l=jp v):v∈ [l.left.var,l.right.var,l.bp]∧v∉occ:=by
 unfold mE at h;split at h
 .rename_i b;simp only[Yh]at h;subst h;unfold gf at b ⊢;split at b
  .cases b
  .rename_i u;rw[be u];split at b
   .rename_i d;rw[am d];exact⟨by simp,ei.1 d.2.1⟩
   .rename_i d;rw[be d];split at b
    .rename_i j;rw[am j];exact⟨by simp,ei.1 j.2.1⟩
    .cases b
 .split at h
  .rename_i d;simp only[Yh]at h;subst h;exact⟨by simp,ei.1 d.2.1⟩
  .cases h
theorem mU{may:Expr->Bool}{more:fa->Bool}{occ:List aj}{v:aj}: ∀{l:List Lit},cK may more occ l=jp v->v∈bH l∧v∉occ
 | [],h=>by cases h
 |x::r,h=>by
  simp only[cK]at h;split at h
  .rename_i w j;simp only[Yh]at h;subst h;obtain⟨b,d⟩:=xU j;exact⟨rA Yy b,d⟩
  .obtain⟨b,d⟩:=mU h;refine⟨?_,d⟩;simp only[bH,Zk,Ys]at b ⊢;exact .inr b
theorem gT: ∀l:List Lit,(l.flatMap bK).length<=Lit.aA l
 | []=>by simp
 |e::r=>by
  have b:=gT r;have d:(bK e).length<=e.size:=by
   have:=lf e.atom;have:=e.size_eq;unfold bK;split
   .omega
   .simp
  rw[Zk,Yg];simp only[Lit.aA];omega
theorem VY(occ:List aj)(l:Lit)(hb:l.size<=100000000000):cj prog 172 [ag l.c,.dx (.func 227) [.mp 0] [],.mp 0] [dd (aJ occ)] (.bX [pS (gf (aW occ) occ l).1,pB (gf (aW occ) occ l).2]) [(0,jp (dd (aJ occ)))] 1:=by
 have y:=l.size_eq;have u:=bR occ l.left.var;have x:=bR occ l.right.var;refine aE ab func172 Z (by decide) ntmps172 Z (by simp) ?_;refine zE Z Z (fun b=>?_) fun b=>?_
 .have b: ¬l.kind=3:=by simpa using b
  refine gA Z (zD [] Z (zM ⟨.of_eq (jN (a:=(Yp,li)) (by rw[gf,am (.inl b)])),rfl,ac⟩ (zC ac)))
 have b:l.kind=3:=by simpa using b
 refine zJ Z Z (fun d=>?_) fun d=>?_
 .have d: ¬l.op=1:=by simpa using d
  refine gA Z (zD [] Z (zM ⟨.of_eq (jN (a:=(Yp,li)) (by rw[gf,am (.inr d)])),rfl,ac⟩ (zC ac)))
 have d:l.op=1:=by simpa using d
 have j:gf (aW occ) occ l=if l.left.kind=1∧ch occ l.left.var=li∧(aW occ) l.right=lc then(l.left.var,lc) else if l.right.kind=1∧ch occ l.right.var=li∧(aW occ) l.left=lc then(l.right.var,lc) else(Yp,li):=by
  rw[gf,be (by simp[b,d])]
 repeat' (first
  |(refine gA Z (zI (fun _=>?_) (fun _=>?_)))
  |(refine gA Z (iO [0] (d125 occ l.left (by omega)) Z Z Z Z Z Z Z Z ?_))
  |(refine gA Z (iO [0] (d125 occ l.right (by omega)) Z Z Z Z Z Z Z Z ?_))
  |fail)
 all_goals first
  |(refine gA Z (fp [] (.inr Z) Z (zM ⟨.of_eq (jN (a:=(Yp,li)) ?_),rfl,ac⟩ (zC ac)));rw[j];simp only[cY] at*;simp_all;done)
  |(refine gA Z (fp [] (.inr Z) Z (zM ⟨.of_eq (jN (a:=(l.left.var,lc)) ?_),rfl,ac⟩ (zC ac)));rw[j];simp only[cY] at*;simp_all;done)
  |(refine gA Z (fp [] (.inr Z) Z (zM ⟨.of_eq (jN (a:=(l.right.var,lc)) ?_),rfl,ac⟩ (zC ac)));rw[j];simp only[cY] at*;simp_all;done)
  |(exfalso;simp_all;done)
theorem W9(occ:List aj)(body:List Lit)(hb:occ.length+8*Lit.aA body<=100000000000):cj prog 126 [.iv (lits body),.mp 0,.dx (.func 227) [.mp 0] [],.dx (.func 229) [] []] [dd (aJ occ)] (.bX []) [(0,jp (dd (aJ (cN (fun occ=>aW occ) (fun occ=>fun _=>li) body occ))))] 1:=by
 have f0:=Lit.ax body;have k0:=gT body;have g0:=jM body;have j0:=oZ (bH body) (occ++body.flatMap bK);refine aE ab func126 Z (by decide) ntmps126 Z (by simp) ?_;refine gA Z ?_;refine ar 0 body.length (Yl _) (fun i=>⟨[(0,.iv (lits body)),(1,.mp 0),(2,.dx (.func 227) [.mp 0] []),(3,.dx (.func 229) [] []),(14,.iv (lits body)),(15,pI body.length),(16,pI i)],[(0,jp (dd (aJ (occ++(body.take i).flatMap bK))))],1⟩) (fun _=>True) [] ac
  (zW (hM Z (by simp) Z trivial)) fun i hi _=>?_
 refine zJ Z Z (fun j=>?_) fun j=>?_
 .have j:=ci j;have F:=cm (f:=bK) j;have hn:=Lit.cJ body i j;have hv:=gT (body.take i);have n0:=(body.getD i io).size_eq;refine zJ Z Z (fun u=>?_) fun u=>?_
  .have u:(body.getD i io).kind=1:=by simpa using u
   rw[show bK (body.getD i io)=_ from am u]at F;refine gA Z (zq [0] (d88 (occ++(body.take i).flatMap bK) (body.getD i io).atom (by rw[Yg];omega)) ?_);refine gA Z ⟨j,ac,[],zW (hM Z (by rw[F,Yu]) Z ac)⟩
  .have u: ¬(body.getD i io).kind=1:=by simpa using u
   rw[show bK (body.getD i io)=_ from be u,Y0]at F;refine gA Z ⟨j,ac,[],zW (hM Z (by rw[F]) Z ac)⟩
 have j:=co j;have e0:body.take i=body:=Yn j;rw[e0];refine gA Z ?_;refine ow (σ:={x:List aj×Nat//cN (fun occ=>aW occ) (fun occ=>fun _=>li) body occ=dV (fun occ=>aW occ) (fun occ=>fun _=>li) body (x.2+1) x.1∧bI (bH body) x.1<=x.2∧x.1.length+bI (bH body) x.1<=(occ++body.flatMap bK).length+bI (bH body) (occ++body.flatMap bK)})
  (fun x=>⟨[(0,.iv (lits body)),(1,.mp 0),(2,.dx (.func 227) [.mp 0] []),(3,.dx (.func 229) [] [])],[(0,jp (dd (aJ x.1.1)))],1⟩) (fun x=>bI (bH body) x.1.1)
  ⟨(occ++body.flatMap bK,3*body.length),rfl,by dsimp only;omega,Ym _⟩ [] (zW (zC trivial)) ?_
 rintro⟨⟨ok,f⟩,hx1,hx2,hx3⟩;dsimp only at hx1 hx2 hx3 ⊢;rw[Yg]at hx3;refine gA Z ?_;refine ar 0 body.length (Yl _) (fun i=>⟨[(0,.iv (lits body)),(1,.mp 0),(2,.dx (.func 227) [.mp 0] []),(3,.dx (.func 229) [] []),(28,.iv (lits body)),(29,pI body.length),(30,pI i)],[(0,jp (dd (aJ ok)))],1⟩) (fun i=>cK ((fun occ=>aW occ) ok) ((fun occ=>fun _=>li) ok) ok (body.take i)=kw) [] Z
  (zW (zC trivial)) fun i hi C=>?_
 refine zJ Z Z (fun b=>?_) fun b=>?_
 .have b:=ci b;have m0:=Lit.aS body i b;have d0:=(body.getD i io).fC;have d: ∀v,mE ((fun occ=>aW occ) ok) ((fun occ=>fun _=>li) ok) ok (body.getD i io)=jp v->cN (fun occ=>aW occ) (fun occ=>fun _=>li) body occ=dV (fun occ=>aW occ) (fun occ=>fun _=>li) body (f-1+1) (ok++ [v])∧bI (bH body) (ok++ [v])<=f-1∧
    (ok++ [v]).length+bI (bH body) (ok++ [v])<=(occ++body.flatMap bK).length+bI (bH body) (occ++body.flatMap bK)∧bI (bH body) (ok++ [v])<bI (bH body) ok:=by
   intro v hv;have Y:=tv C b hv;obtain⟨g1,g2⟩:=mU Y;have i0:=oY g1 g2;have c0:bI (bH body) (ok++ [v])=bI (bH body) (bZ ok v):=by
    unfold bI;congr 2
    funext x
    congr 1;rw[YU,aP,aP,ct,Ys,Yr]
   have I:f-1+1=f:=by omega
   refine⟨?_,by omega,?_,by omega⟩
   .rw[hx1,fS Y,I]
   .rw[Yg,Yg,YY];omega
  have a0:=bR ok (gf (aW ok) ok (body.getD i io)).1;have J:=jg ok (gf (aW ok) ok (body.getD i io)).1;have b0:=bR ok (body.getD i io).bp;have S:=jg ok (body.getD i io).bp;refine gA Z (zq [0] (VY ok (body.getD i io) (by omega)) ?_);refine zJ Z Z (fun B=>?_) fun B=>?_
  .obtain⟨g1,g2,g3,g4⟩:=d _ (am B);refine gA Z ⟨⟨(_,f-1),g1,g2,g3⟩,[],g4,zW (hM Z (by dsimp only;rw[eh];rfl) Z ac)⟩
  .refine zJ Z Z (fun y=>?_) fun y=>?_
   .have y:(body.getD i io).kind=4:=by simpa using y
    refine zJ Z Z (fun A=>?_) fun A=>?_
    .have A:ch ok (body.getD i io).bp=li:=by rw[cY];simpa using A
     refine gA Z (zp (XC (body.getD i io).agg) ?_);refine zJ Z Z (fun G=>?_) fun G=>?_
     .obtain⟨g1,g2,g3,g4⟩:=d _ ((be (by rw[B];simp)).trans (am ⟨y,A,G⟩));refine gA Z ⟨⟨(_,f-1),g1,g2,g3⟩,[],g4,zW (hM Z (by dsimp only;rw[eh];rfl) Z ac)⟩
     .refine gA Z ?_;exact⟨b,eY C b ((be (by rw[B];simp)).trans (be (fun h=>nomatch (h.2.2.symm.trans G)))),[],zW (zC ac)⟩
    .have A:ch ok (body.getD i io).bp=lc:=by rw[cY];simpa using A
     refine gA Z ⟨b,eY C b ((be (by rw[B];simp)).trans (be (by rw[A];simp))),[],zW (zC ac)⟩
   .have y: ¬(body.getD i io).kind=4:=by simpa using y
    refine gA Z ⟨b,eY C b ((be (by rw[B];simp)).trans (be (fun h=>y h.1))),[],zW (zC ac)⟩
 .have b:=co b;rw[Yn b]at C;have D:cN (fun occ=>aW occ) (fun occ=>fun _=>li) body occ=ok:=by rw[hx1,fU C]
  refine gA Z (zD [] Z (zW (hM Z (by rw[D]) Z ac)))
theorem VX(occ:List aj)(l:Lit)(hb:l.size<=100000000000):cj prog 172 [ag l.c,.dx (.func 127) [] [.ptr 1 0],.mp 0] [dd (aJ occ),.cells [.mp 0]] (.bX [pS (gf (c7 occ) occ l).1,pB (gf (c7 occ) occ l).2]) [(0,jp (dd (aJ occ))),(1,jp (.cells [.mp 0]))] 2:=by
 have y:=l.size_eq;have u:=bR occ l.left.var;have x:=bR occ l.right.var;refine aE ab func172 Z (by decide) ntmps172 Z (by simp) ?_;refine zE Z Z (fun b=>?_) fun b=>?_
 .have b: ¬l.kind=3:=by simpa using b
  refine gA Z (zD [] Z (zM ⟨.of_eq (jN (a:=(Yp,li)) (by rw[gf,am (.inl b)])),rfl,ac⟩ (zC (zO ac))))
 have b:l.kind=3:=by simpa using b
 refine zJ Z Z (fun d=>?_) fun d=>?_
 .have d: ¬l.op=1:=by simpa using d
  refine gA Z (zD [] Z (zM ⟨.of_eq (jN (a:=(Yp,li)) (by rw[gf,am (.inr d)])),rfl,ac⟩ (zC (zO ac))))
 have d:l.op=1:=by simpa using d
 have j:gf (c7 occ) occ l=if l.left.kind=1∧ch occ l.left.var=li∧(c7 occ) l.right=lc then(l.left.var,lc) else if l.right.kind=1∧ch occ l.right.var=li∧(c7 occ) l.left=lc then(l.right.var,lc) else(Yp,li):=by
  rw[gf,be (by simp[b,d])]
 repeat' (first
  |(refine gA Z (zI (fun _=>?_) (fun _=>?_)))
  |(refine gA Z (iO [0,1] (d76 occ l.left (by omega)) Z Z Z Z Z Z Z Z ?_))
  |(refine gA Z (iO [0,1] (d76 occ l.right (by omega)) Z Z Z Z Z Z Z Z ?_))
  |fail)
 all_goals first
  |(refine gA Z (fp [] (.inr Z) Z (zM ⟨.of_eq (jN (a:=(Yp,li)) ?_),rfl,ac⟩ (zC (zO ac))));rw[j];simp only[cY] at*;simp_all;done)
  |(refine gA Z (fp [] (.inr Z) Z (zM ⟨.of_eq (jN (a:=(l.left.var,lc)) ?_),rfl,ac⟩ (zC (zO ac))));rw[j];simp only[cY] at*;simp_all;done)
  |(refine gA Z (fp [] (.inr Z) Z (zM ⟨.of_eq (jN (a:=(l.right.var,lc)) ?_),rfl,ac⟩ (zC (zO ac))));rw[j];simp only[cY] at*;simp_all;done)
  |(exfalso;simp_all;done)
theorem W8(occ:List aj)(body:List Lit)(hb:occ.length+8*Lit.aA body<=100000000000):cj prog 126 [.iv (lits body),.mp 0,.dx (.func 127) [] [.ptr 1 0],.dx (.func 128) [] []] [dd (aJ occ),.cells [.mp 0]] (.bX []) [(0,jp (dd (aJ (cN (fun occ=>c7 occ) (fun occ=>fun _=>li) body occ)))),(1,jp (.cells [.mp 0]))] 2:=by
 have f0:=Lit.ax body;have k0:=gT body;have g0:=jM body;have j0:=oZ (bH body) (occ++body.flatMap bK);refine aE ab func126 Z (by decide) ntmps126 Z (by simp) ?_;refine gA Z ?_;refine ar 0 body.length (Yl _) (fun i=>⟨[(0,.iv (lits body)),(1,.mp 0),(2,.dx (.func 127) [] [.ptr 1 0]),(3,.dx (.func 128) [] []),(14,.iv (lits body)),(15,pI body.length),(16,pI i)],[(0,jp (dd (aJ (occ++(body.take i).flatMap bK)))),(1,jp (.cells [.mp 0]))],2⟩) (fun _=>True) [] ac
  (zW (hM Z (by simp) Z (zO trivial))) fun i hi _=>?_
 refine zJ Z Z (fun j=>?_) fun j=>?_
 .have j:=ci j;have F:=cm (f:=bK) j;have hn:=Lit.cJ body i j;have hv:=gT (body.take i);have n0:=(body.getD i io).size_eq;refine zJ Z Z (fun u=>?_) fun u=>?_
  .have u:(body.getD i io).kind=1:=by simpa using u
   rw[show bK (body.getD i io)=_ from am u]at F;refine gA Z (zq [0] (d88 (occ++(body.take i).flatMap bK) (body.getD i io).atom (by rw[Yg];omega)) ?_);refine gA Z ⟨j,ac,[],zW (hM Z (by rw[F,Yu]) Z (zO ac))⟩
  .have u: ¬(body.getD i io).kind=1:=by simpa using u
   rw[show bK (body.getD i io)=_ from be u,Y0]at F;refine gA Z ⟨j,ac,[],zW (hM Z (by rw[F]) Z (zO ac))⟩
 have j:=co j;have e0:body.take i=body:=Yn j;rw[e0];refine gA Z ?_;refine ow (σ:={x:List aj×Nat//cN (fun occ=>c7 occ) (fun occ=>fun _=>li) body occ=dV (fun occ=>c7 occ) (fun occ=>fun _=>li) body (x.2+1) x.1∧bI (bH body) x.1<=x.2∧x.1.length+bI (bH body) x.1<=(occ++body.flatMap bK).length+bI (bH body) (occ++body.flatMap bK)})
  (fun x=>⟨[(0,.iv (lits body)),(1,.mp 0),(2,.dx (.func 127) [] [.ptr 1 0]),(3,.dx (.func 128) [] [])],[(0,jp (dd (aJ x.1.1))),(1,jp (.cells [.mp 0]))],2⟩) (fun x=>bI (bH body) x.1.1)
  ⟨(occ++body.flatMap bK,3*body.length),rfl,by dsimp only;omega,Ym _⟩ [] (zW (zC (zO trivial))) ?_
 rintro⟨⟨ok,f⟩,hx1,hx2,hx3⟩;dsimp only at hx1 hx2 hx3 ⊢;rw[Yg]at hx3;refine gA Z ?_;refine ar 0 body.length (Yl _) (fun i=>⟨[(0,.iv (lits body)),(1,.mp 0),(2,.dx (.func 127) [] [.ptr 1 0]),(3,.dx (.func 128) [] []),(28,.iv (lits body)),(29,pI body.length),(30,pI i)],[(0,jp (dd (aJ ok))),(1,jp (.cells [.mp 0]))],2⟩) (fun i=>cK ((fun occ=>c7 occ) ok) ((fun occ=>fun _=>li) ok) ok (body.take i)=kw) [] Z
  (zW (zC (zO trivial))) fun i hi C=>?_
 refine zJ Z Z (fun b=>?_) fun b=>?_
 .have b:=ci b;have m0:=Lit.aS body i b;have d0:=(body.getD i io).fC;have d: ∀v,mE ((fun occ=>c7 occ) ok) ((fun occ=>fun _=>li) ok) ok (body.getD i io)=jp v->cN (fun occ=>c7 occ) (fun occ=>fun _=>li) body occ=dV (fun occ=>c7 occ) (fun occ=>fun _=>li) body (f-1+1) (ok++ [v])∧bI (bH body) (ok++ [v])<=f-1∧
    (ok++ [v]).length+bI (bH body) (ok++ [v])<=(occ++body.flatMap bK).length+bI (bH body) (occ++body.flatMap bK)∧bI (bH body) (ok++ [v])<bI (bH body) ok:=by
   intro v hv;have Y:=tv C b hv;obtain⟨g1,g2⟩:=mU Y;have i0:=oY g1 g2;have c0:bI (bH body) (ok++ [v])=bI (bH body) (bZ ok v):=by
    unfold bI;congr 2
    funext x
    congr 1;rw[YU,aP,aP,ct,Ys,Yr]
   have I:f-1+1=f:=by omega
   refine⟨?_,by omega,?_,by omega⟩
   .rw[hx1,fS Y,I]
   .rw[Yg,Yg,YY];omega
  have a0:=bR ok (gf (c7 ok) ok (body.getD i io)).1;have J:=jg ok (gf (c7 ok) ok (body.getD i io)).1;have b0:=bR ok (body.getD i io).bp;have S:=jg ok (body.getD i io).bp;refine gA Z (zq [0,1] (VX ok (body.getD i io) (by omega)) ?_);refine zJ Z Z (fun B=>?_) fun B=>?_
  .obtain⟨g1,g2,g3,g4⟩:=d _ (am B);refine gA Z ⟨⟨(_,f-1),g1,g2,g3⟩,[],g4,zW (hM Z (by dsimp only;rw[eh];rfl) Z (zO ac))⟩
  .refine zJ Z Z (fun y=>?_) fun y=>?_
   .have y:(body.getD i io).kind=4:=by simpa using y
    refine zJ Z Z (fun A=>?_) fun A=>?_
    .have A:ch ok (body.getD i io).bp=li:=by rw[cY];simpa using A
     refine gA Z (zp (c77 (body.getD i io).agg) ?_);refine zJ Z Z (fun G=>?_) fun G=>?_
     .obtain⟨g1,g2,g3,g4⟩:=d _ ((be (by rw[B];simp)).trans (am ⟨y,A,G⟩));refine gA Z ⟨⟨(_,f-1),g1,g2,g3⟩,[],g4,zW (hM Z (by dsimp only;rw[eh];rfl) Z (zO ac))⟩
     .refine gA Z ?_;exact⟨b,eY C b ((be (by rw[B];simp)).trans (be (fun h=>nomatch (h.2.2.symm.trans G)))),[],zW (zC (zO ac))⟩
    .have A:ch ok (body.getD i io).bp=lc:=by rw[cY];simpa using A
     refine gA Z ⟨b,eY C b ((be (by rw[B];simp)).trans (be (by rw[A];simp))),[],zW (zC (zO ac))⟩
   .have y: ¬(body.getD i io).kind=4:=by simpa using y
    refine gA Z ⟨b,eY C b ((be (by rw[B];simp)).trans (be (fun h=>y h.1))),[],zW (zC (zO ac))⟩
 .have b:=co b;rw[Yn b]at C;have D:cN (fun occ=>c7 occ) (fun occ=>fun _=>li) body occ=ok:=by rw[hx1,fU C]
  refine gA Z (zD [] Z (zW (hM Z (by rw[D]) Z (zO ac))))
theorem VW(r:aq)(occ:List aj)(l:Lit)(hb:l.size<=100000000000):cj prog 172 [ag l.c,.dx (.func 227) [.mp 0] [],.mp 0] [dd (aJ occ),.cells [.iv (da r)],.cells [.mp 0]] (.bX [pS (gf (aW occ) occ l).1,pB (gf (aW occ) occ l).2]) [(0,jp (dd (aJ occ))),(1,jp (.cells [.iv (da r)])),(2,jp (.cells [.mp 0]))] 3:=by
 have y:=l.size_eq;have u:=bR occ l.left.var;have x:=bR occ l.right.var;refine aE ab func172 Z (by decide) ntmps172 Z (by simp) ?_;refine zE Z Z (fun b=>?_) fun b=>?_
 .have b: ¬l.kind=3:=by simpa using b
  refine gA Z (zD [] Z (zM ⟨.of_eq (jN (a:=(Yp,li)) (by rw[gf,am (.inl b)])),rfl,ac⟩ (zC ⟨⟨_,rfl,.of_eq Z⟩,Yd Z,rfl,⟨_,rfl,.of_eq Z⟩,Yd Z,rfl,ac⟩)))
 have b:l.kind=3:=by simpa using b
 refine zJ Z Z (fun d=>?_) fun d=>?_
 .have d: ¬l.op=1:=by simpa using d
  refine gA Z (zD [] Z (zM ⟨.of_eq (jN (a:=(Yp,li)) (by rw[gf,am (.inr d)])),rfl,ac⟩ (zC ⟨⟨_,rfl,.of_eq Z⟩,Yd Z,rfl,⟨_,rfl,.of_eq Z⟩,Yd Z,rfl,ac⟩)))
 have d:l.op=1:=by simpa using d
 have j:gf (aW occ) occ l=if l.left.kind=1∧ch occ l.left.var=li∧(aW occ) l.right=lc then(l.left.var,lc) else if l.right.kind=1∧ch occ l.right.var=li∧(aW occ) l.left=lc then(l.right.var,lc) else(Yp,li):=by
  rw[gf,be (by simp[b,d])]
 repeat' (first
  |(refine gA Z (zI (fun _=>?_) (fun _=>?_)))
  |(refine gA Z (iO [0] (d125 occ l.left (by omega)) Z Z Z Z Z Z Z Z ?_))
  |(refine gA Z (iO [0] (d125 occ l.right (by omega)) Z Z Z Z Z Z Z Z ?_))
  |fail)
 all_goals first
  |(refine gA Z (fp [] (.inr Z) Z (zM ⟨.of_eq (jN (a:=(Yp,li)) ?_),rfl,ac⟩ (zC ⟨⟨_,rfl,.of_eq Z⟩,Yd Z,rfl,⟨_,rfl,.of_eq Z⟩,Yd Z,rfl,ac⟩)));rw[j];simp only[cY] at*;simp_all;done)
  |(refine gA Z (fp [] (.inr Z) Z (zM ⟨.of_eq (jN (a:=(l.left.var,lc)) ?_),rfl,ac⟩ (zC ⟨⟨_,rfl,.of_eq Z⟩,Yd Z,rfl,⟨_,rfl,.of_eq Z⟩,Yd Z,rfl,ac⟩)));rw[j];simp only[cY] at*;simp_all;done)
  |(refine gA Z (fp [] (.inr Z) Z (zM ⟨.of_eq (jN (a:=(l.right.var,lc)) ?_),rfl,ac⟩ (zC ⟨⟨_,rfl,.of_eq Z⟩,Yd Z,rfl,⟨_,rfl,.of_eq Z⟩,Yd Z,rfl,ac⟩)));rw[j];simp only[cY] at*;simp_all;done)
  |(exfalso;simp_all;done)
theorem W7(r:aq)(occ:List aj)(body:List Lit)(hb:occ.length+8*Lit.aA body<=100000000000):cj prog 126 [.iv (lits body),.mp 0,.dx (.func 227) [.mp 0] [],.dx (.func 228) [] [.ptr 1 0,.ptr 2 0]] [dd (aJ occ),.cells [.iv (da r)],.cells [.mp 0]] (.bX []) [(0,jp (dd (aJ (cN (fun occ=>aW occ) (fun occ=>iX (az r) occ) body occ)))),(1,jp (.cells [.iv (da r)])),(2,jp (.cells [.mp 0]))] 3:=by
 have f0:=Lit.ax body;have k0:=gT body;have g0:=jM body;have j0:=oZ (bH body) (occ++body.flatMap bK);refine aE ab func126 Z (by decide) ntmps126 Z (by simp) ?_;refine gA Z ?_;refine ar 0 body.length (Yl _) (fun i=>⟨[(0,.iv (lits body)),(1,.mp 0),(2,.dx (.func 227) [.mp 0] []),(3,.dx (.func 228) [] [.ptr 1 0,.ptr 2 0]),(14,.iv (lits body)),(15,pI body.length),(16,pI i)],[(0,jp (dd (aJ (occ++(body.take i).flatMap bK)))),(1,jp (.cells [.iv (da r)])),(2,jp (.cells [.mp 0]))],3⟩) (fun _=>True) [] ac
  (zW (hM Z (by simp) Z ⟨⟨_,rfl,.of_eq Z⟩,Yd Z,rfl,⟨_,rfl,.of_eq Z⟩,Yd Z,rfl,ac⟩)) fun i hi _=>?_
 refine zJ Z Z (fun j=>?_) fun j=>?_
 .have j:=ci j;have F:=cm (f:=bK) j;have hn:=Lit.cJ body i j;have hv:=gT (body.take i);have n0:=(body.getD i io).size_eq;refine zJ Z Z (fun u=>?_) fun u=>?_
  .have u:(body.getD i io).kind=1:=by simpa using u
   rw[show bK (body.getD i io)=_ from am u]at F;refine gA Z (zq [0] (d88 (occ++(body.take i).flatMap bK) (body.getD i io).atom (by rw[Yg];omega)) ?_);refine gA Z ⟨j,ac,[],zW (hM Z (by rw[F,Yu]) Z ⟨⟨_,rfl,.of_eq Z⟩,Yd Z,rfl,⟨_,rfl,.of_eq Z⟩,Yd Z,rfl,ac⟩)⟩
  .have u: ¬(body.getD i io).kind=1:=by simpa using u
   rw[show bK (body.getD i io)=_ from be u,Y0]at F;refine gA Z ⟨j,ac,[],zW (hM Z (by rw[F]) Z ⟨⟨_,rfl,.of_eq Z⟩,Yd Z,rfl,⟨_,rfl,.of_eq Z⟩,Yd Z,rfl,ac⟩)⟩
 have j:=co j;have e0:body.take i=body:=Yn j;rw[e0];refine gA Z ?_;refine ow (σ:={x:List aj×Nat//cN (fun occ=>aW occ) (fun occ=>iX (az r) occ) body occ=dV (fun occ=>aW occ) (fun occ=>iX (az r) occ) body (x.2+1) x.1∧bI (bH body) x.1<=x.2∧x.1.length+bI (bH body) x.1<=(occ++body.flatMap bK).length+bI (bH body) (occ++body.flatMap bK)})
  (fun x=>⟨[(0,.iv (lits body)),(1,.mp 0),(2,.dx (.func 227) [.mp 0] []),(3,.dx (.func 228) [] [.ptr 1 0,.ptr 2 0])],[(0,jp (dd (aJ x.1.1))),(1,jp (.cells [.iv (da r)])),(2,jp (.cells [.mp 0]))],3⟩) (fun x=>bI (bH body) x.1.1)
  ⟨(occ++body.flatMap bK,3*body.length),rfl,by dsimp only;omega,Ym _⟩ [] (zW (zC ⟨⟨_,rfl,.of_eq Z⟩,Yd Z,rfl,⟨_,rfl,.of_eq Z⟩,Yd Z,rfl,ac⟩)) ?_
 rintro⟨⟨ok,f⟩,hx1,hx2,hx3⟩;dsimp only at hx1 hx2 hx3 ⊢;rw[Yg]at hx3;refine gA Z ?_;refine ar 0 body.length (Yl _) (fun i=>⟨[(0,.iv (lits body)),(1,.mp 0),(2,.dx (.func 227) [.mp 0] []),(3,.dx (.func 228) [] [.ptr 1 0,.ptr 2 0]),(28,.iv (lits body)),(29,pI body.length),(30,pI i)],[(0,jp (dd (aJ ok))),(1,jp (.cells [.iv (da r)])),(2,jp (.cells [.mp 0]))],3⟩) (fun i=>cK ((fun occ=>aW occ) ok) ((fun occ=>iX (az r) occ) ok) ok (body.take i)=kw) [] Z
  (zW (zC ⟨⟨_,rfl,.of_eq Z⟩,Yd Z,rfl,⟨_,rfl,.of_eq Z⟩,Yd Z,rfl,ac⟩)) fun i hi C=>?_
 refine zJ Z Z (fun b=>?_) fun b=>?_
 .have b:=ci b;have m0:=Lit.aS body i b;have d0:=(body.getD i io).fC;have d: ∀v,mE ((fun occ=>aW occ) ok) ((fun occ=>iX (az r) occ) ok) ok (body.getD i io)=jp v->cN (fun occ=>aW occ) (fun occ=>iX (az r) occ) body occ=dV (fun occ=>aW occ) (fun occ=>iX (az r) occ) body (f-1+1) (ok++ [v])∧bI (bH body) (ok++ [v])<=f-1∧
    (ok++ [v]).length+bI (bH body) (ok++ [v])<=(occ++body.flatMap bK).length+bI (bH body) (occ++body.flatMap bK)∧bI (bH body) (ok++ [v])<bI (bH body) ok:=by
   intro v hv;have Y:=tv C b hv;obtain⟨g1,g2⟩:=mU Y;have i0:=oY g1 g2;have c0:bI (bH body) (ok++ [v])=bI (bH body) (bZ ok v):=by
    unfold bI;congr 2
    funext x
    congr 1;rw[YU,aP,aP,ct,Ys,Yr]
   have I:f-1+1=f:=by omega
   refine⟨?_,by omega,?_,by omega⟩
   .rw[hx1,fS Y,I]
   .rw[Yg,Yg,YY];omega
  have a0:=bR ok (gf (aW ok) ok (body.getD i io)).1;have J:=jg ok (gf (aW ok) ok (body.getD i io)).1;have b0:=bR ok (body.getD i io).bp;have S:=jg ok (body.getD i io).bp;refine gA Z (zq [0,1,2] (VW r ok (body.getD i io) (by omega)) ?_);refine zJ Z Z (fun B=>?_) fun B=>?_
  .obtain⟨g1,g2,g3,g4⟩:=d _ (am B);refine gA Z ⟨⟨(_,f-1),g1,g2,g3⟩,[],g4,zW (hM Z (by dsimp only;rw[eh];rfl) Z ⟨⟨_,rfl,.of_eq Z⟩,Yd Z,rfl,⟨_,rfl,.of_eq Z⟩,Yd Z,rfl,ac⟩)⟩
  .refine zJ Z Z (fun y=>?_) fun y=>?_
   .have y:(body.getD i io).kind=4:=by simpa using y
    refine zJ Z Z (fun A=>?_) fun A=>?_
    .have A:ch ok (body.getD i io).bp=li:=by rw[cY];simpa using A
     refine gA Z (zq [0,1,2] (d126 r ok (body.getD i io).agg (by omega)) ?_);refine zJ Z Z (fun G=>?_) fun G=>?_
     .obtain⟨g1,g2,g3,g4⟩:=d _ ((be (by rw[B];simp)).trans (am ⟨y,A,G⟩));refine gA Z ⟨⟨(_,f-1),g1,g2,g3⟩,[],g4,zW (hM Z (by dsimp only;rw[eh];rfl) Z ⟨⟨_,rfl,.of_eq Z⟩,Yd Z,rfl,⟨_,rfl,.of_eq Z⟩,Yd Z,rfl,ac⟩)⟩
     .refine gA Z ?_;exact⟨b,eY C b ((be (by rw[B];simp)).trans (be (fun h=>nomatch (h.2.2.symm.trans G)))),[],zW (zC ⟨⟨_,rfl,.of_eq Z⟩,Yd Z,rfl,⟨_,rfl,.of_eq Z⟩,Yd Z,rfl,ac⟩)⟩
    .have A:ch ok (body.getD i io).bp=lc:=by rw[cY];simpa using A
     refine gA Z ⟨b,eY C b ((be (by rw[B];simp)).trans (be (by rw[A];simp))),[],zW (zC ⟨⟨_,rfl,.of_eq Z⟩,Yd Z,rfl,⟨_,rfl,.of_eq Z⟩,Yd Z,rfl,ac⟩)⟩
   .have y: ¬(body.getD i io).kind=4:=by simpa using y
    refine gA Z ⟨b,eY C b ((be (by rw[B];simp)).trans (be (fun h=>y h.1))),[],zW (zC ⟨⟨_,rfl,.of_eq Z⟩,Yd Z,rfl,⟨_,rfl,.of_eq Z⟩,Yd Z,rfl,ac⟩)⟩
 .have b:=co b;rw[Yn b]at C;have D:cN (fun occ=>aW occ) (fun occ=>iX (az r) occ) body occ=ok:=by rw[hx1,fU C]
  refine gA Z (zD [] Z (zW (hM Z (by rw[D]) Z ⟨⟨_,rfl,.of_eq Z⟩,Yd Z,rfl,⟨_,rfl,.of_eq Z⟩,Yd Z,rfl,ac⟩)))
theorem wZ:gi .gn (dd (aJ [])):=⟨id,fun M N U w j b=>⟨#[],0,b,⟨rfl,by simp[aJ],by simp[aJ],by simp,by simp⟩,ig M⟩⟩
def b6(r:aq):List aj:=cN (fun b=>aW b) (fun b=>iX (az r) b) r.body []
theorem VT(r:aq)(hb:8*Lit.aA r.body<=100000000000):cj prog 126 [.iv (lits r.body),.mp 0,.dx (.func 227) [.mp 0] [],.dx (.func 228) [] [.ptr 1 0,.ptr 2 0]] [.gn,.cells [.iv (da r)],.cells [.mp 0]] (.bX []) [(0,jp (dd (aJ (b6 r)))),(1,jp (.cells [.iv (da r)])),(2,jp (.cells [.mp 0]))] 3:=
 cj.R3 (W7 r [] r.body (by simp;omega)) ⟨wZ,.refl _,.refl _,ac⟩
theorem d73(r:aq)(hb:8*r.size<=100000000000):cj prog 202 [.iv (da r)] [] (.mp 0) [(0,jp (dd (aJ (b6 r))))] 1:=by
 unfold aq.size at hb;refine aE ab func202 Z (by decide) ntmps202 Z (by simp) ?_;refine gA Z (zd [1,0,2] (VT r (by omega)) ?_);refine gA Z (zD [1] Z (zW (zC ac)))
def Ui(p:List aj->Prop)(q:PV)(h:AH)(n:Nat):Prop:= ∃ok,p ok∧q= .mp 0∧h=[(0,jp (dd (aJ ok)))]∧n=1
def Lz(r:aq)(a:fa)(occ:List aj):Prop:=occ.Nodup∧ ∀x,x∈occ↔x∈bj a∧x∈az r
theorem Ah{l m:List aj}(h:l.Nodup)(hs: ∀x∈l,x∈m):l.length<=m.length:=Zl h hs
theorem nh(a:fa):(bj a).length<=a.size:=by
 have b:=nB a.body;have d:=jL a.ef;unfold bj fa.size;rw[Yg];split
 .rw[ZM];omega
 .omega
theorem Se(a:fa)(hb:a.size<=100000000000):cj prog 196 [ag a.c1] [] (.mp 0) [(0,jp (dd (aJ (bj a))))] 1:=cj.le (d127 a (by omega)) ⟨a.IZ,ac⟩
theorem d161(r:aq)(a:fa)(hb:16*a.size<=100000000000):Al.Fn prog 203 [.iv (da r),ag a.c] [] (Ui fun ok=> ∃occ,Lz r a occ∧ok=cN (fun occ=>aW occ) (fun _=>fun _=>li) a.body occ):=by
 have d0:=nh a;have e0:Lit.aA a.body<=a.size:=by unfold fa.size;omega
 refine Al.Fn.le (args:=[.iv (da r),ag a.c1]) ?_ ⟨.refl _,a.x9,ac⟩;refine yt ab func203 Z (by decide) ntmps203 Z (by simp) ?_;refine gA Z (zq [] (Se a (by omega)) ?_);refine gA Z ?_
 let b:List Nat->List aj:=fun d=>(d.reverse.filterMap fun j=>((aJ (bj a))[j]?).bind fun x=>if ch (az r) x.1 then jp x.1 else kw)
 refine ib (aJ (bj a)) (fun d=>⟨[(0,.iv (da r)),(3,.ptr 0 0),(5,.mp 1),(10,.ptr 3 0)],[(0,jp (ak a.c1)),(1,jp (dd (aJ (b d)))),(3,jp (.b3 .str yw (aJ (bj a)) d kw))],4⟩)
  (fun d=>(b d).Nodup∧ ∀x,x∈b d↔x∈az r∧ ∃j∈d,∃y,(aJ (bj a))[j]? =jp y∧y.1=x) [] ⟨Zd,by simp[b]⟩
  (zW (zK (LD Z ig Z (hI Z Z (.inl Z) Z trivial)))) fun d hJ=>?_
 obtain⟨B,C⟩:=hJ;have f0:(b d).length<=(bj a).length:=Ah B fun x D=>by
  obtain⟨_,j,_,y,h2,rfl⟩:=(C x).1 D;exact w5 h2
 refine ox Z ac (eW Z Z Z Z Z (by decide) (fun S=>?_) fun j x D J=>?_)
 .have a0:Lz r a (b d):=⟨B,fun x=>by
   rw[C];constructor
   .rintro⟨h1,j,h2,y,A,rfl⟩;exact⟨w5 A,h1⟩
   .rintro⟨h1,h2⟩;refine⟨h2,?_⟩;obtain⟨y,hy,rfl⟩:=YP.1 (((cf (bj a)).2 x).2 h1);obtain⟨j,J⟩:=Y9 hy
    exact⟨j,S j (Yj.1 J).1,y,J,rfl⟩⟩
  refine gA Z (zq [1] (W9 (b d) a.body (by omega)) ?_);refine ox Z ac (HC [1] (.inr Z) Z ⟨_,⟨b d,a0,rfl⟩,rfl,rfl,rfl⟩ (zW (zC ac)))
 .have h5:=cY (occ:=az r) (s:=x.1);have h7:=bR (az r) x.1;have h8:=bR (b d) x.1;have h9:=jg (b d) x.1;have F:x.1∉b d:=fun h=>by
   obtain⟨_,i,hi,y,h2,A⟩:=(C x.1).1 h;have c0:=(cf (bj a)).1;have:i=j:=by
    have G:=(Yj.1 h2)
    have I:=(Yj.1 D)
    obtain⟨G,Y⟩:=G;obtain⟨I,b0⟩:=I;refine(aaM (i:=i) (j:=j) (h₀:=by rw[YH];exact G) (h₁:=by rw[YH];exact I) c0).1 ?_;rw[aa1,aa1,Y,b0,A]
   exact J (this▸hi)
  have u:b (j::d)=b d++if ch (az r) x.1 then[x.1] else[]:=by
   simp only[b,List.reverse_cons,abo,aby,List.filterMap_nil,D,abg];congr 1;cases ch (az r) x.1<;>rfl
  have step:(b (j::d)).Nodup∧ ∀z,z∈b (j::d)↔z∈az r∧ ∃i∈j::d,∃y,(aJ (bj a))[i]? =jp y∧y.1=z:=by
   rw[u];constructor
   .split
    .rw[Z2];refine⟨B,Zo.2 ⟨aaL,Zd⟩,fun p hp q hq e=>?_⟩;rw[Yr]at hq;exact F ((e.trans hq)▸hp)
    .rw[Y0];exact B
   .intro z;rw[Ys,C];constructor
    .rintro(⟨h1,i,h2,A⟩|h1)
     .exact⟨h1,i,Yt _ h2,A⟩
     .split at h1
      .rename_i h2;rw[Yr]at h1;exact⟨h1▸aP.1 h2,j,Yy,x,D,h1.symm⟩
      .cases h1
    .rintro⟨h1,i,h2,y,A,h4⟩;rcases Yx.1 h2 with rfl|h2
     .rw[D]at A;cases A;exact .inr (by rw[am (aP.2 (h4▸h1))];simp[h4])
     .exact .inl ⟨h1,i,h2,y,A,h4⟩
  refine zJ Z Z (fun g1=>?_) fun g1=>?_
  .have g1:ch (az r) x.1=lc:=by
    have:=zT g1;rw[h5];simp;omega
   rw[g1,am Z]at u;refine gA Z ⟨j,x,D,J,step,[],zW (zK (hM Z (by rw[u,eh];rfl) Z (hI Z Z (.inr Z) Z ac)))⟩
  .have g1:ch (az r) x.1=li:=by
    have:=zF g1;rw[h5];simp;omega
   rw[g1,be (by simp),Y0]at u;refine gA Z ⟨j,x,D,J,step,[],zW (zK (hM Z (by rw[u]) Z (hI Z Z (.inr Z) Z ac)))⟩
end Go.Proofs.YtflegjieadkonaaGreatDoor
namespace Go.Proofs.YtflegjieadkonaaGreatDoor
open Go Go.Al
def pL(s:aj):List UInt8:=s.data.toList
def Ts(l:List UInt8):aj:=⟨l.toArray⟩
theorem wV(s:aj):Ts (pL s)=s:=by simp[pL,Ts]
theorem Oz(l:List UInt8):pL (Ts l)=l:=by simp[pL,Ts]
def eN(l:List (List UInt8)):List (List UInt8):=l.mergeSort fun x y=>lw (x<=y)
def eR(l:List aj):List aj:=(eN (l.map pL)).map Ts
def fD:Prop:=
 (∀(b b0 a0:Nat) (d:List (List UInt8)) (w:World),Go.Sort.Holds encStr w b b0 d.toArray->b<w.heap.size->d.length<4611686018427387904->
  Calls Tryz.prog 91 #[.slice (jp ⟨b,b0,kw⟩) d.length a0] w fun e j=>
   e= .returned (.tuple #[])∧ ∃n os,j=Go.Sort.grow (Go.Sort.putRow encStr (Go.Sort.ahead w n) b b0 (d.mergeSort fun x y=>lw (x<=y)).toArray) os)∧
 (∀(p:Option Addr) (a0:Nat) (w:World),Calls Tryz.prog 91 #[.slice p 0 a0] w fun e j=>e= .returned (.tuple #[])∧j=w)
theorem jE(l:List aj):(eR l).length=l.length:=by simp[eR,eN]
theorem re:eR []=[]:=by simp[eR,eN]
theorem uV(l:List aj):(eR l).map pL=eN (l.map pL):=by
 unfold eR;rw[Z4];have:pL ∘ Ts=id:=by funext x;exact Oz x
 rw[this,List.map_id]
theorem Dd{l:List aj}{k:Nat}{e:List PV}(h:(l.map fun x=>(cR x).map PV.iv)[k]? =jp e): ∃s,l[k]? =jp s∧e=[pS s]:=by
 rw[Yo,Yq]at h;obtain⟨s,b,rfl⟩:=h;exact⟨s,b,rfl⟩
theorem MD(hS:fD)(l:List aj)(hl:l.length<=1000000000000):cj Tryz.prog 91 [.sl 0 0 l.length 1] [aC 1 l cR] (.bX []) [(0,jp (aC 1 (eR l) cR))] 1:=by
 refine⟨bN Tryz.func91 Z (by decide),fun M N w vs hr G hv=>?_⟩;obtain⟨v,rfl⟩: ∃v,vs=[v]:=by
  cases vs with
  |nil=>cases G
  |cons v r=>cases r with
   |nil=>exact⟨v,rfl⟩
   |cons a b=>simp at G
 have u:=hv 0 _ Z;simp only[List.getD_cons_zero]at u;have m0:=hr.obj 0 _ Z;cases l with
 |nil=>
  have d0:v= .slice kw 0 0:=by
   generalize hq:PV.sl 0 0 ([]:List aj).length 1=q at u;cases u with
   |sl i off len sz a0 h h0 J hc he=>cases hq;simp at h0
   |pQ i sz h=>rfl
   |_=>cases hq
  subst d0;refine(hS.2 kw 0 w).mono ?_;rintro e w' ⟨rfl,rfl⟩;refine⟨_,M,N,.bX [],_,1,rfl,⟨rfl,rfl,rfl⟩,?_,?_,.bX [] #[] Z (by simp)⟩
  .rw[re];exact .refl _ _ _ _ _
  .rw[re];exact hr
 |cons s0 r=>
  generalize hL:s0::r=L at*
  have b0:0<L.length:=by rw[<-hL];simp
  obtain⟨a0,d0⟩: ∃a0,v= .slice (jp ⟨N.aI 0,0,kw⟩) L.length a0:=by
   generalize hn:L.length=n at u b0;generalize hq:PV.sl 0 0 n 1=q at u;cases u with
   |sl i off len sz a0 h h0 J hc he=>cases hq;exact⟨a0,by simp⟩
   |pQ i sz h=>cases hq;omega
   |_=>cases hq
  subst d0;rcases m0 with h0|⟨_,c,T,J,h2,h3,h4,h5⟩
  .rw[<-hL]at h0;cases h0
  rw[YH]at h3;have f0:(aC 1 L cR).real=lc:=by rw[<-hL];rfl
  have c0: ∀j s,L[j]? =jp s->c.getD j undef= .string s:=fun j s F=>by
   have:=h5 j [pS s] 0 (pS s) (by rw[Yo,F];rfl) Z;rw[aba,aaw]at this;generalize c.getD j undef=y at this ⊢;cases this with
   |iv _ _ h=>cases h;rfl
  have k0:=hr.lt (i:=0) Z f0;have j0:(L.map pL).length=L.length:=by simp
  have hH:Go.Sort.Holds encStr w (N.aI 0) 0 (L.map pL).toArray:=by
   intro j F;have g0:j<L.length:=by simpa using F
   have e0:j<c.size:=by omega
   have:=c0 j L[j] (Yi g0);rw[Yf,Zb e0,ZG]at this;constructor
   .simp only[World.cell?,J,YC,Option.isSome_none,ZH,if_false];rw[Zb e0,this,getElem!_pos _ j F];simp[encStr,pL]
   .simp[World.frozen?,J]
  have B:=hS.1 (N.aI 0) 0 a0 (L.map pL) w hH k0 (by omega);rw[j0]at B;refine B.mono ?_;rintro e w' ⟨rfl,n,os,rfl⟩
  let I:=Go.Sort.putRow encStr (Go.Sort.ahead w n) (N.aI 0) 0 ((L.map pL).mergeSort fun x y=>lw (x<=y)).toArray
  have S:(eN (L.map pL)).length=L.length:=by simp[eN]
  have A:Ext M N (· <1) (fA 0 [aC 1 L cR]) w M N (· <1) ((0,jp (aC 1 (eR L) cR))::fA 0 [aC 1 L cR]) I∧Rel M N (· <1) ((0,jp (aC 1 (eR L) cR))::fA 0 [aC 1 L cR]) I:=by
   refine hr.write (i:=0) (o0:=aC 1 L cR) Z f0 I (aC 1 (eR L) cR) Z Z Z ?_ ?_ ?_
   .show(Go.Sort.putRow _ _ _ _ _).heap.size=_;rw[Go.Sort.size_putRow];rfl
   .intro b hb;show((w.heap.modify (N.aI 0) _))[b]? =_;rw[Za,be (fun e=>hb e.symm)]
   .refine .inr ⟨Nat.one_pos,Go.Sort.putCells encStr 0 (eN (L.map pL)).toArray c,T,?_,?_,?_,?_,?_⟩
    .show((w.heap.modify (N.aI 0) _))[N.aI 0]? =_;rw[Za,am Z,J];rfl
    .simp[Go.Sort.putCells,h2]
    .rw[YH,jE];simp[Go.Sort.putCells];omega
    .intro k e he;obtain⟨s,_,rfl⟩:=Dd he;rfl
    .intro k e j p he hp;obtain⟨s,hs,rfl⟩:=Dd he;have F:j=0:=by
      rcases j with _|j
      .rfl
      .simp at hp
     subst F;cases hp;have hk:k<L.length:=by
      have:=(Yj.1 hs).1;rwa[jE]at this
     have n0:(eN (L.map pL))[k]? =jp (pL s):=by
      rw[<-uV,Yo,hs];rfl
     have i0:k<c.size:=by omega
     have Y:(Go.Sort.putCells encStr 0 (eN (L.map pL)).toArray c).getD (k*1+0) undef= .string s:=by
      rw[aba,aaw,Yf];simp only[Go.Sort.putCells,Array.getElem?_mapIdx];rw[Zb i0,Zg,ZG,am ⟨Yl _,by simp[S];omega⟩,Nat.sub_zero];rw[getElem!_pos _ k (by simp[S];omega)];have h9:(eN (L.map pL)).toArray[k]'(by simp[S];omega)=pL s:=by
       rw[List.getElem_toArray];exact(Yj.1 n0).2
      rw[h9];simp[encStr,pL]
     rw[Y];exact .iv _ _ (.v _)
  have C:Rel M N (· <1) ((0,jp (aC 1 (eR L) cR))::fA 0 [aC 1 L cR]) (Go.Sort.grow I os):=A.2.more fun b hb=>by
   show(I.heap++os)[b]? =_;rw[Zr hb]
  have p0:I.heap.size=w.heap.size:=by
   show(Go.Sort.putRow _ _ _ _ _).heap.size=_;rw[Go.Sort.size_putRow];rfl
  have d: ∀i o,AH.get [(0,jp (aC 1 (eR L) cR))] i=jp o->AH.get ((0,jp (aC 1 (eR L) cR))::fA 0 [aC 1 L cR]) i=jp o:=by
   intro i o h;rw[AH.aw]at h ⊢;split at h
   .rename_i h6;rw[am h6];exact h
   .simp[AH.get]at h
  refine⟨_,M,N,.bX [],_,1,rfl,⟨rfl,rfl,rfl⟩,⟨A.1.os,A.1.tape,A.1.output,?_,?_,.refl _,fun b c J h2=>(nomatch (J.symm.trans h2)),.refl _ _,fun _ h=>h,fun i o D=>A.1.jq i o (d i o D)⟩,?_,.bX [] #[] Z (by simp)⟩
  .show w.heap.size<=(Go.Sort.grow I os).heap.size;rw[Go.Sort.size_grow,p0];omega
  .intro b hb hn;have h7:=A.1.jO b hb hn;show(I.heap++os)[b]? =_;rw[Zr (by omega)];exact h7
  .exact⟨C.dT,fun i o D=>C.used i o (d i o D),fun i o D=>C.fk i o (d i o D),fun i o D=>C.obj i o (d i o D),fun i j o p D F=>C.inj i j o p (d i o D) (d j p F)⟩
end Go.Proofs.YtflegjieadkonaaGreatDoor
namespace Go.Proofs.YtflegjieadkonaaGreatDoor
open Go Go.Al Go.Proofs.Tryz
theorem gG(l:List (List UInt8)):(eN l).Perm l:=List.mergeSort_perm _ _
theorem ky(l:List (List UInt8)):(eN l).Pairwise (fun x y=>lw (x<=y)=lc):=
 List.pairwise_mergeSort (le:=fun x y=>lw (x<=y)) (fun a b c d j=>by simp only[decide_eq_true_eq] at*;exact List.le_trans d j)
  (fun a b=>by
   rcases List.le_total a b with h|h
   .simp[h]
   .simp[h]) l
theorem Ij{a b:List (List UInt8)}(h:a.Perm b)(ha:a.Pairwise (fun x y=>lw (x<=y)=lc))(hb:b.Pairwise (fun x y=>lw (x<=y)=lc)):a=b:=
 List.Perm.eq_of_pairwise (fun x y _ _ d j=>abh (zT d) (zT j)) ha hb h
theorem sN{a b:List aj}(h:a.Perm b):eR a=eR b:=by
 unfold eR;rw[Ij (((gG _).trans (h.map pL)).trans (gG _).symm) (ky _) (ky _)]
theorem db{x:aj}{l:List aj}:x∈eR l↔x∈l:=by
 unfold eR;rw[YP];constructor
 .rintro⟨b,hb,rfl⟩;obtain⟨s,d,rfl⟩:=YP.1 ((gG _).mem_iff.1 hb);rwa[wV]
 .intro h;exact⟨pL x,(gG _).mem_iff.2 (YP.2 ⟨x,h,rfl⟩),wV x⟩
def ju(m:NM)(vs:List Nat):List aj:=vs.reverse.filterMap fun j=>(m[j]?).map (·.1)
theorem nC(m:NM)(vs:List Nat)(j:Nat)(x:(KC.str).K×Int)(h:m[j]? =jp x):ju m (j::vs)=ju m vs++ [x.1]:=by
 simp[ju,abo,h]
theorem yb(m:NM)(vs:List Nat):(ju m vs).length<=vs.length:=by
 unfold ju;have:=List.length_filterMap_le (fun j=>(m[j]?).map (·.1)) vs.reverse;rwa[List.length_reverse]at this
theorem BU(m:NM):(Yv m.length).filterMap (fun j=>(m[j]?).map (·.1))=m.map (·.1):=by
 apply ZS;intro k;have h:(Yv m.length).filterMap (fun j=>(m[j]?).map (·.1))=(Yv m.length).map (fun j=>(m.getD j (Yp,0)).1):=by
  rw[show(fun j=>(m.getD j (Yp,0)).1)=fun j=>(m.getD j (Yp,0)).1 from rfl];have key: ∀l:List Nat,(∀j∈l,j<m.length)->l.filterMap (fun j=>(m[j]?).map (·.1))=l.map (fun j=>(m.getD j (Yp,0)).1):=by
   intro l
   induction l with
   |nil=>simp
   |cons j r ih=>
    intro h;have b:=h j Yy;rw[aby,Yi b,ih fun k d=>h k (Yt _ d)];simp[b]
  exact key _ fun j b=>YM.1 b
 rw[h];by_cases d:k<m.length
 .simp[d]
 .simp[d]
theorem mJ(m:NM)(vs:List Nat)(hn:vs.Nodup)(hb: ∀j∈vs,j<m.length)(b: ∀j,j<m.length->j∈vs):(ju m vs).Perm (m.map (·.1)):=by
 rw[<-BU];unfold ju;apply List.Perm.filterMap;refine(List.reverse_perm _).trans ?_;rw[List.perm_ext_iff_of_nodup hn List.nodup_range];intro j;rw[YM];exact⟨hb j,b j⟩
def fu(m:NM):List aj:=eR (m.map (·.1))
theorem xT{vs:List Nat}{n:Nat}(h:vs.Nodup)(hb: ∀j∈vs,j<n):vs.length<=n:=by
 have:=Zl h (l₂:=Yv n) fun j b=>YM.2 (hb j b);rwa[aah]at this
theorem xG(σ:Nat->Nat)(l:List aj):(l.map fun x=>(cR x).map PV.iv).map (dZ σ)=l.map fun x=>(cR x).map PV.iv:=by
 simp only[Z4,cR,Yz,Y7];rfl
theorem c51(F:fD)(m:NM)(hm:m.length<=100000000):Pure prog 112 [.iv (tD m)] (.iv (strs (fu m))):=by
 refine ad ab func112 Z (by decide) ntmps112 Z (by simp) Z ?_;refine gA Z ?_;refine dF 3 1 Z ?_;refine ib m (fun b=>⟨[(3,.sl 2 0 (ju m b).length 1),(6,.ptr 0 0)],[(0,jp (.b3 .str yw m b kw)),(2,jp (aC 1 (ju m b) cR))],3⟩) (fun b=>b.Nodup∧ ∀j∈b,j<m.length) [1] ⟨Zd,by simp⟩
  (zW (hI Z Z (.inl Z) Z (zS trivial))) fun b D=>?_
 obtain⟨d,u⟩:=D;have J:=xT d u;have I:=yb m b;refine ox Z ac (eW Z Z Z Z Z (by decide) (fun y=>?_) fun j x A B=>?_)
 .refine ox Z ac (iO [2] (MD F (ju m b) (by omega)) Z Z Z Z Z (congrArg (fun o=> [jp o]) (bA _).symm) Z Z ?_);refine ox Z ac (cG (.inr Z) Z Z ((xG _ _).trans (by rw[fu,sN (mJ m b d u y)])) ?_);rw[fu,jE,<-(mJ m b d u y).length_eq]
 .have C:=nC m b j x A;refine gA Z ⟨j,x,A,B,⟨Zo.2 ⟨B,d⟩,fun i G=>(Yx.1 G).elim (fun h=>h▸(Yj.1 A).1) (u i)⟩,[4],zM ⟨.row (by rw[C,Yg];rfl),rfl,bv ac⟩ (hI Z Z (.inr Z) Z (hR Z (by rw[C,Yk];rfl) Z ac))⟩
theorem Pm{P:Program}{k:FuncId}{kc:KC}{V:Type}{e:V->IV}{z:V}{F:Value}{G:PV->V}{m:List (kc.K×V)}{y:IV}(h:Al.Pure P k [.iv (.fF kc e z F m)] (.iv y)):cj P k [.mp 0] [.map kc e z F G m] (.iv y) [] 1:=by
 refine⟨h.1,fun M N w D Y S hv=>?_⟩;obtain⟨u,B,I,h3,J⟩:=uy (n:=1) Y (i:=0) Z;have A:Rel u N (· <0) (fA 0 []) w:=⟨I.dT,fun i o d=>(nomatch d),fun i o d=>(nomatch d),fun i o d=>(nomatch d),fun i j o p d=>(nomatch d)⟩
 refine(h.2 u N w D A S fun j p C=>?_).mono ?_
 .cases j with
  |zero=>
   cases C;have:=J _ _ (hv 0 _ Z);generalize D.getD 0 undef=x at this ⊢;cases this with
   |iv _ _ h=>exact .iv _ _ h
  |succ j=>cases C
 .rintro _ w' ⟨x,M',N',r,h',n',rfl,⟨rfl,rfl,rfl⟩,hx,hrr,hvr⟩;refine⟨x,M',N,.iv y,[],1,rfl,⟨rfl,rfl,rfl⟩,?_,⟨hrr.dT,fun i o d=>(nomatch d),fun i o d=>(nomatch d),fun i o d=>(nomatch d),fun i j o p d=>(nomatch d)⟩,?_⟩
  .refine⟨hx.os,hx.tape,hx.output,hx.size,fun b hb hn=>hx.jO b hb fun i o d=>(nomatch d),B.r6.trans hx.r6,fun b c g1 g2=>?_,.refl _ _,fun _ h=>h,fun i o d=>(nomatch d)⟩;cases g3:u b with
   |some c'=>exact B.kn b c' g1 g3
   |none=>
    rcases hx.kn b c g3 g2 with g4|⟨i,o,g4,_⟩
    .exact .inl g4
    .exact nomatch g4
  .cases hvr with
   |iv _ _ h=>exact .iv _ _ h
theorem Xi(b:fD)(m:NM)(hm:m.length<=100000000):cj prog 112 [.mp 0] [dd m] (.iv (strs (fu m))) [] 1:=Pm (c51 b m hm)
theorem wc: ∀{m:NM} (_:(m.map (·.1)).Nodup) (k:aj),pO .str m k=m.filter fun x=>!lw (x.1=k)
 | [],_,k=>rfl
 |(a,b)::r,h,k=>by
  rw[Yz,Zo]at h;by_cases d:a=k
  .subst d;have:r.filter (fun x=>!lw (x.1=a))=r:=abz.2 fun x j=>by
    have:x.1≠a:=fun e=>h.1 (e▸YP.2 ⟨x,j,rfl⟩);simp[this]
   simp[pO,this]
  .have u:=wc h.2 k;simp[pO,d,u]
theorem rZ{m:NM}{p:(KC.str).K×Int->Bool}(h:(m.map (·.1)).Nodup):((m.filter p).map (·.1)).Nodup:=h.sublist ((aaR).map _)
theorem qI: ∀(d:List aj) {m:NM} (_:(m.map (·.1)).Nodup),d.foldl (fun m k=>pO .str m k) m=m.filter fun x=>!ch d x.1
 | [],m,h=>(abz.2 fun _ _=>rfl).symm
 |k::r,m,h=>by
  rw[YN,wc h,qI r (rZ h),List.filter_filter];congr 1
  funext x
  by_cases b:x.1=k
  .simp[ch,b]
  .have: ¬k=x.1:=fun e=>b e.symm
   simp[ch,b,this]
def lR(r:aq)(a:fa):NM:=(aJ (bj a)).filter fun x=>!ch (az r) x.1
theorem mD(l:List aj):(aJ l).length<=l.length:=by
 have h:=cf l;have:=Ah h.1 fun x b=>(h.2 x).1 b;rwa[YH]at this
theorem d79(r:aq)(a:fa)(hb:a.size<=100000000000):cj prog 191 [.iv (da r),ag a.c] [] (.mp 0) [(0,jp (dd (lR r a)))] 1:=by
 refine cj.le (args:=[.iv (da r),ag a.c1]) ?_ ⟨.refl _,a.x9,ac⟩;have G:=nh a;have A:=(cf (bj a)).1;refine aE ab func191 Z (by decide) ntmps191 Z (by simp) ?_;refine gA Z (zq [] (Se a (by omega)) ?_);refine gA Z ?_;refine ib (aJ (az r)) (fun b=>⟨[(5,.mp 1),(13,.ptr 2 0)],[(1,jp (dd ((ju (aJ (az r)) b).foldl (fun m k=>pO .str m k) (aJ (bj a))))),(2,jp (.b3 .str yw (aJ (az r)) b kw))],3⟩)
  (fun b=>b.Nodup∧ ∀j∈b,j<(aJ (az r)).length) [] ⟨Zd,by simp⟩
  (zW (zC (hI Z Z (.inl Z) Z trivial))) fun b F=>?_
 obtain⟨d,u⟩:=F;refine ox Z ac (eW Z Z Z Z Z (by decide) (fun y=>?_) fun j x C D=>?_)
 .have B:(ju (aJ (az r)) b).foldl (fun m k=>pO .str m k) (aJ (bj a))=lR r a:=by
   rw[qI _ A];unfold lR;congr 1
   funext x
   congr 1;rw[YU,aP,aP,(mJ _ b d u y).mem_iff];exact(cf (az r)).2 x.1
  rw[B];refine gA Z (zD [1] Z (zW (zC ac)))
 .have J:=nC (aJ (az r)) b j x C;refine gA Z ⟨j,x,C,D,⟨Zo.2 ⟨D,d⟩,fun i I=>(Yx.1 I).elim (fun h=>h▸(Yj.1 C).1) (u i)⟩,[],zW (hM Z (by rw[J,Z7];rfl) Z (hI Z Z (.inr Z) Z ac))⟩
theorem we{may:List aj->Expr->Bool}{more:List aj->fa->Bool}{body:List Lit}: ∀(n:Nat) (occ:List aj),(dV may more body n occ).length<=occ.length+n
 |0,occ=>Ym _
 |n+1,occ=>by
  cases h:cK (may occ) (more occ) occ body with
  |none=>rw[fU h];omega
  |some v=>
   rw[fS h];have:=we (may:=may) (more:=more) (body:=body) n (occ++ [v]);rw[Yg,YY]at this;omega
theorem wi{may:List aj->Expr->Bool}{more:List aj->fa->Bool}{body:List Lit}(occ:List aj):(cN may more body occ).length<=occ.length+4*Lit.aA body+1:=by
 have b:=we (may:=may) (more:=more) (body:=body) (3*body.length+1) (occ++body.flatMap bK);have d:=gT body;have j:=Lit.ax body;rw[Yg]at b;unfold cN;omega
theorem FN(r:aq):(b6 r).length<=4*Lit.aA r.body+1:=by
 have:=wi (may:=fun b=>aW b) (more:=fun b=>iX (az r) b) (body:=r.body) [];rw[ZM]at this;unfold b6;omega
def rV(r:aq):List aj:=cN (fun b=>c7 b) (fun _=>fun _=>li) r.body []
theorem Iz(r:aq):(rV r).length<=4*Lit.aA r.body+1:=by
 have:=wi (may:=fun b=>c7 b) (more:=fun _=>fun _=>li) (body:=r.body) [];rw[ZM]at this;unfold rV;omega
theorem VU(r:aq)(hb:8*Lit.aA r.body<=100000000000):cj prog 126 [.iv (lits r.body),.mp 0,.dx (.func 127) [] [.ptr 1 0],.dx (.func 128) [] []] [.gn,.cells [.mp 0]] (.bX []) [(0,jp (dd (aJ (rV r)))),(1,jp (.cells [.mp 0]))] 2:=
 cj.R3 (W8 [] r.body (by simp;omega)) ⟨wZ,.refl _,ac⟩
theorem c33(b:fD)(r:aq)(hb:r.size<=10000000):Pure prog 98 [ag r.c] (.iv (strs (fu (aJ (rV r))))):=by
 have d:=mD (rV r);have j:=Iz r;have u:Lit.aA r.body<=r.size:=ZX _ _;refine ad ab func98 Z (by decide) ntmps98 Z (by simp) Z ?_;refine gA Z ?_;refine gA Z (zq [1,2] (VU r (by omega)) ?_);refine gA Z (zq [1] (Xi b (aJ (rV r)) (by omega)) ?_);exact zU Z
def ti(r:aq)(lit:Int):List aj:=if lit<0∨(r.body.length:Int)<=lit∨ ¬(ah r lit).kind=4 then[] else fu (lR r (ah r lit).agg)
theorem vC{P:Program}{k:FuncId}{args:List PV}{os:List AO}{r:PV}{h:AH}{n0:Nat}(hc:oL P k){n:Nat}(hn: ∃sz el,PV.iv (.dp sz n el)∈args)(hh:n<=maxLen->cj P k args os r h n0):cj P k args os r h n0:=L6 hc hn hh
def tn{α:Type}(p:α->Bool)(l:List α):Int:=match l.findIdx? p with
 |some i=>i
 |none=> -1
theorem iC{α:Type}{p:α->Bool}{l:List α}(h:l.any p=li):tn p l= -1:=by
 have:l.findIdx? p=kw:=by
  rw[aaO];intro x b;have:=Y5.1 h x b;simpa using this
 rw[tn,this]
theorem jd{α:Type}[Inhabited α]{p:α->Bool}{l:List α}{i:Nat}(h:(l.take i).any p=li)(hi:i<l.length)(hp:p (l.getD i io)=lc):tn p l=i:=by
 have:l.findIdx? p=jp i:=by
  rw[aay];have b:l.getD i io=l[i]:=by simp[hi]
  refine⟨hi,b▸hp,fun j d=>?_⟩;have:=Y5.1 h l[j] (List.mem_iff_getElem?.2 ⟨j,by rw[Zi,am d,Yi (by omega)]⟩);simpa using this
 rw[tn,this]
theorem j5{α:Type}(p:α->Bool)(l:List α):lw (tn p l>=0)=l.any p:=by
 unfold tn;cases h:l.findIdx? p with
 |none=>
  have:=aaO.1 h;have:l.any p=li:=Y5.2 fun x j=>by simp[this x j]
  rw[this];rfl
 |some i=>
  obtain⟨b,d,_⟩:=aay.1 h;rw[Y8.2 ⟨_,YZ b,d⟩];simp
theorem Fw{a b:Int}(h:a=b):pI a=pI b:=by rw[h]
theorem XN(x:Int):Pure prog 155 [pI x] (pB (!lw (x=1)&&!lw (x=2))):=by
 refine ad ab func155 Z (by decide) ntmps155 Z (by simp) Z ?_
 repeat' (first|(refine gA Z (zI (fun _=>?_) (fun _=>?_)))|(refine gA Z (zL (.of_eq ?_))))
 all_goals(refine(fx ?_:pB _=pB _);simp_all)
theorem XM(t:Term):Pure prog 194 [ag t.c] (pB (lw (t.kind=3))):=by
 refine ad ab func194 Z (by decide) ntmps194 Z (by simp) Z ?_;exact zU Z
theorem XL(t:Lit):Pure prog 195 [ag t.c] (pB (lw (t.kind=4))):=by
 refine ad ab func195 Z (by decide) ntmps195 Z (by simp) Z ?_;exact zU Z
def dy(v:tE):Int:=if v.kind=1 then(if v.sym=Yp∧ -2147483647<=v.num∧v.num<=2147483647 then 0 else 20) else if v.kind=2 then(if v.num=0∧v.sym.size<=64 then 0 else 20) else 20
theorem XR(v:tE):Pure prog 261 [ag v.c] (pI (dy v)):=by
 refine ad ab func261 Z (by decide) ntmps261 Z (by simp) Z ?_
 repeat' (first|(refine gA Z (zI (fun _=>?_) (fun _=>?_)))|(refine gA Z (zL (.of_eq ?_))))
 all_goals(refine(Fw ?_:pI _=pI _);have hE:(⟨#[]⟩:ByteArray)=Yp:=rfl;simp_all [dy];try omega)
def Decl.z:Decl:=⟨Yp,[],⟨0,0⟩⟩
def HK(d:Decl):IV:= .agg d.c
def Mn:Value:= .agg #[.string Yp,.slice kw 0 0,.int .i64 0,.int .i64 0]
def intOf:List IV->Int
 | [.v (.int .i64 n)]=>n
 |_=>0
def W2:PV->Decl
 | .agg [.iv (.v (.string s)),.iv (.dp _ n el),.iv (.v (.int _ a)),.iv (.v (.int _ b))]=>⟨s,(Yv n).map fun k=>intOf (el k),⟨a,b⟩⟩
 |_=>Decl.z
abbrev DM:=List ((KC.str).K×Decl)
abbrev Sb(m:DM):AO:= .map .str HK Decl.z Mn W2 m
abbrev VQ(m:DM):IV:= .fF .str HK Decl.z Mn m
theorem Sa(d:Decl):W2 (ag d.c)=d:=by
 show(⟨d.name,(Yv d.types.length).map fun k=>intOf (aY (d.types.getD k io)),⟨d.at_.line,d.at_.HN⟩⟩:Decl)=d;have:(Yv d.types.length).map (fun k=>intOf (aY (d.types.getD k io)))=d.types:=by
  apply ZS;intro k;by_cases b:k<d.types.length
  .simp[b,intOf,aY]
  .simp[b]
 rw[this]
theorem Mm: ∀M,IR M (HK Decl.z) Mn:=fun M=>by
 refine .agg _ _ Z fun j p b=>?_
 match j,b with
 |0,b=>cases b;exact .v _
 |1,b=>cases b;exact .lz _ _ _ _
 |2,b=>cases b;exact .v _
 |3,b=>cases b;exact .v _
 |j+4,b=>simp[Decl.c]at b
theorem agI(l:List IV):aG (ag l) (.iv (.agg l)):=by
 intro M N U x h;generalize b:ag l=q at h;cases h with
 |agg cs ys hl hr=>
  cases b;refine .iv _ _ (.agg _ _ (by simpa using hl) fun j p d=>?_);have:=hr j (.iv p) (by rw[Yo,d];rfl);generalize ys.getD j undef=y at this ⊢;cases this with
  |iv _ _ h=>exact h
 |_=>cases b
theorem Mo(d:Decl):aG (ag d.c) (.iv (HK (W2 (ag d.c)))):=by rw[Sa];exact agI _
def iw(m:DM)(d:Decl):DM:=if ej .str m d.name=lc then m else ck .str m d.name d
def zV(p:Prog):DM:=p.aB.foldl iw []
abbrev dr(p:Prog):IV:=VQ (zV p)
theorem xL{V:Type}: ∀(m:List ((KC.str).K×V)) (k:aj) (v:V),(ck .str m k v).length<=m.length+1
 | [],_,_=>by simp[ck]
 |(a,b)::r,k,v=>by
  have:=xL r k v;simp only[ck];split
  .simp
  .simp only[YT];omega
theorem d50(p:Prog)(hb:p.aB.length<=1000000000000):cj prog 124 [ag p.c] [] (.mp 0) [(0,jp (Sb (zV p)))] 1:=by
 refine aE ab func124 Z (by decide) ntmps124 Z (by simp) ?_;refine gA Z ?_;refine ar 0 p.aB.length (Yl _) (fun i=>⟨[(3,.mp 1),(13,.iv (cT 4 p.aB Decl.c)),(14,pI p.aB.length),(15,pI i)],[(1,jp (Sb ((p.aB.take i).foldl iw [])))],2⟩) (fun _=>True) [] ac
  (zW (LD Z Mm Z trivial)) fun i x _=>?_
 refine zJ Z Z (fun d=>?_) fun d=>?_
 .have d:=ci d;have u:=cF (g:=iw) (b:=[]) d;refine zJ Z Z (fun j=>?_) fun j=>?_
  .have j:ej .str ((p.aB.take i).foldl iw []) (p.aB.getD i io).name=li:=by simpa using j
   rw[iw,be (by rw[j];simp)]at u;refine ox Z ?_ ?_
   .repeat' (first|exact ac|exact rfl|exact Mo _|exact aG.refl _|apply YW)
    all_goals omega
   exact⟨d,ac,[],zW (hM Z (by rw[u,<-Sa (p.aB.getD i io)];rfl) Z ac)⟩
  .have j:ej .str ((p.aB.take i).foldl iw []) (p.aB.getD i io).name=lc:=by simpa using j
   rw[iw,am j]at u;refine gA Z ⟨d,ac,[],zW (hM Z (by rw[u]) Z ac)⟩
 .have d:=co d;rw[Yn d];refine gA Z (zD [1] Z (zW (zC ac)))
def lZ(p:Prog)(a:Atom):Bool:=!ej .str (zV p) a.rel
def ik(p:Prog)(s:aj):Decl:=bY .str (zV p) s Decl.z
def nn(p:Prog)(a:Atom):Bool:=!lw ((a.ae.length:Int)=((ik p a.rel).types.length:Int))
theorem d113(p:Prog)(a:Atom):cj prog 163 [ag a.c,.ptr 0 0] [.cells [.iv (dr p)]] (pB (lZ p a)) [(0,jp (.cells [.iv (dr p)]))] 1:=by
 refine aE ab func163 Z (by decide) ntmps163 Z (by simp) ?_;refine gA Z (zD [] Z (zM ⟨.of_eq Z,rfl,ac⟩ (zO ac)))
theorem d115(p:Prog)(a:Atom):cj prog 165 [ag a.c,.ptr 0 0] [.cells [.iv (dr p)]] (pB (nn p a)) [(0,jp (.cells [.iv (dr p)]))] 1:=by
 refine aE ab func165 Z (by decide) ntmps165 Z (by simp) ?_;refine gA Z (zD [] Z (zM ⟨.of_eq Z,rfl,ac⟩ (zO ac)))
theorem i187(l:List Int):cj prog 186 [.iv (cT 1 l aY),.dx (.func 155) [] []] [] (pI (tn (fun x=>!lw (x=1)&&!lw (x=2)) l)) [] 0:=by
 refine vC (bN func186 Z (by decide)) ⟨_,_,Yy⟩ fun j=>?_;simp only[maxLen]at j;refine aE ab func186 Z (by decide) ntmps186 Z (by simp) ?_;refine gA Z ?_
 refine ar 0 l.length (Yl _) (fun i=>⟨[(0,.iv (cT 1 l aY)),(1,.dx (.func 155) [] []),(7,pI l.length),(8,pI i)],[],0⟩) (fun i=>(l.take i).any (fun x=>!lw (x=1)&&!lw (x=2))=li) [] (by simp)
  (zW trivial) fun i y u=>?_
 refine zJ Z Z (fun b=>?_) fun b=>?_
 .have b:=ci b;refine gA Z (zp (XN (l.getD i io)) ?_);refine zJ Z Z (fun d=>?_) fun d=>?_
  .have d:(fun x=>!lw (x=1)&&!lw (x=2)) (l.getD i io)=lc:=d;rw[jd u b d];refine gA Z (zD [] Z (zW ac))
  .have d:(fun x=>!lw (x=1)&&!lw (x=2)) (l.getD i io)=li:=d;refine gA Z ⟨b,(a7 u b).2 d,[],zW ac⟩
 .have b:=co b;rw[iC (any_none u b)];refine gA Z (zD [] Z (zW ac))
theorem d153(l:List Int):cj prog 154 [.iv (cT 1 l aY),.dx (.func 155) [] []] [] (pB (l.any (fun x=>!lw (x=1)&&!lw (x=2)))) [] 0:=by
 refine aE ab func154 Z (by decide) ntmps154 Z (by simp) ?_;refine gA Z (zq [] (i187 l) ?_);refine gA Z (zD [] Z (zM ⟨.of_eq (fx (j5 _ l)),rfl,ac⟩ ac))
theorem i191(l:List Term):cj prog 224 [.iv (cT 5 l Term.c),.dx (.func 194) [] []] [] (pI (tn (fun x:Term=>lw (x.kind=3)) l)) [] 0:=by
 refine vC (bN func224 Z (by decide)) ⟨_,_,Yy⟩ fun j=>?_;simp only[maxLen]at j;refine aE ab func224 Z (by decide) ntmps224 Z (by simp) ?_;refine gA Z ?_
 refine ar 0 l.length (Yl _) (fun i=>⟨[(0,.iv (cT 5 l Term.c)),(1,.dx (.func 194) [] []),(7,pI l.length),(8,pI i)],[],0⟩) (fun i=>(l.take i).any (fun x:Term=>lw (x.kind=3))=li) [] (by simp)
  (zW trivial) fun i y u=>?_
 refine zJ Z Z (fun b=>?_) fun b=>?_
 .have b:=ci b;refine gA Z (zp (XM (l.getD i io)) ?_);refine zJ Z Z (fun d=>?_) fun d=>?_
  .have d:(fun x:Term=>lw (x.kind=3)) (l.getD i io)=lc:=d;rw[jd u b d];refine gA Z (zD [] Z (zW ac))
  .have d:(fun x:Term=>lw (x.kind=3)) (l.getD i io)=li:=d;refine gA Z ⟨b,(a7 u b).2 d,[],zW ac⟩
 .have b:=co b;rw[iC (any_none u b)];refine gA Z (zD [] Z (zW ac))
theorem d157(l:List Term):cj prog 193 [.iv (cT 5 l Term.c),.dx (.func 194) [] []] [] (pB (l.any (fun x:Term=>lw (x.kind=3)))) [] 0:=by
 refine aE ab func193 Z (by decide) ntmps193 Z (by simp) ?_;refine gA Z (zq [] (i191 l) ?_);refine gA Z (zD [] Z (zM ⟨.of_eq (fx (j5 _ l)),rfl,ac⟩ ac))
theorem i192(l:List Lit):cj prog 130 [.iv (cT 30 l Lit.c),.dx (.func 195) [] []] [] (pI (tn (fun x:Lit=>lw (x.kind=4)) l)) [] 0:=by
 refine vC (bN func130 Z (by decide)) ⟨_,_,Yy⟩ fun j=>?_;simp only[maxLen]at j;refine aE ab func130 Z (by decide) ntmps130 Z (by simp) ?_;refine gA Z ?_
 refine ar 0 l.length (Yl _) (fun i=>⟨[(0,.iv (cT 30 l Lit.c)),(1,.dx (.func 195) [] []),(7,pI l.length),(8,pI i)],[],0⟩) (fun i=>(l.take i).any (fun x:Lit=>lw (x.kind=4))=li) [] (by simp)
  (zW trivial) fun i y u=>?_
 refine zJ Z Z (fun b=>?_) fun b=>?_
 .have b:=ci b;refine gA Z (zp (XL (l.getD i io)) ?_);refine zJ Z Z (fun d=>?_) fun d=>?_
  .have d:(fun x:Lit=>lw (x.kind=4)) (l.getD i io)=lc:=d;rw[jd u b d];refine gA Z (zD [] Z (zW ac))
  .have d:(fun x:Lit=>lw (x.kind=4)) (l.getD i io)=li:=d;refine gA Z ⟨b,(a7 u b).2 d,[],zW ac⟩
 .have b:=co b;rw[iC (any_none u b)];refine gA Z (zD [] Z (zW ac))
theorem d159(l:List Lit):cj prog 101 [.iv (cT 30 l Lit.c),.dx (.func 195) [] []] [] (pB (l.any (fun x:Lit=>lw (x.kind=4)))) [] 0:=by
 refine aE ab func101 Z (by decide) ntmps101 Z (by simp) ?_;refine gA Z (zq [] (i192 l) ?_);refine gA Z (zD [] Z (zM ⟨.of_eq (fx (j5 _ l)),rfl,ac⟩ ac))
theorem VD(p:Prog)(l:List Atom):cj prog 192 [.iv (cT 2 l Atom.c),.dx (.func 163) [] [.ptr 0 0]] [.cells [.iv (dr p)]] (pI (tn (fun x:Atom=>lZ p x) l)) [(0,jp (.cells [.iv (dr p)]))] 1:=by
 refine vC (bN func192 Z (by decide)) ⟨_,_,Yy⟩ fun j=>?_;simp only[maxLen]at j;refine aE ab func192 Z (by decide) ntmps192 Z (by simp) ?_;refine gA Z ?_
 refine ar 0 l.length (Yl _) (fun i=>⟨[(0,.iv (cT 2 l Atom.c)),(1,.dx (.func 163) [] [.ptr 0 0]),(7,pI l.length),(8,pI i)],[(0,jp (.cells [.iv (dr p)]))],1⟩) (fun i=>(l.take i).any (fun x:Atom=>lZ p x)=li) [] (by simp)
  (zW (zO trivial)) fun i y u=>?_
 refine zJ Z Z (fun b=>?_) fun b=>?_
 .have b:=ci b;refine gA Z (zq [0] (d113 p (l.getD i io)) ?_);refine zJ Z Z (fun d=>?_) fun d=>?_
  .have d:(fun x:Atom=>lZ p x) (l.getD i io)=lc:=d;rw[jd u b d];refine gA Z (zD [] Z (zW (zO ac)))
  .have d:(fun x:Atom=>lZ p x) (l.getD i io)=li:=d;refine gA Z ⟨b,(a7 u b).2 d,[],zW (zO ac)⟩
 .have b:=co b;rw[iC (any_none u b)];refine gA Z (zD [] Z (zW (zO ac)))
theorem V0(p:Prog)(l:List Atom):cj prog 161 [.iv (cT 2 l Atom.c),.dx (.func 163) [] [.ptr 0 0]] [.cells [.iv (dr p)]] (pB (l.any (fun x:Atom=>lZ p x))) [(0,jp (.cells [.iv (dr p)]))] 1:=by
 refine aE ab func161 Z (by decide) ntmps161 Z (by simp) ?_;refine gA Z (zq [0] (VD p l) ?_);refine gA Z (zD [] Z (zM ⟨.of_eq (fx (j5 _ l)),rfl,ac⟩ (zO ac)))
theorem VC(p:Prog)(l:List Atom):cj prog 192 [.iv (cT 2 l Atom.c),.dx (.func 165) [] [.ptr 0 0]] [.cells [.iv (dr p)]] (pI (tn (fun x:Atom=>nn p x) l)) [(0,jp (.cells [.iv (dr p)]))] 1:=by
 refine vC (bN func192 Z (by decide)) ⟨_,_,Yy⟩ fun j=>?_;simp only[maxLen]at j;refine aE ab func192 Z (by decide) ntmps192 Z (by simp) ?_;refine gA Z ?_
 refine ar 0 l.length (Yl _) (fun i=>⟨[(0,.iv (cT 2 l Atom.c)),(1,.dx (.func 165) [] [.ptr 0 0]),(7,pI l.length),(8,pI i)],[(0,jp (.cells [.iv (dr p)]))],1⟩) (fun i=>(l.take i).any (fun x:Atom=>nn p x)=li) [] (by simp)
  (zW (zO trivial)) fun i y u=>?_
 refine zJ Z Z (fun b=>?_) fun b=>?_
 .have b:=ci b;refine gA Z (zq [0] (d115 p (l.getD i io)) ?_);refine zJ Z Z (fun d=>?_) fun d=>?_
  .have d:(fun x:Atom=>nn p x) (l.getD i io)=lc:=d;rw[jd u b d];refine gA Z (zD [] Z (zW (zO ac)))
  .have d:(fun x:Atom=>nn p x) (l.getD i io)=li:=d;refine gA Z ⟨b,(a7 u b).2 d,[],zW (zO ac)⟩
 .have b:=co b;rw[iC (any_none u b)];refine gA Z (zD [] Z (zW (zO ac)))
theorem VZ(p:Prog)(l:List Atom):cj prog 161 [.iv (cT 2 l Atom.c),.dx (.func 165) [] [.ptr 0 0]] [.cells [.iv (dr p)]] (pB (l.any (fun x:Atom=>nn p x))) [(0,jp (.cells [.iv (dr p)]))] 1:=by
 refine aE ab func161 Z (by decide) ntmps161 Z (by simp) ?_;refine gA Z (zq [0] (VC p l) ?_);refine gA Z (zD [] Z (zM ⟨.of_eq (fx (j5 _ l)),rfl,ac⟩ (zO ac)))
def b5(l:Lit):List Atom:=if l.kind=1∨l.kind=2 then[l.atom] else[]
theorem mB: ∀l:List Lit,(l.flatMap b5).length<=l.length
 | []=>by simp
 |x::r=>by
  have b:=mB r;have d:(b5 x).length<=1:=by unfold b5;split<;>simp
  simp only[Zk,Yg,YT];omega
def o7(r:aq)(lit:Int):List Lit:=if(ah r lit).kind=4 then(ah r lit).au else[ah r lit]
def bs(r:aq)(lit:Int):List Atom:=if lit<0 then[r.head] else(o7 r lit).flatMap b5
theorem PG(r:aq)(lit:Int)(h:0<=lit):nT (.dp 30 ((lit+1).toNat-lit.toNat) (fun j=>(r.body.getD (lit.toNat+j) io).c)) (lits [ah r lit]):=by
 have e:(lit+1).toNat-lit.toNat=1:=by omega
 rw[e]
 exact .dp Z (fun j b=>by
  have:j=0:=by omega
  subst this;rfl)
theorem Wn(r:aq)(lit:Int)(h1:lit<r.body.length)(hb:r.size<=1000000000000):Pure prog 162 [ag r.c,pI lit] (.iv (cT 2 (bs r lit) Atom.c)):=by
 have J:=Lit.ax r.body;have h0:Lit.aA r.body<=r.size:=ZX _ _;refine ad ab func162 Z (by decide) ntmps162 Z (by simp) Z ?_;refine zJ Z Z (fun A=>?_) fun A=>?_
 .have A:lit<0:=by simpa using A
  refine gA Z (cG (by first|exact .inr Z|exact .inl Z) Z Z (by rw[bs,am A];rfl) (by rw[bs,am A];rfl))
 have A: ¬lit<0:=by simpa using A
 have Y:lit.toNat<r.body.length:=by omega
 have G:=Lit.aS r.body lit.toNat Y;have b0:=(ah r lit).size_eq;have c0:=Lit.ax (ah r lit).au;have a0:(ah r lit).size<=Lit.aA r.body:=G;refine zJ Z Z (fun B=>?_) fun B=>?_
 .have B:(ah r lit).kind=4:=by simpa[ah]using B
  have y:bs r lit=(ah r lit).au.flatMap b5:=by rw[bs,be A,o7,am B]
  refine gA Z ?_;refine dF 6 2 Z ?_;refine ar 0 ((ah r lit).au).length (Yl _) (fun i=>⟨[(6,.sl 2 0 ((((ah r lit).au).take i).flatMap b5).length 2),(30,.iv (lits ((ah r lit).au))),(31,pI ((ah r lit).au).length),(32,pI i)],[(2,jp (aC 2 ((((ah r lit).au).take i).flatMap b5) Atom.c))],3⟩) (fun _=>True) [1] ac
   (zM (bv ⟨.iv (ly _),rfl,bv (bv trivial)⟩) (zS trivial)) fun i S _=>?_
  have F:=mB (((ah r lit).au).take i);have I:(((ah r lit).au).take i).length<=((ah r lit).au).length:=by rw[YV];exact Nat.min_le_right _ _
  have D:((ah r lit).au).length<=1000000000000:=by first|omega|(rw[YY];omega)
  refine zJ Z Z (fun d=>?_) fun d=>?_
  .have d:i<((ah r lit).au).length:=zN d;have b:=cm (f:=b5) d;have j:((((ah r lit).au).getD i io).kind=1∨(((ah r lit).au).getD i io).kind=2)->(((ah r lit).au).take (i+1)).flatMap b5=(((ah r lit).au).take i).flatMap b5++ [(((ah r lit).au).getD i io).atom]:=fun h=>by rw[b,b5,am h]
   have C: ¬((((ah r lit).au).getD i io).kind=1∨(((ah r lit).au).getD i io).kind=2)->(((ah r lit).au).take (i+1)).flatMap b5=(((ah r lit).au).take i).flatMap b5:=fun h=>by rw[b,b5,be h,Y0]
   refine zJ Z Z (fun u=>?_) fun u=>?_
   .have u: ¬(((ah r lit).au).getD i io).kind=1:=by simpa using u
    refine zJ Z Z (fun x=>?_) fun x=>?_
    .have x:(((ah r lit).au).getD i io).kind=2:=by simpa using x
     have b:=j (.inr x);refine gA Z ⟨d,ac,[5],zM ⟨.row (by rw[b,Yg];rfl),rfl,bv (bv (bv ac))⟩ (hR Z (by rw[b,Yk];rfl) Z ac)⟩
    .have x: ¬(((ah r lit).au).getD i io).kind=2:=by simpa using x
     have b:=C (fun h=>h.elim u x);refine gA Z ⟨d,ac,[2],zM ⟨.row (by rw[b]),rfl,bv (bv (bv ac))⟩ (hR Z (by rw[b]) Z ac)⟩
   .have u:(((ah r lit).au).getD i io).kind=1:=by simpa using u
    have b:=j (.inl u);refine gA Z ⟨d,ac,[5],zM ⟨.row (by rw[b,Yg];rfl),rfl,bv (bv (bv ac))⟩ (hR Z (by rw[b,Yk];rfl) Z ac)⟩
  .have d:((ah r lit).au).length<=i:=zG d;rw[Yn d] at*
   refine gA Z (cG (by first|exact .inr Z|exact .inl Z) Z Z (by rw[y]) (by rw[y]))
 .have B: ¬(ah r lit).kind=4:=by simpa[ah]using B
  have y:bs r lit=[ah r lit].flatMap b5:=by rw[bs,be A,o7,be B]
  refine gA Z ?_;refine dF 6 2 Z ?_;refine ar 0 ([ah r lit]).length (Yl _) (fun i=>⟨[(6,.sl 2 0 ((([ah r lit]).take i).flatMap b5).length 2),(30,.iv (lits ([ah r lit]))),(31,pI ([ah r lit]).length),(32,pI i)],[(2,jp (aC 2 ((([ah r lit]).take i).flatMap b5) Atom.c))],3⟩) (fun _=>True) [1] ac
   (zM (bv ⟨.iv (PG r lit (by omega)),rfl,.of_eq (Fw (by simp only[YY];omega)),rfl,bv trivial⟩) (zS trivial)) fun i S _=>?_
  have F:=mB (([ah r lit]).take i);have I:(([ah r lit]).take i).length<=([ah r lit]).length:=by rw[YV];exact Nat.min_le_right _ _
  have D:([ah r lit]).length<=1000000000000:=by first|omega|(rw[YY];omega)
  refine zJ Z Z (fun d=>?_) fun d=>?_
  .have d:i<([ah r lit]).length:=zN d;have b:=cm (f:=b5) d;have j:((([ah r lit]).getD i io).kind=1∨(([ah r lit]).getD i io).kind=2)->(([ah r lit]).take (i+1)).flatMap b5=(([ah r lit]).take i).flatMap b5++ [(([ah r lit]).getD i io).atom]:=fun h=>by rw[b,b5,am h]
   have C: ¬((([ah r lit]).getD i io).kind=1∨(([ah r lit]).getD i io).kind=2)->(([ah r lit]).take (i+1)).flatMap b5=(([ah r lit]).take i).flatMap b5:=fun h=>by rw[b,b5,be h,Y0]
   refine zJ Z Z (fun u=>?_) fun u=>?_
   .have u: ¬(([ah r lit]).getD i io).kind=1:=by simpa using u
    refine zJ Z Z (fun x=>?_) fun x=>?_
    .have x:(([ah r lit]).getD i io).kind=2:=by simpa using x
     have b:=j (.inr x);refine gA Z ⟨d,ac,[5],zM ⟨.row (by rw[b,Yg];rfl),rfl,bv (bv (bv ac))⟩ (hR Z (by rw[b,Yk];rfl) Z ac)⟩
    .have x: ¬(([ah r lit]).getD i io).kind=2:=by simpa using x
     have b:=C (fun h=>h.elim u x);refine gA Z ⟨d,ac,[2],zM ⟨.row (by rw[b]),rfl,bv (bv (bv ac))⟩ (hR Z (by rw[b]) Z ac)⟩
   .have u:(([ah r lit]).getD i io).kind=1:=by simpa using u
    have b:=j (.inl u);refine gA Z ⟨d,ac,[5],zM ⟨.row (by rw[b,Yg];rfl),rfl,bv (bv (bv ac))⟩ (hR Z (by rw[b,Yk];rfl) Z ac)⟩
  .have d:([ah r lit]).length<=i:=zG d;rw[Yn d] at*
   refine gA Z (cG (by first|exact .inr Z|exact .inl Z) Z Z (by rw[y]) (by rw[y]))
theorem d110(p:Prog)(r:aq)(lit:Int)(h1:lit<r.body.length)(hb:r.size<=1000000000000):cj prog 160 [pI lit,.ptr 0 0,.ptr 1 0] [ak r.c,.cells [.iv (dr p)]] (pB ((bs r lit).any fun x=>lZ p x)) [(0,jp (ak r.c)),(1,jp (.cells [.iv (dr p)]))] 2:=by
 refine aE ab func160 Z (by decide) ntmps160 Z (by simp) ?_;refine gA Z (zp (Wn r lit h1 hb) ?_);refine gA Z (zq [1] (V0 p (bs r lit)) ?_);refine gA Z (zD [] Z (zW (zK (zO ac))))
theorem d114(p:Prog)(r:aq)(lit:Int)(h1:lit<r.body.length)(hb:r.size<=1000000000000):cj prog 164 [pI lit,.ptr 0 0,.ptr 1 0] [ak r.c,.cells [.iv (dr p)]] (pB ((bs r lit).any fun x=>nn p x)) [(0,jp (ak r.c)),(1,jp (.cells [.iv (dr p)]))] 2:=by
 refine aE ab func164 Z (by decide) ntmps164 Z (by simp) ?_;refine gA Z (zp (Wn r lit h1 hb) ?_);refine gA Z (zq [1] (VZ p (bs r lit)) ?_);refine gA Z (zD [] Z (zW (zK (zO ac))))
def dH(r:aq)(lit:Int):Bool:=if lit<0 then r.head.ae.any fun x=>lw (x.kind=3) else if(ah r lit).kind=4 then((ah r lit).au.any fun x=>lw (x.kind=4))||ch (bj (ah r lit).agg) (ah r lit).bp else li
theorem XY(r:aq)(lit:Int)(h1:lit<r.body.length)(hb:r.size<=100000000):Pure prog 167 [ag r.c,pI lit] (pB (dH r lit)):=by
 have D:=Lit.ax r.body;have J:Lit.aA r.body<=r.size:=ZX _ _;refine ad ab func167 Z (by decide) ntmps167 Z (by simp) Z ?_;refine zJ Z Z (fun b=>?_) fun b=>?_
 .have b:lit<0:=by simpa using b
  refine gA Z (zq [] (d157 r.head.ae) ?_);refine gA Z (zL (.of_eq ?_));rw[dH,am b];rfl
 have b: ¬lit<0:=by simpa using b
 have F:lit.toNat<r.body.length:=by omega
 have A:=Lit.aS r.body lit.toNat F;have B:=(ah r lit).fC;have G:(ah r lit).size<=Lit.aA r.body:=A;have C:=nh (ah r lit).agg;refine zJ Z Z (fun d=>?_) fun d=>?_
 .have d: ¬(ah r lit).kind=4:=by simpa[ah]using d
  refine gA Z (zL (.of_eq ?_));rw[dH,be b,be d]
 have d:(ah r lit).kind=4:=by simpa[ah]using d
 refine gA Z (iO [] (cj.le (aa:=[.iv (uI (ah r lit).au),.dx (.func 195) [] []]) (d159 (ah r lit).au) ⟨.iv (ly _),.refl _,ac⟩) Z Z Z Z Z Z Z Z ?_);refine zE Z Z (fun j=>?_) fun j=>?_
 .have j:((ah r lit).au.any fun x=>lw (x.kind=4))=li:=j;have y:=bR (bj (ah r lit).agg) (ah r lit).bp;have u:=cY (occ:=bj (ah r lit).agg) (s:=(ah r lit).bp);refine gA Z (zd [] (d127 (ah r lit).agg (by omega)) ?_);refine gA Z (zL (.of_eq ?_));refine(fx ?_:pB (lw (bY .str (aJ (bj (ah r lit).agg)) (ah r lit).bp 0>0))=_);rw[dH,be b,am d,j,u,y,Zt];by_cases I:tA (bj (ah r lit).agg) (ah r lit).bp=0<;>simp[I];omega
 .have j:((ah r lit).au.any fun x=>lw (x.kind=4))=lc:=j;refine gA Z (zL (.of_eq ?_));rw[dH,be b,am d,j];rfl
theorem d116(r:aq)(lit:Int)(h1:lit<r.body.length)(hb:r.size<=100000000):cj prog 166 [pI lit,.ptr 0 0] [ak r.c] (pB (dH r lit)) [(0,jp (ak r.c))] 1:=by
 refine aE ab func166 Z (by decide) ntmps166 Z (by simp) ?_;refine gA Z (zp (XY r lit h1 hb) ?_);refine gA Z (zD [] Z (zW (zK ac)))
def fw(r:aq)(lit:Int):Pos:=if lit<0 then r.at_ else(ah r lit).at
theorem ME(r:aq)(lit:Int)(h1:lit<r.body.length):Pure prog 171 [ag r.c,pI lit] (ag [iI (fw r lit).line,iI (fw r lit).HN]):=by
 refine ad ab func171 Z (by decide) ntmps171 Z (by simp) Z ?_;refine zJ Z Z (fun b=>?_) fun b=>?_
 .have b:lit<0:=by simpa using b
  refine gA Z (zL (.of_eq ?_));rw[fw,am b];rfl
 have b: ¬lit<0:=by simpa using b
 refine gA Z (zL (.of_eq ?_));rw[fw,be b];rfl
def kF(r:aq)(l:Lit):Nat:=if l.kind=4 then(lR r l.agg).length else 0
def tQ(r:aq):Nat:=r.body.foldl (fun n l=>n+kF r l) (aJ (az r)).length
theorem vm(r:aq)(l:Lit):kF r l<=l.size:=by
 unfold kF;split
 .have b:(lR r l.agg).length<=(aJ (bj l.agg)).length:=Ze _ _;have d:=mD (bj l.agg);have j:=nh l.agg;have u:=l.fC;omega
 .omega
theorem xA(r:aq): ∀(l:List Lit) (n:Nat),l.foldl (fun n l=>n+kF r l) n<=n+Lit.aA l
 | [],n=>by simp
 |x::t,n=>by
  have b:=xA r t (n+kF r x);have d:=vm r x;simp only[YN,Lit.aA];omega
theorem XZ(r:aq)(hb:r.size<=100000000):Pure prog 159 [.iv (da r)] (pI (tQ r)):=by
 have A:=Lit.ax r.body;have G:Lit.aA r.body<=r.size:=ZX _ _;have J:=uf r;have B:=mD (az r);refine ad ab func159 Z (by decide) ntmps159 Z (by simp) Z ?_;refine gA Z ?_;refine ar 0 r.body.length (Yl _) (fun i=>⟨[(0,.iv (da r)),(3,pI (((r.body.take i).foldl (fun n l=>n+kF r l) (aJ (az r)).length:Nat))),(15,.iv (lits r.body)),(16,pI r.body.length),(17,pI i)],[],0⟩) (fun _=>True) [] ac
  (zW trivial) fun i I _=>?_
 have C:=xA r (r.body.take i) (aJ (az r)).length;have D:=Lit.sP r.body i;refine zJ Z Z (fun d=>?_) fun d=>?_
 .have d:=ci d;have u:=cF (g:=fun n l=>n+kF r l) (b:=(aJ (az r)).length) d;have F:=Lit.aS r.body i d;have y:=(r.body.getD i io).fC;have x:=vm r (r.body.getD i io);refine zJ Z Z (fun j=>?_) fun j=>?_
  .have j:(r.body.getD i io).kind=4:=by simpa using j
   rw[kF,am j]at u x;refine gA Z (zq [] (d79 r (r.body.getD i io).agg (by omega)) ?_);refine gA Z ⟨d,ac,[],zM (bv ⟨.of_eq (Fw (by rw[u];rfl)),rfl,bv (bv (bv ac))⟩) ac⟩
  .have j: ¬(r.body.getD i io).kind=4:=by simpa using j
   rw[kF,be j]at u;refine gA Z ⟨d,ac,[],zM (bv ⟨.of_eq (Fw (by rw[u];rfl)),rfl,bv (bv (bv ac))⟩) ac⟩
 .have d:=co d;refine gA Z (zL (.of_eq ?_));rw[Yn d];rfl
section
section
variable {may:List aj->Expr->Bool} {more:List aj->fa->Bool} {body:List Lit}
theorem wg: ∀(n:Nat) (occ:List aj),bI (bH body) occ<n->cK (may (dV may more body n occ)) (more (dV may more body n occ)) (dV may more body n occ) body=kw
 |0,occ,h=>by omega
 |n+1,occ,h=>by
  cases hv:cK (may occ) (more occ) occ body with
  |none=>rw[fU hv];exact hv
  |some v=>
   rw[fS hv];refine wg n _ ?_;obtain⟨g1,g2⟩:=mU hv;have d:=oY g1 g2;have b:bI (bH body) (occ++ [v])=bI (bH body) (bZ occ v):=by
    unfold bI;congr 2
    funext x
    congr 1;rw[YU,aP,aP,ct,Ys,Yr]
   omega
theorem wj(occ:List aj):cK (may (cN may more body occ)) (more (cN may more body occ)) (cN may more body occ) body=kw:=by
 refine wg _ _ ?_;have b:=oZ (bH body) (occ++body.flatMap bK);have d:=jM body;omega
theorem qM: ∀(n:Nat) (occ:List aj),∀x∈occ,x∈dV may more body n occ
 |0,occ,x,h=>h
 |n+1,occ,x,h=>by
  cases hv:cK (may occ) (more occ) occ body with
  |none=>rw[fU hv];exact h
  |some v=>rw[fS hv];exact qM n _ x (YQ _ h)
theorem qC{m1:Expr->Bool}{m2:fa->Bool}{occ:List aj}: ∀{l:List Lit},cK m1 m2 occ l=kw-> ∀x∈l,mE m1 m2 occ x=kw
 | [],_,x,hx=>by cases hx
 |y::r,h,x,hx=>by
  simp only[cK]at h;split at h
  .cases h
  .rename_i b;rcases Yx.1 hx with rfl|hx
   .exact b
   .exact qC h x hx
theorem vZ{m1:Expr->Bool}{m2:fa->Bool}{occ:List aj}{v:aj}: ∀{l:List Lit},cK m1 m2 occ l=jp v-> ∃x∈l,mE m1 m2 occ x=jp v
 | [],h=>by cases h
 |y::r,h=>by
  simp only[cK]at h;split at h
  .rename_i w d;exact⟨y,Yy,d.trans h⟩
  .obtain⟨x,j,b⟩:=vZ h;exact⟨x,Yt _ j,b⟩
variable (hmay: ∀a b:List aj,(∀x∈a,x∈b)-> ∀e,may a e=lc->may b e=lc) (hmore: ∀a b:List aj,(∀x∈a,x∈b)-> ∀e,more a e=lc->more b e=lc)
include hmay hmore
theorem G9{occ C:List aj}(b: ∀x∈occ,x∈C){l:Lit}{v:aj}(h:mE (may occ) (more occ) occ l=jp v)(hC:mE (may C) (more C) C l=kw):v∈C:=by
 have D: ∀y,y∉C->ch C y=li:=fun y I=>ei.2 I;have hnew:=(xU h).2;refine Zu fun F=>?_;unfold mE at h hC;by_cases d:(gf (may occ) occ l).2=lc
 .rw[am d]at h;simp only[Yh]at h;have B:(gf (may C) C l).2=lc:=by
   unfold gf at d h ⊢;split at d
   .cases d
   .rename_i G;rw[be G]at h ⊢;split at d
    .rename_i u;rw[am u]at h;have A:l.left.var=v:=h;rw[am ⟨u.1,by rw[A];exact D v F,hmay occ C b _ u.2.2⟩]
    .rename_i u;rw[be u]at h;split at d
     .rename_i j;rw[am j]at h;have A:l.right.var=v:=h;split
      .rfl
      .rw[am ⟨j.1,by rw[A];exact D v F,hmay occ C b _ j.2.2⟩]
     .cases d
  rw[am B]at hC;cases hC
 .rw[be d]at h;split at h
  .rename_i j;simp only[Yh]at h;split at hC
   .cases hC
   .rw[am ⟨j.1,by rw[h];exact D v F,hmore occ C b _ j.2.2⟩]at hC;cases hC
  .cases h
theorem qL{C:List aj}(hC:cK (may C) (more C) C body=kw): ∀(n:Nat) (occ:List aj),(∀x∈occ,x∈C)-> ∀x∈dV may more body n occ,x∈C
 |0,occ,h,x,hx=>h x hx
 |n+1,occ,h,x,hx=>by
  cases hv:cK (may occ) (more occ) occ body with
  |none=>rw[fU hv]at hx;exact h x hx
  |some v=>
   rw[fS hv]at hx;refine qL hC n _ (fun y hy=>?_) x hx;rcases Ys.1 hy with hy|hy
   .exact h y hy
   .rw[Yr]at hy;subst hy;obtain⟨l,d,b⟩:=vZ hv;exact G9 hmay hmore h b (qC hC l d)
theorem wh{d b:List aj}(h: ∀x∈d,x∈b): ∀x∈cN may more body d,x∈cN may more body b:=by
 refine qL hmay hmore (wj b) _ _ fun x hx=>?_;refine qM _ _ x ?_;rcases Ys.1 hx with hx|hx
 .exact YQ _ (h x hx)
 .exact ZK _ hx
end
theorem lV(a b:List aj)(h: ∀x∈a,x∈b)(e:Expr)(hc:aW a e=lc):aW b e=lc:=by
 unfold aW at*
 rw[YG] at*
 exact fun x d=>aP.2 (h x (aP.1 (hc x d)))
theorem Dt(a b:List aj)(h: ∀x∈a,x∈b)(e:Expr)(hc:c7 a e=lc):c7 b e=lc:=by
 unfold c7 at*
 cases hk:lw (e.kind=2) with
 |true=>simp
 |false=>
  rw[hk,Zt,YB]at hc;rw[Zt,YB];exact⟨hc.1,aP.2 (h _ (aP.1 hc.2))⟩
theorem FE(out:List aj)(a b:List aj)(h: ∀x∈a,x∈b)(e:fa)(hc:iX out a e=lc):iX out b e=lc:=by
 unfold iX at*
 rw[YG] at*
 intro x d;have:=hc x d;rw[Y3,Y3] at*
 rcases this with h1|h1|h1
 .exact .inl h1
 .exact .inr (.inl h1)
 .exact .inr (.inr (aP.2 (h _ (aP.1 h1))))
def yg(r:aq)(a:fa):List aj:=((aJ (bj a)).map (·.1)).filter fun x=>ch (az r) x
def BO(r:aq)(a:fa):List aj:=cN (fun b=>aW b) (fun _=>fun _=>li) a.body (yg r a)
theorem Pp{r:aq}{a:fa}{occ:List aj}(h:Lz r a occ)(s:aj):ch (cN (fun occ=>aW occ) (fun _=>fun _=>li) a.body occ) s=ch (BO r a) s:=by
 have d: ∀x,x∈yg r a↔x∈occ:=fun x=>by
  unfold yg;rw[YO,(cf (bj a)).2 x,aP,h.2 x]
 rw[YU,aP,aP];exact⟨wh (more:=fun _=>fun _=>li) lV (fun _ _ _ _ h=>h) (fun x b=>(d x).2 b) s,wh (more:=fun _=>fun _=>li) lV (fun _ _ _ _ h=>h) (fun x b=>(d x).1 b) s⟩
def th(r:aq)(m:NM):Bool:=m.any fun x=>!ch (b6 r) x.1
theorem qp{r:aq}{m:NM}(h: ∀j,j<m.length-> ∀x,m[j]? =jp x->ch (b6 r) x.1=lc):th r m=li:=by
 refine Y5.2 fun x d=>?_;obtain⟨j,b⟩:=Y9 d;rw[h j (Yj.1 b).1 x b];simp
theorem tg{r:aq}{m:NM}{j:Nat}{x:(KC.str).K×Int}(h:m[j]? =jp x)(b:ch (b6 r) x.1=li):th r m=lc:=
 Y8.2 ⟨x,YL h,by rw[b];rfl⟩
def mK(r:aq)(a:fa):NM:=(aJ (bj a)).filter fun x=>!ch ((lR r a).map (·.1)) x.1
def dQ(r:aq)(lit:Int):Bool:=
 if lit<0 then th r (aJ (de r.head))
 else if(ah r lit).kind=4 then(lR r (ah r lit).agg).any (fun x=>!ch (BO r (ah r lit).agg) x.1)||th r (bump (mK r (ah r lit).agg) (ah r lit).bp)
 else th r (aJ (cV (ah r lit)))
theorem W5(a:Atom)(hb:a.ae.length<=100000000000):cj prog 135 [.mp 0,ag a.c] [.gn] (.bX []) [(0,jp (dd (aJ (de a))))] 1:=
 cj.R3 (d88 [] a (by simp;omega)) ⟨wZ,ac⟩
theorem W4(l:Lit)(hb:l.size<=100000000000):cj prog 136 [.mp 0,ag l.c] [.gn] (.bX []) [(0,jp (dd (aJ (cV l))))] 1:=
 cj.R3 (d89 l [] (by simp;omega)) ⟨wZ,ac⟩
theorem An(f:aj->Bool)(s:aj): ∀(m:NM),bY .str (m.filter fun x=>f x.1) s 0=if f s=lc then bY .str m s 0 else 0
 | []=>by simp[bY]
 |(a,b)::r=>by
  have d:=An f s r;cases hf:f a with
  |true=>
   rw[List.filter_cons_of_pos (by exact hf)];simp only[bY];split
   .rename_i h;subst h;rw[am hf]
   .exact d
  |false=>
   rw[List.filter_cons_of_neg (by simp[hf]),d];simp only[bY];split
   .rename_i h;split
    .rename_i j;subst j;rw[hf]at h;cases h
    .rfl
   .rfl
theorem PB(r:aq)(a:fa)(s:aj):0<=bY .str (mK r a) s 0∧bY .str (mK r a) s 0<=tA (bj a) s:=by
 have b:=bR (bj a) s;have d:=An (fun x=>!ch ((lR r a).map (·.1)) x) s (aJ (bj a));unfold mK;rw[d,b];split<;>omega
set_option maxHeartbeats 2000000 in
theorem XW(r:aq)(lit:Int)(hl:lit<r.body.length)(hb:r.size<=10000000):Pure prog 170 [.iv (da r),pI lit] (pB (dQ r lit)):=by
 have s0:=Lit.ax r.body;have h0:Lit.aA r.body<=r.size:=ZX _ _;have p0:r.head.ae.length<=r.size:=Nat.le_add_right _ _;have x0:=FN r;refine ad ab func170 Z (by decide) ntmps170 Z (by simp) Z ?_;refine gA Z (zq [] (d73 r (by omega)) ?_);refine zJ Z Z (fun D=>?_) fun D=>?_
 .have D:lit<0:=by simpa using D
  refine gA Z (zq [1] (W5 r.head (by omega)) ?_);refine gA Z ?_;have d0:(aJ (de r.head)).length<=1000000000000:=by have:=mD (de r.head);have:=lf r.head;omega
  refine ib (aJ (de r.head)) (fun d=>⟨[(5,.mp 0),(76,.ptr 2 0)],[(0,jp (dd (aJ (b6 r)))),(2,jp (.b3 .str yw (aJ (de r.head)) d kw))],3⟩) (fun d=> ∀j∈d,∀x,(aJ (de r.head))[j]? =jp x->ch (b6 r) x.1=lc) [] (by simp)
   (zW (zC (hI Z Z (.inl Z) Z trivial))) fun d F=>?_
  refine ox Z ac (eW Z Z Z Z Z (by decide) (fun u=>?_) fun j x b B=>?_)
  .refine gA Z (zL (.of_eq ?_));refine(fx ?_:pB li=_);rw[dQ,am D,qp fun j B x b=>F j (u j B) x b]
  .have S:=bR (b6 r) x.1;have A:=cY (occ:=b6 r) (s:=x.1);refine zJ Z Z (fun g1=>?_) fun g1=>?_
   .have g1:ch (b6 r) x.1=li:=by
     have:=zT g1;rw[A];simp;omega
    refine gA Z (zL (.of_eq ?_));refine(fx ?_:pB lc=_);rw[dQ,am D,tg b g1]
   .have g1:ch (b6 r) x.1=lc:=by
     have:=zF g1;rw[A];simp;omega
    refine gA Z ?_
    exact⟨j,x,b,B,fun i hi y C=>by
     rcases Yx.1 hi with rfl|hi
     .rw[b]at C;cases C;exact g1
     .exact F i hi y C,[],zW (zC (hI Z Z (.inr Z) Z ac))⟩
 have D: ¬lit<0:=by simpa using D
 have hk:lit.toNat<r.body.length:=by omega
 have o0:=Lit.aS r.body lit.toNat hk;have q0:=(ah r lit).fC;have v0:(ah r lit).size<=Lit.aA r.body:=o0;have r0:=nh (ah r lit).agg;have m0:=o9 (ah r lit);refine zE Z Z (fun G=>?_) fun G=>?_
 .have G: ¬(ah r lit).kind=4:=by simpa[ah]using G
  refine gA Z (zq [1] (W4 (ah r lit) (by omega)) ?_);refine gA Z ?_;have d0:(aJ (cV (ah r lit))).length<=1000000000000:=by have:=mD (cV (ah r lit));omega
  refine ib (aJ (cV (ah r lit))) (fun d=>⟨[(5,.mp 0),(76,.ptr 3 0)],[(0,jp (dd (aJ (b6 r)))),(3,jp (.b3 .str yw (aJ (cV (ah r lit))) d kw))],4⟩) (fun d=> ∀j∈d,∀x,(aJ (cV (ah r lit)))[j]? =jp x->ch (b6 r) x.1=lc) [] (by simp)
   (zW (zC (hI Z Z (.inl Z) Z trivial))) fun d F=>?_
  refine ox Z ac (eW Z Z Z Z Z (by decide) (fun u=>?_) fun j x b B=>?_)
  .refine gA Z (zL (.of_eq ?_));refine(fx ?_:pB li=_);rw[dQ,be D,be G,qp fun j B x b=>F j (u j B) x b]
  .have S:=bR (b6 r) x.1;have A:=cY (occ:=b6 r) (s:=x.1);refine zJ Z Z (fun g1=>?_) fun g1=>?_
   .have g1:ch (b6 r) x.1=li:=by
     have:=zT g1;rw[A];simp;omega
    refine gA Z (zL (.of_eq ?_));refine(fx ?_:pB lc=_);rw[dQ,be D,be G,tg b g1]
   .have g1:ch (b6 r) x.1=lc:=by
     have:=zF g1;rw[A];simp;omega
    refine gA Z ?_
    exact⟨j,x,b,B,fun i hi y C=>by
     rcases Yx.1 hi with rfl|hi
     .rw[b]at C;cases C;exact g1
     .exact F i hi y C,[],zW (zC (hI Z Z (.inr Z) Z ac))⟩
 have G:(ah r lit).kind=4:=by simpa[ah]using G
 refine gA Z (Eh [] (d161 r (ah r lit).agg (by omega)) Z Z Z Z Z Z Z fun q h' n' hR=>?_);obtain⟨ok,⟨occ,g0,n0⟩,rfl,rfl,rfl⟩:=hR;have a0: ∀s,ch ok s=ch (BO r (ah r lit).agg) s:=fun s=>by rw[n0];exact Pp g0 s
 refine⟨_,rfl,?_⟩;have y0:=mD (bj (ah r lit).agg);have w0:(lR r (ah r lit).agg).length<=(aJ (bj (ah r lit).agg)).length:=Ze _ _;have t0:(mK r (ah r lit).agg).length<=(aJ (bj (ah r lit).agg)).length:=Ze _ _;have i0:=(cf (bj (ah r lit).agg)).1;refine gA Z (zq [] (d79 r (ah r lit).agg (by omega)) ?_);refine gA Z ?_;refine ib (lR r (ah r lit).agg) (fun d=>⟨[(0,.iv (da r)),(5,.mp 0),(7,.ptr 2 0),(8,.mp 3),(43,.ptr 5 0)],[(0,jp (dd (aJ (b6 r)))),(2,jp (ak (ah r lit).c)),(3,jp (dd (aJ ok))),(5,jp (.b3 .str yw (lR r (ah r lit).agg) d kw))],6⟩) (fun d=> ∀j∈d,∀x,(lR r (ah r lit).agg)[j]? =jp x->ch (BO r (ah r lit).agg) x.1=lc) [] (by simp)
  (zW (zC (zK (zC (hI Z Z (.inl Z) Z trivial))))) fun d F=>?_
 refine ox Z ac (eW Z Z Z Z Z (by decide) (fun u=>?_) fun j x b B=>?_);rotate_left
 .have S:=bR ok x.1;have A:=cY (occ:=ok) (s:=x.1);have I:=a0 x.1;refine zJ Z Z (fun g1=>?_) fun g1=>?_
  .have g1:ch (BO r (ah r lit).agg) x.1=li:=by
    have:=zT g1;rw[<-I,A];simp;omega
   refine gA Z (zL (.of_eq ?_));refine(fx ?_:pB lc=_);rw[dQ,be D,am G,Y8.2 ⟨x,YL b,by rw[g1];rfl⟩,aaK]
  .have g1:ch (BO r (ah r lit).agg) x.1=lc:=by
    have:=zF g1;rw[<-I,A];simp;omega
   refine gA Z ?_
   exact⟨j,x,b,B,fun i hi y C=>by
    rcases Yx.1 hi with rfl|hi
    .rw[b]at C;cases C;exact g1
    .exact F i hi y C,[],zW (zC (zK (zC (hI Z Z (.inr Z) Z ac))))⟩
 have hA:(lR r (ah r lit).agg).any (fun x=>!ch (BO r (ah r lit).agg) x.1)=li:=Y5.2 fun x b=>by
  obtain⟨j,B⟩:=Y9 b;rw[F j (u j (Yj.1 B).1) x B];simp
 refine gA Z (zq [] (d127 (ah r lit).agg (by omega)) ?_);refine gA Z (zq [] (d79 r (ah r lit).agg (by omega)) ?_);refine gA Z ?_;refine ib (lR r (ah r lit).agg) (fun d=>⟨[(5,.mp 0),(6,.mp 6),(7,.ptr 2 0),(59,.ptr 8 0)],[(0,jp (dd (aJ (b6 r)))),(2,jp (ak (ah r lit).c)),(6,jp (dd ((ju (lR r (ah r lit).agg) d).foldl (fun m k=>pO .str m k) (aJ (bj (ah r lit).agg))))),(8,jp (.b3 .str yw (lR r (ah r lit).agg) d kw))],9⟩) (fun d=>d.Nodup∧ ∀j∈d,j<(lR r (ah r lit).agg).length) [] ⟨Zd,by simp⟩
  (zW (zC (zK (zC (hI Z Z (.inl Z) Z trivial))))) fun Y e0=>?_
 obtain⟨b0,c0⟩:=e0;refine ox Z ac (eW Z Z Z Z Z (by decide) (fun J=>?_) fun j x b B=>?_);rotate_left
 .have hk:=nC (lR r (ah r lit).agg) Y j x b;refine gA Z ⟨j,x,b,B,⟨Zo.2 ⟨B,b0⟩,fun i hi=>(Yx.1 hi).elim (fun h=>h▸(Yj.1 b).1) (c0 i)⟩,[],zW (zC (zK (hM Z (by rw[hk,Z7];rfl) Z (hI Z Z (.inr Z) Z ac))))⟩
 have j0:(ju (lR r (ah r lit).agg) Y).foldl (fun m k=>pO .str m k) (aJ (bj (ah r lit).agg))=mK r (ah r lit).agg:=by
  rw[qI _ i0];unfold mK;congr 1
  funext x
  congr 1;rw[YU,aP,aP,(mJ _ Y b0 c0 J).mem_iff]
 rw[j0];have k0:=PB r (ah r lit).agg (ah r lit).bp;have f0:=jg (bj (ah r lit).agg) (ah r lit).bp;refine gA Z ?_;have d0:(bump (mK r (ah r lit).agg) (ah r lit).bp).length<=1000000000000:=by have:=xL (mK r (ah r lit).agg) (ah r lit).bp (bY .str (mK r (ah r lit).agg) (ah r lit).bp 0+1);unfold bump;omega
 refine ib (bump (mK r (ah r lit).agg) (ah r lit).bp) (fun d=>⟨[(5,.mp 0),(76,.ptr 9 0)],[(0,jp (dd (aJ (b6 r)))),(9,jp (.b3 .str yw (bump (mK r (ah r lit).agg) (ah r lit).bp) d kw))],10⟩) (fun d=> ∀j∈d,∀x,(bump (mK r (ah r lit).agg) (ah r lit).bp)[j]? =jp x->ch (b6 r) x.1=lc) [] (by simp)
  (zW (zC (hI Z Z (.inl Z) Z trivial))) fun d F=>?_
 refine ox Z ac (eW Z Z Z Z Z (by decide) (fun u=>?_) fun j x b B=>?_)
 .refine gA Z (zL (.of_eq ?_));refine(fx ?_:pB li=_);rw[dQ,be D,am G,hA,Zt,qp fun j B x b=>F j (u j B) x b]
 .have S:=bR (b6 r) x.1;have A:=cY (occ:=b6 r) (s:=x.1);refine zJ Z Z (fun g1=>?_) fun g1=>?_
  .have g1:ch (b6 r) x.1=li:=by
    have:=zT g1;rw[A];simp;omega
   refine gA Z (zL (.of_eq ?_));refine(fx ?_:pB lc=_);rw[dQ,be D,am G,hA,Zt,tg b g1]
  .have g1:ch (b6 r) x.1=lc:=by
    have:=zF g1;rw[A];simp;omega
   refine gA Z ?_
   exact⟨j,x,b,B,fun i hi y C=>by
    rcases Yx.1 hi with rfl|hi
    .rw[b]at C;cases C;exact g1
    .exact F i hi y C,[],zW (zC (hI Z Z (.inr Z) Z ac))⟩
end
end Go.Proofs.YtflegjieadkonaaGreatDoor
namespace Go.Proofs.YtflegjieadkonaaGreatDoor
open Go Go.Al
def JF(a b:aj):Prop:=pL a<pL b
theorem A6(a b:aj):Op.bytesLess a.toList b.toList=lc↔JF a b:=by
 rw[ByteArray.toList_eq,ByteArray.toList_eq,bytesLess_eq,decide_eq_true_eq];rfl
theorem Bp{a b:aj}(h:pL a=pL b):a=b:=by rw[<-wV a,<-wV b,h]
theorem vk{a b c:aj}(h:JF a b)(k:JF b c):JF a c:=List.lt_trans h k
theorem kE(a:aj): ¬JF a a:=List.lt_irrefl _
theorem Ha{a b:aj}(h: ¬a=b)(k: ¬JF a b):JF b a:=by
 refine Zu fun d=>h (Bp (abh ?_ ?_))
 .exact abJ.1 d
 .exact abJ.1 k
abbrev pR(l:List aj):Prop:=l.Pairwise JF
theorem tm: ∀{l:List aj} (_:pR l) (s:aj),pR (ins l s)
 | [],_,s=>List.pairwise_singleton _ _
 |x::r,h,s=>by
  obtain⟨j,u⟩:=ZI.1 h;simp only[ins];split
  .exact h
  .rename_i d;split
   .rename_i b;have b:=(A6 x s).1 b;refine ZI.2 ⟨fun y hy=>?_,tm u s⟩;rcases wY.1 hy with hy|rfl
    .exact j y hy
    .exact b
   .rename_i b;have b:JF s x:=Ha d fun h=>b ((A6 x s).2 h);refine ZI.2 ⟨fun y hy=>?_,h⟩;rcases Yx.1 hy with rfl|hy
    .exact b
    .exact vk b (j y hy)
theorem jQ{l:List aj}(h:pR l)(s:aj):pR (bZ l s):=by rw[qZ];exact tm h s
theorem fq: ∀{m l:List aj} (_:pR l),pR (cv l m)
 | [],_,h=>h
 |x::r,_,h=>fq (m:=r) (jQ h x)
theorem mr: ∀{a b:List aj},pR a->pR b->(∀x,x∈a↔x∈b)->a=b
 | [],[],_,_,_=>rfl
 | [],y::s,_,_,h=>by have:=(h y).2 Yy;cases this
 |x::r,[],_,_,h=>by have:=(h x).1 Yy;cases this
 |x::r,y::s,ha,hb,h=>by
  obtain⟨u,a2⟩:=ZI.1 ha;obtain⟨A,B⟩:=ZI.1 hb;have j:x=y:=by
   rcases Yx.1 ((h x).1 Yy) with h1|h1
   .exact h1
   .rcases Yx.1 ((h y).2 Yy) with h2|h2
    .exact h2.symm
    .exact absurd (vk (A x h1) (u y h2)) (kE _)
  subst j;rw[mr a2 B fun z=>?_];constructor
  .intro d;rcases Yx.1 ((h z).1 (Yt _ d)) with rfl|h3
   .exact absurd (u z d) (kE _)
   .exact h3
  .intro d;rcases Yx.1 ((h z).2 (Yt _ d)) with rfl|h3
   .exact absurd (A z d) (kE _)
   .exact h3
theorem fM{l:List aj}(h:l.Nodup):pR (eR l):=by
 have u:=ky (l.map pL);rw[<-uV]at u;have C:(eR l).Nodup:=by
  have D:((eR l).map pL).Perm (l.map pL):=by rw[uV];exact gG _
  have j:(l.map pL).Nodup:=List.Pairwise.map pL (fun a b d e=>d (Bp e)) h;have:=D.nodup_iff.2 j;exact List.Pairwise.of_map pL (fun a b d e=>d (by rw[e])) this
 have x:(eR l).Pairwise fun a b=>pL a<=pL b:=(List.pairwise_map.1 u).imp fun{a b} d=>zT d;refine(List.Pairwise.and x C).imp fun{a b} d=>?_;obtain⟨y,A⟩:=d;exact Zu fun B=>A (Bp (abh y (abJ.1 B)))
theorem Gv{m:NM}{l:List aj}(hm:(m.map (·.1)).Nodup)(b:pR l)(h: ∀x,x∈m.map (·.1)↔x∈l):fu m=l:=by
 refine mr (fM hm) b fun x=>?_;rw[fu,db];exact h x
theorem CF{occ l:List aj}(b:pR l)(h: ∀x,x∈occ↔x∈l):fu (aJ occ)=l:=
 Gv (cf occ).1 b fun x=>((cf occ).2 x).trans (h x)
theorem r8{x:aj}: ∀{l:List Term} {a:List aj},x∈l.foldl lj a↔x∈a∨x∈l.flatMap fun t=>if t.kind=1 then[t.var] else[]
 | [],a=>by simp
 |t::r,a=>by
  rw[YN,r8,Zk,Ys];unfold lj;split
  .rw[ct,Yr,or_assoc]
  .simp
theorem jX{x:aj}{a:Atom}:x∈dE a↔x∈de a:=by
 unfold dE de;rw[r8];simp
mutual
theorem iA{x:aj}: ∀{e:Expr},x∈aR e↔x∈cU e
 | .mk k v _ _ args=>by
  simp only[aR,cU];split
  .rw[ct];simp
  .split
   .rw[r9];simp
   .rfl
theorem r9{x:aj}: ∀{l:List Expr} {a:List aj},x∈gl a l↔x∈a∨x∈je l
 | [],a=>by simp[gl,je]
 |e::r,a=>by
  simp only[gl,je];rw[r9,gY,iA,Ys,or_assoc]
end
theorem iY{x:aj}{l:Lit}:x∈cq l↔x∈cV l:=by
 unfold cq cV;split
 .exact jX
 .split
  .rw[gY,iA,iA,Ys]
  .rfl
theorem iz{x:aj}{a:fa}:x∈aF a↔x∈bj a:=by
 unfold aF bj;have key: ∀(l:List Lit) (b:List aj),x∈l.foldl JC b↔x∈b∨x∈l.flatMap cV:=by
  intro l
  induction l with
  |nil=>simp
  |cons y r ih=>
   intro b;rw[YN,ih,Zk,Ys,gY,iY,or_assoc]
 rw[key,Ys];split
 .rfl
 .rw[iA]
theorem jI{x:aj}{r:aq}:x∈outer r↔x∈az r:=by
 unfold outer az;have key: ∀(l:List Lit) (b:List aj),x∈l.foldl vf b↔x∈b∨x∈l.flatMap fe:=by
  intro l
  induction l with
  |nil=>simp
  |cons y r ih=>
   intro b;rw[YN,ih,Zk,Ys];by_cases d:y.kind=4
   .rw[Dy d,show fe y=cV y++ [y.bp] by unfold fe;rw[am d],ct,gY,iY,Ys,Yr];simp only[or_assoc]
   .rw[Dz d,show fe y=cV y by unfold fe;rw[be d,Y0],gY,iY,or_assoc]
 rw[key,Ys,jX]
theorem wM(a:Atom):pR (dE a):=by
 have key: ∀(l:List Term) (b:List aj),pR b->pR (l.foldl lj b):=by
  intro l
  induction l with
  |nil=>exact fun _ h=>h
  |cons t r ih=>
   intro b h;rw[YN];refine ih _ ?_;unfold lj;split
   .exact jQ h _
   .exact h
 exact key _ _ Z6
theorem BL(r:aq):pR (outer r):=by
 have key: ∀(l:List Lit) (b:List aj),pR b->pR (l.foldl vf b):=by
  intro l
  induction l with
  |nil=>exact fun _ h=>h
  |cons t r ih=>
   intro b h;rw[YN];refine ih _ ?_;unfold vf;split
   .exact jQ (fq h) _
   .exact fq h
 exact key _ _ (wM _)
theorem E6(r:aq):fu (aJ (az r))=outer r:=CF (BL r) fun _=>jI.symm
theorem vq{a b:List aj}(h: ∀x,x∈a↔x∈b)(x:aj):ch a x=ch b x:=by
 rw[YU,aP,aP];exact h x
theorem wJ: ∀(e:Expr),pR (aR e)
 | .mk k v _ _ args=>by
  simp only[aR];split
  .exact jQ Z6 _
  .split
   .rw[lU];have key: ∀(l:List Expr) (b:List aj),pR b->pR (l.foldl (fun a e=>cv a (aR e)) b):=by
     intro l
     induction l with
     |nil=>exact fun _ h=>h
     |cons t r ih=>intro b h;exact ih _ (fq h)
    exact key _ _ Z6
   .exact Z6
theorem B3(a:fa):pR (aF a):=by
 have key: ∀(l:List Lit) (b:List aj),pR b->pR (l.foldl JC b):=by
  intro l
  induction l with
  |nil=>exact fun _ h=>h
  |cons t r ih=>intro b h;exact ih _ (fq h)
 refine key _ _ ?_;split
 .exact Z6
 .exact wJ _
theorem E7(r:aq)(lit:Int):ti r lit=mG r lit:=by
 unfold ti mG;split
 .rfl
 .refine Gv (rZ (cf _).1) ((B3 _).sublist aaR) fun x=>?_
  unfold lR;have u:=(cf (bj (ah r lit).agg)).2 x;rw[YO,iz,vq (fun _=>jI) x,<-u];constructor
  .intro h;obtain⟨y,j,rfl⟩:=YP.1 h;obtain⟨b,d⟩:=YO.1 j;exact⟨YP.2 ⟨y,b,rfl⟩,d⟩
  .rintro⟨b,d⟩;obtain⟨y,j,rfl⟩:=YP.1 b;exact YP.2 ⟨y,YO.2 ⟨j,d⟩,rfl⟩
end Go.Proofs.YtflegjieadkonaaGreatDoor
namespace Go.Proofs.YtflegjieadkonaaGreatDoor
open Go Go.Al Go.Proofs.Tryz
def kY(r:aq):List aj:=tr lc (outer r) r.body []
theorem c32(r:aq)(hb:4*r.size<=1000000000000):Pure prog 252 [ag r.c] (.iv (strs (kY r))):=by
 have hu:=hb;unfold aq.size at hu;refine ad ab func252 Z (by decide) ntmps252 Z (by simp) Z ?_;refine gA Z (zp (Us r (by omega)) ?_);refine gA Z (zp ((c74 r.body [] (outer r) lc (by simp;omega)).le (aa:=[.iv (lits r.body),.iv (.v (.slice kw 0 0)),.iv (strs (outer r)),pB lc]) ⟨.refl _,.nil _ _,.refl _,.refl _,ac⟩) ?_);exact zU Z
def vn(r:aq)(lit:Int):List aj:=(aF (ah r lit).agg).foldl (fun k x=>if ch (outer r) x then bZ k x else k) []
def mH(r:aq)(lit:Int):List aj:=tr li [] (ah r lit).au (vn r lit)
theorem vY(p:aj->Bool): ∀(l k:List aj),(l.foldl (fun k x=>if p x then bZ k x else k) k).length<=k.length+l.length
 | [],k=>by simp
 |x::r,k=>by
  have b:=vY p r (if p x then bZ k x else k);have j:=jA k x;simp only[YN,YT];split at b<;>rename_i d<;>simp only[d,if_true,ZH,if_false]<;>omega
theorem XA(r:aq)(lit:Int)(h0:0<=lit)(h1:lit<r.body.length)(hb:8*r.size<=1000000000000):Pure prog 253 [ag r.c,pI lit] (.iv (strs (mH r lit))):=by
 have hu:=hb;unfold aq.size at hu;have D:lit.toNat<r.body.length:=by omega
 have G:(ah r lit).size<=Lit.aA r.body:=Lit.aS r.body lit.toNat D;have B:=(ah r lit).fC;have C:=jc (ah r lit).agg;have F:=(ah r lit).size_eq;refine ad ab func253 Z (by decide) ntmps253 Z (by simp) Z ?_;refine gA Z (zp (Us r (by omega)) ?_);refine gA Z (zp (V1 (ah r lit).agg (by omega)) ?_);refine gA Z ?_;refine ar 0 (aF (ah r lit).agg).length (Yl _) (fun i=>⟨[(5,.ptr 1 0),(6,.iv (strs (outer r))),(7,.iv (strs (((aF (ah r lit).agg).take i).foldl (fun k x=>if ch (outer r) x then bZ k x else k) []))),(8,.iv (strs (aF (ah r lit).agg))),(9,pI i)],[(1,jp (ak (ah r lit).agg.c1))],2⟩) (fun _=>True) [] ac
  ?_ fun i I _=>?_
 .refine zM (bv (bv ⟨.nil _ _,rfl,bv (bv ac)⟩)) ⟨⟨_,rfl,?_⟩,Yd Z,oF _ _,ac⟩;rw[tB];exact gi.cells ⟨.refl _,.refl _,.refl _,.refl _,.refl _,.refl _,.refl _,.refl _,.refl _,.iv (ly _),ac⟩
 have j:=vY (ch (outer r)) ((aF (ah r lit).agg).take i) [];simp only[ZM,YV]at j;refine zJ Z Z (fun d=>?_) fun d=>?_
 .have d:=ci d;have u:=cF (g:=fun k x=>if ch (outer r) x then bZ k x else k) (b:=[]) d;refine gA Z (bn (Js _ ((aF (ah r lit).agg).getD i io)) Z Z Z Z Z Z ?_);refine zJ Z Z (fun y=>?_) fun y=>?_
  .rw[am y]at u;refine gA Z (bn (Na _ _ (by omega)) Z Z Z Z Z Z ?_);refine gA Z ⟨d,ac,[],zM (bv (bv ⟨.of_eq (by rw[u];rfl),rfl,bv (bv ac)⟩)) (zK ac)⟩
  .rw[be (by rw[y];simp)]at u;refine gA Z ⟨d,ac,[],zM (bv (bv ⟨.of_eq (by rw[u];rfl),rfl,bv (bv ac)⟩)) (zK ac)⟩
 .have d:=co d;have A:((aF (ah r lit).agg).take i).foldl (fun k x=>if ch (outer r) x then bZ k x else k) []=vn r lit:=ma d;rw[A]at j ⊢;refine gA Z (zp ((c74 (ah r lit).au (vn r lit) [] li (by omega)).le (aa:=[.iv (lits (ah r lit).au),.iv (strs (vn r lit)),.iv (.v (.slice kw 0 0)),pB li]) ⟨.refl _,.refl _,.nil _ _,.refl _,ac⟩) ?_);exact zU Z
theorem Ez{l:Lit}{k:List aj}(h:(dU l k).2=lc):((dU l k).1=l.left.var∨(dU l k).1=l.right.var)∧(dU l k).1∉k:=by
 unfold dU at h ⊢;split at h
 .cases h
 .rename_i j;rw[be j];split at h
  .rename_i b;rw[am b];exact⟨.inl Z,ei.1 b.2.1⟩
  .rename_i b;rw[be b];by_cases d:l.right.kind=1∧(if l.left.kind=1 then ch k l.left.var else lw (l.left.kind=2))=lc
   .rw[am d]at h ⊢;exact⟨.inr Z,ei.1 (by simpa using h)⟩
   .rw[be d]at h;cases h
def jD(a:List aj×Bool)(l:Lit):List aj×Bool:=if(dU l a.1).2=lc then(bZ a.1 (dU l a.1).1,lc) else a
def nM(body:List Lit)(k:List aj):List aj×Bool:=body.foldl jD (k,li)
def ve(body:List Lit):Nat->List aj->List aj
 |0,k=>k
 |n+1,k=>if(nM body k).2=lc then ve body n (nM body k).1 else(nM body k).1
theorem vP{body:List Lit}{n:Nat}{k:List aj}:ve body (n+1) k=if(nM body k).2=lc then ve body n (nM body k).1 else(nM body k).1:=rfl
def fN(r:aq):List aj:=ve r.body (3*r.body.length+1) (r.body.foldl gU [])
theorem Kb{c:List aj}{a:List aj×Bool}{l:Lit}(hc: ∀v∈ [l.left.var,l.right.var,l.bp],v∈c):
  (jD a l).1.length+bI c (jD a l).1<=a.1.length+bI c a.1∧bI c (jD a l).1<=bI c a.1∧((jD a l).2=lc->a.2=lc∨bI c (jD a l).1<bI c a.1):=by
 unfold jD;split
 .rename_i h;obtain⟨h1,b⟩:=Ez h;have d:=oY (hc _ (by rcases h1 with h1|h1<;>simp[h1])) b;have j:=jA a.1 (dU l a.1).1;exact⟨by dsimp only;omega,by dsimp only;omega,fun _=> .inr d⟩
 .exact⟨Ym _,Ym _,fun h=> .inl h⟩
theorem En{c:List aj}: ∀{body:List Lit} {a:List aj×Bool},(∀l∈body,∀v∈ [l.left.var,l.right.var,l.bp],v∈c)->
  (body.foldl jD a).1.length+bI c (body.foldl jD a).1<=a.1.length+bI c a.1∧bI c (body.foldl jD a).1<=bI c a.1∧
  ((body.foldl jD a).2=lc->a.2=lc∨bI c (body.foldl jD a).1<bI c a.1)
 | [],a,_=>⟨Ym _,Ym _,fun h=> .inl h⟩
 |l::r,a,hc=>by
  obtain⟨j,u,b⟩:=Kb (a:=a) (hc l Yy);obtain⟨g1,g2,g3⟩:=En (body:=r) (a:=jD a l) fun l d=>hc l (Yt _ d);simp only[YN];refine⟨by omega,by omega,fun h=>?_⟩;rcases g3 h with g|g
  .rcases b g with h|h
   .exact .inl h
   .exact .inr (by omega)
  .exact .inr (by omega)
theorem c34(r:aq)(hb:4*r.size<=1000000000000):Pure prog 134 [ag r.c] (.iv (strs (fN r))):=by
 unfold aq.size at hb;have S:=Lit.ax r.body;have F:=iV r.body [];have a0:=jM r.body;have d0:=oZ (bH r.body) (r.body.foldl gU []);simp only[ZM]at F;refine ad ab func134 Z (by decide) ntmps134 Z (by simp) Z ?_;refine gA Z ?_;refine ar 0 r.body.length (Yl _) (fun i=>⟨[(1,.ptr 0 0),(3,.iv (strs ((r.body.take i).foldl gU []))),(4,pI i)],[(0,jp (ak r.c))],1⟩) (fun _=>True) [] ac
  (zM (bv ⟨.nil _ _,rfl,bv trivial⟩) (zK trivial)) fun i hi _=>?_
 refine zJ Z Z (fun y=>?_) fun y=>?_
 .have y:=ci y;have j:=cF (g:=gU) (b:=[]) y;have G:=iV (r.body.take i) [];have hn:=Lit.cJ r.body i y;have Y:=iG (r.body.getD i io).atom;have f0:=(r.body.getD i io).size_eq;simp only[ZM]at G;refine zJ Z Z (fun u=>?_) fun u=>?_
  .have u:(r.body.getD i io).kind=1:=by simpa using u
   rw[show gU ((r.body.take i).foldl gU []) (r.body.getD i io)=_ from am u]at j;refine gA Z (zp (Ur (r.body.getD i io).atom (by omega)) ?_);refine gA Z (bn (T6 _ _ (by omega)) Z Z Z Z Z Z ?_);refine gA Z ⟨y,ac,[],zM (bv ⟨.of_eq (by rw[j];rfl),rfl,bv ac⟩) (zK ac)⟩
  .have u: ¬(r.body.getD i io).kind=1:=by simpa using u
   rw[show gU ((r.body.take i).foldl gU []) (r.body.getD i io)=_ from be u]at j;refine gA Z ⟨y,ac,[],zM (bv ⟨.of_eq (by rw[j];rfl),rfl,bv ac⟩) (zK ac)⟩
 have y:=co y;have I:(r.body.take i).foldl gU []=r.body.foldl gU []:=ma y;rw[I];refine gA Z ?_;refine ow (σ:={x:List aj×Bool×Nat//fN r=(if x.2.1=lc then ve r.body (x.2.2+1) x.1 else x.1)∧(x.2.1=lc->bI (bH r.body) x.1<=x.2.2)∧x.1.length+bI (bH r.body) x.1<=(r.body.foldl gU []).length+bI (bH r.body) (r.body.foldl gU [])})
  (fun x=>⟨[(1,.ptr 0 0),(3,.iv (strs x.1.1)),(6,pB x.1.2.1)],[(0,jp (ak r.c))],1⟩) (fun x=>if x.1.2.1=lc then bI (bH r.body) x.1.1+1 else 0)
  ⟨(r.body.foldl gU [],lc,3*r.body.length),by simp[fN],fun _=>by dsimp only;omega,Ym _⟩ [] (zM (bv (bv ⟨.rK Z,rfl,ac⟩)) (zK trivial)) ?_
 rintro⟨⟨k,more,f⟩,hx1,hx2,hx3⟩;dsimp only at hx1 hx2 hx3 ⊢;refine zJ Z Z (fun u=>?_) fun u=>?_
 .subst u;rw[am Z]at hx1;have c0:=hx2 Z;refine gA Z ?_;refine ar 0 r.body.length (Yl _) (fun i=>⟨[(1,.ptr 0 0),(3,.iv (strs ((r.body.take i).foldl jD (k,li)).1)),(6,pB ((r.body.take i).foldl jD (k,li)).2),(7,pI i)],[(0,jp (ak r.c))],1⟩) (fun _=>True) [] ac
   (zM (bv (bv ⟨.rK Z,rfl,bv trivial⟩)) (zK trivial)) fun i hi _=>?_
  have d:=En (c:=bH r.body) (body:=r.body.take i) (a:=(k,li)) fun l hl v G=>rA (aaI hl) G;dsimp only at d;refine zJ Z Z (fun A=>?_) fun A=>?_
  .have A:=ci A;have j:=cF (g:=jD) (b:=(k,li)) A;generalize b0:(r.body.take i).foldl jD (k,li)=ka at d j ⊢;refine gA Z (zp (c78 (r.body.getD i io) ka.1) ?_);refine zJ Z Z (fun C=>?_) fun C=>?_
   .rw[show jD ka (r.body.getD i io)=_ from am C]at j;refine gA Z (bn (Na ka.1 _ (by omega)) Z Z Z Z Z Z ?_);refine gA Z ⟨A,ac,[],zM (bv ⟨.of_eq (by rw[j];rfl),rfl,.rK (by rw[j]),rfl,bv ac⟩) (zK ac)⟩
   .rw[show jD ka (r.body.getD i io)=_ from be (by rw[C];simp)]at j;refine gA Z ⟨A,ac,[],zM (bv ⟨.of_eq (by rw[j];rfl),rfl,.of_eq (by rw[j];rfl),rfl,bv ac⟩) (zK ac)⟩
  .have A:=co A;have J:(r.body.take i).foldl jD (k,li)=nM r.body k:=ma A;rw[J]at d ⊢;refine gA Z ?_;refine⟨⟨((nM r.body k).1,(nM r.body k).2,f-1),?_,fun B=>?_,by dsimp only;omega⟩,[],?_,zW (zK ac)⟩
   .dsimp only;rw[hx1,vP];by_cases B:(nM r.body k).2=lc
    .have:=d.2.2 B;have D:f-1+1=f:=by simp at this;omega
     rw[am B,am B,D]
    .rw[be B,be B]
   .have:=d.2.2 B;simp at this;dsimp only;omega
   .dsimp only;split
    .rename_i B;have:=d.2.2 B;simp at this;simp;omega
    .simp
 .subst u;rw[be (by simp)]at hx1;refine gA Z (zL (.of_eq ?_));rw[hx1];rfl
end Go.Proofs.YtflegjieadkonaaGreatDoor
namespace Go.Proofs.YtflegjieadkonaaGreatDoor
open Go Go.Al
section
section
variable (stp:List aj->Lit->aj×Bool)
def gS(a:List aj×Bool)(l:Lit):List aj×Bool:=if(stp a.1 l).2=lc then(bZ a.1 (stp a.1 l).1,lc) else a
def gR(body:List Lit)(k:List aj):List aj×Bool:=body.foldl (gS stp) (k,li)
def gN(body:List Lit):Nat->List aj->List aj
 |0,k=>k
 |n+1,k=>if(gR stp body k).2=lc then gN body n (gR stp body k).1 else(gR stp body k).1
variable {stp}
theorem Hy: ∀(body:List Lit) (k:List aj),(body.foldl (gS stp) (k,lc)).2=lc
 | [],k=>rfl
 |l::r,k=>by
  rw[YN];have: ∃b,gS stp (k,lc) l=(b,lc):=by
   unfold gS;split
   .exact⟨_,rfl⟩
   .exact⟨_,rfl⟩
  obtain⟨b,d⟩:=this;rw[d];exact Hy r b
theorem Ek: ∀{body:List Lit} {k:List aj},(body.foldl (gS stp) (k,li)).2=li->(body.foldl (gS stp) (k,li)).1=k∧ ∀l∈body,(stp k l).2=li
 | [],k,_=>⟨rfl,by simp⟩
 |l::r,k,h=>by
  rw[YN]at h ⊢;cases hs:(stp k l).2 with
  |true=>
   have:gS stp (k,li) l=(bZ k (stp k l).1,lc):=am hs;rw[this,Hy]at h;cases h
  |false=>
   have:gS stp (k,li) l=(k,li):=be (by rw[hs];simp);rw[this]at h ⊢;obtain⟨b,d⟩:=Ek h
   exact⟨b,fun x hx=>by
    rcases Yx.1 hx with rfl|hx
    .exact hs
    .exact d x hx⟩
theorem F1: ∀(body:List Lit) (a:List aj×Bool),∀x∈a.1,x∈(body.foldl (gS stp) a).1
 | [],a,x,h=>h
 |l::r,a,x,h=>by
  rw[YN];refine F1 r _ x ?_;unfold gS;split
  .exact ct.2 (.inl h)
  .exact h
theorem L4{body:List Lit}: ∀(n:Nat) (k:List aj),∀x∈k,x∈gN stp body n k
 |0,k,x,h=>h
 |n+1,k,x,h=>by
  unfold gN;split
  .exact L4 n _ x (F1 body (k,li) x h)
  .exact F1 body (k,li) x h
theorem vv: ∀(body:List Lit) (a:List aj×Bool),pR a.1->pR (body.foldl (gS stp) a).1
 | [],a,h=>h
 |l::r,a,h=>by
  rw[YN];refine vv r _ ?_;unfold gS;split
  .exact jQ h _
  .exact h
theorem AI{body:List Lit}: ∀(n:Nat) (k:List aj),pR k->pR (gN stp body n k)
 |0,k,h=>h
 |n+1,k,h=>by
  unfold gN;split
  .exact AI n _ (vv body (k,li) h)
  .exact vv body (k,li) h
variable (hnew: ∀(k:List aj) (l:Lit),(stp k l).2=lc->(stp k l).1∈ [l.left.var,l.right.var,l.bp]∧(stp k l).1∉k)
include hnew
theorem Hx{c:List aj}: ∀{body:List Lit} {a:List aj×Bool},(∀l∈body,∀v∈ [l.left.var,l.right.var,l.bp],v∈c)->
  bI c (body.foldl (gS stp) a).1<=bI c a.1∧((body.foldl (gS stp) a).2=lc->a.2=lc∨bI c (body.foldl (gS stp) a).1<bI c a.1)
 | [],a,_=>⟨Ym _,fun h=> .inl h⟩
 |l::r,a,hc=>by
  have b:bI c (gS stp a l).1<=bI c a.1∧((gS stp a l).2=lc->a.2=lc∨bI c (gS stp a l).1<bI c a.1):=by
   unfold gS;split
   .rename_i h;obtain⟨g1,g2⟩:=hnew _ _ h;have:=oY (hc l Yy _ g1) g2;exact⟨by dsimp only;omega,fun _=> .inr this⟩
   .exact⟨Ym _,fun h=> .inl h⟩
  obtain⟨g1,g2⟩:=Hx (body:=r) (a:=gS stp a l) fun l d=>hc l (Yt _ d);rw[YN];refine⟨by omega,fun h=>?_⟩;rcases g2 h with g3|g3
  .rcases b.2 g3 with g4|g4
   .exact .inl g4
   .exact .inr (by omega)
  .exact .inr (by omega)
theorem L3{body:List Lit}: ∀(n:Nat) (k:List aj),bI (bH body) k<n-> ∀l∈body,(stp (gN stp body n k) l).2=li
 |0,k,h,_,_=>by omega
 |n+1,k,h,l,b=>by
  unfold gN;cases hr:(gR stp body k).2 with
  |true=>
   rw[am Z];refine L3 n _ ?_ l b;obtain⟨_,g2⟩:=Hx hnew (c:=bH body) (body:=body) (a:=(k,li)) fun l b v d=>rA b d;rcases g2 hr with g3|g3
   .cases g3
   .unfold gR;dsimp only at g3;omega
  |false=>
   rw[be (by simp)];obtain⟨g1,g2⟩:=Ek hr;unfold gR;rw[g1];exact g2 l b
end
theorem qA{m1:Expr->Bool}{m2:fa->Bool}{occ:List aj}: ∀{l:List Lit},(∀x∈l,mE m1 m2 occ x=kw)->cK m1 m2 occ l=kw
 | [],_=>rfl
 |y::r,h=>by
  simp only[cK,h y Yy];exact qA fun x b=>h x (Yt _ b)
section
variable {stp:List aj->Lit->aj×Bool} {may:List aj->Expr->Bool} {more:List aj->fa->Bool} {body:List Lit}
variable (hE: ∀(k:List aj) (l:Lit),mE (may k) (more k) k l=if(stp k l).2=lc then jp (stp k l).1 else kw)
variable (hmay: ∀a b:List aj,(∀x∈a,x∈b)-> ∀e,may a e=lc->may b e=lc) (hmore: ∀a b:List aj,(∀x∈a,x∈b)-> ∀e,more a e=lc->more b e=lc)
include hE
theorem OB(k:List aj)(l:Lit)(h:(stp k l).2=lc):(stp k l).1∈ [l.left.var,l.right.var,l.bp]∧(stp k l).1∉k:=by
 have:=hE k l;rw[am h]at this;exact xU this
include hmay hmore
theorem L1{C:List aj}(hC: ∀l∈body,mE (may C) (more C) C l=kw): ∀(b:List Lit) (a:List aj×Bool),(∀l∈b,l∈body)->(∀x∈a.1,x∈C)-> ∀x∈(b.foldl (gS stp) a).1,x∈C
 | [],a,_,h,x,hx=>h x hx
 |l::r,a,hb,h,x,hx=>by
  rw[YN]at hx;refine L1 hC r _ (fun l j=>hb l (Yt _ j)) (fun y d=>?_) x hx;unfold gS at d;split at d
  .rename_i u;rcases ct.1 d with d|rfl
   .exact h y d
   .have:=hE a.1 l;rw[am u]at this;exact G9 hmay hmore h this (hC l (hb l Yy))
  .exact h y d
theorem L2{C:List aj}(hC: ∀l∈body,mE (may C) (more C) C l=kw): ∀(n:Nat) (k:List aj),(∀x∈k,x∈C)-> ∀x∈gN stp body n k,x∈C
 |0,k,h,x,hx=>h x hx
 |n+1,k,h,x,hx=>by
  unfold gN at hx;have b:=L1 hE hmay hmore hC body (k,li) (fun _ h=>h) h;split at hx
  .exact L2 hC n _ b x hx
  .exact b x hx
theorem pW{k occ:List aj}(d: ∀x,x∈k↔x∈occ++body.flatMap bK)(x:aj):x∈gN stp body (3*body.length+1) k↔x∈cN may more body occ:=by
 constructor
 .refine L2 hE hmay hmore (C:=cN may more body occ) (qC (wj occ)) _ _ (fun y b=>?_) x;exact qM _ _ y ((d y).1 b)
 .refine qL hmay hmore (C:=gN stp body (3*body.length+1) k) (qA fun l j=>?_) _ _ (fun y b=>L4 _ _ y ((d y).2 b)) x;have u:=oZ (bH body) k;have A:=jM body;rw[hE,L3 (OB hE) _ _ (by omega) l j,be (by simp)]
end
theorem uj{x:aj}: ∀{l:List Lit} {a:List aj},x∈l.foldl gU a↔x∈a∨x∈l.flatMap bK
 | [],a=>by simp
 |t::r,a=>by
  rw[YN,uj,Zk,Ys];by_cases b:t.kind=1
  .rw[show gU a t=cv a (dE t.atom) from am b,show bK t=de t.atom from am b,gY,jX,or_assoc]
  .rw[show gU a t=a from be b,show bK t=[] from be b];simp
theorem vO: ∀(l:List Lit) (a:List aj),pR a->pR (l.foldl gU a)
 | [],a,h=>h
 |t::r,a,h=>by
  rw[YN];refine vO r _ ?_;unfold gU;split
  .exact fq h
  .exact h
theorem ET{k:List aj}{e:Expr}(h:e.kind=1):lY k (aR e)=ch k e.var:=by
 rw[pg h];simp[lY]
theorem qV(k:List aj)(e:Expr):lY k (aR e)=aW k e:=by
 rw[YU,MR];unfold aW;rw[YG];exact⟨fun h x b=>aP.2 (h x (iA.2 b)),fun h x b=>aP.1 (h x (iA.1 b))⟩
theorem C6(k:List aj)(l:Lit):ko l k=gf (aW k) k l:=by
 unfold ko gf;split
 .rfl
 .have b:l.left.kind=1->aW k l.left=ch k l.left.var:=fun h=>by rw[<-qV,ET h]
  have d:l.right.kind=1->aW k l.right=ch k l.right.var:=fun h=>by rw[<-qV,ET h]
  simp only[qV];by_cases j:l.left.kind=1<;>by_cases u:l.right.kind=1<;>simp[j,u,b,d]
theorem Mv{may:Expr->Bool}{k:List aj}{l:Lit}(h:(gf may k l).2=lc):l.kind=3:=by
 unfold gf at h;split at h
 .cases h
 .rename_i b;exact Zu fun d=>b (.inl d)
theorem Jx(out:List aj)(r:aq)(k:List aj)(a:fa)(ho: ∀x,x∈out↔x∈az r):su a k out=(!ch k a.var&&iX (az r) k a):=by
 unfold su iX;congr 1;rw[YU,YG,YG];have key: ∀x,(!(ch out x&&(!ch k x&&!lw (x=a.var))))=(lw (x=a.var)||(!ch (az r) x||ch k x)):=fun x=>by
  rw[vq ho x];cases ch (az r) x<;>cases ch k x<;>cases lw (x=a.var)<;>rfl
 constructor
 .intro h x b;rw[<-key];exact h x (iz.2 b)
 .intro h x b;rw[key];exact h x (iz.1 b)
theorem IK(r:aq)(k:List aj)(l:Lit):mE (aW k) (iX (az r) k) k l=if(fH lc (outer r) k l).2=lc then jp (fH lc (outer r) k l).1 else kw:=by
 unfold mE fH;by_cases b:l.kind=4
 .have d: ¬(gf (aW k) k l).2=lc:=fun h=>by have:=Mv h;omega
  rw[be d,am (c:=lc=lc∧l.kind=4) ⟨rfl,b⟩];dsimp only;rw[Jx (outer r) r k l.agg fun _=>jI];show(if l.kind=4∧ch k l.bp=li∧iX (az r) k l.agg=lc then jp l.bp else kw)=if(!ch k l.bp&&iX (az r) k l.agg)=lc then jp l.bp else kw;cases ch k l.bp<;>cases iX (az r) k l.agg<;>simp[b]
 .rw[be (c:=l.kind=4∧_) (fun h=>b h.1),be (c:=lc=lc∧_) (fun h=>b h.2),C6]
theorem K7(k:List aj)(l:Lit):mE (c7 k) (fun _=>li) k l=if(dU l k).2=lc then jp (dU l k).1 else kw:=by
 unfold mE;rw[be (c:=l.kind=4∧_) (fun h=>Bool.noConfusion h.2.2)];have:(if(gf (c7 k) k l).2=lc then jp (gf (c7 k) k l).1 else kw)=if(dU l k).2=lc then jp (dU l k).1 else kw:=by
  unfold gf dU c7;split
  .rfl
  .by_cases b:l.left.kind=1<;>by_cases a2:l.right.kind=1<;>by_cases a3:l.left.kind=2<;>by_cases a4:l.right.kind=2<;>cases a5:ch k l.left.var<;>cases a6:ch k l.right.var<;>simp_all
 exact this
theorem yj(own:Bool)(out:List aj)(body:List Lit): ∀(n:Nat) (k:List aj),Az own out body n k=gN (fH own out) body n k
 |0,k=>rfl
 |n+1,k=>by
  rw[yi,yj own out body n];rfl
theorem z8(body:List Lit): ∀(n:Nat) (k:List aj),ve body n k=gN (fun k l=>dU l k) body n k
 |0,k=>rfl
 |n+1,k=>by
  rw[vP,z8 body n];rfl
theorem told_plain(r:aq):fu (aJ (rV r))=fN r:=by
 unfold fN;rw[z8];refine CF (AI _ _ (vO _ _ Z6)) fun x=>?_;exact(pW (may:=fun b=>c7 b) (more:=fun _=>fun _=>li) K7 Dt (fun _ _ _ _ h=>h) (fun y=>by rw[uj];simp) x).symm
end
end Go.Proofs.YtflegjieadkonaaGreatDoor
namespace Go.Proofs
open Go.Shelf
def Tryz.DS:Go.Shelf.Ren:=⟨fun|190=>91|125=>122|258=>121|128=>152|129=>153|302=>143|303=>144|304=>145|305=>146|306=>147|307=>148|308=>149|309=>150|310=>151|333=>180|329=>181|330=>182|334=>183|335=>184|336=>185|344=>213|n=>n,fun|31=>53|9=>9|3=>3|46=>179|0=>0|51=>203|53=>205|4=>4|183=>196|182=>195|131=>50|5=>5|218=>233|222=>237|228=>280|229=>281|n=>n,fun|n=>n⟩
theorem Tryz.Hg:Go.Proofs.Lays.n190 Tryz.prog Tryz.DS:={
 mixed:=by kernel_rfl
 f125:=Tryz.func122.trans (congrArg jp (by kernel_rfl))
 f128:=Tryz.func152.trans (congrArg jp (by kernel_rfl))
 f129:=Tryz.func153.trans (congrArg jp (by kernel_rfl))
 f190:=Tryz.func91.trans (congrArg jp (by kernel_rfl))
 f258:=Tryz.func121.trans (congrArg jp (by kernel_rfl))
 f302:=Tryz.func143.trans (congrArg jp (by kernel_rfl))
 f303:=Tryz.func144.trans (congrArg jp (by kernel_rfl))
 f304:=Tryz.func145.trans (congrArg jp (by kernel_rfl))
 f305:=Tryz.func146.trans (congrArg jp (by kernel_rfl))
 f306:=Tryz.func147.trans (congrArg jp (by kernel_rfl))
 f307:=Tryz.func148.trans (congrArg jp (by kernel_rfl))
 f308:=Tryz.func149.trans (congrArg jp (by kernel_rfl))
 f309:=Tryz.func150.trans (congrArg jp (by kernel_rfl))
 f310:=Tryz.func151.trans (congrArg jp (by kernel_rfl))
 f329:=Tryz.func181.trans (congrArg jp (by kernel_rfl))
 f330:=Tryz.func182.trans (congrArg jp (by kernel_rfl))
 f333:=Tryz.func180.trans (congrArg jp (by kernel_rfl))
 f334:=Tryz.func183.trans (congrArg jp (by kernel_rfl))
 f335:=Tryz.func184.trans (congrArg jp (by kernel_rfl))
 f336:=Tryz.func185.trans (congrArg jp (by kernel_rfl))
 f344:=Tryz.func213.trans (congrArg jp (by kernel_rfl))
 t0:=Tryz.underlying0
 a0:=Tryz.isAgg0
 z0:=Tryz.sizeOf0
 v0:=Tryz.zeroValue0
 t3:=Tryz.underlying3
 a3:=Tryz.isAgg3
 z3:=Tryz.sizeOf3
 v3:=Tryz.zeroValue3
 t4:=Tryz.underlying4
 a4:=Tryz.isAgg4
 z4:=Tryz.sizeOf4
 v4:=Tryz.zeroValue4
 t5:=Tryz.underlying5
 a5:=Tryz.isAgg5
 z5:=Tryz.sizeOf5
 v5:=Tryz.zeroValue5
 t9:=Tryz.underlying9
 a9:=Tryz.isAgg9
 z9:=Tryz.sizeOf9
 v9:=Tryz.zeroValue9
 t31:=Tryz.underlying53
 a31:=Tryz.isAgg53
 z31:=Tryz.sizeOf53
 v31:=Tryz.zeroValue53
 t46:=Tryz.underlying179
 a46:=Tryz.isAgg179
 z46:=Tryz.sizeOf179
 v46:=Tryz.zeroValue179
 t51:=Tryz.underlying203
 a51:=Tryz.isAgg203
 z51:=Tryz.sizeOf203
 v51:=Tryz.zeroValue203
 t53:=Tryz.underlying205
 a53:=Tryz.isAgg205
 z53:=Tryz.sizeOf205
 v53:=Tryz.zeroValue205
 t131:=Tryz.underlying50
 a131:=Tryz.isAgg50
 z131:=Tryz.sizeOf50
 v131:=Tryz.zeroValue50
 t182:=Tryz.underlying195
 a182:=Tryz.isAgg195
 z182:=Tryz.sizeOf195
 v182:=Tryz.zeroValue195
 t183:=Tryz.underlying196
 a183:=Tryz.isAgg196
 z183:=Tryz.sizeOf196
 v183:=Tryz.zeroValue196
 t218:=Tryz.underlying233
 a218:=Tryz.isAgg233
 z218:=Tryz.sizeOf233
 v218:=Tryz.zeroValue233
 t222:=Tryz.underlying237
 a222:=Tryz.isAgg237
 z222:=Tryz.sizeOf237
 v222:=Tryz.zeroValue237
 t228:=Tryz.underlying280
 a228:=Tryz.isAgg280
 z228:=Tryz.sizeOf280
 v228:=Tryz.zeroValue280
 t229:=Tryz.underlying281
 a229:=Tryz.isAgg281
 z229:=Tryz.sizeOf281
 v229:=Tryz.zeroValue281}
theorem YtflegjieadkonaaGreatDoor.RU:YtflegjieadkonaaGreatDoor.fD:=
 ⟨fun j b0 a0 x w u b d=>Any.slices_Sort_string Tryz.Hg j b0 a0 x w u b d,fun p a0 w=>Any.slices_Sort_string_none Tryz.Hg p a0 w⟩
end Go.Proofs
namespace Go.Proofs.YtflegjieadkonaaGreatDoor
open Go Go.Al Go.Proofs.Tryz
theorem fL{α:Type}[Inhabited α]{f:α->List IV}(h: ∀x,jw ((f x).map .iv)=lc)(l:List α):allOnes ((Yv l.length).map fun k=>(f (l.getD k io)).map PV.iv)=lc:=by rw[oO];exact wq h l
theorem c20(a:Atom)(hb:a.ae.length<=100000000000):Pure prog 48 [ag a.c] (ag a.c):=by
 refine ad ab func48 Z (by decide) ntmps48 Z (by simp) Z ?_;refine gA Z (kf (.inr Z) Z (iR.wE 3 a.ae Term.c Z (oO _ _) (by simp[PV.bG,dC]) (.done (.of_eq (by simp only[PV.dT,oy,YC];rfl)))))
theorem c95: ∀(n:Nat) (e:Expr),e.size<=n->e.size<=100000000000->Pure prog 89 [ag e.c] (ag e.c)
 |0,e,h,_=>absurd e.size_pos (by omega)
 |n+1,e,h,hb=>by
  have y:=e.size_eq;have u:=Expr.ax e.args;refine Al.Pure.le (aa:=[ag e.c]) (args:=[ag e.c1]) ?_ ⟨e.x9,ac⟩;refine ad ab func89 Z (by decide) ntmps89 Z (by simp) Z ?_;refine gA Z ?_;refine k9 2 6 7 Z Z ?_;refine ar 0 e.args.length (Yl _) (fun i=>⟨[(1,.ptr 0 0),(2,.ptr 1 0),(3,.ptr 2 0),(4,pI i)],[(0,jp (ak e.c1)),(1,jp (.cells [pI 0,pS Yp,pI 0,pI 0,pS Yp,pI 0,.iv (.v (.slice kw 0 0))])),(2,jp (.cells [.iv (iI e.kind),.iv (iS e.var),.iv (iI e.val.kind),.iv (iI e.val.num),.iv (iS e.val.sym),.iv (iI e.op),.sl 4 0 i 7])),(4,jp (aC 7 (e.args.take i) Expr.c))],5⟩) (fun _=>True) [3] ac
   (zW (zK (zO (zO (zS trivial))))) fun i B _=>?_
  refine zJ Z Z (fun b=>?_) fun b=>?_
  .have b:=ci b;have A:=Expr.aS e.args i b;have x:(e.args.take i).length=i:=by rw[YV];omega
   have j:=aK (l:=e.args) b;refine gA Z (kR (c95 n (e.args.getD i io) (by omega) (by omega)) ?_);refine gA Z ⟨b,ac,[6],zW (zK (zO (zO (hR Z (by rw[j,Yk];rfl) Z ac))))⟩
  .have b:=co b;have d:i=e.args.length:=by omega
   subst d;rw[Yn (Ym _)];refine gA Z (kf (.inr Z) Z (iR.wE 4 e.args Expr.c Z Z (by simp[PV.bG,dC]) (.done ?_)));have:aG (ag e.c1) (ag e.c):=e.IZ;simp only[PV.dT,oy,YC];exact this
theorem T5(e:Expr)(hb:e.size<=100000000000):Pure prog 89 [ag e.c] (ag e.c):=c95 e.size e (Ym _) hb
theorem Xh: ∀(n:Nat) (l:List Lit) (y:IV),Lit.aA l<=n->Lit.aA l<=100000000000->nT (lits l) y->Pure prog 49 [.iv (lits l)] (.iv y):=by
 intro n
 induction n with
 |zero=>
  intro l y h hb A;have D:=Lit.ax l;have B:l.length=0:=by omega
  refine ad ab func49 Z (by decide) ntmps49 Z (by simp) Z ?_;refine gA Z ?_;refine ar 0 l.length (Yl _) (fun i=>⟨[(0,.iv (lits l)),(3,.iv (.v (.slice kw 0 0))),(4,pI i)],[],0⟩) (fun _=>True) [] ac
   (kT Z Z (bv (bv (bv trivial))) Z) fun i C _=>?_
  refine zJ Z Z (fun b=>?_) fun b=>?_
  .have b:=ci b;omega
  .refine gA Z (zL ?_);have d:l=[]:=ZP.1 B;subst d;exact .iv (fun M x J=>A M x (by cases J;exact .lz _ _ _ _))
 |succ n ih=>
  intro l y h hb A;have D:=Lit.ax l;refine ad ab func49 Z (by decide) ntmps49 Z (by simp) Z ?_;refine gA Z ?_;refine dF 3 30 Z ?_;refine ar 0 l.length (Yl _) (fun i=>⟨[(0,.iv (lits l)),(3,.sl 1 0 i 30),(4,pI i)],[(1,jp (aC 30 (l.take i) Lit.c))],2⟩) (fun _=>True) [0] ac
   (zW (zS trivial)) fun i C _=>?_
  refine zJ Z Z (fun b=>?_) fun b=>?_
  .have b:=ci b;have I:=Lit.aS l i b;have G:=(l.getD i io).size_eq;have F:(l.take i).length=i:=by rw[YV];omega
   have u:=aK (l:=l) b;refine gA Z (zp (c20 (l.getD i io).atom (by omega)) ?_);refine gA Z (zp (T5 (l.getD i io).left (by omega)) ?_);refine gA Z (zp (T5 (l.getD i io).right (by omega)) ?_);refine gA Z (zp (T5 (l.getD i io).kQ (by omega)) ?_);refine gA Z (bn (Al.Pure.le (aa:=[.iv (uI (l.getD i io).au)]) (ih (l.getD i io).au (uI (l.getD i io).au) (by omega) (by omega) (FL _)) ⟨.iv (ly _),ac⟩) Z Z Z Z Z Z ?_);refine gA Z ⟨b,ac,[4],zW (hR Z (by rw[u,Yk];rfl) Z ac)⟩
  .have b:=co b;have j:i=l.length:=by omega
   subst j;rw[Yn (Ym _)];refine gA Z (kf (r0:= .sl 1 0 l.length 30) (.inr Z) Z (iR.wE 1 l Lit.c Z Z (by simp[PV.bG,dC]) (.done ?_)));have:aG (.iv (lits l)) (.iv y):= .iv A;simp only[PV.dT,oy,YC];exact this
theorem c53(l:List Lit)(hb:Lit.aA l<=100000000000):Pure prog 49 [.iv (lits l)] (.iv (lits l)):=Xh _ l _ (Ym _) hb (fun _ _ h=>h)
def Prog.size(p:Prog):Nat:=p.aB.length+(p.aB.map fun d=>d.types.length).sum+p.rules.length+(p.rules.map aq.size).sum
theorem ra{α:Type}[Inhabited α](f:α->Nat): ∀(l:List α) (i:Nat),i<l.length->f (l.getD i io)<=(l.map f).sum
 |x::r,0,_=>by simp
 |x::r,i+1,h=>by
  have:=ra f r i (by simpa using h);simp only[ZE,Yz,aaa];omega
theorem oq(i sz n:Nat): ∀l:List IV,dC i sz n (l.map .iv)
 | []=>trivial
 |x::r=>⟨ac,oq i sz n r⟩
theorem jT{α:Type}(i sz n b:Nat)(l:List α)(f:α->List IV):(aC b l f).rk i sz n:=by
 intro k e j p d u;rw[Yo,Yq]at d;obtain⟨x,_,rfl⟩:=d;rw[Yo,Yq]at u;obtain⟨y,_,rfl⟩:=u;exact⟨y,rfl⟩
theorem c14(p:Prog)(hb:p.size<=100000000000):Pure prog 12 [ag p.c] (ag p.c):=by
 unfold Prog.size at hb;have C: ∀(l:List aq),l.length<=100000000000->True:=fun _ _=>trivial;refine ad ab func12 Z (by decide) ntmps12 Z (by simp) Z ?_;refine gA Z ?_;refine k9 2 0 4 Z Z ?_;refine k9 2 1 5 Z Z ?_
 refine ar 0 p.aB.length (Yl _) (fun i=>⟨[(1,.ptr 0 0),(2,.ptr 1 0),(3,.ptr 2 0),(4,pI i)],[(0,jp (ak p.c)),(1,jp (.cells [.iv (.v (.slice kw 0 0)),.iv (.v (.slice kw 0 0))])),(2,jp (.cells [.sl 5 0 i 4,.sl 4 0 0 5])),(4,jp (aC 5 ([]:List aq) aq.c)),(5,jp (aC 4 (p.aB.take i) Decl.c))],6⟩) (fun _=>True) [3] ac
  (zW (zK ⟨⟨_,rfl,.of_eq Z⟩,Yd Z,rfl,⟨_,rfl,.of_eq Z⟩,Yd Z,rfl,zS (zS trivial)⟩)) fun i B _=>?_
 refine zJ Z Z (fun b=>?_) fun b=>?_
 .have b:=ci b;have y:(p.aB.take i).length=i:=by rw[YV];omega
  have x:=aK (l:=p.aB) b;have A:=ra (fun d:Decl=>d.types.length) p.aB i b;refine gM 26 Z ?_;refine lG (L:=[]) (t:=⟨[(1,.ptr 0 0),(2,.ptr 1 0),(3,.ptr 2 0),(4,pI i),(5,.ptr 6 0),(6,.sl 8 0 (p.aB.getD i io).types.length 1)],[(0,jp (ak p.c)),(1,jp (.cells [.iv (.v (.slice kw 0 0)),.iv (.v (.slice kw 0 0))])),(2,jp (.cells [.sl 5 0 i 4,.sl 4 0 0 5])),(4,jp (aC 5 ([]:List aq) aq.c)),(5,jp (aC 4 (p.aB.take i) Decl.c)),(6,jp (ak (p.aB.getD i io).c)),(8,jp (aC 1 (p.aB.getD i io).types aY))],9⟩)
   (zM (bv (bv (bv (bv (bv ⟨.row (by rw[YC];rfl),rfl,ac⟩))))) (zK (zO (zO (zS (zS (zK (hR Z (oO _ _) Z trivial)))))))) ?_
  refine uv 8 (fun k=>aY ((p.aB.getD i io).types.getD k io)) Z (cL Z) (by simp[AF.rk,PV.bG]) ⟨oq _ _ _ _,(by simp[AO.rk,dC,PV.bG]),(by simp[AO.rk,dC,PV.bG]),jT _ _ _ _ _ _,jT _ _ _ _ _ _,oq _ _ _ _,jT _ _ _ _ _ _,ac⟩ ?_;refine gA Z ⟨b,ac,[10],zW (zK (zO (zO (zS (hR Z (by rw[x,Yk];simp only[YC];rfl) Z ac)))))⟩
 .have b:=co b;have u:i=p.aB.length:=by omega
  subst u;rw[Yn (Ym _)];refine gA Z ?_;refine ar 0 p.rules.length (Yl _) (fun i=>⟨[(1,.ptr 0 0),(2,.ptr 1 0),(3,.ptr 2 0),(7,pI i)],[(0,jp (ak p.c)),(1,jp (.cells [.iv (.v (.slice kw 0 0)),.iv (.v (.slice kw 0 0))])),(2,jp (.cells [.sl 5 0 p.aB.length 4,.sl 6 0 i 5])),(5,jp (aC 4 p.aB Decl.c)),(6,jp (aC 5 (p.rules.take i) aq.c))],7⟩) (fun _=>True) [4] ac
   (zW (zK (zO (zO (zS (zS trivial)))))) fun i B _=>?_
  refine zJ Z Z (fun j=>?_) fun j=>?_
  .have j:=ci j;have y:(p.rules.take i).length=i:=by rw[YV];omega
   have x:=aK (l:=p.rules) j;have A:=ra aq.size p.rules i j;have D:(p.rules.getD i io).size=(p.rules.getD i io).head.ae.length+Lit.aA (p.rules.getD i io).body:=rfl;refine gA Z (kR (c20 (p.rules.getD i io).head (by omega)) ?_);refine gA Z (kR (c53 (p.rules.getD i io).body (by omega)) ?_);refine gA Z ⟨j,ac,[8],zW (zK (zO (zO (zS (hR Z (by rw[x,Yk];rfl) Z ac)))))⟩
  .have j:=co j;have u:i=p.rules.length:=by omega
   subst u;rw[Yn (Ym _)];refine gA Z (kf (r0:= .agg [.sl 5 0 p.aB.length 4,.sl 6 0 p.rules.length 5]) (.inr Z) Z (iR.wE 5 p.aB Decl.c Z Z (by simp[PV.bG,dC]) (iR.wE 6 p.rules aq.c Z Z (by simp[PV.bG,dC,PV.dT,oy,show YJ 6 5=li from rfl]) (.done (.of_eq (by simp only[PV.dT,oy,YC,show YJ 6 5=li from rfl,show YJ 5 5=lc from rfl,show YJ 6 6=lc from rfl,cond_true,cond_false];rfl))))))
theorem Xj(r:aq)(hb:r.size<=10000000):Pure prog 98 [ag r.c] (.iv (strs (fN r))):=told_plain r▸c33 RU r hb
end Go.Proofs.YtflegjieadkonaaGreatDoor
namespace Go.Proofs.YtflegjieadkonaaGreatDoor
open Go.Proofs.Tryz
open Go
section
set_option maxHeartbeats 2000000
theorem Hn: ∃j,prog.info? 245=jp j∧j.size=2:=by
 have h:(prog.info? 245).map (fun i=>i.size)=jp 2:=by kernel_rfl
 rw[Yq]at h;exact h
theorem PJ:liesAt prog prog.depth 247 (4/prog.cellsOf 247) 0 245 1=lc:=by kernel_rfl
theorem Qi(b:Nat)(w:World)(h0:w.cell? ⟨b,0,kw⟩=jp (.pointer (jp ⟨b,0,kw⟩))):
  Calls prog 260 #[.pointer (jp ⟨b,0,kw⟩)] w fun e u=>e= .returned (.tuple #[])∧u=w:=by
 obtain⟨j,d,_⟩:=Hn
 go_enter func260,ntmps260
 go_wp2
 rw[Lib.run_neq_ptr_same w _ underlying242 d]
 go_wp2
 go_end0
 exact⟨rfl,rfl⟩
theorem MC(b:Nat)(w:World)(h0:w.cell? ⟨b,0,kw⟩=jp (.pointer kw))(d:w.shape? b=jp (247,4))(y:w.frozen? ⟨b,0,kw⟩=li):
  Calls prog 260 #[.pointer (jp ⟨b,0,kw⟩)] w fun e A=>e= .returned (.tuple #[])∧A=w.setCell ⟨b,0,kw⟩ (.pointer (jp ⟨b,0,kw⟩)):=by
 obtain⟨j,x,u⟩:=Hn
 go_enter func260,ntmps260
 go_wp2
 rw[Lib.run_to_unsafe w ⟨b,0,kw⟩ underlying242 underlying327 x (by rw[u];decide) d (by show 0<4;decide)];simp only[Result.andThen];rw[Oper.upon_value]
 go_wp2
 rw[run_callFunc_extern func272 (by kernel_rfl) (by kernel_rfl) (by kernel_rfl) (e:=Extern.AbiNoEscape.same) (by kernel_rfl)];rw[Lib.run_noEscape];simp only[Result.andThen];rw[Oper.upon_value]
 go_wp2
 rw[Lib.run_from_unsafe w ⟨b,0,kw⟩ underlying327 underlying242 x d PJ];simp only[Result.andThen];rw[Oper.upon_value]
 go_wp2
 go_end0
 exact⟨rfl,rfl⟩
theorem T4:prog.cellsOf 5=1:=by kernel_rfl
theorem Qm(b g cap:Nat)(p x y:Value)(d:Array Value)(l:List UInt8)(w:World)(C:w.heap[b]? =jp (.cells #[p,.slice (jp ⟨g,0,kw⟩) l.length cap,x,y] 247 (0,0)))(hg:w.heap[g]? =jp (.cells d 5 (0,0)))
  (hl:l.length<=d.size) (G:l.length<=cap) (D:cap<=maxLen) (A: ∀(j:Nat) (x:UInt8),l[j]? =jp x->d.getD j undef= .int .u8 (x.toNat:Int)) (h0:l≠ []):
  Calls prog 220 #[.pointer (jp ⟨b,0,kw⟩)] w fun e w'=>e= .returned (.string ⟨l.toArray⟩)∧w'=w.drew.freeze ⟨g,0,kw⟩ l.length:=by
 have Y:l.length≠0:=by simpa using h0
 have c1:w.drew.cell? ⟨b,1,kw⟩=jp (.slice (jp ⟨g,0,kw⟩) l.length cap):=by
  have:w.drew.heap[b]? =jp (.cells #[p,.slice (jp ⟨g,0,kw⟩) l.length cap,x,y] 247 (0,0)):=C;rw[Lib.cell_of_heap this];rfl
 have J:(Builtin.unsafeSliceData_ #[243] 306 #[.slice (jp ⟨g,0,kw⟩) l.length cap]).run prog w.drew= .ok (.pointer (jp ⟨g,0,kw⟩)) w.drew:=
  Lib.run_unsafeSliceData_row _ _ _ _ _ _ (by omega)
 have S:(Builtin.unsafeString_ #[306,3] 9 #[.pointer (jp ⟨g,0,kw⟩),.int .i64 l.length]).run prog w.drew= .ok (.string ⟨l.toArray⟩) (w.drew.freeze ⟨g,0,kw⟩ l.length):=by
  refine Lib.run_unsafeString_row w.drew 306 3 9 5 underlying306 T4 g d.size (by have u:w.drew.heap[g]? =jp (.cells d 5 (0,0)):=hg;simp[World.shape?,u]) l h0 (by omega) (by unfold maxLen at D;omega) ?_;intro j x I;have B:j<d.size:=by have:=(Yj.1 I).1;omega
  have:=A j x I;rw[Yf,Zb B]at this;show w.drew.cell? _=_;have u:w.drew.heap[g]? =jp (.cells d 5 (0,0)):=hg;rw[Al.iq,YC];simp only[World.cell?,u];simpa[B]using this
 have F:prog.follows .mixedOrders=lc:=rfl
 go_enter func220,ntmps220
 go_wp2
 go_region_o
 all_goals(go_wp2;go_ret;exact⟨rfl,rfl⟩)
theorem Ua(b:Nat)(p x y:Value)(w:World)(d:w.heap[b]? =jp (.cells #[p,.slice kw 0 0,x,y] 247 (0,0))):
  Calls prog 220 #[.pointer (jp ⟨b,0,kw⟩)] w fun e B=>e= .returned (.string ⟨#[]⟩)∧B=w.drew:=by
 have A:(W:World)->(Builtin.unsafeString_ #[306,3] 9 #[.pointer kw,.int .i64 0]).run prog W= .ok (.string .empty) W:=fun W=>Lib.run_unsafeString_none W _ _ _ kw
 have c1:w.drew.cell? ⟨b,1,kw⟩=jp (.slice kw 0 0):=by
  have:w.drew.heap[b]? =jp (.cells #[p,.slice kw 0 0,x,y] 247 (0,0)):=d;rw[Lib.cell_of_heap this];rfl
 have u:(Builtin.unsafeSliceData_ #[243] 306 #[.slice kw 0 0]).run prog w.drew= .ok (.pointer kw) w.drew:=rfl;have j:prog.follows .mixedOrders=lc:=rfl
 go_enter func220,ntmps220
 go_wp2
 go_region_o
 all_goals(go_wp2;go_ret;exact⟨rfl,rfl⟩)
end
end Go.Proofs.YtflegjieadkonaaGreatDoor
namespace Go.Proofs.YtflegjieadkonaaGreatDoor
open Go Go.Al Go.Proofs.Tryz
def M8(c:Nat):Bool:=(lw (97<=c)&&lw (c<=122))||((lw (65<=c)&&lw (c<=90))||((lw (48<=c)&&lw (c<=57))||decide (c=95)))
def okB(b:UInt8):Bool:=M8 b.toNat
def hd(s:aj):Int:=((s.data.toList.getD 0 0).toNat:Int)
def pz(s:aj)(b hi:Int):Bool:=!lw (s=⟨#[]⟩)&&(lw (s.size<=32)&&(lw (b<=hd s)&&(lw (hd s<=hi)&&s.data.toList.all okB)))
theorem K1{c:Nat}(h:M8 c=lc):c<128:=by
 simp only[M8,Y3,YB,decide_eq_true_eq]at h;omega
theorem GA{s:aj}(h: ¬s=⟨#[]⟩):0<s.size:=by
 refine Nat.pos_of_ne_zero fun b=>h ?_;have:s.data= #[]:=Array.eq_empty_of_size_eq_zero b;cases s;simp_all
theorem XG(c:Nat):Pure prog 215 [.iv (.v (.int .i32 (c:Int)))] (pB (!M8 c)):=by
 refine ad ab func215 Z (by decide) ntmps215 Z (by simp) Z ?_
 repeat' (first|(refine gA Z (zI (fun _=>?_) (fun _=>?_)))|(refine gA Z (zL (.of_eq ?_))))
 all_goals(refine(fx ?_:pB _=pB _))
 all_goals(simp only[aaS,aaC,decide_eq_true_eq,decide_eq_false_iff_not] at*;rw[YU];simp[M8];omega)
theorem Mp{s:aj}{i:Nat}(h:i<s.size)(hb:okB (s.data.toList.getD i 0)=lc):Utf8.decode s i=((s.data.toList.getD i 0).toNat,1):=by
 have b:(s[i]'h)=s.data.toList.getD i 0:=by
  have:i<s.data.toList.length:=by simpa using h
  rw[Ye,Yi this];simp;rfl
 have:=decode_ascii s i h (by rw[b];exact K1 hb);rw[this,b]
theorem TY{s:aj}{i:Nat}(h:i<s.size)(hb:okB (s.data.toList.getD i 0)=li):M8 (Utf8.decode s i).1=li:=by
 by_cases d:(s.data.toList.getD i 0).toNat<128
 .have b:(s[i]'h)=s.data.toList.getD i 0:=by
   have:i<s.data.toList.length:=by simpa using h
   rw[Ye,Yi this];simp;rfl
  have:=decode_ascii s i h (by rw[b];exact d);rw[this,b];exact hb
 .have b:(s.get! (i+0)).toNat=(s.data.toList.getD i 0).toNat:=by
   have:i<s.data.toList.length:=by simpa using h
   rw[Ye,Yi this];simp[ByteArray.get!,getElem!_pos,h]
  have:128<=(Utf8.decode s i).1:=by
   simp only[Utf8.decode,b,be d]
   repeat' split
   all_goals(dsimp only[Utf8.runeError];(try simp only[YB,decide_eq_true_eq] at*);omega)
  cases hk:M8 (Utf8.decode s i).1 with
  |false=>rfl
  |true=>have:=K1 hk;omega
def HU(s:aj):Int:=tn (fun b=>!okB b) s.data.toList
theorem d217(s:aj):cj prog 259 [pS s,.dx (.func 215) [] [],pB lc] [] (pI (HU s)) [] 0:=by
 have A:s.data.toList.length=s.size:=by simp
 refine aE ab func259 Z (by decide) ntmps259 Z (by simp) ?_;refine gA Z ?_;refine AD ab Z Z Z Z Z Z Z ?_;refine gA Z ?_;refine ar 0 s.size (Yl _) (fun i=>⟨[(0,pS s),(1,.dx (.func 215) [] []),(2,pB lc),(10,.ptr 0 0)],[(0,jp (.eT s i))],1⟩) (fun i=>(s.data.toList.take i).any (fun b=>!okB b)=li) [] (by simp)
  (zW ⟨⟨_,rfl,.of_eq Z⟩,Yd Z,ac,ac⟩) fun i B x=>?_
 refine gA Z ?_;refine ov Z Z Z Z Z Z (fun j=>?_) (fun j=>?_)
 .have d:s.data.toList.length<=i:=by omega
  rw[HU,iC (any_none x d)];refine gA Z (zD [] Z (zW ac))
 .have u:i<s.data.toList.length:=by omega
  have y:s.data.toList.getD i io=s.data.toList.getD i 0:=rfl;refine gA Z (zp (XG (Utf8.decode s i).1) ?_);refine zJ Z Z (fun d=>?_) fun d=>?_
  .have d:M8 (Utf8.decode s i).1=li:=by simpa using d
   have hb:okB (s.data.toList.getD i 0)=li:=by
    cases hk:okB (s.data.toList.getD i 0) with
    |false=>rfl
    |true=>
     rw[Mp j hk]at d;exact absurd (hk.symm.trans d) (by simp)
   rw[HU,jd x u (by rw[y,hb];rfl)];refine gA Z (zD [] Z (zW ac))
  .have d:M8 (Utf8.decode s i).1=lc:=by simpa using d
   have hb:okB (s.data.toList.getD i 0)=lc:=by
    cases hk:okB (s.data.toList.getD i 0) with
    |true=>rfl
    |false=>exact absurd ((TY j hk).symm.trans d) (by simp)
   have hd:=Mp j hb;refine gA Z ⟨j,(a7 x u).2 (by rw[y,hb];rfl),[],zW ⟨⟨_,rfl,.of_eq (by rw[hd];rfl)⟩,Yd Z,ac,ac⟩⟩
theorem Qq(l:List UInt8):(l.any fun b=>!okB b)=!l.all okB:=by
 induction l with
 |nil=>rfl
 |cons x r ih=>simp only[abd,abe,ih];cases okB x<;>rfl
theorem d203(s:aj):cj prog 242 [pS s,.dx (.func 215) [] []] [] (pI (HU s)) [] 0:=by
 refine aE ab func242 Z (by decide) ntmps242 Z (by simp) ?_;refine gA Z (zq [] (d217 s) ?_);refine gA Z (zD [] Z (zW ac))
theorem d180(s:aj):cj prog 214 [pS s,.dx (.func 215) [] []] [] (pB (!s.data.toList.all okB)) [] 0:=by
 refine aE ab func214 Z (by decide) ntmps214 Z (by simp) ?_;refine gA Z (zq [] (d203 s) ?_);refine gA Z (zD [] Z (zM ⟨.of_eq (fx ((j5 _ _).trans (Qq _))),rfl,ac⟩ ac))
theorem Wl(s:aj)(x hi:Int):Pure prog 187 [pS s,.iv (.v (.int .u8 x)),.iv (.v (.int .u8 hi))] (pB (pz s x hi)):=by
 refine ad ab func187 Z (by decide) ntmps187 Z (by simp) Z ?_;refine zE Z Z (fun b=>?_) fun b=>?_
 .have b:s=⟨#[]⟩:=zT b;refine gA Z (zL (.of_eq ?_));refine(fx ?_:pB _=pB _);subst b;rfl
 have b: ¬s=⟨#[]⟩:=zF b;have y:=GA b;refine zE Z Z (fun d=>?_) fun d=>?_
 .have d:32<s.size:=zN d;refine gA Z (zL (.of_eq ?_));refine(fx ?_:pB _=pB _);have: ¬s.size<=32:=by omega
  simp[pz,this]
 have d:s.size<=32:=by have:=zF d;omega
 refine zE Z Z (fun j=>?_) fun j=>?_
 .have j:hd s<x:=zT j;refine gA Z (zL (.of_eq ?_));refine(fx ?_:pB _=pB _);have: ¬x<=hd s:=by omega
  simp[pz,this]
 have j:x<=hd s:=by have: ¬hd s<x:=zF j;omega
 refine zJ Z Z (fun u=>?_) fun u=>?_
 .have u:hi<hd s:=zT u;refine gA Z (zL (.of_eq ?_));refine(fx ?_:pB _=pB _);have: ¬hd s<=hi:=by omega
  simp[pz,this]
 have u:hd s<=hi:=by have: ¬hd s>hi:=zF u;omega
 refine gA Z (zq [] (d180 s) ?_);refine gA Z (zL (.of_eq ?_));refine(fx ?_:pB _=pB _);simp[pz,b,d,j,u]
def O3:List aj:=[⟨#[114,101,108,97,116,105,111,110]⟩,⟨#[110,111,116]⟩,⟨#[110,117,109]⟩,⟨#[115,121,109]⟩,⟨#[109,111,100]⟩,⟨#[99,111,117,110,116]⟩,⟨#[115,117,109]⟩,⟨#[109,105,110]⟩,⟨#[109,97,120]⟩]
def Dg(s:aj):Bool:=O3.any fun x=>lw (s=x)
def eC(s:aj):Bool:=!Dg s&&pz s 97 122
def ey(s:aj):Bool:=pz s 65 90
theorem Gg(s:aj):Pure prog 218 [pS s] (pB (ey s)):=by
 refine ad ab func218 Z (by decide) ntmps218 Z (by simp) Z ?_;refine gA Z (zp (Wl s 65 90) ?_);exact zU Z
theorem Xc(s:aj):Pure prog 156 [pS s] (pB (eC s)):=by
 refine ad ab func156 Z (by decide) ntmps156 Z (by simp) Z ?_
 repeat' (first|(refine gA Z (zI (fun _=>?_) (fun _=>?_)))|(refine gA Z (zp (Wl s 97 122) ?_))|(refine gA Z (zL (.of_eq ?_))))
 all_goals(refine(fx ?_:pB _=pB _))
 all_goals(simp only[eC,Dg,O3,abd,List.any_nil, *];rfl)
section
theorem Rel.Fz{M:Mem}{N:Nm}{U:Nat->Prop}{h h2:AH}{w:World}(hr:Rel M N U h w)(e: ∀i,AH.get h2 i=h.get i):Rel M N U h2 w:=
 ⟨hr.dT,fun i o b=>hr.used i o (by rw[<-e];exact b),fun i o b=>hr.fk i o (by rw[<-e];exact b),fun i o b=>hr.obj i o (by rw[<-e];exact b),fun i j o p b d=>hr.inj i j o p (by rw[<-e];exact b) (by rw[<-e];exact d)⟩
theorem Ext.Fz{M d:Mem}{N j:Nm}{U u:Nat->Prop}{h0 h h2:AH}{w x:World}(b:Ext M N U h0 w d j u h x)(e: ∀i,AH.get h2 i=h.get i):Ext M N U h0 w d j u h2 x:=
 ⟨b.os,b.tape,b.output,b.size,b.jO,b.r6,b.kn,b.nm,b.ule,fun i o y=>b.jq i o (by rw[<-e];exact y)⟩
structure WS where
 fr:Bool
 l:List UInt8
 bad:Bool
 br:Int
abbrev WS.uO(w:WS)(i j:Nat):AO:= .cells [.fE w.fr i,.sl j 0 w.l.length 1,pB w.bad,pI w.br] (jp 247)
abbrev WS.c(w:WS):AO:=w.uO 0 1
abbrev WS.O(w:WS):List AO:=[w.c,.bM w.l 5]
abbrev WS.H(w:WS):AH:=[(0,jp (w.uO 0 2)),(2,jp (.bM w.l 5))]
theorem d204(w:WS):cj prog 260 [.ptr 0 0] w.O (.bX []) [(0,jp ({w with fr:=li}:WS).c),(1,jp (.bM w.l 5))] 2:=by
 refine⟨bN func260 Z (by decide),fun M N wd vs I y hv=>?_⟩;obtain⟨v,rfl⟩: ∃v,vs=[v]:=by
  cases vs with
  |nil=>cases y
  |cons v r=>cases r with
   |nil=>exact⟨v,rfl⟩
   |cons a b=>simp at y
 have J:VR M N (· <2) (.ptr 0 0) v:=hv 0 _ Z;have S:v= .pointer (jp ⟨N.aI 0,0,kw⟩):=by cases J;rfl
 subst S;have F:AH.get (fA 0 w.O) 0=jp w.c:=rfl;obtain⟨c,T,C,h2,h3,Y,h5⟩:=I.obj 0 _ F;have hT:=h5 247 Z;subst hT;have A:c.size=4:=h3.symm;have a0:N.aI 0<wd.heap.size:=(Zy.1 C).1;have G:c.getD 0 undef= .pointer (bif w.fr then kw else jp ⟨N.aI 0,0,kw⟩):=by
  have:=Y 0 _ Z;generalize c.getD 0 undef=x at this;cases this;rfl
 have d:wd.cell? ⟨N.aI 0,0,kw⟩=jp (c.getD 0 undef):=by
  rw[Lib.cell_of_heap C,Yf,Zb (by omega)];rfl
 rw[G]at d;show Calls prog 260 #[_] wd _;cases hfr:w.fr with
 |false=>
  rw[hfr]at d;refine(Qi (N.aI 0) wd d).mono ?_;rintro e w' ⟨rfl,rfl⟩;have hw:({w with fr:=li}:WS)=w:=by cases w;simp_all
  rw[hw];exact⟨_,M,N,.bX [],_,2,rfl,⟨rfl,rfl,rfl⟩,.refl _ _ _ _ _,I,.bX [] #[] Z (by simp)⟩
 |true=>
  rw[hfr]at d;refine(MC (N.aI 0) wd d (by simp[World.shape?,C,A]) (Lib.frozen_of_heap C 0)).mono ?_;rintro e w' ⟨rfl,rfl⟩;have B:(wd.setCell ⟨N.aI 0,0,kw⟩ (.pointer (jp ⟨N.aI 0,0,kw⟩))).heap[N.aI 0]? =jp (.cells (c.setIfInBounds 0 (.pointer (jp ⟨N.aI 0,0,kw⟩))) 247 (0,0)):=by
   simp[World.setCell,Za,C]
  obtain⟨g1,g2⟩:=I.write (i:=0) (o0:=w.c) F Z (wd.setCell ⟨N.aI 0,0,kw⟩ (.pointer (jp ⟨N.aI 0,0,kw⟩))) ({w with fr:=li}:WS).c Z Z Z (by simp[World.setCell]) (fun b hb=>by
   simp only[World.setCell,Za]
   rw[be (fun e=>hb e.symm)]) ⟨_,247,B,by simpa using h2,by simp[A],fun j p D=>by
    match j,D with
    |0,D=>
     cases D;rw[Yf,Y2];simp only[if_true,A];exact .fE li 0 (by show 0<2;decide)
    |j+1,D=>
     have:=Y (j+1) p (by exact D);rw[Yf,Y2,be (by omega)];rw[Yf]at this
     exact this,h5⟩
  have u: ∀i,AH.get [(0,jp ({w with fr:=li}:WS).c),(1,jp (.bM w.l 5))] i=AH.get ((0,jp ({w with fr:=li}:WS).c)::fA 0 w.O) i:=by
   intro i
   match i with
   |0=>rfl
   |1=>rfl
   |i+2=>rfl
  exact⟨_,M,N,.bX [],_,2,rfl,⟨rfl,rfl,rfl⟩,Ext.Fz g1 u,Rel.Fz g2 u,.bX [] #[] Z (by simp)⟩
theorem d150(w:WS):cj prog 220 [.ptr 0 0] w.O (pS ⟨w.l.toArray⟩) [] 2:=by
 refine⟨bN func220 Z (by decide),fun M N wd vs hr F hv=>?_⟩;obtain⟨v,rfl⟩: ∃v,vs=[v]:=by
  cases vs with
  |nil=>cases F
  |cons v r=>cases r with
   |nil=>exact⟨v,rfl⟩
   |cons a b=>simp at F
 have k0:VR M N (· <2) (.ptr 0 0) v:=hv 0 _ Z;have m0:v= .pointer (jp ⟨N.aI 0,0,kw⟩):=by cases k0;rfl
 subst m0;have j0:AH.get (fA 0 w.O) 0=jp w.c:=rfl;have G:AH.get (fA 0 w.O) 1=jp (.bM w.l 5):=rfl;obtain⟨c,T,S,h2,h3,h4,h5⟩:=hr.obj 0 _ j0;have hT:=h5 247 Z;subst hT;have f0:c.size=4:=h3.symm;have c0: ∀(x1:Value),c.getD 1 undef=x1-> ∃p x y,c= #[p,x1,x,y]:=by
  intro x1 B;refine⟨c.getD 0 undef,c.getD 2 undef,c.getD 3 undef,?_⟩;apply Array.ext
  .simpa using f0
  .intro i u n0
   match i,u with
   |0,u=>simp[Yf,u]
   |1,u=>rw[<-B];simp[Yf,u]
   |2,u=>simp[Yf,u]
   |3,u=>simp[Yf,u]
   |i+4,u=>omega
 have A:=h4 1 _ Z;have I:=hr.obj 1 _ G;show Calls prog 220 #[_] wd _;by_cases D:w.l=[]
 .have B:c.getD 1 undef= .slice kw 0 0:=by
   generalize c.getD 1 undef=x at A;rw[D]at A;generalize J:PV.sl 1 0 ([]:List UInt8).length 1=q at A;cases A with
   |sl i off len sz a0 h h0 S hc he=>cases J;simp at h0
   |pQ i sz h=>rfl
   |_=>cases J
  obtain⟨p,x,y,rfl⟩:=c0 _ B;refine(Ua (N.aI 0) p x y wd S).mono ?_;rintro e w' ⟨rfl,rfl⟩;refine⟨.string ⟨#[]⟩,M,N,pS ⟨w.l.toArray⟩,[],2,rfl,⟨rfl,rfl,rfl⟩,?_,?_,.iv _ _ (by rw[D];exact .v _)⟩
  .have:=Ext.drew (M:=M) (N:=N) (U:=(· <w.O.length)) (h:=fA 0 w.O) (w:=wd);exact⟨this.os,this.tape,this.output,this.size,this.jO,this.r6,this.kn,this.nm,this.ule,fun i o u=>(nomatch u)⟩
  .exact⟨hr.drew.dT,fun i o u=>(nomatch u),fun i o u=>(nomatch u),fun i o u=>(nomatch u),fun i j o p u=>(nomatch u)⟩
 .have b0:0<w.l.length:=List.length_pos_iff.2 D;obtain⟨a0,B,Y,g0⟩: ∃a0,c.getD 1 undef= .slice (jp ⟨N.aI 1,0,kw⟩) w.l.length a0∧w.l.length<=a0∧a0<=maxLen:=by
   generalize c.getD 1 undef=x at A;generalize hn:w.l.length=n at A b0;generalize J:PV.sl 1 0 n 1=q at A;cases A with
   |sl i off len sz a0 h h0 D hc he=>cases J;exact⟨a0,by simp,D,hc⟩
   |pQ i sz h=>cases J;omega
   |_=>cases J
  rcases I with I|⟨e0,q1,q2,q3,q4⟩
  .exact absurd I D
  obtain⟨p,x,y,rfl⟩:=c0 _ B;refine(Qm (N.aI 0) (N.aI 1) a0 p x y e0 w.l wd S q1 q3 Y g0 q4 D).mono ?_;rintro e w' ⟨rfl,rfl⟩;have d0:(AO.bM w.l 5).real=lc:=by cases hll:w.l with
   |nil=>exact absurd hll D
   |cons=>rfl
  have hk: ∀b,b≠N.aI 1->(wd.drew.freeze ⟨N.aI 1,0,kw⟩ w.l.length).heap[b]? =wd.heap[b]? :=by
   intro b hb;unfold World.freeze;split
   .rfl
   .show(wd.heap.modify _ _)[b]? =_;simp only[Za];rw[be (fun e=>hb e.symm)]
  have C:(wd.drew.freeze ⟨N.aI 1,0,kw⟩ w.l.length).os=wd.os∧(wd.drew.freeze ⟨N.aI 1,0,kw⟩ w.l.length).tape=wd.tape∧(wd.drew.freeze ⟨N.aI 1,0,kw⟩ w.l.length).output=wd.output∧(wd.drew.freeze ⟨N.aI 1,0,kw⟩ w.l.length).heap.size=wd.heap.size:=by
   unfold World.freeze;split
   .exact⟨rfl,rfl,rfl,rfl⟩
   .exact⟨rfl,rfl,rfl,by show(wd.heap.modify _ _).size=_;simp⟩
  refine⟨_,M,N,pS ⟨w.l.toArray⟩,[],2,rfl,⟨rfl,rfl,rfl⟩,?_,?_,.iv _ _ (.v _)⟩
  .exact⟨C.1,C.2.1,C.2.2.1,by rw[C.2.2.2];exact Ym _,fun b hb hn=>hk b fun e=>hn 1 _ G d0 e.symm,.refl _,fun b c S h2=>by simp[S]at h2,.refl _ _,fun _ h=>h,fun i o u=>(nomatch u)⟩
  .refine⟨fun b d hb=>?_,fun i o u=>(nomatch u),fun i o u=>(nomatch u),fun i o u=>(nomatch u),fun i j o p u=>(nomatch u)⟩;have i0:b≠N.aI 1:=fun e=>by
    have:=hr.fk 1 _ G d0;rw[<-e,hb]at this;cases this
   exact(hr.dT b d hb).mono (hk b i0)
section
variable {nt:Nat} {Q:AQ} {k:List KI} {s:AS}
def wS(s:AS)(b:WS)(i j:Nat):AS:=match s with|⟨f,h,n⟩=>⟨f,(i,jp (b.uO i n))::(n,jp (.bM b.l 5))::(i,kw)::(j,kw)::h,n+1⟩
theorem Ux(s:AS)(b:WS)(i j:Nat):wS s b i j=⟨s.f,(i,jp (b.uO i s.nx))::(s.nx,jp (.bM b.l 5))::(i,kw)::(j,kw)::s.h,s.nx+1⟩:=by cases s;rfl
def Uw(s:AS)(b:WS)(i j m:Nat):AS:=match s with|⟨f,h,n⟩=>⟨f,(i,jp (b.uO i n))::(n,jp (.bM b.l 5))::(i,kw)::(j,kw)::(m,kw)::h,n+1⟩
theorem Sn(s:AS)(b:WS)(i j m:Nat):Uw s b i j m=⟨s.f,(i,jp (b.uO i s.nx))::(s.nx,jp (.bM b.l 5))::(i,kw)::(j,kw)::(m,kw)::s.h,s.nx+1⟩:=by cases s;rfl
theorem Cy{o:Oper}{c:Call}{g:FuncId}{args d:List PV}{w B:WS}{r:PV}{i j:Nat}{s':AS}(hc:cj prog g (.ptr 0 0::args) w.O r B.H 3)(ho:o.op= .call c)(ha:bP s.f c=jp (g,.ptr i 0::d))
  (hi:s.h.get i=jp (w.uO i j)) (hj:s.h.get j=jp (.bM w.l 5)) (hlt:YD i s.nx=lc) (hlj:YD j s.nx=lc) (hne:YJ i j=li) (has:d=args) (hlow:bq 0 args=lc) (hr:r.low 0=lc)
  (hp:putDst nt o r (wS s B i j)=jp s'):OT prog nt o s (fun t=>t=s'):=by
 have u:i≠j:=fun e=>by subst e;simp at hne
 have y:([i,j]:List Nat).Nodup:=by simp[u]
 have C: ∀x∈ [i,j],x<s.nx:=by
  intro x A;simp only[Yx,aaL,or_false]at A;rcases A with rfl|rfl
  .exact Yd hlt
  .exact Yd hlj
 subst has;have b: ∀σ,dZ σ d=d:=fun σ=>iU σ d hlow;refine lW ho ha hc y C ?_ ?_ ?_
 .simp only[Yz,Y7,hi,hj];rfl
 .simp only[dZ,b];rfl
 .rintro q D n0 ⟨rfl,rfl,rfl⟩;rw[PV.jU _ _ hr];rw[Ux]at hp;exact⟨s',hp,rfl⟩
theorem VG{all rest:List Oper}{o:Oper}{c:Call}{g:FuncId}{args b:List PV}{w d:WS}{r:PV}{i j:Nat}{s':AS}(hc:cj prog g (.ptr 0 0::args) w.O r d.H 3)(ho:o.op= .call c)(hg:o.guard=kw)(ha:bP s.f c=jp (g,.ptr i 0::b))
  (hi:s.h.get i=jp (w.uO i j)) (hj:s.h.get j=jp (.bM w.l 5)) (hlt:YD i s.nx=lc) (hlj:YD j s.nx=lc) (hne:YJ i j=li) (has:b=args) (hlow:bq 0 args=lc) (hr:r.low 0=lc)
  (hp:putDst nt o r (wS s d i j)=jp s') (h:GO prog nt (.ops all rest::k) Q s'):GO prog nt (.ops all (o::rest)::k) Q s:=
 eH hg (Cy hc ho ha hi hj hlt hlj hne has hlow hr hp) fun t u=>by subst u;exact h
theorem j7{all rest:List Oper}{o:Oper}{c:Call}{g:FuncId}{args b:List PV}{w d:WS}{r:PV}{i j:Nat}{s':AS}(hc:cj prog g (.ptr 0 0::args) w.O r d.H 3)(h:GO prog nt (.ops all rest::k) Q s')(ho:o.op= .call c:=by exact rfl)(hg:o.guard=kw:=by exact rfl)(ha:bP s.f c=jp (g,.ptr i 0::b):=by exact rfl)(hi:s.h.get i=jp (w.uO i j):=by exact rfl)(hj:s.h.get j=jp (.bM w.l 5):=by exact rfl)(hlt:YD i s.nx=lc:=by exact rfl)(hlj:YD j s.nx=lc:=by exact rfl)(hne:YJ i j=li:=by exact rfl)(has:b=args:=by exact rfl)(hlow:bq 0 args=lc:=by exact rfl)(hr:r.low 0=lc:=by exact rfl)(hp:putDst nt o r (wS s d i j)=jp s':=by exact rfl):GO prog nt (.ops all (o::rest)::k) Q s:=VG (hc:=hc) (ho:=ho) (hg:=hg) (ha:=ha) (hi:=hi) (hj:=hj) (hlt:=hlt) (hlj:=hlj) (hne:=hne) (has:=has) (hlow:=hlow) (hr:=hr) (hp:=hp) (h:=h)
theorem Gl{o:Oper}{c:Call}{g:FuncId}{b:List aj}{w d:WS}{i j m n:Nat}{s':AS}(hc:cj prog g [.ptr 0 0,.sl 2 0 b.length 1] [w.c,.bM w.l 5,aC 1 b cR] (.bX []) [(0,jp (d.uO 0 3)),(3,jp (.bM d.l 5))] 4)(ho:o.op= .call c)(ha:bP s.f c=jp (g,[.ptr i 0,.sl m 0 n 1]))
  (hi:s.h.get i=jp (w.uO i j)) (hj:s.h.get j=jp (.bM w.l 5)) (hm:s.h.get m=jp (aC 1 b cR)) (hn:n=b.length) (hlt:YD i s.nx=lc) (hlj:YD j s.nx=lc) (hlm:YD m s.nx=lc) (hnd:bT [i,j,m]=lc)
  (hp:putDst nt o (.bX []) (Uw s d i j m)=jp s'):OT prog nt o s (fun t=>t=s'):=by
 have y: ∀x∈ [i,j,m],x<s.nx:=by
  intro x u;simp only[Yx,aaL,or_false]at u;rcases u with rfl|rfl|rfl
  .exact Yd hlt
  .exact Yd hlj
  .exact Yd hlm
 subst hn;refine lW ho ha hc (dh hnd) y ?_ Z ?_
 .simp only[Yz,Y7,hi,hj,hm,bA];rfl
 .rintro q A n0 ⟨rfl,rfl,rfl⟩;rw[Sn]at hp;exact⟨s',hp,rfl⟩
theorem go_wp{all rest:List Oper}{o:Oper}{c:Call}{g:FuncId}{b:List aj}{w d:WS}{i j m n:Nat}{s':AS}(hc:cj prog g [.ptr 0 0,.sl 2 0 b.length 1] [w.c,.bM w.l 5,aC 1 b cR] (.bX []) [(0,jp (d.uO 0 3)),(3,jp (.bM d.l 5))] 4)(ho:o.op= .call c)(hg:o.guard=kw)(ha:bP s.f c=jp (g,[.ptr i 0,.sl m 0 n 1]))
  (hi:s.h.get i=jp (w.uO i j)) (hj:s.h.get j=jp (.bM w.l 5)) (hm:s.h.get m=jp (aC 1 b cR)) (hn:n=b.length) (hlt:YD i s.nx=lc) (hlj:YD j s.nx=lc) (hlm:YD m s.nx=lc) (hnd:bT [i,j,m]=lc)
  (hp:putDst nt o (.bX []) (Uw s d i j m)=jp s')
  (h:GO prog nt (.ops all rest::k) Q s'):GO prog nt (.ops all (o::rest)::k) Q s:=
 eH hg (Gl hc ho ha hi hj hm hn hlt hlj hlm hnd hp) fun t u=>by subst u;exact h
theorem kZ{all rest:List Oper}{o:Oper}{c:Call}{g:FuncId}{b:List aj}{w d:WS}{i j m n:Nat}{s':AS}(hc:cj prog g [.ptr 0 0,.sl 2 0 b.length 1] [w.c,.bM w.l 5,aC 1 b cR] (.bX []) [(0,jp (d.uO 0 3)),(3,jp (.bM d.l 5))] 4)(h:GO prog nt (.ops all rest::k) Q s')(ho:o.op= .call c:=by exact rfl)(hg:o.guard=kw:=by exact rfl)(ha:bP s.f c=jp (g,[.ptr i 0,.sl m 0 n 1]):=by exact rfl)(hi:s.h.get i=jp (w.uO i j):=by exact rfl)(hj:s.h.get j=jp (.bM w.l 5):=by exact rfl)(hm:s.h.get m=jp (aC 1 b cR):=by exact rfl)(hn:n=b.length:=by exact rfl)(hlt:YD i s.nx=lc:=by exact rfl)(hlj:YD j s.nx=lc:=by exact rfl)(hlm:YD m s.nx=lc:=by exact rfl)(hnd:bT [i,j,m]=lc:=by exact rfl)(hp:putDst nt o (.bX []) (Uw s d i j m)=jp s':=by exact rfl):GO prog nt (.ops all (o::rest)::k) Q s:=go_wp (hc:=hc) (ho:=ho) (hg:=hg) (ha:=ha) (hi:=hi) (hj:=hj) (hm:=hm) (hn:=hn) (hlt:=hlt) (hlj:=hlj) (hlm:=hlm) (hnd:=hnd) (hp:=hp) (h:=h)
theorem B9{all:List Oper}{todo pend:List (Nat×Oper)}{d:Nat}{A y:Prop}{o:Oper}{c:Call}{g:FuncId}{b:List aj}{w u:WS}{i j m n:Nat}{s':AS}(hc:cj prog g [.ptr 0 0,.sl 2 0 b.length 1] [w.c,.bM w.l 5,aC 1 b cR] (.bX []) [(0,jp (u.uO 0 3)),(3,jp (.bM u.l 5))] 4)
  (hrd:eJ todo=[(d,o)]) (ho:o.op= .call c) (ha:bP s.f c=jp (g,[.ptr i 0,.sl m 0 n 1]))
  (hi:s.h.get i=jp (w.uO i j)) (hj:s.h.get j=jp (.bM w.l 5)) (hm:s.h.get m=jp (aC 1 b cR)) (hn:n=b.length) (hlt:YD i s.nx=lc) (hlj:YD j s.nx=lc) (hlm:YD m s.nx=lc) (hnd:bT [i,j,m]=lc)
  (hp:putDst nt o (.bX []) (Uw s u i j m)=jp s')
  (hg:cE nt all s.f o=jp lc) (hpb:iW all pend o=lc) (hE:oA todo [d]=lc)
  (hag:qW pC nt all s todo pend=jp A) (hCA:A) (hag2:dK pC nt all s' (bg pend o)=jp y) (hC2:y)
  (h:GO prog nt (.cP all (todo.filter fun x=>!YJ x.1 d) (bg pend o)::k) Q s'):GO prog nt (.cP all todo pend::k) Q s:=
 yn ab hrd hg hpb hE hag hCA (Gl hc ho ha hi hj hm hn hlt hlj hlm hnd hp) hag2 hC2 h
theorem VH{all:List Oper}{todo pend:List (Nat×Oper)}{b:Nat}{u d:Prop}{o:Oper}{c:Call}{g:FuncId}{args y:List PV}{w A:WS}{r:PV}{i j:Nat}{s':AS}(hc:cj prog g (.ptr 0 0::args) w.O r A.H 3)
  (hrd:eJ todo=[(b,o)]) (ho:o.op= .call c) (ha:bP s.f c=jp (g,.ptr i 0::y))
  (hi:s.h.get i=jp (w.uO i j)) (hj:s.h.get j=jp (.bM w.l 5)) (hlt:YD i s.nx=lc) (hlj:YD j s.nx=lc) (hne:YJ i j=li) (has:y=args) (hlow:bq 0 args=lc) (hr:r.low 0=lc)
  (hp:putDst nt o r (wS s A i j)=jp s')
  (hg:cE nt all s.f o=jp lc) (hpb:iW all pend o=lc) (hE:oA todo [b]=lc)
  (hag:qW pC nt all s todo pend=jp u) (hCA:u) (hag2:dK pC nt all s' (bg pend o)=jp d) (hC2:d)
  (h:GO prog nt (.cP all (todo.filter fun x=>!YJ x.1 b) (bg pend o)::k) Q s'):GO prog nt (.cP all todo pend::k) Q s:=
 yn ab hrd hg hpb hE hag hCA (Cy hc ho ha hi hj hlt hlj hne has hlow hr hp) hag2 hC2 h
theorem zh{all:List Oper}{todo pend:List (Nat×Oper)}{b:Nat}{u d:Prop}{o:Oper}{c:Call}{g:FuncId}{args y:List PV}{w A:WS}{r:PV}{i j:Nat}{s':AS}(hc:cj prog g (.ptr 0 0::args) w.O r A.H 3)(h:GO prog nt (.cP all (todo.filter fun x=>!YJ x.1 b) (bg pend o)::k) Q s')(hrd:eJ todo=[(b,o)]:=by exact rfl)(ho:o.op= .call c:=by exact rfl)(ha:bP s.f c=jp (g,.ptr i 0::y):=by exact rfl)(hi:s.h.get i=jp (w.uO i j):=by exact rfl)(hj:s.h.get j=jp (.bM w.l 5):=by exact rfl)(hlt:YD i s.nx=lc:=by exact rfl)(hlj:YD j s.nx=lc:=by exact rfl)(hne:YJ i j=li:=by exact rfl)(has:y=args:=by exact rfl)(hlow:bq 0 args=lc:=by exact rfl)(hr:r.low 0=lc:=by exact rfl)(hp:putDst nt o r (wS s A i j)=jp s':=by exact rfl)(hg:cE nt all s.f o=jp lc:=by exact rfl)(hpb:iW all pend o=lc:=by exact rfl)(hE:oA todo [b]=lc:=by exact rfl)(hag:qW pC nt all s todo pend=jp u:=by exact rfl)(hCA:u:=by(repeat' (first|exact ac|exact rfl|exact aG.refl _|exact aG.bk (by assumption)|apply YW))<;>first|omega|(simp only[YK];omega)|(simp;done)|(simp;omega))(hag2:dK pC nt all s' (bg pend o)=jp d:=by exact rfl)(hC2:d:=by(repeat' (first|exact ac|exact rfl|exact aG.refl _|exact aG.bk (by assumption)|apply YW))<;>first|omega|(simp only[YK];omega)|(simp;done)|(simp;omega)):GO prog nt (.cP all todo pend::k) Q s:=VH (hc:=hc) (hrd:=hrd) (ho:=ho) (ha:=ha) (hi:=hi) (hj:=hj) (hlt:=hlt) (hlj:=hlj) (hne:=hne) (has:=has) (hlow:=hlow) (hr:=hr) (hp:=hp) (hg:=hg) (hpb:=hpb) (hE:=hE) (hag:=hag) (hCA:=hCA) (hag2:=hag2) (hC2:=hC2) (h:=h)
theorem Ma{l:List ResultVar}{r r0 a b c d:PV}{e:Exit}{u:WS}{j n:Nat}(he:e= .normal∨e= .ret)(hr:lv pC s l=jp r0)(hi:s.h.get 0=jp (.cells [a,b,c,d] (jp 247)))(ha:a= .fE u.fr 0)(hb:b= .sl j 0 n 1)(hn:n=u.l.length)(hc:aG c (pB u.bad))(hd:aG d (pI u.br))
  (hj:s.h.get j=jp (.bM u.l 5)) (hlj:YD j s.nx=lc) (hne:YJ 0 j=li) (hns:aaf 2 s.nx=lc)
  (hrl:aG r0 r) (hlow:r.low 0=lc) (hlow3:r.low 3=lc):Ct pC l 2 r u.H 3 e s:=by
 subst ha;subst hb;subst hn;refine fp [j] he hr ⟨rfl,Yd hns,fun x y=>?_,⟨?_,hlow3,ac⟩,⟨⟨_,hi,.cells ⟨.refl _,.refl _,hc,hd,ac⟩⟩,Yd Z,rfl,⟨.bM u.l 5,hj,.of_eq Z⟩,Yd Z,ac,ac⟩,?_⟩
 .simp only[Yr]at y;subst y;exact Yd hlj
 .rw[PV.jU _ _ hlow];exact hrl
 .have:(0:Nat)≠j:=fun e=>by subst e;simp at hne
  show([0,j]:List Nat).Nodup;simpa using this
theorem kN{l:List ResultVar}{r r0 a b c d:PV}{e:Exit}{u:WS}{j n:Nat}(he:e= .normal∨e= .ret:=by first|exact .inr Z|exact .inl Z)(hr:lv pC s l=jp r0:=by exact rfl)(hi:s.h.get 0=jp (.cells [a,b,c,d] (jp 247)):=by exact rfl)(ha:a= .fE u.fr 0:=by exact rfl)(hb:b= .sl j 0 n 1:=by exact rfl)(hn:n=u.l.length:=by exact rfl)(hc:aG c (pB u.bad):=by first|exact .refl _|exact .kb _)(hd:aG d (pI u.br):=by first|exact .refl _|exact .kb _)(hj:s.h.get j=jp (.bM u.l 5):=by exact rfl)(hlj:YD j s.nx=lc:=by exact rfl)(hne:YJ 0 j=li:=by exact rfl)(hns:aaf 2 s.nx=lc:=by exact rfl)(hrl:aG r0 r:=by exact .refl _)(hlow:r.low 0=lc:=by exact rfl)(hlow3:r.low 3=lc:=by exact rfl):Ct pC l 2 r u.H 3 e s:=Ma (he:=he) (hr:=hr) (hi:=hi) (ha:=ha) (hb:=hb) (hn:=hn) (hc:=hc) (hd:=hd) (hj:=hj) (hlj:=hlj) (hne:=hne) (hns:=hns) (hrl:=hrl) (hlow:=hlow) (hlow3:=hlow3)
theorem WK{n0 j m:Nat}{C:AF}{w A:WS}{a b c d:PV}(hw:w=A)(hi:s.h.get 0=jp (.cells [a,b,c,d] (jp 247)))(ha:a= .fE w.fr 0)(hb:b= .sl j 0 m 1)(hm:m=w.l.length)(hc:aG c (pB w.bad))(hd:aG d (pI w.br))(hj:s.h.get j=jp (.bM w.l 5))
  (hlj:YD j s.nx=lc) (hne:YJ 0 j=li) (h0:YD 0 n0=lc) (hns:aaf n0 s.nx=lc) (hf:Gp (n0+1) (sg n0 [j]) s.f C):Wk n0 [j] s ⟨C,[(0,jp (A.uO 0 n0)),(n0,jp (.bM A.l 5))],n0+1⟩:=by
 subst hw;subst ha;subst hb;subst hm;have u:0<n0:=Yd h0;have s0:sg n0 [j] 0=0:=gr u;have D:YD n0 n0=li:=Zq.2 fun e=>absurd (Yd e) (by omega);have F:YD 0 (n0+1)=lc:=YX (by omega);have G:YD n0 (n0+1)=lc:=YX (by omega);have y:sg n0 [j] n0=j:=by simp[sg,D]
 refine⟨rfl,Yd hns,fun x B=>?_,hf,⟨⟨_,by rw[s0];exact hi,?_⟩,aag u,?_,⟨.bM w.l 5,by rw[y];exact hj,.of_eq Z⟩,ZY _,ac,ac⟩,?_⟩
 .simp only[Yr]at B;subst B;exact Yd hlj
 .simp only[AO.c6,dZ,PV.c6,s0,y];exact .cells ⟨.refl _,.refl _,hc,hd,ac⟩
 .simp[AO.low,bq,PV.low,F,G]
 .have:(0:Nat)≠j:=fun e=>by subst e;simp at hne
  simp only[eB,s0,y];simpa using this
theorem tF{n0 j m:Nat}{x:AF}{w u:WS}{a b c d:PV}(hw:w=u)(hi:s.h.get 0=jp (.cells [a,b,c,d] (jp 247)):=by exact rfl)(ha:a= .fE w.fr 0:=by exact rfl)(hb:b= .sl j 0 m 1:=by exact rfl)(hm:m=w.l.length:=by exact rfl)(hc:aG c (pB w.bad):=by first|exact .refl _|exact .kb _)(hd:aG d (pI w.br):=by first|exact .refl _|exact .kb _)(hj:s.h.get j=jp (.bM w.l 5):=by exact rfl)(hlj:YD j s.nx=lc:=by exact rfl)(hne:YJ 0 j=li:=by exact rfl)(h0:YD 0 n0=lc:=by exact rfl)(hns:aaf n0 s.nx=lc:=by exact rfl)(hf:Gp (n0+1) (sg n0 [j]) s.f x:=by repeat' (first|exact ac|exact aG.refl _|exact rfl|apply YW)):Wk n0 [j] s ⟨x,[(0,jp (u.uO 0 n0)),(n0,jp (.bM u.l 5))],n0+1⟩:=WK (hw:=hw) (hi:=hi) (ha:=ha) (hb:=hb) (hm:=hm) (hc:=hc) (hd:=hd) (hj:=hj) (hlj:=hlj) (hne:=hne) (h0:=h0) (hns:=hns) (hf:=hf)
end
end
def BF(w:WS)(s:aj):WS:=⟨li,w.l++s.data.toList,w.bad,w.br⟩
theorem d183(w:WS)(s:aj)(hb:w.l.length+s.size<=140737488355328):cj prog 243 [.ptr 0 0,pS s] w.O (.bX [pI s.size,.iv (.v .nilIface)]) (BF w s).H 3:=by
 refine aE ab func243 Z (by decide) ntmps243 Z (by simp) ?_;refine gA Z (zq [0,1] (d204 w) ?_);refine gA Z ?_;refine PS ab Z Z Z Z Z Z Z Z Z Z Z Z Z Z Z Z hb ?_;refine gA Z kN
def aV(w:WS)(b:Bool):WS:=⟨w.fr,w.l,w.bad||!b,w.br⟩
theorem Pw(w:WS){b:Bool}(h:(!b)=li):aV w b=w:=by cases w;simp_all [aV]
theorem Px(w:WS){b:Bool}(h:(!b)=lc):aV w b=⟨w.fr,w.l,lc,w.br⟩:=by cases w;simp_all [aV]
theorem d146(w:WS)(b:Bool):cj prog 216 [.ptr 0 0,pB b] w.O (.bX []) (aV w b).H 3:=by
 refine aE ab func216 Z (by decide) ntmps216 Z (by simp) ?_;refine zJ Z Z (fun h=>?_) fun h=>?_
 .rw[Px w h];refine gA Z kN
 .rw[Pw w h];refine gA Z kN
def ba(w:WS)(b:List aj):WS:=b.foldl BF w
def gJ(b:List aj):Nat:=(b.map aa6).sum
theorem KQ(w:WS)(s:aj):(BF w s).l.length=w.l.length+s.size:=by simp[BF]
theorem kW: ∀(b:List aj) (w:WS),(ba w b).l.length=w.l.length+gJ b
 | [],w=>by simp[ba,gJ]
 |s::r,w=>by
  have:=kW r (BF w s);simp only[ba,YN]at this ⊢;rw[this,KQ];simp[gJ];omega
theorem xB: ∀(b:List aj) (i:Nat),i<b.length->gJ (b.take i)+(b.getD i io).size<=gJ b
 | [],i,h=>by simp at h
 |s::r,0,_=>by simp[gJ]
 |s::r,i+1,h=>by
  have:=xB r i (by simpa using h);simp[gJ]at this ⊢;omega
theorem d147(w:WS)(d:List aj)(A:d.length<=1000)(hb:w.l.length+gJ d<=140737488355328):cj prog 217 [.ptr 0 0,.sl 2 0 d.length 1] [w.c,.bM w.l 5,aC 1 d cR] (.bX []) [(0,jp ((ba w d).uO 0 3)),(3,jp (.bM (ba w d).l 5))] 4:=by
 refine aE ab func217 Z (by decide) ntmps217 Z (by simp) ?_;refine gA Z ?_;refine uv 2 (fun k=>cR (d.getD k io)) Z (cL Z) (by simp[AF.rk,PV.bG,qS]) ⟨(by simp[AO.rk,dC,PV.bG]),ac,jT _ _ _ _ _ _,ac⟩ ?_;refine ar 0 d.length (Yl _) (fun i=>⟨[(0,.ptr 0 0),(6,.iv (strs d)),(7,pI d.length),(8,pI i)],[(0,jp ((ba w (d.take i)).uO 0 3)),(3,jp (.bM (ba w (d.take i)).l 5))],4⟩) (fun _=>True) [1] ac
  (zM (bv ⟨.dp Z (fun k _=>by rw[YC]),rfl,bv (bv trivial)⟩) ⟨⟨_,rfl,.of_eq Z⟩,Yd Z,rfl,⟨_,rfl,.of_eq Z⟩,Yd Z,ac,ac⟩) fun i y _=>?_
 refine zJ Z Z (fun j=>?_) fun j=>?_
 .have j:i<d.length:=zN j;have u:ba w (d.take (i+1))=BF (ba w (d.take i)) (d.getD i io):=cF (g:=BF) (b:=w) j;have x:=kW (d.take i) w;have B:=xB d i j;refine gA Z (j7 (d183 (ba w (d.take i)) (d.getD i io) (by omega)) ?_);refine gA Z ⟨j,ac,[4],zW ⟨⟨_,rfl,.of_eq (by rw[u];rfl)⟩,Yd Z,rfl,⟨_,rfl,.of_eq (by rw[u];rfl)⟩,Yd Z,ac,ac⟩⟩
 .have j:d.length<=i:=zG j;rw[Yn j];refine gA Z (zD [3] Z (zW ⟨⟨_,rfl,.of_eq Z⟩,Yd Z,rfl,⟨_,rfl,.of_eq Z⟩,Yd Z,ac,ac⟩))
end Go.Proofs.YtflegjieadkonaaGreatDoor
namespace Go.Proofs
open Go.Shelf
def Tryz.BS:Go.Shelf.Ren:=⟨fun|171=>273|243=>285|246=>297|283=>302|284=>303|285=>304|286=>305|129=>153|317=>307|318=>308|319=>309|320=>310|337=>311|338=>312|n=>n,fun|3=>3|9=>9|2=>2|4=>4|171=>337|0=>0|53=>205|37=>243|5=>5|173=>339|212=>343|51=>203|20=>20|213=>344|46=>179|232=>345|233=>346|n=>n,fun|17=>0|18=>1|19=>2|n=>n⟩
theorem Tryz.Lm:Go.Proofs.LaysM.n171 Tryz.prog Tryz.BS:={
 mixed:=by kernel_rfl
 f129:=Tryz.func153.trans (congrArg jp (by kernel_rfl))
 f171:=Tryz.func273.trans (congrArg jp (by kernel_rfl))
 f243:=Tryz.func285.trans (congrArg jp (by kernel_rfl))
 f246:=Tryz.func297.trans (congrArg jp (by kernel_rfl))
 f283:=Tryz.func302.trans (congrArg jp (by kernel_rfl))
 f284:=Tryz.func303.trans (congrArg jp (by kernel_rfl))
 f285:=Tryz.func304.trans (congrArg jp (by kernel_rfl))
 f286:=Tryz.func305.trans (congrArg jp (by kernel_rfl))
 f317:=Tryz.func307.trans (congrArg jp (by kernel_rfl))
 f318:=Tryz.func308.trans (congrArg jp (by kernel_rfl))
 f319:=Tryz.func309.trans (congrArg jp (by kernel_rfl))
 f320:=Tryz.func310.trans (congrArg jp (by kernel_rfl))
 f337:=Tryz.func311.trans (congrArg jp (by kernel_rfl))
 f338:=Tryz.func312.trans (congrArg jp (by kernel_rfl))
 t0:=Tryz.underlying0
 a0:=Tryz.isAgg0
 z0:=Tryz.sizeOf0
 v0:=Tryz.zeroValue0
 t2:=Tryz.underlying2
 a2:=Tryz.isAgg2
 z2:=Tryz.sizeOf2
 v2:=Tryz.zeroValue2
 t3:=Tryz.underlying3
 a3:=Tryz.isAgg3
 z3:=Tryz.sizeOf3
 v3:=Tryz.zeroValue3
 t4:=Tryz.underlying4
 a4:=Tryz.isAgg4
 z4:=Tryz.sizeOf4
 v4:=Tryz.zeroValue4
 t5:=Tryz.underlying5
 a5:=Tryz.isAgg5
 z5:=Tryz.sizeOf5
 v5:=Tryz.zeroValue5
 t9:=Tryz.underlying9
 a9:=Tryz.isAgg9
 z9:=Tryz.sizeOf9
 v9:=Tryz.zeroValue9
 t20:=Tryz.underlying20
 a20:=Tryz.isAgg20
 z20:=Tryz.sizeOf20
 v20:=Tryz.zeroValue20
 t37:=Tryz.underlying243
 a37:=Tryz.isAgg243
 z37:=Tryz.sizeOf243
 v37:=Tryz.zeroValue243
 t46:=Tryz.underlying179
 a46:=Tryz.isAgg179
 z46:=Tryz.sizeOf179
 v46:=Tryz.zeroValue179
 t51:=Tryz.underlying203
 a51:=Tryz.isAgg203
 z51:=Tryz.sizeOf203
 v51:=Tryz.zeroValue203
 t53:=Tryz.underlying205
 a53:=Tryz.isAgg205
 z53:=Tryz.sizeOf205
 v53:=Tryz.zeroValue205
 t171:=Tryz.underlying337
 a171:=Tryz.isAgg337
 z171:=Tryz.sizeOf337
 v171:=Tryz.zeroValue337
 t173:=Tryz.underlying339
 a173:=Tryz.isAgg339
 z173:=Tryz.sizeOf339
 v173:=Tryz.zeroValue339
 t212:=Tryz.underlying343
 a212:=Tryz.isAgg343
 z212:=Tryz.sizeOf343
 v212:=Tryz.zeroValue343
 t213:=Tryz.underlying344
 a213:=Tryz.isAgg344
 z213:=Tryz.sizeOf344
 t232:=Tryz.underlying345
 a232:=Tryz.isAgg345
 z232:=Tryz.sizeOf345
 v232:=Tryz.zeroValue345
 t233:=Tryz.underlying346
 a233:=Tryz.isAgg346
 z233:=Tryz.sizeOf346
 v233:=Tryz.zeroValue346
 g17:=by kernel_rfl
 g18:=by kernel_rfl
 g19:=by kernel_rfl
 i0:=by kernel_rfl
 i2:=by kernel_rfl
 i3:=by kernel_rfl
 i4:=by kernel_rfl
 i5:=by kernel_rfl
 i9:=by kernel_rfl
 i20:=by kernel_rfl
 i37:=by kernel_rfl
 i46:=by kernel_rfl
 i51:=by kernel_rfl
 i53:=by kernel_rfl
 i171:=by kernel_rfl
 i173:=by kernel_rfl
 i212:=by kernel_rfl
 i232:=by kernel_rfl
 i233:=by kernel_rfl
 m17:=by kernel_rfl
 m18:=by kernel_rfl
 m19:=by kernel_rfl}
theorem YtflegjieadkonaaGreatDoor.VB (n:Int) (h0: -9223372036854775808<=n) (h1:n<=9223372036854775807) (w:World) (b:Lib.TabIs Tryz.prog w "internal/strconv.uint64pow10" .u64 Lib.pow10Tab):
  Calls Tryz.prog 273 #[.int .i64 n] w fun e d=>e= .returned (.string ⟨(Lib.itoa n).toArray⟩)∧ ∃k os,d=Go.Sort.grow (w.drewN k) os:=Any.strconv_Itoa Tryz.Lm n h0 h1 w b
end Go.Proofs
namespace Go.Proofs.YtflegjieadkonaaGreatDoor
open Go Go.Al Go.Proofs.Tryz
theorem WZ:prog.globalNamed "internal/strconv.uint64pow10" =jp 0:=by kernel_rfl
theorem pow_eq:s9=Lib.pow10Tab:=by decide
theorem WM{M:Mem}{N:Nm}{U:Nat->Prop}{h:AH}{w:World}(hr:Rel M N U h w):Lib.TabIs prog w "internal/strconv.uint64pow10" .u64 Lib.pow10Tab:=by
 obtain⟨T,d,b⟩:=hr.dT 0 _ (M.P0 0 _ Z);show World.var? _ _ _=_;simp only[World.var?,WZ,abg,b,pow_eq]
theorem V7(n:Int)(h0: -9223372036854775808<=n)(h1:n<=9223372036854775807):Pure prog 273 [pI n] (pS ⟨(Lib.itoa n).toArray⟩):=by
 refine⟨bN func273 Z (by decide),fun M N w C x u F=>?_⟩;obtain⟨v,rfl⟩: ∃v,C=[v]:=by
  cases C with
  |nil=>cases u
  |cons v r=>cases r with
   |nil=>exact⟨v,rfl⟩
   |cons a b=>simp at u
 have y:VR M N (· <0) (pI n) v:=F 0 _ Z;have A:v= .int .i64 n:=by
  cases y with
  |iv _ _ h=>cases h;rfl
 subst A;refine(VB n h0 h1 w (WM x)).mono ?_;rintro e G ⟨rfl,k,os,rfl⟩;have B: ∀b,b<w.heap.size->(Go.Sort.grow (w.drewN k) os).heap[b]? =w.heap[b]? :=fun b hb=>by
  show(w.heap++os)[b]? =_;rw[Zr hb]
 refine⟨_,M,N,pS ⟨(Lib.itoa n).toArray⟩,[],0,rfl,⟨rfl,rfl,rfl⟩,⟨rfl,rfl,rfl,?_,fun b hb _=>B b hb,.refl _,fun b c h1 D=>(nomatch (h1.symm.trans D)),.refl _ _,fun _ h=>h,fun i o d=>(nomatch d)⟩,⟨fun b c hb=>?_,fun i o d=>(nomatch d),fun i o d=>(nomatch d),fun i o d=>(nomatch d),fun i j o p d=>(nomatch d)⟩,.iv _ _ (.v _)⟩
 .show w.heap.size<=(w.heap++os).size;simp
 .exact(x.dT b c hb).mono (B b (x.dT b c hb).lt)
def PQ:aj:=⟨#[48,49,50,51,52,53,54,55,56,57,65,66,67,68,69,70]⟩
def PO(c:UInt8):Int:=(c.toNat:Int).fdiv (2 ^ min (Int.toNat 4) IntKind.u8.bits)
def R2(c:UInt8):Int:=IntKind.u8.wrap ((BitVec.ofInt IntKind.u8.bits (c.toNat:Int)&&&BitVec.ofInt IntKind.u8.bits 15).toNat:Int)
theorem LB(c:UInt8):0<=PO c∧PO c<16:=by
 have h:c.toNat<256:=c.toNat_lt;have e:PO c=(c.toNat:Int)/16:=by
  unfold PO;have:(2:Int) ^ min (Int.toNat 4) IntKind.u8.bits=16:=by decide
  rw[this];exact Int.fdiv_eq_ediv_of_nonneg _ (by decide)
 rw[e];omega
theorem Ld: ∀c:UInt8,0<=R2 c∧R2 c<16:=by
 intro c;have h: ∀n:Fin 256,0<=R2 (UInt8.ofNat n.val)∧R2 (UInt8.ofNat n.val)<16:=by decide
 have:=h ⟨c.toNat,c.toNat_lt⟩;simpa using this
def B5(n:Int):UInt8:=PQ.data.toList.getD n.toNat 0
def qB(c:UInt8):List UInt8:=if c.toNat=34∨c.toNat=92 then[92,c] else if c.toNat=10 then[92,110] else if c.toNat<32∨126<c.toNat then[92,120,B5 (PO c),B5 (R2 c)] else[c]
theorem Tl(c:UInt8):(qB c).length<=4:=by
 unfold qB
 repeat' split
 all_goals simp
def nk(s:aj)(i:Nat):List UInt8:=34::(s.data.toList.take i).flatMap qB
def p5(s:aj):aj:=⟨(34::s.data.toList.flatMap qB++ [34]).toArray⟩
theorem ug(s:aj): ∀i,(nk s i).length<=1+4*i
 |0=>by simp[nk]
 |i+1=>by
  have h:=ug s i;rcases Zj i s.data.toList.length with hi|hi
  .have:=Tl (s.data.toList.getD i io);simp only[nk,YT]at h ⊢;rw[cm hi,Yg];omega
  .simp only[nk,Yn hi]at h;simp only[nk,Yn (by omega:s.data.toList.length<=i+1)];omega
theorem Ab{s:aj}{i:Nat}(h:i<s.data.toList.length):nk s (i+1)=nk s i++qB (s.data.toList.getD i io):=by
 simp only[nk,cm h,ZO]
theorem Xw(s:aj)(hs:s.size<=1000):Pure prog 274 [pS s] (pS (p5 s)):=by
 have I:s.data.toList.length=s.size:=by simp
 refine ad ab func274 Z (by decide) ntmps274 Z (by simp) Z ?_;refine gA Z ?_;refine I3 ab Z Z Z Z Z Z Z Z Z Z Z (by omega) ?_;refine gA Z ?_;refine ar 0 s.data.toList.length (Yl _) (fun i=>⟨[(3,.sl 1 0 (nk s i).length 1),(8,.iv (.dp 1 s.data.toList.length fun k=>yH (s.data.toList.getD k io))),(9,pI s.data.toList.length),(10,pI i)],[(1,jp (aC 1 (nk s i) yH))],2⟩) (fun _=>True) [0] ac
  (zW (zS trivial)) fun i G _=>?_
 have J:=ug s i;refine zE Z Z (fun x=>?_) fun x=>?_
 .have x:s.data.toList.length<=i:=zG x;refine gA Z ?_;refine PZ ab (nk s i++ [34]) Z Z Z Z Z Z Z Z Z Z Z Z (by rw[Yk];rfl) (by rw[Yg];rfl) ?_;refine gA Z (zL (.of_eq ?_));simp only[nk,p5,Yn x];rfl
 have x:i<s.data.toList.length:=zN x;have b:=Ab x;have d:s.data.toList.getD (i:Int).toNat io=s.data.toList.getD i io:=rfl;generalize F:s.data.toList.getD i io=c at b d;refine zJ Z Z (fun A=>?_) fun A=>?_
 .have A:c.toNat=34:=by have:=zT A;rw[d]at this;omega
  rw[qB,am (.inl A)]at b;refine gA Z ⟨x,ac,[3],zM ⟨.row (by rw[b,Yg];rfl),rfl,bv (bv (bv ac))⟩ (hR Z (by rw[b,Yk,<-F];rfl) Z ac)⟩
 have A: ¬c.toNat=34:=by have:=zF A;rw[d]at this;omega
 refine zJ Z Z (fun B=>?_) fun B=>?_
 .have B:c.toNat=92:=by have:=zT B;rw[d]at this;omega
  rw[qB,am (.inr B)]at b;refine gA Z ⟨x,ac,[3],zM ⟨.row (by rw[b,Yg];rfl),rfl,bv (bv (bv ac))⟩ (hR Z (by rw[b,Yk,<-F];rfl) Z ac)⟩
 have B: ¬c.toNat=92:=by have:=zF B;rw[d]at this;omega
 rw[qB,be (by omega)]at b;refine zJ Z Z (fun y=>?_) fun y=>?_
 .have y:c.toNat=10:=by have:=zT y;rw[d]at this;omega
  rw[am y]at b;refine gA Z ⟨x,ac,[3],zM ⟨.row (by rw[b,Yg];rfl),rfl,bv (bv (bv ac))⟩ (hR Z (by rw[b,Yk];rfl) Z ac)⟩
 have y: ¬c.toNat=10:=by have:=zF y;rw[d]at this;omega
 rw[be y]at b;have j:=LB c;have u:=Ld c;rw[<-F]at j u;simp only[PO,R2]at j u;refine zJ Z Z (fun C=>?_) fun C=>?_
 .have C:c.toNat<32:=by have:=zT C;rw[d]at this;omega
  rw[am (.inl C)]at b;refine ox Z (by(repeat' (first|exact ac|exact rfl|exact aG.refl _|exact j|exact u|apply YW))<;>first|omega|exact j.1|exact j.2|exact u.1|exact u.2|simp) ?_;exact⟨x,ac,[3],zM ⟨.row (by rw[b,Yg];rfl),rfl,bv (bv (bv ac))⟩ (hR Z (by rw[b,Yk,<-F];rfl) Z ac)⟩
 have C: ¬c.toNat<32:=by have:=zF C;rw[d]at this;omega
 refine zJ Z Z (fun D=>?_) fun D=>?_
 .have D:126<c.toNat:=by have:=zT D;rw[d]at this;omega
  rw[am (.inr D)]at b;refine ox Z (by(repeat' (first|exact ac|exact rfl|exact aG.refl _|exact j|exact u|apply YW))<;>first|omega|exact j.1|exact j.2|exact u.1|exact u.2|simp) ?_;exact⟨x,ac,[3],zM ⟨.row (by rw[b,Yg];rfl),rfl,bv (bv (bv ac))⟩ (hR Z (by rw[b,Yk,<-F];rfl) Z ac)⟩
 have D: ¬126<c.toNat:=by have:=zF D;rw[d]at this;omega
 rw[be (by omega)]at b;refine gA Z ⟨x,ac,[3],zM ⟨.row (by rw[b,Yg];rfl),rfl,bv (bv (bv ac))⟩ (hR Z (by rw[b,Yk,<-F];rfl) Z ac)⟩
def tM(v:tE):aj:=if v.kind=1 then⟨(Lib.itoa v.num).toArray⟩ else if eC v.sym then v.sym else p5 v.sym
theorem sG{v:tE}(h:dy v=0)(h1:v.kind=1): -2147483647<=v.num∧v.num<=2147483647:=by
 unfold dy at h;rw[am h1]at h;split at h
 .rename_i b;exact b.2
 .cases h
theorem sF{v:tE}(h:dy v=0)(h1: ¬v.kind=1):v.sym.size<=64:=by
 unfold dy at h;rw[be h1]at h;split at h
 .split at h
  .rename_i b;exact b.2
  .cases h
 .cases h
theorem Xz(v:tE)(j:dy v=0):Pure prog 262 [ag v.c] (pS (tM v)):=by
 refine ad ab func262 Z (by decide) ntmps262 Z (by simp) Z ?_;refine zJ Z Z (fun b=>?_) fun b=>?_
 .have b:v.kind=1:=by simpa using b
  have:=sG j b;refine gA Z (zp (V7 v.num (by omega) (by omega)) ?_);refine gA Z (zL (.of_eq ?_));rw[tM,am b];rfl
 have b: ¬v.kind=1:=by simpa using b
 have u:=sF j b;refine gA Z (zp (Xc v.sym) ?_);refine zJ Z Z (fun d=>?_) fun d=>?_
 .have d:eC v.sym=lc:=d;refine gA Z (zL (.of_eq ?_));rw[tM,be b,am d];rfl
 .have d:eC v.sym=li:=d;refine gA Z (zp (Xw v.sym (by omega)) ?_);refine gA Z (zL (.of_eq ?_));rw[tM,be b,be (by rw[d];simp)];rfl
def nW(v:tE):aj:=if dy v=0 then tM v else⟨#[]⟩
theorem XF(v:tE):Pure prog 244 [ag v.c] (.bX [pS (nW v),pI (dy v)]):=by
 refine ad ab func244 Z (by decide) ntmps244 Z (by simp) Z ?_;refine gA Z (zp (XR v) ?_);refine zJ Z Z (fun b=>?_) fun b=>?_
 .have b: ¬dy v=0:=by simpa using b
  refine gA Z (zL (.of_eq ?_));rw[nW,be b];rfl
 .have b:dy v=0:=by simpa using b
  refine gA Z (zp (Xz v b) ?_);refine gA Z (zL (.of_eq ?_));rw[nW,am b,b];rfl
def nJ(w:WS)(v:tE):WS:=ba (aV w (lw (dy v=0))) [nW v]
theorem d149(w:WS)(v:tE)(hb:w.l.length<=1000000000000)(b:(nW v).size<=1000):cj prog 219 [.ptr 0 0,ag v.c] w.O (.bX []) (nJ w v).H 3:=by
 refine aE ab func219 Z (by decide) ntmps219 Z (by simp) ?_;refine gA Z (zp (XF v) ?_);refine gA Z (VG (d146 ⟨_,_,_,_⟩ (lw (dy v=0))) Z Z Z Z Z Z Z Z Z Z Z Z ?_);refine gA Z (go_wp (d147 ⟨_,_,_,_⟩ [nW v] (by simp) (by simp[gJ,aV];omega)) Z Z Z Z Z Z Z Z Z Z Z Z ?_);refine gA Z kN
def bm(op:Int):Int:=if op=1∨op=2 then 1 else if op=3∨op=4∨op=5 then 2 else if op=6 then 3 else 0
theorem Qk(op:Int):Pure prog 246 [pI op] (pI (bm op)):=by
 refine ad ab func246 Z (by decide) ntmps246 Z (by simp) Z ?_
 repeat' (first|(refine gA Z (zI (fun _=>?_) (fun _=>?_)))|(refine gA Z (zL (.of_eq ?_))))
 all_goals(refine(Fw ?_:pI _=pI _);simp only[aaS,aaC,decide_eq_true_eq,decide_eq_false_iff_not] at*;simp_all [bm])
def eF(e:Expr):Int:=if e.kind=4 then bm e.op else 4
theorem Jt(e:Expr):Pure prog 264 [ag e.c] (pI (eF e)):=by
 refine ad ab func264 Z (by decide) ntmps264 Z (by simp) Z ?_
 repeat' (first|(refine gA Z (zI (fun _=>?_) (fun _=>?_)))|(refine gA Z (zp (Qk e.op) ?_))|(refine gA Z (zL (.of_eq ?_))))
 all_goals(refine(Fw ?_:pI _=pI _);simp_all [eF])
def cQ(v:tE):Bool:=lw (v.kind=0)&&(lw (v.num=0)&&(lw (v.sym=Yp)&&lc))
def c8(e:Expr):Bool:=lw (e.kind=0)&&(lw (e.var=⟨#[]⟩)&&(cQ e.val&&(lw (e.op=0)&&lw ((e.args.length:Int)=0))))
theorem Ql(e:Expr):Pure prog 245 [ag e.c] (pB (c8 e)):=by
 refine ad ab func245 Z (by decide) ntmps245 Z (by simp) Z ?_
 repeat' (first|(refine gA Z (zI (fun _=>?_) (fun _=>?_)))|(refine gA Z (zL (.of_eq ?_))))
 all_goals(refine(fx ?_:pB _=pB _))
 all_goals(simp only[c8,cQ, *];rfl)
def kH(l:Lit):Bool:=
 (lw (l.kind=1)||decide (l.kind=2)||!(!lw (l.atom.rel=⟨#[]⟩)||decide ((l.atom.ae.length:Int)>0)))&&
 ((!(!lw (l.kind=3))||!(!lw (l.op=0)||(!c8 l.left||!c8 l.right)))&&
 (lw (l.kind=4)||(lw (l.dY=0)&&(lw (l.bp=⟨#[]⟩)&&(c8 l.kQ&&lw ((l.au.length:Int)=0))))))
set_option maxHeartbeats 4000000 in
theorem XE(l:Lit):Pure prog 221 [ag l.c] (pB (kH l)):=by
 refine ad ab func221 Z (by decide) ntmps221 Z (by simp) Z ?_
 repeat' (first|(refine gA Z (zI (fun _=>?_) (fun _=>?_)))|(refine gA Z (zp (Ql l.left) ?_))|(refine gA Z (zp (Ql l.right) ?_))|(refine gA Z (zp (Ql l.kQ) ?_))|(refine gA Z (zL (.of_eq ?_))))
 all_goals(refine(fx ?_:pB _=pB _))
 all_goals(try simp only[aaS,aaC] at*)
 all_goals(simp_all [kH])
def pE(op:Int):aj:=if op=1 then⟨#[43]⟩ else if op=2 then⟨#[45]⟩ else if op=3 then⟨#[42]⟩ else if op=4 then⟨#[47]⟩ else⟨#[109,111,100]⟩
def sgL:aj:=⟨#[43,45,42,47]⟩
theorem Xs(op:Int):Pure prog 265 [pI op] (pS (pE op)):=by
 refine ad ab func265 Z (by decide) ntmps265 Z (by simp) Z ?_;refine gA Z ?_;refine AD ab Z Z Z Z Z Z Z ?_;refine gA Z ?_;refine ar 0 4 (by decide) (fun i=>⟨[(0,pI op),(5,.ptr 0 0)],[(0,jp (.eT sgL i))],1⟩) (fun i=> ∀k:Nat,k<i-> ¬(k:Int)+1=op) [] (by simp)
  (zW ⟨⟨_,rfl,.of_eq Z⟩,Yd Z,ac,ac⟩) fun i C b=>?_
 have j:i=0∨i=1∨i=2∨i=3∨i=4:=by omega
 rcases j with rfl|rfl|rfl|rfl|rfl
 .refine gA Z ?_;refine ov Z Z Z Z Z Z (fun h=>absurd h (by decide)) (fun _=>?_);refine zJ Z Z (fun h=>?_) fun h=>?_
  .have h:op=1:=by have:=zT h;omega
   refine gA Z ?_;refine xa ab Z Z Z Z Z Z Z Z Z ?_;refine gA Z (zL (.of_eq ?_));refine(congrArg pS ?_:pS _=pS _);subst h;decide
  .have h: ¬op=1:=by have:=zF h;omega
   refine gA Z ⟨by decide,fun k u=>(by rcases(by omega:k<0∨k=0) with d|rfl;exact b k d;omega),[],zW ⟨⟨_,rfl,.of_eq Z⟩,Yd Z,ac,ac⟩⟩
 .refine gA Z ?_;refine ov Z Z Z Z Z Z (fun h=>absurd h (by decide)) (fun _=>?_);refine zJ Z Z (fun h=>?_) fun h=>?_
  .have h:op=2:=by have:=zT h;omega
   refine gA Z ?_;refine xa ab Z Z Z Z Z Z Z Z Z ?_;refine gA Z (zL (.of_eq ?_));refine(congrArg pS ?_:pS _=pS _);subst h;decide
  .have h: ¬op=2:=by have:=zF h;omega
   refine gA Z ⟨by decide,fun k u=>(by rcases(by omega:k<1∨k=1) with d|rfl;exact b k d;omega),[],zW ⟨⟨_,rfl,.of_eq Z⟩,Yd Z,ac,ac⟩⟩
 .refine gA Z ?_;refine ov Z Z Z Z Z Z (fun h=>absurd h (by decide)) (fun _=>?_);refine zJ Z Z (fun h=>?_) fun h=>?_
  .have h:op=3:=by have:=zT h;omega
   refine gA Z ?_;refine xa ab Z Z Z Z Z Z Z Z Z ?_;refine gA Z (zL (.of_eq ?_));refine(congrArg pS ?_:pS _=pS _);subst h;decide
  .have h: ¬op=3:=by have:=zF h;omega
   refine gA Z ⟨by decide,fun k u=>(by rcases(by omega:k<2∨k=2) with d|rfl;exact b k d;omega),[],zW ⟨⟨_,rfl,.of_eq Z⟩,Yd Z,ac,ac⟩⟩
 .refine gA Z ?_;refine ov Z Z Z Z Z Z (fun h=>absurd h (by decide)) (fun _=>?_);refine zJ Z Z (fun h=>?_) fun h=>?_
  .have h:op=4:=by have:=zT h;omega
   refine gA Z ?_;refine xa ab Z Z Z Z Z Z Z Z Z ?_;refine gA Z (zL (.of_eq ?_));refine(congrArg pS ?_:pS _=pS _);subst h;decide
  .have h: ¬op=4:=by have:=zF h;omega
   refine gA Z ⟨by decide,fun k u=>(by rcases(by omega:k<3∨k=3) with d|rfl;exact b k d;omega),[],zW ⟨⟨_,rfl,.of_eq Z⟩,Yd Z,ac,ac⟩⟩
 .refine gA Z ?_;refine ov Z Z Z Z Z Z (fun _=>?_) (fun h=>absurd h (by decide));refine gA Z (zL (.of_eq ?_));have x:=b 0 (by decide);have y:=b 1 (by decide);have A:=b 2 (by decide);have B:=b 3 (by decide);rw[pE,be (by omega),be (by omega),be (by omega),be (by omega)];rfl
theorem Fu(s:aj):(p5 s).size<=2+4*s.size:=by
 have h:=ug s s.data.toList.length;simp only[nk,Z5,YT]at h;have e:(p5 s).size=(34::s.data.toList.flatMap qB++ [34]).length:=by simp[p5,aa6]
 have:s.data.toList.length=s.size:=by simp
 rw[e,Yg,YT,YY];omega
theorem nV(v:tE):(nW v).size<=300:=by
 unfold nW;split
 .rename_i d;unfold tM;split
  .rename_i b;have:=sG d b;have j:=Lib.itoa_length_le v.num (by omega) (by omega);have e:(⟨(Lib.itoa v.num).toArray⟩:ByteArray).size=(Lib.itoa v.num).length:=by simp[aa6]
   omega
  .rename_i b;have j:=sF d b;split
   .omega
   .have:=Fu v.sym;omega
 .decide
mutual
def Expr.ts:Expr->Nat
 | .mk _ v _ _ args=>v.size+400+Expr.lJ args
def Expr.lJ:List Expr->Nat
 | []=>0
 |e::r=>e.ts+Expr.lJ r
end
theorem Expr.mh(e:Expr):e.ts=e.var.size+400+Expr.lJ e.args:=by cases e;rfl
theorem Expr.tL: ∀(l:List Expr) (k:Nat),k<l.length->(l.getD k io).ts<=Expr.lJ l
 |e::r,0,_=>by simp[Expr.lJ]
 |e::r,k+1,h=>by
  have:=Expr.tL r k (by simpa using h);simp only[ZE,Expr.lJ];omega
 | [],k,h=>by simp at h
theorem Expr.wO: ∀(l:List Expr),l.length=2->(l.getD 0 io).ts+(l.getD 1 io).ts<=Expr.lJ l
 | [a,b],_=>by simp[Expr.lJ]
 | [],h=>by simp at h
 | [a],h=>by simp at h
 |a::b::c::r,h=>by simp at h
def sM:aj:=⟨#[45]⟩
def sO:aj:=⟨#[40]⟩
def sC:aj:=⟨#[41]⟩
def GF:aj:=⟨#[32]⟩
def oG(w:WS):WS:=⟨w.fr,w.l,lc,w.br⟩
def qh(e:Expr):Bool:=ey e.var&&(cQ e.val&&(lw (e.op=0)&&lw ((e.args.length:Int)=0)))
def rX(e:Expr):Bool:=lw (e.var=⟨#[]⟩)&&(lw (e.op=0)&&lw ((e.args.length:Int)=0))
def mC(e:Expr):Bool:=lw (e.var=⟨#[]⟩)&&(cQ e.val&&lw (bm e.op>0))
def aN(e:Expr):Expr:=e.args.getD 0 io
def lg(e:Expr):Expr:=e.args.getD 1 io
def pM(e:Expr):Bool:=lw (e.kind=2)&&lw (e.val.kind=1)
def oi(a:Expr):Bool:=lw (eF a<3)||(pM a&&lw (a.val.num>0))
def jJ(w:WS)(e:Expr)(k:WS):WS:=
 if w.bad=lc then oG w else if e.kind=1 then ba (aV w (qh e)) [e.var] else if e.kind=2 then nJ (aV w (rX e)) e.val else if e.kind=4 then k else oG w
def kq(a0:Bool->WS->Expr->WS)(w:WS)(e:Expr):WS:=
 if w.bad=lc then oG w else if e.op=6 then
  (if e.args.length=1 then a0 (oi (aN e)) (if(pM (aN e)&&lw ((aN e).val.num=0))=lc then ba (ba w [sM]) [sM] else ba w [sM]) (aN e) else oG w)
 else if e.args.length=2 then a0 (lw (eF (lg e)<=bm e.op)) (ba (a0 (lw (eF (aN e)<bm e.op)) w (aN e)) [GF,pE e.op,GF]) (lg e) else oG w
def cM:Nat->WS->Expr->WS
 |0,w,_=>oG w
 |1,w,e=>jJ w e (oG (aV w (mC e)))
 |m+2,w,e=>jJ w e (kq (fun b w a=>if b=lc then ba (cM m (ba w [sO]) a) [sC] else cM (m+1) w a) (aV w (mC e)) e)
def qQ(m:Nat)(b:Bool)(w:WS)(a:Expr):WS:=if b=lc then ba (cM m (ba w [sO]) a) [sC] else cM (m+1) w a
theorem aZ(w:WS)(b:Bool):(aV w b).l=w.l:=rfl
theorem im(w:WS):(oG w).l=w.l:=rfl
theorem cx(s:aj):gJ [s]=s.size:=by simp[gJ]
theorem C3(op:Int):(pE op).size<=3:=by
 unfold pE
 repeat' split
 all_goals decide
theorem aX(w:WS)(s:aj):(ba w [s]).l.length=w.l.length+s.size:=by rw[kW,cx]
theorem xq(w:WS)(v:tE):(nJ w v).l.length<=w.l.length+300:=by
 have:=nV v;rw[nJ,aX,aZ];omega
theorem As(w k:WS)(e:Expr)(h:k.l.length<=w.l.length+e.ts):(jJ w e k).l.length<=w.l.length+e.ts:=by
 have:=e.mh;unfold jJ
 repeat' split
 .rw[im];omega
 .rw[aX,aZ];omega
 .have:=xq (aV w (rX e)) e.val;rw[aZ]at this;omega
 .exact h
 .rw[im];omega
theorem ID(a0:Bool->WS->Expr->WS)(d: ∀b w a,(a0 b w a).l.length<=w.l.length+(2+a.ts))(w:WS)(e:Expr):(kq a0 w e).l.length<=w.l.length+e.ts:=by
 have B:=e.mh;unfold kq;split
 .rw[im];omega
 split
 .split
  .rename_i u;have y:=Expr.tL e.args 0 (by omega);have j:sM.size=1:=rfl;split
   .have:=d (oi (aN e)) (ba (ba w [sM]) [sM]) (aN e);rw[aX,aX]at this;simp only[aN]at this ⊢;omega
   .have:=d (oi (aN e)) (ba w [sM]) (aN e);rw[aX]at this;simp only[aN]at this ⊢;omega
  .rw[im];omega
 .split
  .rename_i u;have y:=Expr.wO e.args u;have x:=d (lw (eF (lg e)<=bm e.op)) (ba (a0 (lw (eF (aN e)<bm e.op)) w (aN e)) [GF,pE e.op,GF]) (lg e);have C:=d (lw (eF (aN e)<bm e.op)) w (aN e);have D:=C3 e.op;have j:GF.size=1:=rfl;rw[kW]at x;have A:gJ [GF,pE e.op,GF]=1+((pE e.op).size+1):=by simp[gJ,j]
   simp only[aN,lg] at*;omega
  .rw[im];omega
theorem en: ∀(n:Nat) (w:WS) (e:Expr),(cM n w e).l.length<=w.l.length+e.ts
 |0,w,e=>by rw[cM,im];omega
 |1,w,e=>by rw[cM];exact As _ _ _ (by rw[im,aZ];omega)
 |m+2,w,e=>by
  rw[cM];refine As _ _ _ ?_
  have:=ID (fun d w a=>if d=lc then ba (cM m (ba w [sO]) a) [sC] else cM (m+1) w a) (fun b w a=>by
   split
   .have j:=en m (ba w [sO]) a;have u:sO.size=1:=rfl;have x:sC.size=1:=rfl;rw[aX]at j ⊢;omega
   .have:=en (m+1) w a
    omega) (aV w (mC e)) e
  rwa[aZ]at this
theorem MM(m:Nat)(b:Bool)(w:WS)(a:Expr):(qQ m b w a).l.length<=w.l.length+(2+a.ts):=by
 unfold qQ;split
 .have d:=en m (ba w [sO]) a;have j:sO.size=1:=rfl;have u:sC.size=1:=rfl;rw[aX]at d ⊢;omega
 .have:=en (m+1) w a;omega
def PE(n:Nat):Prop:= ∀(d:Int) (w:WS) (e:Expr),d+1=n->w.l.length+e.ts<=1000000000->cj prog 222 [.ptr 0 0,ag e.c,pI d] w.O (.bX []) (cM n w e).H 3
theorem d225(n:Nat)(hn:n<=1000)(x:PE (n+1))(y:PE n)(b:Bool)(d:Int)(hd:d=n)(w:WS)(e:Expr)(hb:w.l.length+e.ts+2<=1000000000):cj prog 263 [.ptr 0 0,ag e.c,pB b,pI d] w.O (.bX []) (qQ n b w e).H 3:=by
 refine aE ab func263 Z (by decide) ntmps263 Z (by simp) ?_;refine zJ Z Z (fun h=>?_) fun h=>?_
 .have h:b=li:=by simpa using h
  rw[qQ,be (by rw[h];simp)];refine gA Z (j7 (x d w e (by omega) (by omega)) ?_);refine gA Z kN
 .have h:b=lc:=by simpa using h
  rw[qQ,am h];have j:sO.size=1:=rfl;have u:sC.size=1:=rfl;have A:=en n (ba w [sO]) e;have B:=aX w sO;refine gA Z (kZ (d147 w [sO] (by simp) (by rw[cx,j];omega)) ?_);refine gA Z (j7 (y (d-1) (ba w [sO]) e (by omega) (by omega)) ?_);refine gA Z (kZ (d147 (cM n (ba w [sO]) e) [sC] (by simp) (by rw[cx,u];omega)) ?_);refine gA Z kN
theorem VV(d:Int)(hd:d<0)(w:WS)(e:Expr):cj prog 247 [.ptr 0 0,ag e.c,pI d] w.O (.bX []) (oG w).H 3:=by
 refine aE ab func247 Z (by decide) ntmps247 Z (by simp) ?_
 repeat' (first
  |((rename_i h;exact absurd hd (zF h)))
  |(refine gA Z (zI (fun _=>?_) (fun _=>?_)))
  |(refine gA Z (Ma (by first|exact .inr Z|exact .inl Z) Z Z Z Z Z (by first|exact .refl _|exact .kb _) (by first|exact .refl _|exact .kb _) Z Z Z Z (.refl _) Z Z)))
set_option maxHeartbeats 2000000 in
theorem d213(m:Nat)(hm:m<=900)(G:PE (m+1))(I:PE m)(d:Int)(hd:d=m)(w:WS)(e:Expr)(hb:w.l.length+e.ts<=1000000000):cj prog 247 [.ptr 0 0,ag e.c,pI d] w.O (.bX []) (kq (qQ m) w e).H 3:=by
 refine cj.le (aa:=[.ptr 0 0,ag e.c,pI d]) (args:=[.ptr 0 0,ag e.c1,pI d]) ?_ ⟨.refl _,e.x9,.refl _,ac⟩;have e0:=e.mh;have F:sM.size=1:=rfl;have x:m<=1000:=by omega
 refine aE ab func247 Z (by decide) ntmps247 Z (by simp) ?_;refine zJ Z Z (fun J=>?_) fun J=>?_
 .have J:e.op=6:=zT J;refine zE Z Z (fun B=>?_) fun B=>?_
  .have B:w.bad=lc:=B;rw[kq,am B];refine gA Z kN
  have B: ¬w.bad=lc:=by rw[show w.bad=li from B];simp
  refine zE Z Z (fun C=>?_) fun C=>?_
  .have C: ¬e.args.length=1:=by simp at C;omega
   rw[kq,be B,am J,be C];refine gA Z kN
  have C:e.args.length=1:=by simp at C;omega
  have hg:(aN e).ts<=_:=Expr.tL e.args 0 (by omega);have j:kq (qQ m) w e=qQ m (oi (aN e)) (if(pM (aN e)&&lw ((aN e).val.num=0))=lc then ba (ba w [sM]) [sM] else ba w [sM]) (aN e):=by rw[kq,be B,am J,am C]
  have b0:e.args.getD 0 io=aN e:=rfl;refine zJ Z Z (fun h3=>?_) fun h3=>?_
  .exact absurd (zT h3) (by omega)
  refine zE Z Z (fun h7=>?_) fun h7=>?_
  .exact absurd (zF h7) (by simp)
  have y:=aX w sM;refine zJ Z Z (fun hk=>?_) fun hk=>?_
  .have a0:(aN e).kind=2:=zT hk;refine gA Z (kZ (d147 w [sM] (by simp) (by rw[cx,F];omega)) ?_);refine zE Z Z (fun hv=>?_) fun hv=>?_
   .have D: ¬(aN e).val.kind=1:=zF hv;have A:pM (aN e)=li:=by rw[pM,decide_eq_false D,Zv]
    rw[A,Zm,be (by simp)]at j;refine gA Z (kR (Jt (aN e)) ?_);refine zJ Z Z (fun u=>?_) fun u=>?_
    .have b:eF (aN e)<3:=zT u;rw[oi,decide_eq_true b,aaK]at j;rw[j];refine gA Z (zh (d225 m x G I lc d hd (ba w [sM]) (aN e) (by rw[y,F];omega)) ?_);refine gA Z kN
    .have b: ¬eF (aN e)<3:=zF u;refine zJ Z Z (fun S=>?_) fun S=>?_
     .exact absurd (zT S) D
     rw[oi,decide_eq_false b,Zt,A,Zm]at j;rw[j];refine gA Z (zh (d225 m x G I li d hd (ba w [sM]) (aN e) (by rw[y,F];omega)) ?_);refine gA Z kN
   .have D:(aN e).val.kind=1:=zT hv;have A:pM (aN e)=lc:=by rw[pM,decide_eq_true D,decide_eq_true a0];rfl
    rw[A,Zc]at j;refine zJ Z Z (fun h0=>?_) fun h0=>?_
    .have Y:(aN e).val.num=0:=zT h0;rw[am (decide_eq_true Y)]at j;refine gA Z (kZ (d147 (ba w [sM]) [sM] (by simp) (by rw[cx,y,F];omega)) ?_);refine gA Z (kR (Jt (aN e)) ?_);refine zJ Z Z (fun u=>?_) fun u=>?_
     .have b:eF (aN e)<3:=zT u;rw[oi,decide_eq_true b,aaK]at j;rw[j];refine gA Z (zh (d225 m x G I lc d hd (ba (ba w [sM]) [sM]) (aN e) (by rw[aX,y,F];omega)) ?_);refine gA Z kN
     .have b: ¬eF (aN e)<3:=zF u;refine zE Z Z (fun S=>?_) fun S=>?_
      .exact absurd D (zF S)
      rw[oi,decide_eq_false b,Zt,A,Zc]at j;rw[j];refine gA Z (zh (d225 m x G I (lw ((aN e).val.num>0)) d hd (ba (ba w [sM]) [sM]) (aN e) (by rw[aX,y,F];omega)) ?_);refine gA Z kN
    .have Y: ¬(aN e).val.num=0:=zF h0;rw[be (by simpa using Y)]at j;refine gA Z (kR (Jt (aN e)) ?_);refine zJ Z Z (fun u=>?_) fun u=>?_
     .have b:eF (aN e)<3:=zT u;rw[oi,decide_eq_true b,aaK]at j;rw[j];refine gA Z (zh (d225 m x G I lc d hd (ba w [sM]) (aN e) (by rw[y,F];omega)) ?_);refine gA Z kN
     .have b: ¬eF (aN e)<3:=zF u;refine zE Z Z (fun S=>?_) fun S=>?_
      .exact absurd D (zF S)
      rw[oi,decide_eq_false b,Zt,A,Zc]at j;rw[j];refine gA Z (zh (d225 m x G I (lw ((aN e).val.num>0)) d hd (ba w [sM]) (aN e) (by rw[y,F];omega)) ?_);refine gA Z kN
  .have a0: ¬(aN e).kind=2:=zF hk;have A:pM (aN e)=li:=by rw[pM,decide_eq_false a0];rfl
   rw[A,Zm,be (by simp)]at j;refine gA Z (kZ (d147 w [sM] (by simp) (by rw[cx,F];omega)) ?_);refine gA Z (kR (Jt (aN e)) ?_);refine zJ Z Z (fun u=>?_) fun u=>?_
   .have b:eF (aN e)<3:=zT u;rw[oi,decide_eq_true b,aaK]at j;rw[j];refine gA Z (zh (d225 m x G I lc d hd (ba w [sM]) (aN e) (by rw[y,F];omega)) ?_);refine gA Z kN
   .have b: ¬eF (aN e)<3:=zF u;rw[oi,decide_eq_false b,Zt,A,Zm]at j;rw[j];refine gA Z (zh (d225 m x G I li d hd (ba w [sM]) (aN e) (by rw[y,F];omega)) ?_);refine gA Z kN
 .have J: ¬e.op=6:=zF J;refine zE Z Z (fun B=>?_) fun B=>?_
  .have B:w.bad=lc:=B;rw[kq,am B];refine gA Z kN
  have B: ¬w.bad=lc:=by rw[show w.bad=li from B];simp
  refine zE Z Z (fun C=>?_) fun C=>?_
  .have C: ¬e.args.length=2:=by simp at C;omega
   rw[kq,be B,be J,be C];refine gA Z kN
  have C:e.args.length=2:=by simp at C;omega
  have hg:(aN e).ts+(lg e).ts<=_:=Expr.wO e.args C;rw[kq,be B,be J,am C];refine zJ Z Z (fun h3=>?_) fun h3=>?_
  .exact absurd (zT h3) (by omega)
  refine zJ Z Z (fun h7=>?_) fun h7=>?_
  .exact absurd (zT h7) (by simp)
  refine gA Z (kR (Jt (aN e)) ?_);refine gA Z (kR (Qk e.op) ?_);refine gA Z (zh (d225 m x G I (lw (eF (aN e)<bm e.op)) d hd w (aN e) (by omega)) ?_);refine gA Z (zp (Xs e.op) ?_);have c0:=MM m (lw (eF (aN e)<bm e.op)) w (aN e);have d0:=C3 e.op;have e2:GF.size=1:=rfl;have e3:gJ [GF,pE e.op,GF]=1+((pE e.op).size+1):=by simp[gJ,e2]
  refine gA Z (kZ (d147 (qQ m (lw (eF (aN e)<bm e.op)) w (aN e)) [GF,pE e.op,GF] (by simp) (by rw[e3];omega)) ?_);refine gA Z (kR (Jt (lg e)) ?_);refine gA Z (kR (Qk e.op) ?_);refine gA Z (zh (d225 m x G I (lw (eF (lg e)<=bm e.op)) d hd (ba (qQ m (lw (eF (aN e)<bm e.op)) w (aN e)) [GF,pE e.op,GF]) (lg e) (by rw[kW,e3];omega)) ?_);refine gA Z kN
theorem d189(d:Int)(J:0<=d)(S:d<=1000)(w:WS)(e:Expr)(hb:w.l.length+e.ts<=1000000000)(k:WS)(F:cj prog 247 [.ptr 0 0,ag e.c,pI (d-1)] (aV w (mC e)).O (.bX []) k.H 3):cj prog 222 [.ptr 0 0,ag e.c,pI d] w.O (.bX []) (jJ w e k).H 3:=by
 have Y:=e.mh;refine aE ab func222 Z (by decide) ntmps222 Z (by simp) ?_;refine zE Z Z (fun G=>?_) fun G=>?_
 .have G:w.bad=lc:=G;rw[jJ,am G];refine gA Z kN
 have A: ¬w.bad=lc:=by rw[show w.bad=li from G];simp
 refine zJ Z Z (fun I=>?_) fun I=>?_
 .exact absurd (zT I) (by omega)
 refine zJ Z Z (fun B=>?_) fun B=>?_
 .have j:e.kind=1:=zT B;have y:jJ w e k=ba (aV w (qh e)) [e.var]:=by rw[jJ,be A,am j]
  rw[y];refine gA Z (zp (Gg e.var) ?_);refine zE Z Z (fun g0=>?_) fun g0=>?_
  .have b:qh e=li:=by simp only[qh,cQ, *];rfl
   rw[b];refine gA Z (j7 (d146 w li) ?_);refine gA Z (kZ (d147 (aV w li) [e.var] (by simp) (by rw[cx,aZ];omega)) ?_);refine gA Z kN
  refine zE Z Z (fun g1=>?_) fun g1=>?_
  .have b:qh e=li:=by simp only[qh,cQ, *];rfl
   rw[b];refine gA Z (j7 (d146 w li) ?_);refine gA Z (kZ (d147 (aV w li) [e.var] (by simp) (by rw[cx,aZ];omega)) ?_);refine gA Z kN
  refine zE Z Z (fun g2=>?_) fun g2=>?_
  .have b:qh e=li:=by simp only[qh,cQ, *];rfl
   rw[b];refine gA Z (j7 (d146 w li) ?_);refine gA Z (kZ (d147 (aV w li) [e.var] (by simp) (by rw[cx,aZ];omega)) ?_);refine gA Z kN
  have b:qh e=lw ((e.args.length:Int)=0):=by simp only[qh,cQ, *];rfl
  rw[b];refine gA Z (j7 (d146 w (lw ((e.args.length:Int)=0))) ?_);refine gA Z (kZ (d147 (aV w (lw ((e.args.length:Int)=0))) [e.var] (by simp) (by rw[cx,aZ];omega)) ?_);refine gA Z kN
 have j: ¬e.kind=1:=zF B;refine zJ Z Z (fun C=>?_) fun C=>?_
 .have u:e.kind=2:=zT C;have y:jJ w e k=nJ (aV w (rX e)) e.val:=by rw[jJ,be A,be j,am u]
  rw[y];have a0:=nV e.val;refine zE Z Z (fun g0=>?_) fun g0=>?_
  .have b:rX e=li:=by simp only[rX,cQ, *];rfl
   rw[b];refine gA Z (j7 (d146 w li) ?_);refine gA Z (j7 (d149 (aV w li) e.val (by rw[aZ];omega) (by omega)) ?_);refine gA Z kN
  refine zE Z Z (fun g1=>?_) fun g1=>?_
  .have b:rX e=li:=by simp only[rX,cQ, *];rfl
   rw[b];refine gA Z (j7 (d146 w li) ?_);refine gA Z (j7 (d149 (aV w li) e.val (by rw[aZ];omega) (by omega)) ?_);refine gA Z kN
  have b:rX e=lw ((e.args.length:Int)=0):=by simp only[rX,cQ, *];rfl
  rw[b];refine gA Z (j7 (d146 w (lw ((e.args.length:Int)=0))) ?_);refine gA Z (j7 (d149 (aV w (lw ((e.args.length:Int)=0))) e.val (by rw[aZ];omega) (by omega)) ?_);refine gA Z kN
 have u: ¬e.kind=2:=zF C;refine zJ Z Z (fun D=>?_) fun D=>?_
 .have x:e.kind=4:=zT D;have y:jJ w e k=k:=by rw[jJ,be A,be j,be u,am x]
  rw[y];refine zE Z Z (fun g0=>?_) fun g0=>?_
  .have b:mC e=li:=by simp only[mC,cQ, *];rfl
   rw[b]at F;refine gA Z (j7 (d146 w li) ?_);refine gA Z (j7 (F) ?_);refine gA Z kN
  refine zE Z Z (fun g1=>?_) fun g1=>?_
  .have b:mC e=li:=by simp only[mC,cQ, *];rfl
   rw[b]at F;refine gA Z (j7 (d146 w li) ?_);refine gA Z (j7 (F) ?_);refine gA Z kN
  refine gA Z (zp (Qk e.op) ?_);have b:mC e=lw (bm e.op>0):=by simp only[mC,cQ, *];rfl
  rw[b]at F;refine gA Z (j7 (d146 w (lw (bm e.op>0))) ?_);refine gA Z (j7 (F) ?_);refine gA Z kN
 have x: ¬e.kind=4:=zF D;rw[jJ,be A,be j,be u,be x];refine gA Z kN
theorem pe0:PE 0:=fun d w e hd hb=>by
 refine aE ab func222 Z (by decide) ntmps222 Z (by simp) ?_;rw[cM]
 repeat' (first
  |((rename_i h;exact absurd (by omega:d<0) (zF h)))
  |(refine gA Z (zI (fun _=>?_) (fun _=>?_)))
  |(refine gA Z (Ma (by first|exact .inr Z|exact .inl Z) Z Z Z Z Z (by first|exact .refl _|exact .kb _) (by first|exact .refl _|exact .kb _) Z Z Z Z (.refl _) Z Z)))
theorem Fv: ∀n,n<=900->PE n
 |0,_=>pe0
 |1,_=>fun d w e hd hb=>d189 d (by omega) (by omega) w e hb _ (VV (d-1) (by omega) (aV w (mC e)) e)
 |m+2,h=>fun d w e hd hb=>d189 d (by omega) (by omega) w e (by omega) _ (d213 m (by omega) (Fv (m+1) (by omega)) (Fv m (by omega)) (d-1) (by omega) (aV w (mC e)) e (by rw[aZ];omega))
theorem sq(w:WS)(e:Expr)(hb:w.l.length+e.ts<=900000000):cj prog 222 [.ptr 0 0,ag e.c,pI 16] w.O (.bX []) (cM 17 w e).H 3:=Fv 17 (by omega) 16 w e (by omega) (by omega)
def wD:aj:=⟨#[44,32]⟩
def Kk:aj:=⟨#[95]⟩
def iQ(i:Nat)(w:WS):WS:=if i=0 then w else ba w [wD]
def zc(t:Term):Bool:=ey t.var&&cQ t.val
def ze(t:Term):Bool:=lw (t.var=⟨#[]⟩)&&cQ t.val
def lD(w:WS)(t:Term):WS:=
 if t.kind=1 then ba (aV w (zc t)) [t.var] else if t.kind=2 then nJ (aV w (lw (t.var=⟨#[]⟩))) t.val else if t.kind=3 then ba (aV w (ze t)) [Kk] else oG w
def eI(l:List Term)(w:WS):Nat->WS
 |0=>w
 |i+1=>lD (iQ i (eI l w i)) (l.getD i io)
def ku(w:WS)(a:Atom):WS:=ba (eI a.ae (ba (aV w (eC a.rel)) [a.rel,sO]) a.ae.length) [sC]
def Term.ts(t:Term):Nat:=t.var.size+310
def Atom.ts(a:Atom):Nat:=a.rel.size+10+(a.ae.map Term.ts).sum
theorem pj(i:Nat)(w:WS):(iQ i w).l.length<=w.l.length+2:=by
 have e:wD.size=2:=rfl;unfold iQ;split
 .omega
 .rw[aX,e];omega
theorem H9(w:WS)(t:Term):(lD w t).l.length<=w.l.length+300+t.var.size:=by
 have e:Kk.size=1:=rfl;unfold lD
 repeat' split
 .rw[aX,aZ];omega
 .have:=xq (aV w (lw (t.var=⟨#[]⟩))) t.val;rw[aZ]at this;omega
 .rw[aX,aZ,e];omega
 .rw[im];omega
theorem uU: ∀(l:List Term) (i:Nat),i<l.length->((l.take i).map Term.ts).sum+(l.getD i io).ts<=(l.map Term.ts).sum
 | [],i,h=>by simp at h
 |s::r,0,_=>by simp
 |s::r,i+1,h=>by
  have:=uU r i (by simpa using h);simp at this ⊢;omega
theorem Gy: ∀(l:List Term) (i:Nat),((l.take i).map Term.ts).sum<=(l.map Term.ts).sum
 | [],i=>by simp
 |s::r,0=>by simp
 |s::r,i+1=>by have:=Gy r i;simp at this ⊢;omega
theorem sJ(l:List Term)(w:WS): ∀i,i<=l.length->(eI l w i).l.length<=w.l.length+((l.take i).map Term.ts).sum
 |0,_=>by simp[eI]
 |i+1,h=>by
  have b:=sJ l w i (by omega);have d:=pj i (eI l w i);have j:=H9 (iQ i (eI l w i)) (l.getD i io);have u:(l.getD i io).ts=(l.getD i io).var.size+310:=rfl;have x:((l.take (i+1)).map Term.ts).sum=((l.take i).map Term.ts).sum+(l.getD i io).ts:=by
   rw[aK (by omega),Yk,List.sum_append];simp
  rw[eI];omega
theorem A8(w:WS)(a:Atom):(ku w a).l.length<=w.l.length+a.ts:=by
 have b:sO.size=1:=rfl;have d:sC.size=1:=rfl;have j:gJ [a.rel,sO]=a.rel.size+1:=by simp[gJ,b]
 have u:=sJ a.ae (ba (aV w (eC a.rel)) [a.rel,sO]) a.ae.length (Ym _);rw[kW,j,aZ,Z5]at u;rw[ku,aX,d];unfold Atom.ts;omega
theorem Ar: ∀l:List Term,l.length<=(l.map Term.ts).sum
 | []=>by simp
 |t::r=>by have:=Ar r;simp[Term.ts]at this ⊢;omega
set_option maxHeartbeats 1000000 in
theorem d104(w:WS)(a:Atom)(hb:w.l.length+a.ts<=900000000):cj prog 188 [.ptr 0 0,ag a.c] w.O (.bX []) (ku w a).H 3:=by
 have I:sO.size=1:=rfl;have J:sC.size=1:=rfl;have A:wD.size=2:=rfl;have e5:Kk.size=1:=rfl;have G:gJ [a.rel,sO]=a.rel.size+1:=by simp[gJ,I]
 have f0:a.ts=a.rel.size+10+(a.ae.map Term.ts).sum:=rfl;have c0:=Ar a.ae;have a0:(ba (aV w (eC a.rel)) [a.rel,sO]).l.length=w.l.length+(a.rel.size+1):=by rw[kW,G,aZ]
 refine aE ab func188 Z (by decide) ntmps188 Z (by simp) ?_;refine gA Z (zp (Xc a.rel) ?_);refine gA Z (j7 (d146 w (eC a.rel)) ?_);refine gA Z (kZ (d147 (aV w (eC a.rel)) [a.rel,sO] (by simp) (by rw[G,aZ];omega)) ?_);generalize S:ba (aV w (eC a.rel)) [a.rel,sO]=w1 at*
 refine gA Z ?_;refine ar 0 a.ae.length (Yl _) (fun i=>⟨[(0,.ptr 0 0),(17,.iv (cT 5 a.ae Term.c)),(18,pI a.ae.length),(19,pI i)],[(0,jp ((eI a.ae w1 i).uO 0 6)),(6,jp (.bM (eI a.ae w1 i).l 5))],7⟩) (fun _=>True) _ ac
  (WK (w:=w1) Z Z Z Z Z (.refl _) (.refl _) Z Z Z Z Z (bv (bv (bv (bv trivial))))) fun i hi _=>?_
 have b0:=sJ a.ae w1 i hi;have d0:=Gy a.ae i;refine zE Z Z (fun u=>?_) fun u=>?_
 .have u:a.ae.length<=i:=zG u;have F:i=a.ae.length:=by omega
  subst F;refine gA Z (kZ (d147 (eI a.ae w1 a.ae.length) [sC] (by simp) (by rw[cx,J];omega)) ?_);rw[ku,S];refine gA Z kN
 have u:i<a.ae.length:=zN u;have e0:=uU a.ae i u;have b:eI a.ae w1 (i+1)=lD (iQ i (eI a.ae w1 i)) (a.ae.getD i io):=rfl;have ht:(a.ae.getD i io).ts=(a.ae.getD i io).var.size+310:=rfl;have i0:=nV (a.ae.getD i io).val;have Y:=pj i (eI a.ae w1 i);generalize hT:eI a.ae w1 i=w2 at*
 refine zJ Z Z (fun B=>?_) fun B=>?_
 .have B: ¬i=0:=by have:=zT B;omega
  rw[iQ,be B]at b;refine gA Z (kZ (d147 w2 [wD] (by simp) (by rw[cx,A];omega)) ?_);refine zJ Z Z (fun k1=>?_) fun k1=>?_
  .have d:(a.ae.getD i io).kind=1:=zT k1;rw[lD,am d]at b;refine gA Z (zp (Gg (a.ae.getD i io).var) ?_);refine zE Z Z (fun g0=>?_) fun g0=>?_
   .have x:zc (a.ae.getD i io)=li:=by have g:ey (a.ae.getD i io).var=li:=g0;rw[zc,g];rfl
    rw[x]at b;refine gA Z (j7 (d146 (ba w2 [wD]) li) ?_);refine gA Z (kZ (d147 (aV (ba w2 [wD]) li) [(a.ae.getD i io).var] (by simp) (by rw[cx,aZ];first|omega|(rw[aX,A];omega))) ?_);refine gA Z ⟨u,ac,_,tF (b.symm)⟩
   have x:zc (a.ae.getD i io)=cQ (a.ae.getD i io).val:=by have g:ey (a.ae.getD i io).var=lc:=g0;rw[zc,g];rfl
   rw[x]at b;refine gA Z (j7 (d146 (ba w2 [wD]) (cQ (a.ae.getD i io).val)) ?_);refine gA Z (kZ (d147 (aV (ba w2 [wD]) (cQ (a.ae.getD i io).val)) [(a.ae.getD i io).var] (by simp) (by rw[cx,aZ];first|omega|(rw[aX,A];omega))) ?_);refine gA Z ⟨u,ac,_,tF (b.symm)⟩
  have d: ¬(a.ae.getD i io).kind=1:=zF k1;refine zJ Z Z (fun C=>?_) fun C=>?_
  .have j:(a.ae.getD i io).kind=2:=zT C;rw[lD,be d,am j]at b;refine gA Z (j7 (d146 (ba w2 [wD]) (lw ((a.ae.getD i io).var=⟨#[]⟩))) ?_);refine gA Z (j7 (d149 (aV (ba w2 [wD]) (lw ((a.ae.getD i io).var=⟨#[]⟩))) (a.ae.getD i io).val (by rw[aZ];first|omega|(rw[aX,A];omega)) (by omega)) ?_);refine gA Z ⟨u,ac,_,tF (b.symm)⟩
  have j: ¬(a.ae.getD i io).kind=2:=zF C;refine zJ Z Z (fun D=>?_) fun D=>?_
  .have y:(a.ae.getD i io).kind=3:=zT D;rw[lD,be d,be j,am y]at b;refine zE Z Z (fun g0=>?_) fun g0=>?_
   .have x:ze (a.ae.getD i io)=li:=by have g:lw ((a.ae.getD i io).var=⟨#[]⟩)=li:=g0;rw[ze,g];rfl
    rw[x]at b;refine gA Z (j7 (d146 (ba w2 [wD]) li) ?_);refine gA Z (kZ (d147 (aV (ba w2 [wD]) li) [Kk] (by simp) (by rw[cx,aZ];first|omega|(rw[aX,A];omega))) ?_);refine gA Z ⟨u,ac,_,tF (b.symm)⟩
   have x:ze (a.ae.getD i io)=cQ (a.ae.getD i io).val:=by have g:lw ((a.ae.getD i io).var=⟨#[]⟩)=lc:=g0;rw[ze,g];rfl
   rw[x]at b;refine gA Z (j7 (d146 (ba w2 [wD]) (cQ (a.ae.getD i io).val)) ?_);refine gA Z (kZ (d147 (aV (ba w2 [wD]) (cQ (a.ae.getD i io).val)) [Kk] (by simp) (by rw[cx,aZ];first|omega|(rw[aX,A];omega))) ?_);refine gA Z ⟨u,ac,_,tF (b.symm)⟩
  have y: ¬(a.ae.getD i io).kind=3:=zF D;rw[lD,be d,be j,be y]at b;refine gA Z ⟨u,ac,_,tF (b.symm)⟩
 .have B:i=0:=by have:=zF B;omega
  rw[iQ,am B]at b;refine zJ Z Z (fun k1=>?_) fun k1=>?_
  .have d:(a.ae.getD i io).kind=1:=zT k1;rw[lD,am d]at b;refine gA Z (zp (Gg (a.ae.getD i io).var) ?_);refine zE Z Z (fun g0=>?_) fun g0=>?_
   .have x:zc (a.ae.getD i io)=li:=by have g:ey (a.ae.getD i io).var=li:=g0;rw[zc,g];rfl
    rw[x]at b;refine gA Z (j7 (d146 w2 li) ?_);refine gA Z (kZ (d147 (aV w2 li) [(a.ae.getD i io).var] (by simp) (by rw[cx,aZ];first|omega|(rw[aX,A];omega))) ?_);refine gA Z ⟨u,ac,_,tF (b.symm)⟩
   have x:zc (a.ae.getD i io)=cQ (a.ae.getD i io).val:=by have g:ey (a.ae.getD i io).var=lc:=g0;rw[zc,g];rfl
   rw[x]at b;refine gA Z (j7 (d146 w2 (cQ (a.ae.getD i io).val)) ?_);refine gA Z (kZ (d147 (aV w2 (cQ (a.ae.getD i io).val)) [(a.ae.getD i io).var] (by simp) (by rw[cx,aZ];first|omega|(rw[aX,A];omega))) ?_);refine gA Z ⟨u,ac,_,tF (b.symm)⟩
  have d: ¬(a.ae.getD i io).kind=1:=zF k1;refine zJ Z Z (fun C=>?_) fun C=>?_
  .have j:(a.ae.getD i io).kind=2:=zT C;rw[lD,be d,am j]at b;refine gA Z (j7 (d146 w2 (lw ((a.ae.getD i io).var=⟨#[]⟩))) ?_);refine gA Z (j7 (d149 (aV w2 (lw ((a.ae.getD i io).var=⟨#[]⟩))) (a.ae.getD i io).val (by rw[aZ];first|omega|(rw[aX,A];omega)) (by omega)) ?_);refine gA Z ⟨u,ac,_,tF (b.symm)⟩
  have j: ¬(a.ae.getD i io).kind=2:=zF C;refine zJ Z Z (fun D=>?_) fun D=>?_
  .have y:(a.ae.getD i io).kind=3:=zT D;rw[lD,be d,be j,am y]at b;refine zE Z Z (fun g0=>?_) fun g0=>?_
   .have x:ze (a.ae.getD i io)=li:=by have g:lw ((a.ae.getD i io).var=⟨#[]⟩)=li:=g0;rw[ze,g];rfl
    rw[x]at b;refine gA Z (j7 (d146 w2 li) ?_);refine gA Z (kZ (d147 (aV w2 li) [Kk] (by simp) (by rw[cx,aZ];first|omega|(rw[aX,A];omega))) ?_);refine gA Z ⟨u,ac,_,tF (b.symm)⟩
   have x:ze (a.ae.getD i io)=cQ (a.ae.getD i io).val:=by have g:lw ((a.ae.getD i io).var=⟨#[]⟩)=lc:=g0;rw[ze,g];rfl
   rw[x]at b;refine gA Z (j7 (d146 w2 (cQ (a.ae.getD i io).val)) ?_);refine gA Z (kZ (d147 (aV w2 (cQ (a.ae.getD i io).val)) [Kk] (by simp) (by rw[cx,aZ];first|omega|(rw[aX,A];omega))) ?_);refine gA Z ⟨u,ac,_,tF (b.symm)⟩
  have y: ¬(a.ae.getD i io).kind=3:=zF D;rw[lD,be d,be j,be y]at b;refine gA Z ⟨u,ac,_,tF (b.symm)⟩
end Go.Proofs.YtflegjieadkonaaGreatDoor
namespace Go.Proofs.YtflegjieadkonaaGreatDoor
open Go Go.Al
def xF:aj:=⟨#[110,111,116,32]⟩
def pX:aj:=⟨#[32,61,32]⟩
def pY:aj:=⟨#[32,123,32]⟩
def EY:aj:=⟨#[32,58,32]⟩
def wC:aj:=⟨#[32,125]⟩
def qJ(op:Int):aj:=if op=1 then⟨#[32,61,32]⟩ else if op=2 then⟨#[32,33,61,32]⟩ else if op=3 then⟨#[32,60,32]⟩ else if op=4 then⟨#[32,60,61,32]⟩ else if op=5 then⟨#[32,62,32]⟩ else⟨#[32,62,61,32]⟩
def fG(f:Int):aj:=if f=1 then⟨#[99,111,117,110,116]⟩ else if f=2 then⟨#[115,117,109]⟩ else if f=3 then⟨#[109,105,110]⟩ else⟨#[109,97,120]⟩
def xh(w:WS)(n:Int):WS:=⟨w.fr,w.l,w.bad,w.br+n⟩
def dt(f:Lit->WS->WS)(l:List Lit)(w:WS):Nat->WS
 |0=>w
 |i+1=>if(dt f l w i).bad=lc then dt f l w i else f (l.getD i io) (iQ i (dt f l w i))
def rY(w:WS)(a:fa):WS:=if a.func=1 then aV w (c8 a.ef) else ba (cM 17 w a.ef) [EY]
def yZ(f:Lit->WS->WS)(w:WS)(a:fa):WS:=
 if a.func<1∨5<=a.func∨16<=w.br∨a.body.length=0 then oG w
 else ba (xh (dt f a.body (xh (rY (ba (aV w (ey a.var)) [a.var,pX,fG a.func,pY]) a) 1) a.body.length) (-1)) [wC]
def DN(f:Lit->WS->WS)(l:Lit)(w:WS):WS:=
 if l.kind=2 then ku (ba w [xF]) l.atom else if l.kind=1 then ku w l.atom
 else if l.kind=3 then(if l.op<1∨7<=l.op then oG (cM 17 w l.left) else cM 17 (ba (cM 17 w l.left) [qJ l.op]) l.right)
 else if l.kind=4 then yZ f w l.agg else oG w
def eG:Nat->Lit->WS->WS
 |0,_,w=>w
 |n+1,l,w=>DN (eG n) l (aV w (kH l))
theorem du: ∀(b:List aj) (w:WS),(ba w b).br=w.br
 | [],w=>rfl
 |s::r,w=>du r (BF w s)
theorem qn(w:WS)(b:Bool):(aV w b).br=w.br:=rfl
theorem Qn(w:WS):(oG w).br=w.br:=rfl
theorem zr(w:WS)(v:tE):(nJ w v).br=w.br:=by rw[nJ,du];rfl
theorem DR(w k:WS)(e:Expr)(h:k.br=w.br):(jJ w e k).br=w.br:=by
 unfold jJ
 repeat' split
 .rfl
 .rw[du];rfl
 .rw[zr];rfl
 .exact h
 .rfl
theorem KY(a0:Bool->WS->Expr->WS)(d: ∀b w a,(a0 b w a).br=w.br)(w:WS)(e:Expr):(kq a0 w e).br=w.br:=by
 unfold kq
 repeat' split
 .rfl
 .rw[d,du,du]
 .rw[d,du]
 .rfl
 .rw[d,du,d]
 .rfl
theorem oz: ∀(n:Nat) (w:WS) (e:Expr),(cM n w e).br=w.br
 |0,w,e=>rfl
 |1,w,e=>by rw[cM];exact DR _ _ _ Z
 |m+2,w,e=>by
  rw[cM];refine DR _ _ _ ?_;rw[KY _ (fun b w a=>?_)]
  .rfl
  .split
   .rw[du,oz m,du]
   .exact oz (m+1) _ _
theorem ry(i:Nat)(w:WS):(iQ i w).br=w.br:=by
 unfold iQ;split
 .rfl
 .exact du _ _
theorem JZ(w:WS)(t:Term):(lD w t).br=w.br:=by
 unfold lD
 repeat' split
 .rw[du];rfl
 .rw[zr];rfl
 .rw[du];rfl
 .rfl
theorem zw(l:List Term)(w:WS): ∀i,(eI l w i).br=w.br
 |0=>rfl
 |i+1=>by rw[eI,JZ,ry,zw l w i]
theorem EN(w:WS)(a:Atom):(ku w a).br=w.br:=by rw[ku,du,zw,du];rfl
theorem oE(f:Lit->WS->WS)(hf: ∀l w,(f l w).br=w.br)(l:List Lit)(w:WS): ∀i,(dt f l w i).br=w.br
 |0=>rfl
 |i+1=>by
  rw[dt];split
  .exact oE f hf l w i
  .rw[hf,ry,oE f hf l w i]
theorem FA(w:WS)(a:fa):(rY w a).br=w.br:=by
 unfold rY;split
 .rfl
 .rw[du,oz]
theorem Qt(f:Lit->WS->WS)(hf: ∀l w,(f l w).br=w.br)(w:WS)(a:fa):(yZ f w a).br=w.br:=by
 unfold yZ;split
 .rfl
 .rw[du];show(dt _ _ _ _).br+ -1=_;rw[oE f hf];show(rY _ _).br+1+ -1=_;rw[FA,du,qn];omega
theorem PI(f:Lit->WS->WS)(hf: ∀l w,(f l w).br=w.br)(l:Lit)(w:WS):(DN f l w).br=w.br:=by
 unfold DN
 repeat' split
 .rw[EN,du]
 .exact EN _ _
 .rw[Qn,oz]
 .rw[oz,du,oz]
 .exact Qt f hf _ _
 .rfl
theorem w4: ∀(n:Nat) (l:Lit) (w:WS),(eG n l w).br=w.br
 |0,_,_=>rfl
 |n+1,l,w=>by rw[eG,PI (eG n) (w4 n)];rfl
mutual
def Lit.ts:Lit->Nat
 | .mk _ a _ l r _ v o b _=>100+a.ts+l.ts+r.ts+v.size+o.ts+Lit.lJ b
def Lit.lJ:List Lit->Nat
 | []=>0
 |e::r=>e.ts+Lit.lJ r
end
theorem Lit.mh(l:Lit):l.ts=100+l.atom.ts+l.left.ts+l.right.ts+l.bp.size+l.kQ.ts+Lit.lJ l.au:=by cases l;rfl
theorem Lit.tJ: ∀(l:List Lit) (i:Nat),i<l.length->Lit.lJ (l.take i)+(l.getD i io).ts<=Lit.lJ l
 | [],i,h=>by simp at h
 |s::r,0,_=>by simp[Lit.lJ]
 |s::r,i+1,h=>by
  have:=Lit.tJ r i (by simpa using h);simp only[ZF,Lit.lJ,ZE];omega
theorem Lit.JS: ∀(l:List Lit) (i:Nat),Lit.lJ (l.take i)<=Lit.lJ l
 | [],i=>by simp
 |s::r,0=>by simp[Lit.lJ]
 |s::r,i+1=>by have:=Lit.JS r i;simp only[ZF,Lit.lJ];omega
theorem Lit.S0(l:Lit):100<=l.ts:=by rw[l.mh];omega
theorem yE(op:Int):(qJ op).size<=4:=by
 unfold qJ
 repeat' split
 all_goals decide
theorem uw(op:Int):(fG op).size<=5:=by
 unfold fG
 repeat' split
 all_goals decide
def Qw(f:Lit->WS->WS):Prop:= ∀l w,(f l w).l.length+4<=w.l.length+l.ts
theorem rC(f:Lit->WS->WS)(hf:Qw f)(l:List Lit)(w:WS): ∀i,i<=l.length->(dt f l w i).l.length<=w.l.length+Lit.lJ (l.take i)
 |0,_=>by simp[dt,Lit.lJ]
 |i+1,h=>by
  have d:=rC f hf l w i (by omega);have y:Lit.lJ (l.take (i+1))=Lit.lJ (l.take i)+(l.getD i io).ts:=by
   rw[aK (by omega)];have: ∀(a:List Lit) (b:Lit),Lit.lJ (a++ [b])=Lit.lJ a+b.ts:=by
    intro a b
    induction a with
    |nil=>simp[Lit.lJ]
    |cons x r ih=>simp only[ZO,Lit.lJ,ih];omega
   exact this _ _
  rw[dt];split
  .omega
  .have j:=hf (l.getD i io) (iQ i (dt f l w i));have u:=pj i (dt f l w i);omega
theorem G7(w:WS)(a:fa):(rY w a).l.length<=w.l.length+a.ef.ts+3:=by
 have e:EY.size=3:=rfl;unfold rY;split
 .rw[aZ];omega
 .have:=en 17 w a.ef;rw[aX,e];omega
theorem Ay(w:WS)(a:fa):(ba (aV w (ey a.var)) [a.var,pX,fG a.func,pY]).l.length<=w.l.length+a.var.size+11:=by
 have b:pX.size=3:=rfl;have d:pY.size=3:=rfl;have h:=uw a.func;have e:gJ [a.var,pX,fG a.func,pY]=a.var.size+(3+((fG a.func).size+3)):=by simp[gJ,b,d]
 rw[kW,aZ,e];omega
theorem MS(f:Lit->WS->WS)(hf:Qw f)(w:WS)(a:fa):(yZ f w a).l.length<=w.l.length+a.var.size+a.ef.ts+Lit.lJ a.body+20:=by
 have e:wC.size=2:=rfl;unfold yZ;split
 .rw[im];omega
 .rw[aX,e];show(dt _ _ _ _).l.length+2<=_;have b:=rC f hf a.body (xh (rY (ba (aV w (ey a.var)) [a.var,pX,fG a.func,pY]) a) 1) a.body.length (Ym _);rw[Z5]at b;have d:=G7 (ba (aV w (ey a.var)) [a.var,pX,fG a.func,pY]) a;have j:=Ay w a;have u:(xh (rY (ba (aV w (ey a.var)) [a.var,pX,fG a.func,pY]) a) 1).l.length=(rY (ba (aV w (ey a.var)) [a.var,pX,fG a.func,pY]) a).l.length:=rfl;omega
theorem Li(f:Lit->WS->WS)(hf:Qw f)(l:Lit)(w:WS):(DN f l w).l.length+4<=w.l.length+l.ts:=by
 have x:=l.mh;have e:xF.size=4:=rfl;unfold DN
 repeat' split
 .have b:=A8 (ba w [xF]) l.atom;rw[aX,e]at b;omega
 .have b:=A8 w l.atom;omega
 .have b:=en 17 w l.left;rw[im];omega
 .have b:=en 17 w l.left;have d:=en 17 (ba (cM 17 w l.left) [qJ l.op]) l.right;have j:=yE l.op;rw[aX]at d;omega
 .have b:=MS f hf w l.agg;have d:l.agg.var=l.bp:=rfl;have j:l.agg.ef=l.kQ:=rfl;have u:l.agg.body=l.au:=rfl;rw[d,j,u]at b;omega
 .rw[im];omega
theorem x7: ∀n,Qw (eG n)
 |0=>fun l w=>by have:=l.S0;rw[eG];omega
 |n+1=>fun l w=>Li (eG n) (x7 n) l (aV w (kH l))
theorem A5{f:Lit->WS->WS}{l:List Lit}{w:WS}{i:Nat}(h:(dt f l w i).bad=lc): ∀k,dt f l w (i+k)=dt f l w i
 |0=>rfl
 |k+1=>by
  have:=A5 h k;rw[<-ZR,dt,this,am h]
end Go.Proofs.YtflegjieadkonaaGreatDoor
namespace Go.Proofs.YtflegjieadkonaaGreatDoor
open Go Go.Al Go.Proofs.Tryz
def MY(n:Nat):Prop:= ∀(l:Lit) (w:WS),l.size<=n->0<=w.br->w.br<=16->w.l.length+l.ts<=900000000->cj prog 190 [.ptr 0 0,ag l.c] w.O (.bX []) (eG n l w).H 3
set_option maxHeartbeats 1000000 in
theorem d214(n:Nat)(C:MY n)(w:WS)(b:List Lit)(hs:Lit.aA b<=n)(F:0<=w.br)(G:w.br<=16)(hb:w.l.length+Lit.lJ b+2<=900000000)(hn:n<=100000000):
  cj prog 248 [.ptr 0 0,.iv (lits b)] w.O (.bX []) (dt (eG n) b w b.length).H 3:=by
 have D:wD.size=2:=rfl;have Y:=Lit.ax b;refine aE ab func248 Z (by decide) ntmps248 Z (by simp) ?_;refine gA Z ?_;refine ar 0 b.length (Yl _) (fun i=>⟨[(0,.ptr 0 0),(6,.iv (lits b)),(7,pI b.length),(8,pI i)],[(0,jp ((dt (eG n) b w i).uO 0 2)),(2,jp (.bM (dt (eG n) b w i).l 5))],3⟩) (fun _=>True) _ ac
  (WK (w:=w) Z Z Z Z Z (.refl _) (.refl _) Z Z Z Z Z (bv (bv (bv (bv trivial))))) fun i J _=>?_
 have S:=rC (eG n) (x7 n) b w i J;have I:=oE (eG n) (w4 n) b w i;have b0:=Lit.JS b i;refine zE Z Z (fun j=>?_) fun j=>?_
 .have j:b.length<=i:=zG j;have B:i=b.length:=by omega
  subst B;refine gA Z kN
 have j:i<b.length:=zN j;have c0:=Lit.tJ b i j;have a0:=Lit.aS b i j;have d:dt (eG n) b w (i+1)=if(dt (eG n) b w i).bad=lc then dt (eG n) b w i else eG n (b.getD i io) (iQ i (dt (eG n) b w i)):=rfl;have u:=fun h=>A5 (f:=eG n) (l:=b) (w:=w) (i:=i) h (b.length-i);rw[Nat.add_sub_cancel' (Nat.le_of_lt j)]at u;have A:=pj i (dt (eG n) b w i);have y:=ry i (dt (eG n) b w i);generalize dt (eG n) b w i=w2 at*
 refine zJ Z Z (fun g=>?_) fun g=>?_
 .have g:w2.bad=lc:=g;rw[u g];refine gA Z kN
 have g: ¬w2.bad=lc:=by
  have g:w2.bad=li:=g;rw[g];decide
 rw[be g]at d;refine zJ Z Z (fun x=>?_) fun x=>?_
 .have x: ¬i=0:=by have:=zT x;omega
  rw[iQ,be x]at d A y;refine gA Z (kZ (d147 w2 [wD] (by simp) (by rw[cx,D];omega)) ?_);refine gA Z (j7 (C (b.getD i io) (ba w2 [wD]) (by omega) (by omega) (by omega) (by omega)) ?_);refine gA Z ⟨j,ac,_,tF (d.symm)⟩
 .have x:i=0:=by have:=zF x;omega
  rw[iQ,am x]at d A y;refine gA Z (j7 (C (b.getD i io) w2 (by omega) (by omega) (by omega) (by omega)) ?_);refine gA Z ⟨j,ac,_,tF (d.symm)⟩
def fa.ts(a:fa):Nat:=a.var.size+a.ef.ts+Lit.lJ a.body
set_option maxHeartbeats 4000000 in
theorem d190(n:Nat)(S:MY n)(w:WS)(a:fa)(hs:Lit.aA a.body<=n)(a0:0<=w.br)(b0:w.br<=16)(hb:w.l.length+a.ts+30<=900000000)(hn:n<=100000000):
  cj prog 223 [.ptr 0 0,ag a.c] w.O (.bX []) (yZ (eG n) w a).H 3:=by
 refine cj.le (args:=[.ptr 0 0,ag a.c1]) ?_ ⟨.refl _,a.x9,ac⟩;have J:wC.size=2:=rfl;have Y:EY.size=3:=rfl;have c0:=Lit.ax a.body;have d0:a.ts=a.var.size+a.ef.ts+Lit.lJ a.body:=rfl;have hW: ¬(a.func<1∨5<=a.func∨16<=w.br∨a.body.length=0)->yZ (eG n) w a=ba (xh (dt (eG n) a.body (xh (rY (ba (aV w (ey a.var)) [a.var,pX,fG a.func,pY]) a) 1) a.body.length) (-1)) [wC]:=fun h=>be h;have I:a.func<1∨5<=a.func∨16<=w.br∨a.body.length=0->yZ (eG n) w a=oG w:=fun h=>am h;have hh:=Ay w a;have x:=G7 (ba (aV w (ey a.var)) [a.var,pX,fG a.func,pY]) a;have j:=FA (ba (aV w (ey a.var)) [a.var,pX,fG a.func,pY]) a;rw[du,qn]at j;have y:(xh (rY (ba (aV w (ey a.var)) [a.var,pX,fG a.func,pY]) a) 1).l.length=(rY (ba (aV w (ey a.var)) [a.var,pX,fG a.func,pY]) a).l.length:=rfl;have A:(xh (rY (ba (aV w (ey a.var)) [a.var,pX,fG a.func,pY]) a) 1).br=(rY (ba (aV w (ey a.var)) [a.var,pX,fG a.func,pY]) a).br+1:=rfl;have u:=rC (eG n) (x7 n) a.body (xh (rY (ba (aV w (ey a.var)) [a.var,pX,fG a.func,pY]) a) 1) a.body.length (Ym _);rw[Z5]at u;have B:=oE (eG n) (w4 n) a.body (xh (rY (ba (aV w (ey a.var)) [a.var,pX,fG a.func,pY]) a) 1) a.body.length;have C:gJ [a.var,pX,fG a.func,pY]=a.var.size+(3+((fG a.func).size+3)):=by simp[gJ,pX,pY];rfl
 have D:=uw a.func;obtain⟨d,var,b,body⟩:=a;dsimp only at*
 refine aE ab func223 Z (by decide) ntmps223 Z (by simp) ?_;refine zE Z Z (fun g1=>?_) fun g1=>?_
 .rw[I (.inl (zT g1))];refine gA Z kN
 refine zE Z Z (fun g2=>?_) fun g2=>?_
 .rw[I (.inr (.inl (zT g2)))];refine gA Z kN
 refine zE Z Z (fun g3=>?_) fun g3=>?_
 .rw[I (.inr (.inr (.inl (zT g3))))];refine gA Z kN
 refine zJ Z Z (fun g4=>?_) fun g4=>?_
 .rw[I (.inr (.inr (.inr (abD.1 (zT g4)))))];refine gA Z kN
 have g1: ¬d<1:=zF g1;have g2: ¬d>=5:=zF g2;have g3: ¬w.br>=16:=zF g3;have g4: ¬body.length=0:=fun h=>zF g4 (abD.2 h);rw[hW (by rintro(h|h|h|h)<;>omega)];have hf:d=1∨d=2∨d=3∨d=4:=by omega
 clear hW I;rcases hf with rfl|rfl|rfl|rfl
 .have e:fG 1=⟨#[99,111,117,110,116]⟩:=rfl;rw[e]at hh x j y A u B C D ⊢;refine gA Z (zp (Gg var) ?_);refine gA Z (j7 (d146 w (ey var)) ?_);refine gA Z (B9 (d147 (aV w (ey var)) [var,pX,⟨#[99,111,117,110,116]⟩,pY] (by simp) (by rw[C,aZ];omega)) Z Z Z Z Z Z Z Z Z Z Z Z Z Z Z Z (by(repeat' (first|exact ac|exact rfl|exact aG.refl _|exact aG.bk (by assumption)|apply YW))<;>first|omega|(simp only[YK];omega)|(simp;done)|(simp;omega)) Z (by(repeat' (first|exact ac|exact rfl|exact aG.refl _|exact aG.bk (by assumption)|apply YW))<;>first|omega|(simp only[YK];omega)|(simp;done)|(simp;omega)) ?_);generalize G:ba (aV w (ey var)) [var,pX,⟨#[99,111,117,110,116]⟩,pY]=w1 at*
  have F:rY w1 ⟨1,var,b,body⟩=aV w1 (c8 b):=rfl;rw[F]at x j y A u B ⊢;refine zE Z Z (fun q=>?_) fun q=>?_
  .exact absurd (show lc=li from q) (by decide)
  refine gA Z (zp (Ql b) ?_);refine gA Z (j7 (d146 w1 (c8 b)) ?_);generalize aV w1 (c8 b)=w2 at*
  refine gA Z (j7 (d214 n S (xh w2 1) body hs (by omega) (by omega) (by omega) hn) ?_);generalize dt (eG n) body (xh w2 1) body.length=w3 at*
  refine gA Z (go_wp (d147 (xh w3 (-1)) [wC] (by simp) (by rw[cx,J];show w3.l.length+2<=_;omega)) Z Z Z Z Z Z Z Z Z Z Z Z ?_);refine gA Z kN
 .have e:fG 2=⟨#[115,117,109]⟩:=rfl;rw[e]at hh x j y A u B C D ⊢;refine gA Z (zp (Gg var) ?_);refine gA Z (j7 (d146 w (ey var)) ?_);refine gA Z (B9 (d147 (aV w (ey var)) [var,pX,⟨#[115,117,109]⟩,pY] (by simp) (by rw[C,aZ];omega)) Z Z Z Z Z Z Z Z Z Z Z Z Z Z Z Z (by(repeat' (first|exact ac|exact rfl|exact aG.refl _|exact aG.bk (by assumption)|apply YW))<;>first|omega|(simp only[YK];omega)|(simp;done)|(simp;omega)) Z (by(repeat' (first|exact ac|exact rfl|exact aG.refl _|exact aG.bk (by assumption)|apply YW))<;>first|omega|(simp only[YK];omega)|(simp;done)|(simp;omega)) ?_);generalize G:ba (aV w (ey var)) [var,pX,⟨#[115,117,109]⟩,pY]=w1 at*
  have F:rY w1 ⟨2,var,b,body⟩=ba (cM 17 w1 b) [EY]:=rfl;rw[F]at x j y A u B ⊢;refine zJ Z Z (fun q=>?_) fun q=>?_
  .exact absurd (show li=lc from q) (by decide)
  have hx:=en 17 w1 b;refine gA Z (j7 (sq w1 b (by omega)) ?_);refine gA Z (kZ (d147 (cM 17 w1 b) [EY] (by simp) (by rw[cx,Y];omega)) ?_);generalize ba (cM 17 w1 b) [EY]=w2 at*
  refine gA Z (j7 (d214 n S (xh w2 1) body hs (by omega) (by omega) (by omega) hn) ?_);generalize dt (eG n) body (xh w2 1) body.length=w3 at*
  refine gA Z (go_wp (d147 (xh w3 (-1)) [wC] (by simp) (by rw[cx,J];show w3.l.length+2<=_;omega)) Z Z Z Z Z Z Z Z Z Z Z Z ?_);refine gA Z kN
 .have e:fG 3=⟨#[109,105,110]⟩:=rfl;rw[e]at hh x j y A u B C D ⊢;refine gA Z (zp (Gg var) ?_);refine gA Z (j7 (d146 w (ey var)) ?_);refine gA Z (B9 (d147 (aV w (ey var)) [var,pX,⟨#[109,105,110]⟩,pY] (by simp) (by rw[C,aZ];omega)) Z Z Z Z Z Z Z Z Z Z Z Z Z Z Z Z (by(repeat' (first|exact ac|exact rfl|exact aG.refl _|exact aG.bk (by assumption)|apply YW))<;>first|omega|(simp only[YK];omega)|(simp;done)|(simp;omega)) Z (by(repeat' (first|exact ac|exact rfl|exact aG.refl _|exact aG.bk (by assumption)|apply YW))<;>first|omega|(simp only[YK];omega)|(simp;done)|(simp;omega)) ?_);generalize G:ba (aV w (ey var)) [var,pX,⟨#[109,105,110]⟩,pY]=w1 at*
  have F:rY w1 ⟨3,var,b,body⟩=ba (cM 17 w1 b) [EY]:=rfl;rw[F]at x j y A u B ⊢;refine zJ Z Z (fun q=>?_) fun q=>?_
  .exact absurd (show li=lc from q) (by decide)
  have hx:=en 17 w1 b;refine gA Z (j7 (sq w1 b (by omega)) ?_);refine gA Z (kZ (d147 (cM 17 w1 b) [EY] (by simp) (by rw[cx,Y];omega)) ?_);generalize ba (cM 17 w1 b) [EY]=w2 at*
  refine gA Z (j7 (d214 n S (xh w2 1) body hs (by omega) (by omega) (by omega) hn) ?_);generalize dt (eG n) body (xh w2 1) body.length=w3 at*
  refine gA Z (go_wp (d147 (xh w3 (-1)) [wC] (by simp) (by rw[cx,J];show w3.l.length+2<=_;omega)) Z Z Z Z Z Z Z Z Z Z Z Z ?_);refine gA Z kN
 .have e:fG 4=⟨#[109,97,120]⟩:=rfl;rw[e]at hh x j y A u B C D ⊢;refine gA Z (zp (Gg var) ?_);refine gA Z (j7 (d146 w (ey var)) ?_);refine gA Z (B9 (d147 (aV w (ey var)) [var,pX,⟨#[109,97,120]⟩,pY] (by simp) (by rw[C,aZ];omega)) Z Z Z Z Z Z Z Z Z Z Z Z Z Z Z Z (by(repeat' (first|exact ac|exact rfl|exact aG.refl _|exact aG.bk (by assumption)|apply YW))<;>first|omega|(simp only[YK];omega)|(simp;done)|(simp;omega)) Z (by(repeat' (first|exact ac|exact rfl|exact aG.refl _|exact aG.bk (by assumption)|apply YW))<;>first|omega|(simp only[YK];omega)|(simp;done)|(simp;omega)) ?_);generalize G:ba (aV w (ey var)) [var,pX,⟨#[109,97,120]⟩,pY]=w1 at*
  have F:rY w1 ⟨4,var,b,body⟩=ba (cM 17 w1 b) [EY]:=rfl;rw[F]at x j y A u B ⊢;refine zJ Z Z (fun q=>?_) fun q=>?_
  .exact absurd (show li=lc from q) (by decide)
  have hx:=en 17 w1 b;refine gA Z (j7 (sq w1 b (by omega)) ?_);refine gA Z (kZ (d147 (cM 17 w1 b) [EY] (by simp) (by rw[cx,Y];omega)) ?_);generalize ba (cM 17 w1 b) [EY]=w2 at*
  refine gA Z (j7 (d214 n S (xh w2 1) body hs (by omega) (by omega) (by omega) hn) ?_);generalize dt (eG n) body (xh w2 1) body.length=w3 at*
  refine gA Z (go_wp (d147 (xh w3 (-1)) [wC] (by simp) (by rw[cx,J];show w3.l.length+2<=_;omega)) Z Z Z Z Z Z Z Z Z Z Z Z ?_);refine gA Z kN
set_option maxHeartbeats 4000000 in
theorem Jk(n:Nat)(ih:MY n)(hn:n<=100000000):MY (n+1):=by
 intro l w hs F G hb;have B:xF.size=4:=rfl;have y:=l.size_eq;have A:=l.mh;have x:l.agg.ts=l.bp.size+l.kQ.ts+Lit.lJ l.au:=rfl;have D:eG (n+1) l w=DN (eG n) l (aV w (kH l)):=rfl;rw[D];have I:(aV w (kH l)).l.length=w.l.length:=rfl;have J:=qn w (kH l);have Y:=en 17 (aV w (kH l)) l.left;obtain⟨kind,atom,op,left,right,dY,bp,kQ,au,at_⟩:=l;dsimp only[Lit.atom,Lit.left,Lit.right,Lit.bp,Lit.kQ,Lit.au]at y A x Y;refine aE ab func190 Z (by decide) ntmps190 Z (by simp) ?_;refine gA Z (zp (XE (.mk kind atom op left right dY bp kQ au at_)) ?_);refine gA Z (j7 (d146 w (kH (.mk kind atom op left right dY bp kQ au at_))) ?_);generalize aV w (kH (.mk kind atom op left right dY bp kQ au at_))=w1 at*
 have C:DN (eG n) (.mk kind atom op left right dY bp kQ au at_) w1=if kind=2 then ku (ba w1 [xF]) atom else if kind=1 then ku w1 atom
  else if kind=3 then(if op<1∨7<=op then oG (cM 17 w1 left) else cM 17 (ba (cM 17 w1 left) [qJ op]) right)
  else if kind=4 then yZ (eG n) w1 (Lit.mk kind atom op left right dY bp kQ au at_).agg else oG w1:=rfl
 rw[C];refine zJ Z Z (fun d=>?_) fun d=>?_
 .have d:kind=2:=zT d;rw[am d];refine gA Z (kZ (d147 w1 [xF] (by simp) (by rw[cx,B];omega)) ?_);refine gA Z (j7 (d104 (ba w1 [xF]) atom (by rw[aX,B];omega)) ?_);refine gA Z kN
 have d: ¬kind=2:=zF d;rw[be d];refine zJ Z Z (fun k1=>?_) fun k1=>?_
 .have k1:kind=1:=zT k1;rw[am k1];refine gA Z (j7 (d104 w1 atom (by omega)) ?_);refine gA Z kN
 have k1: ¬kind=1:=zF k1;rw[be k1];refine zE Z Z (fun j=>?_) fun j=>?_
 .have j: ¬kind=3:=zF j;rw[be j];refine zJ Z Z (fun u=>?_) fun u=>?_
  .have u:kind=4:=zT u;rw[am u];refine gA Z (j7 (d190 n ih w1 (Lit.mk kind atom op left right dY bp kQ au at_).agg (by show Lit.aA au<=n;omega) (by omega) (by omega) (by omega) hn) ?_);refine gA Z kN
  .have u: ¬kind=4:=zF u;rw[be u];refine gA Z kN
 have j:kind=3:=zT j;rw[am j];refine gA Z (j7 (sq w1 left (by omega)) ?_);refine zE Z Z (fun g1=>?_) fun g1=>?_
 .rw[am (.inl (zT g1))];refine gA Z kN
 refine zJ Z Z (fun g2=>?_) fun g2=>?_
 .rw[am (.inr (zT g2))];refine gA Z kN
 have g1: ¬op<1:=zF g1;have g2: ¬op>=7:=zF g2;rw[be (by rintro(h|h)<;>omega)];generalize cM 17 w1 left=w2 at*
 have S:op=1∨op=2∨op=3∨op=4∨op=5∨op=6:=by omega
 clear C D;rcases S with rfl|rfl|rfl|rfl|rfl|rfl
 .have e:qJ 1=⟨#[32,61,32]⟩:=rfl;have b:((⟨#[32,61,32]⟩:aj)).size=3:=rfl;rw[e];refine ox Z (by dsimp only[Lit.op];exact(by(repeat' (first|exact ac|exact rfl|exact aG.refl _|exact aG.bk (by assumption)|apply YW))<;>first|omega|(simp only[YK];omega)|(simp;done)|(simp;omega))) (go_wp (d147 w2 [⟨#[32,61,32]⟩] (by simp) (by rw[cx,b];omega)) Z Z Z Z Z Z Z Z Z Z Z Z ?_);refine gA Z (j7 (sq (ba w2 [⟨#[32,61,32]⟩]) right (by rw[aX,b];omega)) ?_);refine gA Z kN
 .have e:qJ 2=⟨#[32,33,61,32]⟩:=rfl;have b:((⟨#[32,33,61,32]⟩:aj)).size=4:=rfl;rw[e];refine ox Z (by dsimp only[Lit.op];exact(by(repeat' (first|exact ac|exact rfl|exact aG.refl _|exact aG.bk (by assumption)|apply YW))<;>first|omega|(simp only[YK];omega)|(simp;done)|(simp;omega))) (go_wp (d147 w2 [⟨#[32,33,61,32]⟩] (by simp) (by rw[cx,b];omega)) Z Z Z Z Z Z Z Z Z Z Z Z ?_);refine gA Z (j7 (sq (ba w2 [⟨#[32,33,61,32]⟩]) right (by rw[aX,b];omega)) ?_);refine gA Z kN
 .have e:qJ 3=⟨#[32,60,32]⟩:=rfl;have b:((⟨#[32,60,32]⟩:aj)).size=3:=rfl;rw[e];refine ox Z (by dsimp only[Lit.op];exact(by(repeat' (first|exact ac|exact rfl|exact aG.refl _|exact aG.bk (by assumption)|apply YW))<;>first|omega|(simp only[YK];omega)|(simp;done)|(simp;omega))) (go_wp (d147 w2 [⟨#[32,60,32]⟩] (by simp) (by rw[cx,b];omega)) Z Z Z Z Z Z Z Z Z Z Z Z ?_);refine gA Z (j7 (sq (ba w2 [⟨#[32,60,32]⟩]) right (by rw[aX,b];omega)) ?_);refine gA Z kN
 .have e:qJ 4=⟨#[32,60,61,32]⟩:=rfl;have b:((⟨#[32,60,61,32]⟩:aj)).size=4:=rfl;rw[e];refine ox Z (by dsimp only[Lit.op];exact(by(repeat' (first|exact ac|exact rfl|exact aG.refl _|exact aG.bk (by assumption)|apply YW))<;>first|omega|(simp only[YK];omega)|(simp;done)|(simp;omega))) (go_wp (d147 w2 [⟨#[32,60,61,32]⟩] (by simp) (by rw[cx,b];omega)) Z Z Z Z Z Z Z Z Z Z Z Z ?_);refine gA Z (j7 (sq (ba w2 [⟨#[32,60,61,32]⟩]) right (by rw[aX,b];omega)) ?_);refine gA Z kN
 .have e:qJ 5=⟨#[32,62,32]⟩:=rfl;have b:((⟨#[32,62,32]⟩:aj)).size=3:=rfl;rw[e];refine ox Z (by dsimp only[Lit.op];exact(by(repeat' (first|exact ac|exact rfl|exact aG.refl _|exact aG.bk (by assumption)|apply YW))<;>first|omega|(simp only[YK];omega)|(simp;done)|(simp;omega))) (go_wp (d147 w2 [⟨#[32,62,32]⟩] (by simp) (by rw[cx,b];omega)) Z Z Z Z Z Z Z Z Z Z Z Z ?_);refine gA Z (j7 (sq (ba w2 [⟨#[32,62,32]⟩]) right (by rw[aX,b];omega)) ?_);refine gA Z kN
 .have e:qJ 6=⟨#[32,62,61,32]⟩:=rfl;have b:((⟨#[32,62,61,32]⟩:aj)).size=4:=rfl;rw[e];refine ox Z (by dsimp only[Lit.op];exact(by(repeat' (first|exact ac|exact rfl|exact aG.refl _|exact aG.bk (by assumption)|apply YW))<;>first|omega|(simp only[YK];omega)|(simp;done)|(simp;omega))) (go_wp (d147 w2 [⟨#[32,62,61,32]⟩] (by simp) (by rw[cx,b];omega)) Z Z Z Z Z Z Z Z Z Z Z Z ?_);refine gA Z (j7 (sq (ba w2 [⟨#[32,62,61,32]⟩]) right (by rw[aX,b];omega)) ?_);refine gA Z kN
theorem Vv: ∀n,n<=100000001->MY n
 |0,_=>fun l w b=>by have:=l.size_pos;omega
 |n+1,h=>Jk n (Vv n (by omega)) (by omega)
section
abbrev WS.o:WS:=⟨lc,[],li,0⟩
section
variable {nt:Nat} {Q:AQ} {k:List KI} {s:AS}
def wN(s:AS)(i:Nat):AS:=match s with|⟨f,h,n⟩=>⟨f,(i,jp (WS.o.uO i n))::(n,jp (.bM [] 5))::h,n+1⟩
theorem Hu{P:Program}{c:Code}{s':AS}(i:Nat)(hi:s.h.get i=jp (.cells [.iv (.v (.pointer kw)),.iv (.v (.slice kw 0 0)),pB li,pI 0] (jp 247)))
  (hs:wN s i=s') (h:GO P nt (.code c::k) Q s'):GO P nt (.code c::k) Q s:=by
 subst hs;intro M N a w A;obtain⟨sf,S,d⟩:=s;obtain⟨h1,J⟩:=A.1.QJ 5;have D:i<d:=A.1.used i _ hi;have F:i≠d:=fun e=>by omega
 have u:AH.get ((d,jp (AO.bM [] 5))::S) i=jp (.cells [.iv (.v (.pointer kw)),.iv (.v (.slice kw 0 0)),pB li,pI 0] (jp 247)):=by
  rw[AH.aw,be F];exact hi
 obtain⟨x,T,e1,e2,e3,y,e5⟩:=J.obj i _ u;have hv: ∀(j:Nat) (p:PV),[PV.fE lc i,.sl d 0 0 1,pB li,pI 0][j]? =jp p->VR M N (· <d+1) p (x.getD j undef):=by
  intro j p b
  match j,b with
  |0,b=>
   cases b;have:=y 0 _ Z;generalize x.getD 0 undef=v at this ⊢;cases this with
   |iv _ _ h=>cases h with
    |v=>exact .fE lc i (aag D)
  |1,b=>
   cases b;have:=y 1 _ Z;generalize x.getD 1 undef=v at this ⊢;cases this with
   |iv _ _ h=>cases h with
    |v=>exact .pQ _ _ (ZY _)
  |2,b=>exact y 2 p b
  |3,b=>exact y 3 p b
  |j+4,b=>cases b
 obtain⟨g1,g2⟩:=J.write (i:=i) (o0:= .cells [.iv (.v (.pointer kw)),.iv (.v (.slice kw 0 0)),pB li,pI 0] (jp 247)) u Z w (WS.o.uO i d) Z Z Z Z (fun _ _=>rfl) ⟨x,T,e1,e2,e3,hv,e5⟩;have B:Fits M N ⟨sf,(i,jp (WS.o.uO i d))::(d,jp (.bM [] 5))::S,d+1⟩ nt a w:=
  ⟨g2,fun k=>(A.2.1 k).mono (.refl _) (.refl _ _) (fun i hi=>aag hi),A.2.2⟩
 exact AW.then h B fun e a2 w2 Y N2 s2 I C G=>⟨Y,N2,s2,(h1.trans g1).trans I,C,G⟩
end
def WS.told(w:WS):PV:= .bX [pS (if w.bad=lc then⟨#[]⟩ else⟨w.l.toArray⟩),pI (if w.bad=lc then 50 else 0)]
theorem d105(w:WS):cj prog 189 [.ptr 0 0] w.O w.told [] 2:=by
 refine aE ab func189 Z (by decide) ntmps189 Z (by simp) ?_;refine zJ Z Z (fun g=>?_) fun g=>?_
 .have g:w.bad=lc:=g;unfold WS.told;rw[am g,am g];refine gA Z (zD [] Z (zW ac))
 .have g: ¬w.bad=lc:=by
   have g:w.bad=li:=g;rw[g];decide
  unfold WS.told;rw[be g,be g];refine gA Z (zq [0,1] (d150 w) ?_);refine gA Z (zD [] Z (zW ac))
def Wp(a:Atom):PV:=(ku WS.o a).told
def WV(l:Lit):PV:=(eG l.size l WS.o).told
theorem c61(a:Atom)(hb:a.ts<=900000000):Pure prog 157 [ag a.c] (Wp a):=by
 refine ad ab func157 Z (by decide) ntmps157 Z (by simp) Z ?_;refine gM 12 Z (Hu 1 Z Z ?_);refine gA Z (j7 (d104 WS.o a (by simpa using hb)) ?_);refine gA Z (zq [1,3] (d105 (ku WS.o a)) ?_);exact zU Z
theorem X0(l:Lit)(hb:l.ts<=900000000)(hs:l.size<=100000000):Pure prog 158 [ag l.c] (WV l):=by
 refine ad ab func158 Z (by decide) ntmps158 Z (by simp) Z ?_;refine gM 12 Z (Hu 1 Z Z ?_);refine gA Z (j7 (Vv l.size (by omega) l WS.o (Ym _) (by decide) (by decide) (by simpa using hb)) ?_);refine gA Z (zq [1,3] (d105 (eG l.size l WS.o)) ?_);exact zU Z
end
def sY(d:Decl)(i k:Int):Int:=
 if(d.types.any fun x=>!lw (x=1)&&!lw (x=2))=lc∨eC d.name=li then 1
 else if i>=64∨(d.types.length:Int)>8 then 66 else if k>0 then 60 else 0
theorem X3(d:Decl)(i k:Int):Pure prog 123 [ag d.c,pI i,pI k] (pI (sY d i k)):=by
 refine ad ab func123 Z (by decide) ntmps123 Z (by simp) Z ?_;refine gA Z (zq [] (d153 d.types) ?_);refine zE Z Z (fun g1=>?_) fun g1=>?_
 .rw[sY,am (.inl (by simpa using g1))];exact zU Z
 have g1: ¬(d.types.any fun x=>!lw (x=1)&&!lw (x=2))=lc:=by
  have g1:(d.types.any fun x=>!lw (x=1)&&!lw (x=2))=li:=g1;rw[g1];decide
 refine gA Z (zp (Xc d.name) ?_);refine zJ Z Z (fun g2=>?_) fun g2=>?_
 .have g2:eC d.name=li:=by simpa using g2
  rw[sY,am (.inr g2)];exact zU Z
 have g2: ¬eC d.name=li:=by
  have g2:eC d.name=lc:=by simpa using g2
  rw[g2];decide
 rw[sY,be (by rintro(h|h);exact g1 h;exact g2 h)];refine zE Z Z (fun g3=>?_) fun g3=>?_
 .rw[am (.inl (by simpa using g3))];exact zU Z
 have g3: ¬i>=64:=zF g3;refine zJ Z Z (fun g4=>?_) fun g4=>?_
 .rw[am (.inr (zT g4))];exact zU Z
 have g4: ¬(d.types.length:Int)>8:=zF g4;rw[be (by rintro(h|h);exact g3 h;exact g4 h)];refine zJ Z Z (fun g5=>?_) fun g5=>?_
 .rw[am (zT g5)];exact zU Z
 .rw[be (zF g5)];exact zU Z
abbrev aM:=(KC.si .i64).K
def aM.z:aM:=(Yp,0)
def aM.c(s:aM):List IV:=[iS s.1,iI s.2]
def spE(s:aM):IV:= .agg s.c
def spZ:Value:= .agg #[.string Yp,.int .i64 0]
def dvP:PV->aM
 | .agg [.iv (.v (.string s)),.iv (.v (.int _ a))]=>(s,a)
 |_=>aM.z
abbrev UM:=List (aM×aM)
abbrev KM:=List (aM×Int)
abbrev rS(m:UM):AO:= .map (.si .i64) spE aM.z spZ dvP m
abbrev upI(m:UM):IV:= .fF (.si .i64) spE aM.z spZ m
abbrev sa(m:KM):AO:= .map (.si .i64) yw 0 (.int .i64 0) WD m
abbrev kdI(m:KM):IV:= .fF (.si .i64) yw 0 (.int .i64 0) m
structure Want where
 lit:Int
 at_:aM
 kind:Int
 has:Int
 deriving Inhabited
def Want.c(w:Want):List IV:=[iI w.lit,iS w.at_.1,iI w.at_.2,iI w.kind,iI w.has]
structure TS where
 up:UM
 ws:List Want
 kind:KM
abbrev TS.cell(r:aq)(u j n k:Nat):AO:= .cells [.iv (da r),.mp u,.sl j 0 n 5,.mp k]
abbrev TS.O(r:aq)(t:TS):List AO:=[TS.cell r 1 2 t.ws.length 3,rS t.up,aC 5 t.ws Want.c,sa t.kind]
abbrev TS.K(r:aq)(t:TS):AH:=[(0,jp (TS.cell r 1 2 t.ws.length 3)),(1,jp (rS t.up)),(2,jp (aC 5 t.ws Want.c)),(3,jp (sa t.kind))]
abbrev TS.H(r:aq)(t:TS):AH:=[(0,jp (TS.cell r 1 4 t.ws.length 3)),(1,jp (rS t.up)),(4,jp (aC 5 t.ws Want.c)),(3,jp (sa t.kind))]
def bh(r:aq)(s:aj)(w:Int):aM:=(s,if bY .str (aJ (az r)) s 0>0 then-1 else w)
theorem d136(r:aq)(t:TS)(s:aj)(w:Int):cj prog 225 [.ptr 0 0,pS s,pI w] (t.O r) (ag (bh r s w).c) (t.K r) 4:=by
 refine aE ab func225 Z (by decide) ntmps225 Z (by simp) ?_;refine zJ Z Z (fun g=>?_) fun g=>?_
 .have e:bh r s w=(s, -1):=by unfold bh;rw[am (zT g)]
  rw[e];refine gA Z (zD [] Z (zW (zO (zC ⟨⟨_,rfl,.of_eq (bA _).symm⟩,Yd Z,cH _,zC ac⟩))))
 .have e:bh r s w=(s,w):=by unfold bh;rw[be (zF g)]
  rw[e];refine gA Z (zD [] Z (zW (zO (zC ⟨⟨_,rfl,.of_eq (bA _).symm⟩,Yd Z,cH _,zC ac⟩))))
def aO:UM->aM->aM
 | [],v=>v
 |(x,y)::r,v=>if x=v then aO r y else aO r v
def iT:UM->Prop
 | []=>True
 |(x,y)::r=>x≠y∧(∀q∈r,q.1≠x)∧(∀q∈r,q.2≠x)∧iT r
def H4:UM->aM->Nat
 | [],_=>0
 |(x,_)::r,v=>if x=v then r.length+1 else H4 r v
theorem JN: ∀(m:UM) (v:aM),H4 m v<=m.length
 | [],_=>Ym _
 |(x,y)::r,v=>by
  have:=JN r v;unfold H4;split
  .simp
  .simp;omega
theorem ub: ∀(m:UM) (v:aM),ej (.si .i64) m v=li->aO m v=v
 | [],_,_=>rfl
 |(x,y)::r,v,h=>by
  unfold ej at h;unfold aO;split at h
  .cases h
  .rename_i b;rw[be b];exact ub r v h
theorem OZ{m:UM}{v:aM}(h: ∀q∈m,q.1≠v):aO m v=v:=by
 induction m with
 |nil=>rfl
 |cons a r ih=>
  obtain⟨x,y⟩:=a;unfold aO;rw[be (h _ (Yy))];exact ih fun q b=>h q (Yt _ b)
theorem p4: ∀(m:UM) (v:aM),iT m->ej (.si .i64) m v=lc->aO m (bY (.si .i64) m v aM.z)=aO m v∧H4 m (bY (.si .i64) m v aM.z)<H4 m v
 | [],_,_,h=>nomatch h
 |(x,y)::r,v,ok,h=>by
  obtain⟨C,G,D,F⟩:=ok;by_cases j:x=v
  .subst j;have e:bY (.si .i64) ((x,y)::r) x aM.z=y:=am Z;rw[e];refine⟨?_,?_⟩
   .show(if x=y then aO r y else aO r y)=if x=x then aO r y else aO r x;rw[am Z];split<;>rfl
   .show(if x=y then r.length+1 else H4 r y)<if x=x then r.length+1 else H4 r x;rw[am Z,be C];have:=JN r y;omega
  .have e:bY (.si .i64) ((x,y)::r) v aM.z=bY (.si .i64) r v aM.z:=be j;have u:ej (.si .i64) r v=lc:=by
    unfold ej at h;rw[be j]at h;exact h
   rw[e];obtain⟨g1,g2⟩:=p4 r v F u;have d:bY (.si .i64) r v aM.z≠x:=by
    have: ∀(m:UM),(∀q∈m,q.2≠x)->ej (.si .i64) m v=lc->bY (.si .i64) m v aM.z≠x:=by
     intro m
     induction m with
     |nil=>intro _ h;cases h
     |cons a r ih=>
      obtain⟨I,J⟩:=a;intro A h;unfold ej at h;unfold bY;split at h
      .rename_i b;rw[am b];exact A _ Yy
      .rename_i b;rw[be b];exact ih (fun q B=>A q (Yt _ B)) h
    exact this r D u
   refine⟨?_,?_⟩
   .show(if x=_ then aO r y else aO r _)=if x=v then aO r y else aO r v;rw[be (fun e=>d e.symm),be j];exact g1
   .show(if x=_ then r.length+1 else H4 r _)<if x=v then r.length+1 else H4 r v;rw[be (fun e=>d e.symm),be j];exact g2
theorem d52(r:aq)(t:TS)(v0:aM)(ok:iT t.up):cj prog 201 [.ptr 0 0,ag v0.c] (t.O r) (ag (aO t.up v0).c) (t.K r) 4:=by
 refine aE ab func201 Z (by decide) ntmps201 Z (by simp) ?_;refine gA Z ?_
 refine ow (σ:={v:aM//aO t.up v=aO t.up v0}) (fun v=>⟨[(0,.ptr 0 0),(3,.ptr 4 0),(4,.ptr 5 0)],
  [(0,jp (TS.cell r 1 2 t.ws.length 3)),(1,jp (rS t.up)),(2,jp (aC 5 t.ws Want.c)),(3,jp (sa t.kind)),(4,jp (.cells [pS v.1.1,pI v.1.2])),(5,jp (.cells [pS ⟨#[]⟩,pI 0]))],6⟩) (fun v=>H4 t.up v.1) ⟨v0,rfl⟩ []
  (zW (zO (zC ⟨⟨_,rfl,.of_eq (bA _).symm⟩,Yd Z,cH _,zC ⟨⟨_,rfl,.of_eq Z⟩,Yd Z,rfl,⟨_,rfl,.of_eq Z⟩,Yd Z,rfl,ac⟩⟩))) fun v=>?_
 obtain⟨v,b⟩:=v;refine zJ Z Z (fun g=>?_) fun g=>?_
 .have h:ej (.si .i64) t.up v=li:=by simpa using g
  have e:aO t.up v0=v:=by rw[<-b];exact ub t.up v h
  refine gA Z (zD [] Z (zM ⟨.of_eq (congrArg (fun x:aM=>ag x.c) e.symm),rfl,ac⟩ (zO (zC ⟨⟨_,rfl,.of_eq (bA _).symm⟩,Yd Z,cH _,zC ac⟩))))
 .have h:ej (.si .i64) t.up v=lc:=by simpa using g
  obtain⟨d,j⟩:=p4 t.up v ok h;refine gA Z ⟨⟨bY (.si .i64) t.up v aM.z,d.trans b⟩,[],j,zW (zO (zC ⟨⟨_,rfl,.of_eq (bA _).symm⟩,Yd Z,cH _,zC ⟨⟨_,rfl,.of_eq Z⟩,Yd Z,rfl,⟨_,rfl,.of_eq Z⟩,Yd Z,rfl,ac⟩⟩))⟩
def SZ(r:aq)(t:TS):IV:= .mL [da r,upI t.up,cT 5 t.ws Want.c,kdI t.kind]
theorem c52(r:aq)(t:TS)(v0:aM)(ok:iT t.up):Pure prog 201 [.iv (SZ r t),ag v0.c] (ag (aO t.up v0).c):=by
 refine ad ab func201 Z (by decide) ntmps201 Z (by simp) Z ?_;refine gA Z ?_
 refine ow (σ:={v:aM//aO t.up v=aO t.up v0}) (fun v=>⟨[(0,.iv (SZ r t)),(3,.ptr 0 0),(4,.ptr 1 0)],
  [(0,jp (.cells [pS v.1.1,pI v.1.2])),(1,jp (.cells [pS ⟨#[]⟩,pI 0]))],2⟩) (fun v=>H4 t.up v.1) ⟨v0,rfl⟩ []
  (zW ⟨⟨_,rfl,.of_eq Z⟩,Yd Z,rfl,⟨_,rfl,.of_eq Z⟩,Yd Z,rfl,ac⟩) fun v=>?_
 obtain⟨v,b⟩:=v;refine zJ Z Z (fun g=>?_) fun g=>?_
 .have h:ej (.si .i64) t.up v=li:=by simpa using g
  have e:aO t.up v0=v:=by rw[<-b];exact ub t.up v h
  refine gA Z (zL (.of_eq ?_));exact congrArg (fun x:aM=>ag x.c) e.symm
 .have h:ej (.si .i64) t.up v=lc:=by simpa using g
  obtain⟨d,j⟩:=p4 t.up v ok h;refine gA Z ⟨⟨bY (.si .i64) t.up v aM.z,d.trans b⟩,[],j,zW ⟨⟨_,rfl,.of_eq Z⟩,Yd Z,rfl,⟨_,rfl,.of_eq Z⟩,Yd Z,rfl,ac⟩⟩
def tI(t:TS)(w:Want):Int:=if w.has=0 then bY (.si .i64) t.kind (aO t.up w.at_) 0 else w.has
def rR(t:TS)(lit:Int)(w:Want):Bool:=lw (w.lit=lit)&&!lw (tI t w=w.kind)
def nI(t:TS)(lit:Int):Bool:=t.ws.any (rR t lit)
theorem XX(r:aq)(t:TS)(lit:Int)(ok:iT t.up)(hb:t.ws.length<=1000000000000):Pure prog 169 [.iv (SZ r t),pI lit] (pB (nI t lit)):=by
 refine ad ab func169 Z (by decide) ntmps169 Z (by simp) Z ?_;refine gA Z ?_;refine ar 0 t.ws.length (Yl _) (fun i=>⟨[(0,.iv (SZ r t)),(1,pI lit),(11,.iv (cT 5 t.ws Want.c)),(12,pI t.ws.length),(13,pI i)],[],0⟩) (fun i=>(t.ws.take i).any (rR t lit)=li) [] Z
  (zW trivial) fun i A y=>?_
 refine zJ Z Z (fun b=>?_) fun b=>?_
 .have b:=ci b;have x:=a7 y b;refine zJ Z Z (fun j=>?_) fun j=>?_
  .have j:(t.ws.getD i io).has=0:=zT j;refine gA Z (kR (c52 r t (t.ws.getD i io).at_ ok) ?_);have u:tI t (t.ws.getD i io)=bY (.si .i64) t.kind (aO t.up (t.ws.getD i io).at_) 0:=am j;refine zJ Z Z (fun k1=>?_) fun k1=>?_
   .have k1:(t.ws.getD i io).lit=lit:=zT k1;refine zJ Z Z (fun d=>?_) fun d=>?_
    .have d: ¬tI t (t.ws.getD i io)=(t.ws.getD i io).kind:=by rw[u];simpa using d
     have e:nI t lit=lc:=Y8.2 ⟨t.ws.getD i io,by rw[Ye,Yi b];exact YZ b,by rw[rR,decide_eq_true k1,decide_eq_false d];rfl⟩;refine gA Z (zL (.of_eq ?_));rw[e]
    .have d:tI t (t.ws.getD i io)=(t.ws.getD i io).kind:=by rw[u];simpa using d
     refine gA Z ⟨b,x.2 (by rw[rR,decide_eq_true d,aaS,Zv]),[],zW ac⟩
   .have k1: ¬(t.ws.getD i io).lit=lit:=by simpa using k1
    refine gA Z ⟨b,x.2 (by rw[rR,decide_eq_false k1];rfl),[],zW ac⟩
  .have j: ¬(t.ws.getD i io).has=0:=zF j;have u:tI t (t.ws.getD i io)=(t.ws.getD i io).has:=be j;refine zJ Z Z (fun k1=>?_) fun k1=>?_
   .have k1:(t.ws.getD i io).lit=lit:=zT k1;refine zJ Z Z (fun d=>?_) fun d=>?_
    .have d: ¬tI t (t.ws.getD i io)=(t.ws.getD i io).kind:=by rw[u];simpa using d
     have e:nI t lit=lc:=Y8.2 ⟨t.ws.getD i io,by rw[Ye,Yi b];exact YZ b,by rw[rR,decide_eq_true k1,decide_eq_false d];rfl⟩;refine gA Z (zL (.of_eq ?_));rw[e]
    .have d:tI t (t.ws.getD i io)=(t.ws.getD i io).kind:=by rw[u];simpa using d
     refine gA Z ⟨b,x.2 (by rw[rR,decide_eq_true d,aaS,Zv]),[],zW ac⟩
   .have k1: ¬(t.ws.getD i io).lit=lit:=by simpa using k1
    refine gA Z ⟨b,x.2 (by rw[rR,decide_eq_false k1];rfl),[],zW ac⟩
 .have b:=co b;rw[Yn b]at y;refine gA Z (zL (.of_eq ?_));rw[nI,y]
section
section
variable (r:aq) (lit w:Int)
def kG(e:Expr):List Want:=if e.kind=1 then[⟨lit,bh r e.var w,1,0⟩] else if e.kind=2 then[⟨lit,aM.z,1,e.val.kind⟩] else[]
mutual
def gm:Expr->List Want
 | .mk k v val op args=>kG r lit w (.mk k v val op args)++(if k=4 then vQ args else[])
def vQ:List Expr->List Want
 | []=> []
 |e::s=>gm e++vQ s
end
theorem DC: ∀l:List Expr,vQ r lit w l=l.flatMap (gm r lit w)
 | []=>rfl
 |e::s=>by rw[vQ,Zk,DC s]
def jb(e:Expr):List Want:=if e.kind=4 then e.args.flatMap (gm r lit w) else[]
theorem wW(e:Expr):gm r lit w e=kG r lit w e++jb r lit w e:=by
 cases e;rw[gm,DC];rfl
end
abbrev TS.add(t:TS)(l:List Want):TS:=⟨t.up,t.ws++l,t.kind⟩
section
variable {nt:Nat} {Q:AQ} {k:List KI} {s:AS}
def tS(s:AS)(r:aq)(t:TS)(i u j m:Nat):AS:=match s with|⟨f,h,n⟩=>⟨f,(i,jp (TS.cell r u n t.ws.length m))::(u,jp (rS t.up))::(n,jp (aC 5 t.ws Want.c))::(m,jp (sa t.kind))::(i,kw)::(u,kw)::(j,kw)::(m,kw)::h,n+1⟩
theorem Ve(s:AS)(r:aq)(t:TS)(i u j m:Nat):tS s r t i u j m=⟨s.f,(i,jp (TS.cell r u s.nx t.ws.length m))::(u,jp (rS t.up))::(s.nx,jp (aC 5 t.ws Want.c))::(m,jp (sa t.kind))::(i,kw)::(u,kw)::(j,kw)::(m,kw)::s.h,s.nx+1⟩:=by cases s;rfl
def tR(s:AS)(r:aq)(t:TS)(i u j m:Nat):AS:=match s with|⟨f,h,n⟩=>⟨f,(i,jp (TS.cell r u j t.ws.length m))::(u,jp (rS t.up))::(j,jp (aC 5 t.ws Want.c))::(m,jp (sa t.kind))::(i,kw)::(u,kw)::(j,kw)::(m,kw)::h,n⟩
theorem Vf(s:AS)(r:aq)(t:TS)(i u j m:Nat):tR s r t i u j m=⟨s.f,(i,jp (TS.cell r u j t.ws.length m))::(u,jp (rS t.up))::(j,jp (aC 5 t.ws Want.c))::(m,jp (sa t.kind))::(i,kw)::(u,kw)::(j,kw)::(m,kw)::s.h,s.nx⟩:=by cases s;rfl
theorem J0{o:Oper}{c:Call}{g:FuncId}{args y:List PV}{r:aq}{t A:TS}{d:PV}{i u j m n:Nat}{es:List (List PV)}{s':AS}(hc:cj prog g (.ptr 0 0::args) (t.O r) d (A.H r) 5)(ho:o.op= .call c)(ha:bP s.f c=jp (g,.ptr i 0::y))
  (hi:s.h.get i=jp (TS.cell r u j n m)) (hu:s.h.get u=jp (rS t.up)) (hj:s.h.get j=jp (.row 5 es)) (hm:s.h.get m=jp (sa t.kind)) (hn:n=t.ws.length) (he:es=t.ws.map fun x=>(Want.c x).map .iv)
  (hlt:[i,u,j,m].all (fun x=>YD x s.nx)=lc) (hnd:bT [i,u,j,m]=lc) (has:y=args) (hlow:bq 0 args=lc) (hr:d.low 0=lc)
  (hp:putDst nt o d (tS s r A i u j m)=jp s'):OT prog nt o s (fun t=>t=s'):=by
 subst has;subst hn;subst he;have b: ∀σ,dZ σ y=y:=fun σ=>iU σ y hlow;refine lW ho ha hc (dh hnd) (fun j hj=>Yd (YG.1 hlt j hj)) ?_ ?_ ?_
 .simp only[Yz,Y7,hi,hu,hj,hm,bA];rfl
 .simp only[dZ,b];rfl
 .rintro q B n0 ⟨rfl,rfl,rfl⟩;rw[PV.jU _ _ hr];rw[Ve]at hp;refine⟨s',?_,rfl⟩;rw[<-hp];simp only[TS.H,aL,sX,Zg,bA];rfl
theorem JT{o:Oper}{c:Call}{g:FuncId}{args y:List PV}{r:aq}{t:TS}{d:PV}{i u j m n:Nat}{es:List (List PV)}{s':AS}(hc:cj prog g (.ptr 0 0::args) (t.O r) d (t.K r) 4)(ho:o.op= .call c)(ha:bP s.f c=jp (g,.ptr i 0::y))
  (hi:s.h.get i=jp (TS.cell r u j n m)) (hu:s.h.get u=jp (rS t.up)) (hj:s.h.get j=jp (.row 5 es)) (hm:s.h.get m=jp (sa t.kind)) (hn:n=t.ws.length) (he:es=t.ws.map fun x=>(Want.c x).map .iv)
  (hlt:[i,u,j,m].all (fun x=>YD x s.nx)=lc) (hnd:bT [i,u,j,m]=lc) (has:y=args) (hlow:bq 0 args=lc) (hr:d.low 0=lc)
  (hp:putDst nt o d (tR s r t i u j m)=jp s'):OT prog nt o s (fun t=>t=s'):=by
 subst has;subst hn;subst he;have b: ∀σ,dZ σ y=y:=fun σ=>iU σ y hlow;refine lW ho ha hc (dh hnd) (fun j hj=>Yd (YG.1 hlt j hj)) ?_ ?_ ?_
 .simp only[Yz,Y7,hi,hu,hj,hm,bA];rfl
 .simp only[dZ,b];rfl
 .rintro q A n0 ⟨rfl,rfl,rfl⟩;rw[PV.jU _ _ hr];rw[Vf]at hp;refine⟨s',?_,rfl⟩;rw[<-hp];simp only[TS.K,aL,sX,Zg,bA];rfl
theorem Ed{all rest:List Oper}{o:Oper}{c:Call}{g:FuncId}{args d:List PV}{r:aq}{t y:TS}{b:PV}{i u j m n:Nat}{es:List (List PV)}{s':AS}(hc:cj prog g (.ptr 0 0::args) (t.O r) b (y.H r) 5)(ho:o.op= .call c)(hg:o.guard=kw)(ha:bP s.f c=jp (g,.ptr i 0::d))
  (hi:s.h.get i=jp (TS.cell r u j n m)) (hu:s.h.get u=jp (rS t.up)) (hj:s.h.get j=jp (.row 5 es)) (hm:s.h.get m=jp (sa t.kind)) (hn:n=t.ws.length) (he:es=t.ws.map fun x=>(Want.c x).map .iv)
  (hlt:[i,u,j,m].all (fun x=>YD x s.nx)=lc) (hnd:bT [i,u,j,m]=lc) (has:d=args) (hlow:bq 0 args=lc) (hr:b.low 0=lc)
  (hp:putDst nt o b (tS s r y i u j m)=jp s') (h:GO prog nt (.ops all rest::k) Q s'):GO prog nt (.ops all (o::rest)::k) Q s:=
 eH hg (J0 hc ho ha hi hu hj hm hn he hlt hnd has hlow hr hp) fun t A=>by subst A;exact h
theorem Hr{all rest:List Oper}{o:Oper}{c:Call}{g:FuncId}{args d:List PV}{r:aq}{t y:TS}{b:PV}{i u j m n:Nat}{es:List (List PV)}{s':AS}(hc:cj prog g (.ptr 0 0::args) (t.O r) b (y.H r) 5)(h:GO prog nt (.ops all rest::k) Q s')(ho:o.op= .call c:=by exact rfl)(hg:o.guard=kw:=by exact rfl)(ha:bP s.f c=jp (g,.ptr i 0::d):=by exact rfl)(hi:s.h.get i=jp (TS.cell r u j n m):=by exact rfl)(hu:s.h.get u=jp (rS t.up):=by exact rfl)(hj:s.h.get j=jp (.row 5 es):=by exact rfl)(hm:s.h.get m=jp (sa t.kind):=by exact rfl)(hn:n=t.ws.length:=by first|rfl|(rw[Yg];rfl)|simp)(he:es=t.ws.map fun x=>(Want.c x).map .iv:=by first|rfl|(rw[Yk];rfl)|(simp only[Yk,Yu];rfl))(hlt:[i,u,j,m].all (fun x=>YD x s.nx)=lc:=by exact rfl)(hnd:bT [i,u,j,m]=lc:=by exact rfl)(has:d=args:=by exact rfl)(hlow:bq 0 args=lc:=by exact rfl)(hr:b.low 0=lc:=by exact rfl)(hp:putDst nt o b (tS s r y i u j m)=jp s':=by exact rfl):GO prog nt (.ops all (o::rest)::k) Q s:=Ed (hc:=hc) (ho:=ho) (hg:=hg) (ha:=ha) (hi:=hi) (hu:=hu) (hj:=hj) (hm:=hm) (hn:=hn) (he:=he) (hlt:=hlt) (hnd:=hnd) (has:=has) (hlow:=hlow) (hr:=hr) (hp:=hp) (h:=h)
theorem TE{all:List Oper}{todo pend:List (Nat×Oper)}{d:Nat}{A y:Prop}{o:Oper}{c:Call}{g:FuncId}{args B:List PV}{r:aq}{t:TS}{b:PV}{i u j m n:Nat}{es:List (List PV)}{s':AS}(hc:cj prog g (.ptr 0 0::args) (t.O r) b (t.K r) 4)
  (hrd:eJ todo=[(d,o)]) (ho:o.op= .call c) (ha:bP s.f c=jp (g,.ptr i 0::B))
  (hi:s.h.get i=jp (TS.cell r u j n m)) (hu:s.h.get u=jp (rS t.up)) (hj:s.h.get j=jp (.row 5 es)) (hm:s.h.get m=jp (sa t.kind)) (hn:n=t.ws.length) (he:es=t.ws.map fun x=>(Want.c x).map .iv)
  (hlt:[i,u,j,m].all (fun x=>YD x s.nx)=lc) (hnd:bT [i,u,j,m]=lc) (has:B=args) (hlow:bq 0 args=lc) (hr:b.low 0=lc)
  (hp:putDst nt o b (tR s r t i u j m)=jp s')
  (hg:cE nt all s.f o=jp lc) (hpb:iW all pend o=lc) (hE:oA todo [d]=lc)
  (hag:qW pC nt all s todo pend=jp A) (hCA:A) (hag2:dK pC nt all s' (bg pend o)=jp y) (hC2:y)
  (h:GO prog nt (.cP all (todo.filter fun x=>!YJ x.1 d) (bg pend o)::k) Q s'):GO prog nt (.cP all todo pend::k) Q s:=
 yn ab hrd hg hpb hE hag hCA (JT hc ho ha hi hu hj hm hn he hlt hnd has hlow hr hp) hag2 hC2 h
theorem qw{all:List Oper}{todo pend:List (Nat×Oper)}{d:Nat}{A y:Prop}{o:Oper}{c:Call}{g:FuncId}{args B:List PV}{r:aq}{t:TS}{b:PV}{i u j m n:Nat}{es:List (List PV)}{s':AS}(hc:cj prog g (.ptr 0 0::args) (t.O r) b (t.K r) 4)(h:GO prog nt (.cP all (todo.filter fun x=>!YJ x.1 d) (bg pend o)::k) Q s')(hrd:eJ todo=[(d,o)]:=by exact rfl)(ho:o.op= .call c:=by exact rfl)(ha:bP s.f c=jp (g,.ptr i 0::B):=by exact rfl)(hi:s.h.get i=jp (TS.cell r u j n m):=by exact rfl)(hu:s.h.get u=jp (rS t.up):=by exact rfl)(hj:s.h.get j=jp (.row 5 es):=by exact rfl)(hm:s.h.get m=jp (sa t.kind):=by exact rfl)(hn:n=t.ws.length:=by first|rfl|(rw[Yg];rfl)|simp)(he:es=t.ws.map fun x=>(Want.c x).map .iv:=by first|rfl|(rw[Yk];rfl)|(simp only[Yk,Yu];rfl))(hlt:[i,u,j,m].all (fun x=>YD x s.nx)=lc:=by exact rfl)(hnd:bT [i,u,j,m]=lc:=by exact rfl)(has:B=args:=by exact rfl)(hlow:bq 0 args=lc:=by exact rfl)(hr:b.low 0=lc:=by exact rfl)(hp:putDst nt o b (tR s r t i u j m)=jp s':=by exact rfl)(hg:cE nt all s.f o=jp lc:=by exact rfl)(hpb:iW all pend o=lc:=by exact rfl)(hE:oA todo [d]=lc:=by exact rfl)(hag:qW pC nt all s todo pend=jp A:=by exact rfl)(hCA:A:=by(repeat' (first|exact ac|exact rfl|exact aG.refl _|exact aG.bk (by assumption)|apply YW))<;>first|omega|(simp only[YK];omega)|(simp;done)|(simp;omega))(hag2:dK pC nt all s' (bg pend o)=jp y:=by exact rfl)(hC2:y:=by(repeat' (first|exact ac|exact rfl|exact aG.refl _|exact aG.bk (by assumption)|apply YW))<;>first|omega|(simp only[YK];omega)|(simp;done)|(simp;omega)):GO prog nt (.cP all todo pend::k) Q s:=TE (hc:=hc) (hrd:=hrd) (ho:=ho) (ha:=ha) (hi:=hi) (hu:=hu) (hj:=hj) (hm:=hm) (hn:=hn) (he:=he) (hlt:=hlt) (hnd:=hnd) (has:=has) (hlow:=hlow) (hr:=hr) (hp:=hp) (hg:=hg) (hpb:=hpb) (hE:=hE) (hag:=hag) (hCA:=hCA) (hag2:=hag2) (hC2:=hC2) (h:=h)
theorem R8{l:List ResultVar}{r0:PV}{e:Exit}{r:aq}{d:TS}{b:PV}{j n:Nat}{es:List (List PV)}(he:e= .normal∨e= .ret)(hr:lv pC s l=jp r0)(hi:s.h.get 0=jp (TS.cell r 1 j n 3))(hu:s.h.get 1=jp (rS d.up))(hj:s.h.get j=jp (.row 5 es))(hm:s.h.get 3=jp (sa d.kind))
  (hn:n=d.ws.length) (hes:es=d.ws.map fun x=>(Want.c x).map .iv) (hlt:YD j s.nx=lc) (hnd:bT [0,1,j,3]=lc) (hns:aaf 4 s.nx=lc) (hrl:aG r0 b) (hlow:b.low 0=lc) (hlow5:b.low 5=lc):Ct pC l 4 b (d.H r) 5 e s:=by
 subst hn;subst hes;refine fp [j] he hr ⟨rfl,Yd hns,fun x u=>?_,⟨?_,hlow5,ac⟩,⟨⟨_,hi,.of_eq Z⟩,Yd Z,rfl,⟨_,hu,.of_eq Z⟩,Yd Z,ac,⟨_,hj,.of_eq (bA _).symm⟩,Yd Z,cH _,⟨_,hm,.of_eq Z⟩,Yd Z,ac,ac⟩,?_⟩
 .simp only[Yr]at u;subst u;exact Yd hlt
 .rw[PV.jU _ _ hlow];exact hrl
 .exact dh hnd
theorem y9{l:List ResultVar}{r0:PV}{e:Exit}{r:aq}{d:TS}{b:PV}{j n:Nat}{es:List (List PV)}(he:e= .normal∨e= .ret:=by first|exact .inr Z|exact .inl Z)(hr:lv pC s l=jp r0:=by exact rfl)(hi:s.h.get 0=jp (TS.cell r 1 j n 3):=by exact rfl)(hu:s.h.get 1=jp (rS d.up):=by exact rfl)(hj:s.h.get j=jp (.row 5 es):=by exact rfl)(hm:s.h.get 3=jp (sa d.kind):=by exact rfl)(hn:n=d.ws.length:=by first|rfl|(rw[Yg];rfl)|simp)(hes:es=d.ws.map fun x=>(Want.c x).map .iv:=by first|rfl|(rw[Yk];rfl)|(simp only[Yk,Yu];rfl))(hlt:YD j s.nx=lc:=by exact rfl)(hnd:bT [0,1,j,3]=lc:=by exact rfl)(hns:aaf 4 s.nx=lc:=by exact rfl)(hrl:aG r0 b:=by exact .refl _)(hlow:b.low 0=lc:=by exact rfl)(hlow5:b.low 5=lc:=by exact rfl):Ct pC l 4 b (d.H r) 5 e s:=R8 (he:=he) (hr:=hr) (hi:=hi) (hu:=hu) (hj:=hj) (hm:=hm) (hn:=hn) (hes:=hes) (hlt:=hlt) (hnd:=hnd) (hns:=hns) (hrl:=hrl) (hlow:=hlow) (hlow5:=hlow5)
theorem QH{n0 i u j m n:Nat}{es:List (List PV)}{G:AF}{r:aq}{t b:TS}(hw:t=b)(hi:s.h.get i=jp (TS.cell r u j n m))(hu:s.h.get u=jp (rS t.up))(hj:s.h.get j=jp (.row 5 es))(hm:s.h.get m=jp (sa t.kind))
  (hn:n=t.ws.length) (hes:es=t.ws.map fun x=>(Want.c x).map .iv) (hlt:YD j s.nx=lc) (hnd:bT [i,u,j,m]=lc) (h0:[i,u,m].all (fun x=>YD x n0)=lc) (hns:aaf n0 s.nx=lc) (hf:Gp (n0+1) (sg n0 [j]) s.f G):
  Wk n0 [j] s ⟨G,[(i,jp (TS.cell r u n0 b.ws.length m)),(u,jp (rS b.up)),(n0,jp (aC 5 b.ws Want.c)),(m,jp (sa b.kind))],n0+1⟩:=by
 subst hw;subst hn;subst hes;simp only[abe,List.all_nil,aaF,YB]at h0;have d:i<n0:=Yd h0.1;have A:u<n0:=Yd h0.2.1;have y:m<n0:=Yd h0.2.2;have s0:sg n0 [j] i=i:=gr d;have B:sg n0 [j] u=u:=gr A;have C:sg n0 [j] m=m:=gr y;have I:YD n0 n0=li:=Zq.2 fun e=>absurd (Yd e) (by omega);have D:sg n0 [j] n0=j:=by simp[sg,I]
 have c1:YD u (n0+1)=lc:=YX (by omega);have J:YD m (n0+1)=lc:=YX (by omega);have S:YD n0 (n0+1)=lc:=YX (by omega);refine⟨rfl,Yd hns,fun x F=>?_,hf,⟨⟨_,by rw[s0];exact hi,?_⟩,by show i<n0+1;omega,?_,⟨_,by rw[B];exact hu,.of_eq Z⟩,by show u<n0+1;omega,ac,⟨_,by rw[D];exact hj,.of_eq (bA _).symm⟩,ZY _,cH _,⟨_,by rw[C];exact hm,.of_eq Z⟩,by show m<n0+1;omega,ac,ac⟩,?_⟩
 .simp only[Yr]at F;subst F;exact Yd hlt
 .simp only[AO.c6,dZ,PV.c6,B,C,D];exact .of_eq Z
 .simp[AO.low,bq,PV.low,c1,J,S]
 .simp only[eB,s0,B,C,D];exact dh hnd
theorem sy{n0 i u j m n:Nat}{es:List (List PV)}{d:AF}{r:aq}{t b:TS}(hw:t=b)(hi:s.h.get i=jp (TS.cell r u j n m):=by exact rfl)(hu:s.h.get u=jp (rS t.up):=by exact rfl)(hj:s.h.get j=jp (.row 5 es):=by exact rfl)(hm:s.h.get m=jp (sa t.kind):=by exact rfl)(hn:n=t.ws.length:=by first|rfl|(rw[Yg];rfl)|simp)(hes:es=t.ws.map fun x=>(Want.c x).map .iv:=by first|rfl|(rw[Yk];rfl)|(simp only[Yk,Yu];rfl))(hlt:YD j s.nx=lc:=by exact rfl)(hnd:bT [i,u,j,m]=lc:=by exact rfl)(h0:[i,u,m].all (fun x=>YD x n0)=lc:=by exact rfl)(hns:aaf n0 s.nx=lc:=by exact rfl)(hf:Gp (n0+1) (sg n0 [j]) s.f d:=by repeat' (first|exact ac|exact aG.refl _|exact rfl|apply YW)):Wk n0 [j] s ⟨d,[(i,jp (TS.cell r u n0 b.ws.length m)),(u,jp (rS b.up)),(n0,jp (aC 5 b.ws Want.c)),(m,jp (sa b.kind))],n0+1⟩:=QH (hw:=hw) (hi:=hi) (hu:=hu) (hj:=hj) (hm:=hm) (hn:=hn) (hes:=hes) (hlt:=hlt) (hnd:=hnd) (h0:=h0) (hns:=hns) (hf:=hf)
end
theorem TS.add_add(t:TS)(a b:List Want):(t.add a).add b=t.add (a++b):=by simp[TS.add]
theorem TS.add_nil(t:TS):t.add []=t:=by simp[TS.add]
def Qy(r:aq)(n:Nat):Prop:= ∀(t:TS) (e:Expr) (lit w:Int),e.size<=n->t.ws.length+Expr.aA e.args<=1000000000->cj prog 226 [.ptr 0 0,ag e.c,pI lit,pI w] (t.O r) (.bX []) ((t.add (jb r lit w e)).H r) 5
def Uh(r:aq)(n:Nat):Prop:= ∀(t:TS) (e:Expr) (lit w:Int),e.size<=n->t.ws.length+e.size<=1000000000->cj prog 199 [.ptr 0 0,ag e.c,pI lit,pI w] (t.O r) (.bX []) ((t.add (gm r lit w e)).H r) 5
theorem d92(r:aq)(n:Nat)(u:Qy r n):Uh r n:=by
 intro t e lit w j hb;have x:=e.size_eq;rw[wW,<-TS.add_add];refine aE ab func199 Z (by decide) ntmps199 Z (by simp) ?_;refine zJ Z Z (fun k1=>?_) fun k1=>?_
 .have k1:e.kind=1:=zT k1;have d:kG r lit w e=[⟨lit,bh r e.var w,1,0⟩]:=am k1;rw[d];refine gA Z (qw (d136 r t e.var w) ?_);refine gA Z (Ed (u (t.add [⟨lit,bh r e.var w,1,0⟩]) e lit w j (by show(t.ws++_).length+_<=_;rw[Yg,YY];omega)) Z Z Z Z Z Z Z (by first|rfl|(rw[Yg];rfl)|simp) (by first|rfl|(rw[Yk];rfl)|(simp only[Yk,Yu];rfl)) Z Z Z Z Z Z ?_);refine gA Z y9
 have k1: ¬e.kind=1:=zF k1;refine zJ Z Z (fun b=>?_) fun b=>?_
 .have b:e.kind=2:=zT b;have d:kG r lit w e=[⟨lit,aM.z,1,e.val.kind⟩]:=by unfold kG;rw[be k1,am b]
  rw[d];refine gA Z (Ed (u (t.add [⟨lit,aM.z,1,e.val.kind⟩]) e lit w j (by show(t.ws++_).length+_<=_;rw[Yg,YY];omega)) Z Z Z Z Z Z Z (by first|rfl|(rw[Yg];rfl)|simp) (by first|rfl|(rw[Yk];rfl)|(simp only[Yk,Yu];rfl)) Z Z Z Z Z Z ?_);refine gA Z y9
 .have b: ¬e.kind=2:=zF b;have d:kG r lit w e=[]:=by unfold kG;rw[be k1,be b]
  rw[d,TS.add_nil];refine gA Z (Hr (u t e lit w j (by omega)) ?_);refine gA Z y9
theorem jW(r:aq)(lit w:Int): ∀e:Expr,(gm r lit w e).length<=e.size
 | .mk k v val op args=>by
  rw[gm,Expr.size,Yg];have b:(kG r lit w (.mk k v val op args)).length<=1:=by
   unfold kG
   repeat' split
   all_goals simp
  have d:(if k=4 then vQ r lit w args else[]).length<=Expr.aA args:=by
   split
   .exact numRs_len args
   .simp
  omega
where
 numRs_len: ∀l:List Expr,(vQ r lit w l).length<=Expr.aA l
 | []=>by simp[vQ]
 |e::s=>by
  have h1:=jW r lit w e;have h2:=numRs_len s;rw[vQ,Expr.aA,Yg];omega
theorem K4(r:aq)(lit w:Int)(l:List Expr)(i:Nat)(h:i<l.length):((l.take i).flatMap (gm r lit w)).length+(l.getD i io).size<=Expr.aA l:=by
 have b: ∀l:List Expr,(l.flatMap (gm r lit w)).length<=Expr.aA l:=by
  intro l
  induction l with
  |nil=>simp
  |cons e s ih=>
   have:=jW r lit w e;rw[Zk,Yg,Expr.aA];omega
 have j:=b (l.take i);have d: ∀(l:List Expr) (i:Nat),i<l.length->Expr.aA (l.take i)+(l.getD i io).size<=Expr.aA l:=by
  intro l
  induction l with
  |nil=>intro i h;simp at h
  |cons e s ih=>
   intro i h;cases i with
   |zero=>simp[Expr.aA]
   |succ i=>
    have:=ih i (by simpa using h);simp only[ZF,ZE,Expr.aA];omega
 have:=d l i h;omega
theorem d137(r:aq)(n:Nat)(y:Uh r n):Qy r (n+1):=by
 intro t e lit w D hb;have x:=e.size_eq;refine cj.le (args:=[.ptr 0 0,ag e.c1,pI lit,pI w]) ?_ ⟨.refl _,e.x9,.refl _,.refl _,ac⟩;have u:=Expr.ax e.args;refine aE ab func226 Z (by decide) ntmps226 Z (by simp) ?_;refine zE Z Z (fun k=>?_) fun k=>?_
 .have k: ¬e.kind=4:=zF k;have d:jb r lit w e=[]:=be k;rw[d,TS.add_nil];refine gA Z y9
 have k:e.kind=4:=zT k;have d:jb r lit w e=e.args.flatMap (gm r lit w):=am k;rw[d];refine gA Z ?_
 refine ar 0 e.args.length (Yl _) (fun i=>⟨[(0,.ptr 0 0),(2,pI lit),(3,pI w),(14,.iv (cT 7 e.args Expr.c)),(15,pI e.args.length),(16,pI i)],
  [(0,jp (TS.cell r 1 5 (t.add ((e.args.take i).flatMap (gm r lit w))).ws.length 3)),(1,jp (rS (t.add ((e.args.take i).flatMap (gm r lit w))).up)),(5,jp (aC 5 (t.add ((e.args.take i).flatMap (gm r lit w))).ws Want.c)),(3,jp (sa (t.add ((e.args.take i).flatMap (gm r lit w))).kind))],6⟩) (fun _=>True) _ ac
  (QH (t:=t) (TS.add_nil t).symm Z Z Z Z Z Z Z Z Z Z (bv (bv (bv (bv (bv (bv trivial))))))) fun i B _=>?_
 refine zJ Z Z (fun b=>?_) fun b=>?_
 .have b:=ci b;have j:=cm (f:=gm r lit w) b;have C:=K4 r lit w e.args i b;have A:=Expr.aS e.args i b;refine gA Z (Ed (y (t.add ((e.args.take i).flatMap (gm r lit w))) (e.args.getD i io) lit w (by omega) (by show(t.ws++_).length+_<=_;rw[Yg];omega)) Z Z Z Z Z Z Z (by first|rfl|(rw[Yg];rfl)|simp) (by first|rfl|(rw[Yk];rfl)|(simp only[Yk,Yu];rfl)) Z Z Z Z Z Z ?_);refine gA Z ⟨b,ac,_,QH ((by rw[TS.add_add,j])) Z Z Z Z (by first|rfl|(rw[Yg];rfl)|simp) (by first|rfl|(rw[Yk];rfl)|(simp only[Yk,Yu];rfl)) Z Z Z Z (bv (bv (bv (bv (bv (bv ac))))))⟩
 .have b:=co b;rw[Yn b];refine gA Z y9
end
theorem vi(r:aq): ∀n,Uh r n∧Qy r n
 |0=>by
  have b:Qy r 0:=fun t e lit w j=>by have:=e.size_pos;omega
  exact⟨d92 r 0 b,b⟩
 |n+1=>by
  have d:=d137 r n (vi r n).1;exact⟨d92 r (n+1) d,d⟩
theorem Mq(r:aq)(t:TS)(e:Expr)(lit w:Int)(hb:t.ws.length+e.size<=1000000000):cj prog 199 [.ptr 0 0,ag e.c,pI lit,pI w] (t.O r) (.bX []) ((t.add (gm r lit w e)).H r) 5:=(vi r e.size).1 t e lit w (Ym _) hb
theorem Sc(r:aq)(t:TS)(e:Expr)(lit w:Int)(hb:t.ws.length+e.size<=1000000000):cj prog 226 [.ptr 0 0,ag e.c,pI lit,pI w] (t.O r) (.bX []) ((t.add (jb r lit w e)).H r) 5:=(vi r e.size).2 t e lit w (Ym _) (by have:=e.size_eq;omega)
def typeAt(p:Prog)(a:Atom)(i:Nat):Int:=(ik p a.rel).types.getD i io
def nL(p:Prog)(a:Atom)(i:Nat):Bool:=lw (i<(ik p a.rel).types.length)&&(lw (typeAt p a i=1)||decide (typeAt p a i=2))
def mj(p:Prog)(r:aq)(a:Atom)(lit w:Int)(i:Nat):List Want:=
 if nL p a i=li then[]
 else if(a.ae.getD i io).kind=1 then[⟨lit,bh r (a.ae.getD i io).var w,typeAt p a i,0⟩]
 else if(a.ae.getD i io).kind=2 then[⟨lit,aM.z,typeAt p a i,(a.ae.getD i io).val.kind⟩] else[]
def gq(p:Prog)(r:aq)(a:Atom)(lit w:Int):Nat->List Want
 |0=> []
 |i+1=>gq p r a lit w i++mj p r a lit w i
theorem E8(p:Prog)(r:aq)(a:Atom)(lit w:Int)(i:Nat):(mj p r a lit w i).length<=1:=by
 unfold mj
 repeat' split
 all_goals simp
theorem pr(p:Prog)(r:aq)(a:Atom)(lit w:Int): ∀i,(gq p r a lit w i).length<=i
 |0=>Ym _
 |i+1=>by
  have b:=pr p r a lit w i;have d:=E8 p r a lit w i;rw[gq,Yg];omega
set_option maxHeartbeats 1000000 in
theorem d90(p:Prog)(r:aq)(t:TS)(a:Atom)(lit w:Int)(hb:t.ws.length+a.ae.length<=1000000000):cj prog 197 [.ptr 0 0,.iv (dr p),ag a.c,pI lit,pI w] (t.O r) (.bX []) ((t.add (gq p r a lit w a.ae.length)).H r) 5:=by
 refine aE ab func197 Z (by decide) ntmps197 Z (by simp) ?_;refine gA Z ?_
 refine ar 0 a.ae.length (Yl _) (fun i=>⟨[(0,.ptr 0 0),(3,pI lit),(4,pI w),(10,.iv (cT 1 (ik p a.rel).types aY)),(19,.iv (cT 5 a.ae Term.c)),(20,pI a.ae.length),(21,pI i)],
  [(0,jp (TS.cell r 1 5 (t.add (gq p r a lit w i)).ws.length 3)),(1,jp (rS (t.add (gq p r a lit w i)).up)),(5,jp (aC 5 (t.add (gq p r a lit w i)).ws Want.c)),(3,jp (sa (t.add (gq p r a lit w i)).kind))],6⟩) (fun _=>True) _ ac
  (QH (t:=t) (TS.add_nil t).symm Z Z Z Z Z Z Z Z Z Z (bv (bv (bv (bv (bv (bv (bv trivial)))))))) fun i B _=>?_
 refine zE Z Z (fun j=>?_) fun j=>?_
 .have j:=co j;have:i=a.ae.length:=by omega
  subst this;refine gA Z y9
 have j:=ci j;have C:=pr p r a lit w i;have b:t.add (gq p r a lit w (i+1))=(t.add (gq p r a lit w i)).add (mj p r a lit w i):=by rw[TS.add_add];rfl
 have A:(t.add (gq p r a lit w i)).ws.length<=t.ws.length+i:=by show(t.ws++_).length<=_;rw[Yg];omega
 generalize t.add (gq p r a lit w i)=t1 at*
 refine zE Z Z (fun g1=>?_) fun g1=>?_
 .have g1: ¬i<(ik p a.rel).types.length:=by have g:=zT (show lw ((i:Int)>=((ik p a.rel).types.length:Int))=lc from g1);omega
  have x:nL p a i=li:=by rw[nL,decide_eq_false g1];rfl
  have u:mj p r a lit w i=[]:=am x;rw[u,TS.add_nil]at b;refine gA Z ⟨j,ac,_,sy (b.symm)⟩
 have g1:i<(ik p a.rel).types.length:=by have g:=zF (show lw ((i:Int)>=((ik p a.rel).types.length:Int))=li from g1);omega
 refine zJ Z Z (fun g2=>?_) fun g2=>?_
 .have g2: ¬typeAt p a i=1:=by simpa[typeAt]using g2
  refine zJ Z Z (fun g3=>?_) fun g3=>?_
  .have g3: ¬typeAt p a i=2:=by simpa[typeAt]using g3
   have x:nL p a i=li:=by rw[nL,decide_eq_true g1,decide_eq_false g2,decide_eq_false g3];rfl
   have u:mj p r a lit w i=[]:=am x;rw[u,TS.add_nil]at b;refine gA Z ⟨j,ac,_,sy (b.symm)⟩
  .have g3:typeAt p a i=2:=by simpa[typeAt]using g3
   have y:nL p a i=lc:=by rw[nL,decide_eq_true g1,decide_eq_true g3,aaA];rfl
   have u:mj p r a lit w i=if(a.ae.getD i io).kind=1 then[⟨lit,bh r (a.ae.getD i io).var w,typeAt p a i,0⟩]
    else if(a.ae.getD i io).kind=2 then[⟨lit,aM.z,typeAt p a i,(a.ae.getD i io).val.kind⟩] else[]:=by unfold mj;rw[y];exact be (by decide)
   rw[u]at b;refine zJ Z Z (fun k1=>?_) fun k1=>?_
   .have k1:(a.ae.getD i io).kind=1:=zT k1;rw[am k1]at b;refine gA Z (qw (d136 r t1 (a.ae.getD i io).var w) ?_);refine gA Z ⟨j,ac,_,sy (b.symm)⟩
   have k1: ¬(a.ae.getD i io).kind=1:=zF k1;rw[be k1]at b;refine zJ Z Z (fun d=>?_) fun d=>?_
   .have d:(a.ae.getD i io).kind=2:=zT d;rw[am d]at b;refine gA Z ⟨j,ac,_,sy (b.symm)⟩
   .have d: ¬(a.ae.getD i io).kind=2:=zF d;rw[be d,TS.add_nil]at b;refine gA Z ⟨j,ac,_,sy (b.symm)⟩
 .have g2:typeAt p a i=1:=by simpa[typeAt]using g2
  have y:nL p a i=lc:=by rw[nL,decide_eq_true g1,decide_eq_true g2];rfl
  have u:mj p r a lit w i=if(a.ae.getD i io).kind=1 then[⟨lit,bh r (a.ae.getD i io).var w,typeAt p a i,0⟩]
   else if(a.ae.getD i io).kind=2 then[⟨lit,aM.z,typeAt p a i,(a.ae.getD i io).val.kind⟩] else[]:=by unfold mj;rw[y];exact be (by decide)
  rw[u]at b;refine zJ Z Z (fun k1=>?_) fun k1=>?_
  .have k1:(a.ae.getD i io).kind=1:=zT k1;rw[am k1]at b;refine gA Z (qw (d136 r t1 (a.ae.getD i io).var w) ?_);refine gA Z ⟨j,ac,_,sy (b.symm)⟩
  have k1: ¬(a.ae.getD i io).kind=1:=zF k1;rw[be k1]at b;refine zJ Z Z (fun d=>?_) fun d=>?_
  .have d:(a.ae.getD i io).kind=2:=zT d;rw[am d]at b;refine gA Z ⟨j,ac,_,sy (b.symm)⟩
  .have d: ¬(a.ae.getD i io).kind=2:=zF d;rw[be d,TS.add_nil]at b;refine gA Z ⟨j,ac,_,sy (b.symm)⟩
def sI(t:TS)(u v:aM):TS:=if u=v then t else⟨ck (.si .i64) t.up u v,t.ws,t.kind⟩
def lT(y:Expr):Int:=if y.kind=2 then y.val.kind else 1
def fW(r:aq)(lit w:Int)(t:TS)(x y:Expr):TS:=
 if y.kind=1 then sI t (aO t.up (bh r x.var w)) (aO t.up (bh r y.var w))
 else t.add (if x.kind=1 then[⟨lit,bh r x.var w,lT y,0⟩] else if x.kind=2 then[⟨lit,aM.z,lT y,x.val.kind⟩] else[⟨lit,aM.z,lT y,1⟩])
def jx(r:aq)(lit w:Int)(t:TS)(a b:Expr):TS:=
 if b.kind=1 then fW r lit w ((t.add (jb r lit w a)).add (jb r lit w b)) b a else fW r lit w ((t.add (jb r lit w a)).add (jb r lit w b)) a b
theorem OF{u v:aM}(h:(!(lw (u.1=v.1)&&(lw (u.2=v.2)&&lc)))=lc):u≠v:=by
 rintro rfl;simp at h
theorem OG{u v:aM}(h:(!(lw (u.1=v.1)&&(lw (u.2=v.2)&&lc)))=li):u=v:=by
 simp at h;exact Prod.ext h.1 h.2
theorem uo(r:aq)(lit w:Int)(e:Expr):(jb r lit w e).length<=e.size:=by
 have b:=jW r lit w e;rw[wW,Yg]at b;omega
set_option maxHeartbeats 1000000 in
theorem d93(r:aq)(t:TS)(a b:Expr)(lit w:Int)(ok:iT t.up)(hb:t.ws.length+a.size+b.size<=1000000000):cj prog 200 [.ptr 0 0,ag a.c,ag b.c,pI lit,pI w] (t.O r) (.bX []) ((jx r lit w t a b).H r) 5:=by
 have D:=uo r lit w a;have F:=uo r lit w b;have C:jx r lit w t a b=if b.kind=1 then fW r lit w ((t.add (jb r lit w a)).add (jb r lit w b)) b a else fW r lit w ((t.add (jb r lit w a)).add (jb r lit w b)) a b:=rfl;rw[C];have A:iT ((t.add (jb r lit w a)).add (jb r lit w b)).up:=ok;refine aE ab func200 Z (by decide) ntmps200 Z (by simp) ?_;refine gA Z (Hr (Sc r t a lit w (by omega)) ?_);refine gA Z (Ed (Sc r (t.add (jb r lit w a)) b lit w (by show(t.ws++_).length+_<=_;rw[Yg];omega)) Z Z Z Z Z Z Z (by first|rfl|(rw[Yg];rfl)|simp) (by first|rfl|(rw[Yk];rfl)|(simp only[Yk,Yu];rfl)) Z Z Z Z Z Z ?_);have G:((t.add (jb r lit w a)).add (jb r lit w b)).ws.length<=t.ws.length+a.size+b.size:=by
  show((t.ws++_)++_).length<=_;rw[Yg,Yg];omega
 generalize(t.add (jb r lit w a)).add (jb r lit w b)=t1 at*
 refine zJ Z Z (fun k1=>?_) fun k1=>?_
 .have k1:b.kind=1:=zT k1;rw[am k1];refine zJ Z Z (fun j=>?_) fun j=>?_
  .have j:a.kind=2:=zT j;have B: ¬a.kind=1:=by omega
   have hh:lT a=a.val.kind:=am j;have x:fW r lit w t1 b a=t1.add [⟨lit,bh r b.var w,lT a,0⟩]:=by unfold fW;rw[be B,am k1]
   rw[x,hh];refine zJ Z Z (fun u=>?_) fun u=>?_
   .exact absurd (zT u) B
   refine zE Z Z (fun d=>?_) fun d=>?_
   .exact absurd k1 (zF d)
   refine gA Z (qw (d136 r t1 b.var w) ?_);refine gA Z y9
  .have j: ¬a.kind=2:=zF j;refine zJ Z Z (fun u=>?_) fun u=>?_
   .have u:a.kind=1:=zT u;have x:fW r lit w t1 b a=sI t1 (aO t1.up (bh r b.var w)) (aO t1.up (bh r a.var w)):=am u;rw[x];refine gA Z (qw (d136 r t1 b.var w) ?_);refine gA Z (qw (d52 r t1 (bh r b.var w) A) ?_);refine gA Z (qw (d136 r t1 a.var w) ?_);refine gA Z (qw (d52 r t1 (bh r a.var w) A) ?_);refine zJ Z Z (fun d=>?_) fun d=>?_
    .have e:sI t1 (aO t1.up (bh r b.var w)) (aO t1.up (bh r a.var w))=⟨ck (.si .i64) t1.up (aO t1.up (bh r b.var w)) (aO t1.up (bh r a.var w)),t1.ws,t1.kind⟩:=be (OF d);rw[e];refine ox Z (by repeat' (first|exact ac|exact rfl|exact agI (aM.c (aO t1.up (bh r a.var w)))|exact aG.refl _|apply YW)) (R8 (by first|exact .inr Z|exact .inl Z) Z Z Z Z Z Z Z Z Z Z (.refl _) Z Z)
    .have e:sI t1 (aO t1.up (bh r b.var w)) (aO t1.up (bh r a.var w))=t1:=am (OG d);rw[e];refine gA Z y9
   .have B: ¬a.kind=1:=zF u;have hh:lT a=1:=be j;have x:fW r lit w t1 b a=t1.add [⟨lit,bh r b.var w,lT a,0⟩]:=by unfold fW;rw[be B,am k1]
    rw[x,hh];refine zE Z Z (fun d=>?_) fun d=>?_
    .exact absurd k1 (zF d)
    refine gA Z (qw (d136 r t1 b.var w) ?_);refine gA Z y9
 have k1: ¬b.kind=1:=zF k1;rw[be k1];have x:fW r lit w t1 a b=t1.add (if a.kind=1 then[⟨lit,bh r a.var w,lT b,0⟩] else if a.kind=2 then[⟨lit,aM.z,lT b,a.val.kind⟩] else[⟨lit,aM.z,lT b,1⟩]):=be k1;rw[x];refine zJ Z Z (fun j=>?_) fun j=>?_
 .have j:b.kind=2:=zT j;have hh:lT b=b.val.kind:=am j;rw[hh];refine zJ Z Z (fun u=>?_) fun u=>?_
  .exact absurd (zT u) k1
  refine zJ Z Z (fun d=>?_) fun d=>?_
  .rw[am (zT d)];refine gA Z (qw (d136 r t1 a.var w) ?_);refine gA Z y9
  rw[be (zF d)];refine zJ Z Z (fun y=>?_) fun y=>?_
  .rw[am (zT y)];refine gA Z y9
  .rw[be (zF y)];refine gA Z y9
 .have j: ¬b.kind=2:=zF j;have hh:lT b=1:=be j;rw[hh];refine zJ Z Z (fun u=>?_) fun u=>?_
  .exact absurd (zT u) k1
  refine zJ Z Z (fun d=>?_) fun d=>?_
  .rw[am (zT d)];refine gA Z (qw (d136 r t1 a.var w) ?_);refine gA Z y9
  rw[be (zF d)];refine zJ Z Z (fun y=>?_) fun y=>?_
  .rw[am (zT y)];refine gA Z y9
  .rw[be (zF y)];refine gA Z y9
def pN(p:Prog)(r:aq)(lit w:Int)(t:TS)(l:Lit):TS:=
 if l.kind=1∨l.kind=2 then t.add (gq p r l.atom lit w l.atom.ae.length)
 else if l.kind=3 then(if l.op=1∨l.op=2 then jx r lit w t l.left l.right else(t.add (gm r lit w l.left)).add (gm r lit w l.right)) else t
theorem d91(p:Prog)(r:aq)(t:TS)(l:Lit)(lit w:Int)(ok:iT t.up)(hb:t.ws.length+l.size<=1000000000):cj prog 198 [.ptr 0 0,.iv (dr p),ag l.c,pI lit,pI w] (t.O r) (.bX []) ((pN p r lit w t l).H r) 5:=by
 have y:=l.size_eq;have A:=jW r lit w l.left;refine aE ab func198 Z (by decide) ntmps198 Z (by simp) ?_;refine zE Z Z (fun k1=>?_) fun k1=>?_
 .have k1:l.kind=1:=by simpa using k1
  have b:pN p r lit w t l=t.add (gq p r l.atom lit w l.atom.ae.length):=am (.inl k1);rw[b];refine gA Z (Hr (d90 p r t l.atom lit w (by omega)) ?_);refine gA Z y9
 have k1: ¬l.kind=1:=zF k1;refine zJ Z Z (fun d=>?_) fun d=>?_
 .have d:l.kind=2:=zT d;have b:pN p r lit w t l=t.add (gq p r l.atom lit w l.atom.ae.length):=am (.inr d);rw[b];refine gA Z (Hr (d90 p r t l.atom lit w (by omega)) ?_);refine gA Z y9
 have d: ¬l.kind=2:=zF d;have b:pN p r lit w t l=if l.kind=3 then(if l.op=1∨l.op=2 then jx r lit w t l.left l.right else(t.add (gm r lit w l.left)).add (gm r lit w l.right)) else t:=be (by rintro(h|h);exact k1 h;exact d h);refine zJ Z Z (fun j=>?_) fun j=>?_
 .have j: ¬l.kind=3:=by simpa using j
  rw[be j]at b;rw[b];refine gA Z y9
 have j:l.kind=3:=by simpa using j
 rw[am j]at b;refine zE Z Z (fun u=>?_) fun u=>?_
 .have u:l.op=1:=by simpa using u
  rw[am (.inl u)]at b;rw[b];refine gA Z (Hr (d93 r t l.left l.right lit w ok (by omega)) ?_);refine gA Z y9
 have u: ¬l.op=1:=zF u;refine zJ Z Z (fun x=>?_) fun x=>?_
 .have x:l.op=2:=zT x;rw[am (.inr x)]at b;rw[b];refine gA Z (Hr (d93 r t l.left l.right lit w ok (by omega)) ?_);refine gA Z y9
 .have x: ¬l.op=2:=zF x;rw[be (by rintro(h|h);exact u h;exact x h)]at b;rw[b];refine gA Z (Hr (Mq r t l.left lit w (by omega)) ?_);refine gA Z (Ed (Mq r (t.add (gm r lit w l.left)) l.right lit w (by show(t.ws++_).length+_<=_;rw[Yg];omega)) Z Z Z Z Z Z Z (by first|rfl|(rw[Yg];rfl)|simp) (by first|rfl|(rw[Yk];rfl)|(simp only[Yk,Yu];rfl)) Z Z Z Z Z Z ?_);refine gA Z y9
theorem mv: ∀(n:Nat) (m:UM) (v:aM),iT m->H4 m v<=n->ej (.si .i64) m (aO m v)=li
 |n,m,v,ok,hn=>by
  cases h:ej (.si .i64) m v with
  |false=>rw[ub m v h];exact h
  |true=>
   obtain⟨b,d⟩:=p4 m v ok h;cases n with
   |zero=>omega
   |succ n=>rw[<-b];exact mv n m _ ok (by omega)
theorem ud: ∀(m:UM) (u v:aM),ej (.si .i64) m u=li->ck (.si .i64) m u v=m++ [(u,v)]
 | [],_,_,_=>rfl
 |(x,y)::r,u,v,h=>by
  unfold ej at h;split at h
  .cases h
  .rename_i b;show(if x=u then _ else(x,y)::ck (.si .i64) r u v)=_;rw[be b,ud r u v h];rfl
theorem D8{m:UM}{u:aM}(h:ej (.si .i64) m u=li): ∀q∈m,q.1≠u:=by
 induction m with
 |nil=>intro q hq;cases hq
 |cons a r ih=>
  obtain⟨x,y⟩:=a;unfold ej at h;split at h
  .cases h
  .rename_i b;intro q hq;rcases Yx.1 hq with rfl|hq
   .exact b
   .exact ih h q hq
theorem zt: ∀{m:UM} {u v:aM},iT m->(∀q∈m,q.1≠u)->(∀q∈m,q.1≠v)->u≠v->iT (m++ [(u,v)])
 | [],u,v,_,_,_,hne=>⟨hne,fun q hq=>(nomatch hq),fun q hq=>(nomatch hq),ac⟩
 |(x,y)::r,u,v,⟨o1,o2,o3,o4⟩,hu,hv,hne=>by
  refine⟨o1,fun q hq=>?_,fun q hq=>?_,zt o4 (fun q hq=>hu q (Yt _ hq)) (fun q hq=>hv q (Yt _ hq)) hne⟩
  .rcases Ys.1 hq with hq|hq
   .exact o2 q hq
   .simp only[Yr]at hq;subst hq;exact fun e=>hu _ Yy e.symm
  .rcases Ys.1 hq with hq|hq
   .exact o3 q hq
   .simp only[Yr]at hq;subst hq;exact fun e=>hv _ Yy e.symm
theorem JX{t:TS}(ok:iT t.up)(a b:aM):iT (sI t (aO t.up a) (aO t.up b)).up:=by
 unfold sI;split
 .exact ok
 .rename_i d;have j:=mv _ t.up a ok (Ym _);have u:=mv _ t.up b ok (Ym _);show iT (ck _ _ _ _);rw[ud _ _ _ j];exact zt ok (D8 j) (D8 u) d
theorem Be(r:aq)(lit w:Int){t:TS}(ok:iT t.up)(x y:Expr):iT (fW r lit w t x y).up:=by
 unfold fW;split
 .exact JX ok _ _
 .exact ok
theorem EU(r:aq)(lit w:Int){t:TS}(ok:iT t.up)(a b:Expr):iT (jx r lit w t a b).up:=by
 unfold jx;split
 .exact Be r lit w (t:=(t.add (jb r lit w a)).add (jb r lit w b)) ok _ _
 .exact Be r lit w (t:=(t.add (jb r lit w a)).add (jb r lit w b)) ok _ _
theorem Lg(p:Prog)(r:aq)(lit w:Int){t:TS}(ok:iT t.up)(l:Lit):iT (pN p r lit w t l).up:=by
 unfold pN
 repeat' split
 .exact ok
 .exact EU r lit w ok _ _
 .exact ok
 .exact ok
theorem JW(t:TS)(u v:aM):(sI t u v).ws=t.ws:=by unfold sI;split<;>rfl
theorem yY(r:aq)(lit w:Int)(t:TS)(x y:Expr):(fW r lit w t x y).ws.length<=t.ws.length+1:=by
 unfold fW
 repeat' split
 .rw[JW];omega
 all_goals(show(t.ws++_).length<=_;rw[Yg,YY];omega)
theorem Bc(r:aq)(lit w:Int)(t:TS)(a b:Expr):(jx r lit w t a b).ws.length<=t.ws.length+a.size+b.size+1:=by
 have d:=uo r lit w a;have j:=uo r lit w b;have u:((t.add (jb r lit w a)).add (jb r lit w b)).ws.length<=t.ws.length+a.size+b.size:=by
  show((t.ws++_)++_).length<=_;rw[Yg,Yg];omega
 unfold jx;split
 .exact YR (yY _ _ _ _ _ _) (by omega)
 .exact YR (yY _ _ _ _ _ _) (by omega)
theorem Hd(p:Prog)(r:aq)(lit w:Int)(t:TS)(l:Lit):(pN p r lit w t l).ws.length<=t.ws.length+l.size:=by
 have b:=l.size_eq;have d:=pr p r l.atom lit w l.atom.ae.length;have j:=Bc r lit w t l.left l.right;have u:=jW r lit w l.left;have x:=jW r lit w l.right;unfold pN
 repeat' split
 .show(t.ws++_).length<=_;rw[Yg];omega
 .omega
 .show((t.ws++_)++_).length<=_;rw[Yg,Yg];omega
 .omega
end Go.Proofs.YtflegjieadkonaaGreatDoor
