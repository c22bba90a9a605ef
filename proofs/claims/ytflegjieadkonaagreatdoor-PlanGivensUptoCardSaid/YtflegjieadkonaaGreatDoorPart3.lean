/-
  What the proofs of the claims need: part 3 of 7.
-/
import Derived.Test.YtflegjieadkonaaGreatDoorPart2
import Derived.Sort.EncStr
import Derived.Sort.Grow
import Derived.Sort.Walk0
import Derived.Shelf.Sort.Plain
import Derived.Shelf.Slices.In.SortNone
import Derived.Shelf.Slices.In.SortNone2
import Derived.WalkKit
import Derived.Lib.Builder
import Derived.Lib.UnsafeStr
import Derived.Laws.Externs
import Derived.Shelf.RegionOpenPlain
import Derived.KernelRfl
import Derived.Test.YtflegjieadkonaaGreatDoorProg
import Derived.Laws.RangeString
import Derived.Shelf.LaysM
import Derived.Shelf.Strconv.Itoa3
import Derived.Lib.ItoaLen
open And renaming intro→ZL
open Array renaming getD_eq_getD_getElem?→Y0,getElem?_append_left→Z4,getElem?_eq_getElem→ZV,getElem?_eq_some_iff→aaj,getElem?_modify→ZT,getElem?_setIfInBounds→ZK
open Bool renaming and_eq_true→Zo,and_false→Z5,eq_false_iff→aaK,eq_iff_iff→ZN,false_and→Z9,false_eq_true→aaz,false_or→aag,not_eq_true'→Z7,not_false→abu,not_true→abq,or_eq_true→aal,or_true→aba,true_and→ZR,true_or→abx
open ByteArray renaming empty→Y5,size→abP
open Classical renaming byContradiction→aah
open Int renaming ofNat_eq_zero→acd,toNat_natCast→Zs
open List.Nodup renaming length_le_of_subset→aaH
open List.Pairwise renaming nil→aaL
open List renaming all_eq_false→aaN,all_eq_true→Zr,any_cons→abW,any_eq_false→ZU,any_eq_true→ZQ,append_assoc→Zc,append_nil→ZE,cons_append→aaC,ext_getElem?→aaM,filterMap_append→ab5,filterMap_cons→ab9,filter_append→abc,filter_cons→aaw,filter_eq_self→aca,filter_sublist→abH,findIdx?_eq_none_iff→abC,findIdx?_eq_some_iff_getElem→abf,flatMap_cons→ZO,foldl_append→aax,foldl_cons→Zw,getD_cons_succ→aap,getD_eq_getElem?_getD→YZ,getElem?_eq_getElem→Y3,getElem?_eq_some_iff→Y4,getElem?_map→Y9,getElem?_of_mem→ZY,getElem?_take→ZX,getElem_inj→abz,getElem_map→abO,getElem_mem→ZJ,le_antisymm→abZ,length_append→Y1,length_cons→ZA,length_filter_le→aae,length_map→Zx,length_nil→aad,length_singleton→ZB,length_take→ZP,map_append→Y6,map_cons→Zm,map_map→aaQ,map_nil→Z2,mem_append→Zf,mem_append_left→ZC,mem_append_right→aau,mem_cons→Zj,mem_cons_of_mem→Zg,mem_cons_self→Zh,mem_filter→ZF,mem_flatMap→aaT,mem_map→ZD,mem_of_getElem?→Zv,mem_of_mem_take→abv,mem_range→Z8,mem_singleton→Zd,nodup_append→aaY,nodup_cons→aam,nodup_nil→Z3,not_lt→acj,not_mem_nil→aby,pairwise_cons→aas,range→Zp,sum_cons→aaO,take_append_drop→abe,take_length→aaI,take_of_length_le→Za,take_succ_cons→aan
open Nat renaming add_assoc→aaB,add_zero→aa8,beq→Zt,ble→aaV,ble_eq_true_of_le→ZI,blt→Zk,le_add_left→aaA,le_of_ble_eq_true→YY,le_refl→Y7,le_trans→ZS,lt_or_ge→aab,lt_succ_of_lt→aaE,lt_succ_self→aar,mul_one→abT,zero_add→Zq,zero_le→Y8
open Option renaming bind_some→abY,getD_some→aaq,map_eq_some_iff→Zb,map_some→ZZ
open Option.some renaming injEq→Y2
set_option maxRecDepth 100000
open Bool renaming false→lc,true→kw
open Decidable renaming decide→li
open Inhabited renaming default→em
open Option renaming none→jp,some→io
open Array renaming range→abR
open Array renaming getElem?_map→abn
open Nat renaming mul_le_mul_right→Zy
open Nat renaming add_mul→aaf
open List renaming getElem?_append_right→Zn
open Array renaming getElem?_toList→aac
namespace Go.Proofs.YtflegjieadkonaaGreatDoor
open Go Go.Al Go.Proofs.Tryz
theorem EM{α:Type}[Inhabited α]{l:List α}{p:α->Bool}{i:Nat}(h:i<l.length):(l.take (i+1)).filter p=if p (l.getD i em) then(l.take i).filter p++ [l.getD i em] else(l.take i).filter p:=by
 rw[bz h,abc];cases hp:p (l.getD i em)<;>simp only[aaw,List.filter_nil,hp]<;>simp
theorem wJ{α:Type}(l:List α)(p:α->Bool)(i:Nat):((l.take i).filter p).length<=l.length:=by
 have b:=aae p (l.take i);have d:(l.take i).length<=l.length:=by simp;omega
 omega
def ak(r:ah)(lit:Int):Lit:=r.body.getD lit.toNat em
def mD(r:ah)(lit:Int):List aj:=if lit<0∨(r.body.length:Int)<=lit∨ ¬(ak r lit).kind=4 then[] else(aF (ak r lit).agg).filter fun x=>!aE (outer r) x
theorem Lit.fy(l:Lit):l.agg.size+2<=l.size:=by
 rw[l.size_eq];unfold eK.size Lit.agg;dsimp only;omega
theorem c36(r:ah)(lit:Int)(hb:r.size<=1000000000000):Pure prog 238 [ag r.c,pI lit] (.iv (strs (mD r lit))):=by
 have D:=hb;unfold ah.size at D;refine ae ab func238 Z (by decide) ntmps238 Z (by simp) Z ?_;refine zE Z Z (fun d=>?_) fun d=>?_
 .have d:lit<0:=by simpa using d
  refine gA Z (zL ?_);rw[mD,am (.inl d)];exact .nil _ _
 have d: ¬lit<0:=by simpa using d
 refine zE Z Z (fun u=>?_) fun u=>?_
 .have u:(r.body.length:Int)<=lit:=by simpa using u
  refine gA Z (zL ?_);rw[mD,am (.inr (.inl u))];exact .nil _ _
 have u: ¬(r.body.length:Int)<=lit:=by simpa using u
 refine zJ Z Z (fun j=>?_) fun j=>?_
 .have j: ¬(ak r lit).kind=4:=by simpa[ak]using j
  refine gA Z (zL ?_);rw[mD,am (.inr (.inr j))];exact .nil _ _
 have j:(ak r lit).kind=4:=by simpa[ak]using j
 have S:lit.toNat<r.body.length:=by omega
 have F:=Lit.aI r.body lit.toNat S;have G:=(ak r lit).fy;have J:=gr (ak r lit).agg;have Y:(ak r lit).size<=Lit.aA r.body:=F;refine gA Z (zp (S7 r hb) ?_);refine gA Z (zp (Vp (ak r lit).agg (by omega)) ?_);refine gA Z ?_;refine fU 7 1 Z ?_;refine az 0 (aF (ak r lit).agg).length (Y8 _) (fun i=>⟨[(5,.iv (strs (outer r))),(6,.iv (strs (aF (ak r lit).agg))),(7,.sl 2 0 (((aF (ak r lit).agg).take i).filter fun x=>!aE (outer r) x).length 1),(8,pI i)],[(2,io (aG 1 (((aF (ak r lit).agg).take i).filter fun x=>!aE (outer r) x) cM))],3⟩) (fun _=>True) [1] ac
  (zW (zS trivial)) fun i hi hJ=>?_
 have I:=wJ (aF (ak r lit).agg) (fun x=>!aE (outer r) x) i;refine zJ Z Z (fun b=>?_) fun b=>?_
 .have b:=ci b;have y:=EM (p:=fun x=>!aE (outer r) x) b;refine gA Z (bj (JE _ ((aF (ak r lit).agg).getD i em)) Z Z Z Z Z Z ?_);refine zJ Z Z (fun B=>?_) fun B=>?_
  .rw[am B]at y;refine nV Z ?_ ⟨b,ac,[4],zM (bv (bv ⟨.row (by rw[y];simp),rfl,bv ac⟩)) (hR Z (by rw[y,Y6];rfl) Z ac)⟩
   repeat' (first|exact ac|exact rfl|apply ZL)
   all_goals first|omega|(simp;omega)|simp
  .rw[B]at y;refine gA Z ⟨b,ac,[2],zM (bv (bv ⟨.row (by rw[y];simp),rfl,bv ac⟩)) (hR Z (by rw[y];simp;try rfl) Z ac)⟩
 .have b:=co b;have A:mD r lit=((aF (ak r lit).agg).take i).filter fun x=>!aE (outer r) x:=by
   rw[Za b,mD,be (by simp[d,j];omega)]
  refine gA Z (cx (by first|exact .inr Z|exact .inl Z) Z Z (by rw[A]) (by rw[A]))
def kj(l:Lit)(b:List aj):aj×Bool:=
 if¬l.kind=3∨ ¬l.op=1 then(Y5,lc)
 else if l.left.kind=1∧lU b (aH l.left)=lc∧lU b (aH l.right)=kw then(l.left.var,kw)
 else if l.right.kind=1∧lU b (aH l.right)=lc∧lU b (aH l.left)=kw then(l.right.var,kw)
 else(Y5,lc)
theorem jP{a b:aj×Bool}(h:a=b):PV.bQ [pS a.1,pB a.2]= .bQ [pS b.1,pB b.2]:=by rw[h]
theorem YD(l:Lit)(b:List aj)(hb:l.size<=1000000000000):Pure prog 283 [ag l.c,.iv (strs b)] (.bQ [pS (kj l b).1,pB (kj l b).2]):=by
 have G:=l.size_eq;refine ae ab func283 Z (by decide) ntmps283 Z (by simp) Z ?_;refine zE Z Z (fun B=>?_) fun B=>?_
 .have B: ¬l.kind=3:=by simpa using B
  refine gA Z (zL (.of_eq ?_));exact jP (a:=(Y5,lc)) (by rw[kj,am (.inl B)])
 have B:l.kind=3:=by simpa using B
 refine zJ Z Z (fun D=>?_) fun D=>?_
 .have D: ¬l.op=1:=by simpa using D
  refine gA Z (zL (.of_eq ?_));exact jP (a:=(Y5,lc)) (by rw[kj,am (.inr D)])
 have D:l.op=1:=by simpa using D
 have y:kj l b=if l.left.kind=1∧lU b (aH l.left)=lc∧lU b (aH l.right)=kw then(l.left.var,kw)
   else if l.right.kind=1∧lU b (aH l.right)=lc∧lU b (aH l.left)=kw then(l.right.var,kw)
   else(Y5,lc):=by rw[kj,be (by simp[B,D])]
 refine gA Z (zp (E4 l.left (by omega)) ?_);refine gA Z (zp (E4 l.right (by omega)) ?_);refine gA Z (zp (W8 b (aH l.left)) ?_);refine gA Z (zp (W8 b (aH l.right)) ?_);refine zJ Z Z (fun A=>?_) fun A=>?_
 .have A:l.left.kind=1:=by simpa using A
  refine zJ Z Z (fun u=>?_) fun u=>?_
  .have u:lU b (aH l.left)=lc:=by simpa using u
   refine zJ Z Z (fun F=>?_) fun F=>?_
   .refine gA Z (zL (.of_eq ?_));exact jP (a:=(l.left.var,kw)) (by rw[y,am ⟨A,u,F⟩])
   .refine zJ Z Z (fun d=>?_) fun d=>?_
    .have d:l.right.kind=1:=by simpa using d
     refine zJ Z Z (fun j=>?_) fun j=>?_
     .refine zJ Z Z (fun x=>?_) fun x=>?_
      .rw[u]at x;cases x
      .refine gA Z (zL (.of_eq ?_));exact jP (a:=(Y5,lc)) (by rw[y,be (by simp[F]),be (by simp[u])])
     .rw[F]at j;cases j
    .have d: ¬l.right.kind=1:=by simpa using d
     refine gA Z (zL (.of_eq ?_));exact jP (a:=(Y5,lc)) (by rw[y,be (by simp[F]),be (by simp[u])])
  .have u:lU b (aH l.left)=kw:=by simpa using u
   refine zJ Z Z (fun d=>?_) fun d=>?_
   .have d:l.right.kind=1:=by simpa using d
    refine zJ Z Z (fun j=>?_) fun j=>?_
    .have j:lU b (aH l.right)=lc:=by simpa using j
     refine zJ Z Z (fun x=>?_) fun x=>?_
     .refine gA Z (zL (.of_eq ?_));exact jP (a:=(l.right.var,kw)) (by rw[y,be (by simp[u]),am ⟨d,j,u⟩])
     .rw[u]at x;cases x
    .have j:lU b (aH l.right)=kw:=by simpa using j
     refine gA Z (zL (.of_eq ?_));exact jP (a:=(Y5,lc)) (by rw[y,be (by simp[u]),be (by simp[j])])
   .have d: ¬l.right.kind=1:=by simpa using d
    refine gA Z (zL (.of_eq ?_));exact jP (a:=(Y5,lc)) (by rw[y,be (by simp[u]),be (by simp[d])])
 .have A: ¬l.left.kind=1:=by simpa using A
  refine zJ Z Z (fun d=>?_) fun d=>?_
  .have d:l.right.kind=1:=by simpa using d
   refine zJ Z Z (fun j=>?_) fun j=>?_
   .have j:lU b (aH l.right)=lc:=by simpa using j
    refine zJ Z Z (fun x=>?_) fun x=>?_
    .refine gA Z (zL (.of_eq ?_));exact jP (a:=(l.right.var,kw)) (by rw[y,be (by simp[A]),am ⟨d,j,x⟩])
    .refine gA Z (zL (.of_eq ?_));exact jP (a:=(Y5,lc)) (by rw[y,be (by simp[A]),be (by simp[x])])
   .have j:lU b (aH l.right)=kw:=by simpa using j
    refine gA Z (zL (.of_eq ?_));exact jP (a:=(Y5,lc)) (by rw[y,be (by simp[A]),be (by simp[j])])
  .have d: ¬l.right.kind=1:=by simpa using d
   refine gA Z (zL (.of_eq ?_));exact jP (a:=(Y5,lc)) (by rw[y,be (by simp[A]),be (by simp[d])])
def sv(a:eK)(b outer:List aj):Bool:=!aE b a.var&&(aF a).all fun x=>!(aE outer x&&(!aE b x&&!li (x=a.var)))
theorem YC(a:eK)(b outer:List aj)(hb:a.size<=1000000000000):Pure prog 284 [ag a.c,.iv (strs b),.iv (strs outer)] (pB (sv a b outer)):=by
 have D:=gr a;refine ae ab func284 Z (by decide) ntmps284 Z (by simp) Z ?_;refine gA Z (zp (JE b a.var) ?_);refine zJ Z Z (fun y=>?_) fun y=>?_
 .refine gA Z (zL (.of_eq ?_));rw[sv,y];try rfl
 refine gA Z (zp (Vp a hb) ?_);refine gA Z ?_;refine az 0 (aF a).length (Y8 _) (fun i=>⟨[(1,.iv (strs b)),(2,.iv (strs outer)),(3,.ptr 0 0),(8,.iv (strs (aF a))),(9,pI i)],[(0,io (an a.c))],1⟩) (fun i=>((aF a).take i).all (fun x=>!(aE outer x&&(!aE b x&&!li (x=a.var))))=kw) [] Z
  (zW (zK trivial)) fun i F u=>?_
 refine zJ Z Z (fun d=>?_) fun d=>?_
 .have d:=ci d;refine gA Z (zp (JE outer ((aF a).getD i em)) ?_);refine gA Z (zp (JE b ((aF a).getD i em)) ?_);refine zJ Z Z (fun j=>?_) fun j=>?_
  .refine zJ Z Z (fun A=>?_) fun A=>?_
   .refine zJ Z Z (fun B=>?_) fun B=>?_
    .refine gA Z (zL (.of_eq ?_));rw[sv,Fg d (show(!(aE outer ((aF a).getD i em)&&(!aE b ((aF a).getD i em)&&!li ((aF a).getD i em=a.var))))=lc by rw[j,A,show(!li ((aF a).getD i em=a.var))=kw from B];rfl)];simp;try rfl
    .refine gA Z ?_;exact⟨d,(ld u d).2 (by rw[j];simp only[ZR];rw[show(!li ((aF a).getD i em=a.var))=lc from B];simp),[],zW (zK ac)⟩
   .refine gA Z ?_;exact⟨d,(ld u d).2 (by rw[A];simp),[],zW (zK ac)⟩
  .refine gA Z ?_;exact⟨d,(ld u d).2 (by rw[j];simp),[],zW (zK ac)⟩
 .have d:=co d;refine gA Z (zL (.of_eq ?_));rw[sv,y,Fh u d];try rfl
def dS(l:Lit)(b:List aj):aj×Bool:=
 if¬l.kind=3∨ ¬l.op=1 then(Y5,lc)
 else if l.left.kind=1∧aE b l.left.var=lc∧(l.right.kind=2∨l.right.kind=1∧aE b l.right.var=kw) then(l.left.var,kw)
 else if l.right.kind=1∧(if l.left.kind=1 then aE b l.left.var else li (l.left.kind=2))=kw then(l.right.var,!aE b l.right.var)
 else(Y5,lc)
theorem c78(l:Lit)(b:List aj):Pure prog 177 [ag l.c,.iv (strs b)] (.bQ [pS (dS l b).1,pB (dS l b).2]):=by
 refine ae ab func177 Z (by decide) ntmps177 Z (by simp) Z ?_
 repeat' (first|(refine gA Z (zI (fun _=>?_) (fun _=>?_)))|(refine gA Z (zp (JE b l.left.var) ?_))|(refine gA Z (zp (JE b l.right.var) ?_))|(refine gA Z (zL (.of_eq ?_))))
 all_goals first
  |exact jP (a:=(Y5,lc)) (by simp_all [dS])
  |exact jP (a:=(l.left.var,kw)) (by simp_all [dS])
  |exact jP (a:=(l.right.var,!aE b l.right.var)) (by simp_all [dS])
  |(exfalso;simp_all;done)
theorem pg{e:Expr}(h:e.kind=1):aH e=[e.var]:=by
 rw[wg,am h,q9];rfl
theorem IE{l:Lit}{k:List aj}(h:(kj l k).2=kw):((kj l k).1=l.left.var∨(kj l k).1=l.right.var)∧(kj l k).1∉k:=by
 unfold kj at h ⊢;split at h
 .cases h
 .rename_i u;rw[be u];split at h
  .rename_i b;rw[am b];refine⟨.inl Z,fun j=>?_⟩;have:=b.2.1;rw[pg b.1]at this;simp[lU,aM.2 j]at this
  .rename_i b;rw[be b];split at h
   .rename_i d;rw[am d];refine⟨.inr Z,fun j=>?_⟩;have:=d.2.1;rw[pg d.1]at this;simp[lU,aM.2 j]at this
   .cases h
theorem JK{a:eK}{k o:List aj}(h:sv a k o=kw):a.var∉k:=by
 unfold sv at h;simp only[Zo,Z7]at h;exact dZ.1 h.1
def bM(body:List Lit):List aj:=body.flatMap fun l=> [l.left.var,l.right.var,l.a7]
def bO(c k:List aj):Nat:=(c.filter fun x=>!aE k x).length
theorem jO: ∀body:List Lit,(bM body).length=3*body.length
 | []=>rfl
 |l::r=>by have:=jO r;simp only[bM,ZO,Y1,ZA,aad]at this ⊢;omega
theorem o5(c k:List aj):bO c k<=c.length:=aae _ _
theorem oZ{v:aj}{k:List aj}: ∀{c:List aj},v∈c->v∉k->bO c (b6 k v)<bO c k:=by
 have mono: ∀c:List aj,bO c (b6 k v)<=bO c k:=by
  intro c
  induction c with
  |nil=>exact Y7 _
  |cons x r d=>
   simp only[bO]at d ⊢;simp only[aaw];by_cases b:x∈k
   .have:aE (b6 k v) x=kw:=aM.2 (cq.2 (.inl b));rw[this,aM.2 b];exact d
   .simp only[dZ.2 b,abu,if_true,ZA];split<;>(try simp only[ZA])<;>omega
 intro c u y
 induction c with
 |nil=>cases u
 |cons x r d=>
  have A:=mono r;simp only[bO]at d A ⊢;simp only[aaw];by_cases j:x=v
  .subst j;have:aE (b6 k x) x=kw:=aM.2 (cq.2 (.inr Z));simp[this,dZ.2 y];omega
  .have B:v∈r:=by
    rcases Zj.1 u with h|h
    .exact absurd h.symm j
    .exact h
   have d:=d B;by_cases b:x∈k
   .have:aE (b6 k v) x=kw:=aM.2 (cq.2 (.inl b));simp[this,aM.2 b];exact d
   .have:aE (b6 k v) x=lc:=dZ.2 fun h=>by rcases cq.1 h with h|h;exact b h;exact j h
    simp[this,dZ.2 b];omega
def fC(own:Bool)(outer:List aj)(k:List aj)(l:Lit):aj×Bool:=if own=kw∧l.kind=4 then(l.a7,sv l.agg k outer) else kj l k
def stepG(own:Bool)(outer:List aj)(a:List aj×Bool)(l:Lit):List aj×Bool:=if(fC own outer a.1 l).2=kw then(b6 a.1 (fC own outer a.1 l).1,kw) else a
def nN(own:Bool)(outer:List aj)(body:List Lit)(k:List aj):List aj×Bool:=body.foldl (stepG own outer) (k,lc)
def AV(own:Bool)(outer:List aj)(body:List Lit):Nat->List aj->List aj
 |0,k=>k
 |n+1,k=>if(nN own outer body k).2=kw then AV own outer body n (nN own outer body k).1 else(nN own outer body k).1
theorem yo{own:Bool}{outer:List aj}{body:List Lit}{n:Nat}{k:List aj}:AV own outer body (n+1) k=if(nN own outer body k).2=kw then AV own outer body n (nN own outer body k).1 else(nN own outer body k).1:=rfl
def ia(k:List aj)(l:Lit):List aj:=if l.kind=1 then cv k (bg l.atom) else k
def tp(own:Bool)(outer:List aj)(body:List Lit)(k:List aj):List aj:=AV own outer body (3*body.length+1) (body.foldl ia k)
theorem Ix{own:Bool}{outer k:List aj}{l:Lit}(h:(fC own outer k l).2=kw):(fC own outer k l).1∈ [l.left.var,l.right.var,l.a7]∧(fC own outer k l).1∉k:=by
 unfold fC at h ⊢;split at h
 .rename_i b;rw[am b];exact⟨by simp,JK (a:=l.agg) h⟩
 .rename_i b;rw[be b];obtain⟨h2,d⟩:=IE h;refine⟨?_,d⟩;rcases h2 with h2|h2<;>simp[h2]
theorem rI{body:List Lit}{l:Lit}(h:l∈body){v:aj}(b:v∈ [l.left.var,l.right.var,l.a7]):v∈bM body:=aaT.2 ⟨l,h,b⟩
theorem Kp{own:Bool}{outer c:List aj}{a:List aj×Bool}{l:Lit}(hc: ∀v∈ [l.left.var,l.right.var,l.a7],v∈c):
  (stepG own outer a l).1.length+bO c (stepG own outer a l).1<=a.1.length+bO c a.1∧bO c (stepG own outer a l).1<=bO c a.1∧
  ((stepG own outer a l).2=kw->a.2=kw∨bO c (stepG own outer a l).1<bO c a.1):=by
 unfold stepG;split
 .rename_i h;obtain⟨b,d⟩:=Ix h;have j:=oZ (hc _ b) d;have u:=jA a.1 (fC own outer a.1 l).1;exact⟨by dsimp only;omega,by dsimp only;omega,fun _=> .inr j⟩
 .exact⟨Y7 _,Y7 _,fun h=> .inl h⟩
theorem EI{own:Bool}{outer c:List aj}: ∀{body:List Lit} {a:List aj×Bool},(∀l∈body,∀v∈ [l.left.var,l.right.var,l.a7],v∈c)->
  (body.foldl (stepG own outer) a).1.length+bO c (body.foldl (stepG own outer) a).1<=a.1.length+bO c a.1∧bO c (body.foldl (stepG own outer) a).1<=bO c a.1∧
  ((body.foldl (stepG own outer) a).2=kw->a.2=kw∨bO c (body.foldl (stepG own outer) a).1<bO c a.1)
 | [],a,_=>⟨Y7 _,Y7 _,fun h=> .inl h⟩
 |l::r,a,hc=>by
  obtain⟨j,u,b⟩:=Kp (own:=own) (outer:=outer) (a:=a) (hc l Zh);obtain⟨g1,g2,g3⟩:=EI (own:=own) (outer:=outer) (body:=r) (a:=stepG own outer a l) fun l d=>hc l (Zg _ d);simp only[Zw];refine⟨by omega,by omega,fun h=>?_⟩;rcases g3 h with g|g
  .rcases b g with h|h
   .exact .inl h
   .exact .inr (by omega)
  .exact .inr (by omega)
theorem K1(k:List aj)(l:Lit):(ia k l).length+2<=k.length+l.size:=by
 have b:=eL (bg l.atom) k;have d:=cY l.atom;have j:=l.size_eq;unfold ia;split<;>omega
theorem iZ: ∀(l:List Lit) (a:List aj),(l.foldl ia a).length<=a.length+Lit.aA l
 | [],a=>by simp[Lit.aA]
 |e::r,a=>by
  have b:=iZ r (ia a e);have d:=K1 a e;simp only[Zw,Lit.aA];omega
theorem c74(body:List Lit)(d outer:List aj)(own:Bool)(hb:d.length+4*Lit.aA body<=1000000000000):Pure prog 269 [.iv (lits body),.iv (strs d),.iv (strs outer),pB own] (.iv (strs (tp own outer body d))):=by
 have b0:=Lit.au body;have j0:=iZ body d;have d0:=jO body;have i0:=o5 (bM body) (body.foldl ia d);refine ae ab func269 Z (by decide) ntmps269 Z (by simp) Z ?_;refine gA Z ?_;refine az 0 body.length (Y8 _) (fun i=>⟨[(0,.iv (lits body)),(1,.iv (strs ((body.take i).foldl ia d))),(2,.iv (strs outer)),(3,pB own),(9,pI i)],[],0⟩) (fun _=>True) [] ac
  (mZ Z Z (bv (bv (bv (bv (bv trivial))))) Z) fun i hi _=>?_
 refine zJ Z Z (fun G=>?_) fun G=>?_
 .have G:=ci G;have j:=cI (g:=ia) (b:=d) G;have hv:=iZ (body.take i) d;have hn:=Lit.b3 body i G;have c0:=cY (body.getD i em).atom;have m0:=(body.getD i em).size_eq;refine zJ Z Z (fun D=>?_) fun D=>?_
  .have D:(body.getD i em).kind=1:=by simpa using D
   rw[show ia ((body.take i).foldl ia d) (body.getD i em)=_ from am D]at j;refine gA Z (zp (QS (body.getD i em).atom (by omega)) ?_);refine gA Z (bj (U0 _ _ (by omega)) Z Z Z Z Z Z ?_);refine gA Z ⟨G,ac,[],mZ Z Z (bv ⟨.of_eq (by rw[j];rfl),rfl,bv (bv (bv ac))⟩) Z⟩
  .have D: ¬(body.getD i em).kind=1:=by simpa using D
   rw[show ia ((body.take i).foldl ia d) (body.getD i em)=_ from be D]at j;refine gA Z ⟨G,ac,[],mZ Z Z (bv ⟨.of_eq (by rw[j];rfl),rfl,bv (bv (bv ac))⟩) Z⟩
 have G:=co G;have e0:(body.take i).foldl ia d=body.foldl ia d:=l0 G;rw[e0];refine gA Z ?_;refine oA (σ:={x:List aj×Bool×Nat//tp own outer body d=(if x.2.1=kw then AV own outer body (x.2.2+1) x.1 else x.1)∧(x.2.1=kw->bO (bM body) x.1<=x.2.2)∧x.1.length+bO (bM body) x.1<=(body.foldl ia d).length+bO (bM body) (body.foldl ia d)})
  (fun x=>⟨[(0,.iv (lits body)),(1,.iv (strs x.1.1)),(2,.iv (strs outer)),(3,pB own),(11,pB x.1.2.1)],[],0⟩) (fun x=>if x.1.2.1=kw then bO (bM body) x.1.1+1 else 0)
  ⟨(body.foldl ia d,kw,3*body.length),by simp[tp],fun _=>by dsimp only;omega,Y7 _⟩ [] (mZ Z Z (bv (bv (bv (bv ⟨.rA Z,rfl,ac⟩)))) Z) ?_
 rintro⟨⟨k,more,f⟩,hx1,hx2,hx3⟩;dsimp only at hx1 hx2 hx3 ⊢;refine zJ Z Z (fun D=>?_) fun D=>?_
 .subst D;rw[am Z]at hx1;have g0:=hx2 Z;refine gA Z ?_;refine az 0 body.length (Y8 _) (fun i=>⟨[(0,.iv (lits body)),(1,.iv (strs ((body.take i).foldl (stepG own outer) (k,lc)).1)),(2,.iv (strs outer)),(3,pB own),(11,pB ((body.take i).foldl (stepG own outer) (k,lc)).2),(12,pI i)],[],0⟩) (fun _=>True) [] ac
   (mZ Z Z (bv (bv (bv (bv ⟨.rA Z,rfl,bv trivial⟩)))) Z) fun i hi _=>?_
  have B:=EI (own:=own) (outer:=outer) (c:=bM body) (body:=body.take i) (a:=(k,lc)) fun l hl v hv=>rI (abv hl) hv;dsimp only at B;refine zJ Z Z (fun A=>?_) fun A=>?_
  .have A:=ci A;have j:=cI (g:=stepG own outer) (b:=(k,lc)) A;generalize f0:(body.take i).foldl (stepG own outer) (k,lc)=ka at B j ⊢;have k0:=Lit.aI body i A;have a0:=(body.getD i em).fy;refine gA Z (zp (YD (body.getD i em) ka.1 (by omega)) ?_);refine zJ Z Z (fun S=>?_) fun S=>?_
   .subst S;refine zJ Z Z (fun J=>?_) fun J=>?_
    .have J:(body.getD i em).kind=4:=by simpa using J
     have y:fC kw outer ka.1 (body.getD i em)=((body.getD i em).a7,sv (body.getD i em).agg ka.1 outer):=am ⟨rfl,J⟩;refine gA Z (zp (YC (body.getD i em).agg ka.1 outer (by omega)) ?_);refine zJ Z Z (fun F=>?_) fun F=>?_
     .have u:stepG kw outer ka (body.getD i em)=(b6 ka.1 (body.getD i em).a7,kw):=by unfold stepG;rw[y,am F]
      rw[u]at j;refine gA Z (bj (Nt ka.1 _ (by omega)) Z Z Z Z Z Z ?_);refine gA Z ⟨A,ac,[],mZ Z Z (bv ⟨.of_eq (by rw[j];rfl),rfl,bv (bv ⟨.rA (by rw[j]),rfl,bv ac⟩)⟩) Z⟩
     .have u:stepG kw outer ka (body.getD i em)=ka:=by unfold stepG;rw[y,be (by rw[F];simp)]
      rw[u]at j;refine gA Z ⟨A,ac,[],mZ Z Z (bv ⟨.of_eq (by rw[j];rfl),rfl,bv (bv ⟨.of_eq (by rw[j];rfl),rfl,bv ac⟩)⟩) Z⟩
    .have J: ¬(body.getD i em).kind=4:=by simpa using J
     have y:fC kw outer ka.1 (body.getD i em)=kj (body.getD i em) ka.1:=be (fun h=>J h.2);refine zJ Z Z (fun F=>?_) fun F=>?_
     .have u:stepG kw outer ka (body.getD i em)=(b6 ka.1 (kj (body.getD i em) ka.1).1,kw):=by unfold stepG;rw[y,am F]
      rw[u]at j;refine gA Z (bj (Nt ka.1 _ (by omega)) Z Z Z Z Z Z ?_);refine gA Z ⟨A,ac,[],mZ Z Z (bv ⟨.of_eq (by rw[j];rfl),rfl,bv (bv ⟨.rA (by rw[j]),rfl,bv ac⟩)⟩) Z⟩
     .have u:stepG kw outer ka (body.getD i em)=ka:=by unfold stepG;rw[y,be (by rw[F];simp)]
      rw[u]at j;refine gA Z ⟨A,ac,[],mZ Z Z (bv ⟨.of_eq (by rw[j];rfl),rfl,bv (bv ⟨.of_eq (by rw[j];rfl),rfl,bv ac⟩)⟩) Z⟩
   .have S:own=lc:=S;subst S;have y:fC lc outer ka.1 (body.getD i em)=kj (body.getD i em) ka.1:=be (fun h=>by cases h.1);refine zJ Z Z (fun F=>?_) fun F=>?_
    .have u:stepG lc outer ka (body.getD i em)=(b6 ka.1 (kj (body.getD i em) ka.1).1,kw):=by unfold stepG;rw[y,am F]
     rw[u]at j;refine gA Z (bj (Nt ka.1 _ (by omega)) Z Z Z Z Z Z ?_);refine gA Z ⟨A,ac,[],mZ Z Z (bv ⟨.of_eq (by rw[j];rfl),rfl,bv (bv ⟨.rA (by rw[j]),rfl,bv ac⟩)⟩) Z⟩
    .have u:stepG lc outer ka (body.getD i em)=ka:=by unfold stepG;rw[y,be (by rw[F];simp)]
     rw[u]at j;refine gA Z ⟨A,ac,[],mZ Z Z (bv ⟨.of_eq (by rw[j];rfl),rfl,bv (bv ⟨.of_eq (by rw[j];rfl),rfl,bv ac⟩)⟩) Z⟩
  .have A:=co A;have e1:(body.take i).foldl (stepG own outer) (k,lc)=nN own outer body k:=l0 A;rw[e1]at B ⊢;refine gA Z ?_;refine⟨⟨((nN own outer body k).1,(nN own outer body k).2,f-1),?_,fun I=>?_,by dsimp only;omega⟩,[],?_,mZ Z Z (bv (bv (bv (bv (bv ac))))) Z⟩
   .dsimp only;rw[hx1,yo];by_cases I:(nN own outer body k).2=kw
    .have:=B.2.2 I;have Y:f-1+1=f:=by simp at this;omega
     rw[am I,am I,Y]
    .rw[be I,be I]
   .have:=B.2.2 I;simp at this;dsimp only;omega
   .dsimp only;split
    .rename_i I;have:=B.2.2 I;simp at this;simp;omega
    .simp
 .subst D;rw[be (by simp)]at hx1;refine gA Z (zL (.of_eq ?_));rw[hx1];rfl
def gl(may:Expr->Bool)(occ:List aj)(l:Lit):aj×Bool:=
 if¬l.kind=3∨ ¬l.op=1 then(Y5,lc)
 else if l.left.kind=1∧aE occ l.left.var=lc∧may l.right=kw then(l.left.var,kw)
 else if l.right.kind=1∧aE occ l.right.var=lc∧may l.left=kw then(l.right.var,kw)
 else(Y5,lc)
theorem cG{occ:List aj}{s:aj}:aE occ s=!li (bU .str (aC occ) s 0=0):=by
 rw[bB];by_cases h:s∈occ
 .have:=oF.2 h;rw[aM.2 h];simp;omega
 .rw[dZ.2 h,rG.2 h];rfl
def c8(occ:List aj)(e:Expr):Bool:=li (e.kind=2)||(li (e.kind=1)&&aE occ e.var)
theorem fP{a b:Bool}(h:a=b):pB a=pB b:=by rw[h]
theorem d76(occ:List aj)(e:Expr)(hb:e.size<=1000000000000):bV prog 127 [ag e.c,.ptr 1 0] [ct (aC occ),.cells [.mp 0]] (pB (c8 occ e)) [(0,io (ct (aC occ))),(1,io (.cells [.mp 0]))] 2:=by
 have b:=bB occ e.var;have d:=cG (occ:=occ) (s:=e.var);refine aB ab func127 Z (by decide) ntmps127 Z (by simp) ?_
 repeat' (first
  |(refine gA Z (zI (fun _=>?_) (fun _=>?_)))
  |fail)
 all_goals first
  |(refine gA Z (eU [] (.inr Z) Z (zM ⟨.of_eq (fP (a:=kw) ?_),rfl,ac⟩ (zC (zO ac))));simp_all [c8];done)
  |(refine gA Z (eU [] (.inr Z) Z (zM ⟨.of_eq (fP (a:=lc) ?_),rfl,ac⟩ (zC (zO ac))));simp_all [c8];done)
  |(refine gA Z (eU [] (.inr Z) Z (zM ⟨.of_eq (fP (a:=li (bU .str (aC occ) e.var 0>0)) ?_),rfl,ac⟩ (zC (zO ac))));rw[c8,d,b];simp_all;by_cases j:rS occ e.var=0<;>simp[j]<;>omega)
theorem c77(a:eK):Pure prog 128 [ag a.c] (pB lc):=by
 refine ae ab func128 Z (by decide) ntmps128 Z (by simp) Z ?_;exact zU Z
theorem Yp(a:eK):Pure prog 229 [ag a.c] (pB lc):=by
 refine ae ab func229 Z (by decide) ntmps229 Z (by simp) Z ?_;exact zU Z
def jb(out occ:List aj)(a:eK):Bool:=(bc a).all fun x=>li (x=a.var)||(!aE out x||aE occ x)
theorem d126(r:ah)(occ:List aj)(a:eK)(hb:a.size<=1000000000000):bV prog 228 [ag a.c,.ptr 1 0,.ptr 2 0] [ct (aC occ),.cells [.iv (da r)],.cells [.mp 0]] (pB (jb (ay r) occ a)) [(0,io (ct (aC occ))),(1,io (.cells [.iv (da r)])),(2,io (.cells [.mp 0]))] 3:=by
 refine aB ab func228 Z (by decide) ntmps228 Z (by simp) ?_;refine gA Z (zq [] (d127 a hb) ?_);refine gA Z ?_;refine jw (aC (bc a)) (fun u=>⟨[(1,.ptr 1 0),(2,.ptr 2 0),(3,.ptr 3 0),(8,.ptr 5 0)],[(0,io (ct (aC occ))),(1,io (.cells [.iv (da r)])),(2,io (.cells [.mp 0])),(3,io (an a.c)),(5,io (.cD .str Ba (aC (bc a)) u jp))],6⟩) (fun u=> ∀j∈u,∀x,(aC (bc a))[j]? =io x->(li (x.1=a.var)||(!aE (ay r) x.1||aE occ x.1))=kw) [] (by simp)
  (zW (zC ⟨⟨_,rfl,.of_eq Z⟩,YY Z,rfl,⟨_,rfl,.of_eq Z⟩,YY Z,rfl,zK (hI Z Z (.inl Z) Z trivial)⟩)) fun u G=>?_
 refine nV Z ac (fV Z Z Z Z Z (by decide) (fun b=>?_) fun j x d A=>?_)
 .refine gA Z (zD [] Z (zM ⟨.of_eq (fP (a:=kw) (Zr.2 fun t I=>all_keys (p:=fun t=>(li (t=a.var)||(!aE (ay r) t||aE occ t))=kw) b G t I).symm),rfl,ac⟩ (zC ⟨⟨_,rfl,.of_eq Z⟩,YY Z,rfl,⟨_,rfl,.of_eq Z⟩,YY Z,rfl,ac⟩)))
 .have more:(li (x.1=a.var)||(!aE (ay r) x.1||aE occ x.1))=kw-> ∀i∈j::u,∀x,(aC (bc a))[i]? =io x->(li (x.1=a.var)||(!aE (ay r) x.1||aE occ x.1))=kw:=fun h i hi y B=>by
   rcases Zj.1 hi with rfl|hi
   .rw[d]at B;cases B;exact h
   .exact G i hi y B
  have D:=cG (occ:=ay r) (s:=x.1);have F:=cG (occ:=occ) (s:=x.1);have J:=bB (ay r) x.1;have S:=bB occ x.1;refine zJ Z Z (fun g1=>?_) fun g1=>?_
  .have g1:li (x.1=a.var)=lc:=by simpa using g1
   refine zJ Z Z (fun g2=>?_) fun g2=>?_
   .have g2:aE (ay r) x.1=kw:=by
     have:=zT g2;rw[D];simp;omega
    refine zJ Z Z (fun g3=>?_) fun g3=>?_
    .have g3:aE occ x.1=lc:=by rw[F,g3];rfl
     refine gA Z (zD [] Z (zM ⟨.of_eq (fP (a:=lc) (aaN.2 ⟨x.1,ur d,by rw[g1,g2,g3];simp⟩).symm),rfl,ac⟩ (zC ⟨⟨_,rfl,.of_eq Z⟩,YY Z,rfl,⟨_,rfl,.of_eq Z⟩,YY Z,rfl,ac⟩)))
    .have g3:aE occ x.1=kw:=by rw[F,g3];rfl
     refine gA Z ⟨j,x,d,A,more (by rw[g3];simp),[],zW (zC ⟨⟨_,rfl,.of_eq Z⟩,YY Z,rfl,⟨_,rfl,.of_eq Z⟩,YY Z,rfl,zK (hI Z Z (.inr Z) Z ac)⟩)⟩
   .have g2:aE (ay r) x.1=lc:=by
     have:=zF g2;rw[D];simp;omega
    refine gA Z ⟨j,x,d,A,more (by rw[g2];simp),[],zW (zC ⟨⟨_,rfl,.of_eq Z⟩,YY Z,rfl,⟨_,rfl,.of_eq Z⟩,YY Z,rfl,zK (hI Z Z (.inr Z) Z ac)⟩)⟩
  .have g1:li (x.1=a.var)=kw:=by simpa using g1
   refine gA Z ⟨j,x,d,A,more (by rw[g1];simp),[],zW (zC ⟨⟨_,rfl,.of_eq Z⟩,YY Z,rfl,⟨_,rfl,.of_eq Z⟩,YY Z,rfl,zK (hI Z Z (.inr Z) Z ac)⟩)⟩
def mB(may:Expr->Bool)(more:eK->Bool)(occ:List aj)(l:Lit):Option aj:=
 if(gl may occ l).2=kw then io (gl may occ l).1 else if l.kind=4∧aE occ l.a7=lc∧more l.agg=kw then io l.a7 else jp
def cN(may:Expr->Bool)(more:eK->Bool)(occ:List aj):List Lit->Option aj
 | []=>jp
 |l::r=>match mB may more occ l with
  |some v=>io v
  |none=>cN may more occ r
def dT(may:List aj->Expr->Bool)(more:List aj->eK->Bool)(body:List Lit):Nat->List aj->List aj
 |0,occ=>occ
 |n+1,occ=>match cN (may occ) (more occ) occ body with
  |some v=>dT may more body n (occ++ [v])
  |none=>occ
def bR(l:Lit):List aj:=if l.kind=1 then cJ l.atom else[]
def cR(may:List aj->Expr->Bool)(more:List aj->eK->Bool)(body:List Lit)(occ:List aj):List aj:=dT may more body (3*body.length+1) (occ++body.flatMap bR)
theorem fZ{may:List aj->Expr->Bool}{more:List aj->eK->Bool}{body:List Lit}{n:Nat}{occ:List aj}{v:aj}(h:cN (may occ) (more occ) occ body=io v):dT may more body (n+1) occ=dT may more body n (occ++ [v]):=by
 simp only[dT,h]
theorem gd{may:List aj->Expr->Bool}{more:List aj->eK->Bool}{body:List Lit}{n:Nat}{occ:List aj}(h:cN (may occ) (more occ) occ body=jp):dT may more body (n+1) occ=occ:=by
 simp only[dT,h]
theorem nW{may:Expr->Bool}{more:eK->Bool}{occ:List aj}: ∀{l m:List Lit},cN may more occ l=jp->cN may more occ (l++m)=cN may more occ m
 | [],_,_=>rfl
 |x::r,m,h=>by
  simp only[cN]at h;split at h
  .cases h
  .rename_i b;simp only[aaC,cN,b];exact nW h
theorem eS{may:Expr->Bool}{more:eK->Bool}{occ:List aj}{l:List Lit}{i:Nat}(h:cN may more occ (l.take i)=jp)(hi:i<l.length)(b:mB may more occ (l.getD i em)=jp):cN may more occ (l.take (i+1))=jp:=by
 rw[bz hi,nW h];simp only[cN,b]
theorem tr{may:Expr->Bool}{more:eK->Bool}{occ:List aj}{l:List Lit}{i:Nat}{v:aj}(h:cN may more occ (l.take i)=jp)(hi:i<l.length)(b:mB may more occ (l.getD i em)=io v):cN may more occ l=io v:=by
 have e:l=l.take i++(l.getD i em::l.drop (i+1)):=by
  rw[YZ,Y3 hi,aaq,List.getElem_cons_drop,abe]
 rw[e,nW h];simp only[cN,b]
theorem x7{may:Expr->Bool}{more:eK->Bool}{occ:List aj}{l:Lit}{v:aj}(h:mB may more occ l=io v):v∈ [l.left.var,l.right.var,l.a7]∧v∉occ:=by
 unfold mB at h;split at h
 .rename_i b;simp only[Y2]at h;subst h;unfold gl at b ⊢;split at b
  .cases b
  .rename_i u;rw[be u];split at b
   .rename_i d;rw[am d];exact⟨by simp,dZ.1 d.2.1⟩
   .rename_i d;rw[be d];split at b
    .rename_i j;rw[am j];exact⟨by simp,dZ.1 j.2.1⟩
    .cases b
 .split at h
  .rename_i d;simp only[Y2]at h;subst h;exact⟨by simp,dZ.1 d.2.1⟩
  .cases h
theorem mQ{may:Expr->Bool}{more:eK->Bool}{occ:List aj}{v:aj}: ∀{l:List Lit},cN may more occ l=io v->v∈bM l∧v∉occ
 | [],h=>by cases h
 |x::r,h=>by
  simp only[cN]at h;split at h
  .rename_i w j;simp only[Y2]at h;subst h;obtain⟨b,d⟩:=x7 j;exact⟨rI Zh b,d⟩
  .obtain⟨b,d⟩:=mQ h;refine⟨?_,d⟩;simp only[bM,ZO,Zf]at b ⊢;exact .inr b
theorem hZ: ∀l:List Lit,(l.flatMap bR).length<=Lit.aA l
 | []=>by simp
 |e::r=>by
  have b:=hZ r;have d:(bR e).length<=e.size:=by
   have:=iD e.atom;have:=e.size_eq;unfold bR;split
   .omega
   .simp
  rw[ZO,Y1];simp only[Lit.aA];omega
theorem WT(occ:List aj)(l:Lit)(hb:l.size<=100000000000):bV prog 172 [ag l.c,.dt (.func 227) [.mp 0] [],.mp 0] [ct (aC occ)] (.bQ [pS (gl (aU occ) occ l).1,pB (gl (aU occ) occ l).2]) [(0,io (ct (aC occ)))] 1:=by
 have y:=l.size_eq;have u:=bB occ l.left.var;have x:=bB occ l.right.var;refine aB ab func172 Z (by decide) ntmps172 Z (by simp) ?_;refine zE Z Z (fun b=>?_) fun b=>?_
 .have b: ¬l.kind=3:=by simpa using b
  refine gA Z (zD [] Z (zM ⟨.of_eq (jP (a:=(Y5,lc)) (by rw[gl,am (.inl b)])),rfl,ac⟩ (zC ac)))
 have b:l.kind=3:=by simpa using b
 refine zJ Z Z (fun d=>?_) fun d=>?_
 .have d: ¬l.op=1:=by simpa using d
  refine gA Z (zD [] Z (zM ⟨.of_eq (jP (a:=(Y5,lc)) (by rw[gl,am (.inr d)])),rfl,ac⟩ (zC ac)))
 have d:l.op=1:=by simpa using d
 have j:gl (aU occ) occ l=if l.left.kind=1∧aE occ l.left.var=lc∧(aU occ) l.right=kw then(l.left.var,kw) else if l.right.kind=1∧aE occ l.right.var=lc∧(aU occ) l.left=kw then(l.right.var,kw) else(Y5,lc):=by
  rw[gl,be (by simp[b,d])]
 repeat' (first
  |(refine gA Z (zI (fun _=>?_) (fun _=>?_)))
  |(refine gA Z (bI [0] (d125 occ l.left (by omega)) Z Z Z Z Z Z Z Z ?_))
  |(refine gA Z (bI [0] (d125 occ l.right (by omega)) Z Z Z Z Z Z Z Z ?_))
  |fail)
 all_goals first
  |(refine gA Z (eU [] (.inr Z) Z (zM ⟨.of_eq (jP (a:=(Y5,lc)) ?_),rfl,ac⟩ (zC ac)));rw[j];simp only[cG] at*;simp_all;done)
  |(refine gA Z (eU [] (.inr Z) Z (zM ⟨.of_eq (jP (a:=(l.left.var,kw)) ?_),rfl,ac⟩ (zC ac)));rw[j];simp only[cG] at*;simp_all;done)
  |(refine gA Z (eU [] (.inr Z) Z (zM ⟨.of_eq (jP (a:=(l.right.var,kw)) ?_),rfl,ac⟩ (zC ac)));rw[j];simp only[cG] at*;simp_all;done)
  |(exfalso;simp_all;done)
theorem XW(occ:List aj)(body:List Lit)(hb:occ.length+8*Lit.aA body<=100000000000):bV prog 126 [.iv (lits body),.mp 0,.dt (.func 227) [.mp 0] [],.dt (.func 229) [] []] [ct (aC occ)] (.bQ []) [(0,io (ct (aC (cR (fun occ=>aU occ) (fun occ=>fun _=>lc) body occ))))] 1:=by
 have f0:=Lit.au body;have k0:=hZ body;have g0:=jO body;have j0:=o5 (bM body) (occ++body.flatMap bR);refine aB ab func126 Z (by decide) ntmps126 Z (by simp) ?_;refine gA Z ?_;refine az 0 body.length (Y8 _) (fun i=>⟨[(0,.iv (lits body)),(1,.mp 0),(2,.dt (.func 227) [.mp 0] []),(3,.dt (.func 229) [] []),(14,.iv (lits body)),(15,pI body.length),(16,pI i)],[(0,io (ct (aC (occ++(body.take i).flatMap bR))))],1⟩) (fun _=>True) [] ac
  (zW (hM Z (by simp) Z trivial)) fun i hi _=>?_
 refine zJ Z Z (fun j=>?_) fun j=>?_
 .have j:=ci j;have G:=bG (f:=bR) j;have hn:=Lit.b3 body i j;have hv:=hZ (body.take i);have n0:=(body.getD i em).size_eq;refine zJ Z Z (fun u=>?_) fun u=>?_
  .have u:(body.getD i em).kind=1:=by simpa using u
   rw[show bR (body.getD i em)=_ from am u]at G;refine gA Z (zq [0] (d88 (occ++(body.take i).flatMap bR) (body.getD i em).atom (by rw[Y1];omega)) ?_);refine gA Z ⟨j,ac,[],zW (hM Z (by rw[G,Zc]) Z ac)⟩
  .have u: ¬(body.getD i em).kind=1:=by simpa using u
   rw[show bR (body.getD i em)=_ from be u,ZE]at G;refine gA Z ⟨j,ac,[],zW (hM Z (by rw[G]) Z ac)⟩
 have j:=co j;have e0:body.take i=body:=Za j;rw[e0];refine gA Z ?_;refine oA (σ:={x:List aj×Nat//cR (fun occ=>aU occ) (fun occ=>fun _=>lc) body occ=dT (fun occ=>aU occ) (fun occ=>fun _=>lc) body (x.2+1) x.1∧bO (bM body) x.1<=x.2∧x.1.length+bO (bM body) x.1<=(occ++body.flatMap bR).length+bO (bM body) (occ++body.flatMap bR)})
  (fun x=>⟨[(0,.iv (lits body)),(1,.mp 0),(2,.dt (.func 227) [.mp 0] []),(3,.dt (.func 229) [] [])],[(0,io (ct (aC x.1.1)))],1⟩) (fun x=>bO (bM body) x.1.1)
  ⟨(occ++body.flatMap bR,3*body.length),rfl,by dsimp only;omega,Y7 _⟩ [] (zW (zC trivial)) ?_
 rintro⟨⟨ok,f⟩,hx1,hx2,hx3⟩;dsimp only at hx1 hx2 hx3 ⊢;rw[Y1]at hx3;refine gA Z ?_;refine az 0 body.length (Y8 _) (fun i=>⟨[(0,.iv (lits body)),(1,.mp 0),(2,.dt (.func 227) [.mp 0] []),(3,.dt (.func 229) [] []),(28,.iv (lits body)),(29,pI body.length),(30,pI i)],[(0,io (ct (aC ok)))],1⟩) (fun i=>cN ((fun occ=>aU occ) ok) ((fun occ=>fun _=>lc) ok) ok (body.take i)=jp) [] Z
  (zW (zC trivial)) fun i hi D=>?_
 refine zJ Z Z (fun b=>?_) fun b=>?_
 .have b:=ci b;have m0:=Lit.aI body i b;have d0:=(body.getD i em).fy;have d: ∀v,mB ((fun occ=>aU occ) ok) ((fun occ=>fun _=>lc) ok) ok (body.getD i em)=io v->cR (fun occ=>aU occ) (fun occ=>fun _=>lc) body occ=dT (fun occ=>aU occ) (fun occ=>fun _=>lc) body (f-1+1) (ok++ [v])∧bO (bM body) (ok++ [v])<=f-1∧
    (ok++ [v]).length+bO (bM body) (ok++ [v])<=(occ++body.flatMap bR).length+bO (bM body) (occ++body.flatMap bR)∧bO (bM body) (ok++ [v])<bO (bM body) ok:=by
   intro v hv;have hf:=tr D b hv;obtain⟨g1,g2⟩:=mQ hf;have i0:=oZ g1 g2;have c0:bO (bM body) (ok++ [v])=bO (bM body) (b6 ok v):=by
    unfold bO;congr 2
    funext x
    congr 1;rw[ZN,aM,aM,cq,Zf,Zd]
   have J:f-1+1=f:=by omega
   refine⟨?_,by omega,?_,by omega⟩
   .rw[hx1,fZ hf,J]
   .rw[Y1,Y1,ZB];omega
  have a0:=bB ok (gl (aU ok) ok (body.getD i em)).1;have S:=eW ok (gl (aU ok) ok (body.getD i em)).1;have b0:=bB ok (body.getD i em).a7;have Y:=eW ok (body.getD i em).a7;refine gA Z (zq [0] (WT ok (body.getD i em) (by omega)) ?_);refine zJ Z Z (fun B=>?_) fun B=>?_
  .obtain⟨g1,g2,g3,g4⟩:=d _ (am B);refine gA Z ⟨⟨(_,f-1),g1,g2,g3⟩,[],g4,zW (hM Z (by dsimp only;rw[cS];rfl) Z ac)⟩
  .refine zJ Z Z (fun y=>?_) fun y=>?_
   .have y:(body.getD i em).kind=4:=by simpa using y
    refine zJ Z Z (fun A=>?_) fun A=>?_
    .have A:aE ok (body.getD i em).a7=lc:=by rw[cG];simpa using A
     refine gA Z (zp (Yp (body.getD i em).agg) ?_);refine zJ Z Z (fun I=>?_) fun I=>?_
     .obtain⟨g1,g2,g3,g4⟩:=d _ ((be (by rw[B];simp)).trans (am ⟨y,A,I⟩));refine gA Z ⟨⟨(_,f-1),g1,g2,g3⟩,[],g4,zW (hM Z (by dsimp only;rw[cS];rfl) Z ac)⟩
     .refine gA Z ?_;exact⟨b,eS D b ((be (by rw[B];simp)).trans (be (fun h=>nomatch (h.2.2.symm.trans I)))),[],zW (zC ac)⟩
    .have A:aE ok (body.getD i em).a7=kw:=by rw[cG];simpa using A
     refine gA Z ⟨b,eS D b ((be (by rw[B];simp)).trans (be (by rw[A];simp))),[],zW (zC ac)⟩
   .have y: ¬(body.getD i em).kind=4:=by simpa using y
    refine gA Z ⟨b,eS D b ((be (by rw[B];simp)).trans (be (fun h=>y h.1))),[],zW (zC ac)⟩
 .have b:=co b;rw[Za b]at D;have F:cR (fun occ=>aU occ) (fun occ=>fun _=>lc) body occ=ok:=by rw[hx1,gd D]
  refine gA Z (zD [] Z (zW (hM Z (by rw[F]) Z ac)))
theorem WR(occ:List aj)(l:Lit)(hb:l.size<=100000000000):bV prog 172 [ag l.c,.dt (.func 127) [] [.ptr 1 0],.mp 0] [ct (aC occ),.cells [.mp 0]] (.bQ [pS (gl (c8 occ) occ l).1,pB (gl (c8 occ) occ l).2]) [(0,io (ct (aC occ))),(1,io (.cells [.mp 0]))] 2:=by
 have y:=l.size_eq;have u:=bB occ l.left.var;have x:=bB occ l.right.var;refine aB ab func172 Z (by decide) ntmps172 Z (by simp) ?_;refine zE Z Z (fun b=>?_) fun b=>?_
 .have b: ¬l.kind=3:=by simpa using b
  refine gA Z (zD [] Z (zM ⟨.of_eq (jP (a:=(Y5,lc)) (by rw[gl,am (.inl b)])),rfl,ac⟩ (zC (zO ac))))
 have b:l.kind=3:=by simpa using b
 refine zJ Z Z (fun d=>?_) fun d=>?_
 .have d: ¬l.op=1:=by simpa using d
  refine gA Z (zD [] Z (zM ⟨.of_eq (jP (a:=(Y5,lc)) (by rw[gl,am (.inr d)])),rfl,ac⟩ (zC (zO ac))))
 have d:l.op=1:=by simpa using d
 have j:gl (c8 occ) occ l=if l.left.kind=1∧aE occ l.left.var=lc∧(c8 occ) l.right=kw then(l.left.var,kw) else if l.right.kind=1∧aE occ l.right.var=lc∧(c8 occ) l.left=kw then(l.right.var,kw) else(Y5,lc):=by
  rw[gl,be (by simp[b,d])]
 repeat' (first
  |(refine gA Z (zI (fun _=>?_) (fun _=>?_)))
  |(refine gA Z (bI [0,1] (d76 occ l.left (by omega)) Z Z Z Z Z Z Z Z ?_))
  |(refine gA Z (bI [0,1] (d76 occ l.right (by omega)) Z Z Z Z Z Z Z Z ?_))
  |fail)
 all_goals first
  |(refine gA Z (eU [] (.inr Z) Z (zM ⟨.of_eq (jP (a:=(Y5,lc)) ?_),rfl,ac⟩ (zC (zO ac))));rw[j];simp only[cG] at*;simp_all;done)
  |(refine gA Z (eU [] (.inr Z) Z (zM ⟨.of_eq (jP (a:=(l.left.var,kw)) ?_),rfl,ac⟩ (zC (zO ac))));rw[j];simp only[cG] at*;simp_all;done)
  |(refine gA Z (eU [] (.inr Z) Z (zM ⟨.of_eq (jP (a:=(l.right.var,kw)) ?_),rfl,ac⟩ (zC (zO ac))));rw[j];simp only[cG] at*;simp_all;done)
  |(exfalso;simp_all;done)
theorem XV(occ:List aj)(body:List Lit)(hb:occ.length+8*Lit.aA body<=100000000000):bV prog 126 [.iv (lits body),.mp 0,.dt (.func 127) [] [.ptr 1 0],.dt (.func 128) [] []] [ct (aC occ),.cells [.mp 0]] (.bQ []) [(0,io (ct (aC (cR (fun occ=>c8 occ) (fun occ=>fun _=>lc) body occ)))),(1,io (.cells [.mp 0]))] 2:=by
 have f0:=Lit.au body;have k0:=hZ body;have g0:=jO body;have j0:=o5 (bM body) (occ++body.flatMap bR);refine aB ab func126 Z (by decide) ntmps126 Z (by simp) ?_;refine gA Z ?_;refine az 0 body.length (Y8 _) (fun i=>⟨[(0,.iv (lits body)),(1,.mp 0),(2,.dt (.func 127) [] [.ptr 1 0]),(3,.dt (.func 128) [] []),(14,.iv (lits body)),(15,pI body.length),(16,pI i)],[(0,io (ct (aC (occ++(body.take i).flatMap bR)))),(1,io (.cells [.mp 0]))],2⟩) (fun _=>True) [] ac
  (zW (hM Z (by simp) Z (zO trivial))) fun i hi _=>?_
 refine zJ Z Z (fun j=>?_) fun j=>?_
 .have j:=ci j;have G:=bG (f:=bR) j;have hn:=Lit.b3 body i j;have hv:=hZ (body.take i);have n0:=(body.getD i em).size_eq;refine zJ Z Z (fun u=>?_) fun u=>?_
  .have u:(body.getD i em).kind=1:=by simpa using u
   rw[show bR (body.getD i em)=_ from am u]at G;refine gA Z (zq [0] (d88 (occ++(body.take i).flatMap bR) (body.getD i em).atom (by rw[Y1];omega)) ?_);refine gA Z ⟨j,ac,[],zW (hM Z (by rw[G,Zc]) Z (zO ac))⟩
  .have u: ¬(body.getD i em).kind=1:=by simpa using u
   rw[show bR (body.getD i em)=_ from be u,ZE]at G;refine gA Z ⟨j,ac,[],zW (hM Z (by rw[G]) Z (zO ac))⟩
 have j:=co j;have e0:body.take i=body:=Za j;rw[e0];refine gA Z ?_;refine oA (σ:={x:List aj×Nat//cR (fun occ=>c8 occ) (fun occ=>fun _=>lc) body occ=dT (fun occ=>c8 occ) (fun occ=>fun _=>lc) body (x.2+1) x.1∧bO (bM body) x.1<=x.2∧x.1.length+bO (bM body) x.1<=(occ++body.flatMap bR).length+bO (bM body) (occ++body.flatMap bR)})
  (fun x=>⟨[(0,.iv (lits body)),(1,.mp 0),(2,.dt (.func 127) [] [.ptr 1 0]),(3,.dt (.func 128) [] [])],[(0,io (ct (aC x.1.1))),(1,io (.cells [.mp 0]))],2⟩) (fun x=>bO (bM body) x.1.1)
  ⟨(occ++body.flatMap bR,3*body.length),rfl,by dsimp only;omega,Y7 _⟩ [] (zW (zC (zO trivial))) ?_
 rintro⟨⟨ok,f⟩,hx1,hx2,hx3⟩;dsimp only at hx1 hx2 hx3 ⊢;rw[Y1]at hx3;refine gA Z ?_;refine az 0 body.length (Y8 _) (fun i=>⟨[(0,.iv (lits body)),(1,.mp 0),(2,.dt (.func 127) [] [.ptr 1 0]),(3,.dt (.func 128) [] []),(28,.iv (lits body)),(29,pI body.length),(30,pI i)],[(0,io (ct (aC ok))),(1,io (.cells [.mp 0]))],2⟩) (fun i=>cN ((fun occ=>c8 occ) ok) ((fun occ=>fun _=>lc) ok) ok (body.take i)=jp) [] Z
  (zW (zC (zO trivial))) fun i hi D=>?_
 refine zJ Z Z (fun b=>?_) fun b=>?_
 .have b:=ci b;have m0:=Lit.aI body i b;have d0:=(body.getD i em).fy;have d: ∀v,mB ((fun occ=>c8 occ) ok) ((fun occ=>fun _=>lc) ok) ok (body.getD i em)=io v->cR (fun occ=>c8 occ) (fun occ=>fun _=>lc) body occ=dT (fun occ=>c8 occ) (fun occ=>fun _=>lc) body (f-1+1) (ok++ [v])∧bO (bM body) (ok++ [v])<=f-1∧
    (ok++ [v]).length+bO (bM body) (ok++ [v])<=(occ++body.flatMap bR).length+bO (bM body) (occ++body.flatMap bR)∧bO (bM body) (ok++ [v])<bO (bM body) ok:=by
   intro v hv;have hf:=tr D b hv;obtain⟨g1,g2⟩:=mQ hf;have i0:=oZ g1 g2;have c0:bO (bM body) (ok++ [v])=bO (bM body) (b6 ok v):=by
    unfold bO;congr 2
    funext x
    congr 1;rw[ZN,aM,aM,cq,Zf,Zd]
   have J:f-1+1=f:=by omega
   refine⟨?_,by omega,?_,by omega⟩
   .rw[hx1,fZ hf,J]
   .rw[Y1,Y1,ZB];omega
  have a0:=bB ok (gl (c8 ok) ok (body.getD i em)).1;have S:=eW ok (gl (c8 ok) ok (body.getD i em)).1;have b0:=bB ok (body.getD i em).a7;have Y:=eW ok (body.getD i em).a7;refine gA Z (zq [0,1] (WR ok (body.getD i em) (by omega)) ?_);refine zJ Z Z (fun B=>?_) fun B=>?_
  .obtain⟨g1,g2,g3,g4⟩:=d _ (am B);refine gA Z ⟨⟨(_,f-1),g1,g2,g3⟩,[],g4,zW (hM Z (by dsimp only;rw[cS];rfl) Z (zO ac))⟩
  .refine zJ Z Z (fun y=>?_) fun y=>?_
   .have y:(body.getD i em).kind=4:=by simpa using y
    refine zJ Z Z (fun A=>?_) fun A=>?_
    .have A:aE ok (body.getD i em).a7=lc:=by rw[cG];simpa using A
     refine gA Z (zp (c77 (body.getD i em).agg) ?_);refine zJ Z Z (fun I=>?_) fun I=>?_
     .obtain⟨g1,g2,g3,g4⟩:=d _ ((be (by rw[B];simp)).trans (am ⟨y,A,I⟩));refine gA Z ⟨⟨(_,f-1),g1,g2,g3⟩,[],g4,zW (hM Z (by dsimp only;rw[cS];rfl) Z (zO ac))⟩
     .refine gA Z ?_;exact⟨b,eS D b ((be (by rw[B];simp)).trans (be (fun h=>nomatch (h.2.2.symm.trans I)))),[],zW (zC (zO ac))⟩
    .have A:aE ok (body.getD i em).a7=kw:=by rw[cG];simpa using A
     refine gA Z ⟨b,eS D b ((be (by rw[B];simp)).trans (be (by rw[A];simp))),[],zW (zC (zO ac))⟩
   .have y: ¬(body.getD i em).kind=4:=by simpa using y
    refine gA Z ⟨b,eS D b ((be (by rw[B];simp)).trans (be (fun h=>y h.1))),[],zW (zC (zO ac))⟩
 .have b:=co b;rw[Za b]at D;have F:cR (fun occ=>c8 occ) (fun occ=>fun _=>lc) body occ=ok:=by rw[hx1,gd D]
  refine gA Z (zD [] Z (zW (hM Z (by rw[F]) Z (zO ac))))
theorem WQ(r:ah)(occ:List aj)(l:Lit)(hb:l.size<=100000000000):bV prog 172 [ag l.c,.dt (.func 227) [.mp 0] [],.mp 0] [ct (aC occ),.cells [.iv (da r)],.cells [.mp 0]] (.bQ [pS (gl (aU occ) occ l).1,pB (gl (aU occ) occ l).2]) [(0,io (ct (aC occ))),(1,io (.cells [.iv (da r)])),(2,io (.cells [.mp 0]))] 3:=by
 have y:=l.size_eq;have u:=bB occ l.left.var;have x:=bB occ l.right.var;refine aB ab func172 Z (by decide) ntmps172 Z (by simp) ?_;refine zE Z Z (fun b=>?_) fun b=>?_
 .have b: ¬l.kind=3:=by simpa using b
  refine gA Z (zD [] Z (zM ⟨.of_eq (jP (a:=(Y5,lc)) (by rw[gl,am (.inl b)])),rfl,ac⟩ (zC ⟨⟨_,rfl,.of_eq Z⟩,YY Z,rfl,⟨_,rfl,.of_eq Z⟩,YY Z,rfl,ac⟩)))
 have b:l.kind=3:=by simpa using b
 refine zJ Z Z (fun d=>?_) fun d=>?_
 .have d: ¬l.op=1:=by simpa using d
  refine gA Z (zD [] Z (zM ⟨.of_eq (jP (a:=(Y5,lc)) (by rw[gl,am (.inr d)])),rfl,ac⟩ (zC ⟨⟨_,rfl,.of_eq Z⟩,YY Z,rfl,⟨_,rfl,.of_eq Z⟩,YY Z,rfl,ac⟩)))
 have d:l.op=1:=by simpa using d
 have j:gl (aU occ) occ l=if l.left.kind=1∧aE occ l.left.var=lc∧(aU occ) l.right=kw then(l.left.var,kw) else if l.right.kind=1∧aE occ l.right.var=lc∧(aU occ) l.left=kw then(l.right.var,kw) else(Y5,lc):=by
  rw[gl,be (by simp[b,d])]
 repeat' (first
  |(refine gA Z (zI (fun _=>?_) (fun _=>?_)))
  |(refine gA Z (bI [0] (d125 occ l.left (by omega)) Z Z Z Z Z Z Z Z ?_))
  |(refine gA Z (bI [0] (d125 occ l.right (by omega)) Z Z Z Z Z Z Z Z ?_))
  |fail)
 all_goals first
  |(refine gA Z (eU [] (.inr Z) Z (zM ⟨.of_eq (jP (a:=(Y5,lc)) ?_),rfl,ac⟩ (zC ⟨⟨_,rfl,.of_eq Z⟩,YY Z,rfl,⟨_,rfl,.of_eq Z⟩,YY Z,rfl,ac⟩)));rw[j];simp only[cG] at*;simp_all;done)
  |(refine gA Z (eU [] (.inr Z) Z (zM ⟨.of_eq (jP (a:=(l.left.var,kw)) ?_),rfl,ac⟩ (zC ⟨⟨_,rfl,.of_eq Z⟩,YY Z,rfl,⟨_,rfl,.of_eq Z⟩,YY Z,rfl,ac⟩)));rw[j];simp only[cG] at*;simp_all;done)
  |(refine gA Z (eU [] (.inr Z) Z (zM ⟨.of_eq (jP (a:=(l.right.var,kw)) ?_),rfl,ac⟩ (zC ⟨⟨_,rfl,.of_eq Z⟩,YY Z,rfl,⟨_,rfl,.of_eq Z⟩,YY Z,rfl,ac⟩)));rw[j];simp only[cG] at*;simp_all;done)
  |(exfalso;simp_all;done)
theorem XU(r:ah)(occ:List aj)(body:List Lit)(hb:occ.length+8*Lit.aA body<=100000000000):bV prog 126 [.iv (lits body),.mp 0,.dt (.func 227) [.mp 0] [],.dt (.func 228) [] [.ptr 1 0,.ptr 2 0]] [ct (aC occ),.cells [.iv (da r)],.cells [.mp 0]] (.bQ []) [(0,io (ct (aC (cR (fun occ=>aU occ) (fun occ=>jb (ay r) occ) body occ)))),(1,io (.cells [.iv (da r)])),(2,io (.cells [.mp 0]))] 3:=by
 have f0:=Lit.au body;have k0:=hZ body;have g0:=jO body;have j0:=o5 (bM body) (occ++body.flatMap bR);refine aB ab func126 Z (by decide) ntmps126 Z (by simp) ?_;refine gA Z ?_;refine az 0 body.length (Y8 _) (fun i=>⟨[(0,.iv (lits body)),(1,.mp 0),(2,.dt (.func 227) [.mp 0] []),(3,.dt (.func 228) [] [.ptr 1 0,.ptr 2 0]),(14,.iv (lits body)),(15,pI body.length),(16,pI i)],[(0,io (ct (aC (occ++(body.take i).flatMap bR)))),(1,io (.cells [.iv (da r)])),(2,io (.cells [.mp 0]))],3⟩) (fun _=>True) [] ac
  (zW (hM Z (by simp) Z ⟨⟨_,rfl,.of_eq Z⟩,YY Z,rfl,⟨_,rfl,.of_eq Z⟩,YY Z,rfl,ac⟩)) fun i hi _=>?_
 refine zJ Z Z (fun j=>?_) fun j=>?_
 .have j:=ci j;have G:=bG (f:=bR) j;have hn:=Lit.b3 body i j;have hv:=hZ (body.take i);have n0:=(body.getD i em).size_eq;refine zJ Z Z (fun u=>?_) fun u=>?_
  .have u:(body.getD i em).kind=1:=by simpa using u
   rw[show bR (body.getD i em)=_ from am u]at G;refine gA Z (zq [0] (d88 (occ++(body.take i).flatMap bR) (body.getD i em).atom (by rw[Y1];omega)) ?_);refine gA Z ⟨j,ac,[],zW (hM Z (by rw[G,Zc]) Z ⟨⟨_,rfl,.of_eq Z⟩,YY Z,rfl,⟨_,rfl,.of_eq Z⟩,YY Z,rfl,ac⟩)⟩
  .have u: ¬(body.getD i em).kind=1:=by simpa using u
   rw[show bR (body.getD i em)=_ from be u,ZE]at G;refine gA Z ⟨j,ac,[],zW (hM Z (by rw[G]) Z ⟨⟨_,rfl,.of_eq Z⟩,YY Z,rfl,⟨_,rfl,.of_eq Z⟩,YY Z,rfl,ac⟩)⟩
 have j:=co j;have e0:body.take i=body:=Za j;rw[e0];refine gA Z ?_;refine oA (σ:={x:List aj×Nat//cR (fun occ=>aU occ) (fun occ=>jb (ay r) occ) body occ=dT (fun occ=>aU occ) (fun occ=>jb (ay r) occ) body (x.2+1) x.1∧bO (bM body) x.1<=x.2∧x.1.length+bO (bM body) x.1<=(occ++body.flatMap bR).length+bO (bM body) (occ++body.flatMap bR)})
  (fun x=>⟨[(0,.iv (lits body)),(1,.mp 0),(2,.dt (.func 227) [.mp 0] []),(3,.dt (.func 228) [] [.ptr 1 0,.ptr 2 0])],[(0,io (ct (aC x.1.1))),(1,io (.cells [.iv (da r)])),(2,io (.cells [.mp 0]))],3⟩) (fun x=>bO (bM body) x.1.1)
  ⟨(occ++body.flatMap bR,3*body.length),rfl,by dsimp only;omega,Y7 _⟩ [] (zW (zC ⟨⟨_,rfl,.of_eq Z⟩,YY Z,rfl,⟨_,rfl,.of_eq Z⟩,YY Z,rfl,ac⟩)) ?_
 rintro⟨⟨ok,f⟩,hx1,hx2,hx3⟩;dsimp only at hx1 hx2 hx3 ⊢;rw[Y1]at hx3;refine gA Z ?_;refine az 0 body.length (Y8 _) (fun i=>⟨[(0,.iv (lits body)),(1,.mp 0),(2,.dt (.func 227) [.mp 0] []),(3,.dt (.func 228) [] [.ptr 1 0,.ptr 2 0]),(28,.iv (lits body)),(29,pI body.length),(30,pI i)],[(0,io (ct (aC ok))),(1,io (.cells [.iv (da r)])),(2,io (.cells [.mp 0]))],3⟩) (fun i=>cN ((fun occ=>aU occ) ok) ((fun occ=>jb (ay r) occ) ok) ok (body.take i)=jp) [] Z
  (zW (zC ⟨⟨_,rfl,.of_eq Z⟩,YY Z,rfl,⟨_,rfl,.of_eq Z⟩,YY Z,rfl,ac⟩)) fun i hi D=>?_
 refine zJ Z Z (fun b=>?_) fun b=>?_
 .have b:=ci b;have m0:=Lit.aI body i b;have d0:=(body.getD i em).fy;have d: ∀v,mB ((fun occ=>aU occ) ok) ((fun occ=>jb (ay r) occ) ok) ok (body.getD i em)=io v->cR (fun occ=>aU occ) (fun occ=>jb (ay r) occ) body occ=dT (fun occ=>aU occ) (fun occ=>jb (ay r) occ) body (f-1+1) (ok++ [v])∧bO (bM body) (ok++ [v])<=f-1∧
    (ok++ [v]).length+bO (bM body) (ok++ [v])<=(occ++body.flatMap bR).length+bO (bM body) (occ++body.flatMap bR)∧bO (bM body) (ok++ [v])<bO (bM body) ok:=by
   intro v hv;have hf:=tr D b hv;obtain⟨g1,g2⟩:=mQ hf;have i0:=oZ g1 g2;have c0:bO (bM body) (ok++ [v])=bO (bM body) (b6 ok v):=by
    unfold bO;congr 2
    funext x
    congr 1;rw[ZN,aM,aM,cq,Zf,Zd]
   have J:f-1+1=f:=by omega
   refine⟨?_,by omega,?_,by omega⟩
   .rw[hx1,fZ hf,J]
   .rw[Y1,Y1,ZB];omega
  have a0:=bB ok (gl (aU ok) ok (body.getD i em)).1;have S:=eW ok (gl (aU ok) ok (body.getD i em)).1;have b0:=bB ok (body.getD i em).a7;have Y:=eW ok (body.getD i em).a7;refine gA Z (zq [0,1,2] (WQ r ok (body.getD i em) (by omega)) ?_);refine zJ Z Z (fun B=>?_) fun B=>?_
  .obtain⟨g1,g2,g3,g4⟩:=d _ (am B);refine gA Z ⟨⟨(_,f-1),g1,g2,g3⟩,[],g4,zW (hM Z (by dsimp only;rw[cS];rfl) Z ⟨⟨_,rfl,.of_eq Z⟩,YY Z,rfl,⟨_,rfl,.of_eq Z⟩,YY Z,rfl,ac⟩)⟩
  .refine zJ Z Z (fun y=>?_) fun y=>?_
   .have y:(body.getD i em).kind=4:=by simpa using y
    refine zJ Z Z (fun A=>?_) fun A=>?_
    .have A:aE ok (body.getD i em).a7=lc:=by rw[cG];simpa using A
     refine gA Z (zq [0,1,2] (d126 r ok (body.getD i em).agg (by omega)) ?_);refine zJ Z Z (fun I=>?_) fun I=>?_
     .obtain⟨g1,g2,g3,g4⟩:=d _ ((be (by rw[B];simp)).trans (am ⟨y,A,I⟩));refine gA Z ⟨⟨(_,f-1),g1,g2,g3⟩,[],g4,zW (hM Z (by dsimp only;rw[cS];rfl) Z ⟨⟨_,rfl,.of_eq Z⟩,YY Z,rfl,⟨_,rfl,.of_eq Z⟩,YY Z,rfl,ac⟩)⟩
     .refine gA Z ?_;exact⟨b,eS D b ((be (by rw[B];simp)).trans (be (fun h=>nomatch (h.2.2.symm.trans I)))),[],zW (zC ⟨⟨_,rfl,.of_eq Z⟩,YY Z,rfl,⟨_,rfl,.of_eq Z⟩,YY Z,rfl,ac⟩)⟩
    .have A:aE ok (body.getD i em).a7=kw:=by rw[cG];simpa using A
     refine gA Z ⟨b,eS D b ((be (by rw[B];simp)).trans (be (by rw[A];simp))),[],zW (zC ⟨⟨_,rfl,.of_eq Z⟩,YY Z,rfl,⟨_,rfl,.of_eq Z⟩,YY Z,rfl,ac⟩)⟩
   .have y: ¬(body.getD i em).kind=4:=by simpa using y
    refine gA Z ⟨b,eS D b ((be (by rw[B];simp)).trans (be (fun h=>y h.1))),[],zW (zC ⟨⟨_,rfl,.of_eq Z⟩,YY Z,rfl,⟨_,rfl,.of_eq Z⟩,YY Z,rfl,ac⟩)⟩
 .have b:=co b;rw[Za b]at D;have F:cR (fun occ=>aU occ) (fun occ=>jb (ay r) occ) body occ=ok:=by rw[hx1,gd D]
  refine gA Z (zD [] Z (zW (hM Z (by rw[F]) Z ⟨⟨_,rfl,.of_eq Z⟩,YY Z,rfl,⟨_,rfl,.of_eq Z⟩,YY Z,rfl,ac⟩)))
theorem w5:gi .gK (ct (aC [])):=⟨id,fun M N U w j b=>⟨#[],0,b,⟨rfl,by simp[aC],by simp[aC],by simp,by simp⟩,ir M⟩⟩
def ch(r:ah):List aj:=cR (fun b=>aU b) (fun b=>jb (ay r) b) r.body []
theorem WM(r:ah)(hb:8*Lit.aA r.body<=100000000000):bV prog 126 [.iv (lits r.body),.mp 0,.dt (.func 227) [.mp 0] [],.dt (.func 228) [] [.ptr 1 0,.ptr 2 0]] [.gK,.cells [.iv (da r)],.cells [.mp 0]] (.bQ []) [(0,io (ct (aC (ch r)))),(1,io (.cells [.iv (da r)])),(2,io (.cells [.mp 0]))] 3:=
 bV.SR (XU r [] r.body (by simp;omega)) ⟨w5,.refl _,.refl _,ac⟩
theorem d73(r:ah)(hb:8*r.size<=100000000000):bV prog 202 [.iv (da r)] [] (.mp 0) [(0,io (ct (aC (ch r))))] 1:=by
 unfold ah.size at hb;refine aB ab func202 Z (by decide) ntmps202 Z (by simp) ?_;refine gA Z (zd [1,0,2] (WM r (by omega)) ?_);refine gA Z (zD [1] Z (zW (zC ac)))
def Vi(p:List aj->Prop)(q:PV)(h:AH)(n:Nat):Prop:= ∃ok,p ok∧q= .mp 0∧h=[(0,io (ct (aC ok)))]∧n=1
def LO(r:ah)(a:eK)(occ:List aj):Prop:=occ.Nodup∧ ∀x,x∈occ↔x∈bc a∧x∈ay r
theorem Ay{l m:List aj}(h:l.Nodup)(hs: ∀x∈l,x∈m):l.length<=m.length:=aaH h hs
theorem mY(a:eK):(bc a).length<=a.size:=by
 have b:=nA a.body;have d:=jN a.dY;unfold bc eK.size;rw[Y1];split
 .rw[aad];omega
 .omega
theorem S5(a:eK)(hb:a.size<=100000000000):bV prog 196 [ag a.c1] [] (.mp 0) [(0,io (ct (aC (bc a))))] 1:=bV.le (d127 a (by omega)) ⟨a.LB,ac⟩
theorem d161(r:ah)(a:eK)(hb:16*a.size<=100000000000):Al.Fn prog 203 [.iv (da r),ag a.c] [] (Vi fun ok=> ∃occ,LO r a occ∧ok=cR (fun occ=>aU occ) (fun _=>fun _=>lc) a.body occ):=by
 have e0:=mY a;have f0:Lit.aA a.body<=a.size:=by unfold eK.size;omega
 refine Al.Fn.le (args:=[.iv (da r),ag a.c1]) ?_ ⟨.refl _,a.zr,ac⟩;refine yy ab func203 Z (by decide) ntmps203 Z (by simp) ?_;refine gA Z (zq [] (S5 a (by omega)) ?_);refine gA Z ?_
 let b:List Nat->List aj:=fun d=>(d.reverse.filterMap fun j=>((aC (bc a))[j]?).bind fun x=>if aE (ay r) x.1 then io x.1 else jp)
 refine jw (aC (bc a)) (fun d=>⟨[(0,.iv (da r)),(3,.ptr 0 0),(5,.mp 1),(10,.ptr 3 0)],[(0,io (an a.c1)),(1,io (ct (aC (b d)))),(3,io (.cD .str Ba (aC (bc a)) d jp))],4⟩)
  (fun d=>(b d).Nodup∧ ∀x,x∈b d↔x∈ay r∧ ∃j∈d,∃y,(aC (bc a))[j]? =io y∧y.1=x) [] ⟨Z3,by simp[b]⟩
  (zW (zK (Ji Z ir Z (hI Z Z (.inl Z) Z trivial)))) fun d hJ=>?_
 obtain⟨B,D⟩:=hJ;have g0:(b d).length<=(bc a).length:=Ay B fun x F=>by
  obtain⟨_,j,_,y,h2,rfl⟩:=(D x).1 F;exact ur h2
 refine nV Z ac (fV Z Z Z Z Z (by decide) (fun Y=>?_) fun j x F S=>?_)
 .have b0:LO r a (b d):=⟨B,fun x=>by
   rw[D];constructor
   .rintro⟨h1,j,h2,y,A,rfl⟩;exact⟨ur A,h1⟩
   .rintro⟨h1,h2⟩;refine⟨h2,?_⟩;obtain⟨y,hy,rfl⟩:=ZD.1 (((ck (bc a)).2 x).2 h1);obtain⟨j,S⟩:=ZY hy
    exact⟨j,Y j (Y4.1 S).1,y,S,rfl⟩⟩
  refine gA Z (zq [1] (XW (b d) a.body (by omega)) ?_);refine nV Z ac (HR [1] (.inr Z) Z ⟨_,⟨b d,b0,rfl⟩,rfl,rfl,rfl⟩ (zW (zC ac)))
 .have h5:=cG (occ:=ay r) (s:=x.1);have h7:=bB (ay r) x.1;have h8:=bB (b d) x.1;have h9:=eW (b d) x.1;have G:x.1∉b d:=fun h=>by
   obtain⟨_,i,hi,y,h2,A⟩:=(D x.1).1 h;have d0:=(ck (bc a)).1;have:i=j:=by
    have I:=(Y4.1 h2)
    have J:=(Y4.1 F)
    obtain⟨I,a0⟩:=I;obtain⟨J,c0⟩:=J;refine(abz (i:=i) (j:=j) (h₀:=by rw[Zx];exact I) (h₁:=by rw[Zx];exact J) d0).1 ?_;rw[abO,abO,a0,c0,A]
   exact S (this▸hi)
  have u:b (j::d)=b d++if aE (ay r) x.1 then[x.1] else[]:=by
   simp only[b,List.reverse_cons,ab5,ab9,List.filterMap_nil,F,abY];congr 1;cases aE (ay r) x.1<;>rfl
  have step:(b (j::d)).Nodup∧ ∀z,z∈b (j::d)↔z∈ay r∧ ∃i∈j::d,∃y,(aC (bc a))[i]? =io y∧y.1=z:=by
   rw[u];constructor
   .split
    .rw[aaY];refine⟨B,aam.2 ⟨aby,Z3⟩,fun p hp q hq e=>?_⟩;rw[Zd]at hq;exact G ((e.trans hq)▸hp)
    .rw[ZE];exact B
   .intro z;rw[Zf,D];constructor
    .rintro(⟨h1,i,h2,A⟩|h1)
     .exact⟨h1,i,Zg _ h2,A⟩
     .split at h1
      .rename_i h2;rw[Zd]at h1;exact⟨h1▸aM.1 h2,j,Zh,x,F,h1.symm⟩
      .cases h1
    .rintro⟨h1,i,h2,y,A,h4⟩;rcases Zj.1 h2 with rfl|h2
     .rw[F]at A;cases A;exact .inr (by rw[am (aM.2 (h4▸h1))];simp[h4])
     .exact .inl ⟨h1,i,h2,y,A,h4⟩
  refine zJ Z Z (fun g1=>?_) fun g1=>?_
  .have g1:aE (ay r) x.1=kw:=by
    have:=zT g1;rw[h5];simp;omega
   rw[g1,am Z]at u;refine gA Z ⟨j,x,F,S,step,[],zW (zK (hM Z (by rw[u,cS];rfl) Z (hI Z Z (.inr Z) Z ac)))⟩
  .have g1:aE (ay r) x.1=lc:=by
    have:=zF g1;rw[h5];simp;omega
   rw[g1,be (by simp),ZE]at u;refine gA Z ⟨j,x,F,S,step,[],zW (zK (hM Z (by rw[u]) Z (hI Z Z (.inr Z) Z ac)))⟩
end Go.Proofs.YtflegjieadkonaaGreatDoor
namespace Go.Proofs.YtflegjieadkonaaGreatDoor
open Go Go.Al
def pM(s:aj):List UInt8:=s.data.toList
def Uv(l:List UInt8):aj:=⟨l.toArray⟩
theorem wX(s:aj):Uv (pM s)=s:=by simp[pM,Uv]
theorem O1(l:List UInt8):pM (Uv l)=l:=by simp[pM,Uv]
def eH(l:List (List UInt8)):List (List UInt8):=l.mergeSort fun x y=>li (x<=y)
def eM(l:List aj):List aj:=(eH (l.map pM)).map Uv
def kq:Prop:=
 (∀(b b0 a0:Nat) (d:List (List UInt8)) (w:World),Go.Sort.Holds encStr w b b0 d.toArray->b<w.heap.size->d.length<4611686018427387904->
  Calls Tryz.prog 91 #[.slice (io ⟨b,b0,jp⟩) d.length a0] w fun e j=>
   e= .returned (.tuple #[])∧ ∃n os,j=Go.Sort.grow (Go.Sort.putRow encStr (Go.Sort.ahead w n) b b0 (d.mergeSort fun x y=>li (x<=y)).toArray) os)∧
 (∀(p:Option Addr) (a0:Nat) (w:World),Calls Tryz.prog 91 #[.slice p 0 a0] w fun e j=>e= .returned (.tuple #[])∧j=w)
theorem jE(l:List aj):(eM l).length=l.length:=by simp[eM,eH]
theorem rj:eM []=[]:=by simp[eM,eH]
theorem uY(l:List aj):(eM l).map pM=eH (l.map pM):=by
 unfold eM;rw[aaQ];have:pM ∘ Uv=id:=by funext x;exact O1 x
 rw[this,List.map_id]
theorem DC{l:List aj}{k:Nat}{e:List PV}(h:(l.map fun x=>(cM x).map PV.iv)[k]? =io e): ∃s,l[k]? =io s∧e=[pS s]:=by
 rw[Y9,Zb]at h;obtain⟨s,b,rfl⟩:=h;exact⟨s,b,rfl⟩
theorem MR(hS:kq)(l:List aj)(hl:l.length<=1000000000000):bV Tryz.prog 91 [.sl 0 0 l.length 1] [aG 1 l cM] (.bQ []) [(0,io (aG 1 (eM l) cM))] 1:=by
 refine⟨bH Tryz.func91 Z (by decide),fun M N w vs hr I hv=>?_⟩;obtain⟨v,rfl⟩: ∃v,vs=[v]:=by
  cases vs with
  |nil=>cases I
  |cons v r=>cases r with
   |nil=>exact⟨v,rfl⟩
   |cons a b=>simp at I
 have u:=hv 0 _ Z;simp only[List.getD_cons_zero]at u;have n0:=hr.obj 0 _ Z;cases l with
 |nil=>
  have e0:v= .slice jp 0 0:=by
   generalize hq:PV.sl 0 0 ([]:List aj).length 1=q at u;cases u with
   |sl i off len sz a0 h h0 S hc he=>cases hq;simp at h0
   |pV i sz h=>rfl
   |_=>cases hq
  subst e0;refine(hS.2 jp 0 w).mono ?_;rintro e w' ⟨rfl,rfl⟩;refine⟨_,M,N,.bQ [],_,1,rfl,⟨rfl,rfl,rfl⟩,?_,?_,.bQ [] #[] Z (by simp)⟩
  .rw[rj];exact .refl _ _ _ _ _
  .rw[rj];exact hr
 |cons s0 r=>
  generalize hL:s0::r=L at*
  have c0:0<L.length:=by rw[<-hL];simp
  obtain⟨a0,e0⟩: ∃a0,v= .slice (io ⟨N.aK 0,0,jp⟩) L.length a0:=by
   generalize hn:L.length=n at u c0;generalize hq:PV.sl 0 0 n 1=q at u;cases u with
   |sl i off len sz a0 h h0 S hc he=>cases hq;exact⟨a0,by simp⟩
   |pV i sz h=>cases hq;omega
   |_=>cases hq
  subst e0;rcases n0 with h0|⟨_,c,T,S,h2,h3,h4,h5⟩
  .rw[<-hL]at h0;cases h0
  rw[Zx]at h3;have g0:(aG 1 L cM).real=kw:=by rw[<-hL];rfl
  have d0: ∀j s,L[j]? =io s->c.getD j undef= .string s:=fun j s G=>by
   have:=h5 j [pS s] 0 (pS s) (by rw[Y9,G];rfl) Z;rw[abT,aa8]at this;generalize c.getD j undef=y at this ⊢;cases this with
   |iv _ _ h=>cases h;rfl
  have m0:=hr.lt (i:=0) Z g0;have k0:(L.map pM).length=L.length:=by simp
  have hH:Go.Sort.Holds encStr w (N.aK 0) 0 (L.map pM).toArray:=by
   intro j G;have i0:j<L.length:=by simpa using G
   have f0:j<c.size:=by omega
   have:=d0 j L[j] (Y3 i0);rw[Y0,ZV f0,aaq]at this;constructor
   .simp only[World.cell?,S,Zq,Option.isSome_none,aaz,if_false];rw[ZV f0,this,getElem!_pos _ j G];simp[encStr,pM]
   .simp[World.frozen?,S]
  have B:=hS.1 (N.aK 0) 0 a0 (L.map pM) w hH m0 (by omega);rw[k0]at B;refine B.mono ?_;rintro e w' ⟨rfl,n,os,rfl⟩
  let J:=Go.Sort.putRow encStr (Go.Sort.ahead w n) (N.aK 0) 0 ((L.map pM).mergeSort fun x y=>li (x<=y)).toArray
  have Y:(eH (L.map pM)).length=L.length:=by simp[eH]
  have A:Ext M N (· <1) (fv 0 [aG 1 L cM]) w M N (· <1) ((0,io (aG 1 (eM L) cM))::fv 0 [aG 1 L cM]) J∧Rel M N (· <1) ((0,io (aG 1 (eM L) cM))::fv 0 [aG 1 L cM]) J:=by
   refine hr.write (i:=0) (o0:=aG 1 L cM) Z g0 J (aG 1 (eM L) cM) Z Z Z ?_ ?_ ?_
   .show(Go.Sort.putRow _ _ _ _ _).heap.size=_;rw[Go.Sort.size_putRow];rfl
   .intro b hb;show((w.heap.modify (N.aK 0) _))[b]? =_;rw[ZT,be (fun e=>hb e.symm)]
   .refine .inr ⟨Nat.one_pos,Go.Sort.putCells encStr 0 (eH (L.map pM)).toArray c,T,?_,?_,?_,?_,?_⟩
    .show((w.heap.modify (N.aK 0) _))[N.aK 0]? =_;rw[ZT,am Z,S];rfl
    .simp[Go.Sort.putCells,h2]
    .rw[Zx,jE];simp[Go.Sort.putCells];omega
    .intro k e he;obtain⟨s,_,rfl⟩:=DC he;rfl
    .intro k e j p he hp;obtain⟨s,hs,rfl⟩:=DC he;have G:j=0:=by
      rcases j with _|j
      .rfl
      .simp at hp
     subst G;cases hp;have hk:k<L.length:=by
      have:=(Y4.1 hs).1;rwa[jE]at this
     have p0:(eH (L.map pM))[k]? =io (pM s):=by
      rw[<-uY,Y9,hs];rfl
     have j0:k<c.size:=by omega
     have b0:(Go.Sort.putCells encStr 0 (eH (L.map pM)).toArray c).getD (k*1+0) undef= .string s:=by
      rw[abT,aa8,Y0];simp only[Go.Sort.putCells,Array.getElem?_mapIdx];rw[ZV j0,ZZ,aaq,am ⟨Y8 _,by simp[Y];omega⟩,Nat.sub_zero];rw[getElem!_pos _ k (by simp[Y];omega)];have h9:(eH (L.map pM)).toArray[k]'(by simp[Y];omega)=pM s:=by
       rw[List.getElem_toArray];exact(Y4.1 p0).2
      rw[h9];simp[encStr,pM]
     rw[b0];exact .iv _ _ (.v _)
  have D:Rel M N (· <1) ((0,io (aG 1 (eM L) cM))::fv 0 [aG 1 L cM]) (Go.Sort.grow J os):=A.2.more fun b hb=>by
   show(J.heap++os)[b]? =_;rw[Z4 hb]
  have q0:J.heap.size=w.heap.size:=by
   show(Go.Sort.putRow _ _ _ _ _).heap.size=_;rw[Go.Sort.size_putRow];rfl
  have d: ∀i o,AH.get [(0,io (aG 1 (eM L) cM))] i=io o->AH.get ((0,io (aG 1 (eM L) cM))::fv 0 [aG 1 L cM]) i=io o:=by
   intro i o h;rw[AH.aw]at h ⊢;split at h
   .rename_i h6;rw[am h6];exact h
   .simp[AH.get]at h
  refine⟨_,M,N,.bQ [],_,1,rfl,⟨rfl,rfl,rfl⟩,⟨A.1.os,A.1.tape,A.1.output,?_,?_,.refl _,fun b c S h2=>(nomatch (S.symm.trans h2)),.refl _ _,fun _ h=>h,fun i o F=>A.1.jr i o (d i o F)⟩,?_,.bQ [] #[] Z (by simp)⟩
  .show w.heap.size<=(Go.Sort.grow J os).heap.size;rw[Go.Sort.size_grow,q0];omega
  .intro b hb hn;have h7:=A.1.iT b hb hn;show(J.heap++os)[b]? =_;rw[Z4 (by omega)];exact h7
  .exact⟨D.fi,fun i o F=>D.used i o (d i o F),fun i o F=>D.fh i o (d i o F),fun i o F=>D.obj i o (d i o F),fun i j o p F G=>D.inj i j o p (d i o F) (d j p G)⟩
end Go.Proofs.YtflegjieadkonaaGreatDoor
namespace Go.Proofs.YtflegjieadkonaaGreatDoor
open Go Go.Al Go.Proofs.Tryz
theorem gU(l:List (List UInt8)):(eH l).Perm l:=List.mergeSort_perm _ _
theorem ku(l:List (List UInt8)):(eH l).Pairwise (fun x y=>li (x<=y)=kw):=
 List.pairwise_mergeSort (le:=fun x y=>li (x<=y)) (fun a b c d j=>by simp only[decide_eq_true_eq] at*;exact List.le_trans d j)
  (fun a b=>by
   rcases List.le_total a b with h|h
   .simp[h]
   .simp[h]) l
theorem Iy{a b:List (List UInt8)}(h:a.Perm b)(ha:a.Pairwise (fun x y=>li (x<=y)=kw))(hb:b.Pairwise (fun x y=>li (x<=y)=kw)):a=b:=
 List.Perm.eq_of_pairwise (fun x y _ _ d j=>abZ (zT d) (zT j)) ha hb h
theorem sN{a b:List aj}(h:a.Perm b):eM a=eM b:=by
 unfold eM;rw[Iy (((gU _).trans (h.map pM)).trans (gU _).symm) (ku _) (ku _)]
theorem gq{x:aj}{l:List aj}:x∈eM l↔x∈l:=by
 unfold eM;rw[ZD];constructor
 .rintro⟨b,hb,rfl⟩;obtain⟨s,d,rfl⟩:=ZD.1 ((gU _).mem_iff.1 hb);rwa[wX]
 .intro h;exact⟨pM x,(gU _).mem_iff.2 (ZD.2 ⟨x,h,rfl⟩),wX x⟩
def ju(m:NM)(vs:List Nat):List aj:=vs.reverse.filterMap fun j=>(m[j]?).map (·.1)
theorem nB(m:NM)(vs:List Nat)(j:Nat)(x:(KC.str).K×Int)(h:m[j]? =io x):ju m (j::vs)=ju m vs++ [x.1]:=by
 simp[ju,ab5,h]
theorem yg(m:NM)(vs:List Nat):(ju m vs).length<=vs.length:=by
 unfold ju;have:=List.length_filterMap_le (fun j=>(m[j]?).map (·.1)) vs.reverse;rwa[List.length_reverse]at this
theorem Ce(m:NM):(Zp m.length).filterMap (fun j=>(m[j]?).map (·.1))=m.map (·.1):=by
 apply aaM;intro k;have h:(Zp m.length).filterMap (fun j=>(m[j]?).map (·.1))=(Zp m.length).map (fun j=>(m.getD j (Y5,0)).1):=by
  rw[show(fun j=>(m.getD j (Y5,0)).1)=fun j=>(m.getD j (Y5,0)).1 from rfl];have key: ∀l:List Nat,(∀j∈l,j<m.length)->l.filterMap (fun j=>(m[j]?).map (·.1))=l.map (fun j=>(m.getD j (Y5,0)).1):=by
   intro l
   induction l with
   |nil=>simp
   |cons j r ih=>
    intro h;have b:=h j Zh;rw[ab9,Y3 b,ih fun k d=>h k (Zg _ d)];simp[b]
  exact key _ fun j b=>Z8.1 b
 rw[h];by_cases d:k<m.length
 .simp[d]
 .simp[d]
theorem mG(m:NM)(vs:List Nat)(hn:vs.Nodup)(hb: ∀j∈vs,j<m.length)(b: ∀j,j<m.length->j∈vs):(ju m vs).Perm (m.map (·.1)):=by
 rw[<-Ce];unfold ju;apply List.Perm.filterMap;refine(List.reverse_perm _).trans ?_;rw[List.perm_ext_iff_of_nodup hn List.nodup_range];intro j;rw[Z8];exact⟨hb j,b j⟩
def fe(m:NM):List aj:=eM (m.map (·.1))
theorem xY{vs:List Nat}{n:Nat}(h:vs.Nodup)(hb: ∀j∈vs,j<n):vs.length<=n:=by
 have:=aaH h (l₂:=Zp n) fun j b=>Z8.2 (hb j b);rwa[List.length_range]at this
theorem xH(σ:Nat->Nat)(l:List aj):(l.map fun x=>(cM x).map PV.iv).map (dL σ)=l.map fun x=>(cM x).map PV.iv:=by
 simp only[aaQ,cM,Zm,Z2];rfl
theorem c51(G:kq)(m:NM)(hm:m.length<=100000000):Pure prog 112 [.iv (CU m)] (.iv (strs (fe m))):=by
 refine ae ab func112 Z (by decide) ntmps112 Z (by simp) Z ?_;refine gA Z ?_;refine fU 3 1 Z ?_;refine jw m (fun b=>⟨[(3,.sl 2 0 (ju m b).length 1),(6,.ptr 0 0)],[(0,io (.cD .str Ba m b jp)),(2,io (aG 1 (ju m b) cM))],3⟩) (fun b=>b.Nodup∧ ∀j∈b,j<m.length) [1] ⟨Z3,by simp⟩
  (zW (hI Z Z (.inl Z) Z (zS trivial))) fun b F=>?_
 obtain⟨d,u⟩:=F;have S:=xY d u;have J:=yg m b;refine nV Z ac (fV Z Z Z Z Z (by decide) (fun y=>?_) fun j x A B=>?_)
 .refine nV Z ac (bI [2] (MR G (ju m b) (by omega)) Z Z Z Z Z (congrArg (fun o=> [io o]) (bA _).symm) Z Z ?_);refine nV Z ac (cx (.inr Z) Z Z ((xH _ _).trans (by rw[fe,sN (mG m b d u y)])) ?_);rw[fe,jE,<-(mG m b d u y).length_eq]
 .have D:=nB m b j x A;refine gA Z ⟨j,x,A,B,⟨aam.2 ⟨B,d⟩,fun i I=>(Zj.1 I).elim (fun h=>h▸(Y4.1 A).1) (u i)⟩,[4],zM ⟨.row (by rw[D,Y1];rfl),rfl,bv ac⟩ (hI Z Z (.inr Z) Z (hR Z (by rw[D,Y6];rfl) Z ac))⟩
theorem PY{P:Program}{k:FuncId}{kc:KC}{V:Type}{e:V->IV}{z:V}{G:Value}{I:PV->V}{m:List (kc.K×V)}{y:IV}(h:Al.Pure P k [.iv (.eE kc e z G m)] (.iv y)):bV P k [.mp 0] [.map kc e z G I m] (.iv y) [] 1:=by
 refine⟨h.1,fun M N w F hr Y hv=>?_⟩;obtain⟨u,B,J,h3,S⟩:=qA (n:=1) hr (i:=0) Z;have A:Rel u N (· <0) (fv 0 []) w:=⟨J.fi,fun i o d=>(nomatch d),fun i o d=>(nomatch d),fun i o d=>(nomatch d),fun i j o p d=>(nomatch d)⟩
 refine(h.2 u N w F A Y fun j p D=>?_).mono ?_
 .cases j with
  |zero=>
   cases D;have:=S _ _ (hv 0 _ Z);generalize F.getD 0 undef=x at this ⊢;cases this with
   |iv _ _ h=>exact .iv _ _ h
  |succ j=>cases D
 .rintro _ w' ⟨x,M',N',r,h',n',rfl,⟨rfl,rfl,rfl⟩,hx,hrr,hvr⟩;refine⟨x,M',N,.iv y,[],1,rfl,⟨rfl,rfl,rfl⟩,?_,⟨hrr.fi,fun i o d=>(nomatch d),fun i o d=>(nomatch d),fun i o d=>(nomatch d),fun i j o p d=>(nomatch d)⟩,?_⟩
  .refine⟨hx.os,hx.tape,hx.output,hx.size,fun b hb hn=>hx.iT b hb fun i o d=>(nomatch d),B.r6.trans hx.r6,fun b c g1 g2=>?_,.refl _ _,fun _ h=>h,fun i o d=>(nomatch d)⟩;cases g3:u b with
   |some c'=>exact B.kh b c' g1 g3
   |none=>
    rcases hx.kh b c g3 g2 with g4|⟨i,o,g4,_⟩
    .exact .inl g4
    .exact nomatch g4
  .cases hvr with
   |iv _ _ h=>exact .iv _ _ h
theorem X5(b:kq)(m:NM)(hm:m.length<=100000000):bV prog 112 [.mp 0] [ct m] (.iv (strs (fe m))) [] 1:=PY (c51 b m hm)
theorem wh: ∀{m:NM} (_:(m.map (·.1)).Nodup) (k:aj),pR .str m k=m.filter fun x=>!li (x.1=k)
 | [],_,k=>rfl
 |(a,b)::r,h,k=>by
  rw[Zm,aam]at h;by_cases d:a=k
  .subst d;have:r.filter (fun x=>!li (x.1=a))=r:=aca.2 fun x j=>by
    have:x.1≠a:=fun e=>h.1 (e▸ZD.2 ⟨x,j,rfl⟩);simp[this]
   simp[pR,this]
  .have u:=wh h.2 k;simp[pR,d,u]
theorem r5{m:NM}{p:(KC.str).K×Int->Bool}(h:(m.map (·.1)).Nodup):((m.filter p).map (·.1)).Nodup:=h.sublist ((abH).map _)
theorem qM: ∀(d:List aj) {m:NM} (_:(m.map (·.1)).Nodup),d.foldl (fun m k=>pR .str m k) m=m.filter fun x=>!aE d x.1
 | [],m,h=>(aca.2 fun _ _=>rfl).symm
 |k::r,m,h=>by
  rw[Zw,wh h,qM r (r5 h),List.filter_filter];congr 1
  funext x
  by_cases b:x.1=k
  .simp[aE,b]
  .have: ¬k=x.1:=fun e=>b e.symm
   simp[aE,b,this]
def lN(r:ah)(a:eK):NM:=(aC (bc a)).filter fun x=>!aE (ay r) x.1
theorem kP(l:List aj):(aC l).length<=l.length:=by
 have h:=ck l;have:=Ay h.1 fun x b=>(h.2 x).1 b;rwa[Zx]at this
theorem d79(r:ah)(a:eK)(hb:a.size<=100000000000):bV prog 191 [.iv (da r),ag a.c] [] (.mp 0) [(0,io (ct (lN r a)))] 1:=by
 refine bV.le (args:=[.iv (da r),ag a.c1]) ?_ ⟨.refl _,a.zr,ac⟩;have I:=mY a;have A:=(ck (bc a)).1;refine aB ab func191 Z (by decide) ntmps191 Z (by simp) ?_;refine gA Z (zq [] (S5 a (by omega)) ?_);refine gA Z ?_;refine jw (aC (ay r)) (fun b=>⟨[(5,.mp 1),(13,.ptr 2 0)],[(1,io (ct ((ju (aC (ay r)) b).foldl (fun m k=>pR .str m k) (aC (bc a))))),(2,io (.cD .str Ba (aC (ay r)) b jp))],3⟩)
  (fun b=>b.Nodup∧ ∀j∈b,j<(aC (ay r)).length) [] ⟨Z3,by simp⟩
  (zW (zC (hI Z Z (.inl Z) Z trivial))) fun b G=>?_
 obtain⟨d,u⟩:=G;refine nV Z ac (fV Z Z Z Z Z (by decide) (fun y=>?_) fun j x D F=>?_)
 .have B:(ju (aC (ay r)) b).foldl (fun m k=>pR .str m k) (aC (bc a))=lN r a:=by
   rw[qM _ A];unfold lN;congr 1
   funext x
   congr 1;rw[ZN,aM,aM,(mG _ b d u y).mem_iff];exact(ck (ay r)).2 x.1
  rw[B];refine gA Z (zD [1] Z (zW (zC ac)))
 .have S:=nB (aC (ay r)) b j x D;refine gA Z ⟨j,x,D,F,⟨aam.2 ⟨F,d⟩,fun i J=>(Zj.1 J).elim (fun h=>h▸(Y4.1 D).1) (u i)⟩,[],zW (hM Z (by rw[S,aax];rfl) Z (hI Z Z (.inr Z) Z ac))⟩
theorem wi{may:List aj->Expr->Bool}{more:List aj->eK->Bool}{body:List Lit}: ∀(n:Nat) (occ:List aj),(dT may more body n occ).length<=occ.length+n
 |0,occ=>Y7 _
 |n+1,occ=>by
  cases h:cN (may occ) (more occ) occ body with
  |none=>rw[gd h];omega
  |some v=>
   rw[fZ h];have:=wi (may:=may) (more:=more) (body:=body) n (occ++ [v]);rw[Y1,ZB]at this;omega
theorem wo{may:List aj->Expr->Bool}{more:List aj->eK->Bool}{body:List Lit}(occ:List aj):(cR may more body occ).length<=occ.length+4*Lit.aA body+1:=by
 have b:=wi (may:=may) (more:=more) (body:=body) (3*body.length+1) (occ++body.flatMap bR);have d:=hZ body;have j:=Lit.au body;rw[Y1]at b;unfold cR;omega
theorem F6(r:ah):(ch r).length<=4*Lit.aA r.body+1:=by
 have:=wo (may:=fun b=>aU b) (more:=fun b=>jb (ay r) b) (body:=r.body) [];rw[aad]at this;unfold ch;omega
def rX(r:ah):List aj:=cR (fun b=>c8 b) (fun _=>fun _=>lc) r.body []
theorem IS(r:ah):(rX r).length<=4*Lit.aA r.body+1:=by
 have:=wo (may:=fun b=>c8 b) (more:=fun _=>fun _=>lc) (body:=r.body) [];rw[aad]at this;unfold rX;omega
theorem WN(r:ah)(hb:8*Lit.aA r.body<=100000000000):bV prog 126 [.iv (lits r.body),.mp 0,.dt (.func 127) [] [.ptr 1 0],.dt (.func 128) [] []] [.gK,.cells [.mp 0]] (.bQ []) [(0,io (ct (aC (rX r)))),(1,io (.cells [.mp 0]))] 2:=
 bV.SR (XV [] r.body (by simp;omega)) ⟨w5,.refl _,ac⟩
theorem c29(b:kq)(r:ah)(hb:r.size<=10000000):Pure prog 80 [ag r.c] (.iv (strs (fe (aC (ay r))))):=by
 have d:=kP (ay r);have j:=oU r;refine ae ab func80 Z (by decide) ntmps80 Z (by simp) Z ?_;refine gA Z (zp (c48 r (by omega)) ?_);refine gA Z (zp (c51 b (aC (ay r)) (by omega)) ?_);exact zU Z
theorem c33(b:kq)(r:ah)(hb:r.size<=10000000):Pure prog 98 [ag r.c] (.iv (strs (fe (aC (rX r))))):=by
 have d:=kP (rX r);have j:=IS r;have u:Lit.aA r.body<=r.size:=aaA _ _;refine ae ab func98 Z (by decide) ntmps98 Z (by simp) Z ?_;refine gA Z ?_;refine gA Z (zq [1,2] (WN r (by omega)) ?_);refine gA Z (zq [1] (X5 b (aC (rX r)) (by omega)) ?_);exact zU Z
def th(r:ah)(lit:Int):List aj:=if lit<0∨(r.body.length:Int)<=lit∨ ¬(ak r lit).kind=4 then[] else fe (lN r (ak r lit).agg)
theorem vI{P:Program}{k:FuncId}{args:List PV}{os:List AO}{r:PV}{h:AH}{n0:Nat}(hc:oN P k){n:Nat}(hn: ∃sz el,PV.iv (.dh sz n el)∈args)(hh:n<=maxLen->bV P k args os r h n0):bV P k args os r h n0:=Mp hc hn hh
def tm{α:Type}(p:α->Bool)(l:List α):Int:=match l.findIdx? p with
 |some i=>i
 |none=> -1
theorem iK{α:Type}{p:α->Bool}{l:List α}(h:l.any p=lc):tm p l= -1:=by
 have:l.findIdx? p=jp:=by
  rw[abC];intro x b;have:=ZU.1 h x b;simpa using this
 rw[tm,this]
theorem jf{α:Type}[Inhabited α]{p:α->Bool}{l:List α}{i:Nat}(h:(l.take i).any p=lc)(hi:i<l.length)(hp:p (l.getD i em)=kw):tm p l=i:=by
 have:l.findIdx? p=io i:=by
  rw[abf];have b:l.getD i em=l[i]:=by simp[hi]
  refine⟨hi,b▸hp,fun j d=>?_⟩;have:=ZU.1 h l[j] (List.mem_iff_getElem?.2 ⟨j,by rw[ZX,am d,Y3 (by omega)]⟩);simpa using this
 rw[tm,this]
theorem jZ{α:Type}(p:α->Bool)(l:List α):li (tm p l>=0)=l.any p:=by
 unfold tm;cases h:l.findIdx? p with
 |none=>
  have:=abC.1 h;have:l.any p=lc:=ZU.2 fun x j=>by simp[this x j]
  rw[this];rfl
 |some i=>
  obtain⟨b,d,_⟩:=abf.1 h;rw[ZQ.2 ⟨_,ZJ b,d⟩];simp
theorem FN{a b:Int}(h:a=b):pI a=pI b:=by rw[h]
theorem Yy(x:Int):Pure prog 155 [pI x] (pB (!li (x=1)&&!li (x=2))):=by
 refine ae ab func155 Z (by decide) ntmps155 Z (by simp) Z ?_
 repeat' (first|(refine gA Z (zI (fun _=>?_) (fun _=>?_)))|(refine gA Z (zL (.of_eq ?_))))
 all_goals(refine(fP ?_:pB _=pB _);simp_all)
theorem Yx(t:Term):Pure prog 194 [ag t.c] (pB (li (t.kind=3))):=by
 refine ae ab func194 Z (by decide) ntmps194 Z (by simp) Z ?_;exact zU Z
theorem Yw(t:Lit):Pure prog 195 [ag t.c] (pB (li (t.kind=4))):=by
 refine ae ab func195 Z (by decide) ntmps195 Z (by simp) Z ?_;exact zU Z
def du(v:tG):Int:=if v.kind=1 then(if v.sym=Y5∧ -2147483647<=v.num∧v.num<=2147483647 then 0 else 20) else if v.kind=2 then(if v.num=0∧v.sym.size<=64 then 0 else 20) else 20
theorem YB(v:tG):Pure prog 261 [ag v.c] (pI (du v)):=by
 refine ae ab func261 Z (by decide) ntmps261 Z (by simp) Z ?_
 repeat' (first|(refine gA Z (zI (fun _=>?_) (fun _=>?_)))|(refine gA Z (zL (.of_eq ?_))))
 all_goals(refine(FN ?_:pI _=pI _);have hE:(⟨#[]⟩:ByteArray)=Y5:=rfl;simp_all [du];try omega)
def Decl.z:Decl:=⟨Y5,[],⟨0,0⟩⟩
def HY(d:Decl):IV:= .agg d.c
def MA:Value:= .agg #[.string Y5,.slice jp 0 0,.int .i64 0,.int .i64 0]
def intOf:List IV->Int
 | [.v (.int .i64 n)]=>n
 |_=>0
def XP:PV->Decl
 | .agg [.iv (.v (.string s)),.iv (.dh _ n el),.iv (.v (.int _ a)),.iv (.v (.int _ b))]=>⟨s,(Zp n).map fun k=>intOf (el k),⟨a,b⟩⟩
 |_=>Decl.z
abbrev DM:=List ((KC.str).K×Decl)
abbrev S2(m:DM):AO:= .map .str HY Decl.z MA XP m
abbrev WL(m:DM):IV:= .eE .str HY Decl.z MA m
theorem S1(d:Decl):XP (ag d.c)=d:=by
 show(⟨d.name,(Zp d.types.length).map fun k=>intOf (ba (d.types.getD k em)),⟨d.at_.line,d.at_.zu⟩⟩:Decl)=d;have:(Zp d.types.length).map (fun k=>intOf (ba (d.types.getD k em)))=d.types:=by
  apply aaM;intro k;by_cases b:k<d.types.length
  .simp[b,intOf,ba]
  .simp[b]
 rw[this]
theorem Mz: ∀M,IR M (HY Decl.z) MA:=fun M=>by
 refine .agg _ _ Z fun j p b=>?_
 match j,b with
 |0,b=>cases b;exact .v _
 |1,b=>cases b;exact .ki _ _ _ _
 |2,b=>cases b;exact .v _
 |3,b=>cases b;exact .v _
 |j+4,b=>simp[Decl.c]at b
theorem agI(l:List IV):aL (ag l) (.iv (.agg l)):=by
 intro M N U x h;generalize b:ag l=q at h;cases h with
 |agg cs ys hl hr=>
  cases b;refine .iv _ _ (.agg _ _ (by simpa using hl) fun j p d=>?_);have:=hr j (.iv p) (by rw[Y9,d];rfl);generalize ys.getD j undef=y at this ⊢;cases this with
  |iv _ _ h=>exact h
 |_=>cases b
theorem MC(d:Decl):aL (ag d.c) (.iv (HY (XP (ag d.c)))):=by rw[S1];exact agI _
def iH(m:DM)(d:Decl):DM:=if ef .str m d.name=kw then m else cF .str m d.name d
def Ak(p:Prog):DM:=p.aD.foldl iH []
abbrev df(p:Prog):IV:=WL (Ak p)
theorem xP{V:Type}: ∀(m:List ((KC.str).K×V)) (k:aj) (v:V),(cF .str m k v).length<=m.length+1
 | [],_,_=>by simp[cF]
 |(a,b)::r,k,v=>by
  have:=xP r k v;simp only[cF];split
  .simp
  .simp only[ZA];omega
theorem d50(p:Prog)(hb:p.aD.length<=1000000000000):bV prog 124 [ag p.c] [] (.mp 0) [(0,io (S2 (Ak p)))] 1:=by
 refine aB ab func124 Z (by decide) ntmps124 Z (by simp) ?_;refine gA Z ?_;refine az 0 p.aD.length (Y8 _) (fun i=>⟨[(3,.mp 1),(13,.iv (cZ 4 p.aD Decl.c)),(14,pI p.aD.length),(15,pI i)],[(1,io (S2 ((p.aD.take i).foldl iH [])))],2⟩) (fun _=>True) [] ac
  (zW (Ji Z Mz Z trivial)) fun i x _=>?_
 refine zJ Z Z (fun d=>?_) fun d=>?_
 .have d:=ci d;have u:=cI (g:=iH) (b:=[]) d;refine zJ Z Z (fun j=>?_) fun j=>?_
  .have j:ef .str ((p.aD.take i).foldl iH []) (p.aD.getD i em).name=lc:=by simpa using j
   rw[iH,be (by rw[j];simp)]at u;refine nV Z ?_ ?_
   .repeat' (first|exact ac|exact rfl|exact MC _|exact aL.refl _|apply ZL)
    all_goals omega
   exact⟨d,ac,[],zW (hM Z (by rw[u,<-S1 (p.aD.getD i em)];rfl) Z ac)⟩
  .have j:ef .str ((p.aD.take i).foldl iH []) (p.aD.getD i em).name=kw:=by simpa using j
   rw[iH,am j]at u;refine gA Z ⟨d,ac,[],zW (hM Z (by rw[u]) Z ac)⟩
 .have d:=co d;rw[Za d];refine gA Z (zD [1] Z (zW (zC ac)))
def lV(p:Prog)(a:Atom):Bool:=!ef .str (Ak p) a.rel
def iw(p:Prog)(s:aj):Decl:=bU .str (Ak p) s Decl.z
def ni(p:Prog)(a:Atom):Bool:=!li ((a.ad.length:Int)=((iw p a.rel).types.length:Int))
theorem d113(p:Prog)(a:Atom):bV prog 163 [ag a.c,.ptr 0 0] [.cells [.iv (df p)]] (pB (lV p a)) [(0,io (.cells [.iv (df p)]))] 1:=by
 refine aB ab func163 Z (by decide) ntmps163 Z (by simp) ?_;refine gA Z (zD [] Z (zM ⟨.of_eq Z,rfl,ac⟩ (zO ac)))
theorem d115(p:Prog)(a:Atom):bV prog 165 [ag a.c,.ptr 0 0] [.cells [.iv (df p)]] (pB (ni p a)) [(0,io (.cells [.iv (df p)]))] 1:=by
 refine aB ab func165 Z (by decide) ntmps165 Z (by simp) ?_;refine gA Z (zD [] Z (zM ⟨.of_eq Z,rfl,ac⟩ (zO ac)))
theorem i187(l:List Int):bV prog 186 [.iv (cZ 1 l ba),.dt (.func 155) [] []] [] (pI (tm (fun x=>!li (x=1)&&!li (x=2)) l)) [] 0:=by
 refine vI (bH func186 Z (by decide)) ⟨_,_,Zh⟩ fun j=>?_;simp only[maxLen]at j;refine aB ab func186 Z (by decide) ntmps186 Z (by simp) ?_;refine gA Z ?_
 refine az 0 l.length (Y8 _) (fun i=>⟨[(0,.iv (cZ 1 l ba)),(1,.dt (.func 155) [] []),(7,pI l.length),(8,pI i)],[],0⟩) (fun i=>(l.take i).any (fun x=>!li (x=1)&&!li (x=2))=lc) [] (by simp)
  (zW trivial) fun i y u=>?_
 refine zJ Z Z (fun b=>?_) fun b=>?_
 .have b:=ci b;refine gA Z (zp (Yy (l.getD i em)) ?_);refine zJ Z Z (fun d=>?_) fun d=>?_
  .have d:(fun x=>!li (x=1)&&!li (x=2)) (l.getD i em)=kw:=d;rw[jf u b d];refine gA Z (zD [] Z (zW ac))
  .have d:(fun x=>!li (x=1)&&!li (x=2)) (l.getD i em)=lc:=d;refine gA Z ⟨b,(aW u b).2 d,[],zW ac⟩
 .have b:=co b;rw[iK (any_none u b)];refine gA Z (zD [] Z (zW ac))
theorem d153(l:List Int):bV prog 154 [.iv (cZ 1 l ba),.dt (.func 155) [] []] [] (pB (l.any (fun x=>!li (x=1)&&!li (x=2)))) [] 0:=by
 refine aB ab func154 Z (by decide) ntmps154 Z (by simp) ?_;refine gA Z (zq [] (i187 l) ?_);refine gA Z (zD [] Z (zM ⟨.of_eq (fP (jZ _ l)),rfl,ac⟩ ac))
theorem i191(l:List Term):bV prog 224 [.iv (cZ 5 l Term.c),.dt (.func 194) [] []] [] (pI (tm (fun x:Term=>li (x.kind=3)) l)) [] 0:=by
 refine vI (bH func224 Z (by decide)) ⟨_,_,Zh⟩ fun j=>?_;simp only[maxLen]at j;refine aB ab func224 Z (by decide) ntmps224 Z (by simp) ?_;refine gA Z ?_
 refine az 0 l.length (Y8 _) (fun i=>⟨[(0,.iv (cZ 5 l Term.c)),(1,.dt (.func 194) [] []),(7,pI l.length),(8,pI i)],[],0⟩) (fun i=>(l.take i).any (fun x:Term=>li (x.kind=3))=lc) [] (by simp)
  (zW trivial) fun i y u=>?_
 refine zJ Z Z (fun b=>?_) fun b=>?_
 .have b:=ci b;refine gA Z (zp (Yx (l.getD i em)) ?_);refine zJ Z Z (fun d=>?_) fun d=>?_
  .have d:(fun x:Term=>li (x.kind=3)) (l.getD i em)=kw:=d;rw[jf u b d];refine gA Z (zD [] Z (zW ac))
  .have d:(fun x:Term=>li (x.kind=3)) (l.getD i em)=lc:=d;refine gA Z ⟨b,(aW u b).2 d,[],zW ac⟩
 .have b:=co b;rw[iK (any_none u b)];refine gA Z (zD [] Z (zW ac))
theorem d157(l:List Term):bV prog 193 [.iv (cZ 5 l Term.c),.dt (.func 194) [] []] [] (pB (l.any (fun x:Term=>li (x.kind=3)))) [] 0:=by
 refine aB ab func193 Z (by decide) ntmps193 Z (by simp) ?_;refine gA Z (zq [] (i191 l) ?_);refine gA Z (zD [] Z (zM ⟨.of_eq (fP (jZ _ l)),rfl,ac⟩ ac))
theorem i192(l:List Lit):bV prog 130 [.iv (cZ 30 l Lit.c),.dt (.func 195) [] []] [] (pI (tm (fun x:Lit=>li (x.kind=4)) l)) [] 0:=by
 refine vI (bH func130 Z (by decide)) ⟨_,_,Zh⟩ fun j=>?_;simp only[maxLen]at j;refine aB ab func130 Z (by decide) ntmps130 Z (by simp) ?_;refine gA Z ?_
 refine az 0 l.length (Y8 _) (fun i=>⟨[(0,.iv (cZ 30 l Lit.c)),(1,.dt (.func 195) [] []),(7,pI l.length),(8,pI i)],[],0⟩) (fun i=>(l.take i).any (fun x:Lit=>li (x.kind=4))=lc) [] (by simp)
  (zW trivial) fun i y u=>?_
 refine zJ Z Z (fun b=>?_) fun b=>?_
 .have b:=ci b;refine gA Z (zp (Yw (l.getD i em)) ?_);refine zJ Z Z (fun d=>?_) fun d=>?_
  .have d:(fun x:Lit=>li (x.kind=4)) (l.getD i em)=kw:=d;rw[jf u b d];refine gA Z (zD [] Z (zW ac))
  .have d:(fun x:Lit=>li (x.kind=4)) (l.getD i em)=lc:=d;refine gA Z ⟨b,(aW u b).2 d,[],zW ac⟩
 .have b:=co b;rw[iK (any_none u b)];refine gA Z (zD [] Z (zW ac))
theorem d159(l:List Lit):bV prog 101 [.iv (cZ 30 l Lit.c),.dt (.func 195) [] []] [] (pB (l.any (fun x:Lit=>li (x.kind=4)))) [] 0:=by
 refine aB ab func101 Z (by decide) ntmps101 Z (by simp) ?_;refine gA Z (zq [] (i192 l) ?_);refine gA Z (zD [] Z (zM ⟨.of_eq (fP (jZ _ l)),rfl,ac⟩ ac))
theorem Wz(p:Prog)(l:List Atom):bV prog 192 [.iv (cZ 2 l Atom.c),.dt (.func 163) [] [.ptr 0 0]] [.cells [.iv (df p)]] (pI (tm (fun x:Atom=>lV p x) l)) [(0,io (.cells [.iv (df p)]))] 1:=by
 refine vI (bH func192 Z (by decide)) ⟨_,_,Zh⟩ fun j=>?_;simp only[maxLen]at j;refine aB ab func192 Z (by decide) ntmps192 Z (by simp) ?_;refine gA Z ?_
 refine az 0 l.length (Y8 _) (fun i=>⟨[(0,.iv (cZ 2 l Atom.c)),(1,.dt (.func 163) [] [.ptr 0 0]),(7,pI l.length),(8,pI i)],[(0,io (.cells [.iv (df p)]))],1⟩) (fun i=>(l.take i).any (fun x:Atom=>lV p x)=lc) [] (by simp)
  (zW (zO trivial)) fun i y u=>?_
 refine zJ Z Z (fun b=>?_) fun b=>?_
 .have b:=ci b;refine gA Z (zq [0] (d113 p (l.getD i em)) ?_);refine zJ Z Z (fun d=>?_) fun d=>?_
  .have d:(fun x:Atom=>lV p x) (l.getD i em)=kw:=d;rw[jf u b d];refine gA Z (zD [] Z (zW (zO ac)))
  .have d:(fun x:Atom=>lV p x) (l.getD i em)=lc:=d;refine gA Z ⟨b,(aW u b).2 d,[],zW (zO ac)⟩
 .have b:=co b;rw[iK (any_none u b)];refine gA Z (zD [] Z (zW (zO ac)))
theorem WV(p:Prog)(l:List Atom):bV prog 161 [.iv (cZ 2 l Atom.c),.dt (.func 163) [] [.ptr 0 0]] [.cells [.iv (df p)]] (pB (l.any (fun x:Atom=>lV p x))) [(0,io (.cells [.iv (df p)]))] 1:=by
 refine aB ab func161 Z (by decide) ntmps161 Z (by simp) ?_;refine gA Z (zq [0] (Wz p l) ?_);refine gA Z (zD [] Z (zM ⟨.of_eq (fP (jZ _ l)),rfl,ac⟩ (zO ac)))
theorem Wy(p:Prog)(l:List Atom):bV prog 192 [.iv (cZ 2 l Atom.c),.dt (.func 165) [] [.ptr 0 0]] [.cells [.iv (df p)]] (pI (tm (fun x:Atom=>ni p x) l)) [(0,io (.cells [.iv (df p)]))] 1:=by
 refine vI (bH func192 Z (by decide)) ⟨_,_,Zh⟩ fun j=>?_;simp only[maxLen]at j;refine aB ab func192 Z (by decide) ntmps192 Z (by simp) ?_;refine gA Z ?_
 refine az 0 l.length (Y8 _) (fun i=>⟨[(0,.iv (cZ 2 l Atom.c)),(1,.dt (.func 165) [] [.ptr 0 0]),(7,pI l.length),(8,pI i)],[(0,io (.cells [.iv (df p)]))],1⟩) (fun i=>(l.take i).any (fun x:Atom=>ni p x)=lc) [] (by simp)
  (zW (zO trivial)) fun i y u=>?_
 refine zJ Z Z (fun b=>?_) fun b=>?_
 .have b:=ci b;refine gA Z (zq [0] (d115 p (l.getD i em)) ?_);refine zJ Z Z (fun d=>?_) fun d=>?_
  .have d:(fun x:Atom=>ni p x) (l.getD i em)=kw:=d;rw[jf u b d];refine gA Z (zD [] Z (zW (zO ac)))
  .have d:(fun x:Atom=>ni p x) (l.getD i em)=lc:=d;refine gA Z ⟨b,(aW u b).2 d,[],zW (zO ac)⟩
 .have b:=co b;rw[iK (any_none u b)];refine gA Z (zD [] Z (zW (zO ac)))
theorem WU(p:Prog)(l:List Atom):bV prog 161 [.iv (cZ 2 l Atom.c),.dt (.func 165) [] [.ptr 0 0]] [.cells [.iv (df p)]] (pB (l.any (fun x:Atom=>ni p x))) [(0,io (.cells [.iv (df p)]))] 1:=by
 refine aB ab func161 Z (by decide) ntmps161 Z (by simp) ?_;refine gA Z (zq [0] (Wy p l) ?_);refine gA Z (zD [] Z (zM ⟨.of_eq (fP (jZ _ l)),rfl,ac⟩ (zO ac)))
def b8(l:Lit):List Atom:=if l.kind=1∨l.kind=2 then[l.atom] else[]
theorem mz: ∀l:List Lit,(l.flatMap b8).length<=l.length
 | []=>by simp
 |x::r=>by
  have b:=mz r;have d:(b8 x).length<=1:=by unfold b8;split<;>simp
  simp only[ZO,Y1,ZA];omega
def o8(r:ah)(lit:Int):List Lit:=if(ak r lit).kind=4 then(ak r lit).ar else[ak r lit]
def bu(r:ah)(lit:Int):List Atom:=if lit<0 then[r.head] else(o8 r lit).flatMap b8
theorem Qf(r:ah)(lit:Int)(h:0<=lit):oL (.dh 30 ((lit+1).toNat-lit.toNat) (fun j=>(r.body.getD (lit.toNat+j) em).c)) (lits [ak r lit]):=by
 have e:(lit+1).toNat-lit.toNat=1:=by omega
 rw[e]
 exact .dh Z (fun j b=>by
  have:j=0:=by omega
  subst this;rfl)
theorem Xc(r:ah)(lit:Int)(h1:lit<r.body.length)(hb:r.size<=1000000000000):Pure prog 162 [ag r.c,pI lit] (.iv (cZ 2 (bu r lit) Atom.c)):=by
 have S:=Lit.au r.body;have h0:Lit.aA r.body<=r.size:=aaA _ _;refine ae ab func162 Z (by decide) ntmps162 Z (by simp) Z ?_;refine zJ Z Z (fun A=>?_) fun A=>?_
 .have A:lit<0:=by simpa using A
  refine gA Z (cx (by first|exact .inr Z|exact .inl Z) Z Z (by rw[bu,am A];rfl) (by rw[bu,am A];rfl))
 have A: ¬lit<0:=by simpa using A
 have hk:lit.toNat<r.body.length:=by omega
 have I:=Lit.aI r.body lit.toNat hk;have b0:=(ak r lit).size_eq;have c0:=Lit.au (ak r lit).ar;have a0:(ak r lit).size<=Lit.aA r.body:=I;refine zJ Z Z (fun B=>?_) fun B=>?_
 .have B:(ak r lit).kind=4:=by simpa[ak]using B
  have y:bu r lit=(ak r lit).ar.flatMap b8:=by rw[bu,be A,o8,am B]
  refine gA Z ?_;refine fU 6 2 Z ?_;refine az 0 ((ak r lit).ar).length (Y8 _) (fun i=>⟨[(6,.sl 2 0 ((((ak r lit).ar).take i).flatMap b8).length 2),(30,.iv (lits ((ak r lit).ar))),(31,pI ((ak r lit).ar).length),(32,pI i)],[(2,io (aG 2 ((((ak r lit).ar).take i).flatMap b8) Atom.c))],3⟩) (fun _=>True) [1] ac
   (zM (bv ⟨.iv (nS _),rfl,bv (bv trivial)⟩) (zS trivial)) fun i Y _=>?_
  have G:=mz (((ak r lit).ar).take i);have J:(((ak r lit).ar).take i).length<=((ak r lit).ar).length:=by rw[ZP];exact Nat.min_le_right _ _
  have F:((ak r lit).ar).length<=1000000000000:=by first|omega|(rw[ZB];omega)
  refine zJ Z Z (fun d=>?_) fun d=>?_
  .have d:i<((ak r lit).ar).length:=zN d;have b:=bG (f:=b8) d;have j:((((ak r lit).ar).getD i em).kind=1∨(((ak r lit).ar).getD i em).kind=2)->(((ak r lit).ar).take (i+1)).flatMap b8=(((ak r lit).ar).take i).flatMap b8++ [(((ak r lit).ar).getD i em).atom]:=fun h=>by rw[b,b8,am h]
   have D: ¬((((ak r lit).ar).getD i em).kind=1∨(((ak r lit).ar).getD i em).kind=2)->(((ak r lit).ar).take (i+1)).flatMap b8=(((ak r lit).ar).take i).flatMap b8:=fun h=>by rw[b,b8,be h,ZE]
   refine zJ Z Z (fun u=>?_) fun u=>?_
   .have u: ¬(((ak r lit).ar).getD i em).kind=1:=by simpa using u
    refine zJ Z Z (fun x=>?_) fun x=>?_
    .have x:(((ak r lit).ar).getD i em).kind=2:=by simpa using x
     have b:=j (.inr x);refine gA Z ⟨d,ac,[5],zM ⟨.row (by rw[b,Y1];rfl),rfl,bv (bv (bv ac))⟩ (hR Z (by rw[b,Y6];rfl) Z ac)⟩
    .have x: ¬(((ak r lit).ar).getD i em).kind=2:=by simpa using x
     have b:=D (fun h=>h.elim u x);refine gA Z ⟨d,ac,[2],zM ⟨.row (by rw[b]),rfl,bv (bv (bv ac))⟩ (hR Z (by rw[b]) Z ac)⟩
   .have u:(((ak r lit).ar).getD i em).kind=1:=by simpa using u
    have b:=j (.inl u);refine gA Z ⟨d,ac,[5],zM ⟨.row (by rw[b,Y1];rfl),rfl,bv (bv (bv ac))⟩ (hR Z (by rw[b,Y6];rfl) Z ac)⟩
  .have d:((ak r lit).ar).length<=i:=zG d;rw[Za d] at*
   refine gA Z (cx (by first|exact .inr Z|exact .inl Z) Z Z (by rw[y]) (by rw[y]))
 .have B: ¬(ak r lit).kind=4:=by simpa[ak]using B
  have y:bu r lit=[ak r lit].flatMap b8:=by rw[bu,be A,o8,be B]
  refine gA Z ?_;refine fU 6 2 Z ?_;refine az 0 ([ak r lit]).length (Y8 _) (fun i=>⟨[(6,.sl 2 0 ((([ak r lit]).take i).flatMap b8).length 2),(30,.iv (lits ([ak r lit]))),(31,pI ([ak r lit]).length),(32,pI i)],[(2,io (aG 2 ((([ak r lit]).take i).flatMap b8) Atom.c))],3⟩) (fun _=>True) [1] ac
   (zM (bv ⟨.iv (Qf r lit (by omega)),rfl,.of_eq (FN (by simp only[ZB];omega)),rfl,bv trivial⟩) (zS trivial)) fun i Y _=>?_
  have G:=mz (([ak r lit]).take i);have J:(([ak r lit]).take i).length<=([ak r lit]).length:=by rw[ZP];exact Nat.min_le_right _ _
  have F:([ak r lit]).length<=1000000000000:=by first|omega|(rw[ZB];omega)
  refine zJ Z Z (fun d=>?_) fun d=>?_
  .have d:i<([ak r lit]).length:=zN d;have b:=bG (f:=b8) d;have j:((([ak r lit]).getD i em).kind=1∨(([ak r lit]).getD i em).kind=2)->(([ak r lit]).take (i+1)).flatMap b8=(([ak r lit]).take i).flatMap b8++ [(([ak r lit]).getD i em).atom]:=fun h=>by rw[b,b8,am h]
   have D: ¬((([ak r lit]).getD i em).kind=1∨(([ak r lit]).getD i em).kind=2)->(([ak r lit]).take (i+1)).flatMap b8=(([ak r lit]).take i).flatMap b8:=fun h=>by rw[b,b8,be h,ZE]
   refine zJ Z Z (fun u=>?_) fun u=>?_
   .have u: ¬(([ak r lit]).getD i em).kind=1:=by simpa using u
    refine zJ Z Z (fun x=>?_) fun x=>?_
    .have x:(([ak r lit]).getD i em).kind=2:=by simpa using x
     have b:=j (.inr x);refine gA Z ⟨d,ac,[5],zM ⟨.row (by rw[b,Y1];rfl),rfl,bv (bv (bv ac))⟩ (hR Z (by rw[b,Y6];rfl) Z ac)⟩
    .have x: ¬(([ak r lit]).getD i em).kind=2:=by simpa using x
     have b:=D (fun h=>h.elim u x);refine gA Z ⟨d,ac,[2],zM ⟨.row (by rw[b]),rfl,bv (bv (bv ac))⟩ (hR Z (by rw[b]) Z ac)⟩
   .have u:(([ak r lit]).getD i em).kind=1:=by simpa using u
    have b:=j (.inl u);refine gA Z ⟨d,ac,[5],zM ⟨.row (by rw[b,Y1];rfl),rfl,bv (bv (bv ac))⟩ (hR Z (by rw[b,Y6];rfl) Z ac)⟩
  .have d:([ak r lit]).length<=i:=zG d;rw[Za d] at*
   refine gA Z (cx (by first|exact .inr Z|exact .inl Z) Z Z (by rw[y]) (by rw[y]))
theorem d110(p:Prog)(r:ah)(lit:Int)(h1:lit<r.body.length)(hb:r.size<=1000000000000):bV prog 160 [pI lit,.ptr 0 0,.ptr 1 0] [an r.c,.cells [.iv (df p)]] (pB ((bu r lit).any fun x=>lV p x)) [(0,io (an r.c)),(1,io (.cells [.iv (df p)]))] 2:=by
 refine aB ab func160 Z (by decide) ntmps160 Z (by simp) ?_;refine gA Z (zp (Xc r lit h1 hb) ?_);refine gA Z (zq [1] (WV p (bu r lit)) ?_);refine gA Z (zD [] Z (zW (zK (zO ac))))
theorem d114(p:Prog)(r:ah)(lit:Int)(h1:lit<r.body.length)(hb:r.size<=1000000000000):bV prog 164 [pI lit,.ptr 0 0,.ptr 1 0] [an r.c,.cells [.iv (df p)]] (pB ((bu r lit).any fun x=>ni p x)) [(0,io (an r.c)),(1,io (.cells [.iv (df p)]))] 2:=by
 refine aB ab func164 Z (by decide) ntmps164 Z (by simp) ?_;refine gA Z (zp (Xc r lit h1 hb) ?_);refine gA Z (zq [1] (WU p (bu r lit)) ?_);refine gA Z (zD [] Z (zW (zK (zO ac))))
def dE(r:ah)(lit:Int):Bool:=if lit<0 then r.head.ad.any fun x=>li (x.kind=3) else if(ak r lit).kind=4 then((ak r lit).ar.any fun x=>li (x.kind=4))||aE (bc (ak r lit).agg) (ak r lit).a7 else lc
theorem YI(r:ah)(lit:Int)(h1:lit<r.body.length)(hb:r.size<=100000000):Pure prog 167 [ag r.c,pI lit] (pB (dE r lit)):=by
 have F:=Lit.au r.body;have S:Lit.aA r.body<=r.size:=aaA _ _;refine ae ab func167 Z (by decide) ntmps167 Z (by simp) Z ?_;refine zJ Z Z (fun b=>?_) fun b=>?_
 .have b:lit<0:=by simpa using b
  refine gA Z (zq [] (d157 r.head.ad) ?_);refine gA Z (zL (.of_eq ?_));rw[dE,am b];rfl
 have b: ¬lit<0:=by simpa using b
 have G:lit.toNat<r.body.length:=by omega
 have A:=Lit.aI r.body lit.toNat G;have B:=(ak r lit).fy;have I:(ak r lit).size<=Lit.aA r.body:=A;have D:=mY (ak r lit).agg;refine zJ Z Z (fun d=>?_) fun d=>?_
 .have d: ¬(ak r lit).kind=4:=by simpa[ak]using d
  refine gA Z (zL (.of_eq ?_));rw[dE,be b,be d]
 have d:(ak r lit).kind=4:=by simpa[ak]using d
 refine gA Z (bI [] (bV.le (aa:=[.iv (E7 (ak r lit).ar),.dt (.func 195) [] []]) (d159 (ak r lit).ar) ⟨.iv (nS _),.refl _,ac⟩) Z Z Z Z Z Z Z Z ?_);refine zE Z Z (fun j=>?_) fun j=>?_
 .have j:((ak r lit).ar.any fun x=>li (x.kind=4))=lc:=j;have y:=bB (bc (ak r lit).agg) (ak r lit).a7;have u:=cG (occ:=bc (ak r lit).agg) (s:=(ak r lit).a7);refine gA Z (zd [] (d127 (ak r lit).agg (by omega)) ?_);refine gA Z (zL (.of_eq ?_));refine(fP ?_:pB (li (bU .str (aC (bc (ak r lit).agg)) (ak r lit).a7 0>0))=_);rw[dE,be b,am d,j,u,y,aag];by_cases J:rS (bc (ak r lit).agg) (ak r lit).a7=0<;>simp[J];omega
 .have j:((ak r lit).ar.any fun x=>li (x.kind=4))=kw:=j;refine gA Z (zL (.of_eq ?_));rw[dE,be b,am d,j];rfl
theorem d116(r:ah)(lit:Int)(h1:lit<r.body.length)(hb:r.size<=100000000):bV prog 166 [pI lit,.ptr 0 0] [an r.c] (pB (dE r lit)) [(0,io (an r.c))] 1:=by
 refine aB ab func166 Z (by decide) ntmps166 Z (by simp) ?_;refine gA Z (zp (YI r lit h1 hb) ?_);refine gA Z (zD [] Z (zW (zK ac)))
def fq(r:ah)(lit:Int):Pos:=if lit<0 then r.at_ else(ak r lit).at
theorem MT(r:ah)(lit:Int)(h1:lit<r.body.length):Pure prog 171 [ag r.c,pI lit] (ag [iI (fq r lit).line,iI (fq r lit).zu]):=by
 refine ae ab func171 Z (by decide) ntmps171 Z (by simp) Z ?_;refine zJ Z Z (fun b=>?_) fun b=>?_
 .have b:lit<0:=by simpa using b
  refine gA Z (zL (.of_eq ?_));rw[fq,am b];rfl
 have b: ¬lit<0:=by simpa using b
 refine gA Z (zL (.of_eq ?_));rw[fq,be b];rfl
def kB(r:ah)(l:Lit):Nat:=if l.kind=4 then(lN r l.agg).length else 0
def tY(r:ah):Nat:=r.body.foldl (fun n l=>n+kB r l) (aC (ay r)).length
theorem vq(r:ah)(l:Lit):kB r l<=l.size:=by
 unfold kB;split
 .have b:(lN r l.agg).length<=(aC (bc l.agg)).length:=aae _ _;have d:=kP (bc l.agg);have j:=mY l.agg;have u:=l.fy;omega
 .omega
theorem xz(r:ah): ∀(l:List Lit) (n:Nat),l.foldl (fun n l=>n+kB r l) n<=n+Lit.aA l
 | [],n=>by simp
 |x::t,n=>by
  have b:=xz r t (n+kB r x);have d:=vq r x;simp only[Zw,Lit.aA];omega
theorem YJ(r:ah)(hb:r.size<=100000000):Pure prog 159 [.iv (da r)] (pI (tY r)):=by
 have A:=Lit.au r.body;have I:Lit.aA r.body<=r.size:=aaA _ _;have S:=oU r;have B:=kP (ay r);refine ae ab func159 Z (by decide) ntmps159 Z (by simp) Z ?_;refine gA Z ?_;refine az 0 r.body.length (Y8 _) (fun i=>⟨[(0,.iv (da r)),(3,pI (((r.body.take i).foldl (fun n l=>n+kB r l) (aC (ay r)).length:Nat))),(15,.iv (lits r.body)),(16,pI r.body.length),(17,pI i)],[],0⟩) (fun _=>True) [] ac
  (zW trivial) fun i J _=>?_
 have D:=xz r (r.body.take i) (aC (ay r)).length;have F:=Lit.sP r.body i;refine zJ Z Z (fun d=>?_) fun d=>?_
 .have d:=ci d;have u:=cI (g:=fun n l=>n+kB r l) (b:=(aC (ay r)).length) d;have G:=Lit.aI r.body i d;have y:=(r.body.getD i em).fy;have x:=vq r (r.body.getD i em);refine zJ Z Z (fun j=>?_) fun j=>?_
  .have j:(r.body.getD i em).kind=4:=by simpa using j
   rw[kB,am j]at u x;refine gA Z (zq [] (d79 r (r.body.getD i em).agg (by omega)) ?_);refine gA Z ⟨d,ac,[],zM (bv ⟨.of_eq (FN (by rw[u];rfl)),rfl,bv (bv (bv ac))⟩) ac⟩
  .have j: ¬(r.body.getD i em).kind=4:=by simpa using j
   rw[kB,be j]at u;refine gA Z ⟨d,ac,[],zM (bv ⟨.of_eq (FN (by rw[u];rfl)),rfl,bv (bv (bv ac))⟩) ac⟩
 .have d:=co d;refine gA Z (zL (.of_eq ?_));rw[Za d];rfl
section
section
variable {may:List aj->Expr->Bool} {more:List aj->eK->Bool} {body:List Lit}
theorem wj: ∀(n:Nat) (occ:List aj),bO (bM body) occ<n->cN (may (dT may more body n occ)) (more (dT may more body n occ)) (dT may more body n occ) body=jp
 |0,occ,h=>by omega
 |n+1,occ,h=>by
  cases hv:cN (may occ) (more occ) occ body with
  |none=>rw[gd hv];exact hv
  |some v=>
   rw[fZ hv];refine wj n _ ?_;obtain⟨g1,g2⟩:=mQ hv;have d:=oZ g1 g2;have b:bO (bM body) (occ++ [v])=bO (bM body) (b6 occ v):=by
    unfold bO;congr 2
    funext x
    congr 1;rw[ZN,aM,aM,cq,Zf,Zd]
   omega
theorem wq(occ:List aj):cN (may (cR may more body occ)) (more (cR may more body occ)) (cR may more body occ) body=jp:=by
 refine wj _ _ ?_;have b:=o5 (bM body) (occ++body.flatMap bR);have d:=jO body;omega
theorem qP: ∀(n:Nat) (occ:List aj),∀x∈occ,x∈dT may more body n occ
 |0,occ,x,h=>h
 |n+1,occ,x,h=>by
  cases hv:cN (may occ) (more occ) occ body with
  |none=>rw[gd hv];exact h
  |some v=>rw[fZ hv];exact qP n _ x (ZC _ h)
theorem qG{m1:Expr->Bool}{m2:eK->Bool}{occ:List aj}: ∀{l:List Lit},cN m1 m2 occ l=jp-> ∀x∈l,mB m1 m2 occ x=jp
 | [],_,x,hx=>by cases hx
 |y::r,h,x,hx=>by
  simp only[cN]at h;split at h
  .cases h
  .rename_i b;rcases Zj.1 hx with rfl|hx
   .exact b
   .exact qG h x hx
theorem wb{m1:Expr->Bool}{m2:eK->Bool}{occ:List aj}{v:aj}: ∀{l:List Lit},cN m1 m2 occ l=io v-> ∃x∈l,mB m1 m2 occ x=io v
 | [],h=>by cases h
 |y::r,h=>by
  simp only[cN]at h;split at h
  .rename_i w d;exact⟨y,Zh,d.trans h⟩
  .obtain⟨x,j,b⟩:=wb h;exact⟨x,Zg _ j,b⟩
variable (hmay: ∀a b:List aj,(∀x∈a,x∈b)-> ∀e,may a e=kw->may b e=kw) (hmore: ∀a b:List aj,(∀x∈a,x∈b)-> ∀e,more a e=kw->more b e=kw)
include hmay hmore
theorem Hn{occ C:List aj}(b: ∀x∈occ,x∈C){l:Lit}{v:aj}(h:mB (may occ) (more occ) occ l=io v)(hC:mB (may C) (more C) C l=jp):v∈C:=by
 have D: ∀y,y∉C->aE C y=lc:=fun y I=>dZ.2 I;have hnew:=(x7 h).2;refine aah fun F=>?_;unfold mB at h hC;by_cases d:(gl (may occ) occ l).2=kw
 .rw[am d]at h;simp only[Y2]at h;have B:(gl (may C) C l).2=kw:=by
   unfold gl at d h ⊢;split at d
   .cases d
   .rename_i G;rw[be G]at h ⊢;split at d
    .rename_i u;rw[am u]at h;have A:l.left.var=v:=h;rw[am ⟨u.1,by rw[A];exact D v F,hmay occ C b _ u.2.2⟩]
    .rename_i u;rw[be u]at h;split at d
     .rename_i j;rw[am j]at h;have A:l.right.var=v:=h;split
      .rfl
      .rw[am ⟨j.1,by rw[A];exact D v F,hmay occ C b _ j.2.2⟩]
     .cases d
  rw[am B]at hC;cases hC
 .rw[be d]at h;split at h
  .rename_i j;simp only[Y2]at h;split at hC
   .cases hC
   .rw[am ⟨j.1,by rw[h];exact D v F,hmore occ C b _ j.2.2⟩]at hC;cases hC
  .cases h
theorem qO{C:List aj}(hC:cN (may C) (more C) C body=jp): ∀(n:Nat) (occ:List aj),(∀x∈occ,x∈C)-> ∀x∈dT may more body n occ,x∈C
 |0,occ,h,x,hx=>h x hx
 |n+1,occ,h,x,hx=>by
  cases hv:cN (may occ) (more occ) occ body with
  |none=>rw[gd hv]at hx;exact h x hx
  |some v=>
   rw[fZ hv]at hx;refine qO hC n _ (fun y hy=>?_) x hx;rcases Zf.1 hy with hy|hy
   .exact h y hy
   .rw[Zd]at hy;subst hy;obtain⟨l,d,b⟩:=wb hv;exact Hn hmay hmore h b (qG hC l d)
theorem wm{d b:List aj}(h: ∀x∈d,x∈b): ∀x∈cR may more body d,x∈cR may more body b:=by
 refine qO hmay hmore (wq b) _ _ fun x hx=>?_;refine qP _ _ x ?_;rcases Zf.1 hx with hx|hx
 .exact ZC _ (h x hx)
 .exact aau _ hx
end
theorem lS(a b:List aj)(h: ∀x∈a,x∈b)(e:Expr)(hc:aU a e=kw):aU b e=kw:=by
 unfold aU at*
 rw[Zr] at*
 exact fun x d=>aM.2 (h x (aM.1 (hc x d)))
theorem DQ(a b:List aj)(h: ∀x∈a,x∈b)(e:Expr)(hc:c8 a e=kw):c8 b e=kw:=by
 unfold c8 at*
 cases hk:li (e.kind=2) with
 |true=>simp
 |false=>
  rw[hk,aag,Zo]at hc;rw[aag,Zo];exact⟨hc.1,aM.2 (h _ (aM.1 hc.2))⟩
theorem FY(out:List aj)(a b:List aj)(h: ∀x∈a,x∈b)(e:eK)(hc:jb out a e=kw):jb out b e=kw:=by
 unfold jb at*
 rw[Zr] at*
 intro x d;have:=hc x d;rw[aal,aal] at*
 rcases this with h1|h1|h1
 .exact .inl h1
 .exact .inr (.inl h1)
 .exact .inr (.inr (aM.2 (h _ (aM.1 h1))))
def yk(r:ah)(a:eK):List aj:=((aC (bc a)).map (·.1)).filter fun x=>aE (ay r) x
def B7(r:ah)(a:eK):List aj:=cR (fun b=>aU b) (fun _=>fun _=>lc) a.body (yk r a)
theorem P3{r:ah}{a:eK}{occ:List aj}(h:LO r a occ)(s:aj):aE (cR (fun occ=>aU occ) (fun _=>fun _=>lc) a.body occ) s=aE (B7 r a) s:=by
 have d: ∀x,x∈yk r a↔x∈occ:=fun x=>by
  unfold yk;rw[ZF,(ck (bc a)).2 x,aM,h.2 x]
 rw[ZN,aM,aM];exact⟨wm (more:=fun _=>fun _=>lc) lS (fun _ _ _ _ h=>h) (fun x b=>(d x).2 b) s,wm (more:=fun _=>fun _=>lc) lS (fun _ _ _ _ h=>h) (fun x b=>(d x).1 b) s⟩
def tg(r:ah)(m:NM):Bool:=m.any fun x=>!aE (ch r) x.1
theorem qs{r:ah}{m:NM}(h: ∀j,j<m.length-> ∀x,m[j]? =io x->aE (ch r) x.1=kw):tg r m=lc:=by
 refine ZU.2 fun x d=>?_;obtain⟨j,b⟩:=ZY d;rw[h j (Y4.1 b).1 x b];simp
theorem te{r:ah}{m:NM}{j:Nat}{x:(KC.str).K×Int}(h:m[j]? =io x)(b:aE (ch r) x.1=lc):tg r m=kw:=
 ZQ.2 ⟨x,Zv h,by rw[b];rfl⟩
def mH(r:ah)(a:eK):NM:=(aC (bc a)).filter fun x=>!aE ((lN r a).map (·.1)) x.1
def dN(r:ah)(lit:Int):Bool:=
 if lit<0 then tg r (aC (cJ r.head))
 else if(ak r lit).kind=4 then(lN r (ak r lit).agg).any (fun x=>!aE (B7 r (ak r lit).agg) x.1)||tg r (bump (mH r (ak r lit).agg) (ak r lit).a7)
 else tg r (aC (cf (ak r lit)))
theorem XS(a:Atom)(hb:a.ad.length<=100000000000):bV prog 135 [.mp 0,ag a.c] [.gK] (.bQ []) [(0,io (ct (aC (cJ a))))] 1:=
 bV.SR (d88 [] a (by simp;omega)) ⟨w5,ac⟩
theorem XR(l:Lit)(hb:l.size<=100000000000):bV prog 136 [.mp 0,ag l.c] [.gK] (.bQ []) [(0,io (ct (aC (cf l))))] 1:=
 bV.SR (d89 l [] (by simp;omega)) ⟨w5,ac⟩
theorem AD(f:aj->Bool)(s:aj): ∀(m:NM),bU .str (m.filter fun x=>f x.1) s 0=if f s=kw then bU .str m s 0 else 0
 | []=>by simp[bU]
 |(a,b)::r=>by
  have d:=AD f s r;cases hf:f a with
  |true=>
   rw[List.filter_cons_of_pos (by exact hf)];simp only[bU];split
   .rename_i h;subst h;rw[am hf]
   .exact d
  |false=>
   rw[List.filter_cons_of_neg (by simp[hf]),d];simp only[bU];split
   .rename_i h;split
    .rename_i j;subst j;rw[hf]at h;cases h
    .rfl
   .rfl
theorem Qc(r:ah)(a:eK)(s:aj):0<=bU .str (mH r a) s 0∧bU .str (mH r a) s 0<=rS (bc a) s:=by
 have b:=bB (bc a) s;have d:=AD (fun x=>!aE ((lN r a).map (·.1)) x) s (aC (bc a));unfold mH;rw[d,b];split<;>omega
set_option maxHeartbeats 2000000 in
theorem YG(r:ah)(lit:Int)(hl:lit<r.body.length)(hb:r.size<=10000000):Pure prog 170 [.iv (da r),pI lit] (pB (dN r lit)):=by
 have t0:=Lit.au r.body;have h0:Lit.aA r.body<=r.size:=aaA _ _;have q0:r.head.ad.length<=r.size:=Nat.le_add_right _ _;have y0:=F6 r;refine ae ab func170 Z (by decide) ntmps170 Z (by simp) Z ?_;refine gA Z (zq [] (d73 r (by omega)) ?_);refine zJ Z Z (fun F=>?_) fun F=>?_
 .have F:lit<0:=by simpa using F
  refine gA Z (zq [1] (XS r.head (by omega)) ?_);refine gA Z ?_;have e0:(aC (cJ r.head)).length<=1000000000000:=by have:=kP (cJ r.head);have:=iD r.head;omega
  refine jw (aC (cJ r.head)) (fun d=>⟨[(5,.mp 0),(76,.ptr 2 0)],[(0,io (ct (aC (ch r)))),(2,io (.cD .str Ba (aC (cJ r.head)) d jp))],3⟩) (fun d=> ∀j∈d,∀x,(aC (cJ r.head))[j]? =io x->aE (ch r) x.1=kw) [] (by simp)
   (zW (zC (hI Z Z (.inl Z) Z trivial))) fun d G=>?_
  refine nV Z ac (fV Z Z Z Z Z (by decide) (fun u=>?_) fun j x b B=>?_)
  .refine gA Z (zL (.of_eq ?_));refine(fP ?_:pB lc=_);rw[dN,am F,qs fun j B x b=>G j (u j B) x b]
  .have Y:=bB (ch r) x.1;have A:=cG (occ:=ch r) (s:=x.1);refine zJ Z Z (fun g1=>?_) fun g1=>?_
   .have g1:aE (ch r) x.1=lc:=by
     have:=zT g1;rw[A];simp;omega
    refine gA Z (zL (.of_eq ?_));refine(fP ?_:pB kw=_);rw[dN,am F,te b g1]
   .have g1:aE (ch r) x.1=kw:=by
     have:=zF g1;rw[A];simp;omega
    refine gA Z ?_
    exact⟨j,x,b,B,fun i hi y D=>by
     rcases Zj.1 hi with rfl|hi
     .rw[b]at D;cases D;exact g1
     .exact G i hi y D,[],zW (zC (hI Z Z (.inr Z) Z ac))⟩
 have F: ¬lit<0:=by simpa using F
 have hk:lit.toNat<r.body.length:=by omega
 have p0:=Lit.aI r.body lit.toNat hk;have r0:=(ak r lit).fy;have w0:(ak r lit).size<=Lit.aA r.body:=p0;have s0:=mY (ak r lit).agg;have n0:=pb (ak r lit);refine zE Z Z (fun I=>?_) fun I=>?_
 .have I: ¬(ak r lit).kind=4:=by simpa[ak]using I
  refine gA Z (zq [1] (XR (ak r lit) (by omega)) ?_);refine gA Z ?_;have e0:(aC (cf (ak r lit))).length<=1000000000000:=by have:=kP (cf (ak r lit));omega
  refine jw (aC (cf (ak r lit))) (fun d=>⟨[(5,.mp 0),(76,.ptr 3 0)],[(0,io (ct (aC (ch r)))),(3,io (.cD .str Ba (aC (cf (ak r lit))) d jp))],4⟩) (fun d=> ∀j∈d,∀x,(aC (cf (ak r lit)))[j]? =io x->aE (ch r) x.1=kw) [] (by simp)
   (zW (zC (hI Z Z (.inl Z) Z trivial))) fun d G=>?_
  refine nV Z ac (fV Z Z Z Z Z (by decide) (fun u=>?_) fun j x b B=>?_)
  .refine gA Z (zL (.of_eq ?_));refine(fP ?_:pB lc=_);rw[dN,be F,be I,qs fun j B x b=>G j (u j B) x b]
  .have Y:=bB (ch r) x.1;have A:=cG (occ:=ch r) (s:=x.1);refine zJ Z Z (fun g1=>?_) fun g1=>?_
   .have g1:aE (ch r) x.1=lc:=by
     have:=zT g1;rw[A];simp;omega
    refine gA Z (zL (.of_eq ?_));refine(fP ?_:pB kw=_);rw[dN,be F,be I,te b g1]
   .have g1:aE (ch r) x.1=kw:=by
     have:=zF g1;rw[A];simp;omega
    refine gA Z ?_
    exact⟨j,x,b,B,fun i hi y D=>by
     rcases Zj.1 hi with rfl|hi
     .rw[b]at D;cases D;exact g1
     .exact G i hi y D,[],zW (zC (hI Z Z (.inr Z) Z ac))⟩
 have I:(ak r lit).kind=4:=by simpa[ak]using I
 refine gA Z (HK [] (d161 r (ak r lit).agg (by omega)) Z Z Z Z Z Z Z fun q h' n' hR=>?_);obtain⟨ok,⟨occ,i0,o0⟩,rfl,rfl,rfl⟩:=hR;have a0: ∀s,aE ok s=aE (B7 r (ak r lit).agg) s:=fun s=>by rw[o0];exact P3 i0 s
 refine⟨_,rfl,?_⟩;have a1:=kP (bc (ak r lit).agg);have x0:(lN r (ak r lit).agg).length<=(aC (bc (ak r lit).agg)).length:=aae _ _;have v0:(mH r (ak r lit).agg).length<=(aC (bc (ak r lit).agg)).length:=aae _ _;have j0:=(ck (bc (ak r lit).agg)).1;refine gA Z (zq [] (d79 r (ak r lit).agg (by omega)) ?_);refine gA Z ?_;refine jw (lN r (ak r lit).agg) (fun d=>⟨[(0,.iv (da r)),(5,.mp 0),(7,.ptr 2 0),(8,.mp 3),(43,.ptr 5 0)],[(0,io (ct (aC (ch r)))),(2,io (an (ak r lit).c)),(3,io (ct (aC ok))),(5,io (.cD .str Ba (lN r (ak r lit).agg) d jp))],6⟩) (fun d=> ∀j∈d,∀x,(lN r (ak r lit).agg)[j]? =io x->aE (B7 r (ak r lit).agg) x.1=kw) [] (by simp)
  (zW (zC (zK (zC (hI Z Z (.inl Z) Z trivial))))) fun d G=>?_
 refine nV Z ac (fV Z Z Z Z Z (by decide) (fun u=>?_) fun j x b B=>?_);rotate_left
 .have Y:=bB ok x.1;have A:=cG (occ:=ok) (s:=x.1);have J:=a0 x.1;refine zJ Z Z (fun g1=>?_) fun g1=>?_
  .have g1:aE (B7 r (ak r lit).agg) x.1=lc:=by
    have:=zT g1;rw[<-J,A];simp;omega
   refine gA Z (zL (.of_eq ?_));refine(fP ?_:pB kw=_);rw[dN,be F,am I,ZQ.2 ⟨x,Zv b,by rw[g1];rfl⟩,abx]
  .have g1:aE (B7 r (ak r lit).agg) x.1=kw:=by
    have:=zF g1;rw[<-J,A];simp;omega
   refine gA Z ?_
   exact⟨j,x,b,B,fun i hi y D=>by
    rcases Zj.1 hi with rfl|hi
    .rw[b]at D;cases D;exact g1
    .exact G i hi y D,[],zW (zC (zK (zC (hI Z Z (.inr Z) Z ac))))⟩
 have hA:(lN r (ak r lit).agg).any (fun x=>!aE (B7 r (ak r lit).agg) x.1)=lc:=ZU.2 fun x b=>by
  obtain⟨j,B⟩:=ZY b;rw[G j (u j (Y4.1 B).1) x B];simp
 refine gA Z (zq [] (d127 (ak r lit).agg (by omega)) ?_);refine gA Z (zq [] (d79 r (ak r lit).agg (by omega)) ?_);refine gA Z ?_;refine jw (lN r (ak r lit).agg) (fun d=>⟨[(5,.mp 0),(6,.mp 6),(7,.ptr 2 0),(59,.ptr 8 0)],[(0,io (ct (aC (ch r)))),(2,io (an (ak r lit).c)),(6,io (ct ((ju (lN r (ak r lit).agg) d).foldl (fun m k=>pR .str m k) (aC (bc (ak r lit).agg))))),(8,io (.cD .str Ba (lN r (ak r lit).agg) d jp))],9⟩) (fun d=>d.Nodup∧ ∀j∈d,j<(lN r (ak r lit).agg).length) [] ⟨Z3,by simp⟩
  (zW (zC (zK (zC (hI Z Z (.inl Z) Z trivial))))) fun b0 f0=>?_
 obtain⟨c0,d0⟩:=f0;refine nV Z ac (fV Z Z Z Z Z (by decide) (fun S=>?_) fun j x b B=>?_);rotate_left
 .have hk:=nB (lN r (ak r lit).agg) b0 j x b;refine gA Z ⟨j,x,b,B,⟨aam.2 ⟨B,c0⟩,fun i hi=>(Zj.1 hi).elim (fun h=>h▸(Y4.1 b).1) (d0 i)⟩,[],zW (zC (zK (hM Z (by rw[hk,aax];rfl) Z (hI Z Z (.inr Z) Z ac))))⟩
 have k0:(ju (lN r (ak r lit).agg) b0).foldl (fun m k=>pR .str m k) (aC (bc (ak r lit).agg))=mH r (ak r lit).agg:=by
  rw[qM _ j0];unfold mH;congr 1
  funext x
  congr 1;rw[ZN,aM,aM,(mG _ b0 c0 d0 S).mem_iff]
 rw[k0];have m0:=Qc r (ak r lit).agg (ak r lit).a7;have g0:=eW (bc (ak r lit).agg) (ak r lit).a7;refine gA Z ?_;have e0:(bump (mH r (ak r lit).agg) (ak r lit).a7).length<=1000000000000:=by have:=xP (mH r (ak r lit).agg) (ak r lit).a7 (bU .str (mH r (ak r lit).agg) (ak r lit).a7 0+1);unfold bump;omega
 refine jw (bump (mH r (ak r lit).agg) (ak r lit).a7) (fun d=>⟨[(5,.mp 0),(76,.ptr 9 0)],[(0,io (ct (aC (ch r)))),(9,io (.cD .str Ba (bump (mH r (ak r lit).agg) (ak r lit).a7) d jp))],10⟩) (fun d=> ∀j∈d,∀x,(bump (mH r (ak r lit).agg) (ak r lit).a7)[j]? =io x->aE (ch r) x.1=kw) [] (by simp)
  (zW (zC (hI Z Z (.inl Z) Z trivial))) fun d G=>?_
 refine nV Z ac (fV Z Z Z Z Z (by decide) (fun u=>?_) fun j x b B=>?_)
 .refine gA Z (zL (.of_eq ?_));refine(fP ?_:pB lc=_);rw[dN,be F,am I,hA,aag,qs fun j B x b=>G j (u j B) x b]
 .have Y:=bB (ch r) x.1;have A:=cG (occ:=ch r) (s:=x.1);refine zJ Z Z (fun g1=>?_) fun g1=>?_
  .have g1:aE (ch r) x.1=lc:=by
    have:=zT g1;rw[A];simp;omega
   refine gA Z (zL (.of_eq ?_));refine(fP ?_:pB kw=_);rw[dN,be F,am I,hA,aag,te b g1]
  .have g1:aE (ch r) x.1=kw:=by
    have:=zF g1;rw[A];simp;omega
   refine gA Z ?_
   exact⟨j,x,b,B,fun i hi y D=>by
    rcases Zj.1 hi with rfl|hi
    .rw[b]at D;cases D;exact g1
    .exact G i hi y D,[],zW (zC (hI Z Z (.inr Z) Z ac))⟩
end
end Go.Proofs.YtflegjieadkonaaGreatDoor
namespace Go.Proofs.YtflegjieadkonaaGreatDoor
open Go Go.Al
def JR(a b:aj):Prop:=pM a<pM b
theorem Bj(a b:aj):Op.bytesLess a.toList b.toList=kw↔JR a b:=by
 rw[ByteArray.toList_eq,ByteArray.toList_eq,bytesLess_eq,decide_eq_true_eq];rfl
theorem BD{a b:aj}(h:pM a=pM b):a=b:=by rw[<-wX a,<-wX b,h]
theorem vo{a b c:aj}(h:JR a b)(k:JR b c):JR a c:=List.lt_trans h k
theorem kA(a:aj): ¬JR a a:=List.lt_irrefl _
theorem Ho{a b:aj}(h: ¬a=b)(k: ¬JR a b):JR b a:=by
 refine aah fun d=>h (BD (abZ ?_ ?_))
 .exact acj.1 d
 .exact acj.1 k
abbrev pW(l:List aj):Prop:=l.Pairwise JR
theorem tk: ∀{l:List aj} (_:pW l) (s:aj),pW (ins l s)
 | [],_,s=>List.pairwise_singleton _ _
 |x::r,h,s=>by
  obtain⟨j,u⟩:=aas.1 h;simp only[ins];split
  .exact h
  .rename_i d;split
   .rename_i b;have b:=(Bj x s).1 b;refine aas.2 ⟨fun y hy=>?_,tk u s⟩;rcases w4.1 hy with hy|rfl
    .exact j y hy
    .exact b
   .rename_i b;have b:JR s x:=Ho d fun h=>b ((Bj x s).2 h);refine aas.2 ⟨fun y hy=>?_,h⟩;rcases Zj.1 hy with rfl|hy
    .exact b
    .exact vo b (j y hy)
theorem jS{l:List aj}(h:pW l)(s:aj):pW (b6 l s):=by rw[q9];exact tk h s
theorem fj: ∀{m l:List aj} (_:pW l),pW (cv l m)
 | [],_,h=>h
 |x::r,_,h=>fj (m:=r) (jS h x)
theorem mo: ∀{a b:List aj},pW a->pW b->(∀x,x∈a↔x∈b)->a=b
 | [],[],_,_,_=>rfl
 | [],y::s,_,_,h=>by have:=(h y).2 Zh;cases this
 |x::r,[],_,_,h=>by have:=(h x).1 Zh;cases this
 |x::r,y::s,ha,hb,h=>by
  obtain⟨u,a2⟩:=aas.1 ha;obtain⟨A,B⟩:=aas.1 hb;have j:x=y:=by
   rcases Zj.1 ((h x).1 Zh) with h1|h1
   .exact h1
   .rcases Zj.1 ((h y).2 Zh) with h2|h2
    .exact h2.symm
    .exact absurd (vo (A x h1) (u y h2)) (kA _)
  subst j;rw[mo a2 B fun z=>?_];constructor
  .intro d;rcases Zj.1 ((h z).1 (Zg _ d)) with rfl|h3
   .exact absurd (u z d) (kA _)
   .exact h3
  .intro d;rcases Zj.1 ((h z).2 (Zg _ d)) with rfl|h3
   .exact absurd (A z d) (kA _)
   .exact h3
theorem fM{l:List aj}(h:l.Nodup):pW (eM l):=by
 have u:=ku (l.map pM);rw[<-uY]at u;have D:(eM l).Nodup:=by
  have F:((eM l).map pM).Perm (l.map pM):=by rw[uY];exact gU _
  have j:(l.map pM).Nodup:=List.Pairwise.map pM (fun a b d e=>d (BD e)) h;have:=F.nodup_iff.2 j;exact List.Pairwise.of_map pM (fun a b d e=>d (by rw[e])) this
 have x:(eM l).Pairwise fun a b=>pM a<=pM b:=(List.pairwise_map.1 u).imp fun{a b} d=>zT d;refine(List.Pairwise.and x D).imp fun{a b} d=>?_;obtain⟨y,A⟩:=d;exact aah fun B=>A (BD (abZ y (acj.1 B)))
theorem GJ{m:NM}{l:List aj}(hm:(m.map (·.1)).Nodup)(b:pW l)(h: ∀x,x∈m.map (·.1)↔x∈l):fe m=l:=by
 refine mo (fM hm) b fun x=>?_;rw[fe,gq];exact h x
theorem C8{occ l:List aj}(b:pW l)(h: ∀x,x∈occ↔x∈l):fe (aC occ)=l:=
 GJ (ck occ).1 b fun x=>((ck occ).2 x).trans (h x)
theorem r8{x:aj}: ∀{l:List Term} {a:List aj},x∈l.foldl lh a↔x∈a∨x∈l.flatMap fun t=>if t.kind=1 then[t.var] else[]
 | [],a=>by simp
 |t::r,a=>by
  rw[Zw,r8,ZO,Zf];unfold lh;split
  .rw[cq,Zd,or_assoc]
  .simp
theorem fQ{x:aj}{a:Atom}:x∈bg a↔x∈cJ a:=by
 unfold bg cJ;rw[r8];simp
mutual
theorem dq{x:aj}: ∀{e:Expr},x∈aH e↔x∈bC e
 | .mk k v _ _ args=>by
  simp only[aH,bC];split
  .rw[cq];simp
  .split
   .rw[r9];simp
   .rfl
theorem r9{x:aj}: ∀{l:List Expr} {a:List aj},x∈gu a l↔x∈a∨x∈jg l
 | [],a=>by simp[gu,jg]
 |e::r,a=>by
  simp only[gu,jg];rw[r9,ie,dq,Zf,or_assoc]
end
theorem jc{x:aj}{l:Lit}:x∈cm l↔x∈cf l:=by
 unfold cm cf;split
 .exact fQ
 .split
  .rw[ie,dq,dq,Zf]
  .rfl
theorem ft{x:aj}{a:eK}:x∈aF a↔x∈bc a:=by
 unfold aF bc;have key: ∀(l:List Lit) (b:List aj),x∈l.foldl JP b↔x∈b∨x∈l.flatMap cf:=by
  intro l
  induction l with
  |nil=>simp
  |cons y r ih=>
   intro b;rw[Zw,ih,ZO,Zf,ie,jc,or_assoc]
 rw[key,Zf];split
 .rfl
 .rw[dq]
theorem jJ{x:aj}{r:ah}:x∈outer r↔x∈ay r:=by
 unfold outer ay;have key: ∀(l:List Lit) (b:List aj),x∈l.foldl vh b↔x∈b∨x∈l.flatMap fa:=by
  intro l
  induction l with
  |nil=>simp
  |cons y r ih=>
   intro b;rw[Zw,ih,ZO,Zf];by_cases d:y.kind=4
   .rw[DV d,show fa y=cf y++ [y.a7] by unfold fa;rw[am d],cq,ie,jc,Zf,Zd];simp only[or_assoc]
   .rw[DW d,show fa y=cf y by unfold fa;rw[be d,ZE],ie,jc,or_assoc]
 rw[key,Zf,fQ]
theorem wM(a:Atom):pW (bg a):=by
 have key: ∀(l:List Term) (b:List aj),pW b->pW (l.foldl lh b):=by
  intro l
  induction l with
  |nil=>exact fun _ h=>h
  |cons t r ih=>
   intro b h;rw[Zw];refine ih _ ?_;unfold lh;split
   .exact jS h _
   .exact h
 exact key _ _ aaL
theorem B4(r:ah):pW (outer r):=by
 have key: ∀(l:List Lit) (b:List aj),pW b->pW (l.foldl vh b):=by
  intro l
  induction l with
  |nil=>exact fun _ h=>h
  |cons t r ih=>
   intro b h;rw[Zw];refine ih _ ?_;unfold vh;split
   .exact jS (fj h) _
   .exact fj h
 exact key _ _ (wM _)
theorem xq(r:ah):fe (aC (ay r))=outer r:=C8 (B4 r) fun _=>jJ.symm
theorem rB{a b:List aj}(h: ∀x,x∈a↔x∈b)(x:aj):aE a x=aE b x:=by
 rw[ZN,aM,aM];exact h x
theorem wK: ∀(e:Expr),pW (aH e)
 | .mk k v _ _ args=>by
  simp only[aH];split
  .exact jS aaL _
  .split
   .rw[lR];have key: ∀(l:List Expr) (b:List aj),pW b->pW (l.foldl (fun a e=>cv a (aH e)) b):=by
     intro l
     induction l with
     |nil=>exact fun _ h=>h
     |cons t r ih=>intro b h;exact ih _ (fj h)
    exact key _ _ aaL
   .exact aaL
theorem Cl(a:eK):pW (aF a):=by
 have key: ∀(l:List Lit) (b:List aj),pW b->pW (l.foldl JP b):=by
  intro l
  induction l with
  |nil=>exact fun _ h=>h
  |cons t r ih=>intro b h;exact ih _ (fj h)
 refine key _ _ ?_;split
 .exact aaL
 .exact wK _
theorem Fv(r:ah)(lit:Int):th r lit=mD r lit:=by
 unfold th mD;split
 .rfl
 .refine GJ (r5 (ck _).1) ((Cl _).sublist abH) fun x=>?_
  unfold lN;have u:=(ck (bc (ak r lit).agg)).2 x;rw[ZF,ft,rB (fun _=>jJ) x,<-u];constructor
  .intro h;obtain⟨y,j,rfl⟩:=ZD.1 h;obtain⟨b,d⟩:=ZF.1 j;exact⟨ZD.2 ⟨y,b,rfl⟩,d⟩
  .rintro⟨b,d⟩;obtain⟨y,j,rfl⟩:=ZD.1 b;exact ZD.2 ⟨y,ZF.2 ⟨j,d⟩,rfl⟩
end Go.Proofs.YtflegjieadkonaaGreatDoor
namespace Go.Proofs.YtflegjieadkonaaGreatDoor
open Go Go.Al Go.Proofs.Tryz
def kT(r:ah):List aj:=tp kw (outer r) r.body []
theorem c32(r:ah)(hb:4*r.size<=1000000000000):Pure prog 252 [ag r.c] (.iv (strs (kT r))):=by
 have hu:=hb;unfold ah.size at hu;refine ae ab func252 Z (by decide) ntmps252 Z (by simp) Z ?_;refine gA Z (zp (S7 r (by omega)) ?_);refine gA Z (zp ((c74 r.body [] (outer r) kw (by simp;omega)).le (aa:=[.iv (lits r.body),.iv (.v (.slice jp 0 0)),.iv (strs (outer r)),pB kw]) ⟨.refl _,.nil _ _,.refl _,.refl _,ac⟩) ?_);exact zU Z
def vt(r:ah)(lit:Int):List aj:=(aF (ak r lit).agg).foldl (fun k x=>if aE (outer r) x then b6 k x else k) []
def mE(r:ah)(lit:Int):List aj:=tp lc [] (ak r lit).ar (vt r lit)
theorem wa(p:aj->Bool): ∀(l k:List aj),(l.foldl (fun k x=>if p x then b6 k x else k) k).length<=k.length+l.length
 | [],k=>by simp
 |x::r,k=>by
  have b:=wa p r (if p x then b6 k x else k);have j:=jA k x;simp only[Zw,ZA];split at b<;>rename_i d<;>simp only[d,if_true,aaz,if_false]<;>omega
theorem Yn(r:ah)(lit:Int)(h0:0<=lit)(h1:lit<r.body.length)(hb:8*r.size<=1000000000000):Pure prog 253 [ag r.c,pI lit] (.iv (strs (mE r lit))):=by
 have hu:=hb;unfold ah.size at hu;have F:lit.toNat<r.body.length:=by omega
 have I:(ak r lit).size<=Lit.aA r.body:=Lit.aI r.body lit.toNat F;have B:=(ak r lit).fy;have D:=gr (ak r lit).agg;have G:=(ak r lit).size_eq;refine ae ab func253 Z (by decide) ntmps253 Z (by simp) Z ?_;refine gA Z (zp (S7 r (by omega)) ?_);refine gA Z (zp (Vp (ak r lit).agg (by omega)) ?_);refine gA Z ?_;refine az 0 (aF (ak r lit).agg).length (Y8 _) (fun i=>⟨[(5,.ptr 1 0),(6,.iv (strs (outer r))),(7,.iv (strs (((aF (ak r lit).agg).take i).foldl (fun k x=>if aE (outer r) x then b6 k x else k) []))),(8,.iv (strs (aF (ak r lit).agg))),(9,pI i)],[(1,io (an (ak r lit).agg.c1))],2⟩) (fun _=>True) [] ac
  ?_ fun i J _=>?_
 .refine zM (bv (bv ⟨.nil _ _,rfl,bv (bv ac)⟩)) ⟨⟨_,rfl,?_⟩,YY Z,l9 _ _,ac⟩;rw[tA];exact gi.cells ⟨.refl _,.refl _,.refl _,.refl _,.refl _,.refl _,.refl _,.refl _,.refl _,.iv (nS _),ac⟩
 have j:=wa (aE (outer r)) ((aF (ak r lit).agg).take i) [];simp only[aad,ZP]at j;refine zJ Z Z (fun d=>?_) fun d=>?_
 .have d:=ci d;have u:=cI (g:=fun k x=>if aE (outer r) x then b6 k x else k) (b:=[]) d;refine gA Z (bj (JE _ ((aF (ak r lit).agg).getD i em)) Z Z Z Z Z Z ?_);refine zJ Z Z (fun y=>?_) fun y=>?_
  .rw[am y]at u;refine gA Z (bj (Nt _ _ (by omega)) Z Z Z Z Z Z ?_);refine gA Z ⟨d,ac,[],zM (bv (bv ⟨.of_eq (by rw[u];rfl),rfl,bv (bv ac)⟩)) (zK ac)⟩
  .rw[be (by rw[y];simp)]at u;refine gA Z ⟨d,ac,[],zM (bv (bv ⟨.of_eq (by rw[u];rfl),rfl,bv (bv ac)⟩)) (zK ac)⟩
 .have d:=co d;have A:((aF (ak r lit).agg).take i).foldl (fun k x=>if aE (outer r) x then b6 k x else k) []=vt r lit:=l0 d;rw[A]at j ⊢;refine gA Z (zp ((c74 (ak r lit).ar (vt r lit) [] lc (by omega)).le (aa:=[.iv (lits (ak r lit).ar),.iv (strs (vt r lit)),.iv (.v (.slice jp 0 0)),pB lc]) ⟨.refl _,.refl _,.nil _ _,.refl _,ac⟩) ?_);exact zU Z
theorem EU{l:Lit}{k:List aj}(h:(dS l k).2=kw):((dS l k).1=l.left.var∨(dS l k).1=l.right.var)∧(dS l k).1∉k:=by
 unfold dS at h ⊢;split at h
 .cases h
 .rename_i j;rw[be j];split at h
  .rename_i b;rw[am b];exact⟨.inl Z,dZ.1 b.2.1⟩
  .rename_i b;rw[be b];by_cases d:l.right.kind=1∧(if l.left.kind=1 then aE k l.left.var else li (l.left.kind=2))=kw
   .rw[am d]at h ⊢;exact⟨.inr Z,dZ.1 (by simpa using h)⟩
   .rw[be d]at h;cases h
def jD(a:List aj×Bool)(l:Lit):List aj×Bool:=if(dS l a.1).2=kw then(b6 a.1 (dS l a.1).1,kw) else a
def nM(body:List Lit)(k:List aj):List aj×Bool:=body.foldl jD (k,lc)
def vg(body:List Lit):Nat->List aj->List aj
 |0,k=>k
 |n+1,k=>if(nM body k).2=kw then vg body n (nM body k).1 else(nM body k).1
theorem vT{body:List Lit}{n:Nat}{k:List aj}:vg body (n+1) k=if(nM body k).2=kw then vg body n (nM body k).1 else(nM body k).1:=rfl
def fO(r:ah):List aj:=vg r.body (3*r.body.length+1) (r.body.foldl ia [])
theorem Ko{c:List aj}{a:List aj×Bool}{l:Lit}(hc: ∀v∈ [l.left.var,l.right.var,l.a7],v∈c):
  (jD a l).1.length+bO c (jD a l).1<=a.1.length+bO c a.1∧bO c (jD a l).1<=bO c a.1∧((jD a l).2=kw->a.2=kw∨bO c (jD a l).1<bO c a.1):=by
 unfold jD;split
 .rename_i h;obtain⟨h1,b⟩:=EU h;have d:=oZ (hc _ (by rcases h1 with h1|h1<;>simp[h1])) b;have j:=jA a.1 (dS l a.1).1;exact⟨by dsimp only;omega,by dsimp only;omega,fun _=> .inr d⟩
 .exact⟨Y7 _,Y7 _,fun h=> .inl h⟩
theorem EH{c:List aj}: ∀{body:List Lit} {a:List aj×Bool},(∀l∈body,∀v∈ [l.left.var,l.right.var,l.a7],v∈c)->
  (body.foldl jD a).1.length+bO c (body.foldl jD a).1<=a.1.length+bO c a.1∧bO c (body.foldl jD a).1<=bO c a.1∧
  ((body.foldl jD a).2=kw->a.2=kw∨bO c (body.foldl jD a).1<bO c a.1)
 | [],a,_=>⟨Y7 _,Y7 _,fun h=> .inl h⟩
 |l::r,a,hc=>by
  obtain⟨j,u,b⟩:=Ko (a:=a) (hc l Zh);obtain⟨g1,g2,g3⟩:=EH (body:=r) (a:=jD a l) fun l d=>hc l (Zg _ d);simp only[Zw];refine⟨by omega,by omega,fun h=>?_⟩;rcases g3 h with g|g
  .rcases b g with h|h
   .exact .inl h
   .exact .inr (by omega)
  .exact .inr (by omega)
theorem c34(r:ah)(hb:4*r.size<=1000000000000):Pure prog 134 [ag r.c] (.iv (strs (fO r))):=by
 unfold ah.size at hb;have Y:=Lit.au r.body;have G:=iZ r.body [];have b0:=jO r.body;have f0:=o5 (bM r.body) (r.body.foldl ia []);simp only[aad]at G;refine ae ab func134 Z (by decide) ntmps134 Z (by simp) Z ?_;refine gA Z ?_;refine az 0 r.body.length (Y8 _) (fun i=>⟨[(1,.ptr 0 0),(3,.iv (strs ((r.body.take i).foldl ia []))),(4,pI i)],[(0,io (an r.c))],1⟩) (fun _=>True) [] ac
  (zM (bv ⟨.nil _ _,rfl,bv trivial⟩) (zK trivial)) fun i hi _=>?_
 refine zJ Z Z (fun y=>?_) fun y=>?_
 .have y:=ci y;have j:=cI (g:=ia) (b:=[]) y;have I:=iZ (r.body.take i) [];have hn:=Lit.b3 r.body i y;have a0:=cY (r.body.getD i em).atom;have g0:=(r.body.getD i em).size_eq;simp only[aad]at I;refine zJ Z Z (fun u=>?_) fun u=>?_
  .have u:(r.body.getD i em).kind=1:=by simpa using u
   rw[show ia ((r.body.take i).foldl ia []) (r.body.getD i em)=_ from am u]at j;refine gA Z (zp (QS (r.body.getD i em).atom (by omega)) ?_);refine gA Z (bj (U0 _ _ (by omega)) Z Z Z Z Z Z ?_);refine gA Z ⟨y,ac,[],zM (bv ⟨.of_eq (by rw[j];rfl),rfl,bv ac⟩) (zK ac)⟩
  .have u: ¬(r.body.getD i em).kind=1:=by simpa using u
   rw[show ia ((r.body.take i).foldl ia []) (r.body.getD i em)=_ from be u]at j;refine gA Z ⟨y,ac,[],zM (bv ⟨.of_eq (by rw[j];rfl),rfl,bv ac⟩) (zK ac)⟩
 have y:=co y;have J:(r.body.take i).foldl ia []=r.body.foldl ia []:=l0 y;rw[J];refine gA Z ?_;refine oA (σ:={x:List aj×Bool×Nat//fO r=(if x.2.1=kw then vg r.body (x.2.2+1) x.1 else x.1)∧(x.2.1=kw->bO (bM r.body) x.1<=x.2.2)∧x.1.length+bO (bM r.body) x.1<=(r.body.foldl ia []).length+bO (bM r.body) (r.body.foldl ia [])})
  (fun x=>⟨[(1,.ptr 0 0),(3,.iv (strs x.1.1)),(6,pB x.1.2.1)],[(0,io (an r.c))],1⟩) (fun x=>if x.1.2.1=kw then bO (bM r.body) x.1.1+1 else 0)
  ⟨(r.body.foldl ia [],kw,3*r.body.length),by simp[fO],fun _=>by dsimp only;omega,Y7 _⟩ [] (zM (bv (bv ⟨.rA Z,rfl,ac⟩)) (zK trivial)) ?_
 rintro⟨⟨k,more,f⟩,hx1,hx2,hx3⟩;dsimp only at hx1 hx2 hx3 ⊢;refine zJ Z Z (fun u=>?_) fun u=>?_
 .subst u;rw[am Z]at hx1;have d0:=hx2 Z;refine gA Z ?_;refine az 0 r.body.length (Y8 _) (fun i=>⟨[(1,.ptr 0 0),(3,.iv (strs ((r.body.take i).foldl jD (k,lc)).1)),(6,pB ((r.body.take i).foldl jD (k,lc)).2),(7,pI i)],[(0,io (an r.c))],1⟩) (fun _=>True) [] ac
   (zM (bv (bv ⟨.rA Z,rfl,bv trivial⟩)) (zK trivial)) fun i hi _=>?_
  have d:=EH (c:=bM r.body) (body:=r.body.take i) (a:=(k,lc)) fun l hl v I=>rI (abv hl) I;dsimp only at d;refine zJ Z Z (fun A=>?_) fun A=>?_
  .have A:=ci A;have j:=cI (g:=jD) (b:=(k,lc)) A;generalize c0:(r.body.take i).foldl jD (k,lc)=ka at d j ⊢;refine gA Z (zp (c78 (r.body.getD i em) ka.1) ?_);refine zJ Z Z (fun D=>?_) fun D=>?_
   .rw[show jD ka (r.body.getD i em)=_ from am D]at j;refine gA Z (bj (Nt ka.1 _ (by omega)) Z Z Z Z Z Z ?_);refine gA Z ⟨A,ac,[],zM (bv ⟨.of_eq (by rw[j];rfl),rfl,.rA (by rw[j]),rfl,bv ac⟩) (zK ac)⟩
   .rw[show jD ka (r.body.getD i em)=_ from be (by rw[D];simp)]at j;refine gA Z ⟨A,ac,[],zM (bv ⟨.of_eq (by rw[j];rfl),rfl,.of_eq (by rw[j];rfl),rfl,bv ac⟩) (zK ac)⟩
  .have A:=co A;have S:(r.body.take i).foldl jD (k,lc)=nM r.body k:=l0 A;rw[S]at d ⊢;refine gA Z ?_;refine⟨⟨((nM r.body k).1,(nM r.body k).2,f-1),?_,fun B=>?_,by dsimp only;omega⟩,[],?_,zW (zK ac)⟩
   .dsimp only;rw[hx1,vT];by_cases B:(nM r.body k).2=kw
    .have:=d.2.2 B;have F:f-1+1=f:=by simp at this;omega
     rw[am B,am B,F]
    .rw[be B,be B]
   .have:=d.2.2 B;simp at this;dsimp only;omega
   .dsimp only;split
    .rename_i B;have:=d.2.2 B;simp at this;simp;omega
    .simp
 .subst u;rw[be (by simp)]at hx1;refine gA Z (zL (.of_eq ?_));rw[hx1];rfl
end Go.Proofs.YtflegjieadkonaaGreatDoor
namespace Go.Proofs.YtflegjieadkonaaGreatDoor
open Go Go.Al
section
section
variable (stp:List aj->Lit->aj×Bool)
def gS(a:List aj×Bool)(l:Lit):List aj×Bool:=if(stp a.1 l).2=kw then(b6 a.1 (stp a.1 l).1,kw) else a
def gR(body:List Lit)(k:List aj):List aj×Bool:=body.foldl (gS stp) (k,lc)
def gN(body:List Lit):Nat->List aj->List aj
 |0,k=>k
 |n+1,k=>if(gR stp body k).2=kw then gN body n (gR stp body k).1 else(gR stp body k).1
variable {stp}
theorem HN: ∀(body:List Lit) (k:List aj),(body.foldl (gS stp) (k,kw)).2=kw
 | [],k=>rfl
 |l::r,k=>by
  rw[Zw];have: ∃b,gS stp (k,kw) l=(b,kw):=by
   unfold gS;split
   .exact⟨_,rfl⟩
   .exact⟨_,rfl⟩
  obtain⟨b,d⟩:=this;rw[d];exact HN r b
theorem ED: ∀{body:List Lit} {k:List aj},(body.foldl (gS stp) (k,lc)).2=lc->(body.foldl (gS stp) (k,lc)).1=k∧ ∀l∈body,(stp k l).2=lc
 | [],k,_=>⟨rfl,by simp⟩
 |l::r,k,h=>by
  rw[Zw]at h ⊢;cases hs:(stp k l).2 with
  |true=>
   have:gS stp (k,lc) l=(b6 k (stp k l).1,kw):=am hs;rw[this,HN]at h;cases h
  |false=>
   have:gS stp (k,lc) l=(k,lc):=be (by rw[hs];simp);rw[this]at h ⊢;obtain⟨b,d⟩:=ED h
   exact⟨b,fun x hx=>by
    rcases Zj.1 hx with rfl|hx
    .exact hs
    .exact d x hx⟩
theorem Gg: ∀(body:List Lit) (a:List aj×Bool),∀x∈a.1,x∈(body.foldl (gS stp) a).1
 | [],a,x,h=>h
 |l::r,a,x,h=>by
  rw[Zw];refine Gg r _ x ?_;unfold gS;split
  .exact cq.2 (.inl h)
  .exact h
theorem Mo{body:List Lit}: ∀(n:Nat) (k:List aj),∀x∈k,x∈gN stp body n k
 |0,k,x,h=>h
 |n+1,k,x,h=>by
  unfold gN;split
  .exact Mo n _ x (Gg body (k,lc) x h)
  .exact Gg body (k,lc) x h
theorem vB: ∀(body:List Lit) (a:List aj×Bool),pW a.1->pW (body.foldl (gS stp) a).1
 | [],a,h=>h
 |l::r,a,h=>by
  rw[Zw];refine vB r _ ?_;unfold gS;split
  .exact jS h _
  .exact h
theorem A2{body:List Lit}: ∀(n:Nat) (k:List aj),pW k->pW (gN stp body n k)
 |0,k,h=>h
 |n+1,k,h=>by
  unfold gN;split
  .exact A2 n _ (vB body (k,lc) h)
  .exact vB body (k,lc) h
variable (hnew: ∀(k:List aj) (l:Lit),(stp k l).2=kw->(stp k l).1∈ [l.left.var,l.right.var,l.a7]∧(stp k l).1∉k)
include hnew
theorem HM{c:List aj}: ∀{body:List Lit} {a:List aj×Bool},(∀l∈body,∀v∈ [l.left.var,l.right.var,l.a7],v∈c)->
  bO c (body.foldl (gS stp) a).1<=bO c a.1∧((body.foldl (gS stp) a).2=kw->a.2=kw∨bO c (body.foldl (gS stp) a).1<bO c a.1)
 | [],a,_=>⟨Y7 _,fun h=> .inl h⟩
 |l::r,a,hc=>by
  have b:bO c (gS stp a l).1<=bO c a.1∧((gS stp a l).2=kw->a.2=kw∨bO c (gS stp a l).1<bO c a.1):=by
   unfold gS;split
   .rename_i h;obtain⟨g1,g2⟩:=hnew _ _ h;have:=oZ (hc l Zh _ g1) g2;exact⟨by dsimp only;omega,fun _=> .inr this⟩
   .exact⟨Y7 _,fun h=> .inl h⟩
  obtain⟨g1,g2⟩:=HM (body:=r) (a:=gS stp a l) fun l d=>hc l (Zg _ d);rw[Zw];refine⟨by omega,fun h=>?_⟩;rcases g2 h with g3|g3
  .rcases b.2 g3 with g4|g4
   .exact .inl g4
   .exact .inr (by omega)
  .exact .inr (by omega)
theorem Mn{body:List Lit}: ∀(n:Nat) (k:List aj),bO (bM body) k<n-> ∀l∈body,(stp (gN stp body n k) l).2=lc
 |0,k,h,_,_=>by omega
 |n+1,k,h,l,b=>by
  unfold gN;cases hr:(gR stp body k).2 with
  |true=>
   rw[am Z];refine Mn n _ ?_ l b;obtain⟨_,g2⟩:=HM hnew (c:=bM body) (body:=body) (a:=(k,lc)) fun l b v d=>rI b d;rcases g2 hr with g3|g3
   .cases g3
   .unfold gR;dsimp only at g3;omega
  |false=>
   rw[be (by simp)];obtain⟨g1,g2⟩:=ED hr;unfold gR;rw[g1];exact g2 l b
end
theorem qF{m1:Expr->Bool}{m2:eK->Bool}{occ:List aj}: ∀{l:List Lit},(∀x∈l,mB m1 m2 occ x=jp)->cN m1 m2 occ l=jp
 | [],_=>rfl
 |y::r,h=>by
  simp only[cN,h y Zh];exact qF fun x b=>h x (Zg _ b)
section
variable {stp:List aj->Lit->aj×Bool} {may:List aj->Expr->Bool} {more:List aj->eK->Bool} {body:List Lit}
variable (hE: ∀(k:List aj) (l:Lit),mB (may k) (more k) k l=if(stp k l).2=kw then io (stp k l).1 else jp)
variable (hmay: ∀a b:List aj,(∀x∈a,x∈b)-> ∀e,may a e=kw->may b e=kw) (hmore: ∀a b:List aj,(∀x∈a,x∈b)-> ∀e,more a e=kw->more b e=kw)
include hE
theorem O5(k:List aj)(l:Lit)(h:(stp k l).2=kw):(stp k l).1∈ [l.left.var,l.right.var,l.a7]∧(stp k l).1∉k:=by
 have:=hE k l;rw[am h]at this;exact x7 this
include hmay hmore
theorem Ml{C:List aj}(hC: ∀l∈body,mB (may C) (more C) C l=jp): ∀(b:List Lit) (a:List aj×Bool),(∀l∈b,l∈body)->(∀x∈a.1,x∈C)-> ∀x∈(b.foldl (gS stp) a).1,x∈C
 | [],a,_,h,x,hx=>h x hx
 |l::r,a,hb,h,x,hx=>by
  rw[Zw]at hx;refine Ml hC r _ (fun l j=>hb l (Zg _ j)) (fun y d=>?_) x hx;unfold gS at d;split at d
  .rename_i u;rcases cq.1 d with d|rfl
   .exact h y d
   .have:=hE a.1 l;rw[am u]at this;exact Hn hmay hmore h this (hC l (hb l Zh))
  .exact h y d
theorem Mm{C:List aj}(hC: ∀l∈body,mB (may C) (more C) C l=jp): ∀(n:Nat) (k:List aj),(∀x∈k,x∈C)-> ∀x∈gN stp body n k,x∈C
 |0,k,h,x,hx=>h x hx
 |n+1,k,h,x,hx=>by
  unfold gN at hx;have b:=Ml hE hmay hmore hC body (k,lc) (fun _ h=>h) h;split at hx
  .exact Mm hC n _ b x hx
  .exact b x hx
theorem p3{k occ:List aj}(d: ∀x,x∈k↔x∈occ++body.flatMap bR)(x:aj):x∈gN stp body (3*body.length+1) k↔x∈cR may more body occ:=by
 constructor
 .refine Mm hE hmay hmore (C:=cR may more body occ) (qG (wq occ)) _ _ (fun y b=>?_) x;exact qP _ _ y ((d y).1 b)
 .refine qO hmay hmore (C:=gN stp body (3*body.length+1) k) (qF fun l j=>?_) _ _ (fun y b=>Mo _ _ y ((d y).2 b)) x;have u:=o5 (bM body) k;have A:=jO body;rw[hE,Mn (O5 hE) _ _ (by omega) l j,be (by simp)]
end
theorem uj{x:aj}: ∀{l:List Lit} {a:List aj},x∈l.foldl ia a↔x∈a∨x∈l.flatMap bR
 | [],a=>by simp
 |t::r,a=>by
  rw[Zw,uj,ZO,Zf];by_cases b:t.kind=1
  .rw[show ia a t=cv a (bg t.atom) from am b,show bR t=cJ t.atom from am b,ie,fQ,or_assoc]
  .rw[show ia a t=a from be b,show bR t=[] from be b];simp
theorem vS: ∀(l:List Lit) (a:List aj),pW a->pW (l.foldl ia a)
 | [],a,h=>h
 |t::r,a,h=>by
  rw[Zw];refine vS r _ ?_;unfold ia;split
  .exact fj h
  .exact h
theorem Fi{k:List aj}{e:Expr}(h:e.kind=1):lU k (aH e)=aE k e.var:=by
 rw[pg h];simp[lU]
theorem q6(k:List aj)(e:Expr):lU k (aH e)=aU k e:=by
 rw[ZN,Nd];unfold aU;rw[Zr];exact⟨fun h x b=>aM.2 (h x (dq.2 b)),fun h x b=>aM.1 (h x (dq.1 b))⟩
theorem Du(k:List aj)(l:Lit):kj l k=gl (aU k) k l:=by
 unfold kj gl;split
 .rfl
 .have b:l.left.kind=1->aU k l.left=aE k l.left.var:=fun h=>by rw[<-q6,Fi h]
  have d:l.right.kind=1->aU k l.right=aE k l.right.var:=fun h=>by rw[<-q6,Fi h]
  simp only[q6];by_cases j:l.left.kind=1<;>by_cases u:l.right.kind=1<;>simp[j,u,b,d]
theorem MJ{may:Expr->Bool}{k:List aj}{l:Lit}(h:(gl may k l).2=kw):l.kind=3:=by
 unfold gl at h;split at h
 .cases h
 .rename_i b;exact aah fun d=>b (.inl d)
theorem JJ(out:List aj)(r:ah)(k:List aj)(a:eK)(ho: ∀x,x∈out↔x∈ay r):sv a k out=(!aE k a.var&&jb (ay r) k a):=by
 unfold sv jb;congr 1;rw[ZN,Zr,Zr];have key: ∀x,(!(aE out x&&(!aE k x&&!li (x=a.var))))=(li (x=a.var)||(!aE (ay r) x||aE k x)):=fun x=>by
  rw[rB ho x];cases aE (ay r) x<;>cases aE k x<;>cases li (x=a.var)<;>rfl
 constructor
 .intro h x b;rw[<-key];exact h x (ft.2 b)
 .intro h x b;rw[key];exact h x (ft.1 b)
theorem I4(r:ah)(k:List aj)(l:Lit):mB (aU k) (jb (ay r) k) k l=if(fC kw (outer r) k l).2=kw then io (fC kw (outer r) k l).1 else jp:=by
 unfold mB fC;by_cases b:l.kind=4
 .have d: ¬(gl (aU k) k l).2=kw:=fun h=>by have:=MJ h;omega
  rw[be d,am (c:=kw=kw∧l.kind=4) ⟨rfl,b⟩];dsimp only;rw[JJ (outer r) r k l.agg fun _=>jJ];show(if l.kind=4∧aE k l.a7=lc∧jb (ay r) k l.agg=kw then io l.a7 else jp)=if(!aE k l.a7&&jb (ay r) k l.agg)=kw then io l.a7 else jp;cases aE k l.a7<;>cases jb (ay r) k l.agg<;>simp[b]
 .rw[be (c:=l.kind=4∧_) (fun h=>b h.1),be (c:=kw=kw∧_) (fun h=>b h.2),Du]
theorem Ll(k:List aj)(l:Lit):mB (c8 k) (fun _=>lc) k l=if(dS l k).2=kw then io (dS l k).1 else jp:=by
 unfold mB;rw[be (c:=l.kind=4∧_) (fun h=>Bool.noConfusion h.2.2)];have:(if(gl (c8 k) k l).2=kw then io (gl (c8 k) k l).1 else jp)=if(dS l k).2=kw then io (dS l k).1 else jp:=by
  unfold gl dS c8;split
  .rfl
  .by_cases b:l.left.kind=1<;>by_cases a2:l.right.kind=1<;>by_cases a3:l.left.kind=2<;>by_cases a4:l.right.kind=2<;>cases a5:aE k l.left.var<;>cases a6:aE k l.right.var<;>simp_all
 exact this
theorem yp(own:Bool)(out:List aj)(body:List Lit): ∀(n:Nat) (k:List aj),AV own out body n k=gN (fC own out) body n k
 |0,k=>rfl
 |n+1,k=>by
  rw[yo,yp own out body n];rfl
theorem Ap(body:List Lit): ∀(n:Nat) (k:List aj),vg body n k=gN (fun k l=>dS l k) body n k
 |0,k=>rfl
 |n+1,k=>by
  rw[vT,Ap body n];rfl
theorem told_plain(r:ah):fe (aC (rX r))=fO r:=by
 unfold fO;rw[Ap];refine C8 (A2 _ _ (vS _ _ aaL)) fun x=>?_;exact(p3 (may:=fun b=>c8 b) (more:=fun _=>fun _=>lc) Ll DQ (fun _ _ _ _ h=>h) (fun y=>by rw[uj];simp) x).symm
end
end Go.Proofs.YtflegjieadkonaaGreatDoor
namespace Go.Proofs
open Go.Shelf
def Tryz.Ek:Go.Shelf.Ren:=⟨fun|190=>91|125=>122|258=>121|128=>152|129=>153|302=>143|303=>144|304=>145|305=>146|306=>147|307=>148|308=>149|309=>150|310=>151|333=>180|329=>181|330=>182|334=>183|335=>184|336=>185|344=>213|n=>n,fun|31=>53|9=>9|3=>3|46=>179|0=>0|51=>203|53=>205|4=>4|183=>196|182=>195|131=>50|5=>5|218=>233|222=>237|228=>280|229=>281|n=>n,fun|n=>n⟩
theorem Tryz.Hu:Go.Proofs.Lays.n190 Tryz.prog Tryz.Ek:={
 mixed:=by kernel_rfl
 f125:=Tryz.func122.trans (congrArg io (by kernel_rfl))
 f128:=Tryz.func152.trans (congrArg io (by kernel_rfl))
 f129:=Tryz.func153.trans (congrArg io (by kernel_rfl))
 f190:=Tryz.func91.trans (congrArg io (by kernel_rfl))
 f258:=Tryz.func121.trans (congrArg io (by kernel_rfl))
 f302:=Tryz.func143.trans (congrArg io (by kernel_rfl))
 f303:=Tryz.func144.trans (congrArg io (by kernel_rfl))
 f304:=Tryz.func145.trans (congrArg io (by kernel_rfl))
 f305:=Tryz.func146.trans (congrArg io (by kernel_rfl))
 f306:=Tryz.func147.trans (congrArg io (by kernel_rfl))
 f307:=Tryz.func148.trans (congrArg io (by kernel_rfl))
 f308:=Tryz.func149.trans (congrArg io (by kernel_rfl))
 f309:=Tryz.func150.trans (congrArg io (by kernel_rfl))
 f310:=Tryz.func151.trans (congrArg io (by kernel_rfl))
 f329:=Tryz.func181.trans (congrArg io (by kernel_rfl))
 f330:=Tryz.func182.trans (congrArg io (by kernel_rfl))
 f333:=Tryz.func180.trans (congrArg io (by kernel_rfl))
 f334:=Tryz.func183.trans (congrArg io (by kernel_rfl))
 f335:=Tryz.func184.trans (congrArg io (by kernel_rfl))
 f336:=Tryz.func185.trans (congrArg io (by kernel_rfl))
 f344:=Tryz.func213.trans (congrArg io (by kernel_rfl))
 t0:=Tryz.underlying0
 a0:=Tryz.isAgg0
 z0:=Tryz.sizeOf0
 v0:=Tryz.zeroValue0
 t3:=Tryz.underlying3
 a3:=Tryz.isAgg3
 z3:=Tryz.sizeOf3
 v3:=Tryz.zeroValue3
 t4:=Tryz.underlying4
 a4:=Tryz.isAgg4
 z4:=Tryz.sizeOf4
 v4:=Tryz.zeroValue4
 t5:=Tryz.underlying5
 a5:=Tryz.isAgg5
 z5:=Tryz.sizeOf5
 v5:=Tryz.zeroValue5
 t9:=Tryz.underlying9
 a9:=Tryz.isAgg9
 z9:=Tryz.sizeOf9
 v9:=Tryz.zeroValue9
 t31:=Tryz.underlying53
 a31:=Tryz.isAgg53
 z31:=Tryz.sizeOf53
 v31:=Tryz.zeroValue53
 t46:=Tryz.underlying179
 a46:=Tryz.isAgg179
 z46:=Tryz.sizeOf179
 v46:=Tryz.zeroValue179
 t51:=Tryz.underlying203
 a51:=Tryz.isAgg203
 z51:=Tryz.sizeOf203
 v51:=Tryz.zeroValue203
 t53:=Tryz.underlying205
 a53:=Tryz.isAgg205
 z53:=Tryz.sizeOf205
 v53:=Tryz.zeroValue205
 t131:=Tryz.underlying50
 a131:=Tryz.isAgg50
 z131:=Tryz.sizeOf50
 v131:=Tryz.zeroValue50
 t182:=Tryz.underlying195
 a182:=Tryz.isAgg195
 z182:=Tryz.sizeOf195
 v182:=Tryz.zeroValue195
 t183:=Tryz.underlying196
 a183:=Tryz.isAgg196
 z183:=Tryz.sizeOf196
 v183:=Tryz.zeroValue196
 t218:=Tryz.underlying233
 a218:=Tryz.isAgg233
 z218:=Tryz.sizeOf233
 v218:=Tryz.zeroValue233
 t222:=Tryz.underlying237
 a222:=Tryz.isAgg237
 z222:=Tryz.sizeOf237
 v222:=Tryz.zeroValue237
 t228:=Tryz.underlying280
 a228:=Tryz.isAgg280
 z228:=Tryz.sizeOf280
 v228:=Tryz.zeroValue280
 t229:=Tryz.underlying281
 a229:=Tryz.isAgg281
 z229:=Tryz.sizeOf281
 v229:=Tryz.zeroValue281}
theorem YtflegjieadkonaaGreatDoor.Kr:YtflegjieadkonaaGreatDoor.kq:=
 ⟨fun j b0 a0 x w u b d=>Any.slices_Sort_string Tryz.Hu j b0 a0 x w u b d,fun p a0 w=>Any.slices_Sort_string_none Tryz.Hu p a0 w⟩
end Go.Proofs
namespace Go.Proofs.YtflegjieadkonaaGreatDoor
open Go Go.Al
theorem fL{α:Type}[Inhabited α]{f:α->List IV}(h: ∀x,jy ((f x).map .iv)=kw)(l:List α):allOnes ((Zp l.length).map fun k=>(f (l.getD k em)).map PV.iv)=kw:=by rw[oP];exact wx h l
def Prog.size(p:Prog):Nat:=p.aD.length+(p.aD.map fun d=>d.types.length).sum+p.rules.length+(p.rules.map ah.size).sum
theorem GQ{α:Type}[Inhabited α](f:α->Nat): ∀(l:List α) (i:Nat),i<l.length->f (l.getD i em)<=(l.map f).sum
 |x::r,0,_=>by simp
 |x::r,i+1,h=>by
  have:=GQ f r i (by simpa using h);simp only[aap,Zm,aaO];omega
theorem AT(i sz n:Nat): ∀l:List IV,iU i sz n (l.map .iv)
 | []=>trivial
 |x::r=>⟨ac,AT i sz n r⟩
theorem xK{α:Type}(i sz n b:Nat)(l:List α)(f:α->List IV):(aG b l f).xS i sz n:=by
 intro k e j p d u;rw[Y9,Zb]at d;obtain⟨x,_,rfl⟩:=d;rw[Y9,Zb]at u;obtain⟨y,_,rfl⟩:=u;exact⟨y,rfl⟩
theorem U3(r:ah)(hb:r.size<=10000000):Pure Tryz.prog 80 [ag r.c] (.iv (strs (outer r))):=xq r▸c29 Kr r hb
theorem X6(r:ah)(hb:r.size<=10000000):Pure Tryz.prog 98 [ag r.c] (.iv (strs (fO r))):=told_plain r▸c33 Kr r hb
end Go.Proofs.YtflegjieadkonaaGreatDoor
namespace Go.Proofs.YtflegjieadkonaaGreatDoor
open Go.Proofs.Tryz
open Go
section
set_option maxHeartbeats 2000000
theorem HA: ∃j,prog.info? 245=io j∧j.size=2:=by
 have h:(prog.info? 245).map (fun i=>i.size)=io 2:=by kernel_rfl
 rw[Zb]at h;exact h
theorem Qi:liesAt prog prog.depth 247 (4/prog.cellsOf 247) 0 245 1=kw:=by kernel_rfl
theorem QR(b:Nat)(w:World)(h0:w.cell? ⟨b,0,jp⟩=io (.pointer (io ⟨b,0,jp⟩))):
  Calls prog 260 #[.pointer (io ⟨b,0,jp⟩)] w fun e u=>e= .returned (.tuple #[])∧u=w:=by
 obtain⟨j,d,_⟩:=HA
 go_enter func260,ntmps260
 go_wp2
 rw[Lib.run_neq_ptr_same w _ underlying242 d]
 go_wp2
 go_end0
 exact⟨rfl,rfl⟩
theorem MP(b:Nat)(w:World)(h0:w.cell? ⟨b,0,jp⟩=io (.pointer jp))(d:w.shape? b=io (247,4))(y:w.frozen? ⟨b,0,jp⟩=lc):
  Calls prog 260 #[.pointer (io ⟨b,0,jp⟩)] w fun e A=>e= .returned (.tuple #[])∧A=w.setCell ⟨b,0,jp⟩ (.pointer (io ⟨b,0,jp⟩)):=by
 obtain⟨j,x,u⟩:=HA
 go_enter func260,ntmps260
 go_wp2
 rw[Lib.run_to_unsafe w ⟨b,0,jp⟩ underlying242 underlying327 x (by rw[u];decide) d (by show 0<4;decide)];simp only[Result.andThen];rw[Oper.upon_value]
 go_wp2
 rw[run_callFunc_extern func272 (by kernel_rfl) (by kernel_rfl) (by kernel_rfl) (e:=Extern.AbiNoEscape.same) (by kernel_rfl)];rw[Lib.run_noEscape];simp only[Result.andThen];rw[Oper.upon_value]
 go_wp2
 rw[Lib.run_from_unsafe w ⟨b,0,jp⟩ underlying327 underlying242 x d Qi];simp only[Result.andThen];rw[Oper.upon_value]
 go_wp2
 go_end0
 exact⟨rfl,rfl⟩
theorem UZ:prog.cellsOf 5=1:=by kernel_rfl
theorem QY(b g cap:Nat)(p x y:Value)(d:Array Value)(l:List UInt8)(w:World)(D:w.heap[b]? =io (.cells #[p,.slice (io ⟨g,0,jp⟩) l.length cap,x,y] 247 (0,0)))(hg:w.heap[g]? =io (.cells d 5 (0,0)))
  (hl:l.length<=d.size) (I:l.length<=cap) (F:cap<=maxLen) (A: ∀(j:Nat) (x:UInt8),l[j]? =io x->d.getD j undef= .int .u8 (x.toNat:Int)) (h0:l≠ []):
  Calls prog 220 #[.pointer (io ⟨b,0,jp⟩)] w fun e w'=>e= .returned (.string ⟨l.toArray⟩)∧w'=w.drew.freeze ⟨g,0,jp⟩ l.length:=by
 have a0:l.length≠0:=by simpa using h0
 have c1:w.drew.cell? ⟨b,1,jp⟩=io (.slice (io ⟨g,0,jp⟩) l.length cap):=by
  have:w.drew.heap[b]? =io (.cells #[p,.slice (io ⟨g,0,jp⟩) l.length cap,x,y] 247 (0,0)):=D;rw[Lib.cell_of_heap this];rfl
 have S:(Builtin.unsafeSliceData_ #[243] 306 #[.slice (io ⟨g,0,jp⟩) l.length cap]).run prog w.drew= .ok (.pointer (io ⟨g,0,jp⟩)) w.drew:=
  Lib.run_unsafeSliceData_row _ _ _ _ _ _ (by omega)
 have Y:(Builtin.unsafeString_ #[306,3] 9 #[.pointer (io ⟨g,0,jp⟩),.int .i64 l.length]).run prog w.drew= .ok (.string ⟨l.toArray⟩) (w.drew.freeze ⟨g,0,jp⟩ l.length):=by
  refine Lib.run_unsafeString_row w.drew 306 3 9 5 underlying306 UZ g d.size (by have u:w.drew.heap[g]? =io (.cells d 5 (0,0)):=hg;simp[World.shape?,u]) l h0 (by omega) (by unfold maxLen at F;omega) ?_;intro j x J;have B:j<d.size:=by have:=(Y4.1 J).1;omega
  have:=A j x J;rw[Y0,ZV B]at this;show w.drew.cell? _=_;have u:w.drew.heap[g]? =io (.cells d 5 (0,0)):=hg;rw[Al.iE,Zq];simp only[World.cell?,u];simpa[B]using this
 have G:prog.follows .mixedOrders=kw:=rfl
 go_enter func220,ntmps220
 go_wp2
 go_region_o
 all_goals(go_wp2;go_ret;exact⟨rfl,rfl⟩)
theorem U7(b:Nat)(p x y:Value)(w:World)(d:w.heap[b]? =io (.cells #[p,.slice jp 0 0,x,y] 247 (0,0))):
  Calls prog 220 #[.pointer (io ⟨b,0,jp⟩)] w fun e B=>e= .returned (.string ⟨#[]⟩)∧B=w.drew:=by
 have A:(W:World)->(Builtin.unsafeString_ #[306,3] 9 #[.pointer jp,.int .i64 0]).run prog W= .ok (.string .empty) W:=fun W=>Lib.run_unsafeString_none W _ _ _ jp
 have c1:w.drew.cell? ⟨b,1,jp⟩=io (.slice jp 0 0):=by
  have:w.drew.heap[b]? =io (.cells #[p,.slice jp 0 0,x,y] 247 (0,0)):=d;rw[Lib.cell_of_heap this];rfl
 have u:(Builtin.unsafeSliceData_ #[243] 306 #[.slice jp 0 0]).run prog w.drew= .ok (.pointer jp) w.drew:=rfl;have j:prog.follows .mixedOrders=kw:=rfl
 go_enter func220,ntmps220
 go_wp2
 go_region_o
 all_goals(go_wp2;go_ret;exact⟨rfl,rfl⟩)
end
end Go.Proofs.YtflegjieadkonaaGreatDoor
namespace Go.Proofs.YtflegjieadkonaaGreatDoor
open Go Go.Al Go.Proofs.Tryz
def Ns(c:Nat):Bool:=(li (97<=c)&&li (c<=122))||((li (65<=c)&&li (c<=90))||((li (48<=c)&&li (c<=57))||decide (c=95)))
def okB(b:UInt8):Bool:=Ns b.toNat
def hd(s:aj):Int:=((s.data.toList.getD 0 0).toNat:Int)
def pz(s:aj)(b hi:Int):Bool:=!li (s=⟨#[]⟩)&&(li (s.size<=32)&&(li (b<=hd s)&&(li (hd s<=hi)&&s.data.toList.all okB)))
theorem Lb{c:Nat}(h:Ns c=kw):c<128:=by
 simp only[Ns,aal,Zo,decide_eq_true_eq]at h;omega
theorem GV{s:aj}(h: ¬s=⟨#[]⟩):0<s.size:=by
 refine Nat.pos_of_ne_zero fun b=>h ?_;have:s.data= #[]:=Array.eq_empty_of_size_eq_zero b;cases s;simp_all
theorem Ys(c:Nat):Pure prog 215 [.iv (.v (.int .i32 (c:Int)))] (pB (!Ns c)):=by
 refine ae ab func215 Z (by decide) ntmps215 Z (by simp) Z ?_
 repeat' (first|(refine gA Z (zI (fun _=>?_) (fun _=>?_)))|(refine gA Z (zL (.of_eq ?_))))
 all_goals(refine(fP ?_:pB _=pB _))
 all_goals(simp only[abq,abu,decide_eq_true_eq,decide_eq_false_iff_not] at*;rw[ZN];simp[Ns];omega)
theorem MD{s:aj}{i:Nat}(h:i<s.size)(hb:okB (s.data.toList.getD i 0)=kw):Utf8.decode s i=((s.data.toList.getD i 0).toNat,1):=by
 have b:(s[i]'h)=s.data.toList.getD i 0:=by
  have:i<s.data.toList.length:=by simpa using h
  rw[YZ,Y3 this];simp;rfl
 have:=decode_ascii s i h (by rw[b];exact Lb hb);rw[this,b]
theorem UX{s:aj}{i:Nat}(h:i<s.size)(hb:okB (s.data.toList.getD i 0)=lc):Ns (Utf8.decode s i).1=lc:=by
 by_cases d:(s.data.toList.getD i 0).toNat<128
 .have b:(s[i]'h)=s.data.toList.getD i 0:=by
   have:i<s.data.toList.length:=by simpa using h
   rw[YZ,Y3 this];simp;rfl
  have:=decode_ascii s i h (by rw[b];exact d);rw[this,b];exact hb
 .have b:(s.get! (i+0)).toNat=(s.data.toList.getD i 0).toNat:=by
   have:i<s.data.toList.length:=by simpa using h
   rw[YZ,Y3 this];simp[ByteArray.get!,getElem!_pos,h]
  have:128<=(Utf8.decode s i).1:=by
   simp only[Utf8.decode,b,be d]
   repeat' split
   all_goals(dsimp only[Utf8.runeError];(try simp only[Zo,decide_eq_true_eq] at*);omega)
  cases hk:Ns (Utf8.decode s i).1 with
  |false=>rfl
  |true=>have:=Lb hk;omega
def Ia(s:aj):Int:=tm (fun b=>!okB b) s.data.toList
theorem d217(s:aj):bV prog 259 [pS s,.dt (.func 215) [] [],pB kw] [] (pI (Ia s)) [] 0:=by
 have A:s.data.toList.length=s.size:=by simp
 refine aB ab func259 Z (by decide) ntmps259 Z (by simp) ?_;refine gA Z ?_;refine AY ab Z Z Z Z Z Z Z ?_;refine gA Z ?_;refine az 0 s.size (Y8 _) (fun i=>⟨[(0,pS s),(1,.dt (.func 215) [] []),(2,pB kw),(10,.ptr 0 0)],[(0,io (.eO s i))],1⟩) (fun i=>(s.data.toList.take i).any (fun b=>!okB b)=lc) [] (by simp)
  (zW ⟨⟨_,rfl,.of_eq Z⟩,YY Z,ac,ac⟩) fun i B x=>?_
 refine gA Z ?_;refine oz Z Z Z Z Z Z (fun j=>?_) (fun j=>?_)
 .have d:s.data.toList.length<=i:=by omega
  rw[Ia,iK (any_none x d)];refine gA Z (zD [] Z (zW ac))
 .have u:i<s.data.toList.length:=by omega
  have y:s.data.toList.getD i em=s.data.toList.getD i 0:=rfl;refine gA Z (zp (Ys (Utf8.decode s i).1) ?_);refine zJ Z Z (fun d=>?_) fun d=>?_
  .have d:Ns (Utf8.decode s i).1=lc:=by simpa using d
   have hb:okB (s.data.toList.getD i 0)=lc:=by
    cases hk:okB (s.data.toList.getD i 0) with
    |false=>rfl
    |true=>
     rw[MD j hk]at d;exact absurd (hk.symm.trans d) (by simp)
   rw[Ia,jf x u (by rw[y,hb];rfl)];refine gA Z (zD [] Z (zW ac))
  .have d:Ns (Utf8.decode s i).1=kw:=by simpa using d
   have hb:okB (s.data.toList.getD i 0)=kw:=by
    cases hk:okB (s.data.toList.getD i 0) with
    |true=>rfl
    |false=>exact absurd ((UX j hk).symm.trans d) (by simp)
   have hd:=MD j hb;refine gA Z ⟨j,(aW x u).2 (by rw[y,hb];rfl),[],zW ⟨⟨_,rfl,.of_eq (by rw[hd];rfl)⟩,YY Z,ac,ac⟩⟩
theorem Q9(l:List UInt8):(l.any fun b=>!okB b)=!l.all okB:=by
 induction l with
 |nil=>rfl
 |cons x r ih=>simp only[abW,List.all_cons,ih];cases okB x<;>rfl
theorem d203(s:aj):bV prog 242 [pS s,.dt (.func 215) [] []] [] (pI (Ia s)) [] 0:=by
 refine aB ab func242 Z (by decide) ntmps242 Z (by simp) ?_;refine gA Z (zq [] (d217 s) ?_);refine gA Z (zD [] Z (zW ac))
theorem d180(s:aj):bV prog 214 [pS s,.dt (.func 215) [] []] [] (pB (!s.data.toList.all okB)) [] 0:=by
 refine aB ab func214 Z (by decide) ntmps214 Z (by simp) ?_;refine gA Z (zq [] (d203 s) ?_);refine gA Z (zD [] Z (zM ⟨.of_eq (fP ((jZ _ _).trans (Q9 _))),rfl,ac⟩ ac))
theorem Xb(s:aj)(x hi:Int):Pure prog 187 [pS s,.iv (.v (.int .u8 x)),.iv (.v (.int .u8 hi))] (pB (pz s x hi)):=by
 refine ae ab func187 Z (by decide) ntmps187 Z (by simp) Z ?_;refine zE Z Z (fun b=>?_) fun b=>?_
 .have b:s=⟨#[]⟩:=zT b;refine gA Z (zL (.of_eq ?_));refine(fP ?_:pB _=pB _);subst b;rfl
 have b: ¬s=⟨#[]⟩:=zF b;have y:=GV b;refine zE Z Z (fun d=>?_) fun d=>?_
 .have d:32<s.size:=zN d;refine gA Z (zL (.of_eq ?_));refine(fP ?_:pB _=pB _);have: ¬s.size<=32:=by omega
  simp[pz,this]
 have d:s.size<=32:=by have:=zF d;omega
 refine zE Z Z (fun j=>?_) fun j=>?_
 .have j:hd s<x:=zT j;refine gA Z (zL (.of_eq ?_));refine(fP ?_:pB _=pB _);have: ¬x<=hd s:=by omega
  simp[pz,this]
 have j:x<=hd s:=by have: ¬hd s<x:=zF j;omega
 refine zJ Z Z (fun u=>?_) fun u=>?_
 .have u:hi<hd s:=zT u;refine gA Z (zL (.of_eq ?_));refine(fP ?_:pB _=pB _);have: ¬hd s<=hi:=by omega
  simp[pz,this]
 have u:hd s<=hi:=by have: ¬hd s>hi:=zF u;omega
 refine gA Z (zq [] (d180 s) ?_);refine gA Z (zL (.of_eq ?_));refine(fP ?_:pB _=pB _);simp[pz,b,d,j,u]
def PB:List aj:=[⟨#[114,101,108,97,116,105,111,110]⟩,⟨#[110,111,116]⟩,⟨#[110,117,109]⟩,⟨#[115,121,109]⟩,⟨#[109,111,100]⟩,⟨#[99,111,117,110,116]⟩,⟨#[115,117,109]⟩,⟨#[109,105,110]⟩,⟨#[109,97,120]⟩]
def DE(s:aj):Bool:=PB.any fun x=>li (s=x)
def ep(s:aj):Bool:=!DE s&&pz s 97 122
def ei(s:aj):Bool:=pz s 65 90
theorem Gt(s:aj):Pure prog 218 [pS s] (pB (ei s)):=by
 refine ae ab func218 Z (by decide) ntmps218 Z (by simp) Z ?_;refine gA Z (zp (Xb s 65 90) ?_);exact zU Z
theorem X0(s:aj):Pure prog 156 [pS s] (pB (ep s)):=by
 refine ae ab func156 Z (by decide) ntmps156 Z (by simp) Z ?_
 repeat' (first|(refine gA Z (zI (fun _=>?_) (fun _=>?_)))|(refine gA Z (zp (Xb s 97 122) ?_))|(refine gA Z (zL (.of_eq ?_))))
 all_goals(refine(fP ?_:pB _=pB _))
 all_goals(simp only[ep,DE,PB,abW,List.any_nil, *];rfl)
section
theorem Rel.FT{M:Mem}{N:Nm}{U:Nat->Prop}{h h2:AH}{w:World}(hr:Rel M N U h w)(e: ∀i,AH.get h2 i=h.get i):Rel M N U h2 w:=
 ⟨hr.fi,fun i o b=>hr.used i o (by rw[<-e];exact b),fun i o b=>hr.fh i o (by rw[<-e];exact b),fun i o b=>hr.obj i o (by rw[<-e];exact b),fun i j o p b d=>hr.inj i j o p (by rw[<-e];exact b) (by rw[<-e];exact d)⟩
theorem Ext.FT{M d:Mem}{N j:Nm}{U u:Nat->Prop}{h0 h h2:AH}{w x:World}(b:Ext M N U h0 w d j u h x)(e: ∀i,AH.get h2 i=h.get i):Ext M N U h0 w d j u h2 x:=
 ⟨b.os,b.tape,b.output,b.size,b.iT,b.r6,b.kh,b.nm,b.ule,fun i o y=>b.jr i o (by rw[<-e];exact y)⟩
structure WS where
 fr:Bool
 l:List UInt8
 bad:Bool
 br:Int
abbrev WS.uQ(w:WS)(i j:Nat):AO:= .cells [.fA w.fr i,.sl j 0 w.l.length 1,pB w.bad,pI w.br] (io 247)
abbrev WS.c(w:WS):AO:=w.uQ 0 1
abbrev WS.O(w:WS):List AO:=[w.c,.bT w.l 5]
abbrev WS.H(w:WS):AH:=[(0,io (w.uQ 0 2)),(2,io (.bT w.l 5))]
theorem d204(w:WS):bV prog 260 [.ptr 0 0] w.O (.bQ []) [(0,io ({w with fr:=lc}:WS).c),(1,io (.bT w.l 5))] 2:=by
 refine⟨bH func260 Z (by decide),fun M N wd vs J y hv=>?_⟩;obtain⟨v,rfl⟩: ∃v,vs=[v]:=by
  cases vs with
  |nil=>cases y
  |cons v r=>cases r with
   |nil=>exact⟨v,rfl⟩
   |cons a b=>simp at y
 have S:VR M N (· <2) (.ptr 0 0) v:=hv 0 _ Z;have Y:v= .pointer (io ⟨N.aK 0,0,jp⟩):=by cases S;rfl
 subst Y;have G:AH.get (fv 0 w.O) 0=io w.c:=rfl;obtain⟨c,T,D,h2,h3,h4,h5⟩:=J.obj 0 _ G;have hT:=h5 247 Z;subst hT;have A:c.size=4:=h3.symm;have a0:N.aK 0<wd.heap.size:=(aaj.1 D).1;have I:c.getD 0 undef= .pointer (bif w.fr then jp else io ⟨N.aK 0,0,jp⟩):=by
  have:=h4 0 _ Z;generalize c.getD 0 undef=x at this;cases this;rfl
 have d:wd.cell? ⟨N.aK 0,0,jp⟩=io (c.getD 0 undef):=by
  rw[Lib.cell_of_heap D,Y0,ZV (by omega)];rfl
 rw[I]at d;show Calls prog 260 #[_] wd _;cases hfr:w.fr with
 |false=>
  rw[hfr]at d;refine(QR (N.aK 0) wd d).mono ?_;rintro e w' ⟨rfl,rfl⟩;have hw:({w with fr:=lc}:WS)=w:=by cases w;simp_all
  rw[hw];exact⟨_,M,N,.bQ [],_,2,rfl,⟨rfl,rfl,rfl⟩,.refl _ _ _ _ _,J,.bQ [] #[] Z (by simp)⟩
 |true=>
  rw[hfr]at d;refine(MP (N.aK 0) wd d (by simp[World.shape?,D,A]) (Lib.frozen_of_heap D 0)).mono ?_;rintro e w' ⟨rfl,rfl⟩;have B:(wd.setCell ⟨N.aK 0,0,jp⟩ (.pointer (io ⟨N.aK 0,0,jp⟩))).heap[N.aK 0]? =io (.cells (c.setIfInBounds 0 (.pointer (io ⟨N.aK 0,0,jp⟩))) 247 (0,0)):=by
   simp[World.setCell,ZT,D]
  obtain⟨g1,g2⟩:=J.write (i:=0) (o0:=w.c) G Z (wd.setCell ⟨N.aK 0,0,jp⟩ (.pointer (io ⟨N.aK 0,0,jp⟩))) ({w with fr:=lc}:WS).c Z Z Z (by simp[World.setCell]) (fun b hb=>by
   simp only[World.setCell,ZT]
   rw[be (fun e=>hb e.symm)]) ⟨_,247,B,by simpa using h2,by simp[A],fun j p F=>by
    match j,F with
    |0,F=>
     cases F;rw[Y0,ZK];simp only[if_true,A];exact .fA lc 0 (by show 0<2;decide)
    |j+1,F=>
     have:=h4 (j+1) p (by exact F);rw[Y0,ZK,be (by omega)];rw[Y0]at this
     exact this,h5⟩
  have u: ∀i,AH.get [(0,io ({w with fr:=lc}:WS).c),(1,io (.bT w.l 5))] i=AH.get ((0,io ({w with fr:=lc}:WS).c)::fv 0 w.O) i:=by
   intro i
   match i with
   |0=>rfl
   |1=>rfl
   |i+2=>rfl
  exact⟨_,M,N,.bQ [],_,2,rfl,⟨rfl,rfl,rfl⟩,Ext.FT g1 u,Rel.FT g2 u,.bQ [] #[] Z (by simp)⟩
theorem d150(w:WS):bV prog 220 [.ptr 0 0] w.O (pS ⟨w.l.toArray⟩) [] 2:=by
 refine⟨bH func220 Z (by decide),fun M N wd vs hr G hv=>?_⟩;obtain⟨v,rfl⟩: ∃v,vs=[v]:=by
  cases vs with
  |nil=>cases G
  |cons v r=>cases r with
   |nil=>exact⟨v,rfl⟩
   |cons a b=>simp at G
 have m0:VR M N (· <2) (.ptr 0 0) v:=hv 0 _ Z;have n0:v= .pointer (io ⟨N.aK 0,0,jp⟩):=by cases m0;rfl
 subst n0;have k0:AH.get (fv 0 w.O) 0=io w.c:=rfl;have I:AH.get (fv 0 w.O) 1=io (.bT w.l 5):=rfl;obtain⟨c,T,Y,h2,h3,h4,h5⟩:=hr.obj 0 _ k0;have hT:=h5 247 Z;subst hT;have g0:c.size=4:=h3.symm;have d0: ∀(x1:Value),c.getD 1 undef=x1-> ∃p x y,c= #[p,x1,x,y]:=by
  intro x1 B;refine⟨c.getD 0 undef,c.getD 2 undef,c.getD 3 undef,?_⟩;apply Array.ext
  .simpa using g0
  .intro i u o0
   match i,u with
   |0,u=>simp[Y0,u]
   |1,u=>rw[<-B];simp[Y0,u]
   |2,u=>simp[Y0,u]
   |3,u=>simp[Y0,u]
   |i+4,u=>omega
 have A:=h4 1 _ Z;have J:=hr.obj 1 _ I;show Calls prog 220 #[_] wd _;by_cases F:w.l=[]
 .have B:c.getD 1 undef= .slice jp 0 0:=by
   generalize c.getD 1 undef=x at A;rw[F]at A;generalize S:PV.sl 1 0 ([]:List UInt8).length 1=q at A;cases A with
   |sl i off len sz a0 h h0 Y hc he=>cases S;simp at h0
   |pV i sz h=>rfl
   |_=>cases S
  obtain⟨p,x,y,rfl⟩:=d0 _ B;refine(U7 (N.aK 0) p x y wd Y).mono ?_;rintro e w' ⟨rfl,rfl⟩;refine⟨.string ⟨#[]⟩,M,N,pS ⟨w.l.toArray⟩,[],2,rfl,⟨rfl,rfl,rfl⟩,?_,?_,.iv _ _ (by rw[F];exact .v _)⟩
  .have:=Ext.drew (M:=M) (N:=N) (U:=(· <w.O.length)) (h:=fv 0 w.O) (w:=wd);exact⟨this.os,this.tape,this.output,this.size,this.iT,this.r6,this.kh,this.nm,this.ule,fun i o u=>(nomatch u)⟩
  .exact⟨hr.drew.fi,fun i o u=>(nomatch u),fun i o u=>(nomatch u),fun i o u=>(nomatch u),fun i j o p u=>(nomatch u)⟩
 .have c0:0<w.l.length:=List.length_pos_iff.2 F;obtain⟨a0,B,b0,i0⟩: ∃a0,c.getD 1 undef= .slice (io ⟨N.aK 1,0,jp⟩) w.l.length a0∧w.l.length<=a0∧a0<=maxLen:=by
   generalize c.getD 1 undef=x at A;generalize hn:w.l.length=n at A c0;generalize S:PV.sl 1 0 n 1=q at A;cases A with
   |sl i off len sz a0 h h0 F hc he=>cases S;exact⟨a0,by simp,F,hc⟩
   |pV i sz h=>cases S;omega
   |_=>cases S
  rcases J with J|⟨f0,q1,q2,q3,q4⟩
  .exact absurd J F
  obtain⟨p,x,y,rfl⟩:=d0 _ B;refine(QY (N.aK 0) (N.aK 1) a0 p x y f0 w.l wd Y q1 q3 b0 i0 q4 F).mono ?_;rintro e w' ⟨rfl,rfl⟩;have e0:(AO.bT w.l 5).real=kw:=by cases hll:w.l with
   |nil=>exact absurd hll F
   |cons=>rfl
  have hk: ∀b,b≠N.aK 1->(wd.drew.freeze ⟨N.aK 1,0,jp⟩ w.l.length).heap[b]? =wd.heap[b]? :=by
   intro b hb;unfold World.freeze;split
   .rfl
   .show(wd.heap.modify _ _)[b]? =_;simp only[ZT];rw[be (fun e=>hb e.symm)]
  have D:(wd.drew.freeze ⟨N.aK 1,0,jp⟩ w.l.length).os=wd.os∧(wd.drew.freeze ⟨N.aK 1,0,jp⟩ w.l.length).tape=wd.tape∧(wd.drew.freeze ⟨N.aK 1,0,jp⟩ w.l.length).output=wd.output∧(wd.drew.freeze ⟨N.aK 1,0,jp⟩ w.l.length).heap.size=wd.heap.size:=by
   unfold World.freeze;split
   .exact⟨rfl,rfl,rfl,rfl⟩
   .exact⟨rfl,rfl,rfl,by show(wd.heap.modify _ _).size=_;simp⟩
  refine⟨_,M,N,pS ⟨w.l.toArray⟩,[],2,rfl,⟨rfl,rfl,rfl⟩,?_,?_,.iv _ _ (.v _)⟩
  .exact⟨D.1,D.2.1,D.2.2.1,by rw[D.2.2.2];exact Y7 _,fun b hb hn=>hk b fun e=>hn 1 _ I e0 e.symm,.refl _,fun b c Y h2=>by simp[Y]at h2,.refl _ _,fun _ h=>h,fun i o u=>(nomatch u)⟩
  .refine⟨fun b d hb=>?_,fun i o u=>(nomatch u),fun i o u=>(nomatch u),fun i o u=>(nomatch u),fun i j o p u=>(nomatch u)⟩;have j0:b≠N.aK 1:=fun e=>by
    have:=hr.fh 1 _ I e0;rw[<-e,hb]at this;cases this
   exact(hr.fi b d hb).mono (hk b j0)
section
variable {nt:Nat} {Q:AQ} {k:List KI} {s:AS}
def wS(s:AS)(b:WS)(i j:Nat):AS:=match s with|⟨f,h,n⟩=>⟨f,(i,io (b.uQ i n))::(n,io (.bT b.l 5))::(i,jp)::(j,jp)::h,n+1⟩
theorem Vu(s:AS)(b:WS)(i j:Nat):wS s b i j=⟨s.f,(i,io (b.uQ i s.nx))::(s.nx,io (.bT b.l 5))::(i,jp)::(j,jp)::s.h,s.nx+1⟩:=by cases s;rfl
def Vt(s:AS)(b:WS)(i j m:Nat):AS:=match s with|⟨f,h,n⟩=>⟨f,(i,io (b.uQ i n))::(n,io (.bT b.l 5))::(i,jp)::(j,jp)::(m,jp)::h,n+1⟩
theorem Td(s:AS)(b:WS)(i j m:Nat):Vt s b i j m=⟨s.f,(i,io (b.uQ i s.nx))::(s.nx,io (.bT b.l 5))::(i,jp)::(j,jp)::(m,jp)::s.h,s.nx+1⟩:=by cases s;rfl
theorem CX{o:Oper}{c:Call}{g:FuncId}{args d:List PV}{w B:WS}{r:PV}{i j:Nat}{s':AS}(hc:bV prog g (.ptr 0 0::args) w.O r B.H 3)(ho:o.op= .call c)(ha:bY s.f c=io (g,.ptr i 0::d))
  (hi:s.h.get i=io (w.uQ i j)) (hj:s.h.get j=io (.bT w.l 5)) (hlt:Zk i s.nx=kw) (hlj:Zk j s.nx=kw) (hne:Zt i j=lc) (has:d=args) (hlow:bq 0 args=kw) (hr:r.low 0=kw)
  (hp:putDst nt o r (wS s B i j)=io s'):OT prog nt o s (fun t=>t=s'):=by
 have u:i≠j:=fun e=>by subst e;simp at hne
 have y:([i,j]:List Nat).Nodup:=by simp[u]
 have D: ∀x∈ [i,j],x<s.nx:=by
  intro x A;simp only[Zj,aby,or_false]at A;rcases A with rfl|rfl
  .exact YY hlt
  .exact YY hlj
 subst has;have b: ∀σ,dL σ d=d:=fun σ=>iY σ d hlow;refine nD ho ha hc y D ?_ ?_ ?_
 .simp only[Zm,Z2,hi,hj];rfl
 .simp only[dL,b];rfl
 .rintro q F n0 ⟨rfl,rfl,rfl⟩;rw[PV.jW _ _ hr];rw[Vu]at hp;exact⟨s',hp,rfl⟩
theorem WC{all rest:List Oper}{o:Oper}{c:Call}{g:FuncId}{args b:List PV}{w d:WS}{r:PV}{i j:Nat}{s':AS}(hc:bV prog g (.ptr 0 0::args) w.O r d.H 3)(ho:o.op= .call c)(hg:o.guard=jp)(ha:bY s.f c=io (g,.ptr i 0::b))
  (hi:s.h.get i=io (w.uQ i j)) (hj:s.h.get j=io (.bT w.l 5)) (hlt:Zk i s.nx=kw) (hlj:Zk j s.nx=kw) (hne:Zt i j=lc) (has:b=args) (hlow:bq 0 args=kw) (hr:r.low 0=kw)
  (hp:putDst nt o r (wS s d i j)=io s') (h:GO prog nt (.ops all rest::k) Q s'):GO prog nt (.ops all (o::rest)::k) Q s:=
 dJ hg (CX hc ho ha hi hj hlt hlj hne has hlow hr hp) fun t u=>by subst u;exact h
theorem j6{all rest:List Oper}{o:Oper}{c:Call}{g:FuncId}{args b:List PV}{w d:WS}{r:PV}{i j:Nat}{s':AS}(hc:bV prog g (.ptr 0 0::args) w.O r d.H 3)(h:GO prog nt (.ops all rest::k) Q s')(ho:o.op= .call c:=by exact rfl)(hg:o.guard=jp:=by exact rfl)(ha:bY s.f c=io (g,.ptr i 0::b):=by exact rfl)(hi:s.h.get i=io (w.uQ i j):=by exact rfl)(hj:s.h.get j=io (.bT w.l 5):=by exact rfl)(hlt:Zk i s.nx=kw:=by exact rfl)(hlj:Zk j s.nx=kw:=by exact rfl)(hne:Zt i j=lc:=by exact rfl)(has:b=args:=by exact rfl)(hlow:bq 0 args=kw:=by exact rfl)(hr:r.low 0=kw:=by exact rfl)(hp:putDst nt o r (wS s d i j)=io s':=by exact rfl):GO prog nt (.ops all (o::rest)::k) Q s:=WC (hc:=hc) (ho:=ho) (hg:=hg) (ha:=ha) (hi:=hi) (hj:=hj) (hlt:=hlt) (hlj:=hlj) (hne:=hne) (has:=has) (hlow:=hlow) (hr:=hr) (hp:=hp) (h:=h)
theorem GA{o:Oper}{c:Call}{g:FuncId}{b:List aj}{w d:WS}{i j m n:Nat}{s':AS}(hc:bV prog g [.ptr 0 0,.sl 2 0 b.length 1] [w.c,.bT w.l 5,aG 1 b cM] (.bQ []) [(0,io (d.uQ 0 3)),(3,io (.bT d.l 5))] 4)(ho:o.op= .call c)(ha:bY s.f c=io (g,[.ptr i 0,.sl m 0 n 1]))
  (hi:s.h.get i=io (w.uQ i j)) (hj:s.h.get j=io (.bT w.l 5)) (hm:s.h.get m=io (aG 1 b cM)) (hn:n=b.length) (hlt:Zk i s.nx=kw) (hlj:Zk j s.nx=kw) (hlm:Zk m s.nx=kw) (hnd:b4 [i,j,m]=kw)
  (hp:putDst nt o (.bQ []) (Vt s d i j m)=io s'):OT prog nt o s (fun t=>t=s'):=by
 have y: ∀x∈ [i,j,m],x<s.nx:=by
  intro x u;simp only[Zj,aby,or_false]at u;rcases u with rfl|rfl|rfl
  .exact YY hlt
  .exact YY hlj
  .exact YY hlm
 subst hn;refine nD ho ha hc (dA hnd) y ?_ Z ?_
 .simp only[Zm,Z2,hi,hj,hm,bA];rfl
 .rintro q A n0 ⟨rfl,rfl,rfl⟩;rw[Td]at hp;exact⟨s',hp,rfl⟩
theorem go_wp{all rest:List Oper}{o:Oper}{c:Call}{g:FuncId}{b:List aj}{w d:WS}{i j m n:Nat}{s':AS}(hc:bV prog g [.ptr 0 0,.sl 2 0 b.length 1] [w.c,.bT w.l 5,aG 1 b cM] (.bQ []) [(0,io (d.uQ 0 3)),(3,io (.bT d.l 5))] 4)(ho:o.op= .call c)(hg:o.guard=jp)(ha:bY s.f c=io (g,[.ptr i 0,.sl m 0 n 1]))
  (hi:s.h.get i=io (w.uQ i j)) (hj:s.h.get j=io (.bT w.l 5)) (hm:s.h.get m=io (aG 1 b cM)) (hn:n=b.length) (hlt:Zk i s.nx=kw) (hlj:Zk j s.nx=kw) (hlm:Zk m s.nx=kw) (hnd:b4 [i,j,m]=kw)
  (hp:putDst nt o (.bQ []) (Vt s d i j m)=io s')
  (h:GO prog nt (.ops all rest::k) Q s'):GO prog nt (.ops all (o::rest)::k) Q s:=
 dJ hg (GA hc ho ha hi hj hm hn hlt hlj hlm hnd hp) fun t u=>by subst u;exact h
theorem kU{all rest:List Oper}{o:Oper}{c:Call}{g:FuncId}{b:List aj}{w d:WS}{i j m n:Nat}{s':AS}(hc:bV prog g [.ptr 0 0,.sl 2 0 b.length 1] [w.c,.bT w.l 5,aG 1 b cM] (.bQ []) [(0,io (d.uQ 0 3)),(3,io (.bT d.l 5))] 4)(h:GO prog nt (.ops all rest::k) Q s')(ho:o.op= .call c:=by exact rfl)(hg:o.guard=jp:=by exact rfl)(ha:bY s.f c=io (g,[.ptr i 0,.sl m 0 n 1]):=by exact rfl)(hi:s.h.get i=io (w.uQ i j):=by exact rfl)(hj:s.h.get j=io (.bT w.l 5):=by exact rfl)(hm:s.h.get m=io (aG 1 b cM):=by exact rfl)(hn:n=b.length:=by exact rfl)(hlt:Zk i s.nx=kw:=by exact rfl)(hlj:Zk j s.nx=kw:=by exact rfl)(hlm:Zk m s.nx=kw:=by exact rfl)(hnd:b4 [i,j,m]=kw:=by exact rfl)(hp:putDst nt o (.bQ []) (Vt s d i j m)=io s':=by exact rfl):GO prog nt (.ops all (o::rest)::k) Q s:=go_wp (hc:=hc) (ho:=ho) (hg:=hg) (ha:=ha) (hi:=hi) (hj:=hj) (hm:=hm) (hn:=hn) (hlt:=hlt) (hlj:=hlj) (hlm:=hlm) (hnd:=hnd) (hp:=hp) (h:=h)
theorem Ct{all:List Oper}{todo pend:List (Nat×Oper)}{d:Nat}{A y:Prop}{o:Oper}{c:Call}{g:FuncId}{b:List aj}{w u:WS}{i j m n:Nat}{s':AS}(hc:bV prog g [.ptr 0 0,.sl 2 0 b.length 1] [w.c,.bT w.l 5,aG 1 b cM] (.bQ []) [(0,io (u.uQ 0 3)),(3,io (.bT u.l 5))] 4)
  (hrd:fp todo=[(d,o)]) (ho:o.op= .call c) (ha:bY s.f c=io (g,[.ptr i 0,.sl m 0 n 1]))
  (hi:s.h.get i=io (w.uQ i j)) (hj:s.h.get j=io (.bT w.l 5)) (hm:s.h.get m=io (aG 1 b cM)) (hn:n=b.length) (hlt:Zk i s.nx=kw) (hlj:Zk j s.nx=kw) (hlm:Zk m s.nx=kw) (hnd:b4 [i,j,m]=kw)
  (hp:putDst nt o (.bQ []) (Vt s u i j m)=io s')
  (hg:cH nt all s.f o=io kw) (hpb:jI all pend o=kw) (hE:ph todo [d]=kw)
  (hag:tE pC nt all s todo pend=io A) (hCA:A) (hag2:eB pC nt all s' (bn pend o)=io y) (hC2:y)
  (h:GO prog nt (.cW all (todo.filter fun x=>!Zt x.1 d) (bn pend o)::k) Q s'):GO prog nt (.cW all todo pend::k) Q s:=
 yt ab hrd hg hpb hE hag hCA (GA hc ho ha hi hj hm hn hlt hlj hlm hnd hp) hag2 hC2 h
theorem WE{all:List Oper}{todo pend:List (Nat×Oper)}{b:Nat}{u d:Prop}{o:Oper}{c:Call}{g:FuncId}{args y:List PV}{w A:WS}{r:PV}{i j:Nat}{s':AS}(hc:bV prog g (.ptr 0 0::args) w.O r A.H 3)
  (hrd:fp todo=[(b,o)]) (ho:o.op= .call c) (ha:bY s.f c=io (g,.ptr i 0::y))
  (hi:s.h.get i=io (w.uQ i j)) (hj:s.h.get j=io (.bT w.l 5)) (hlt:Zk i s.nx=kw) (hlj:Zk j s.nx=kw) (hne:Zt i j=lc) (has:y=args) (hlow:bq 0 args=kw) (hr:r.low 0=kw)
  (hp:putDst nt o r (wS s A i j)=io s')
  (hg:cH nt all s.f o=io kw) (hpb:jI all pend o=kw) (hE:ph todo [b]=kw)
  (hag:tE pC nt all s todo pend=io u) (hCA:u) (hag2:eB pC nt all s' (bn pend o)=io d) (hC2:d)
  (h:GO prog nt (.cW all (todo.filter fun x=>!Zt x.1 b) (bn pend o)::k) Q s'):GO prog nt (.cW all todo pend::k) Q s:=
 yt ab hrd hg hpb hE hag hCA (CX hc ho ha hi hj hlt hlj hne has hlow hr hp) hag2 hC2 h
theorem zt{all:List Oper}{todo pend:List (Nat×Oper)}{b:Nat}{u d:Prop}{o:Oper}{c:Call}{g:FuncId}{args y:List PV}{w A:WS}{r:PV}{i j:Nat}{s':AS}(hc:bV prog g (.ptr 0 0::args) w.O r A.H 3)(h:GO prog nt (.cW all (todo.filter fun x=>!Zt x.1 b) (bn pend o)::k) Q s')(hrd:fp todo=[(b,o)]:=by exact rfl)(ho:o.op= .call c:=by exact rfl)(ha:bY s.f c=io (g,.ptr i 0::y):=by exact rfl)(hi:s.h.get i=io (w.uQ i j):=by exact rfl)(hj:s.h.get j=io (.bT w.l 5):=by exact rfl)(hlt:Zk i s.nx=kw:=by exact rfl)(hlj:Zk j s.nx=kw:=by exact rfl)(hne:Zt i j=lc:=by exact rfl)(has:y=args:=by exact rfl)(hlow:bq 0 args=kw:=by exact rfl)(hr:r.low 0=kw:=by exact rfl)(hp:putDst nt o r (wS s A i j)=io s':=by exact rfl)(hg:cH nt all s.f o=io kw:=by exact rfl)(hpb:jI all pend o=kw:=by exact rfl)(hE:ph todo [b]=kw:=by exact rfl)(hag:tE pC nt all s todo pend=io u:=by exact rfl)(hCA:u:=by(repeat' (first|exact ac|exact rfl|exact aL.refl _|exact aL.bk (by assumption)|apply ZL))<;>first|omega|(simp only[Zs];omega)|(simp;done)|(simp;omega))(hag2:eB pC nt all s' (bn pend o)=io d:=by exact rfl)(hC2:d:=by(repeat' (first|exact ac|exact rfl|exact aL.refl _|exact aL.bk (by assumption)|apply ZL))<;>first|omega|(simp only[Zs];omega)|(simp;done)|(simp;omega)):GO prog nt (.cW all todo pend::k) Q s:=WE (hc:=hc) (hrd:=hrd) (ho:=ho) (ha:=ha) (hi:=hi) (hj:=hj) (hlt:=hlt) (hlj:=hlj) (hne:=hne) (has:=has) (hlow:=hlow) (hr:=hr) (hp:=hp) (hg:=hg) (hpb:=hpb) (hE:=hE) (hag:=hag) (hCA:=hCA) (hag2:=hag2) (hC2:=hC2) (h:=h)
theorem Ms{l:List ResultVar}{r A a b c d:PV}{e:Exit}{u:WS}{j n:Nat}(he:e= .normal∨e= .ret)(hr:lv pC s l=io A)(hi:s.h.get 0=io (.cells [a,b,c,d] (io 247)))(ha:a= .fA u.fr 0)(hb:b= .sl j 0 n 1)(hn:n=u.l.length)(hc:aL c (pB u.bad))(hd:aL d (pI u.br))
  (hj:s.h.get j=io (.bT u.l 5)) (hlj:Zk j s.nx=kw) (hne:Zt 0 j=lc) (hns:aaV 2 s.nx=kw)
  (hrl:aL A r) (hlow:r.low 0=kw) (hlow3:r.low 3=kw):CT pC l 2 r u.H 3 e s:=by
 subst ha;subst hb;subst hn;refine eU [j] he hr ⟨rfl,YY hns,fun x y=>?_,⟨?_,hlow3,ac⟩,⟨⟨_,hi,.cells ⟨.refl _,.refl _,hc,hd,ac⟩⟩,YY Z,rfl,⟨.bT u.l 5,hj,.of_eq Z⟩,YY Z,ac,ac⟩,?_⟩
 .simp only[Zd]at y;subst y;exact YY hlj
 .rw[PV.jW _ _ hlow];exact hrl
 .have:(0:Nat)≠j:=fun e=>by subst e;simp at hne
  show([0,j]:List Nat).Nodup;simpa using this
theorem kH{l:List ResultVar}{r x a b c d:PV}{e:Exit}{u:WS}{j n:Nat}(he:e= .normal∨e= .ret:=by first|exact .inr Z|exact .inl Z)(hr:lv pC s l=io x:=by exact rfl)(hi:s.h.get 0=io (.cells [a,b,c,d] (io 247)):=by exact rfl)(ha:a= .fA u.fr 0:=by exact rfl)(hb:b= .sl j 0 n 1:=by exact rfl)(hn:n=u.l.length:=by exact rfl)(hc:aL c (pB u.bad):=by first|exact .refl _|exact .kb _)(hd:aL d (pI u.br):=by first|exact .refl _|exact .kb _)(hj:s.h.get j=io (.bT u.l 5):=by exact rfl)(hlj:Zk j s.nx=kw:=by exact rfl)(hne:Zt 0 j=lc:=by exact rfl)(hns:aaV 2 s.nx=kw:=by exact rfl)(hrl:aL x r:=by exact .refl _)(hlow:r.low 0=kw:=by exact rfl)(hlow3:r.low 3=kw:=by exact rfl):CT pC l 2 r u.H 3 e s:=Ms (he:=he) (hr:=hr) (hi:=hi) (ha:=ha) (hb:=hb) (hn:=hn) (hc:=hc) (hd:=hd) (hj:=hj) (hlj:=hlj) (hne:=hne) (hns:=hns) (hrl:=hrl) (hlow:=hlow) (hlow3:=hlow3)
theorem XA{n0 j m:Nat}{D:AF}{w A:WS}{a b c d:PV}(hw:w=A)(hi:s.h.get 0=io (.cells [a,b,c,d] (io 247)))(ha:a= .fA w.fr 0)(hb:b= .sl j 0 m 1)(hm:m=w.l.length)(hc:aL c (pB w.bad))(hd:aL d (pI w.br))(hj:s.h.get j=io (.bT w.l 5))
  (hlj:Zk j s.nx=kw) (hne:Zt 0 j=lc) (h0:Zk 0 n0=kw) (hns:aaV n0 s.nx=kw) (hf:GD (n0+1) (sg n0 [j]) s.f D):Wk n0 [j] s ⟨D,[(0,io (A.uQ 0 n0)),(n0,io (.bT A.l 5))],n0+1⟩:=by
 subst hw;subst ha;subst hb;subst hm;have u:0<n0:=YY h0;have s0:sg n0 [j] 0=0:=gz u;have F:Zk n0 n0=lc:=aaK.2 fun e=>absurd (YY e) (by omega);have G:Zk 0 (n0+1)=kw:=ZI (by omega);have I:Zk n0 (n0+1)=kw:=ZI (by omega);have y:sg n0 [j] n0=j:=by simp[sg,F]
 refine⟨rfl,YY hns,fun x B=>?_,hf,⟨⟨_,by rw[s0];exact hi,?_⟩,aaE u,?_,⟨.bT w.l 5,by rw[y];exact hj,.of_eq Z⟩,aar _,ac,ac⟩,?_⟩
 .simp only[Zd]at B;subst B;exact YY hlj
 .simp only[AO.db,dL,PV.db,s0,y];exact .cells ⟨.refl _,.refl _,hc,hd,ac⟩
 .simp[AO.low,bq,PV.low,G,I]
 .have:(0:Nat)≠j:=fun e=>by subst e;simp at hne
  simp only[en,s0,y];simpa using this
theorem tI{n0 j m:Nat}{x:AF}{w u:WS}{a b c d:PV}(hw:w=u)(hi:s.h.get 0=io (.cells [a,b,c,d] (io 247)):=by exact rfl)(ha:a= .fA w.fr 0:=by exact rfl)(hb:b= .sl j 0 m 1:=by exact rfl)(hm:m=w.l.length:=by exact rfl)(hc:aL c (pB w.bad):=by first|exact .refl _|exact .kb _)(hd:aL d (pI w.br):=by first|exact .refl _|exact .kb _)(hj:s.h.get j=io (.bT w.l 5):=by exact rfl)(hlj:Zk j s.nx=kw:=by exact rfl)(hne:Zt 0 j=lc:=by exact rfl)(h0:Zk 0 n0=kw:=by exact rfl)(hns:aaV n0 s.nx=kw:=by exact rfl)(hf:GD (n0+1) (sg n0 [j]) s.f x:=by repeat' (first|exact ac|exact aL.refl _|exact rfl|apply ZL)):Wk n0 [j] s ⟨x,[(0,io (u.uQ 0 n0)),(n0,io (.bT u.l 5))],n0+1⟩:=XA (hw:=hw) (hi:=hi) (ha:=ha) (hb:=hb) (hm:=hm) (hc:=hc) (hd:=hd) (hj:=hj) (hlj:=hlj) (hne:=hne) (h0:=h0) (hns:=hns) (hf:=hf)
end
end
def BU(w:WS)(s:aj):WS:=⟨lc,w.l++s.data.toList,w.bad,w.br⟩
theorem d183(w:WS)(s:aj)(hb:w.l.length+s.size<=140737488355328):bV prog 243 [.ptr 0 0,pS s] w.O (.bQ [pI s.size,.iv (.v .nilIface)]) (BU w s).H 3:=by
 refine aB ab func243 Z (by decide) ntmps243 Z (by simp) ?_;refine gA Z (zq [0,1] (d204 w) ?_);refine gA Z ?_;refine Qo ab Z Z Z Z Z Z Z Z Z Z Z Z Z Z Z Z hb ?_;refine gA Z kH
def aT(w:WS)(b:Bool):WS:=⟨w.fr,w.l,w.bad||!b,w.br⟩
theorem P7(w:WS){b:Bool}(h:(!b)=lc):aT w b=w:=by cases w;simp_all [aT]
theorem P8(w:WS){b:Bool}(h:(!b)=kw):aT w b=⟨w.fr,w.l,kw,w.br⟩:=by cases w;simp_all [aT]
theorem d146(w:WS)(b:Bool):bV prog 216 [.ptr 0 0,pB b] w.O (.bQ []) (aT w b).H 3:=by
 refine aB ab func216 Z (by decide) ntmps216 Z (by simp) ?_;refine zJ Z Z (fun h=>?_) fun h=>?_
 .rw[P8 w h];refine gA Z kH
 .rw[P7 w h];refine gA Z kH
def a8(w:WS)(b:List aj):WS:=b.foldl BU w
def gX(b:List aj):Nat:=(b.map abP).sum
theorem K0(w:WS)(s:aj):(BU w s).l.length=w.l.length+s.size:=by simp[BU]
theorem kO: ∀(b:List aj) (w:WS),(a8 w b).l.length=w.l.length+gX b
 | [],w=>by simp[a8,gX]
 |s::r,w=>by
  have:=kO r (BU w s);simp only[a8,Zw]at this ⊢;rw[this,K0];simp[gX];omega
theorem xA: ∀(b:List aj) (i:Nat),i<b.length->gX (b.take i)+(b.getD i em).size<=gX b
 | [],i,h=>by simp at h
 |s::r,0,_=>by simp[gX]
 |s::r,i+1,h=>by
  have:=xA r i (by simpa using h);simp[gX]at this ⊢;omega
theorem d147(w:WS)(d:List aj)(A:d.length<=1000)(hb:w.l.length+gX d<=140737488355328):bV prog 217 [.ptr 0 0,.sl 2 0 d.length 1] [w.c,.bT w.l 5,aG 1 d cM] (.bQ []) [(0,io ((a8 w d).uQ 0 3)),(3,io (.bT (a8 w d).l 5))] 4:=by
 refine aB ab func217 Z (by decide) ntmps217 Z (by simp) ?_;refine gA Z ?_;refine Cs 2 (fun k=>cM (d.getD k em)) Z (fN Z) (by simp[AF.xS,PV.dc,qX]) ⟨(by simp[AO.xS,iU,PV.dc]),ac,xK _ _ _ _ _ _,ac⟩ ?_;refine az 0 d.length (Y8 _) (fun i=>⟨[(0,.ptr 0 0),(6,.iv (strs d)),(7,pI d.length),(8,pI i)],[(0,io ((a8 w (d.take i)).uQ 0 3)),(3,io (.bT (a8 w (d.take i)).l 5))],4⟩) (fun _=>True) [1] ac
  (zM (bv ⟨.dh Z (fun k _=>by rw[Zq]),rfl,bv (bv trivial)⟩) ⟨⟨_,rfl,.of_eq Z⟩,YY Z,rfl,⟨_,rfl,.of_eq Z⟩,YY Z,ac,ac⟩) fun i y _=>?_
 refine zJ Z Z (fun j=>?_) fun j=>?_
 .have j:i<d.length:=zN j;have u:a8 w (d.take (i+1))=BU (a8 w (d.take i)) (d.getD i em):=cI (g:=BU) (b:=w) j;have x:=kO (d.take i) w;have B:=xA d i j;refine gA Z (j6 (d183 (a8 w (d.take i)) (d.getD i em) (by omega)) ?_);refine gA Z ⟨j,ac,[4],zW ⟨⟨_,rfl,.of_eq (by rw[u];rfl)⟩,YY Z,rfl,⟨_,rfl,.of_eq (by rw[u];rfl)⟩,YY Z,ac,ac⟩⟩
 .have j:d.length<=i:=zG j;rw[Za j];refine gA Z (zD [3] Z (zW ⟨⟨_,rfl,.of_eq Z⟩,YY Z,rfl,⟨_,rfl,.of_eq Z⟩,YY Z,ac,ac⟩))
end Go.Proofs.YtflegjieadkonaaGreatDoor
namespace Go.Proofs
open Go.Shelf
def Tryz.Cb:Go.Shelf.Ren:=⟨fun|171=>273|243=>285|246=>297|283=>302|284=>303|285=>304|286=>305|129=>153|317=>307|318=>308|319=>309|320=>310|337=>311|338=>312|n=>n,fun|3=>3|9=>9|2=>2|4=>4|171=>337|0=>0|53=>205|37=>243|5=>5|173=>339|212=>343|51=>203|20=>20|213=>344|46=>179|232=>345|233=>346|n=>n,fun|17=>0|18=>1|19=>2|n=>n⟩
theorem Tryz.LC:Go.Proofs.LaysM.n171 Tryz.prog Tryz.Cb:={
 mixed:=by kernel_rfl
 f129:=Tryz.func153.trans (congrArg io (by kernel_rfl))
 f171:=Tryz.func273.trans (congrArg io (by kernel_rfl))
 f243:=Tryz.func285.trans (congrArg io (by kernel_rfl))
 f246:=Tryz.func297.trans (congrArg io (by kernel_rfl))
 f283:=Tryz.func302.trans (congrArg io (by kernel_rfl))
 f284:=Tryz.func303.trans (congrArg io (by kernel_rfl))
 f285:=Tryz.func304.trans (congrArg io (by kernel_rfl))
 f286:=Tryz.func305.trans (congrArg io (by kernel_rfl))
 f317:=Tryz.func307.trans (congrArg io (by kernel_rfl))
 f318:=Tryz.func308.trans (congrArg io (by kernel_rfl))
 f319:=Tryz.func309.trans (congrArg io (by kernel_rfl))
 f320:=Tryz.func310.trans (congrArg io (by kernel_rfl))
 f337:=Tryz.func311.trans (congrArg io (by kernel_rfl))
 f338:=Tryz.func312.trans (congrArg io (by kernel_rfl))
 t0:=Tryz.underlying0
 a0:=Tryz.isAgg0
 z0:=Tryz.sizeOf0
 v0:=Tryz.zeroValue0
 t2:=Tryz.underlying2
 a2:=Tryz.isAgg2
 z2:=Tryz.sizeOf2
 v2:=Tryz.zeroValue2
 t3:=Tryz.underlying3
 a3:=Tryz.isAgg3
 z3:=Tryz.sizeOf3
 v3:=Tryz.zeroValue3
 t4:=Tryz.underlying4
 a4:=Tryz.isAgg4
 z4:=Tryz.sizeOf4
 v4:=Tryz.zeroValue4
 t5:=Tryz.underlying5
 a5:=Tryz.isAgg5
 z5:=Tryz.sizeOf5
 v5:=Tryz.zeroValue5
 t9:=Tryz.underlying9
 a9:=Tryz.isAgg9
 z9:=Tryz.sizeOf9
 v9:=Tryz.zeroValue9
 t20:=Tryz.underlying20
 a20:=Tryz.isAgg20
 z20:=Tryz.sizeOf20
 v20:=Tryz.zeroValue20
 t37:=Tryz.underlying243
 a37:=Tryz.isAgg243
 z37:=Tryz.sizeOf243
 v37:=Tryz.zeroValue243
 t46:=Tryz.underlying179
 a46:=Tryz.isAgg179
 z46:=Tryz.sizeOf179
 v46:=Tryz.zeroValue179
 t51:=Tryz.underlying203
 a51:=Tryz.isAgg203
 z51:=Tryz.sizeOf203
 v51:=Tryz.zeroValue203
 t53:=Tryz.underlying205
 a53:=Tryz.isAgg205
 z53:=Tryz.sizeOf205
 v53:=Tryz.zeroValue205
 t171:=Tryz.underlying337
 a171:=Tryz.isAgg337
 z171:=Tryz.sizeOf337
 v171:=Tryz.zeroValue337
 t173:=Tryz.underlying339
 a173:=Tryz.isAgg339
 z173:=Tryz.sizeOf339
 v173:=Tryz.zeroValue339
 t212:=Tryz.underlying343
 a212:=Tryz.isAgg343
 z212:=Tryz.sizeOf343
 v212:=Tryz.zeroValue343
 t213:=Tryz.underlying344
 a213:=Tryz.isAgg344
 z213:=Tryz.sizeOf344
 t232:=Tryz.underlying345
 a232:=Tryz.isAgg345
 z232:=Tryz.sizeOf345
 v232:=Tryz.zeroValue345
 t233:=Tryz.underlying346
 a233:=Tryz.isAgg346
 z233:=Tryz.sizeOf346
 v233:=Tryz.zeroValue346
 g17:=by kernel_rfl
 g18:=by kernel_rfl
 g19:=by kernel_rfl
 i0:=by kernel_rfl
 i2:=by kernel_rfl
 i3:=by kernel_rfl
 i4:=by kernel_rfl
 i5:=by kernel_rfl
 i9:=by kernel_rfl
 i20:=by kernel_rfl
 i37:=by kernel_rfl
 i46:=by kernel_rfl
 i51:=by kernel_rfl
 i53:=by kernel_rfl
 i171:=by kernel_rfl
 i173:=by kernel_rfl
 i212:=by kernel_rfl
 i232:=by kernel_rfl
 i233:=by kernel_rfl
 m17:=by kernel_rfl
 m18:=by kernel_rfl
 m19:=by kernel_rfl}
theorem YtflegjieadkonaaGreatDoor.Wx (n:Int) (h0: -9223372036854775808<=n) (h1:n<=9223372036854775807) (w:World) (b:Lib.TabIs Tryz.prog w "internal/strconv.uint64pow10" .u64 Lib.pow10Tab):
  Calls Tryz.prog 273 #[.int .i64 n] w fun e d=>e= .returned (.string ⟨(Lib.itoa n).toArray⟩)∧ ∃k os,d=Go.Sort.grow (w.drewN k) os:=Any.strconv_Itoa Tryz.LC n h0 h1 w b
end Go.Proofs
namespace Go.Proofs.YtflegjieadkonaaGreatDoor
open Go Go.Al Go.Proofs.Tryz
theorem XM:prog.globalNamed "internal/strconv.uint64pow10" =io 0:=by kernel_rfl
theorem pow_eq:s8=Lib.pow10Tab:=by decide
theorem XC{M:Mem}{N:Nm}{U:Nat->Prop}{h:AH}{w:World}(hr:Rel M N U h w):Lib.TabIs prog w "internal/strconv.uint64pow10" .u64 Lib.pow10Tab:=by
 obtain⟨T,d,b⟩:=hr.fi 0 _ (M.Qw 0 _ Z);show World.var? _ _ _=_;simp only[World.var?,XM,abY,b,pow_eq]
theorem WZ(n:Int)(h0: -9223372036854775808<=n)(h1:n<=9223372036854775807):Pure prog 273 [pI n] (pS ⟨(Lib.itoa n).toArray⟩):=by
 refine⟨bH func273 Z (by decide),fun M N w D x u G=>?_⟩;obtain⟨v,rfl⟩: ∃v,D=[v]:=by
  cases D with
  |nil=>cases u
  |cons v r=>cases r with
   |nil=>exact⟨v,rfl⟩
   |cons a b=>simp at u
 have y:VR M N (· <0) (pI n) v:=G 0 _ Z;have A:v= .int .i64 n:=by
  cases y with
  |iv _ _ h=>cases h;rfl
 subst A;refine(Wx n h0 h1 w (XC x)).mono ?_;rintro e I ⟨rfl,k,os,rfl⟩;have B: ∀b,b<w.heap.size->(Go.Sort.grow (w.drewN k) os).heap[b]? =w.heap[b]? :=fun b hb=>by
  show(w.heap++os)[b]? =_;rw[Z4 hb]
 refine⟨_,M,N,pS ⟨(Lib.itoa n).toArray⟩,[],0,rfl,⟨rfl,rfl,rfl⟩,⟨rfl,rfl,rfl,?_,fun b hb _=>B b hb,.refl _,fun b c h1 F=>(nomatch (h1.symm.trans F)),.refl _ _,fun _ h=>h,fun i o d=>(nomatch d)⟩,⟨fun b c hb=>?_,fun i o d=>(nomatch d),fun i o d=>(nomatch d),fun i o d=>(nomatch d),fun i j o p d=>(nomatch d)⟩,.iv _ _ (.v _)⟩
 .show w.heap.size<=(w.heap++os).size;simp
 .exact(x.fi b c hb).mono (B b (x.fi b c hb).lt)
def Qm:aj:=⟨#[48,49,50,51,52,53,54,55,56,57,65,66,67,68,69,70]⟩
def Ql(c:UInt8):Int:=(c.toNat:Int).fdiv (2 ^ min (Int.toNat 4) IntKind.u8.bits)
def SQ(c:UInt8):Int:=IntKind.u8.wrap ((BitVec.ofInt IntKind.u8.bits (c.toNat:Int)&&&BitVec.ofInt IntKind.u8.bits 15).toNat:Int)
theorem LP(c:UInt8):0<=Ql c∧Ql c<16:=by
 have h:c.toNat<256:=c.toNat_lt;have e:Ql c=(c.toNat:Int)/16:=by
  unfold Ql;have:(2:Int) ^ min (Int.toNat 4) IntKind.u8.bits=16:=by decide
  rw[this];exact Int.fdiv_eq_ediv_of_nonneg _ (by decide)
 rw[e];omega
theorem Ls: ∀c:UInt8,0<=SQ c∧SQ c<16:=by
 intro c;have h: ∀n:Fin 256,0<=SQ (UInt8.ofNat n.val)∧SQ (UInt8.ofNat n.val)<16:=by decide
 have:=h ⟨c.toNat,c.toNat_lt⟩;simpa using this
def Cn(n:Int):UInt8:=Qm.data.toList.getD n.toNat 0
def qB(c:UInt8):List UInt8:=if c.toNat=34∨c.toNat=92 then[92,c] else if c.toNat=10 then[92,110] else if c.toNat<32∨126<c.toNat then[92,120,Cn (Ql c),Cn (SQ c)] else[c]
theorem Uk(c:UInt8):(qB c).length<=4:=by
 unfold qB
 repeat' split
 all_goals simp
def nh(s:aj)(i:Nat):List UInt8:=34::(s.data.toList.take i).flatMap qB
def p9(s:aj):aj:=⟨(34::s.data.toList.flatMap qB++ [34]).toArray⟩
theorem ug(s:aj): ∀i,(nh s i).length<=1+4*i
 |0=>by simp[nh]
 |i+1=>by
  have h:=ug s i;rcases aab i s.data.toList.length with hi|hi
  .have:=Uk (s.data.toList.getD i em);simp only[nh,ZA]at h ⊢;rw[bG hi,Y1];omega
  .simp only[nh,Za hi]at h;simp only[nh,Za (by omega:s.data.toList.length<=i+1)];omega
theorem As{s:aj}{i:Nat}(h:i<s.data.toList.length):nh s (i+1)=nh s i++qB (s.data.toList.getD i em):=by
 simp only[nh,bG h,aaC]
theorem Yj(s:aj)(hs:s.size<=1000):Pure prog 274 [pS s] (pS (p9 s)):=by
 have J:s.data.toList.length=s.size:=by simp
 refine ae ab func274 Z (by decide) ntmps274 Z (by simp) Z ?_;refine gA Z ?_;refine Jk ab Z Z Z Z Z Z Z Z Z Z Z (by omega) ?_;refine gA Z ?_;refine az 0 s.data.toList.length (Y8 _) (fun i=>⟨[(3,.sl 1 0 (nh s i).length 1),(8,.iv (.dh 1 s.data.toList.length fun k=>yJ (s.data.toList.getD k em))),(9,pI s.data.toList.length),(10,pI i)],[(1,io (aG 1 (nh s i) yJ))],2⟩) (fun _=>True) [0] ac
  (zW (zS trivial)) fun i I _=>?_
 have S:=ug s i;refine zE Z Z (fun x=>?_) fun x=>?_
 .have x:s.data.toList.length<=i:=zG x;refine gA Z ?_;refine Qt ab (nh s i++ [34]) Z Z Z Z Z Z Z Z Z Z Z Z (by rw[Y6];rfl) (by rw[Y1];rfl) ?_;refine gA Z (zL (.of_eq ?_));simp only[nh,p9,Za x];rfl
 have x:i<s.data.toList.length:=zN x;have b:=As x;have d:s.data.toList.getD (i:Int).toNat em=s.data.toList.getD i em:=rfl;generalize G:s.data.toList.getD i em=c at b d;refine zJ Z Z (fun A=>?_) fun A=>?_
 .have A:c.toNat=34:=by have:=zT A;rw[d]at this;omega
  rw[qB,am (.inl A)]at b;refine gA Z ⟨x,ac,[3],zM ⟨.row (by rw[b,Y1];rfl),rfl,bv (bv (bv ac))⟩ (hR Z (by rw[b,Y6,<-G];rfl) Z ac)⟩
 have A: ¬c.toNat=34:=by have:=zF A;rw[d]at this;omega
 refine zJ Z Z (fun B=>?_) fun B=>?_
 .have B:c.toNat=92:=by have:=zT B;rw[d]at this;omega
  rw[qB,am (.inr B)]at b;refine gA Z ⟨x,ac,[3],zM ⟨.row (by rw[b,Y1];rfl),rfl,bv (bv (bv ac))⟩ (hR Z (by rw[b,Y6,<-G];rfl) Z ac)⟩
 have B: ¬c.toNat=92:=by have:=zF B;rw[d]at this;omega
 rw[qB,be (by omega)]at b;refine zJ Z Z (fun y=>?_) fun y=>?_
 .have y:c.toNat=10:=by have:=zT y;rw[d]at this;omega
  rw[am y]at b;refine gA Z ⟨x,ac,[3],zM ⟨.row (by rw[b,Y1];rfl),rfl,bv (bv (bv ac))⟩ (hR Z (by rw[b,Y6];rfl) Z ac)⟩
 have y: ¬c.toNat=10:=by have:=zF y;rw[d]at this;omega
 rw[be y]at b;have j:=LP c;have u:=Ls c;rw[<-G]at j u;simp only[Ql,SQ]at j u;refine zJ Z Z (fun D=>?_) fun D=>?_
 .have D:c.toNat<32:=by have:=zT D;rw[d]at this;omega
  rw[am (.inl D)]at b;refine nV Z (by(repeat' (first|exact ac|exact rfl|exact aL.refl _|exact j|exact u|apply ZL))<;>first|omega|exact j.1|exact j.2|exact u.1|exact u.2|simp) ?_;exact⟨x,ac,[3],zM ⟨.row (by rw[b,Y1];rfl),rfl,bv (bv (bv ac))⟩ (hR Z (by rw[b,Y6,<-G];rfl) Z ac)⟩
 have D: ¬c.toNat<32:=by have:=zF D;rw[d]at this;omega
 refine zJ Z Z (fun F=>?_) fun F=>?_
 .have F:126<c.toNat:=by have:=zT F;rw[d]at this;omega
  rw[am (.inr F)]at b;refine nV Z (by(repeat' (first|exact ac|exact rfl|exact aL.refl _|exact j|exact u|apply ZL))<;>first|omega|exact j.1|exact j.2|exact u.1|exact u.2|simp) ?_;exact⟨x,ac,[3],zM ⟨.row (by rw[b,Y1];rfl),rfl,bv (bv (bv ac))⟩ (hR Z (by rw[b,Y6,<-G];rfl) Z ac)⟩
 have F: ¬126<c.toNat:=by have:=zF F;rw[d]at this;omega
 rw[be (by omega)]at b;refine gA Z ⟨x,ac,[3],zM ⟨.row (by rw[b,Y1];rfl),rfl,bv (bv (bv ac))⟩ (hR Z (by rw[b,Y6,<-G];rfl) Z ac)⟩
def tP(v:tG):aj:=if v.kind=1 then⟨(Lib.itoa v.num).toArray⟩ else if ep v.sym then v.sym else p9 v.sym
theorem sG{v:tG}(h:du v=0)(h1:v.kind=1): -2147483647<=v.num∧v.num<=2147483647:=by
 unfold du at h;rw[am h1]at h;split at h
 .rename_i b;exact b.2
 .cases h
theorem sF{v:tG}(h:du v=0)(h1: ¬v.kind=1):v.sym.size<=64:=by
 unfold du at h;rw[be h1]at h;split at h
 .split at h
  .rename_i b;exact b.2
  .cases h
 .cases h
theorem Ym(v:tG)(j:du v=0):Pure prog 262 [ag v.c] (pS (tP v)):=by
 refine ae ab func262 Z (by decide) ntmps262 Z (by simp) Z ?_;refine zJ Z Z (fun b=>?_) fun b=>?_
 .have b:v.kind=1:=by simpa using b
  have:=sG j b;refine gA Z (zp (WZ v.num (by omega) (by omega)) ?_);refine gA Z (zL (.of_eq ?_));rw[tP,am b];rfl
 have b: ¬v.kind=1:=by simpa using b
 have u:=sF j b;refine gA Z (zp (X0 v.sym) ?_);refine zJ Z Z (fun d=>?_) fun d=>?_
 .have d:ep v.sym=kw:=d;refine gA Z (zL (.of_eq ?_));rw[tP,be b,am d];rfl
 .have d:ep v.sym=lc:=d;refine gA Z (zp (Yj v.sym (by omega)) ?_);refine gA Z (zL (.of_eq ?_));rw[tP,be b,be (by rw[d];simp)];rfl
def n9(v:tG):aj:=if du v=0 then tP v else⟨#[]⟩
theorem Yr(v:tG):Pure prog 244 [ag v.c] (.bQ [pS (n9 v),pI (du v)]):=by
 refine ae ab func244 Z (by decide) ntmps244 Z (by simp) Z ?_;refine gA Z (zp (YB v) ?_);refine zJ Z Z (fun b=>?_) fun b=>?_
 .have b: ¬du v=0:=by simpa using b
  refine gA Z (zL (.of_eq ?_));rw[n9,be b];rfl
 .have b:du v=0:=by simpa using b
  refine gA Z (zp (Ym v b) ?_);refine gA Z (zL (.of_eq ?_));rw[n9,am b,b];rfl
def nJ(w:WS)(v:tG):WS:=a8 (aT w (li (du v=0))) [n9 v]
theorem d149(w:WS)(v:tG)(hb:w.l.length<=1000000000000)(b:(n9 v).size<=1000):bV prog 219 [.ptr 0 0,ag v.c] w.O (.bQ []) (nJ w v).H 3:=by
 refine aB ab func219 Z (by decide) ntmps219 Z (by simp) ?_;refine gA Z (zp (Yr v) ?_);refine gA Z (WC (d146 ⟨_,_,_,_⟩ (li (du v=0))) Z Z Z Z Z Z Z Z Z Z Z Z ?_);refine gA Z (go_wp (d147 ⟨_,_,_,_⟩ [n9 v] (by simp) (by simp[gX,aT];omega)) Z Z Z Z Z Z Z Z Z Z Z Z ?_);refine gA Z kH
def bh(op:Int):Int:=if op=1∨op=2 then 1 else if op=3∨op=4∨op=5 then 2 else if op=6 then 3 else 0
theorem QW(op:Int):Pure prog 246 [pI op] (pI (bh op)):=by
 refine ae ab func246 Z (by decide) ntmps246 Z (by simp) Z ?_
 repeat' (first|(refine gA Z (zI (fun _=>?_) (fun _=>?_)))|(refine gA Z (zL (.of_eq ?_))))
 all_goals(refine(FN ?_:pI _=pI _);simp only[abq,abu,decide_eq_true_eq,decide_eq_false_iff_not] at*;simp_all [bh])
def eA(e:Expr):Int:=if e.kind=4 then bh e.op else 4
theorem JF(e:Expr):Pure prog 264 [ag e.c] (pI (eA e)):=by
 refine ae ab func264 Z (by decide) ntmps264 Z (by simp) Z ?_
 repeat' (first|(refine gA Z (zI (fun _=>?_) (fun _=>?_)))|(refine gA Z (zp (QW e.op) ?_))|(refine gA Z (zL (.of_eq ?_))))
 all_goals(refine(FN ?_:pI _=pI _);simp_all [eA])
def cU(v:tG):Bool:=li (v.kind=0)&&(li (v.num=0)&&(li (v.sym=Y5)&&kw))
def cX(e:Expr):Bool:=li (e.kind=0)&&(li (e.var=⟨#[]⟩)&&(cU e.val&&(li (e.op=0)&&li ((e.args.length:Int)=0))))
theorem QX(e:Expr):Pure prog 245 [ag e.c] (pB (cX e)):=by
 refine ae ab func245 Z (by decide) ntmps245 Z (by simp) Z ?_
 repeat' (first|(refine gA Z (zI (fun _=>?_) (fun _=>?_)))|(refine gA Z (zL (.of_eq ?_))))
 all_goals(refine(fP ?_:pB _=pB _))
 all_goals(simp only[cX,cU, *];rfl)
def kD(l:Lit):Bool:=
 (li (l.kind=1)||decide (l.kind=2)||!(!li (l.atom.rel=⟨#[]⟩)||decide ((l.atom.ad.length:Int)>0)))&&
 ((!(!li (l.kind=3))||!(!li (l.op=0)||(!cX l.left||!cX l.right)))&&
 (li (l.kind=4)||(li (l.c7=0)&&(li (l.a7=⟨#[]⟩)&&(cX l.jR&&li ((l.ar.length:Int)=0))))))
set_option maxHeartbeats 4000000 in
theorem Yq(l:Lit):Pure prog 221 [ag l.c] (pB (kD l)):=by
 refine ae ab func221 Z (by decide) ntmps221 Z (by simp) Z ?_
 repeat' (first|(refine gA Z (zI (fun _=>?_) (fun _=>?_)))|(refine gA Z (zp (QX l.left) ?_))|(refine gA Z (zp (QX l.right) ?_))|(refine gA Z (zp (QX l.jR) ?_))|(refine gA Z (zL (.of_eq ?_))))
 all_goals(refine(fP ?_:pB _=pB _))
 all_goals(try simp only[abq,abu] at*)
 all_goals(simp_all [kD])
def pE(op:Int):aj:=if op=1 then⟨#[43]⟩ else if op=2 then⟨#[45]⟩ else if op=3 then⟨#[42]⟩ else if op=4 then⟨#[47]⟩ else⟨#[109,111,100]⟩
def sgL:aj:=⟨#[43,45,42,47]⟩
theorem Yf(op:Int):Pure prog 265 [pI op] (pS (pE op)):=by
 refine ae ab func265 Z (by decide) ntmps265 Z (by simp) Z ?_;refine gA Z ?_;refine AY ab Z Z Z Z Z Z Z ?_;refine gA Z ?_;refine az 0 4 (by decide) (fun i=>⟨[(0,pI op),(5,.ptr 0 0)],[(0,io (.eO sgL i))],1⟩) (fun i=> ∀k:Nat,k<i-> ¬(k:Int)+1=op) [] (by simp)
  (zW ⟨⟨_,rfl,.of_eq Z⟩,YY Z,ac,ac⟩) fun i D b=>?_
 have j:i=0∨i=1∨i=2∨i=3∨i=4:=by omega
 rcases j with rfl|rfl|rfl|rfl|rfl
 .refine gA Z ?_;refine oz Z Z Z Z Z Z (fun h=>absurd h (by decide)) (fun _=>?_);refine zJ Z Z (fun h=>?_) fun h=>?_
  .have h:op=1:=by have:=zT h;omega
   refine gA Z ?_;refine w9 ab Z Z Z Z Z Z Z Z Z ?_;refine gA Z (zL (.of_eq ?_));refine(congrArg pS ?_:pS _=pS _);subst h;decide
  .have h: ¬op=1:=by have:=zF h;omega
   refine gA Z ⟨by decide,fun k u=>(by rcases(by omega:k<0∨k=0) with d|rfl;exact b k d;omega),[],zW ⟨⟨_,rfl,.of_eq Z⟩,YY Z,ac,ac⟩⟩
 .refine gA Z ?_;refine oz Z Z Z Z Z Z (fun h=>absurd h (by decide)) (fun _=>?_);refine zJ Z Z (fun h=>?_) fun h=>?_
  .have h:op=2:=by have:=zT h;omega
   refine gA Z ?_;refine w9 ab Z Z Z Z Z Z Z Z Z ?_;refine gA Z (zL (.of_eq ?_));refine(congrArg pS ?_:pS _=pS _);subst h;decide
  .have h: ¬op=2:=by have:=zF h;omega
   refine gA Z ⟨by decide,fun k u=>(by rcases(by omega:k<1∨k=1) with d|rfl;exact b k d;omega),[],zW ⟨⟨_,rfl,.of_eq Z⟩,YY Z,ac,ac⟩⟩
 .refine gA Z ?_;refine oz Z Z Z Z Z Z (fun h=>absurd h (by decide)) (fun _=>?_);refine zJ Z Z (fun h=>?_) fun h=>?_
  .have h:op=3:=by have:=zT h;omega
   refine gA Z ?_;refine w9 ab Z Z Z Z Z Z Z Z Z ?_;refine gA Z (zL (.of_eq ?_));refine(congrArg pS ?_:pS _=pS _);subst h;decide
  .have h: ¬op=3:=by have:=zF h;omega
   refine gA Z ⟨by decide,fun k u=>(by rcases(by omega:k<2∨k=2) with d|rfl;exact b k d;omega),[],zW ⟨⟨_,rfl,.of_eq Z⟩,YY Z,ac,ac⟩⟩
 .refine gA Z ?_;refine oz Z Z Z Z Z Z (fun h=>absurd h (by decide)) (fun _=>?_);refine zJ Z Z (fun h=>?_) fun h=>?_
  .have h:op=4:=by have:=zT h;omega
   refine gA Z ?_;refine w9 ab Z Z Z Z Z Z Z Z Z ?_;refine gA Z (zL (.of_eq ?_));refine(congrArg pS ?_:pS _=pS _);subst h;decide
  .have h: ¬op=4:=by have:=zF h;omega
   refine gA Z ⟨by decide,fun k u=>(by rcases(by omega:k<3∨k=3) with d|rfl;exact b k d;omega),[],zW ⟨⟨_,rfl,.of_eq Z⟩,YY Z,ac,ac⟩⟩
 .refine gA Z ?_;refine oz Z Z Z Z Z Z (fun _=>?_) (fun h=>absurd h (by decide));refine gA Z (zL (.of_eq ?_));have x:=b 0 (by decide);have y:=b 1 (by decide);have A:=b 2 (by decide);have B:=b 3 (by decide);rw[pE,be (by omega),be (by omega),be (by omega),be (by omega)];rfl
theorem FL(s:aj):(p9 s).size<=2+4*s.size:=by
 have h:=ug s s.data.toList.length;simp only[nh,aaI,ZA]at h;have e:(p9 s).size=(34::s.data.toList.flatMap qB++ [34]).length:=by simp[p9,abP]
 have:s.data.toList.length=s.size:=by simp
 rw[e,Y1,ZA,ZB];omega
theorem n8(v:tG):(n9 v).size<=300:=by
 unfold n9;split
 .rename_i d;unfold tP;split
  .rename_i b;have:=sG d b;have j:=Lib.itoa_length_le v.num (by omega) (by omega);have e:(⟨(Lib.itoa v.num).toArray⟩:ByteArray).size=(Lib.itoa v.num).length:=by simp[abP]
   omega
  .rename_i b;have j:=sF d b;split
   .omega
   .have:=FL v.sym;omega
 .decide
mutual
def Expr.ts:Expr->Nat
 | .mk _ v _ _ args=>v.size+400+Expr.lH args
def Expr.lH:List Expr->Nat
 | []=>0
 |e::r=>e.ts+Expr.lH r
end
theorem Expr.mf(e:Expr):e.ts=e.var.size+400+Expr.lH e.args:=by cases e;rfl
theorem Expr.tN: ∀(l:List Expr) (k:Nat),k<l.length->(l.getD k em).ts<=Expr.lH l
 |e::r,0,_=>by simp[Expr.lH]
 |e::r,k+1,h=>by
  have:=Expr.tN r k (by simpa using h);simp only[aap,Expr.lH];omega
 | [],k,h=>by simp at h
theorem Expr.wR: ∀(l:List Expr),l.length=2->(l.getD 0 em).ts+(l.getD 1 em).ts<=Expr.lH l
 | [a,b],_=>by simp[Expr.lH]
 | [],h=>by simp at h
 | [a],h=>by simp at h
 |a::b::c::r,h=>by simp at h
def sM:aj:=⟨#[45]⟩
def sO:aj:=⟨#[40]⟩
def sC:aj:=⟨#[41]⟩
def G1:aj:=⟨#[32]⟩
def oH(w:WS):WS:=⟨w.fr,w.l,kw,w.br⟩
def qk(e:Expr):Bool:=ei e.var&&(cU e.val&&(li (e.op=0)&&li ((e.args.length:Int)=0)))
def rZ(e:Expr):Bool:=li (e.var=⟨#[]⟩)&&(li (e.op=0)&&li ((e.args.length:Int)=0))
def mA(e:Expr):Bool:=li (e.var=⟨#[]⟩)&&(cU e.val&&li (bh e.op>0))
def aP(e:Expr):Expr:=e.args.getD 0 em
def k9(e:Expr):Expr:=e.args.getD 1 em
def pO(e:Expr):Bool:=li (e.kind=2)&&li (e.val.kind=1)
def ot(a:Expr):Bool:=li (eA a<3)||(pO a&&li (a.val.num>0))
def jL(w:WS)(e:Expr)(k:WS):WS:=
 if w.bad=kw then oH w else if e.kind=1 then a8 (aT w (qk e)) [e.var] else if e.kind=2 then nJ (aT w (rZ e)) e.val else if e.kind=4 then k else oH w
def km(a0:Bool->WS->Expr->WS)(w:WS)(e:Expr):WS:=
 if w.bad=kw then oH w else if e.op=6 then
  (if e.args.length=1 then a0 (ot (aP e)) (if(pO (aP e)&&li ((aP e).val.num=0))=kw then a8 (a8 w [sM]) [sM] else a8 w [sM]) (aP e) else oH w)
 else if e.args.length=2 then a0 (li (eA (k9 e)<=bh e.op)) (a8 (a0 (li (eA (aP e)<bh e.op)) w (aP e)) [G1,pE e.op,G1]) (k9 e) else oH w
def cP:Nat->WS->Expr->WS
 |0,w,_=>oH w
 |1,w,e=>jL w e (oH (aT w (mA e)))
 |m+2,w,e=>jL w e (km (fun b w a=>if b=kw then a8 (cP m (a8 w [sO]) a) [sC] else cP (m+1) w a) (aT w (mA e)) e)
def qV(m:Nat)(b:Bool)(w:WS)(a:Expr):WS:=if b=kw then a8 (cP m (a8 w [sO]) a) [sC] else cP (m+1) w a
theorem aX(w:WS)(b:Bool):(aT w b).l=w.l:=rfl
theorem iC(w:WS):(oH w).l=w.l:=rfl
theorem cy(s:aj):gX [s]=s.size:=by simp[gX]
theorem Dr(op:Int):(pE op).size<=3:=by
 unfold pE
 repeat' split
 all_goals decide
theorem aV(w:WS)(s:aj):(a8 w [s]).l.length=w.l.length+s.size:=by rw[kO,cy]
theorem xn(w:WS)(v:tG):(nJ w v).l.length<=w.l.length+300:=by
 have:=n8 v;rw[nJ,aV,aX];omega
theorem AN(w k:WS)(e:Expr)(h:k.l.length<=w.l.length+e.ts):(jL w e k).l.length<=w.l.length+e.ts:=by
 have:=e.mf;unfold jL
 repeat' split
 .rw[iC];omega
 .rw[aV,aX];omega
 .have:=xn (aT w (rZ e)) e.val;rw[aX]at this;omega
 .exact h
 .rw[iC];omega
theorem IY(a0:Bool->WS->Expr->WS)(d: ∀b w a,(a0 b w a).l.length<=w.l.length+(2+a.ts))(w:WS)(e:Expr):(km a0 w e).l.length<=w.l.length+e.ts:=by
 have B:=e.mf;unfold km;split
 .rw[iC];omega
 split
 .split
  .rename_i u;have y:=Expr.tN e.args 0 (by omega);have j:sM.size=1:=rfl;split
   .have:=d (ot (aP e)) (a8 (a8 w [sM]) [sM]) (aP e);rw[aV,aV]at this;simp only[aP]at this ⊢;omega
   .have:=d (ot (aP e)) (a8 w [sM]) (aP e);rw[aV]at this;simp only[aP]at this ⊢;omega
  .rw[iC];omega
 .split
  .rename_i u;have y:=Expr.wR e.args u;have x:=d (li (eA (k9 e)<=bh e.op)) (a8 (a0 (li (eA (aP e)<bh e.op)) w (aP e)) [G1,pE e.op,G1]) (k9 e);have D:=d (li (eA (aP e)<bh e.op)) w (aP e);have F:=Dr e.op;have j:G1.size=1:=rfl;rw[kO]at x;have A:gX [G1,pE e.op,G1]=1+((pE e.op).size+1):=by simp[gX,j]
   simp only[aP,k9] at*;omega
  .rw[iC];omega
theorem eh: ∀(n:Nat) (w:WS) (e:Expr),(cP n w e).l.length<=w.l.length+e.ts
 |0,w,e=>by rw[cP,iC];omega
 |1,w,e=>by rw[cP];exact AN _ _ _ (by rw[iC,aX];omega)
 |m+2,w,e=>by
  rw[cP];refine AN _ _ _ ?_
  have:=IY (fun d w a=>if d=kw then a8 (cP m (a8 w [sO]) a) [sC] else cP (m+1) w a) (fun b w a=>by
   split
   .have j:=eh m (a8 w [sO]) a;have u:sO.size=1:=rfl;have x:sC.size=1:=rfl;rw[aV]at j ⊢;omega
   .have:=eh (m+1) w a
    omega) (aT w (mA e)) e
  rwa[aX]at this
theorem M8(m:Nat)(b:Bool)(w:WS)(a:Expr):(qV m b w a).l.length<=w.l.length+(2+a.ts):=by
 unfold qV;split
 .have d:=eh m (a8 w [sO]) a;have j:sO.size=1:=rfl;have u:sC.size=1:=rfl;rw[aV]at d ⊢;omega
 .have:=eh (m+1) w a;omega
def PE(n:Nat):Prop:= ∀(d:Int) (w:WS) (e:Expr),d+1=n->w.l.length+e.ts<=1000000000->bV prog 222 [.ptr 0 0,ag e.c,pI d] w.O (.bQ []) (cP n w e).H 3
theorem d225(n:Nat)(hn:n<=1000)(x:PE (n+1))(hB:PE n)(b:Bool)(d:Int)(hd:d=n)(w:WS)(e:Expr)(hb:w.l.length+e.ts+2<=1000000000):bV prog 263 [.ptr 0 0,ag e.c,pB b,pI d] w.O (.bQ []) (qV n b w e).H 3:=by
 refine aB ab func263 Z (by decide) ntmps263 Z (by simp) ?_;refine zJ Z Z (fun h=>?_) fun h=>?_
 .have h:b=lc:=by simpa using h
  rw[qV,be (by rw[h];simp)];refine gA Z (j6 (x d w e (by omega) (by omega)) ?_);refine gA Z kH
 .have h:b=kw:=by simpa using h
  rw[qV,am h];have j:sO.size=1:=rfl;have u:sC.size=1:=rfl;have y:=eh n (a8 w [sO]) e;have A:=aV w sO;refine gA Z (kU (d147 w [sO] (by simp) (by rw[cy,j];omega)) ?_);refine gA Z (j6 (hB (d-1) (a8 w [sO]) e (by omega) (by omega)) ?_);refine gA Z (kU (d147 (cP n (a8 w [sO]) e) [sC] (by simp) (by rw[cy,u];omega)) ?_);refine gA Z kH
theorem WO(d:Int)(hd:d<0)(w:WS)(e:Expr):bV prog 247 [.ptr 0 0,ag e.c,pI d] w.O (.bQ []) (oH w).H 3:=by
 refine aB ab func247 Z (by decide) ntmps247 Z (by simp) ?_
 repeat' (first
  |((rename_i h;exact absurd hd (zF h)))
  |(refine gA Z (zI (fun _=>?_) (fun _=>?_)))
  |(refine gA Z (Ms (by first|exact .inr Z|exact .inl Z) Z Z Z Z Z (by first|exact .refl _|exact .kb _) (by first|exact .refl _|exact .kb _) Z Z Z Z (.refl _) Z Z)))
set_option maxHeartbeats 2000000 in
theorem d213(m:Nat)(hm:m<=900)(I:PE (m+1))(hB:PE m)(d:Int)(hd:d=m)(w:WS)(e:Expr)(hb:w.l.length+e.ts<=1000000000):bV prog 247 [.ptr 0 0,ag e.c,pI d] w.O (.bQ []) (km (qV m) w e).H 3:=by
 refine bV.le (aa:=[.ptr 0 0,ag e.c,pI d]) (args:=[.ptr 0 0,ag e.c1,pI d]) ?_ ⟨.refl _,e.zr,.refl _,ac⟩;have e0:=e.mf;have G:sM.size=1:=rfl;have x:m<=1000:=by omega
 refine aB ab func247 Z (by decide) ntmps247 Z (by simp) ?_;refine zJ Z Z (fun J=>?_) fun J=>?_
 .have J:e.op=6:=zT J;refine zE Z Z (fun B=>?_) fun B=>?_
  .have B:w.bad=kw:=B;rw[km,am B];refine gA Z kH
  have B: ¬w.bad=kw:=by rw[show w.bad=lc from B];simp
  refine zE Z Z (fun D=>?_) fun D=>?_
  .have D: ¬e.args.length=1:=by simp at D;omega
   rw[km,be B,am J,be D];refine gA Z kH
  have D:e.args.length=1:=by simp at D;omega
  have hg:(aP e).ts<=_:=Expr.tN e.args 0 (by omega);have j:km (qV m) w e=qV m (ot (aP e)) (if(pO (aP e)&&li ((aP e).val.num=0))=kw then a8 (a8 w [sM]) [sM] else a8 w [sM]) (aP e):=by rw[km,be B,am J,am D]
  have b0:e.args.getD 0 em=aP e:=rfl;refine zJ Z Z (fun h3=>?_) fun h3=>?_
  .exact absurd (zT h3) (by omega)
  refine zE Z Z (fun h7=>?_) fun h7=>?_
  .exact absurd (zF h7) (by simp)
  have y:=aV w sM;refine zJ Z Z (fun hk=>?_) fun hk=>?_
  .have a0:(aP e).kind=2:=zT hk;refine gA Z (kU (d147 w [sM] (by simp) (by rw[cy,G];omega)) ?_);refine zE Z Z (fun hv=>?_) fun hv=>?_
   .have F: ¬(aP e).val.kind=1:=zF hv;have A:pO (aP e)=lc:=by rw[pO,decide_eq_false F,Z5]
    rw[A,Z9,be (by simp)]at j;refine gA Z (n7 (JF (aP e)) ?_);refine zJ Z Z (fun u=>?_) fun u=>?_
    .have b:eA (aP e)<3:=zT u;rw[ot,decide_eq_true b,abx]at j;rw[j];refine gA Z (zt (d225 m x I hB kw d hd (a8 w [sM]) (aP e) (by rw[y,G];omega)) ?_);refine gA Z kH
    .have b: ¬eA (aP e)<3:=zF u;refine zJ Z Z (fun S=>?_) fun S=>?_
     .exact absurd (zT S) F
     rw[ot,decide_eq_false b,aag,A,Z9]at j;rw[j];refine gA Z (zt (d225 m x I hB lc d hd (a8 w [sM]) (aP e) (by rw[y,G];omega)) ?_);refine gA Z kH
   .have F:(aP e).val.kind=1:=zT hv;have A:pO (aP e)=kw:=by rw[pO,decide_eq_true F,decide_eq_true a0];rfl
    rw[A,ZR]at j;refine zJ Z Z (fun h0=>?_) fun h0=>?_
    .have Y:(aP e).val.num=0:=zT h0;rw[am (decide_eq_true Y)]at j;refine gA Z (kU (d147 (a8 w [sM]) [sM] (by simp) (by rw[cy,y,G];omega)) ?_);refine gA Z (n7 (JF (aP e)) ?_);refine zJ Z Z (fun u=>?_) fun u=>?_
     .have b:eA (aP e)<3:=zT u;rw[ot,decide_eq_true b,abx]at j;rw[j];refine gA Z (zt (d225 m x I hB kw d hd (a8 (a8 w [sM]) [sM]) (aP e) (by rw[aV,y,G];omega)) ?_);refine gA Z kH
     .have b: ¬eA (aP e)<3:=zF u;refine zE Z Z (fun S=>?_) fun S=>?_
      .exact absurd F (zF S)
      rw[ot,decide_eq_false b,aag,A,ZR]at j;rw[j];refine gA Z (zt (d225 m x I hB (li ((aP e).val.num>0)) d hd (a8 (a8 w [sM]) [sM]) (aP e) (by rw[aV,y,G];omega)) ?_);refine gA Z kH
    .have Y: ¬(aP e).val.num=0:=zF h0;rw[be (by simpa using Y)]at j;refine gA Z (n7 (JF (aP e)) ?_);refine zJ Z Z (fun u=>?_) fun u=>?_
     .have b:eA (aP e)<3:=zT u;rw[ot,decide_eq_true b,abx]at j;rw[j];refine gA Z (zt (d225 m x I hB kw d hd (a8 w [sM]) (aP e) (by rw[y,G];omega)) ?_);refine gA Z kH
     .have b: ¬eA (aP e)<3:=zF u;refine zE Z Z (fun S=>?_) fun S=>?_
      .exact absurd F (zF S)
      rw[ot,decide_eq_false b,aag,A,ZR]at j;rw[j];refine gA Z (zt (d225 m x I hB (li ((aP e).val.num>0)) d hd (a8 w [sM]) (aP e) (by rw[y,G];omega)) ?_);refine gA Z kH
  .have a0: ¬(aP e).kind=2:=zF hk;have A:pO (aP e)=lc:=by rw[pO,decide_eq_false a0];rfl
   rw[A,Z9,be (by simp)]at j;refine gA Z (kU (d147 w [sM] (by simp) (by rw[cy,G];omega)) ?_);refine gA Z (n7 (JF (aP e)) ?_);refine zJ Z Z (fun u=>?_) fun u=>?_
   .have b:eA (aP e)<3:=zT u;rw[ot,decide_eq_true b,abx]at j;rw[j];refine gA Z (zt (d225 m x I hB kw d hd (a8 w [sM]) (aP e) (by rw[y,G];omega)) ?_);refine gA Z kH
   .have b: ¬eA (aP e)<3:=zF u;rw[ot,decide_eq_false b,aag,A,Z9]at j;rw[j];refine gA Z (zt (d225 m x I hB lc d hd (a8 w [sM]) (aP e) (by rw[y,G];omega)) ?_);refine gA Z kH
 .have J: ¬e.op=6:=zF J;refine zE Z Z (fun B=>?_) fun B=>?_
  .have B:w.bad=kw:=B;rw[km,am B];refine gA Z kH
  have B: ¬w.bad=kw:=by rw[show w.bad=lc from B];simp
  refine zE Z Z (fun D=>?_) fun D=>?_
  .have D: ¬e.args.length=2:=by simp at D;omega
   rw[km,be B,be J,be D];refine gA Z kH
  have D:e.args.length=2:=by simp at D;omega
  have hg:(aP e).ts+(k9 e).ts<=_:=Expr.wR e.args D;rw[km,be B,be J,am D];refine zJ Z Z (fun h3=>?_) fun h3=>?_
  .exact absurd (zT h3) (by omega)
  refine zJ Z Z (fun h7=>?_) fun h7=>?_
  .exact absurd (zT h7) (by simp)
  refine gA Z (n7 (JF (aP e)) ?_);refine gA Z (n7 (QW e.op) ?_);refine gA Z (zt (d225 m x I hB (li (eA (aP e)<bh e.op)) d hd w (aP e) (by omega)) ?_);refine gA Z (zp (Yf e.op) ?_);have c0:=M8 m (li (eA (aP e)<bh e.op)) w (aP e);have d0:=Dr e.op;have e2:G1.size=1:=rfl;have e3:gX [G1,pE e.op,G1]=1+((pE e.op).size+1):=by simp[gX,e2]
  refine gA Z (kU (d147 (qV m (li (eA (aP e)<bh e.op)) w (aP e)) [G1,pE e.op,G1] (by simp) (by rw[e3];omega)) ?_);refine gA Z (n7 (JF (k9 e)) ?_);refine gA Z (n7 (QW e.op) ?_);refine gA Z (zt (d225 m x I hB (li (eA (k9 e)<=bh e.op)) d hd (a8 (qV m (li (eA (aP e)<bh e.op)) w (aP e)) [G1,pE e.op,G1]) (k9 e) (by rw[kO,e3];omega)) ?_);refine gA Z kH
theorem d189(d:Int)(S:0<=d)(Y:d<=1000)(w:WS)(e:Expr)(hb:w.l.length+e.ts<=1000000000)(k:WS)(G:bV prog 247 [.ptr 0 0,ag e.c,pI (d-1)] (aT w (mA e)).O (.bQ []) k.H 3):bV prog 222 [.ptr 0 0,ag e.c,pI d] w.O (.bQ []) (jL w e k).H 3:=by
 have a0:=e.mf;refine aB ab func222 Z (by decide) ntmps222 Z (by simp) ?_;refine zE Z Z (fun I=>?_) fun I=>?_
 .have I:w.bad=kw:=I;rw[jL,am I];refine gA Z kH
 have A: ¬w.bad=kw:=by rw[show w.bad=lc from I];simp
 refine zJ Z Z (fun J=>?_) fun J=>?_
 .exact absurd (zT J) (by omega)
 refine zJ Z Z (fun B=>?_) fun B=>?_
 .have j:e.kind=1:=zT B;have y:jL w e k=a8 (aT w (qk e)) [e.var]:=by rw[jL,be A,am j]
  rw[y];refine gA Z (zp (Gt e.var) ?_);refine zE Z Z (fun g0=>?_) fun g0=>?_
  .have b:qk e=lc:=by simp only[qk,cU, *];rfl
   rw[b];refine gA Z (j6 (d146 w lc) ?_);refine gA Z (kU (d147 (aT w lc) [e.var] (by simp) (by rw[cy,aX];omega)) ?_);refine gA Z kH
  refine zE Z Z (fun g1=>?_) fun g1=>?_
  .have b:qk e=lc:=by simp only[qk,cU, *];rfl
   rw[b];refine gA Z (j6 (d146 w lc) ?_);refine gA Z (kU (d147 (aT w lc) [e.var] (by simp) (by rw[cy,aX];omega)) ?_);refine gA Z kH
  refine zE Z Z (fun g2=>?_) fun g2=>?_
  .have b:qk e=lc:=by simp only[qk,cU, *];rfl
   rw[b];refine gA Z (j6 (d146 w lc) ?_);refine gA Z (kU (d147 (aT w lc) [e.var] (by simp) (by rw[cy,aX];omega)) ?_);refine gA Z kH
  have b:qk e=li ((e.args.length:Int)=0):=by simp only[qk,cU, *];rfl
  rw[b];refine gA Z (j6 (d146 w (li ((e.args.length:Int)=0))) ?_);refine gA Z (kU (d147 (aT w (li ((e.args.length:Int)=0))) [e.var] (by simp) (by rw[cy,aX];omega)) ?_);refine gA Z kH
 have j: ¬e.kind=1:=zF B;refine zJ Z Z (fun D=>?_) fun D=>?_
 .have u:e.kind=2:=zT D;have y:jL w e k=nJ (aT w (rZ e)) e.val:=by rw[jL,be A,be j,am u]
  rw[y];have b0:=n8 e.val;refine zE Z Z (fun g0=>?_) fun g0=>?_
  .have b:rZ e=lc:=by simp only[rZ,cU, *];rfl
   rw[b];refine gA Z (j6 (d146 w lc) ?_);refine gA Z (j6 (d149 (aT w lc) e.val (by rw[aX];omega) (by omega)) ?_);refine gA Z kH
  refine zE Z Z (fun g1=>?_) fun g1=>?_
  .have b:rZ e=lc:=by simp only[rZ,cU, *];rfl
   rw[b];refine gA Z (j6 (d146 w lc) ?_);refine gA Z (j6 (d149 (aT w lc) e.val (by rw[aX];omega) (by omega)) ?_);refine gA Z kH
  have b:rZ e=li ((e.args.length:Int)=0):=by simp only[rZ,cU, *];rfl
  rw[b];refine gA Z (j6 (d146 w (li ((e.args.length:Int)=0))) ?_);refine gA Z (j6 (d149 (aT w (li ((e.args.length:Int)=0))) e.val (by rw[aX];omega) (by omega)) ?_);refine gA Z kH
 have u: ¬e.kind=2:=zF D;refine zJ Z Z (fun F=>?_) fun F=>?_
 .have x:e.kind=4:=zT F;have y:jL w e k=k:=by rw[jL,be A,be j,be u,am x]
  rw[y];refine zE Z Z (fun g0=>?_) fun g0=>?_
  .have b:mA e=lc:=by simp only[mA,cU, *];rfl
   rw[b]at G;refine gA Z (j6 (d146 w lc) ?_);refine gA Z (j6 (G) ?_);refine gA Z kH
  refine zE Z Z (fun g1=>?_) fun g1=>?_
  .have b:mA e=lc:=by simp only[mA,cU, *];rfl
   rw[b]at G;refine gA Z (j6 (d146 w lc) ?_);refine gA Z (j6 (G) ?_);refine gA Z kH
  refine gA Z (zp (QW e.op) ?_);have b:mA e=li (bh e.op>0):=by simp only[mA,cU, *];rfl
  rw[b]at G;refine gA Z (j6 (d146 w (li (bh e.op>0))) ?_);refine gA Z (j6 (G) ?_);refine gA Z kH
 have x: ¬e.kind=4:=zF F;rw[jL,be A,be j,be u,be x];refine gA Z kH
theorem pe0:PE 0:=fun d w e hd hb=>by
 refine aB ab func222 Z (by decide) ntmps222 Z (by simp) ?_;rw[cP]
 repeat' (first
  |((rename_i h;exact absurd (by omega:d<0) (zF h)))
  |(refine gA Z (zI (fun _=>?_) (fun _=>?_)))
  |(refine gA Z (Ms (by first|exact .inr Z|exact .inl Z) Z Z Z Z Z (by first|exact .refl _|exact .kb _) (by first|exact .refl _|exact .kb _) Z Z Z Z (.refl _) Z Z)))
theorem FM: ∀n,n<=900->PE n
 |0,_=>pe0
 |1,_=>fun d w e hd hb=>d189 d (by omega) (by omega) w e hb _ (WO (d-1) (by omega) (aT w (mA e)) e)
 |m+2,h=>fun d w e hd hb=>d189 d (by omega) (by omega) w e (by omega) _ (d213 m (by omega) (FM (m+1) (by omega)) (FM m (by omega)) (d-1) (by omega) (aT w (mA e)) e (by rw[aX];omega))
theorem sq(w:WS)(e:Expr)(hb:w.l.length+e.ts<=900000000):bV prog 222 [.ptr 0 0,ag e.c,pI 16] w.O (.bQ []) (cP 17 w e).H 3:=FM 17 (by omega) 16 w e (by omega) (by omega)
def wE:aj:=⟨#[44,32]⟩
def Kz:aj:=⟨#[95]⟩
def iV(i:Nat)(w:WS):WS:=if i=0 then w else a8 w [wE]
def zm(t:Term):Bool:=ei t.var&&cU t.val
def zn(t:Term):Bool:=li (t.var=⟨#[]⟩)&&cU t.val
def lC(w:WS)(t:Term):WS:=
 if t.kind=1 then a8 (aT w (zm t)) [t.var] else if t.kind=2 then nJ (aT w (li (t.var=⟨#[]⟩))) t.val else if t.kind=3 then a8 (aT w (zn t)) [Kz] else oH w
def eD(l:List Term)(w:WS):Nat->WS
 |0=>w
 |i+1=>lC (iV i (eD l w i)) (l.getD i em)
def ko(w:WS)(a:Atom):WS:=a8 (eD a.ad (a8 (aT w (ep a.rel)) [a.rel,sO]) a.ad.length) [sC]
def Term.ts(t:Term):Nat:=t.var.size+310
def Atom.ts(a:Atom):Nat:=a.rel.size+10+(a.ad.map Term.ts).sum
theorem pn(i:Nat)(w:WS):(iV i w).l.length<=w.l.length+2:=by
 have e:wE.size=2:=rfl;unfold iV;split
 .omega
 .rw[aV,e];omega
theorem Iq(w:WS)(t:Term):(lC w t).l.length<=w.l.length+300+t.var.size:=by
 have e:Kz.size=1:=rfl;unfold lC
 repeat' split
 .rw[aV,aX];omega
 .have:=xn (aT w (li (t.var=⟨#[]⟩))) t.val;rw[aX]at this;omega
 .rw[aV,aX,e];omega
 .rw[iC];omega
theorem uX: ∀(l:List Term) (i:Nat),i<l.length->((l.take i).map Term.ts).sum+(l.getD i em).ts<=(l.map Term.ts).sum
 | [],i,h=>by simp at h
 |s::r,0,_=>by simp
 |s::r,i+1,h=>by
  have:=uX r i (by simpa using h);simp at this ⊢;omega
theorem GR: ∀(l:List Term) (i:Nat),((l.take i).map Term.ts).sum<=(l.map Term.ts).sum
 | [],i=>by simp
 |s::r,0=>by simp
 |s::r,i+1=>by have:=GR r i;simp at this ⊢;omega
theorem sJ(l:List Term)(w:WS): ∀i,i<=l.length->(eD l w i).l.length<=w.l.length+((l.take i).map Term.ts).sum
 |0,_=>by simp[eD]
 |i+1,h=>by
  have b:=sJ l w i (by omega);have d:=pn i (eD l w i);have j:=Iq (iV i (eD l w i)) (l.getD i em);have u:(l.getD i em).ts=(l.getD i em).var.size+310:=rfl;have x:((l.take (i+1)).map Term.ts).sum=((l.take i).map Term.ts).sum+(l.getD i em).ts:=by
   rw[bz (by omega),Y6,List.sum_append];simp
  rw[eD];omega
theorem Bm(w:WS)(a:Atom):(ko w a).l.length<=w.l.length+a.ts:=by
 have b:sO.size=1:=rfl;have d:sC.size=1:=rfl;have j:gX [a.rel,sO]=a.rel.size+1:=by simp[gX,b]
 have u:=sJ a.ad (a8 (aT w (ep a.rel)) [a.rel,sO]) a.ad.length (Y7 _);rw[kO,j,aX,aaI]at u;rw[ko,aV,d];unfold Atom.ts;omega
theorem AM: ∀l:List Term,l.length<=(l.map Term.ts).sum
 | []=>by simp
 |t::r=>by have:=AM r;simp[Term.ts]at this ⊢;omega
set_option maxHeartbeats 1000000 in
theorem d104(w:WS)(a:Atom)(hb:w.l.length+a.ts<=900000000):bV prog 188 [.ptr 0 0,ag a.c] w.O (.bQ []) (ko w a).H 3:=by
 have J:sO.size=1:=rfl;have S:sC.size=1:=rfl;have A:wE.size=2:=rfl;have e5:Kz.size=1:=rfl;have I:gX [a.rel,sO]=a.rel.size+1:=by simp[gX,J]
 have f0:a.ts=a.rel.size+10+(a.ad.map Term.ts).sum:=rfl;have c0:=AM a.ad;have a0:(a8 (aT w (ep a.rel)) [a.rel,sO]).l.length=w.l.length+(a.rel.size+1):=by rw[kO,I,aX]
 refine aB ab func188 Z (by decide) ntmps188 Z (by simp) ?_;refine gA Z (zp (X0 a.rel) ?_);refine gA Z (j6 (d146 w (ep a.rel)) ?_);refine gA Z (kU (d147 (aT w (ep a.rel)) [a.rel,sO] (by simp) (by rw[I,aX];omega)) ?_);generalize hW:a8 (aT w (ep a.rel)) [a.rel,sO]=w1 at*
 refine gA Z ?_;refine az 0 a.ad.length (Y8 _) (fun i=>⟨[(0,.ptr 0 0),(17,.iv (cZ 5 a.ad Term.c)),(18,pI a.ad.length),(19,pI i)],[(0,io ((eD a.ad w1 i).uQ 0 6)),(6,io (.bT (eD a.ad w1 i).l 5))],7⟩) (fun _=>True) _ ac
  (XA (w:=w1) Z Z Z Z Z (.refl _) (.refl _) Z Z Z Z Z (bv (bv (bv (bv trivial))))) fun i hi _=>?_
 have b0:=sJ a.ad w1 i hi;have d0:=GR a.ad i;refine zE Z Z (fun u=>?_) fun u=>?_
 .have u:a.ad.length<=i:=zG u;have G:i=a.ad.length:=by omega
  subst G;refine gA Z (kU (d147 (eD a.ad w1 a.ad.length) [sC] (by simp) (by rw[cy,S];omega)) ?_);rw[ko,hW];refine gA Z kH
 have u:i<a.ad.length:=zN u;have e0:=uX a.ad i u;have b:eD a.ad w1 (i+1)=lC (iV i (eD a.ad w1 i)) (a.ad.getD i em):=rfl;have ht:(a.ad.getD i em).ts=(a.ad.getD i em).var.size+310:=rfl;have i0:=n8 (a.ad.getD i em).val;have Y:=pn i (eD a.ad w1 i);generalize hT:eD a.ad w1 i=w2 at*
 refine zJ Z Z (fun B=>?_) fun B=>?_
 .have B: ¬i=0:=by have:=zT B;omega
  rw[iV,be B]at b;refine gA Z (kU (d147 w2 [wE] (by simp) (by rw[cy,A];omega)) ?_);refine zJ Z Z (fun k1=>?_) fun k1=>?_
  .have d:(a.ad.getD i em).kind=1:=zT k1;rw[lC,am d]at b;refine gA Z (zp (Gt (a.ad.getD i em).var) ?_);refine zE Z Z (fun g0=>?_) fun g0=>?_
   .have x:zm (a.ad.getD i em)=lc:=by have g:ei (a.ad.getD i em).var=lc:=g0;rw[zm,g];rfl
    rw[x]at b;refine gA Z (j6 (d146 (a8 w2 [wE]) lc) ?_);refine gA Z (kU (d147 (aT (a8 w2 [wE]) lc) [(a.ad.getD i em).var] (by simp) (by rw[cy,aX];first|omega|(rw[aV,A];omega))) ?_);refine gA Z ⟨u,ac,_,tI (b.symm)⟩
   have x:zm (a.ad.getD i em)=cU (a.ad.getD i em).val:=by have g:ei (a.ad.getD i em).var=kw:=g0;rw[zm,g];rfl
   rw[x]at b;refine gA Z (j6 (d146 (a8 w2 [wE]) (cU (a.ad.getD i em).val)) ?_);refine gA Z (kU (d147 (aT (a8 w2 [wE]) (cU (a.ad.getD i em).val)) [(a.ad.getD i em).var] (by simp) (by rw[cy,aX];first|omega|(rw[aV,A];omega))) ?_);refine gA Z ⟨u,ac,_,tI (b.symm)⟩
  have d: ¬(a.ad.getD i em).kind=1:=zF k1;refine zJ Z Z (fun D=>?_) fun D=>?_
  .have j:(a.ad.getD i em).kind=2:=zT D;rw[lC,be d,am j]at b;refine gA Z (j6 (d146 (a8 w2 [wE]) (li ((a.ad.getD i em).var=⟨#[]⟩))) ?_);refine gA Z (j6 (d149 (aT (a8 w2 [wE]) (li ((a.ad.getD i em).var=⟨#[]⟩))) (a.ad.getD i em).val (by rw[aX];first|omega|(rw[aV,A];omega)) (by omega)) ?_);refine gA Z ⟨u,ac,_,tI (b.symm)⟩
  have j: ¬(a.ad.getD i em).kind=2:=zF D;refine zJ Z Z (fun F=>?_) fun F=>?_
  .have y:(a.ad.getD i em).kind=3:=zT F;rw[lC,be d,be j,am y]at b;refine zE Z Z (fun g0=>?_) fun g0=>?_
   .have x:zn (a.ad.getD i em)=lc:=by have g:li ((a.ad.getD i em).var=⟨#[]⟩)=lc:=g0;rw[zn,g];rfl
    rw[x]at b;refine gA Z (j6 (d146 (a8 w2 [wE]) lc) ?_);refine gA Z (kU (d147 (aT (a8 w2 [wE]) lc) [Kz] (by simp) (by rw[cy,aX];first|omega|(rw[aV,A];omega))) ?_);refine gA Z ⟨u,ac,_,tI (b.symm)⟩
   have x:zn (a.ad.getD i em)=cU (a.ad.getD i em).val:=by have g:li ((a.ad.getD i em).var=⟨#[]⟩)=kw:=g0;rw[zn,g];rfl
   rw[x]at b;refine gA Z (j6 (d146 (a8 w2 [wE]) (cU (a.ad.getD i em).val)) ?_);refine gA Z (kU (d147 (aT (a8 w2 [wE]) (cU (a.ad.getD i em).val)) [Kz] (by simp) (by rw[cy,aX];first|omega|(rw[aV,A];omega))) ?_);refine gA Z ⟨u,ac,_,tI (b.symm)⟩
  have y: ¬(a.ad.getD i em).kind=3:=zF F;rw[lC,be d,be j,be y]at b;refine gA Z ⟨u,ac,_,tI (b.symm)⟩
 .have B:i=0:=by have:=zF B;omega
  rw[iV,am B]at b;refine zJ Z Z (fun k1=>?_) fun k1=>?_
  .have d:(a.ad.getD i em).kind=1:=zT k1;rw[lC,am d]at b;refine gA Z (zp (Gt (a.ad.getD i em).var) ?_);refine zE Z Z (fun g0=>?_) fun g0=>?_
   .have x:zm (a.ad.getD i em)=lc:=by have g:ei (a.ad.getD i em).var=lc:=g0;rw[zm,g];rfl
    rw[x]at b;refine gA Z (j6 (d146 w2 lc) ?_);refine gA Z (kU (d147 (aT w2 lc) [(a.ad.getD i em).var] (by simp) (by rw[cy,aX];first|omega|(rw[aV,A];omega))) ?_);refine gA Z ⟨u,ac,_,tI (b.symm)⟩
   have x:zm (a.ad.getD i em)=cU (a.ad.getD i em).val:=by have g:ei (a.ad.getD i em).var=kw:=g0;rw[zm,g];rfl
   rw[x]at b;refine gA Z (j6 (d146 w2 (cU (a.ad.getD i em).val)) ?_);refine gA Z (kU (d147 (aT w2 (cU (a.ad.getD i em).val)) [(a.ad.getD i em).var] (by simp) (by rw[cy,aX];first|omega|(rw[aV,A];omega))) ?_);refine gA Z ⟨u,ac,_,tI (b.symm)⟩
  have d: ¬(a.ad.getD i em).kind=1:=zF k1;refine zJ Z Z (fun D=>?_) fun D=>?_
  .have j:(a.ad.getD i em).kind=2:=zT D;rw[lC,be d,am j]at b;refine gA Z (j6 (d146 w2 (li ((a.ad.getD i em).var=⟨#[]⟩))) ?_);refine gA Z (j6 (d149 (aT w2 (li ((a.ad.getD i em).var=⟨#[]⟩))) (a.ad.getD i em).val (by rw[aX];first|omega|(rw[aV,A];omega)) (by omega)) ?_);refine gA Z ⟨u,ac,_,tI (b.symm)⟩
  have j: ¬(a.ad.getD i em).kind=2:=zF D;refine zJ Z Z (fun F=>?_) fun F=>?_
  .have y:(a.ad.getD i em).kind=3:=zT F;rw[lC,be d,be j,am y]at b;refine zE Z Z (fun g0=>?_) fun g0=>?_
   .have x:zn (a.ad.getD i em)=lc:=by have g:li ((a.ad.getD i em).var=⟨#[]⟩)=lc:=g0;rw[zn,g];rfl
    rw[x]at b;refine gA Z (j6 (d146 w2 lc) ?_);refine gA Z (kU (d147 (aT w2 lc) [Kz] (by simp) (by rw[cy,aX];first|omega|(rw[aV,A];omega))) ?_);refine gA Z ⟨u,ac,_,tI (b.symm)⟩
   have x:zn (a.ad.getD i em)=cU (a.ad.getD i em).val:=by have g:li ((a.ad.getD i em).var=⟨#[]⟩)=kw:=g0;rw[zn,g];rfl
   rw[x]at b;refine gA Z (j6 (d146 w2 (cU (a.ad.getD i em).val)) ?_);refine gA Z (kU (d147 (aT w2 (cU (a.ad.getD i em).val)) [Kz] (by simp) (by rw[cy,aX];first|omega|(rw[aV,A];omega))) ?_);refine gA Z ⟨u,ac,_,tI (b.symm)⟩
  have y: ¬(a.ad.getD i em).kind=3:=zF F;rw[lC,be d,be j,be y]at b;refine gA Z ⟨u,ac,_,tI (b.symm)⟩
end Go.Proofs.YtflegjieadkonaaGreatDoor
namespace Go.Proofs.YtflegjieadkonaaGreatDoor
open Go Go.Al
def xF:aj:=⟨#[110,111,116,32]⟩
def p4:aj:=⟨#[32,61,32]⟩
def p5:aj:=⟨#[32,123,32]⟩
def Fm:aj:=⟨#[32,58,32]⟩
def wD:aj:=⟨#[32,125]⟩
def qN(op:Int):aj:=if op=1 then⟨#[32,61,32]⟩ else if op=2 then⟨#[32,33,61,32]⟩ else if op=3 then⟨#[32,60,32]⟩ else if op=4 then⟨#[32,60,61,32]⟩ else if op=5 then⟨#[32,62,32]⟩ else⟨#[32,62,61,32]⟩
def fB(f:Int):aj:=if f=1 then⟨#[99,111,117,110,116]⟩ else if f=2 then⟨#[115,117,109]⟩ else if f=3 then⟨#[109,105,110]⟩ else⟨#[109,97,120]⟩
def xf(w:WS)(n:Int):WS:=⟨w.fr,w.l,w.bad,w.br+n⟩
def di(f:Lit->WS->WS)(l:List Lit)(w:WS):Nat->WS
 |0=>w
 |i+1=>if(di f l w i).bad=kw then di f l w i else f (l.getD i em) (iV i (di f l w i))
def rr(w:WS)(a:eK):WS:=if a.func=1 then aT w (cX a.dY) else a8 (cP 17 w a.dY) [Fm]
def y7(f:Lit->WS->WS)(w:WS)(a:eK):WS:=
 if a.func<1∨5<=a.func∨16<=w.br∨a.body.length=0 then oH w
 else a8 (xf (di f a.body (xf (rr (a8 (aT w (ei a.var)) [a.var,p4,fB a.func,p5]) a) 1) a.body.length) (-1)) [wD]
def Ei(f:Lit->WS->WS)(l:Lit)(w:WS):WS:=
 if l.kind=2 then ko (a8 w [xF]) l.atom else if l.kind=1 then ko w l.atom
 else if l.kind=3 then(if l.op<1∨7<=l.op then oH (cP 17 w l.left) else cP 17 (a8 (cP 17 w l.left) [qN l.op]) l.right)
 else if l.kind=4 then y7 f w l.agg else oH w
def eC:Nat->Lit->WS->WS
 |0,_,w=>w
 |n+1,l,w=>Ei (eC n) l (aT w (kD l))
theorem dp: ∀(b:List aj) (w:WS),(a8 w b).br=w.br
 | [],w=>rfl
 |s::r,w=>dp r (BU w s)
theorem qp(w:WS)(b:Bool):(aT w b).br=w.br:=rfl
theorem Q5(w:WS):(oH w).br=w.br:=rfl
theorem zZ(w:WS)(v:tG):(nJ w v).br=w.br:=by rw[nJ,dp];rfl
theorem Ej(w k:WS)(e:Expr)(h:k.br=w.br):(jL w e k).br=w.br:=by
 unfold jL
 repeat' split
 .rfl
 .rw[dp];rfl
 .rw[zZ];rfl
 .exact h
 .rfl
theorem K8(a0:Bool->WS->Expr->WS)(d: ∀b w a,(a0 b w a).br=w.br)(w:WS)(e:Expr):(km a0 w e).br=w.br:=by
 unfold km
 repeat' split
 .rfl
 .rw[d,dp,dp]
 .rw[d,dp]
 .rfl
 .rw[d,dp,d]
 .rfl
theorem oC: ∀(n:Nat) (w:WS) (e:Expr),(cP n w e).br=w.br
 |0,w,e=>rfl
 |1,w,e=>by rw[cP];exact Ej _ _ _ Z
 |m+2,w,e=>by
  rw[cP];refine Ej _ _ _ ?_;rw[K8 _ (fun b w a=>?_)]
  .rfl
  .split
   .rw[dp,oC m,dp]
   .exact oC (m+1) _ _
theorem rF(i:Nat)(w:WS):(iV i w).br=w.br:=by
 unfold iV;split
 .rfl
 .exact dp _ _
theorem Ka(w:WS)(t:Term):(lC w t).br=w.br:=by
 unfold lC
 repeat' split
 .rw[dp];rfl
 .rw[zZ];rfl
 .rw[dp];rfl
 .rfl
theorem Aa(l:List Term)(w:WS): ∀i,(eD l w i).br=w.br
 |0=>rfl
 |i+1=>by rw[eD,Ka,rF,Aa l w i]
theorem Fc(w:WS)(a:Atom):(ko w a).br=w.br:=by rw[ko,dp,Aa,dp];rfl
theorem oG(f:Lit->WS->WS)(hf: ∀l w,(f l w).br=w.br)(l:List Lit)(w:WS): ∀i,(di f l w i).br=w.br
 |0=>rfl
 |i+1=>by
  rw[di];split
  .exact oG f hf l w i
  .rw[hf,rF,oG f hf l w i]
theorem FU(w:WS)(a:eK):(rr w a).br=w.br:=by
 unfold rr;split
 .rfl
 .rw[dp,oC]
theorem Rc(f:Lit->WS->WS)(hf: ∀l w,(f l w).br=w.br)(w:WS)(a:eK):(y7 f w a).br=w.br:=by
 unfold y7;split
 .rfl
 .rw[dp];show(di _ _ _ _).br+ -1=_;rw[oG f hf];show(rr _ _).br+1+ -1=_;rw[FU,dp,qp];omega
theorem Qh(f:Lit->WS->WS)(hf: ∀l w,(f l w).br=w.br)(l:Lit)(w:WS):(Ei f l w).br=w.br:=by
 unfold Ei
 repeat' split
 .rw[Fc,dp]
 .exact Fc _ _
 .rw[Q5,oC]
 .rw[oC,dp,oC]
 .exact Rc f hf _ _
 .rfl
theorem w6: ∀(n:Nat) (l:Lit) (w:WS),(eC n l w).br=w.br
 |0,_,_=>rfl
 |n+1,l,w=>by rw[eC,Qh (eC n) (w6 n)];rfl
mutual
def Lit.ts:Lit->Nat
 | .mk _ a _ l r _ v o b _=>100+a.ts+l.ts+r.ts+v.size+o.ts+Lit.lH b
def Lit.lH:List Lit->Nat
 | []=>0
 |e::r=>e.ts+Lit.lH r
end
theorem Lit.mf(l:Lit):l.ts=100+l.atom.ts+l.left.ts+l.right.ts+l.a7.size+l.jR.ts+Lit.lH l.ar:=by cases l;rfl
theorem Lit.tL: ∀(l:List Lit) (i:Nat),i<l.length->Lit.lH (l.take i)+(l.getD i em).ts<=Lit.lH l
 | [],i,h=>by simp at h
 |s::r,0,_=>by simp[Lit.lH]
 |s::r,i+1,h=>by
  have:=Lit.tL r i (by simpa using h);simp only[aan,Lit.lH,aap];omega
theorem Lit.J5: ∀(l:List Lit) (i:Nat),Lit.lH (l.take i)<=Lit.lH l
 | [],i=>by simp
 |s::r,0=>by simp[Lit.lH]
 |s::r,i+1=>by have:=Lit.J5 r i;simp only[aan,Lit.lH];omega
theorem Lit.TI(l:Lit):100<=l.ts:=by rw[l.mf];omega
theorem yE(op:Int):(qN op).size<=4:=by
 unfold qN
 repeat' split
 all_goals decide
theorem uy(op:Int):(fB op).size<=5:=by
 unfold fB
 repeat' split
 all_goals decide
def Rj(f:Lit->WS->WS):Prop:= ∀l w,(f l w).l.length+4<=w.l.length+l.ts
theorem rK(f:Lit->WS->WS)(hf:Rj f)(l:List Lit)(w:WS): ∀i,i<=l.length->(di f l w i).l.length<=w.l.length+Lit.lH (l.take i)
 |0,_=>by simp[di,Lit.lH]
 |i+1,h=>by
  have d:=rK f hf l w i (by omega);have y:Lit.lH (l.take (i+1))=Lit.lH (l.take i)+(l.getD i em).ts:=by
   rw[bz (by omega)];have: ∀(a:List Lit) (b:Lit),Lit.lH (a++ [b])=Lit.lH a+b.ts:=by
    intro a b
    induction a with
    |nil=>simp[Lit.lH]
    |cons x r ih=>simp only[aaC,Lit.lH,ih];omega
   exact this _ _
  rw[di];split
  .omega
  .have j:=hf (l.getD i em) (iV i (di f l w i));have u:=pn i (di f l w i);omega
theorem Hk(w:WS)(a:eK):(rr w a).l.length<=w.l.length+a.dY.ts+3:=by
 have e:Fm.size=3:=rfl;unfold rr;split
 .rw[aX];omega
 .have:=eh 17 w a.dY;rw[aV,e];omega
theorem AU(w:WS)(a:eK):(a8 (aT w (ei a.var)) [a.var,p4,fB a.func,p5]).l.length<=w.l.length+a.var.size+11:=by
 have b:p4.size=3:=rfl;have d:p5.size=3:=rfl;have h:=uy a.func;have e:gX [a.var,p4,fB a.func,p5]=a.var.size+(3+((fB a.func).size+3)):=by simp[gX,b,d]
 rw[kO,aX,e];omega
theorem Nf(f:Lit->WS->WS)(hf:Rj f)(w:WS)(a:eK):(y7 f w a).l.length<=w.l.length+a.var.size+a.dY.ts+Lit.lH a.body+20:=by
 have e:wD.size=2:=rfl;unfold y7;split
 .rw[iC];omega
 .rw[aV,e];show(di _ _ _ _).l.length+2<=_;have b:=rK f hf a.body (xf (rr (a8 (aT w (ei a.var)) [a.var,p4,fB a.func,p5]) a) 1) a.body.length (Y7 _);rw[aaI]at b;have d:=Hk (a8 (aT w (ei a.var)) [a.var,p4,fB a.func,p5]) a;have j:=AU w a;have u:(xf (rr (a8 (aT w (ei a.var)) [a.var,p4,fB a.func,p5]) a) 1).l.length=(rr (a8 (aT w (ei a.var)) [a.var,p4,fB a.func,p5]) a).l.length:=rfl;omega
theorem Lx(f:Lit->WS->WS)(hf:Rj f)(l:Lit)(w:WS):(Ei f l w).l.length+4<=w.l.length+l.ts:=by
 have x:=l.mf;have e:xF.size=4:=rfl;unfold Ei
 repeat' split
 .have b:=Bm (a8 w [xF]) l.atom;rw[aV,e]at b;omega
 .have b:=Bm w l.atom;omega
 .have b:=eh 17 w l.left;rw[iC];omega
 .have b:=eh 17 w l.left;have d:=eh 17 (a8 (cP 17 w l.left) [qN l.op]) l.right;have j:=yE l.op;rw[aV]at d;omega
 .have b:=Nf f hf w l.agg;have d:l.agg.var=l.a7:=rfl;have j:l.agg.dY=l.jR:=rfl;have u:l.agg.body=l.ar:=rfl;rw[d,j,u]at b;omega
 .rw[iC];omega
theorem ye: ∀n,Rj (eC n)
 |0=>fun l w=>by have:=l.TI;rw[eC];omega
 |n+1=>fun l w=>Lx (eC n) (ye n) l (aT w (kD l))
theorem Bi{f:Lit->WS->WS}{l:List Lit}{w:WS}{i:Nat}(h:(di f l w i).bad=kw): ∀k,di f l w (i+k)=di f l w i
 |0=>rfl
 |k+1=>by
  have:=Bi h k;rw[<-aaB,di,this,am h]
end Go.Proofs.YtflegjieadkonaaGreatDoor
namespace Go.Proofs.YtflegjieadkonaaGreatDoor
open Go Go.Al Go.Proofs.Tryz
def Nl(n:Nat):Prop:= ∀(l:Lit) (w:WS),l.size<=n->0<=w.br->w.br<=16->w.l.length+l.ts<=900000000->bV prog 190 [.ptr 0 0,ag l.c] w.O (.bQ []) (eC n l w).H 3
set_option maxHeartbeats 1000000 in
theorem d214(n:Nat)(D:Nl n)(w:WS)(b:List Lit)(hs:Lit.aA b<=n)(G:0<=w.br)(I:w.br<=16)(hb:w.l.length+Lit.lH b+2<=900000000)(hn:n<=100000000):
  bV prog 248 [.ptr 0 0,.iv (lits b)] w.O (.bQ []) (di (eC n) b w b.length).H 3:=by
 have F:wE.size=2:=rfl;have a0:=Lit.au b;refine aB ab func248 Z (by decide) ntmps248 Z (by simp) ?_;refine gA Z ?_;refine az 0 b.length (Y8 _) (fun i=>⟨[(0,.ptr 0 0),(6,.iv (lits b)),(7,pI b.length),(8,pI i)],[(0,io ((di (eC n) b w i).uQ 0 2)),(2,io (.bT (di (eC n) b w i).l 5))],3⟩) (fun _=>True) _ ac
  (XA (w:=w) Z Z Z Z Z (.refl _) (.refl _) Z Z Z Z Z (bv (bv (bv (bv trivial))))) fun i S _=>?_
 have Y:=rK (eC n) (ye n) b w i S;have J:=oG (eC n) (w6 n) b w i;have c0:=Lit.J5 b i;refine zE Z Z (fun j=>?_) fun j=>?_
 .have j:b.length<=i:=zG j;have B:i=b.length:=by omega
  subst B;refine gA Z kH
 have j:i<b.length:=zN j;have d0:=Lit.tL b i j;have b0:=Lit.aI b i j;have d:di (eC n) b w (i+1)=if(di (eC n) b w i).bad=kw then di (eC n) b w i else eC n (b.getD i em) (iV i (di (eC n) b w i)):=rfl;have u:=fun h=>Bi (f:=eC n) (l:=b) (w:=w) (i:=i) h (b.length-i);rw[Nat.add_sub_cancel' (Nat.le_of_lt j)]at u;have A:=pn i (di (eC n) b w i);have y:=rF i (di (eC n) b w i);generalize di (eC n) b w i=w2 at*
 refine zJ Z Z (fun g=>?_) fun g=>?_
 .have g:w2.bad=kw:=g;rw[u g];refine gA Z kH
 have g: ¬w2.bad=kw:=by
  have g:w2.bad=lc:=g;rw[g];decide
 rw[be g]at d;refine zJ Z Z (fun x=>?_) fun x=>?_
 .have x: ¬i=0:=by have:=zT x;omega
  rw[iV,be x]at d A y;refine gA Z (kU (d147 w2 [wE] (by simp) (by rw[cy,F];omega)) ?_);refine gA Z (j6 (D (b.getD i em) (a8 w2 [wE]) (by omega) (by omega) (by omega) (by omega)) ?_);refine gA Z ⟨j,ac,_,tI (d.symm)⟩
 .have x:i=0:=by have:=zF x;omega
  rw[iV,am x]at d A y;refine gA Z (j6 (D (b.getD i em) w2 (by omega) (by omega) (by omega) (by omega)) ?_);refine gA Z ⟨j,ac,_,tI (d.symm)⟩
def eK.ts(a:eK):Nat:=a.var.size+a.dY.ts+Lit.lH a.body
set_option maxHeartbeats 4000000 in
theorem d190(n:Nat)(S:Nl n)(w:WS)(a:eK)(hs:Lit.aA a.body<=n)(a0:0<=w.br)(b0:w.br<=16)(hb:w.l.length+a.ts+30<=900000000)(hn:n<=100000000):
  bV prog 223 [.ptr 0 0,ag a.c] w.O (.bQ []) (y7 (eC n) w a).H 3:=by
 refine bV.le (args:=[.ptr 0 0,ag a.c1]) ?_ ⟨.refl _,a.zr,ac⟩;have J:wD.size=2:=rfl;have Y:Fm.size=3:=rfl;have c0:=Lit.au a.body;have d0:a.ts=a.var.size+a.dY.ts+Lit.lH a.body:=rfl;have hW: ¬(a.func<1∨5<=a.func∨16<=w.br∨a.body.length=0)->y7 (eC n) w a=a8 (xf (di (eC n) a.body (xf (rr (a8 (aT w (ei a.var)) [a.var,p4,fB a.func,p5]) a) 1) a.body.length) (-1)) [wD]:=fun h=>be h;have hB:a.func<1∨5<=a.func∨16<=w.br∨a.body.length=0->y7 (eC n) w a=oH w:=fun h=>am h;have hh:=AU w a;have x:=Hk (a8 (aT w (ei a.var)) [a.var,p4,fB a.func,p5]) a;have j:=FU (a8 (aT w (ei a.var)) [a.var,p4,fB a.func,p5]) a;rw[dp,qp]at j;have y:(xf (rr (a8 (aT w (ei a.var)) [a.var,p4,fB a.func,p5]) a) 1).l.length=(rr (a8 (aT w (ei a.var)) [a.var,p4,fB a.func,p5]) a).l.length:=rfl;have A:(xf (rr (a8 (aT w (ei a.var)) [a.var,p4,fB a.func,p5]) a) 1).br=(rr (a8 (aT w (ei a.var)) [a.var,p4,fB a.func,p5]) a).br+1:=rfl;have u:=rK (eC n) (ye n) a.body (xf (rr (a8 (aT w (ei a.var)) [a.var,p4,fB a.func,p5]) a) 1) a.body.length (Y7 _);rw[aaI]at u;have B:=oG (eC n) (w6 n) a.body (xf (rr (a8 (aT w (ei a.var)) [a.var,p4,fB a.func,p5]) a) 1) a.body.length;have D:gX [a.var,p4,fB a.func,p5]=a.var.size+(3+((fB a.func).size+3)):=by simp[gX,p4,p5];rfl
 have F:=uy a.func;obtain⟨d,var,b,body⟩:=a;dsimp only at*
 refine aB ab func223 Z (by decide) ntmps223 Z (by simp) ?_;refine zE Z Z (fun g1=>?_) fun g1=>?_
 .rw[hB (.inl (zT g1))];refine gA Z kH
 refine zE Z Z (fun g2=>?_) fun g2=>?_
 .rw[hB (.inr (.inl (zT g2)))];refine gA Z kH
 refine zE Z Z (fun g3=>?_) fun g3=>?_
 .rw[hB (.inr (.inr (.inl (zT g3))))];refine gA Z kH
 refine zJ Z Z (fun g4=>?_) fun g4=>?_
 .rw[hB (.inr (.inr (.inr (acd.1 (zT g4)))))];refine gA Z kH
 have g1: ¬d<1:=zF g1;have g2: ¬d>=5:=zF g2;have g3: ¬w.br>=16:=zF g3;have g4: ¬body.length=0:=fun h=>zF g4 (acd.2 h);rw[hW (by rintro(h|h|h|h)<;>omega)];have hf:d=1∨d=2∨d=3∨d=4:=by omega
 clear hW hB;rcases hf with rfl|rfl|rfl|rfl
 .have e:fB 1=⟨#[99,111,117,110,116]⟩:=rfl;rw[e]at hh x j y A u B D F ⊢;refine gA Z (zp (Gt var) ?_);refine gA Z (j6 (d146 w (ei var)) ?_);refine gA Z (Ct (d147 (aT w (ei var)) [var,p4,⟨#[99,111,117,110,116]⟩,p5] (by simp) (by rw[D,aX];omega)) Z Z Z Z Z Z Z Z Z Z Z Z Z Z Z Z (by(repeat' (first|exact ac|exact rfl|exact aL.refl _|exact aL.bk (by assumption)|apply ZL))<;>first|omega|(simp only[Zs];omega)|(simp;done)|(simp;omega)) Z (by(repeat' (first|exact ac|exact rfl|exact aL.refl _|exact aL.bk (by assumption)|apply ZL))<;>first|omega|(simp only[Zs];omega)|(simp;done)|(simp;omega)) ?_);generalize I:a8 (aT w (ei var)) [var,p4,⟨#[99,111,117,110,116]⟩,p5]=w1 at*
  have G:rr w1 ⟨1,var,b,body⟩=aT w1 (cX b):=rfl;rw[G]at x j y A u B ⊢;refine zE Z Z (fun q=>?_) fun q=>?_
  .exact absurd (show kw=lc from q) (by decide)
  refine gA Z (zp (QX b) ?_);refine gA Z (j6 (d146 w1 (cX b)) ?_);generalize aT w1 (cX b)=w2 at*
  refine gA Z (j6 (d214 n S (xf w2 1) body hs (by omega) (by omega) (by omega) hn) ?_);generalize di (eC n) body (xf w2 1) body.length=w3 at*
  refine gA Z (go_wp (d147 (xf w3 (-1)) [wD] (by simp) (by rw[cy,J];show w3.l.length+2<=_;omega)) Z Z Z Z Z Z Z Z Z Z Z Z ?_);refine gA Z kH
 .have e:fB 2=⟨#[115,117,109]⟩:=rfl;rw[e]at hh x j y A u B D F ⊢;refine gA Z (zp (Gt var) ?_);refine gA Z (j6 (d146 w (ei var)) ?_);refine gA Z (Ct (d147 (aT w (ei var)) [var,p4,⟨#[115,117,109]⟩,p5] (by simp) (by rw[D,aX];omega)) Z Z Z Z Z Z Z Z Z Z Z Z Z Z Z Z (by(repeat' (first|exact ac|exact rfl|exact aL.refl _|exact aL.bk (by assumption)|apply ZL))<;>first|omega|(simp only[Zs];omega)|(simp;done)|(simp;omega)) Z (by(repeat' (first|exact ac|exact rfl|exact aL.refl _|exact aL.bk (by assumption)|apply ZL))<;>first|omega|(simp only[Zs];omega)|(simp;done)|(simp;omega)) ?_);generalize I:a8 (aT w (ei var)) [var,p4,⟨#[115,117,109]⟩,p5]=w1 at*
  have G:rr w1 ⟨2,var,b,body⟩=a8 (cP 17 w1 b) [Fm]:=rfl;rw[G]at x j y A u B ⊢;refine zJ Z Z (fun q=>?_) fun q=>?_
  .exact absurd (show lc=kw from q) (by decide)
  have hx:=eh 17 w1 b;refine gA Z (j6 (sq w1 b (by omega)) ?_);refine gA Z (kU (d147 (cP 17 w1 b) [Fm] (by simp) (by rw[cy,Y];omega)) ?_);generalize a8 (cP 17 w1 b) [Fm]=w2 at*
  refine gA Z (j6 (d214 n S (xf w2 1) body hs (by omega) (by omega) (by omega) hn) ?_);generalize di (eC n) body (xf w2 1) body.length=w3 at*
  refine gA Z (go_wp (d147 (xf w3 (-1)) [wD] (by simp) (by rw[cy,J];show w3.l.length+2<=_;omega)) Z Z Z Z Z Z Z Z Z Z Z Z ?_);refine gA Z kH
 .have e:fB 3=⟨#[109,105,110]⟩:=rfl;rw[e]at hh x j y A u B D F ⊢;refine gA Z (zp (Gt var) ?_);refine gA Z (j6 (d146 w (ei var)) ?_);refine gA Z (Ct (d147 (aT w (ei var)) [var,p4,⟨#[109,105,110]⟩,p5] (by simp) (by rw[D,aX];omega)) Z Z Z Z Z Z Z Z Z Z Z Z Z Z Z Z (by(repeat' (first|exact ac|exact rfl|exact aL.refl _|exact aL.bk (by assumption)|apply ZL))<;>first|omega|(simp only[Zs];omega)|(simp;done)|(simp;omega)) Z (by(repeat' (first|exact ac|exact rfl|exact aL.refl _|exact aL.bk (by assumption)|apply ZL))<;>first|omega|(simp only[Zs];omega)|(simp;done)|(simp;omega)) ?_);generalize I:a8 (aT w (ei var)) [var,p4,⟨#[109,105,110]⟩,p5]=w1 at*
  have G:rr w1 ⟨3,var,b,body⟩=a8 (cP 17 w1 b) [Fm]:=rfl;rw[G]at x j y A u B ⊢;refine zJ Z Z (fun q=>?_) fun q=>?_
  .exact absurd (show lc=kw from q) (by decide)
  have hx:=eh 17 w1 b;refine gA Z (j6 (sq w1 b (by omega)) ?_);refine gA Z (kU (d147 (cP 17 w1 b) [Fm] (by simp) (by rw[cy,Y];omega)) ?_);generalize a8 (cP 17 w1 b) [Fm]=w2 at*
  refine gA Z (j6 (d214 n S (xf w2 1) body hs (by omega) (by omega) (by omega) hn) ?_);generalize di (eC n) body (xf w2 1) body.length=w3 at*
  refine gA Z (go_wp (d147 (xf w3 (-1)) [wD] (by simp) (by rw[cy,J];show w3.l.length+2<=_;omega)) Z Z Z Z Z Z Z Z Z Z Z Z ?_);refine gA Z kH
 .have e:fB 4=⟨#[109,97,120]⟩:=rfl;rw[e]at hh x j y A u B D F ⊢;refine gA Z (zp (Gt var) ?_);refine gA Z (j6 (d146 w (ei var)) ?_);refine gA Z (Ct (d147 (aT w (ei var)) [var,p4,⟨#[109,97,120]⟩,p5] (by simp) (by rw[D,aX];omega)) Z Z Z Z Z Z Z Z Z Z Z Z Z Z Z Z (by(repeat' (first|exact ac|exact rfl|exact aL.refl _|exact aL.bk (by assumption)|apply ZL))<;>first|omega|(simp only[Zs];omega)|(simp;done)|(simp;omega)) Z (by(repeat' (first|exact ac|exact rfl|exact aL.refl _|exact aL.bk (by assumption)|apply ZL))<;>first|omega|(simp only[Zs];omega)|(simp;done)|(simp;omega)) ?_);generalize I:a8 (aT w (ei var)) [var,p4,⟨#[109,97,120]⟩,p5]=w1 at*
  have G:rr w1 ⟨4,var,b,body⟩=a8 (cP 17 w1 b) [Fm]:=rfl;rw[G]at x j y A u B ⊢;refine zJ Z Z (fun q=>?_) fun q=>?_
  .exact absurd (show lc=kw from q) (by decide)
  have hx:=eh 17 w1 b;refine gA Z (j6 (sq w1 b (by omega)) ?_);refine gA Z (kU (d147 (cP 17 w1 b) [Fm] (by simp) (by rw[cy,Y];omega)) ?_);generalize a8 (cP 17 w1 b) [Fm]=w2 at*
  refine gA Z (j6 (d214 n S (xf w2 1) body hs (by omega) (by omega) (by omega) hn) ?_);generalize di (eC n) body (xf w2 1) body.length=w3 at*
  refine gA Z (go_wp (d147 (xf w3 (-1)) [wD] (by simp) (by rw[cy,J];show w3.l.length+2<=_;omega)) Z Z Z Z Z Z Z Z Z Z Z Z ?_);refine gA Z kH
set_option maxHeartbeats 4000000 in
theorem Jy(n:Nat)(ih:Nl n)(hn:n<=100000000):Nl (n+1):=by
 intro l w hs G I hb;have B:xF.size=4:=rfl;have y:=l.size_eq;have A:=l.mf;have x:l.agg.ts=l.a7.size+l.jR.ts+Lit.lH l.ar:=rfl;have F:eC (n+1) l w=Ei (eC n) l (aT w (kD l)):=rfl;rw[F];have J:(aT w (kD l)).l.length=w.l.length:=rfl;have S:=qp w (kD l);have hx:=eh 17 (aT w (kD l)) l.left;obtain⟨kind,atom,op,left,right,c7,a7,jR,ar,at_⟩:=l;dsimp only[Lit.atom,Lit.left,Lit.right,Lit.a7,Lit.jR,Lit.ar]at y A x hx;refine aB ab func190 Z (by decide) ntmps190 Z (by simp) ?_;refine gA Z (zp (Yq (.mk kind atom op left right c7 a7 jR ar at_)) ?_);refine gA Z (j6 (d146 w (kD (.mk kind atom op left right c7 a7 jR ar at_))) ?_);generalize aT w (kD (.mk kind atom op left right c7 a7 jR ar at_))=w1 at*
 have D:Ei (eC n) (.mk kind atom op left right c7 a7 jR ar at_) w1=if kind=2 then ko (a8 w1 [xF]) atom else if kind=1 then ko w1 atom
  else if kind=3 then(if op<1∨7<=op then oH (cP 17 w1 left) else cP 17 (a8 (cP 17 w1 left) [qN op]) right)
  else if kind=4 then y7 (eC n) w1 (Lit.mk kind atom op left right c7 a7 jR ar at_).agg else oH w1:=rfl
 rw[D];refine zJ Z Z (fun d=>?_) fun d=>?_
 .have d:kind=2:=zT d;rw[am d];refine gA Z (kU (d147 w1 [xF] (by simp) (by rw[cy,B];omega)) ?_);refine gA Z (j6 (d104 (a8 w1 [xF]) atom (by rw[aV,B];omega)) ?_);refine gA Z kH
 have d: ¬kind=2:=zF d;rw[be d];refine zJ Z Z (fun k1=>?_) fun k1=>?_
 .have k1:kind=1:=zT k1;rw[am k1];refine gA Z (j6 (d104 w1 atom (by omega)) ?_);refine gA Z kH
 have k1: ¬kind=1:=zF k1;rw[be k1];refine zE Z Z (fun j=>?_) fun j=>?_
 .have j: ¬kind=3:=zF j;rw[be j];refine zJ Z Z (fun u=>?_) fun u=>?_
  .have u:kind=4:=zT u;rw[am u];refine gA Z (j6 (d190 n ih w1 (Lit.mk kind atom op left right c7 a7 jR ar at_).agg (by show Lit.aA ar<=n;omega) (by omega) (by omega) (by omega) hn) ?_);refine gA Z kH
  .have u: ¬kind=4:=zF u;rw[be u];refine gA Z kH
 have j:kind=3:=zT j;rw[am j];refine gA Z (j6 (sq w1 left (by omega)) ?_);refine zE Z Z (fun g1=>?_) fun g1=>?_
 .rw[am (.inl (zT g1))];refine gA Z kH
 refine zJ Z Z (fun g2=>?_) fun g2=>?_
 .rw[am (.inr (zT g2))];refine gA Z kH
 have g1: ¬op<1:=zF g1;have g2: ¬op>=7:=zF g2;rw[be (by rintro(h|h)<;>omega)];generalize cP 17 w1 left=w2 at*
 have Y:op=1∨op=2∨op=3∨op=4∨op=5∨op=6:=by omega
 clear D F;rcases Y with rfl|rfl|rfl|rfl|rfl|rfl
 .have e:qN 1=⟨#[32,61,32]⟩:=rfl;have b:((⟨#[32,61,32]⟩:aj)).size=3:=rfl;rw[e];refine nV Z (by dsimp only[Lit.op];exact(by(repeat' (first|exact ac|exact rfl|exact aL.refl _|exact aL.bk (by assumption)|apply ZL))<;>first|omega|(simp only[Zs];omega)|(simp;done)|(simp;omega))) (go_wp (d147 w2 [⟨#[32,61,32]⟩] (by simp) (by rw[cy,b];omega)) Z Z Z Z Z Z Z Z Z Z Z Z ?_);refine gA Z (j6 (sq (a8 w2 [⟨#[32,61,32]⟩]) right (by rw[aV,b];omega)) ?_);refine gA Z kH
 .have e:qN 2=⟨#[32,33,61,32]⟩:=rfl;have b:((⟨#[32,33,61,32]⟩:aj)).size=4:=rfl;rw[e];refine nV Z (by dsimp only[Lit.op];exact(by(repeat' (first|exact ac|exact rfl|exact aL.refl _|exact aL.bk (by assumption)|apply ZL))<;>first|omega|(simp only[Zs];omega)|(simp;done)|(simp;omega))) (go_wp (d147 w2 [⟨#[32,33,61,32]⟩] (by simp) (by rw[cy,b];omega)) Z Z Z Z Z Z Z Z Z Z Z Z ?_);refine gA Z (j6 (sq (a8 w2 [⟨#[32,33,61,32]⟩]) right (by rw[aV,b];omega)) ?_);refine gA Z kH
 .have e:qN 3=⟨#[32,60,32]⟩:=rfl;have b:((⟨#[32,60,32]⟩:aj)).size=3:=rfl;rw[e];refine nV Z (by dsimp only[Lit.op];exact(by(repeat' (first|exact ac|exact rfl|exact aL.refl _|exact aL.bk (by assumption)|apply ZL))<;>first|omega|(simp only[Zs];omega)|(simp;done)|(simp;omega))) (go_wp (d147 w2 [⟨#[32,60,32]⟩] (by simp) (by rw[cy,b];omega)) Z Z Z Z Z Z Z Z Z Z Z Z ?_);refine gA Z (j6 (sq (a8 w2 [⟨#[32,60,32]⟩]) right (by rw[aV,b];omega)) ?_);refine gA Z kH
 .have e:qN 4=⟨#[32,60,61,32]⟩:=rfl;have b:((⟨#[32,60,61,32]⟩:aj)).size=4:=rfl;rw[e];refine nV Z (by dsimp only[Lit.op];exact(by(repeat' (first|exact ac|exact rfl|exact aL.refl _|exact aL.bk (by assumption)|apply ZL))<;>first|omega|(simp only[Zs];omega)|(simp;done)|(simp;omega))) (go_wp (d147 w2 [⟨#[32,60,61,32]⟩] (by simp) (by rw[cy,b];omega)) Z Z Z Z Z Z Z Z Z Z Z Z ?_);refine gA Z (j6 (sq (a8 w2 [⟨#[32,60,61,32]⟩]) right (by rw[aV,b];omega)) ?_);refine gA Z kH
 .have e:qN 5=⟨#[32,62,32]⟩:=rfl;have b:((⟨#[32,62,32]⟩:aj)).size=3:=rfl;rw[e];refine nV Z (by dsimp only[Lit.op];exact(by(repeat' (first|exact ac|exact rfl|exact aL.refl _|exact aL.bk (by assumption)|apply ZL))<;>first|omega|(simp only[Zs];omega)|(simp;done)|(simp;omega))) (go_wp (d147 w2 [⟨#[32,62,32]⟩] (by simp) (by rw[cy,b];omega)) Z Z Z Z Z Z Z Z Z Z Z Z ?_);refine gA Z (j6 (sq (a8 w2 [⟨#[32,62,32]⟩]) right (by rw[aV,b];omega)) ?_);refine gA Z kH
 .have e:qN 6=⟨#[32,62,61,32]⟩:=rfl;have b:((⟨#[32,62,61,32]⟩:aj)).size=4:=rfl;rw[e];refine nV Z (by dsimp only[Lit.op];exact(by(repeat' (first|exact ac|exact rfl|exact aL.refl _|exact aL.bk (by assumption)|apply ZL))<;>first|omega|(simp only[Zs];omega)|(simp;done)|(simp;omega))) (go_wp (d147 w2 [⟨#[32,62,61,32]⟩] (by simp) (by rw[cy,b];omega)) Z Z Z Z Z Z Z Z Z Z Z Z ?_);refine gA Z (j6 (sq (a8 w2 [⟨#[32,62,61,32]⟩]) right (by rw[aV,b];omega)) ?_);refine gA Z kH
theorem Wr: ∀n,n<=100000001->Nl n
 |0,_=>fun l w b=>by have:=l.size_pos;omega
 |n+1,h=>Jy n (Wr n (by omega)) (by omega)
section
abbrev WS.o:WS:=⟨kw,[],lc,0⟩
section
variable {nt:Nat} {Q:AQ} {k:List KI} {s:AS}
def wN(s:AS)(i:Nat):AS:=match s with|⟨f,h,n⟩=>⟨f,(i,io (WS.o.uQ i n))::(n,io (.bT [] 5))::h,n+1⟩
theorem HI{P:Program}{c:Code}{s':AS}(i:Nat)(hi:s.h.get i=io (.cells [.iv (.v (.pointer jp)),.iv (.v (.slice jp 0 0)),pB lc,pI 0] (io 247)))
  (hs:wN s i=s') (h:GO P nt (.code c::k) Q s'):GO P nt (.code c::k) Q s:=by
 subst hs;intro M N a w A;obtain⟨sf,Y,d⟩:=s;obtain⟨h1,S⟩:=A.1.Rr 5;have F:i<d:=A.1.used i _ hi;have G:i≠d:=fun e=>by omega
 have u:AH.get ((d,io (AO.bT [] 5))::Y) i=io (.cells [.iv (.v (.pointer jp)),.iv (.v (.slice jp 0 0)),pB lc,pI 0] (io 247)):=by
  rw[AH.aw,be G];exact hi
 obtain⟨x,T,e1,e2,e3,y,e5⟩:=S.obj i _ u;have hv: ∀(j:Nat) (p:PV),[PV.fA kw i,.sl d 0 0 1,pB lc,pI 0][j]? =io p->VR M N (· <d+1) p (x.getD j undef):=by
  intro j p b
  match j,b with
  |0,b=>
   cases b;have:=y 0 _ Z;generalize x.getD 0 undef=v at this ⊢;cases this with
   |iv _ _ h=>cases h with
    |v=>exact .fA kw i (aaE F)
  |1,b=>
   cases b;have:=y 1 _ Z;generalize x.getD 1 undef=v at this ⊢;cases this with
   |iv _ _ h=>cases h with
    |v=>exact .pV _ _ (aar _)
  |2,b=>exact y 2 p b
  |3,b=>exact y 3 p b
  |j+4,b=>cases b
 obtain⟨g1,g2⟩:=S.write (i:=i) (o0:= .cells [.iv (.v (.pointer jp)),.iv (.v (.slice jp 0 0)),pB lc,pI 0] (io 247)) u Z w (WS.o.uQ i d) Z Z Z Z (fun _ _=>rfl) ⟨x,T,e1,e2,e3,hv,e5⟩;have B:Fits M N ⟨sf,(i,io (WS.o.uQ i d))::(d,io (.bT [] 5))::Y,d+1⟩ nt a w:=
  ⟨g2,fun k=>(A.2.1 k).mono (.refl _) (.refl _ _) (fun i hi=>aaE hi),A.2.2⟩
 exact AW.then h B fun e a2 w2 M2 N2 s2 J D I=>⟨M2,N2,s2,(h1.trans g1).trans J,D,I⟩
end
def WS.told(w:WS):PV:= .bQ [pS (if w.bad=kw then⟨#[]⟩ else⟨w.l.toArray⟩),pI (if w.bad=kw then 50 else 0)]
theorem d105(w:WS):bV prog 189 [.ptr 0 0] w.O w.told [] 2:=by
 refine aB ab func189 Z (by decide) ntmps189 Z (by simp) ?_;refine zJ Z Z (fun g=>?_) fun g=>?_
 .have g:w.bad=kw:=g;unfold WS.told;rw[am g,am g];refine gA Z (zD [] Z (zW ac))
 .have g: ¬w.bad=kw:=by
   have g:w.bad=lc:=g;rw[g];decide
  unfold WS.told;rw[be g,be g];refine gA Z (zq [0,1] (d150 w) ?_);refine gA Z (zD [] Z (zW ac))
def Xh(a:Atom):PV:=(ko WS.o a).told
def XH(l:Lit):PV:=(eC l.size l WS.o).told
theorem c61(a:Atom)(hb:a.ts<=900000000):Pure prog 157 [ag a.c] (Xh a):=by
 refine ae ab func157 Z (by decide) ntmps157 Z (by simp) Z ?_;refine gM 12 Z (HI 1 Z Z ?_);refine gA Z (j6 (d104 WS.o a (by simpa using hb)) ?_);refine gA Z (zq [1,3] (d105 (ko WS.o a)) ?_);exact zU Z
theorem YK(l:Lit)(hb:l.ts<=900000000)(hs:l.size<=100000000):Pure prog 158 [ag l.c] (XH l):=by
 refine ae ab func158 Z (by decide) ntmps158 Z (by simp) Z ?_;refine gM 12 Z (HI 1 Z Z ?_);refine gA Z (j6 (Wr l.size (by omega) l WS.o (Y7 _) (by decide) (by decide) (by simpa using hb)) ?_);refine gA Z (zq [1,3] (d105 (eC l.size l WS.o)) ?_);exact zU Z
end
def sW(d:Decl)(i k:Int):Int:=
 if(d.types.any fun x=>!li (x=1)&&!li (x=2))=kw∨ep d.name=lc then 1
 else if i>=64∨(d.types.length:Int)>8 then 66 else if k>0 then 60 else 0
theorem YL(d:Decl)(i k:Int):Pure prog 123 [ag d.c,pI i,pI k] (pI (sW d i k)):=by
 refine ae ab func123 Z (by decide) ntmps123 Z (by simp) Z ?_;refine gA Z (zq [] (d153 d.types) ?_);refine zE Z Z (fun g1=>?_) fun g1=>?_
 .rw[sW,am (.inl (by simpa using g1))];exact zU Z
 have g1: ¬(d.types.any fun x=>!li (x=1)&&!li (x=2))=kw:=by
  have g1:(d.types.any fun x=>!li (x=1)&&!li (x=2))=lc:=g1;rw[g1];decide
 refine gA Z (zp (X0 d.name) ?_);refine zJ Z Z (fun g2=>?_) fun g2=>?_
 .have g2:ep d.name=lc:=by simpa using g2
  rw[sW,am (.inr g2)];exact zU Z
 have g2: ¬ep d.name=lc:=by
  have g2:ep d.name=kw:=by simpa using g2
  rw[g2];decide
 rw[sW,be (by rintro(h|h);exact g1 h;exact g2 h)];refine zE Z Z (fun g3=>?_) fun g3=>?_
 .rw[am (.inl (by simpa using g3))];exact zU Z
 have g3: ¬i>=64:=zF g3;refine zJ Z Z (fun g4=>?_) fun g4=>?_
 .rw[am (.inr (zT g4))];exact zU Z
 have g4: ¬(d.types.length:Int)>8:=zF g4;rw[be (by rintro(h|h);exact g3 h;exact g4 h)];refine zJ Z Z (fun g5=>?_) fun g5=>?_
 .rw[am (zT g5)];exact zU Z
 .rw[be (zF g5)];exact zU Z
abbrev aN:=(KC.si .i64).K
def aN.z:aN:=(Y5,0)
def aN.c(s:aN):List IV:=[iS s.1,iI s.2]
def spE(s:aN):IV:= .agg s.c
def spZ:Value:= .agg #[.string Y5,.int .i64 0]
def dvP:PV->aN
 | .agg [.iv (.v (.string s)),.iv (.v (.int _ a))]=>(s,a)
 |_=>aN.z
abbrev UM:=List (aN×aN)
abbrev KM:=List (aN×Int)
abbrev rU(m:UM):AO:= .map (.si .i64) spE aN.z spZ dvP m
abbrev upI(m:UM):IV:= .eE (.si .i64) spE aN.z spZ m
abbrev sa(m:KM):AO:= .map (.si .i64) Ba 0 (.int .i64 0) Xv m
abbrev kdI(m:KM):IV:= .eE (.si .i64) Ba 0 (.int .i64 0) m
structure Want where
 lit:Int
 at_:aN
 kind:Int
 has:Int
 deriving Inhabited
def Want.c(w:Want):List IV:=[iI w.lit,iS w.at_.1,iI w.at_.2,iI w.kind,iI w.has]
structure TS where
 up:UM
 ws:List Want
 kind:KM
abbrev TS.cell(r:ah)(u j n k:Nat):AO:= .cells [.iv (da r),.mp u,.sl j 0 n 5,.mp k]
abbrev TS.O(r:ah)(t:TS):List AO:=[TS.cell r 1 2 t.ws.length 3,rU t.up,aG 5 t.ws Want.c,sa t.kind]
abbrev TS.K(r:ah)(t:TS):AH:=[(0,io (TS.cell r 1 2 t.ws.length 3)),(1,io (rU t.up)),(2,io (aG 5 t.ws Want.c)),(3,io (sa t.kind))]
abbrev TS.H(r:ah)(t:TS):AH:=[(0,io (TS.cell r 1 4 t.ws.length 3)),(1,io (rU t.up)),(4,io (aG 5 t.ws Want.c)),(3,io (sa t.kind))]
def bf(r:ah)(s:aj)(w:Int):aN:=(s,if bU .str (aC (ay r)) s 0>0 then-1 else w)
theorem d136(r:ah)(t:TS)(s:aj)(w:Int):bV prog 225 [.ptr 0 0,pS s,pI w] (t.O r) (ag (bf r s w).c) (t.K r) 4:=by
 refine aB ab func225 Z (by decide) ntmps225 Z (by simp) ?_;refine zJ Z Z (fun g=>?_) fun g=>?_
 .have e:bf r s w=(s, -1):=by unfold bf;rw[am (zT g)]
  rw[e];refine gA Z (zD [] Z (zW (zO (zC ⟨⟨_,rfl,.of_eq (bA _).symm⟩,YY Z,cK _,zC ac⟩))))
 .have e:bf r s w=(s,w):=by unfold bf;rw[be (zF g)]
  rw[e];refine gA Z (zD [] Z (zW (zO (zC ⟨⟨_,rfl,.of_eq (bA _).symm⟩,YY Z,cK _,zC ac⟩))))
def aQ:UM->aN->aN
 | [],v=>v
 |(x,y)::r,v=>if x=v then aQ r y else aQ r v
def iX:UM->Prop
 | []=>True
 |(x,y)::r=>x≠y∧(∀q∈r,q.1≠x)∧(∀q∈r,q.2≠x)∧iX r
def Ik:UM->aN->Nat
 | [],_=>0
 |(x,_)::r,v=>if x=v then r.length+1 else Ik r v
theorem J0: ∀(m:UM) (v:aN),Ik m v<=m.length
 | [],_=>Y7 _
 |(x,y)::r,v=>by
  have:=J0 r v;unfold Ik;split
  .simp
  .simp;omega
theorem uc: ∀(m:UM) (v:aN),ef (.si .i64) m v=lc->aQ m v=v
 | [],_,_=>rfl
 |(x,y)::r,v,h=>by
  unfold ef at h;unfold aQ;split at h
  .cases h
  .rename_i b;rw[be b];exact uc r v h
theorem Px{m:UM}{v:aN}(h: ∀q∈m,q.1≠v):aQ m v=v:=by
 induction m with
 |nil=>rfl
 |cons a r ih=>
  obtain⟨x,y⟩:=a;unfold aQ;rw[be (h _ (Zh))];exact ih fun q b=>h q (Zg _ b)
theorem p8: ∀(m:UM) (v:aN),iX m->ef (.si .i64) m v=kw->aQ m (bU (.si .i64) m v aN.z)=aQ m v∧Ik m (bU (.si .i64) m v aN.z)<Ik m v
 | [],_,_,h=>nomatch h
 |(x,y)::r,v,ok,h=>by
  obtain⟨D,I,F,G⟩:=ok;by_cases j:x=v
  .subst j;have e:bU (.si .i64) ((x,y)::r) x aN.z=y:=am Z;rw[e];refine⟨?_,?_⟩
   .show(if x=y then aQ r y else aQ r y)=if x=x then aQ r y else aQ r x;rw[am Z];split<;>rfl
   .show(if x=y then r.length+1 else Ik r y)<if x=x then r.length+1 else Ik r x;rw[am Z,be D];have:=J0 r y;omega
  .have e:bU (.si .i64) ((x,y)::r) v aN.z=bU (.si .i64) r v aN.z:=be j;have u:ef (.si .i64) r v=kw:=by
    unfold ef at h;rw[be j]at h;exact h
   rw[e];obtain⟨g1,g2⟩:=p8 r v G u;have d:bU (.si .i64) r v aN.z≠x:=by
    have: ∀(m:UM),(∀q∈m,q.2≠x)->ef (.si .i64) m v=kw->bU (.si .i64) m v aN.z≠x:=by
     intro m
     induction m with
     |nil=>intro _ h;cases h
     |cons a r ih=>
      obtain⟨J,S⟩:=a;intro A h;unfold ef at h;unfold bU;split at h
      .rename_i b;rw[am b];exact A _ Zh
      .rename_i b;rw[be b];exact ih (fun q B=>A q (Zg _ B)) h
    exact this r F u
   refine⟨?_,?_⟩
   .show(if x=_ then aQ r y else aQ r _)=if x=v then aQ r y else aQ r v;rw[be (fun e=>d e.symm),be j];exact g1
   .show(if x=_ then r.length+1 else Ik r _)<if x=v then r.length+1 else Ik r v;rw[be (fun e=>d e.symm),be j];exact g2
theorem d52(r:ah)(t:TS)(v0:aN)(ok:iX t.up):bV prog 201 [.ptr 0 0,ag v0.c] (t.O r) (ag (aQ t.up v0).c) (t.K r) 4:=by
 refine aB ab func201 Z (by decide) ntmps201 Z (by simp) ?_;refine gA Z ?_
 refine oA (σ:={v:aN//aQ t.up v=aQ t.up v0}) (fun v=>⟨[(0,.ptr 0 0),(3,.ptr 4 0),(4,.ptr 5 0)],
  [(0,io (TS.cell r 1 2 t.ws.length 3)),(1,io (rU t.up)),(2,io (aG 5 t.ws Want.c)),(3,io (sa t.kind)),(4,io (.cells [pS v.1.1,pI v.1.2])),(5,io (.cells [pS ⟨#[]⟩,pI 0]))],6⟩) (fun v=>Ik t.up v.1) ⟨v0,rfl⟩ []
  (zW (zO (zC ⟨⟨_,rfl,.of_eq (bA _).symm⟩,YY Z,cK _,zC ⟨⟨_,rfl,.of_eq Z⟩,YY Z,rfl,⟨_,rfl,.of_eq Z⟩,YY Z,rfl,ac⟩⟩))) fun v=>?_
 obtain⟨v,b⟩:=v;refine zJ Z Z (fun g=>?_) fun g=>?_
 .have h:ef (.si .i64) t.up v=lc:=by simpa using g
  have e:aQ t.up v0=v:=by rw[<-b];exact uc t.up v h
  refine gA Z (zD [] Z (zM ⟨.of_eq (congrArg (fun x:aN=>ag x.c) e.symm),rfl,ac⟩ (zO (zC ⟨⟨_,rfl,.of_eq (bA _).symm⟩,YY Z,cK _,zC ac⟩))))
 .have h:ef (.si .i64) t.up v=kw:=by simpa using g
  obtain⟨d,j⟩:=p8 t.up v ok h;refine gA Z ⟨⟨bU (.si .i64) t.up v aN.z,d.trans b⟩,[],j,zW (zO (zC ⟨⟨_,rfl,.of_eq (bA _).symm⟩,YY Z,cK _,zC ⟨⟨_,rfl,.of_eq Z⟩,YY Z,rfl,⟨_,rfl,.of_eq Z⟩,YY Z,rfl,ac⟩⟩))⟩
def TH(r:ah)(t:TS):IV:= .mI [da r,upI t.up,cZ 5 t.ws Want.c,kdI t.kind]
theorem c52(r:ah)(t:TS)(v0:aN)(ok:iX t.up):Pure prog 201 [.iv (TH r t),ag v0.c] (ag (aQ t.up v0).c):=by
 refine ae ab func201 Z (by decide) ntmps201 Z (by simp) Z ?_;refine gA Z ?_
 refine oA (σ:={v:aN//aQ t.up v=aQ t.up v0}) (fun v=>⟨[(0,.iv (TH r t)),(3,.ptr 0 0),(4,.ptr 1 0)],
  [(0,io (.cells [pS v.1.1,pI v.1.2])),(1,io (.cells [pS ⟨#[]⟩,pI 0]))],2⟩) (fun v=>Ik t.up v.1) ⟨v0,rfl⟩ []
  (zW ⟨⟨_,rfl,.of_eq Z⟩,YY Z,rfl,⟨_,rfl,.of_eq Z⟩,YY Z,rfl,ac⟩) fun v=>?_
 obtain⟨v,b⟩:=v;refine zJ Z Z (fun g=>?_) fun g=>?_
 .have h:ef (.si .i64) t.up v=lc:=by simpa using g
  have e:aQ t.up v0=v:=by rw[<-b];exact uc t.up v h
  refine gA Z (zL (.of_eq ?_));exact congrArg (fun x:aN=>ag x.c) e.symm
 .have h:ef (.si .i64) t.up v=kw:=by simpa using g
  obtain⟨d,j⟩:=p8 t.up v ok h;refine gA Z ⟨⟨bU (.si .i64) t.up v aN.z,d.trans b⟩,[],j,zW ⟨⟨_,rfl,.of_eq Z⟩,YY Z,rfl,⟨_,rfl,.of_eq Z⟩,YY Z,rfl,ac⟩⟩
def tK(t:TS)(w:Want):Int:=if w.has=0 then bU (.si .i64) t.kind (aQ t.up w.at_) 0 else w.has
def rT(t:TS)(lit:Int)(w:Want):Bool:=li (w.lit=lit)&&!li (tK t w=w.kind)
def nI(t:TS)(lit:Int):Bool:=t.ws.any (rT t lit)
theorem YH(r:ah)(t:TS)(lit:Int)(ok:iX t.up)(hb:t.ws.length<=1000000000000):Pure prog 169 [.iv (TH r t),pI lit] (pB (nI t lit)):=by
 refine ae ab func169 Z (by decide) ntmps169 Z (by simp) Z ?_;refine gA Z ?_;refine az 0 t.ws.length (Y8 _) (fun i=>⟨[(0,.iv (TH r t)),(1,pI lit),(11,.iv (cZ 5 t.ws Want.c)),(12,pI t.ws.length),(13,pI i)],[],0⟩) (fun i=>(t.ws.take i).any (rT t lit)=lc) [] Z
  (zW trivial) fun i A y=>?_
 refine zJ Z Z (fun b=>?_) fun b=>?_
 .have b:=ci b;have x:=aW y b;refine zJ Z Z (fun j=>?_) fun j=>?_
  .have j:(t.ws.getD i em).has=0:=zT j;refine gA Z (n7 (c52 r t (t.ws.getD i em).at_ ok) ?_);have u:tK t (t.ws.getD i em)=bU (.si .i64) t.kind (aQ t.up (t.ws.getD i em).at_) 0:=am j;refine zJ Z Z (fun k1=>?_) fun k1=>?_
   .have k1:(t.ws.getD i em).lit=lit:=zT k1;refine zJ Z Z (fun d=>?_) fun d=>?_
    .have d: ¬tK t (t.ws.getD i em)=(t.ws.getD i em).kind:=by rw[u];simpa using d
     have e:nI t lit=kw:=ZQ.2 ⟨t.ws.getD i em,by rw[YZ,Y3 b];exact ZJ b,by rw[rT,decide_eq_true k1,decide_eq_false d];rfl⟩;refine gA Z (zL (.of_eq ?_));rw[e]
    .have d:tK t (t.ws.getD i em)=(t.ws.getD i em).kind:=by rw[u];simpa using d
     refine gA Z ⟨b,x.2 (by rw[rT,decide_eq_true d,abq,Z5]),[],zW ac⟩
   .have k1: ¬(t.ws.getD i em).lit=lit:=by simpa using k1
    refine gA Z ⟨b,x.2 (by rw[rT,decide_eq_false k1];rfl),[],zW ac⟩
  .have j: ¬(t.ws.getD i em).has=0:=zF j;have u:tK t (t.ws.getD i em)=(t.ws.getD i em).has:=be j;refine zJ Z Z (fun k1=>?_) fun k1=>?_
   .have k1:(t.ws.getD i em).lit=lit:=zT k1;refine zJ Z Z (fun d=>?_) fun d=>?_
    .have d: ¬tK t (t.ws.getD i em)=(t.ws.getD i em).kind:=by rw[u];simpa using d
     have e:nI t lit=kw:=ZQ.2 ⟨t.ws.getD i em,by rw[YZ,Y3 b];exact ZJ b,by rw[rT,decide_eq_true k1,decide_eq_false d];rfl⟩;refine gA Z (zL (.of_eq ?_));rw[e]
    .have d:tK t (t.ws.getD i em)=(t.ws.getD i em).kind:=by rw[u];simpa using d
     refine gA Z ⟨b,x.2 (by rw[rT,decide_eq_true d,abq,Z5]),[],zW ac⟩
   .have k1: ¬(t.ws.getD i em).lit=lit:=by simpa using k1
    refine gA Z ⟨b,x.2 (by rw[rT,decide_eq_false k1];rfl),[],zW ac⟩
 .have b:=co b;rw[Za b]at y;refine gA Z (zL (.of_eq ?_));rw[nI,y]
section
section
variable (r:ah) (lit w:Int)
def kC(e:Expr):List Want:=if e.kind=1 then[⟨lit,bf r e.var w,1,0⟩] else if e.kind=2 then[⟨lit,aN.z,1,e.val.kind⟩] else[]
mutual
def gv:Expr->List Want
 | .mk k v val op args=>kC r lit w (.mk k v val op args)++(if k=4 then vU args else[])
def vU:List Expr->List Want
 | []=> []
 |e::s=>gv e++vU s
end
theorem DZ: ∀l:List Expr,vU r lit w l=l.flatMap (gv r lit w)
 | []=>rfl
 |e::s=>by rw[vU,ZO,DZ s]
def je(e:Expr):List Want:=if e.kind=4 then e.args.flatMap (gv r lit w) else[]
theorem wY(e:Expr):gv r lit w e=kC r lit w e++je r lit w e:=by
 cases e;rw[gv,DZ];rfl
end
abbrev TS.add(t:TS)(l:List Want):TS:=⟨t.up,t.ws++l,t.kind⟩
section
variable {nt:Nat} {Q:AQ} {k:List KI} {s:AS}
def tS(s:AS)(r:ah)(t:TS)(i u j m:Nat):AS:=match s with|⟨f,h,n⟩=>⟨f,(i,io (TS.cell r u n t.ws.length m))::(u,io (rU t.up))::(n,io (aG 5 t.ws Want.c))::(m,io (sa t.kind))::(i,jp)::(u,jp)::(j,jp)::(m,jp)::h,n+1⟩
theorem V6(s:AS)(r:ah)(t:TS)(i u j m:Nat):tS s r t i u j m=⟨s.f,(i,io (TS.cell r u s.nx t.ws.length m))::(u,io (rU t.up))::(s.nx,io (aG 5 t.ws Want.c))::(m,io (sa t.kind))::(i,jp)::(u,jp)::(j,jp)::(m,jp)::s.h,s.nx+1⟩:=by cases s;rfl
def tR(s:AS)(r:ah)(t:TS)(i u j m:Nat):AS:=match s with|⟨f,h,n⟩=>⟨f,(i,io (TS.cell r u j t.ws.length m))::(u,io (rU t.up))::(j,io (aG 5 t.ws Want.c))::(m,io (sa t.kind))::(i,jp)::(u,jp)::(j,jp)::(m,jp)::h,n⟩
theorem V7(s:AS)(r:ah)(t:TS)(i u j m:Nat):tR s r t i u j m=⟨s.f,(i,io (TS.cell r u j t.ws.length m))::(u,io (rU t.up))::(j,io (aG 5 t.ws Want.c))::(m,io (sa t.kind))::(i,jp)::(u,jp)::(j,jp)::(m,jp)::s.h,s.nx⟩:=by cases s;rfl
theorem Kb{o:Oper}{c:Call}{g:FuncId}{args y:List PV}{r:ah}{t A:TS}{d:PV}{i u j m n:Nat}{es:List (List PV)}{s':AS}(hc:bV prog g (.ptr 0 0::args) (t.O r) d (A.H r) 5)(ho:o.op= .call c)(ha:bY s.f c=io (g,.ptr i 0::y))
  (hi:s.h.get i=io (TS.cell r u j n m)) (hu:s.h.get u=io (rU t.up)) (hj:s.h.get j=io (.row 5 es)) (hm:s.h.get m=io (sa t.kind)) (hn:n=t.ws.length) (he:es=t.ws.map fun x=>(Want.c x).map .iv)
  (hlt:[i,u,j,m].all (fun x=>Zk x s.nx)=kw) (hnd:b4 [i,u,j,m]=kw) (has:y=args) (hlow:bq 0 args=kw) (hr:d.low 0=kw)
  (hp:putDst nt o d (tS s r A i u j m)=io s'):OT prog nt o s (fun t=>t=s'):=by
 subst has;subst hn;subst he;have b: ∀σ,dL σ y=y:=fun σ=>iY σ y hlow;refine nD ho ha hc (dA hnd) (fun j hj=>YY (Zr.1 hlt j hj)) ?_ ?_ ?_
 .simp only[Zm,Z2,hi,hu,hj,hm,bA];rfl
 .simp only[dL,b];rfl
 .rintro q B n0 ⟨rfl,rfl,rfl⟩;rw[PV.jW _ _ hr];rw[V6]at hp;refine⟨s',?_,rfl⟩;rw[<-hp];simp only[TS.H,aO,sV,ZZ,bA];rfl
theorem J6{o:Oper}{c:Call}{g:FuncId}{args y:List PV}{r:ah}{t:TS}{d:PV}{i u j m n:Nat}{es:List (List PV)}{s':AS}(hc:bV prog g (.ptr 0 0::args) (t.O r) d (t.K r) 4)(ho:o.op= .call c)(ha:bY s.f c=io (g,.ptr i 0::y))
  (hi:s.h.get i=io (TS.cell r u j n m)) (hu:s.h.get u=io (rU t.up)) (hj:s.h.get j=io (.row 5 es)) (hm:s.h.get m=io (sa t.kind)) (hn:n=t.ws.length) (he:es=t.ws.map fun x=>(Want.c x).map .iv)
  (hlt:[i,u,j,m].all (fun x=>Zk x s.nx)=kw) (hnd:b4 [i,u,j,m]=kw) (has:y=args) (hlow:bq 0 args=kw) (hr:d.low 0=kw)
  (hp:putDst nt o d (tR s r t i u j m)=io s'):OT prog nt o s (fun t=>t=s'):=by
 subst has;subst hn;subst he;have b: ∀σ,dL σ y=y:=fun σ=>iY σ y hlow;refine nD ho ha hc (dA hnd) (fun j hj=>YY (Zr.1 hlt j hj)) ?_ ?_ ?_
 .simp only[Zm,Z2,hi,hu,hj,hm,bA];rfl
 .simp only[dL,b];rfl
 .rintro q A n0 ⟨rfl,rfl,rfl⟩;rw[PV.jW _ _ hr];rw[V7]at hp;refine⟨s',?_,rfl⟩;rw[<-hp];simp only[TS.K,aO,sV,ZZ,bA];rfl
theorem Ex{all rest:List Oper}{o:Oper}{c:Call}{g:FuncId}{args d:List PV}{r:ah}{t y:TS}{b:PV}{i u j m n:Nat}{es:List (List PV)}{s':AS}(hc:bV prog g (.ptr 0 0::args) (t.O r) b (y.H r) 5)(ho:o.op= .call c)(hg:o.guard=jp)(ha:bY s.f c=io (g,.ptr i 0::d))
  (hi:s.h.get i=io (TS.cell r u j n m)) (hu:s.h.get u=io (rU t.up)) (hj:s.h.get j=io (.row 5 es)) (hm:s.h.get m=io (sa t.kind)) (hn:n=t.ws.length) (he:es=t.ws.map fun x=>(Want.c x).map .iv)
  (hlt:[i,u,j,m].all (fun x=>Zk x s.nx)=kw) (hnd:b4 [i,u,j,m]=kw) (has:d=args) (hlow:bq 0 args=kw) (hr:b.low 0=kw)
  (hp:putDst nt o b (tS s r y i u j m)=io s') (h:GO prog nt (.ops all rest::k) Q s'):GO prog nt (.ops all (o::rest)::k) Q s:=
 dJ hg (Kb hc ho ha hi hu hj hm hn he hlt hnd has hlow hr hp) fun t A=>by subst A;exact h
theorem HF{all rest:List Oper}{o:Oper}{c:Call}{g:FuncId}{args d:List PV}{r:ah}{t y:TS}{b:PV}{i u j m n:Nat}{es:List (List PV)}{s':AS}(hc:bV prog g (.ptr 0 0::args) (t.O r) b (y.H r) 5)(h:GO prog nt (.ops all rest::k) Q s')(ho:o.op= .call c:=by exact rfl)(hg:o.guard=jp:=by exact rfl)(ha:bY s.f c=io (g,.ptr i 0::d):=by exact rfl)(hi:s.h.get i=io (TS.cell r u j n m):=by exact rfl)(hu:s.h.get u=io (rU t.up):=by exact rfl)(hj:s.h.get j=io (.row 5 es):=by exact rfl)(hm:s.h.get m=io (sa t.kind):=by exact rfl)(hn:n=t.ws.length:=by first|rfl|(rw[Y1];rfl)|simp)(he:es=t.ws.map fun x=>(Want.c x).map .iv:=by first|rfl|(rw[Y6];rfl)|(simp only[Y6,Zc];rfl))(hlt:[i,u,j,m].all (fun x=>Zk x s.nx)=kw:=by exact rfl)(hnd:b4 [i,u,j,m]=kw:=by exact rfl)(has:d=args:=by exact rfl)(hlow:bq 0 args=kw:=by exact rfl)(hr:b.low 0=kw:=by exact rfl)(hp:putDst nt o b (tS s r y i u j m)=io s':=by exact rfl):GO prog nt (.ops all (o::rest)::k) Q s:=Ex (hc:=hc) (ho:=ho) (hg:=hg) (ha:=ha) (hi:=hi) (hu:=hu) (hj:=hj) (hm:=hm) (hn:=hn) (he:=he) (hlt:=hlt) (hnd:=hnd) (has:=has) (hlow:=hlow) (hr:=hr) (hp:=hp) (h:=h)
theorem UI{all:List Oper}{todo pend:List (Nat×Oper)}{d:Nat}{A y:Prop}{o:Oper}{c:Call}{g:FuncId}{args B:List PV}{r:ah}{t:TS}{b:PV}{i u j m n:Nat}{es:List (List PV)}{s':AS}(hc:bV prog g (.ptr 0 0::args) (t.O r) b (t.K r) 4)
  (hrd:fp todo=[(d,o)]) (ho:o.op= .call c) (ha:bY s.f c=io (g,.ptr i 0::B))
  (hi:s.h.get i=io (TS.cell r u j n m)) (hu:s.h.get u=io (rU t.up)) (hj:s.h.get j=io (.row 5 es)) (hm:s.h.get m=io (sa t.kind)) (hn:n=t.ws.length) (he:es=t.ws.map fun x=>(Want.c x).map .iv)
  (hlt:[i,u,j,m].all (fun x=>Zk x s.nx)=kw) (hnd:b4 [i,u,j,m]=kw) (has:B=args) (hlow:bq 0 args=kw) (hr:b.low 0=kw)
  (hp:putDst nt o b (tR s r t i u j m)=io s')
  (hg:cH nt all s.f o=io kw) (hpb:jI all pend o=kw) (hE:ph todo [d]=kw)
  (hag:tE pC nt all s todo pend=io A) (hCA:A) (hag2:eB pC nt all s' (bn pend o)=io y) (hC2:y)
  (h:GO prog nt (.cW all (todo.filter fun x=>!Zt x.1 d) (bn pend o)::k) Q s'):GO prog nt (.cW all todo pend::k) Q s:=
 yt ab hrd hg hpb hE hag hCA (J6 hc ho ha hi hu hj hm hn he hlt hnd has hlow hr hp) hag2 hC2 h
theorem qz{all:List Oper}{todo pend:List (Nat×Oper)}{d:Nat}{A y:Prop}{o:Oper}{c:Call}{g:FuncId}{args B:List PV}{r:ah}{t:TS}{b:PV}{i u j m n:Nat}{es:List (List PV)}{s':AS}(hc:bV prog g (.ptr 0 0::args) (t.O r) b (t.K r) 4)(h:GO prog nt (.cW all (todo.filter fun x=>!Zt x.1 d) (bn pend o)::k) Q s')(hrd:fp todo=[(d,o)]:=by exact rfl)(ho:o.op= .call c:=by exact rfl)(ha:bY s.f c=io (g,.ptr i 0::B):=by exact rfl)(hi:s.h.get i=io (TS.cell r u j n m):=by exact rfl)(hu:s.h.get u=io (rU t.up):=by exact rfl)(hj:s.h.get j=io (.row 5 es):=by exact rfl)(hm:s.h.get m=io (sa t.kind):=by exact rfl)(hn:n=t.ws.length:=by first|rfl|(rw[Y1];rfl)|simp)(he:es=t.ws.map fun x=>(Want.c x).map .iv:=by first|rfl|(rw[Y6];rfl)|(simp only[Y6,Zc];rfl))(hlt:[i,u,j,m].all (fun x=>Zk x s.nx)=kw:=by exact rfl)(hnd:b4 [i,u,j,m]=kw:=by exact rfl)(has:B=args:=by exact rfl)(hlow:bq 0 args=kw:=by exact rfl)(hr:b.low 0=kw:=by exact rfl)(hp:putDst nt o b (tR s r t i u j m)=io s':=by exact rfl)(hg:cH nt all s.f o=io kw:=by exact rfl)(hpb:jI all pend o=kw:=by exact rfl)(hE:ph todo [d]=kw:=by exact rfl)(hag:tE pC nt all s todo pend=io A:=by exact rfl)(hCA:A:=by(repeat' (first|exact ac|exact rfl|exact aL.refl _|exact aL.bk (by assumption)|apply ZL))<;>first|omega|(simp only[Zs];omega)|(simp;done)|(simp;omega))(hag2:eB pC nt all s' (bn pend o)=io y:=by exact rfl)(hC2:y:=by(repeat' (first|exact ac|exact rfl|exact aL.refl _|exact aL.bk (by assumption)|apply ZL))<;>first|omega|(simp only[Zs];omega)|(simp;done)|(simp;omega)):GO prog nt (.cW all todo pend::k) Q s:=UI (hc:=hc) (hrd:=hrd) (ho:=ho) (ha:=ha) (hi:=hi) (hu:=hu) (hj:=hj) (hm:=hm) (hn:=hn) (he:=he) (hlt:=hlt) (hnd:=hnd) (has:=has) (hlow:=hlow) (hr:=hr) (hp:=hp) (hg:=hg) (hpb:=hpb) (hE:=hE) (hag:=hag) (hCA:=hCA) (hag2:=hag2) (hC2:=hC2) (h:=h)
theorem SZ{l:List ResultVar}{y:PV}{e:Exit}{r:ah}{d:TS}{b:PV}{j n:Nat}{es:List (List PV)}(he:e= .normal∨e= .ret)(hr:lv pC s l=io y)(hi:s.h.get 0=io (TS.cell r 1 j n 3))(hu:s.h.get 1=io (rU d.up))(hj:s.h.get j=io (.row 5 es))(hm:s.h.get 3=io (sa d.kind))
  (hn:n=d.ws.length) (hes:es=d.ws.map fun x=>(Want.c x).map .iv) (hlt:Zk j s.nx=kw) (hnd:b4 [0,1,j,3]=kw) (hns:aaV 4 s.nx=kw) (hrl:aL y b) (hlow:b.low 0=kw) (hlow5:b.low 5=kw):CT pC l 4 b (d.H r) 5 e s:=by
 subst hn;subst hes;refine eU [j] he hr ⟨rfl,YY hns,fun x u=>?_,⟨?_,hlow5,ac⟩,⟨⟨_,hi,.of_eq Z⟩,YY Z,rfl,⟨_,hu,.of_eq Z⟩,YY Z,ac,⟨_,hj,.of_eq (bA _).symm⟩,YY Z,cK _,⟨_,hm,.of_eq Z⟩,YY Z,ac,ac⟩,?_⟩
 .simp only[Zd]at u;subst u;exact YY hlt
 .rw[PV.jW _ _ hlow];exact hrl
 .exact dA hnd
theorem zi{l:List ResultVar}{u:PV}{e:Exit}{r:ah}{d:TS}{b:PV}{j n:Nat}{es:List (List PV)}(he:e= .normal∨e= .ret:=by first|exact .inr Z|exact .inl Z)(hr:lv pC s l=io u:=by exact rfl)(hi:s.h.get 0=io (TS.cell r 1 j n 3):=by exact rfl)(hu:s.h.get 1=io (rU d.up):=by exact rfl)(hj:s.h.get j=io (.row 5 es):=by exact rfl)(hm:s.h.get 3=io (sa d.kind):=by exact rfl)(hn:n=d.ws.length:=by first|rfl|(rw[Y1];rfl)|simp)(hes:es=d.ws.map fun x=>(Want.c x).map .iv:=by first|rfl|(rw[Y6];rfl)|(simp only[Y6,Zc];rfl))(hlt:Zk j s.nx=kw:=by exact rfl)(hnd:b4 [0,1,j,3]=kw:=by exact rfl)(hns:aaV 4 s.nx=kw:=by exact rfl)(hrl:aL u b:=by exact .refl _)(hlow:b.low 0=kw:=by exact rfl)(hlow5:b.low 5=kw:=by exact rfl):CT pC l 4 b (d.H r) 5 e s:=SZ (he:=he) (hr:=hr) (hi:=hi) (hu:=hu) (hj:=hj) (hm:=hm) (hn:=hn) (hes:=hes) (hlt:=hlt) (hnd:=hnd) (hns:=hns) (hrl:=hrl) (hlow:=hlow) (hlow5:=hlow5)
theorem Rp{n0 i u j m n:Nat}{es:List (List PV)}{I:AF}{r:ah}{t b:TS}(hw:t=b)(hi:s.h.get i=io (TS.cell r u j n m))(hu:s.h.get u=io (rU t.up))(hj:s.h.get j=io (.row 5 es))(hm:s.h.get m=io (sa t.kind))
  (hn:n=t.ws.length) (hes:es=t.ws.map fun x=>(Want.c x).map .iv) (hlt:Zk j s.nx=kw) (hnd:b4 [i,u,j,m]=kw) (h0:[i,u,m].all (fun x=>Zk x n0)=kw) (hns:aaV n0 s.nx=kw) (hf:GD (n0+1) (sg n0 [j]) s.f I):
  Wk n0 [j] s ⟨I,[(i,io (TS.cell r u n0 b.ws.length m)),(u,io (rU b.up)),(n0,io (aG 5 b.ws Want.c)),(m,io (sa b.kind))],n0+1⟩:=by
 subst hw;subst hn;subst hes;simp only[List.all_cons,List.all_nil,Bool.and_true,Zo]at h0;have d:i<n0:=YY h0.1;have A:u<n0:=YY h0.2.1;have y:m<n0:=YY h0.2.2;have s0:sg n0 [j] i=i:=gz d;have B:sg n0 [j] u=u:=gz A;have D:sg n0 [j] m=m:=gz y;have J:Zk n0 n0=lc:=aaK.2 fun e=>absurd (YY e) (by omega);have F:sg n0 [j] n0=j:=by simp[sg,J]
 have c1:Zk u (n0+1)=kw:=ZI (by omega);have S:Zk m (n0+1)=kw:=ZI (by omega);have Y:Zk n0 (n0+1)=kw:=ZI (by omega);refine⟨rfl,YY hns,fun x G=>?_,hf,⟨⟨_,by rw[s0];exact hi,?_⟩,by show i<n0+1;omega,?_,⟨_,by rw[B];exact hu,.of_eq Z⟩,by show u<n0+1;omega,ac,⟨_,by rw[F];exact hj,.of_eq (bA _).symm⟩,aar _,cK _,⟨_,by rw[D];exact hm,.of_eq Z⟩,by show m<n0+1;omega,ac,ac⟩,?_⟩
 .simp only[Zd]at G;subst G;exact YY hlt
 .simp only[AO.db,dL,PV.db,B,D,F];exact .of_eq Z
 .simp[AO.low,bq,PV.low,c1,S,Y]
 .simp only[en,s0,B,D,F];exact dA hnd
theorem sy{n0 i u j m n:Nat}{es:List (List PV)}{d:AF}{r:ah}{t b:TS}(hw:t=b)(hi:s.h.get i=io (TS.cell r u j n m):=by exact rfl)(hu:s.h.get u=io (rU t.up):=by exact rfl)(hj:s.h.get j=io (.row 5 es):=by exact rfl)(hm:s.h.get m=io (sa t.kind):=by exact rfl)(hn:n=t.ws.length:=by first|rfl|(rw[Y1];rfl)|simp)(hes:es=t.ws.map fun x=>(Want.c x).map .iv:=by first|rfl|(rw[Y6];rfl)|(simp only[Y6,Zc];rfl))(hlt:Zk j s.nx=kw:=by exact rfl)(hnd:b4 [i,u,j,m]=kw:=by exact rfl)(h0:[i,u,m].all (fun x=>Zk x n0)=kw:=by exact rfl)(hns:aaV n0 s.nx=kw:=by exact rfl)(hf:GD (n0+1) (sg n0 [j]) s.f d:=by repeat' (first|exact ac|exact aL.refl _|exact rfl|apply ZL)):Wk n0 [j] s ⟨d,[(i,io (TS.cell r u n0 b.ws.length m)),(u,io (rU b.up)),(n0,io (aG 5 b.ws Want.c)),(m,io (sa b.kind))],n0+1⟩:=Rp (hw:=hw) (hi:=hi) (hu:=hu) (hj:=hj) (hm:=hm) (hn:=hn) (hes:=hes) (hlt:=hlt) (hnd:=hnd) (h0:=h0) (hns:=hns) (hf:=hf)
end
theorem TS.add_add(t:TS)(a b:List Want):(t.add a).add b=t.add (a++b):=by simp[TS.add]
theorem TS.add_nil(t:TS):t.add []=t:=by simp[TS.add]
def Rm(r:ah)(n:Nat):Prop:= ∀(t:TS) (e:Expr) (lit w:Int),e.size<=n->t.ws.length+Expr.aA e.args<=1000000000->bV prog 226 [.ptr 0 0,ag e.c,pI lit,pI w] (t.O r) (.bQ []) ((t.add (je r lit w e)).H r) 5
def Vh(r:ah)(n:Nat):Prop:= ∀(t:TS) (e:Expr) (lit w:Int),e.size<=n->t.ws.length+e.size<=1000000000->bV prog 199 [.ptr 0 0,ag e.c,pI lit,pI w] (t.O r) (.bQ []) ((t.add (gv r lit w e)).H r) 5
theorem d92(r:ah)(n:Nat)(u:Rm r n):Vh r n:=by
 intro t e lit w j hb;have x:=e.size_eq;rw[wY,<-TS.add_add];refine aB ab func199 Z (by decide) ntmps199 Z (by simp) ?_;refine zJ Z Z (fun k1=>?_) fun k1=>?_
 .have k1:e.kind=1:=zT k1;have d:kC r lit w e=[⟨lit,bf r e.var w,1,0⟩]:=am k1;rw[d];refine gA Z (qz (d136 r t e.var w) ?_);refine gA Z (Ex (u (t.add [⟨lit,bf r e.var w,1,0⟩]) e lit w j (by show(t.ws++_).length+_<=_;rw[Y1,ZB];omega)) Z Z Z Z Z Z Z (by first|rfl|(rw[Y1];rfl)|simp) (by first|rfl|(rw[Y6];rfl)|(simp only[Y6,Zc];rfl)) Z Z Z Z Z Z ?_);refine gA Z zi
 have k1: ¬e.kind=1:=zF k1;refine zJ Z Z (fun b=>?_) fun b=>?_
 .have b:e.kind=2:=zT b;have d:kC r lit w e=[⟨lit,aN.z,1,e.val.kind⟩]:=by unfold kC;rw[be k1,am b]
  rw[d];refine gA Z (Ex (u (t.add [⟨lit,aN.z,1,e.val.kind⟩]) e lit w j (by show(t.ws++_).length+_<=_;rw[Y1,ZB];omega)) Z Z Z Z Z Z Z (by first|rfl|(rw[Y1];rfl)|simp) (by first|rfl|(rw[Y6];rfl)|(simp only[Y6,Zc];rfl)) Z Z Z Z Z Z ?_);refine gA Z zi
 .have b: ¬e.kind=2:=zF b;have d:kC r lit w e=[]:=by unfold kC;rw[be k1,be b]
  rw[d,TS.add_nil];refine gA Z (HF (u t e lit w j (by omega)) ?_);refine gA Z zi
theorem jY(r:ah)(lit w:Int): ∀e:Expr,(gv r lit w e).length<=e.size
 | .mk k v val op args=>by
  rw[gv,Expr.size,Y1];have b:(kC r lit w (.mk k v val op args)).length<=1:=by
   unfold kC
   repeat' split
   all_goals simp
  have d:(if k=4 then vU r lit w args else[]).length<=Expr.aA args:=by
   split
   .exact numRs_len args
   .simp
  omega
where
 numRs_len: ∀l:List Expr,(vU r lit w l).length<=Expr.aA l
 | []=>by simp[vU]
 |e::s=>by
  have h1:=jY r lit w e;have h2:=numRs_len s;rw[vU,Expr.aA,Y1];omega
theorem Lg(r:ah)(lit w:Int)(l:List Expr)(i:Nat)(h:i<l.length):((l.take i).flatMap (gv r lit w)).length+(l.getD i em).size<=Expr.aA l:=by
 have b: ∀l:List Expr,(l.flatMap (gv r lit w)).length<=Expr.aA l:=by
  intro l
  induction l with
  |nil=>simp
  |cons e s ih=>
   have:=jY r lit w e;rw[ZO,Y1,Expr.aA];omega
 have j:=b (l.take i);have d: ∀(l:List Expr) (i:Nat),i<l.length->Expr.aA (l.take i)+(l.getD i em).size<=Expr.aA l:=by
  intro l
  induction l with
  |nil=>intro i h;simp at h
  |cons e s ih=>
   intro i h;cases i with
   |zero=>simp[Expr.aA]
   |succ i=>
    have:=ih i (by simpa using h);simp only[aan,aap,Expr.aA];omega
 have:=d l i h;omega
theorem d137(r:ah)(n:Nat)(y:Vh r n):Rm r (n+1):=by
 intro t e lit w F hb;have x:=e.size_eq;refine bV.le (args:=[.ptr 0 0,ag e.c1,pI lit,pI w]) ?_ ⟨.refl _,e.zr,.refl _,.refl _,ac⟩;have u:=Expr.au e.args;refine aB ab func226 Z (by decide) ntmps226 Z (by simp) ?_;refine zE Z Z (fun k=>?_) fun k=>?_
 .have k: ¬e.kind=4:=zF k;have d:je r lit w e=[]:=be k;rw[d,TS.add_nil];refine gA Z zi
 have k:e.kind=4:=zT k;have d:je r lit w e=e.args.flatMap (gv r lit w):=am k;rw[d];refine gA Z ?_
 refine az 0 e.args.length (Y8 _) (fun i=>⟨[(0,.ptr 0 0),(2,pI lit),(3,pI w),(14,.iv (cZ 7 e.args Expr.c)),(15,pI e.args.length),(16,pI i)],
  [(0,io (TS.cell r 1 5 (t.add ((e.args.take i).flatMap (gv r lit w))).ws.length 3)),(1,io (rU (t.add ((e.args.take i).flatMap (gv r lit w))).up)),(5,io (aG 5 (t.add ((e.args.take i).flatMap (gv r lit w))).ws Want.c)),(3,io (sa (t.add ((e.args.take i).flatMap (gv r lit w))).kind))],6⟩) (fun _=>True) _ ac
  (Rp (t:=t) (TS.add_nil t).symm Z Z Z Z Z Z Z Z Z Z (bv (bv (bv (bv (bv (bv trivial))))))) fun i B _=>?_
 refine zJ Z Z (fun b=>?_) fun b=>?_
 .have b:=ci b;have j:=bG (f:=gv r lit w) b;have D:=Lg r lit w e.args i b;have A:=Expr.aI e.args i b;refine gA Z (Ex (y (t.add ((e.args.take i).flatMap (gv r lit w))) (e.args.getD i em) lit w (by omega) (by show(t.ws++_).length+_<=_;rw[Y1];omega)) Z Z Z Z Z Z Z (by first|rfl|(rw[Y1];rfl)|simp) (by first|rfl|(rw[Y6];rfl)|(simp only[Y6,Zc];rfl)) Z Z Z Z Z Z ?_);refine gA Z ⟨b,ac,_,Rp ((by rw[TS.add_add,j])) Z Z Z Z (by first|rfl|(rw[Y1];rfl)|simp) (by first|rfl|(rw[Y6];rfl)|(simp only[Y6,Zc];rfl)) Z Z Z Z (bv (bv (bv (bv (bv (bv ac))))))⟩
 .have b:=co b;rw[Za b];refine gA Z zi
end
theorem vk(r:ah): ∀n,Vh r n∧Rm r n
 |0=>by
  have b:Rm r 0:=fun t e lit w j=>by have:=e.size_pos;omega
  exact⟨d92 r 0 b,b⟩
 |n+1=>by
  have d:=d137 r n (vk r n).1;exact⟨d92 r (n+1) d,d⟩
theorem ME(r:ah)(t:TS)(e:Expr)(lit w:Int)(hb:t.ws.length+e.size<=1000000000):bV prog 199 [.ptr 0 0,ag e.c,pI lit,pI w] (t.O r) (.bQ []) ((t.add (gv r lit w e)).H r) 5:=(vk r e.size).1 t e lit w (Y7 _) hb
theorem S3(r:ah)(t:TS)(e:Expr)(lit w:Int)(hb:t.ws.length+e.size<=1000000000):bV prog 226 [.ptr 0 0,ag e.c,pI lit,pI w] (t.O r) (.bQ []) ((t.add (je r lit w e)).H r) 5:=(vk r e.size).2 t e lit w (Y7 _) (by have:=e.size_eq;omega)
def typeAt(p:Prog)(a:Atom)(i:Nat):Int:=(iw p a.rel).types.getD i em
def nL(p:Prog)(a:Atom)(i:Nat):Bool:=li (i<(iw p a.rel).types.length)&&(li (typeAt p a i=1)||decide (typeAt p a i=2))
def mg(p:Prog)(r:ah)(a:Atom)(lit w:Int)(i:Nat):List Want:=
 if nL p a i=lc then[]
 else if(a.ad.getD i em).kind=1 then[⟨lit,bf r (a.ad.getD i em).var w,typeAt p a i,0⟩]
 else if(a.ad.getD i em).kind=2 then[⟨lit,aN.z,typeAt p a i,(a.ad.getD i em).val.kind⟩] else[]
def gy(p:Prog)(r:ah)(a:Atom)(lit w:Int):Nat->List Want
 |0=> []
 |i+1=>gy p r a lit w i++mg p r a lit w i
theorem Fw(p:Prog)(r:ah)(a:Atom)(lit w:Int)(i:Nat):(mg p r a lit w i).length<=1:=by
 unfold mg
 repeat' split
 all_goals simp
theorem pr(p:Prog)(r:ah)(a:Atom)(lit w:Int): ∀i,(gy p r a lit w i).length<=i
 |0=>Y7 _
 |i+1=>by
  have b:=pr p r a lit w i;have d:=Fw p r a lit w i;rw[gy,Y1];omega
set_option maxHeartbeats 1000000 in
theorem d90(p:Prog)(r:ah)(t:TS)(a:Atom)(lit w:Int)(hb:t.ws.length+a.ad.length<=1000000000):bV prog 197 [.ptr 0 0,.iv (df p),ag a.c,pI lit,pI w] (t.O r) (.bQ []) ((t.add (gy p r a lit w a.ad.length)).H r) 5:=by
 refine aB ab func197 Z (by decide) ntmps197 Z (by simp) ?_;refine gA Z ?_
 refine az 0 a.ad.length (Y8 _) (fun i=>⟨[(0,.ptr 0 0),(3,pI lit),(4,pI w),(10,.iv (cZ 1 (iw p a.rel).types ba)),(19,.iv (cZ 5 a.ad Term.c)),(20,pI a.ad.length),(21,pI i)],
  [(0,io (TS.cell r 1 5 (t.add (gy p r a lit w i)).ws.length 3)),(1,io (rU (t.add (gy p r a lit w i)).up)),(5,io (aG 5 (t.add (gy p r a lit w i)).ws Want.c)),(3,io (sa (t.add (gy p r a lit w i)).kind))],6⟩) (fun _=>True) _ ac
  (Rp (t:=t) (TS.add_nil t).symm Z Z Z Z Z Z Z Z Z Z (bv (bv (bv (bv (bv (bv (bv trivial)))))))) fun i A _=>?_
 refine zE Z Z (fun j=>?_) fun j=>?_
 .have j:=co j;have:i=a.ad.length:=by omega
  subst this;refine gA Z zi
 have j:=ci j;have B:=pr p r a lit w i;have b:t.add (gy p r a lit w (i+1))=(t.add (gy p r a lit w i)).add (mg p r a lit w i):=by rw[TS.add_add];rfl
 have y:(t.add (gy p r a lit w i)).ws.length<=t.ws.length+i:=by show(t.ws++_).length<=_;rw[Y1];omega
 generalize t.add (gy p r a lit w i)=t1 at*
 refine zE Z Z (fun g1=>?_) fun g1=>?_
 .have g1: ¬i<(iw p a.rel).types.length:=by have g:=zT (show li ((i:Int)>=((iw p a.rel).types.length:Int))=kw from g1);omega
  have u:nL p a i=lc:=by rw[nL,decide_eq_false g1];rfl
  have hW:mg p r a lit w i=[]:=am u;rw[hW,TS.add_nil]at b;refine gA Z ⟨j,ac,_,sy (b.symm)⟩
 have g1:i<(iw p a.rel).types.length:=by have g:=zF (show li ((i:Int)>=((iw p a.rel).types.length:Int))=lc from g1);omega
 refine zJ Z Z (fun g2=>?_) fun g2=>?_
 .have g2: ¬typeAt p a i=1:=by simpa[typeAt]using g2
  refine zJ Z Z (fun g3=>?_) fun g3=>?_
  .have g3: ¬typeAt p a i=2:=by simpa[typeAt]using g3
   have u:nL p a i=lc:=by rw[nL,decide_eq_true g1,decide_eq_false g2,decide_eq_false g3];rfl
   have hW:mg p r a lit w i=[]:=am u;rw[hW,TS.add_nil]at b;refine gA Z ⟨j,ac,_,sy (b.symm)⟩
  .have g3:typeAt p a i=2:=by simpa[typeAt]using g3
   have x:nL p a i=kw:=by rw[nL,decide_eq_true g1,decide_eq_true g3,aba];rfl
   have hW:mg p r a lit w i=if(a.ad.getD i em).kind=1 then[⟨lit,bf r (a.ad.getD i em).var w,typeAt p a i,0⟩]
    else if(a.ad.getD i em).kind=2 then[⟨lit,aN.z,typeAt p a i,(a.ad.getD i em).val.kind⟩] else[]:=by unfold mg;rw[x];exact be (by decide)
   rw[hW]at b;refine zJ Z Z (fun k1=>?_) fun k1=>?_
   .have k1:(a.ad.getD i em).kind=1:=zT k1;rw[am k1]at b;refine gA Z (qz (d136 r t1 (a.ad.getD i em).var w) ?_);refine gA Z ⟨j,ac,_,sy (b.symm)⟩
   have k1: ¬(a.ad.getD i em).kind=1:=zF k1;rw[be k1]at b;refine zJ Z Z (fun d=>?_) fun d=>?_
   .have d:(a.ad.getD i em).kind=2:=zT d;rw[am d]at b;refine gA Z ⟨j,ac,_,sy (b.symm)⟩
   .have d: ¬(a.ad.getD i em).kind=2:=zF d;rw[be d,TS.add_nil]at b;refine gA Z ⟨j,ac,_,sy (b.symm)⟩
 .have g2:typeAt p a i=1:=by simpa[typeAt]using g2
  have x:nL p a i=kw:=by rw[nL,decide_eq_true g1,decide_eq_true g2];rfl
  have hW:mg p r a lit w i=if(a.ad.getD i em).kind=1 then[⟨lit,bf r (a.ad.getD i em).var w,typeAt p a i,0⟩]
   else if(a.ad.getD i em).kind=2 then[⟨lit,aN.z,typeAt p a i,(a.ad.getD i em).val.kind⟩] else[]:=by unfold mg;rw[x];exact be (by decide)
  rw[hW]at b;refine zJ Z Z (fun k1=>?_) fun k1=>?_
  .have k1:(a.ad.getD i em).kind=1:=zT k1;rw[am k1]at b;refine gA Z (qz (d136 r t1 (a.ad.getD i em).var w) ?_);refine gA Z ⟨j,ac,_,sy (b.symm)⟩
  have k1: ¬(a.ad.getD i em).kind=1:=zF k1;rw[be k1]at b;refine zJ Z Z (fun d=>?_) fun d=>?_
  .have d:(a.ad.getD i em).kind=2:=zT d;rw[am d]at b;refine gA Z ⟨j,ac,_,sy (b.symm)⟩
  .have d: ¬(a.ad.getD i em).kind=2:=zF d;rw[be d,TS.add_nil]at b;refine gA Z ⟨j,ac,_,sy (b.symm)⟩
def sI(t:TS)(u v:aN):TS:=if u=v then t else⟨cF (.si .i64) t.up u v,t.ws,t.kind⟩
def lP(y:Expr):Int:=if y.kind=2 then y.val.kind else 1
def gh(r:ah)(lit w:Int)(t:TS)(x y:Expr):TS:=
 if y.kind=1 then sI t (aQ t.up (bf r x.var w)) (aQ t.up (bf r y.var w))
 else t.add (if x.kind=1 then[⟨lit,bf r x.var w,lP y,0⟩] else if x.kind=2 then[⟨lit,aN.z,lP y,x.val.kind⟩] else[⟨lit,aN.z,lP y,1⟩])
def jz(r:ah)(lit w:Int)(t:TS)(a b:Expr):TS:=
 if b.kind=1 then gh r lit w ((t.add (je r lit w a)).add (je r lit w b)) b a else gh r lit w ((t.add (je r lit w a)).add (je r lit w b)) a b
theorem O8{u v:aN}(h:(!(li (u.1=v.1)&&(li (u.2=v.2)&&kw)))=kw):u≠v:=by
 rintro rfl;simp at h
theorem O9{u v:aN}(h:(!(li (u.1=v.1)&&(li (u.2=v.2)&&kw)))=lc):u=v:=by
 simp at h;exact Prod.ext h.1 h.2
theorem uu(r:ah)(lit w:Int)(e:Expr):(je r lit w e).length<=e.size:=by
 have b:=jY r lit w e;rw[wY,Y1]at b;omega
set_option maxHeartbeats 1000000 in
theorem d93(r:ah)(t:TS)(a b:Expr)(lit w:Int)(ok:iX t.up)(hb:t.ws.length+a.size+b.size<=1000000000):bV prog 200 [.ptr 0 0,ag a.c,ag b.c,pI lit,pI w] (t.O r) (.bQ []) ((jz r lit w t a b).H r) 5:=by
 have F:=uu r lit w a;have G:=uu r lit w b;have D:jz r lit w t a b=if b.kind=1 then gh r lit w ((t.add (je r lit w a)).add (je r lit w b)) b a else gh r lit w ((t.add (je r lit w a)).add (je r lit w b)) a b:=rfl;rw[D];have A:iX ((t.add (je r lit w a)).add (je r lit w b)).up:=ok;refine aB ab func200 Z (by decide) ntmps200 Z (by simp) ?_;refine gA Z (HF (S3 r t a lit w (by omega)) ?_);refine gA Z (Ex (S3 r (t.add (je r lit w a)) b lit w (by show(t.ws++_).length+_<=_;rw[Y1];omega)) Z Z Z Z Z Z Z (by first|rfl|(rw[Y1];rfl)|simp) (by first|rfl|(rw[Y6];rfl)|(simp only[Y6,Zc];rfl)) Z Z Z Z Z Z ?_);have I:((t.add (je r lit w a)).add (je r lit w b)).ws.length<=t.ws.length+a.size+b.size:=by
  show((t.ws++_)++_).length<=_;rw[Y1,Y1];omega
 generalize(t.add (je r lit w a)).add (je r lit w b)=t1 at*
 refine zJ Z Z (fun k1=>?_) fun k1=>?_
 .have k1:b.kind=1:=zT k1;rw[am k1];refine zJ Z Z (fun j=>?_) fun j=>?_
  .have j:a.kind=2:=zT j;have B: ¬a.kind=1:=by omega
   have hh:lP a=a.val.kind:=am j;have x:gh r lit w t1 b a=t1.add [⟨lit,bf r b.var w,lP a,0⟩]:=by unfold gh;rw[be B,am k1]
   rw[x,hh];refine zJ Z Z (fun u=>?_) fun u=>?_
   .exact absurd (zT u) B
   refine zE Z Z (fun d=>?_) fun d=>?_
   .exact absurd k1 (zF d)
   refine gA Z (qz (d136 r t1 b.var w) ?_);refine gA Z zi
  .have j: ¬a.kind=2:=zF j;refine zJ Z Z (fun u=>?_) fun u=>?_
   .have u:a.kind=1:=zT u;have x:gh r lit w t1 b a=sI t1 (aQ t1.up (bf r b.var w)) (aQ t1.up (bf r a.var w)):=am u;rw[x];refine gA Z (qz (d136 r t1 b.var w) ?_);refine gA Z (qz (d52 r t1 (bf r b.var w) A) ?_);refine gA Z (qz (d136 r t1 a.var w) ?_);refine gA Z (qz (d52 r t1 (bf r a.var w) A) ?_);refine zJ Z Z (fun d=>?_) fun d=>?_
    .have e:sI t1 (aQ t1.up (bf r b.var w)) (aQ t1.up (bf r a.var w))=⟨cF (.si .i64) t1.up (aQ t1.up (bf r b.var w)) (aQ t1.up (bf r a.var w)),t1.ws,t1.kind⟩:=be (O8 d);rw[e];refine nV Z (by repeat' (first|exact ac|exact rfl|exact agI (aN.c (aQ t1.up (bf r a.var w)))|exact aL.refl _|apply ZL)) (SZ (by first|exact .inr Z|exact .inl Z) Z Z Z Z Z Z Z Z Z Z (.refl _) Z Z)
    .have e:sI t1 (aQ t1.up (bf r b.var w)) (aQ t1.up (bf r a.var w))=t1:=am (O9 d);rw[e];refine gA Z zi
   .have B: ¬a.kind=1:=zF u;have hh:lP a=1:=be j;have x:gh r lit w t1 b a=t1.add [⟨lit,bf r b.var w,lP a,0⟩]:=by unfold gh;rw[be B,am k1]
    rw[x,hh];refine zE Z Z (fun d=>?_) fun d=>?_
    .exact absurd k1 (zF d)
    refine gA Z (qz (d136 r t1 b.var w) ?_);refine gA Z zi
 have k1: ¬b.kind=1:=zF k1;rw[be k1];have x:gh r lit w t1 a b=t1.add (if a.kind=1 then[⟨lit,bf r a.var w,lP b,0⟩] else if a.kind=2 then[⟨lit,aN.z,lP b,a.val.kind⟩] else[⟨lit,aN.z,lP b,1⟩]):=be k1;rw[x];refine zJ Z Z (fun j=>?_) fun j=>?_
 .have j:b.kind=2:=zT j;have hh:lP b=b.val.kind:=am j;rw[hh];refine zJ Z Z (fun u=>?_) fun u=>?_
  .exact absurd (zT u) k1
  refine zJ Z Z (fun d=>?_) fun d=>?_
  .rw[am (zT d)];refine gA Z (qz (d136 r t1 a.var w) ?_);refine gA Z zi
  rw[be (zF d)];refine zJ Z Z (fun y=>?_) fun y=>?_
  .rw[am (zT y)];refine gA Z zi
  .rw[be (zF y)];refine gA Z zi
 .have j: ¬b.kind=2:=zF j;have hh:lP b=1:=be j;rw[hh];refine zJ Z Z (fun u=>?_) fun u=>?_
  .exact absurd (zT u) k1
  refine zJ Z Z (fun d=>?_) fun d=>?_
  .rw[am (zT d)];refine gA Z (qz (d136 r t1 a.var w) ?_);refine gA Z zi
  rw[be (zF d)];refine zJ Z Z (fun y=>?_) fun y=>?_
  .rw[am (zT y)];refine gA Z zi
  .rw[be (zF y)];refine gA Z zi
def pP(p:Prog)(r:ah)(lit w:Int)(t:TS)(l:Lit):TS:=
 if l.kind=1∨l.kind=2 then t.add (gy p r l.atom lit w l.atom.ad.length)
 else if l.kind=3 then(if l.op=1∨l.op=2 then jz r lit w t l.left l.right else(t.add (gv r lit w l.left)).add (gv r lit w l.right)) else t
theorem d91(p:Prog)(r:ah)(t:TS)(l:Lit)(lit w:Int)(ok:iX t.up)(hb:t.ws.length+l.size<=1000000000):bV prog 198 [.ptr 0 0,.iv (df p),ag l.c,pI lit,pI w] (t.O r) (.bQ []) ((pP p r lit w t l).H r) 5:=by
 have y:=l.size_eq;have A:=jY r lit w l.left;refine aB ab func198 Z (by decide) ntmps198 Z (by simp) ?_;refine zE Z Z (fun k1=>?_) fun k1=>?_
 .have k1:l.kind=1:=by simpa using k1
  have b:pP p r lit w t l=t.add (gy p r l.atom lit w l.atom.ad.length):=am (.inl k1);rw[b];refine gA Z (HF (d90 p r t l.atom lit w (by omega)) ?_);refine gA Z zi
 have k1: ¬l.kind=1:=zF k1;refine zJ Z Z (fun d=>?_) fun d=>?_
 .have d:l.kind=2:=zT d;have b:pP p r lit w t l=t.add (gy p r l.atom lit w l.atom.ad.length):=am (.inr d);rw[b];refine gA Z (HF (d90 p r t l.atom lit w (by omega)) ?_);refine gA Z zi
 have d: ¬l.kind=2:=zF d;have b:pP p r lit w t l=if l.kind=3 then(if l.op=1∨l.op=2 then jz r lit w t l.left l.right else(t.add (gv r lit w l.left)).add (gv r lit w l.right)) else t:=be (by rintro(h|h);exact k1 h;exact d h);refine zJ Z Z (fun j=>?_) fun j=>?_
 .have j: ¬l.kind=3:=by simpa using j
  rw[be j]at b;rw[b];refine gA Z zi
 have j:l.kind=3:=by simpa using j
 rw[am j]at b;refine zE Z Z (fun u=>?_) fun u=>?_
 .have u:l.op=1:=by simpa using u
  rw[am (.inl u)]at b;rw[b];refine gA Z (HF (d93 r t l.left l.right lit w ok (by omega)) ?_);refine gA Z zi
 have u: ¬l.op=1:=zF u;refine zJ Z Z (fun x=>?_) fun x=>?_
 .have x:l.op=2:=zT x;rw[am (.inr x)]at b;rw[b];refine gA Z (HF (d93 r t l.left l.right lit w ok (by omega)) ?_);refine gA Z zi
 .have x: ¬l.op=2:=zF x;rw[be (by rintro(h|h);exact u h;exact x h)]at b;rw[b];refine gA Z (HF (ME r t l.left lit w (by omega)) ?_);refine gA Z (Ex (ME r (t.add (gv r lit w l.left)) l.right lit w (by show(t.ws++_).length+_<=_;rw[Y1];omega)) Z Z Z Z Z Z Z (by first|rfl|(rw[Y1];rfl)|simp) (by first|rfl|(rw[Y6];rfl)|(simp only[Y6,Zc];rfl)) Z Z Z Z Z Z ?_);refine gA Z zi
theorem mr: ∀(n:Nat) (m:UM) (v:aN),iX m->Ik m v<=n->ef (.si .i64) m (aQ m v)=lc
 |n,m,v,ok,hn=>by
  cases h:ef (.si .i64) m v with
  |false=>rw[uc m v h];exact h
  |true=>
   obtain⟨b,d⟩:=p8 m v ok h;cases n with
   |zero=>omega
   |succ n=>rw[<-b];exact mr n m _ ok (by omega)
theorem ue: ∀(m:UM) (u v:aN),ef (.si .i64) m u=lc->cF (.si .i64) m u v=m++ [(u,v)]
 | [],_,_,_=>rfl
 |(x,y)::r,u,v,h=>by
  unfold ef at h;split at h
  .cases h
  .rename_i b;show(if x=u then _ else(x,y)::cF (.si .i64) r u v)=_;rw[be b,ue r u v h];rfl
theorem Et{m:UM}{u:aN}(h:ef (.si .i64) m u=lc): ∀q∈m,q.1≠u:=by
 induction m with
 |nil=>intro q hq;cases hq
 |cons a r ih=>
  obtain⟨x,y⟩:=a;unfold ef at h;split at h
  .cases h
  .rename_i b;intro q hq;rcases Zj.1 hq with rfl|hq
   .exact b
   .exact ih h q hq
theorem z7: ∀{m:UM} {u v:aN},iX m->(∀q∈m,q.1≠u)->(∀q∈m,q.1≠v)->u≠v->iX (m++ [(u,v)])
 | [],u,v,_,_,_,hne=>⟨hne,fun q hq=>(nomatch hq),fun q hq=>(nomatch hq),ac⟩
 |(x,y)::r,u,v,⟨o1,o2,o3,o4⟩,hu,hv,hne=>by
  refine⟨o1,fun q hq=>?_,fun q hq=>?_,z7 o4 (fun q hq=>hu q (Zg _ hq)) (fun q hq=>hv q (Zg _ hq)) hne⟩
  .rcases Zf.1 hq with hq|hq
   .exact o2 q hq
   .simp only[Zd]at hq;subst hq;exact fun e=>hu _ Zh e.symm
  .rcases Zf.1 hq with hq|hq
   .exact o3 q hq
   .simp only[Zd]at hq;subst hq;exact fun e=>hv _ Zh e.symm
theorem J8{t:TS}(ok:iX t.up)(a b:aN):iX (sI t (aQ t.up a) (aQ t.up b)).up:=by
 unfold sI;split
 .exact ok
 .rename_i d;have j:=mr _ t.up a ok (Y7 _);have u:=mr _ t.up b ok (Y7 _);show iX (cF _ _ _ _);rw[ue _ _ _ j];exact z7 ok (Et j) (Et u) d
theorem Bt(r:ah)(lit w:Int){t:TS}(ok:iX t.up)(x y:Expr):iX (gh r lit w t x y).up:=by
 unfold gh;split
 .exact J8 ok _ _
 .exact ok
theorem Fj(r:ah)(lit w:Int){t:TS}(ok:iX t.up)(a b:Expr):iX (jz r lit w t a b).up:=by
 unfold jz;split
 .exact Bt r lit w (t:=(t.add (je r lit w a)).add (je r lit w b)) ok _ _
 .exact Bt r lit w (t:=(t.add (je r lit w a)).add (je r lit w b)) ok _ _
theorem Lu(p:Prog)(r:ah)(lit w:Int){t:TS}(ok:iX t.up)(l:Lit):iX (pP p r lit w t l).up:=by
 unfold pP
 repeat' split
 .exact ok
 .exact Fj r lit w ok _ _
 .exact ok
 .exact ok
theorem J7(t:TS)(u v:aN):(sI t u v).ws=t.ws:=by unfold sI;split<;>rfl
theorem y6(r:ah)(lit w:Int)(t:TS)(x y:Expr):(gh r lit w t x y).ws.length<=t.ws.length+1:=by
 unfold gh
 repeat' split
 .rw[J7];omega
 all_goals(show(t.ws++_).length<=_;rw[Y1,ZB];omega)
theorem Bq(r:ah)(lit w:Int)(t:TS)(a b:Expr):(jz r lit w t a b).ws.length<=t.ws.length+a.size+b.size+1:=by
 have d:=uu r lit w a;have j:=uu r lit w b;have u:((t.add (je r lit w a)).add (je r lit w b)).ws.length<=t.ws.length+a.size+b.size:=by
  show((t.ws++_)++_).length<=_;rw[Y1,Y1];omega
 unfold jz;split
 .exact ZS (y6 _ _ _ _ _ _) (by omega)
 .exact ZS (y6 _ _ _ _ _ _) (by omega)
theorem Hr(p:Prog)(r:ah)(lit w:Int)(t:TS)(l:Lit):(pP p r lit w t l).ws.length<=t.ws.length+l.size:=by
 have b:=l.size_eq;have d:=pr p r l.atom lit w l.atom.ad.length;have j:=Bq r lit w t l.left l.right;have u:=jY r lit w l.left;have x:=jY r lit w l.right;unfold pP
 repeat' split
 .show(t.ws++_).length<=_;rw[Y1];omega
 .omega
 .show((t.ws++_)++_).length<=_;rw[Y1,Y1];omega
 .omega
end Go.Proofs.YtflegjieadkonaaGreatDoor
