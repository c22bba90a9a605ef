/-
  What the proofs of the claims need: part 3 of 7.
-/
import Derived.Test.YtflegjieadkonaaGreatDoorPart2
import Derived.Sort.EncStr
import Derived.Sort.Grow
import Derived.Sort.Walk0
import Derived.Shelf.Sort.Plain
import Derived.Shelf.Slices.In.SortNone
import Derived.Shelf.Slices.In.SortNone2
import Derived.WalkKit
import Derived.Lib.Builder
import Derived.Lib.UnsafeStr
import Derived.Laws.Externs
import Derived.Shelf.RegionOpenPlain
import Derived.KernelRfl
import Derived.Test.YtflegjieadkonaaGreatDoorProg
import Derived.Laws.RangeString
import Derived.Shelf.LaysM
import Derived.Shelf.Strconv.Itoa3
import Derived.Lib.ItoaLen
open And renaming intro→ZC
open Array renaming getD_eq_getD_getElem?→YQ,getElem?_append_left→ZU,getElem?_eq_getElem→ZM,getElem?_eq_some_iff→aaa,getElem?_modify→ZK,getElem?_setIfInBounds→ZB
open Bool renaming and_eq_true→Zf,and_false→ZV,eq_false_iff→aaB,eq_iff_iff→ZE,false_and→ZZ,false_eq_true→aaq,false_or→Z7,not_eq_true'→ZX,not_false→abj,not_true→abh,or_eq_true→aac,or_true→aa2,true_and→ZH,true_or→abm
open ByteArray renaming empty→YW,size→abG
open Classical renaming byContradiction→Z8
open Int renaming ofNat_eq_zero→ab8,toNat_natCast→Zi
open List.Nodup renaming length_le_of_subset→aay
open List.Pairwise renaming nil→aaC
open List renaming all_eq_false→aaE,all_eq_true→Zj,any_cons→abP,any_eq_false→ZL,any_eq_true→ZG,append_assoc→Y3,append_nil→Zv,cons_append→aat,ext_getElem?→aaD,filterMap_append→abZ,filterMap_cons→ab5,filter_append→aa4,filter_cons→aan,filter_eq_self→ab6,filter_sublist→abw,findIdx?_eq_none_iff→abq,findIdx?_eq_some_iff_getElem→aa6,flatMap_cons→ZF,foldl_append→aao,foldl_cons→Zn,getD_cons_succ→aag,getD_eq_getElem?_getD→YR,getElem?_eq_getElem→YU,getElem?_eq_some_iff→YV,getElem?_map→Y0,getElem?_of_mem→ZO,getElem?_take→ZS,getElem_inj→abo,getElem_map→abD,getElem_mem→Zz,le_antisymm→abS,length_append→YS,length_cons→Zr,length_filter_le→Z4,length_map→Zo,length_nil→Z6,length_pos_iff→aaY,length_singleton→Zs,length_take→ZJ,map_append→YX,map_cons→Zd,map_map→aaH,map_nil→ZR,mem_append→Y6,mem_append_left→Zt,mem_append_right→aal,mem_cons→Za,mem_cons_of_mem→Y7,mem_cons_self→Y8,mem_filter→Zw,mem_flatMap→aaK,mem_map→Zu,mem_of_getElem?→Zm,mem_of_mem_take→abk,mem_range→ZY,mem_singleton→Y4,nodup_append→aaP,nodup_cons→aad,nodup_nil→ZT,not_lt→acf,not_mem_nil→abn,pairwise_cons→aaj,range→Zg,sum_cons→aaF,take_length→aaz,take_of_length_le→Y1,take_succ_cons→aae
open Nat renaming add_assoc→aas,add_zero→aa0,beq→Zk,ble→aaM,ble_eq_true_of_le→Zy,blt→Zb,le_add_left→aar,le_of_ble_eq_true→YP,le_refl→YY,le_trans→ZI,lt_or_ge→Z1,lt_succ_of_lt→aav,lt_succ_self→aai,mul_one→abM,zero_add→Zh,zero_le→YZ
open Option renaming bind_some→abR,getD_some→aah,map_eq_some_iff→Y2,map_some→ZW
open Option.some renaming injEq→YT
set_option maxRecDepth 100000
open Bool renaming false→lc,true→kw
open Decidable renaming decide→li
open Inhabited renaming default→em
open Option renaming none→jp,some→io
open Array renaming range→abK
open Array renaming getElem?_map→abe
open Nat renaming mul_le_mul_right→Zp
open Nat renaming add_mul→Z5
open List renaming getElem?_append_right→Ze
open Array renaming getElem?_toList→Z2
namespace Go.Proofs.YtflegjieadkonaaGreatDoor
open Go Go.Al Go.Proofs.Tryz
theorem EE{α:Type}[Inhabited α]{l:List α}{p:α->Bool}{i:Nat}(h:i<l.length):(l.take (i+1)).filter p=if p (l.getD i em) then(l.take i).filter p++ [l.getD i em] else(l.take i).filter p:=by
 rw[bz h,aa4];cases hp:p (l.getD i em)<;>simp only[aan,List.filter_nil,hp]<;>simp
theorem wF{α:Type}(l:List α)(p:α->Bool)(i:Nat):((l.take i).filter p).length<=l.length:=by
 have b:=Z4 p (l.take i);have d:(l.take i).length<=l.length:=by simp;omega
 omega
def ak(r:ae)(lit:Int):Lit:=r.body.getD lit.toNat em
def mA(r:ae)(lit:Int):List aj:=if lit<0∨(r.body.length:Int)<=lit∨ ¬(ak r lit).kind=4 then[] else(aF (ak r lit).agg).filter fun x=>!aE (outer r) x
theorem Lit.fz(l:Lit):l.agg.size+2<=l.size:=by
 rw[l.size_eq];unfold eL.size Lit.agg;dsimp only;omega
theorem c36(r:ae)(lit:Int)(hb:r.size<=1000000000000):Pure prog 238 [ag r.c,pI lit] (.iv (strs (mA r lit))):=by
 have D:=hb;unfold ae.size at D;refine ah ab func238 Z (by decide) ntmps238 Z (by simp) Z ?_;refine zE Z Z (fun d=>?_) fun d=>?_
 .have d:lit<0:=by simpa using d
  refine gA Z (zL ?_);rw[mA,am (.inl d)];exact .nil _ _
 have d: ¬lit<0:=by simpa using d
 refine zE Z Z (fun u=>?_) fun u=>?_
 .have u:(r.body.length:Int)<=lit:=by simpa using u
  refine gA Z (zL ?_);rw[mA,am (.inr (.inl u))];exact .nil _ _
 have u: ¬(r.body.length:Int)<=lit:=by simpa using u
 refine zJ Z Z (fun j=>?_) fun j=>?_
 .have j: ¬(ak r lit).kind=4:=by simpa[ak]using j
  refine gA Z (zL ?_);rw[mA,am (.inr (.inr j))];exact .nil _ _
 have j:(ak r lit).kind=4:=by simpa[ak]using j
 have S:lit.toNat<r.body.length:=by omega
 have F:=Lit.aI r.body lit.toNat S;have G:=(ak r lit).fz;have J:=gp (ak r lit).agg;have Y:(ak r lit).size<=Lit.aA r.body:=F;refine gA Z (zp (UP r hb) ?_);refine gA Z (zp (Ve (ak r lit).agg (by omega)) ?_);refine gA Z ?_;refine fS 7 1 Z ?_;refine az 0 (aF (ak r lit).agg).length (YZ _) (fun i=>⟨[(5,.iv (strs (outer r))),(6,.iv (strs (aF (ak r lit).agg))),(7,.sl 2 0 (((aF (ak r lit).agg).take i).filter fun x=>!aE (outer r) x).length 1),(8,pI i)],[(2,io (aG 1 (((aF (ak r lit).agg).take i).filter fun x=>!aE (outer r) x) cX))],3⟩) (fun _=>True) [1] ac
  (zW (zS trivial)) fun i hi hJ=>?_
 have I:=wF (aF (ak r lit).agg) (fun x=>!aE (outer r) x) i;refine zJ Z Z (fun b=>?_) fun b=>?_
 .have b:=ci b;have y:=EE (p:=fun x=>!aE (outer r) x) b;refine gA Z (bh (JC _ ((aF (ak r lit).agg).getD i em)) Z Z Z Z Z Z ?_);refine zJ Z Z (fun B=>?_) fun B=>?_
  .rw[am B]at y;refine nS Z ?_ ⟨b,ac,[4],zM (bv (bv ⟨.row (by rw[y];simp),rfl,bv ac⟩)) (hR Z (by rw[y,YX];rfl) Z ac)⟩
   repeat' (first|exact ac|exact rfl|apply ZC)
   all_goals first|omega|(simp;omega)|simp
  .rw[B]at y;refine gA Z ⟨b,ac,[2],zM (bv (bv ⟨.row (by rw[y];simp),rfl,bv ac⟩)) (hR Z (by rw[y];simp;try rfl) Z ac)⟩
 .have b:=co b;have A:mA r lit=((aF (ak r lit).agg).take i).filter fun x=>!aE (outer r) x:=by
   rw[Y1 b,mA,be (by simp[d,j];omega)]
  refine gA Z (cx (by first|exact .inr Z|exact .inl Z) Z Z (by rw[A]) (by rw[A]))
def kg(l:Lit)(b:List aj):aj×Bool:=
 if¬l.kind=3∨ ¬l.op=1 then(YW,lc)
 else if l.left.kind=1∧lO b (aH l.left)=lc∧lO b (aH l.right)=kw then(l.left.var,kw)
 else if l.right.kind=1∧lO b (aH l.right)=lc∧lO b (aH l.left)=kw then(l.right.var,kw)
 else(YW,lc)
theorem jO{a b:aj×Bool}(h:a=b):PV.bM [pS a.1,pB a.2]= .bM [pS b.1,pB b.2]:=by rw[h]
theorem Yu(l:Lit)(b:List aj)(hb:l.size<=1000000000000):Pure prog 283 [ag l.c,.iv (strs b)] (.bM [pS (kg l b).1,pB (kg l b).2]):=by
 have G:=l.size_eq;refine ah ab func283 Z (by decide) ntmps283 Z (by simp) Z ?_;refine zE Z Z (fun B=>?_) fun B=>?_
 .have B: ¬l.kind=3:=by simpa using B
  refine gA Z (zL (.of_eq ?_));exact jO (a:=(YW,lc)) (by rw[kg,am (.inl B)])
 have B:l.kind=3:=by simpa using B
 refine zJ Z Z (fun D=>?_) fun D=>?_
 .have D: ¬l.op=1:=by simpa using D
  refine gA Z (zL (.of_eq ?_));exact jO (a:=(YW,lc)) (by rw[kg,am (.inr D)])
 have D:l.op=1:=by simpa using D
 have y:kg l b=if l.left.kind=1∧lO b (aH l.left)=lc∧lO b (aH l.right)=kw then(l.left.var,kw)
   else if l.right.kind=1∧lO b (aH l.right)=lc∧lO b (aH l.left)=kw then(l.right.var,kw)
   else(YW,lc):=by rw[kg,be (by simp[B,D])]
 refine gA Z (zp (EW l.left (by omega)) ?_);refine gA Z (zp (EW l.right (by omega)) ?_);refine gA Z (zp (WZ b (aH l.left)) ?_);refine gA Z (zp (WZ b (aH l.right)) ?_);refine zJ Z Z (fun A=>?_) fun A=>?_
 .have A:l.left.kind=1:=by simpa using A
  refine zJ Z Z (fun u=>?_) fun u=>?_
  .have u:lO b (aH l.left)=lc:=by simpa using u
   refine zJ Z Z (fun F=>?_) fun F=>?_
   .refine gA Z (zL (.of_eq ?_));exact jO (a:=(l.left.var,kw)) (by rw[y,am ⟨A,u,F⟩])
   .refine zJ Z Z (fun d=>?_) fun d=>?_
    .have d:l.right.kind=1:=by simpa using d
     refine zJ Z Z (fun j=>?_) fun j=>?_
     .refine zJ Z Z (fun x=>?_) fun x=>?_
      .rw[u]at x;cases x
      .refine gA Z (zL (.of_eq ?_));exact jO (a:=(YW,lc)) (by rw[y,be (by simp[F]),be (by simp[u])])
     .rw[F]at j;cases j
    .have d: ¬l.right.kind=1:=by simpa using d
     refine gA Z (zL (.of_eq ?_));exact jO (a:=(YW,lc)) (by rw[y,be (by simp[F]),be (by simp[u])])
  .have u:lO b (aH l.left)=kw:=by simpa using u
   refine zJ Z Z (fun d=>?_) fun d=>?_
   .have d:l.right.kind=1:=by simpa using d
    refine zJ Z Z (fun j=>?_) fun j=>?_
    .have j:lO b (aH l.right)=lc:=by simpa using j
     refine zJ Z Z (fun x=>?_) fun x=>?_
     .refine gA Z (zL (.of_eq ?_));exact jO (a:=(l.right.var,kw)) (by rw[y,be (by simp[u]),am ⟨d,j,u⟩])
     .rw[u]at x;cases x
    .have j:lO b (aH l.right)=kw:=by simpa using j
     refine gA Z (zL (.of_eq ?_));exact jO (a:=(YW,lc)) (by rw[y,be (by simp[u]),be (by simp[j])])
   .have d: ¬l.right.kind=1:=by simpa using d
    refine gA Z (zL (.of_eq ?_));exact jO (a:=(YW,lc)) (by rw[y,be (by simp[u]),be (by simp[d])])
 .have A: ¬l.left.kind=1:=by simpa using A
  refine zJ Z Z (fun d=>?_) fun d=>?_
  .have d:l.right.kind=1:=by simpa using d
   refine zJ Z Z (fun j=>?_) fun j=>?_
   .have j:lO b (aH l.right)=lc:=by simpa using j
    refine zJ Z Z (fun x=>?_) fun x=>?_
    .refine gA Z (zL (.of_eq ?_));exact jO (a:=(l.right.var,kw)) (by rw[y,be (by simp[A]),am ⟨d,j,x⟩])
    .refine gA Z (zL (.of_eq ?_));exact jO (a:=(YW,lc)) (by rw[y,be (by simp[A]),be (by simp[x])])
   .have j:lO b (aH l.right)=kw:=by simpa using j
    refine gA Z (zL (.of_eq ?_));exact jO (a:=(YW,lc)) (by rw[y,be (by simp[A]),be (by simp[j])])
  .have d: ¬l.right.kind=1:=by simpa using d
   refine gA Z (zL (.of_eq ?_));exact jO (a:=(YW,lc)) (by rw[y,be (by simp[A]),be (by simp[d])])
def sv(a:eL)(b outer:List aj):Bool:=!aE b a.var&&(aF a).all fun x=>!(aE outer x&&(!aE b x&&!li (x=a.var)))
theorem Yt(a:eL)(b outer:List aj)(hb:a.size<=1000000000000):Pure prog 284 [ag a.c,.iv (strs b),.iv (strs outer)] (pB (sv a b outer)):=by
 have D:=gp a;refine ah ab func284 Z (by decide) ntmps284 Z (by simp) Z ?_;refine gA Z (zp (JC b a.var) ?_);refine zJ Z Z (fun y=>?_) fun y=>?_
 .refine gA Z (zL (.of_eq ?_));rw[sv,y];try rfl
 refine gA Z (zp (Ve a hb) ?_);refine gA Z ?_;refine az 0 (aF a).length (YZ _) (fun i=>⟨[(1,.iv (strs b)),(2,.iv (strs outer)),(3,.ptr 0 0),(8,.iv (strs (aF a))),(9,pI i)],[(0,io (an a.c))],1⟩) (fun i=>((aF a).take i).all (fun x=>!(aE outer x&&(!aE b x&&!li (x=a.var))))=kw) [] Z
  (zW (zK trivial)) fun i F u=>?_
 refine zJ Z Z (fun d=>?_) fun d=>?_
 .have d:=ci d;refine gA Z (zp (JC outer ((aF a).getD i em)) ?_);refine gA Z (zp (JC b ((aF a).getD i em)) ?_);refine zJ Z Z (fun j=>?_) fun j=>?_
  .refine zJ Z Z (fun A=>?_) fun A=>?_
   .refine zJ Z Z (fun B=>?_) fun B=>?_
    .refine gA Z (zL (.of_eq ?_));rw[sv,E7 d (show(!(aE outer ((aF a).getD i em)&&(!aE b ((aF a).getD i em)&&!li ((aF a).getD i em=a.var))))=lc by rw[j,A,show(!li ((aF a).getD i em=a.var))=kw from B];rfl)];simp;try rfl
    .refine gA Z ?_;exact⟨d,(kW u d).2 (by rw[j];simp only[ZH];rw[show(!li ((aF a).getD i em=a.var))=lc from B];simp),[],zW (zK ac)⟩
   .refine gA Z ?_;exact⟨d,(kW u d).2 (by rw[A];simp),[],zW (zK ac)⟩
  .refine gA Z ?_;exact⟨d,(kW u d).2 (by rw[j];simp),[],zW (zK ac)⟩
 .have d:=co d;refine gA Z (zL (.of_eq ?_));rw[sv,y,E8 u d];try rfl
def dQ(l:Lit)(b:List aj):aj×Bool:=
 if¬l.kind=3∨ ¬l.op=1 then(YW,lc)
 else if l.left.kind=1∧aE b l.left.var=lc∧(l.right.kind=2∨l.right.kind=1∧aE b l.right.var=kw) then(l.left.var,kw)
 else if l.right.kind=1∧(if l.left.kind=1 then aE b l.left.var else li (l.left.kind=2))=kw then(l.right.var,!aE b l.right.var)
 else(YW,lc)
theorem c78(l:Lit)(b:List aj):Pure prog 177 [ag l.c,.iv (strs b)] (.bM [pS (dQ l b).1,pB (dQ l b).2]):=by
 refine ah ab func177 Z (by decide) ntmps177 Z (by simp) Z ?_
 repeat' (first|(refine gA Z (zI (fun _=>?_) (fun _=>?_)))|(refine gA Z (zp (JC b l.left.var) ?_))|(refine gA Z (zp (JC b l.right.var) ?_))|(refine gA Z (zL (.of_eq ?_))))
 all_goals first
  |exact jO (a:=(YW,lc)) (by simp_all [dQ])
  |exact jO (a:=(l.left.var,kw)) (by simp_all [dQ])
  |exact jO (a:=(l.right.var,!aE b l.right.var)) (by simp_all [dQ])
  |(exfalso;simp_all;done)
theorem pc{e:Expr}(h:e.kind=1):aH e=[e.var]:=by
 rw[wc,am h,q9];rfl
theorem IA{l:Lit}{k:List aj}(h:(kg l k).2=kw):((kg l k).1=l.left.var∨(kg l k).1=l.right.var)∧(kg l k).1∉k:=by
 unfold kg at h ⊢;split at h
 .cases h
 .rename_i u;rw[be u];split at h
  .rename_i b;rw[am b];refine⟨.inl Z,fun j=>?_⟩;have:=b.2.1;rw[pc b.1]at this;simp[lO,aM.2 j]at this
  .rename_i b;rw[be b];split at h
   .rename_i d;rw[am d];refine⟨.inr Z,fun j=>?_⟩;have:=d.2.1;rw[pc d.1]at this;simp[lO,aM.2 j]at this
   .cases h
theorem JI{a:eL}{k o:List aj}(h:sv a k o=kw):a.var∉k:=by
 unfold sv at h;simp only[Zf,ZX]at h;exact dY.1 h.1
def bL(body:List Lit):List aj:=body.flatMap fun l=> [l.left.var,l.right.var,l.a7]
def bN(c k:List aj):Nat:=(c.filter fun x=>!aE k x).length
theorem jN: ∀body:List Lit,(bL body).length=3*body.length
 | []=>rfl
 |l::r=>by have:=jN r;simp only[bL,ZF,YS,Zr,Z6]at this ⊢;omega
theorem oW(c k:List aj):bN c k<=c.length:=Z4 _ _
theorem oV{v:aj}{k:List aj}: ∀{c:List aj},v∈c->v∉k->bN c (b6 k v)<bN c k:=by
 have mono: ∀c:List aj,bN c (b6 k v)<=bN c k:=by
  intro c
  induction c with
  |nil=>exact YY _
  |cons x r d=>
   simp only[bN]at d ⊢;simp only[aan];by_cases b:x∈k
   .have:aE (b6 k v) x=kw:=aM.2 (cq.2 (.inl b));rw[this,aM.2 b];exact d
   .simp only[dY.2 b,abj,if_true,Zr];split<;>(try simp only[Zr])<;>omega
 intro c u y
 induction c with
 |nil=>cases u
 |cons x r d=>
  have A:=mono r;simp only[bN]at d A ⊢;simp only[aan];by_cases j:x=v
  .subst j;have:aE (b6 k x) x=kw:=aM.2 (cq.2 (.inr Z));simp[this,dY.2 y];omega
  .have B:v∈r:=by
    rcases Za.1 u with h|h
    .exact absurd h.symm j
    .exact h
   have d:=d B;by_cases b:x∈k
   .have:aE (b6 k v) x=kw:=aM.2 (cq.2 (.inl b));simp[this,aM.2 b];exact d
   .have:aE (b6 k v) x=lc:=dY.2 fun h=>by rcases cq.1 h with h|h;exact b h;exact j h
    simp[this,dY.2 b];omega
def fD(own:Bool)(outer:List aj)(k:List aj)(l:Lit):aj×Bool:=if own=kw∧l.kind=4 then(l.a7,sv l.agg k outer) else kg l k
def stepG(own:Bool)(outer:List aj)(a:List aj×Bool)(l:Lit):List aj×Bool:=if(fD own outer a.1 l).2=kw then(b6 a.1 (fD own outer a.1 l).1,kw) else a
def nK(own:Bool)(outer:List aj)(body:List Lit)(k:List aj):List aj×Bool:=body.foldl (stepG own outer) (k,lc)
def AP(own:Bool)(outer:List aj)(body:List Lit):Nat->List aj->List aj
 |0,k=>k
 |n+1,k=>if(nK own outer body k).2=kw then AP own outer body n (nK own outer body k).1 else(nK own outer body k).1
theorem yl{own:Bool}{outer:List aj}{body:List Lit}{n:Nat}{k:List aj}:AP own outer body (n+1) k=if(nK own outer body k).2=kw then AP own outer body n (nK own outer body k).1 else(nK own outer body k).1:=rfl
def ia(k:List aj)(l:Lit):List aj:=if l.kind=1 then cv k (bj l.atom) else k
def tp(own:Bool)(outer:List aj)(body:List Lit)(k:List aj):List aj:=AP own outer body (3*body.length+1) (body.foldl ia k)
theorem It{own:Bool}{outer k:List aj}{l:Lit}(h:(fD own outer k l).2=kw):(fD own outer k l).1∈ [l.left.var,l.right.var,l.a7]∧(fD own outer k l).1∉k:=by
 unfold fD at h ⊢;split at h
 .rename_i b;rw[am b];exact⟨by simp,JI (a:=l.agg) h⟩
 .rename_i b;rw[be b];obtain⟨h2,d⟩:=IA h;refine⟨?_,d⟩;rcases h2 with h2|h2<;>simp[h2]
theorem rG{body:List Lit}{l:Lit}(h:l∈body){v:aj}(b:v∈ [l.left.var,l.right.var,l.a7]):v∈bL body:=aaK.2 ⟨l,h,b⟩
theorem Kn{own:Bool}{outer c:List aj}{a:List aj×Bool}{l:Lit}(hc: ∀v∈ [l.left.var,l.right.var,l.a7],v∈c):
  (stepG own outer a l).1.length+bN c (stepG own outer a l).1<=a.1.length+bN c a.1∧bN c (stepG own outer a l).1<=bN c a.1∧
  ((stepG own outer a l).2=kw->a.2=kw∨bN c (stepG own outer a l).1<bN c a.1):=by
 unfold stepG;split
 .rename_i h;obtain⟨b,d⟩:=It h;have j:=oV (hc _ b) d;have u:=jz a.1 (fD own outer a.1 l).1;exact⟨by dsimp only;omega,by dsimp only;omega,fun _=> .inr j⟩
 .exact⟨YY _,YY _,fun h=> .inl h⟩
theorem EA{own:Bool}{outer c:List aj}: ∀{body:List Lit} {a:List aj×Bool},(∀l∈body,∀v∈ [l.left.var,l.right.var,l.a7],v∈c)->
  (body.foldl (stepG own outer) a).1.length+bN c (body.foldl (stepG own outer) a).1<=a.1.length+bN c a.1∧bN c (body.foldl (stepG own outer) a).1<=bN c a.1∧
  ((body.foldl (stepG own outer) a).2=kw->a.2=kw∨bN c (body.foldl (stepG own outer) a).1<bN c a.1)
 | [],a,_=>⟨YY _,YY _,fun h=> .inl h⟩
 |l::r,a,hc=>by
  obtain⟨j,u,b⟩:=Kn (own:=own) (outer:=outer) (a:=a) (hc l Y8);obtain⟨g1,g2,g3⟩:=EA (own:=own) (outer:=outer) (body:=r) (a:=stepG own outer a l) fun l d=>hc l (Y7 _ d);simp only[Zn];refine⟨by omega,by omega,fun h=>?_⟩;rcases g3 h with g|g
  .rcases b g with h|h
   .exact .inl h
   .exact .inr (by omega)
  .exact .inr (by omega)
theorem K0(k:List aj)(l:Lit):(ia k l).length+2<=k.length+l.size:=by
 have b:=eM (bj l.atom) k;have d:=dr l.atom;have j:=l.size_eq;unfold ia;split<;>omega
theorem iX: ∀(l:List Lit) (a:List aj),(l.foldl ia a).length<=a.length+Lit.aA l
 | [],a=>by simp[Lit.aA]
 |e::r,a=>by
  have b:=iX r (ia a e);have d:=K0 a e;simp only[Zn,Lit.aA];omega
theorem c74(body:List Lit)(d outer:List aj)(own:Bool)(hb:d.length+4*Lit.aA body<=1000000000000):Pure prog 269 [.iv (lits body),.iv (strs d),.iv (strs outer),pB own] (.iv (strs (tp own outer body d))):=by
 have b0:=Lit.au body;have j0:=iX body d;have d0:=jN body;have i0:=oW (bL body) (body.foldl ia d);refine ah ab func269 Z (by decide) ntmps269 Z (by simp) Z ?_;refine gA Z ?_;refine az 0 body.length (YZ _) (fun i=>⟨[(0,.iv (lits body)),(1,.iv (strs ((body.take i).foldl ia d))),(2,.iv (strs outer)),(3,pB own),(9,pI i)],[],0⟩) (fun _=>True) [] ac
  (mW Z Z (bv (bv (bv (bv (bv trivial))))) Z) fun i hi _=>?_
 refine zJ Z Z (fun G=>?_) fun G=>?_
 .have G:=ci G;have j:=cH (g:=ia) (b:=d) G;have hv:=iX (body.take i) d;have hn:=Lit.b3 body i G;have c0:=dr (body.getD i em).atom;have m0:=(body.getD i em).size_eq;refine zJ Z Z (fun D=>?_) fun D=>?_
  .have D:(body.getD i em).kind=1:=by simpa using D
   rw[show ia ((body.take i).foldl ia d) (body.getD i em)=_ from am D]at j;refine gA Z (zp (SZ (body.getD i em).atom (by omega)) ?_);refine gA Z (bh (UO _ _ (by omega)) Z Z Z Z Z Z ?_);refine gA Z ⟨G,ac,[],mW Z Z (bv ⟨.of_eq (by rw[j];rfl),rfl,bv (bv (bv ac))⟩) Z⟩
  .have D: ¬(body.getD i em).kind=1:=by simpa using D
   rw[show ia ((body.take i).foldl ia d) (body.getD i em)=_ from be D]at j;refine gA Z ⟨G,ac,[],mW Z Z (bv ⟨.of_eq (by rw[j];rfl),rfl,bv (bv (bv ac))⟩) Z⟩
 have G:=co G;have e0:(body.take i).foldl ia d=body.foldl ia d:=lV G;rw[e0];refine gA Z ?_;refine ox (σ:={x:List aj×Bool×Nat//tp own outer body d=(if x.2.1=kw then AP own outer body (x.2.2+1) x.1 else x.1)∧(x.2.1=kw->bN (bL body) x.1<=x.2.2)∧x.1.length+bN (bL body) x.1<=(body.foldl ia d).length+bN (bL body) (body.foldl ia d)})
  (fun x=>⟨[(0,.iv (lits body)),(1,.iv (strs x.1.1)),(2,.iv (strs outer)),(3,pB own),(11,pB x.1.2.1)],[],0⟩) (fun x=>if x.1.2.1=kw then bN (bL body) x.1.1+1 else 0)
  ⟨(body.foldl ia d,kw,3*body.length),by simp[tp],fun _=>by dsimp only;omega,YY _⟩ [] (mW Z Z (bv (bv (bv (bv ⟨.rz Z,rfl,ac⟩)))) Z) ?_
 rintro⟨⟨k,more,f⟩,hx1,hx2,hx3⟩;dsimp only at hx1 hx2 hx3 ⊢;refine zJ Z Z (fun D=>?_) fun D=>?_
 .subst D;rw[am Z]at hx1;have g0:=hx2 Z;refine gA Z ?_;refine az 0 body.length (YZ _) (fun i=>⟨[(0,.iv (lits body)),(1,.iv (strs ((body.take i).foldl (stepG own outer) (k,lc)).1)),(2,.iv (strs outer)),(3,pB own),(11,pB ((body.take i).foldl (stepG own outer) (k,lc)).2),(12,pI i)],[],0⟩) (fun _=>True) [] ac
   (mW Z Z (bv (bv (bv (bv ⟨.rz Z,rfl,bv trivial⟩)))) Z) fun i hi _=>?_
  have B:=EA (own:=own) (outer:=outer) (c:=bL body) (body:=body.take i) (a:=(k,lc)) fun l hl v hv=>rG (abk hl) hv;dsimp only at B;refine zJ Z Z (fun A=>?_) fun A=>?_
  .have A:=ci A;have j:=cH (g:=stepG own outer) (b:=(k,lc)) A;generalize f0:(body.take i).foldl (stepG own outer) (k,lc)=ka at B j ⊢;have k0:=Lit.aI body i A;have a0:=(body.getD i em).fz;refine gA Z (zp (Yu (body.getD i em) ka.1 (by omega)) ?_);refine zJ Z Z (fun S=>?_) fun S=>?_
   .subst S;refine zJ Z Z (fun J=>?_) fun J=>?_
    .have J:(body.getD i em).kind=4:=by simpa using J
     have y:fD kw outer ka.1 (body.getD i em)=((body.getD i em).a7,sv (body.getD i em).agg ka.1 outer):=am ⟨rfl,J⟩;refine gA Z (zp (Yt (body.getD i em).agg ka.1 outer (by omega)) ?_);refine zJ Z Z (fun F=>?_) fun F=>?_
     .have u:stepG kw outer ka (body.getD i em)=(b6 ka.1 (body.getD i em).a7,kw):=by unfold stepG;rw[y,am F]
      rw[u]at j;refine gA Z (bh (No ka.1 _ (by omega)) Z Z Z Z Z Z ?_);refine gA Z ⟨A,ac,[],mW Z Z (bv ⟨.of_eq (by rw[j];rfl),rfl,bv (bv ⟨.rz (by rw[j]),rfl,bv ac⟩)⟩) Z⟩
     .have u:stepG kw outer ka (body.getD i em)=ka:=by unfold stepG;rw[y,be (by rw[F];simp)]
      rw[u]at j;refine gA Z ⟨A,ac,[],mW Z Z (bv ⟨.of_eq (by rw[j];rfl),rfl,bv (bv ⟨.of_eq (by rw[j];rfl),rfl,bv ac⟩)⟩) Z⟩
    .have J: ¬(body.getD i em).kind=4:=by simpa using J
     have y:fD kw outer ka.1 (body.getD i em)=kg (body.getD i em) ka.1:=be (fun h=>J h.2);refine zJ Z Z (fun F=>?_) fun F=>?_
     .have u:stepG kw outer ka (body.getD i em)=(b6 ka.1 (kg (body.getD i em) ka.1).1,kw):=by unfold stepG;rw[y,am F]
      rw[u]at j;refine gA Z (bh (No ka.1 _ (by omega)) Z Z Z Z Z Z ?_);refine gA Z ⟨A,ac,[],mW Z Z (bv ⟨.of_eq (by rw[j];rfl),rfl,bv (bv ⟨.rz (by rw[j]),rfl,bv ac⟩)⟩) Z⟩
     .have u:stepG kw outer ka (body.getD i em)=ka:=by unfold stepG;rw[y,be (by rw[F];simp)]
      rw[u]at j;refine gA Z ⟨A,ac,[],mW Z Z (bv ⟨.of_eq (by rw[j];rfl),rfl,bv (bv ⟨.of_eq (by rw[j];rfl),rfl,bv ac⟩)⟩) Z⟩
   .have S:own=lc:=S;subst S;have y:fD lc outer ka.1 (body.getD i em)=kg (body.getD i em) ka.1:=be (fun h=>by cases h.1);refine zJ Z Z (fun F=>?_) fun F=>?_
    .have u:stepG lc outer ka (body.getD i em)=(b6 ka.1 (kg (body.getD i em) ka.1).1,kw):=by unfold stepG;rw[y,am F]
     rw[u]at j;refine gA Z (bh (No ka.1 _ (by omega)) Z Z Z Z Z Z ?_);refine gA Z ⟨A,ac,[],mW Z Z (bv ⟨.of_eq (by rw[j];rfl),rfl,bv (bv ⟨.rz (by rw[j]),rfl,bv ac⟩)⟩) Z⟩
    .have u:stepG lc outer ka (body.getD i em)=ka:=by unfold stepG;rw[y,be (by rw[F];simp)]
     rw[u]at j;refine gA Z ⟨A,ac,[],mW Z Z (bv ⟨.of_eq (by rw[j];rfl),rfl,bv (bv ⟨.of_eq (by rw[j];rfl),rfl,bv ac⟩)⟩) Z⟩
  .have A:=co A;have e1:(body.take i).foldl (stepG own outer) (k,lc)=nK own outer body k:=lV A;rw[e1]at B ⊢;refine gA Z ?_;refine⟨⟨((nK own outer body k).1,(nK own outer body k).2,f-1),?_,fun I=>?_,by dsimp only;omega⟩,[],?_,mW Z Z (bv (bv (bv (bv (bv ac))))) Z⟩
   .dsimp only;rw[hx1,yl];by_cases I:(nK own outer body k).2=kw
    .have:=B.2.2 I;have Y:f-1+1=f:=by simp at this;omega
     rw[am I,am I,Y]
    .rw[be I,be I]
   .have:=B.2.2 I;simp at this;dsimp only;omega
   .dsimp only;split
    .rename_i I;have:=B.2.2 I;simp at this;simp;omega
    .simp
 .subst D;rw[be (by simp)]at hx1;refine gA Z (zL (.of_eq ?_));rw[hx1];rfl
def gj(may:Expr->Bool)(occ:List aj)(l:Lit):aj×Bool:=
 if¬l.kind=3∨ ¬l.op=1 then(YW,lc)
 else if l.left.kind=1∧aE occ l.left.var=lc∧may l.right=kw then(l.left.var,kw)
 else if l.right.kind=1∧aE occ l.right.var=lc∧may l.left=kw then(l.right.var,kw)
 else(YW,lc)
theorem cG{occ:List aj}{s:aj}:aE occ s=!li (bU .str (aC occ) s 0=0):=by
 rw[bB];by_cases h:s∈occ
 .have:=oC.2 h;rw[aM.2 h];simp;omega
 .rw[dY.2 h,rF.2 h];rfl
def c7(occ:List aj)(e:Expr):Bool:=li (e.kind=2)||(li (e.kind=1)&&aE occ e.var)
theorem fO{a b:Bool}(h:a=b):pB a=pB b:=by rw[h]
theorem d76(occ:List aj)(e:Expr)(hb:e.size<=1000000000000):bV prog 127 [ag e.c,.ptr 1 0] [ct (aC occ),.cells [.mp 0]] (pB (c7 occ e)) [(0,io (ct (aC occ))),(1,io (.cells [.mp 0]))] 2:=by
 have b:=bB occ e.var;have d:=cG (occ:=occ) (s:=e.var);refine aB ab func127 Z (by decide) ntmps127 Z (by simp) ?_
 repeat' (first
  |(refine gA Z (zI (fun _=>?_) (fun _=>?_)))
  |fail)
 all_goals first
  |(refine gA Z (eV [] (.inr Z) Z (zM ⟨.of_eq (fO (a:=kw) ?_),rfl,ac⟩ (zC (zO ac))));simp_all [c7];done)
  |(refine gA Z (eV [] (.inr Z) Z (zM ⟨.of_eq (fO (a:=lc) ?_),rfl,ac⟩ (zC (zO ac))));simp_all [c7];done)
  |(refine gA Z (eV [] (.inr Z) Z (zM ⟨.of_eq (fO (a:=li (bU .str (aC occ) e.var 0>0)) ?_),rfl,ac⟩ (zC (zO ac))));rw[c7,d,b];simp_all;by_cases j:rS occ e.var=0<;>simp[j]<;>omega)
theorem c77(a:eL):Pure prog 128 [ag a.c] (pB lc):=by
 refine ah ab func128 Z (by decide) ntmps128 Z (by simp) Z ?_;exact zU Z
theorem Yg(a:eL):Pure prog 229 [ag a.c] (pB lc):=by
 refine ah ab func229 Z (by decide) ntmps229 Z (by simp) Z ?_;exact zU Z
def iZ(out occ:List aj)(a:eL):Bool:=(bb a).all fun x=>li (x=a.var)||(!aE out x||aE occ x)
theorem d126(r:ae)(occ:List aj)(a:eL)(hb:a.size<=1000000000000):bV prog 228 [ag a.c,.ptr 1 0,.ptr 2 0] [ct (aC occ),.cells [.iv (c9 r)],.cells [.mp 0]] (pB (iZ (ay r) occ a)) [(0,io (ct (aC occ))),(1,io (.cells [.iv (c9 r)])),(2,io (.cells [.mp 0]))] 3:=by
 refine aB ab func228 Z (by decide) ntmps228 Z (by simp) ?_;refine gA Z (zq [] (d127 a hb) ?_);refine gA Z ?_;refine jv (aC (bb a)) (fun u=>⟨[(1,.ptr 1 0),(2,.ptr 2 0),(3,.ptr 3 0),(8,.ptr 5 0)],[(0,io (ct (aC occ))),(1,io (.cells [.iv (c9 r)])),(2,io (.cells [.mp 0])),(3,io (an a.c)),(5,io (.cC .str A5 (aC (bb a)) u jp))],6⟩) (fun u=> ∀j∈u,∀x,(aC (bb a))[j]? =io x->(li (x.1=a.var)||(!aE (ay r) x.1||aE occ x.1))=kw) [] (by simp)
  (zW (zC ⟨⟨_,rfl,.of_eq Z⟩,YP Z,rfl,⟨_,rfl,.of_eq Z⟩,YP Z,rfl,zK (hI Z Z (.inl Z) Z trivial)⟩)) fun u G=>?_
 refine nS Z ac (fU Z Z Z Z Z (by decide) (fun b=>?_) fun j x d A=>?_)
 .refine gA Z (zD [] Z (zM ⟨.of_eq (fO (a:=kw) (Zj.2 fun t I=>all_keys (p:=fun t=>(li (t=a.var)||(!aE (ay r) t||aE occ t))=kw) b G t I).symm),rfl,ac⟩ (zC ⟨⟨_,rfl,.of_eq Z⟩,YP Z,rfl,⟨_,rfl,.of_eq Z⟩,YP Z,rfl,ac⟩)))
 .have more:(li (x.1=a.var)||(!aE (ay r) x.1||aE occ x.1))=kw-> ∀i∈j::u,∀x,(aC (bb a))[i]? =io x->(li (x.1=a.var)||(!aE (ay r) x.1||aE occ x.1))=kw:=fun h i hi y B=>by
   rcases Za.1 hi with rfl|hi
   .rw[d]at B;cases B;exact h
   .exact G i hi y B
  have D:=cG (occ:=ay r) (s:=x.1);have F:=cG (occ:=occ) (s:=x.1);have J:=bB (ay r) x.1;have S:=bB occ x.1;refine zJ Z Z (fun g1=>?_) fun g1=>?_
  .have g1:li (x.1=a.var)=lc:=by simpa using g1
   refine zJ Z Z (fun g2=>?_) fun g2=>?_
   .have g2:aE (ay r) x.1=kw:=by
     have:=zT g2;rw[D];simp;omega
    refine zJ Z Z (fun g3=>?_) fun g3=>?_
    .have g3:aE occ x.1=lc:=by rw[F,g3];rfl
     refine gA Z (zD [] Z (zM ⟨.of_eq (fO (a:=lc) (aaE.2 ⟨x.1,uj d,by rw[g1,g2,g3];simp⟩).symm),rfl,ac⟩ (zC ⟨⟨_,rfl,.of_eq Z⟩,YP Z,rfl,⟨_,rfl,.of_eq Z⟩,YP Z,rfl,ac⟩)))
    .have g3:aE occ x.1=kw:=by rw[F,g3];rfl
     refine gA Z ⟨j,x,d,A,more (by rw[g3];simp),[],zW (zC ⟨⟨_,rfl,.of_eq Z⟩,YP Z,rfl,⟨_,rfl,.of_eq Z⟩,YP Z,rfl,zK (hI Z Z (.inr Z) Z ac)⟩)⟩
   .have g2:aE (ay r) x.1=lc:=by
     have:=zF g2;rw[D];simp;omega
    refine gA Z ⟨j,x,d,A,more (by rw[g2];simp),[],zW (zC ⟨⟨_,rfl,.of_eq Z⟩,YP Z,rfl,⟨_,rfl,.of_eq Z⟩,YP Z,rfl,zK (hI Z Z (.inr Z) Z ac)⟩)⟩
  .have g1:li (x.1=a.var)=kw:=by simpa using g1
   refine gA Z ⟨j,x,d,A,more (by rw[g1];simp),[],zW (zC ⟨⟨_,rfl,.of_eq Z⟩,YP Z,rfl,⟨_,rfl,.of_eq Z⟩,YP Z,rfl,zK (hI Z Z (.inr Z) Z ac)⟩)⟩
def my(may:Expr->Bool)(more:eL->Bool)(occ:List aj)(l:Lit):Option aj:=
 if(gj may occ l).2=kw then io (gj may occ l).1 else if l.kind=4∧aE occ l.a7=lc∧more l.agg=kw then io l.a7 else jp
def cL(may:Expr->Bool)(more:eL->Bool)(occ:List aj):List Lit->Option aj
 | []=>jp
 |l::r=>match my may more occ l with
  |some v=>io v
  |none=>cL may more occ r
def dS(may:List aj->Expr->Bool)(more:List aj->eL->Bool)(body:List Lit):Nat->List aj->List aj
 |0,occ=>occ
 |n+1,occ=>match cL (may occ) (more occ) occ body with
  |some v=>dS may more body n (occ++ [v])
  |none=>occ
def bQ(l:Lit):List aj:=if l.kind=1 then cI l.atom else[]
def cQ(may:List aj->Expr->Bool)(more:List aj->eL->Bool)(body:List Lit)(occ:List aj):List aj:=dS may more body (3*body.length+1) (occ++body.flatMap bQ)
theorem fX{may:List aj->Expr->Bool}{more:List aj->eL->Bool}{body:List Lit}{n:Nat}{occ:List aj}{v:aj}(h:cL (may occ) (more occ) occ body=io v):dS may more body (n+1) occ=dS may more body n (occ++ [v]):=by
 simp only[dS,h]
theorem fY{may:List aj->Expr->Bool}{more:List aj->eL->Bool}{body:List Lit}{n:Nat}{occ:List aj}(h:cL (may occ) (more occ) occ body=jp):dS may more body (n+1) occ=occ:=by
 simp only[dS,h]
theorem nT{may:Expr->Bool}{more:eL->Bool}{occ:List aj}: ∀{l m:List Lit},cL may more occ l=jp->cL may more occ (l++m)=cL may more occ m
 | [],_,_=>rfl
 |x::r,m,h=>by
  simp only[cL]at h;split at h
  .cases h
  .rename_i b;simp only[aat,cL,b];exact nT h
theorem eT{may:Expr->Bool}{more:eL->Bool}{occ:List aj}{l:List Lit}{i:Nat}(h:cL may more occ (l.take i)=jp)(hi:i<l.length)(b:my may more occ (l.getD i em)=jp):cL may more occ (l.take (i+1))=jp:=by
 rw[bz hi,nT h];simp only[cL,b]
theorem tr{may:Expr->Bool}{more:eL->Bool}{occ:List aj}{l:List Lit}{i:Nat}{v:aj}(h:cL may more occ (l.take i)=jp)(hi:i<l.length)(b:my may more occ (l.getD i em)=io v):cL may more occ l=io v:=by
 have e:l=l.take i++(l.getD i em::l.drop (i+1)):=by
  rw[YR,YU hi,aah,List.getElem_cons_drop,List.take_append_drop]
 rw[e,nT h];simp only[cL,b]
theorem xY{may:Expr->Bool}{more:eL->Bool}{occ:List aj}{l:Lit}{v:aj}(h:my may more occ l=io v):v∈ [l.left.var,l.right.var,l.a7]∧v∉occ:=by
 unfold my at h;split at h
 .rename_i b;simp only[YT]at h;subst h;unfold gj at b ⊢;split at b
  .cases b
  .rename_i u;rw[be u];split at b
   .rename_i d;rw[am d];exact⟨by simp,dY.1 d.2.1⟩
   .rename_i d;rw[be d];split at b
    .rename_i j;rw[am j];exact⟨by simp,dY.1 j.2.1⟩
    .cases b
 .split at h
  .rename_i d;simp only[YT]at h;subst h;exact⟨by simp,dY.1 d.2.1⟩
  .cases h
theorem mN{may:Expr->Bool}{more:eL->Bool}{occ:List aj}{v:aj}: ∀{l:List Lit},cL may more occ l=io v->v∈bL l∧v∉occ
 | [],h=>by cases h
 |x::r,h=>by
  simp only[cL]at h;split at h
  .rename_i w j;simp only[YT]at h;subst h;obtain⟨b,d⟩:=xY j;exact⟨rG Y8 b,d⟩
  .obtain⟨b,d⟩:=mN h;refine⟨?_,d⟩;simp only[bL,ZF,Y6]at b ⊢;exact .inr b
theorem hZ: ∀l:List Lit,(l.flatMap bQ).length<=Lit.aA l
 | []=>by simp
 |e::r=>by
  have b:=hZ r;have d:(bQ e).length<=e.size:=by
   have:=iA e.atom;have:=e.size_eq;unfold bQ;split
   .omega
   .simp
  rw[ZF,YS];simp only[Lit.aA];omega
theorem WI(occ:List aj)(l:Lit)(hb:l.size<=100000000000):bV prog 172 [ag l.c,.dq (.func 227) [.mp 0] [],.mp 0] [ct (aC occ)] (.bM [pS (gj (aU occ) occ l).1,pB (gj (aU occ) occ l).2]) [(0,io (ct (aC occ)))] 1:=by
 have y:=l.size_eq;have u:=bB occ l.left.var;have x:=bB occ l.right.var;refine aB ab func172 Z (by decide) ntmps172 Z (by simp) ?_;refine zE Z Z (fun b=>?_) fun b=>?_
 .have b: ¬l.kind=3:=by simpa using b
  refine gA Z (zD [] Z (zM ⟨.of_eq (jO (a:=(YW,lc)) (by rw[gj,am (.inl b)])),rfl,ac⟩ (zC ac)))
 have b:l.kind=3:=by simpa using b
 refine zJ Z Z (fun d=>?_) fun d=>?_
 .have d: ¬l.op=1:=by simpa using d
  refine gA Z (zD [] Z (zM ⟨.of_eq (jO (a:=(YW,lc)) (by rw[gj,am (.inr d)])),rfl,ac⟩ (zC ac)))
 have d:l.op=1:=by simpa using d
 have j:gj (aU occ) occ l=if l.left.kind=1∧aE occ l.left.var=lc∧(aU occ) l.right=kw then(l.left.var,kw) else if l.right.kind=1∧aE occ l.right.var=lc∧(aU occ) l.left=kw then(l.right.var,kw) else(YW,lc):=by
  rw[gj,be (by simp[b,d])]
 repeat' (first
  |(refine gA Z (zI (fun _=>?_) (fun _=>?_)))
  |(refine gA Z (bI [0] (d125 occ l.left (by omega)) Z Z Z Z Z Z Z Z ?_))
  |(refine gA Z (bI [0] (d125 occ l.right (by omega)) Z Z Z Z Z Z Z Z ?_))
  |fail)
 all_goals first
  |(refine gA Z (eV [] (.inr Z) Z (zM ⟨.of_eq (jO (a:=(YW,lc)) ?_),rfl,ac⟩ (zC ac)));rw[j];simp only[cG] at*;simp_all;done)
  |(refine gA Z (eV [] (.inr Z) Z (zM ⟨.of_eq (jO (a:=(l.left.var,kw)) ?_),rfl,ac⟩ (zC ac)));rw[j];simp only[cG] at*;simp_all;done)
  |(refine gA Z (eV [] (.inr Z) Z (zM ⟨.of_eq (jO (a:=(l.right.var,kw)) ?_),rfl,ac⟩ (zC ac)));rw[j];simp only[cG] at*;simp_all;done)
  |(exfalso;simp_all;done)
theorem XM(occ:List aj)(body:List Lit)(hb:occ.length+8*Lit.aA body<=100000000000):bV prog 126 [.iv (lits body),.mp 0,.dq (.func 227) [.mp 0] [],.dq (.func 229) [] []] [ct (aC occ)] (.bM []) [(0,io (ct (aC (cQ (fun occ=>aU occ) (fun occ=>fun _=>lc) body occ))))] 1:=by
 have f0:=Lit.au body;have k0:=hZ body;have g0:=jN body;have j0:=oW (bL body) (occ++body.flatMap bQ);refine aB ab func126 Z (by decide) ntmps126 Z (by simp) ?_;refine gA Z ?_;refine az 0 body.length (YZ _) (fun i=>⟨[(0,.iv (lits body)),(1,.mp 0),(2,.dq (.func 227) [.mp 0] []),(3,.dq (.func 229) [] []),(14,.iv (lits body)),(15,pI body.length),(16,pI i)],[(0,io (ct (aC (occ++(body.take i).flatMap bQ))))],1⟩) (fun _=>True) [] ac
  (zW (hM Z (by simp) Z trivial)) fun i hi _=>?_
 refine zJ Z Z (fun j=>?_) fun j=>?_
 .have j:=ci j;have G:=bG (f:=bQ) j;have hn:=Lit.b3 body i j;have hv:=hZ (body.take i);have n0:=(body.getD i em).size_eq;refine zJ Z Z (fun u=>?_) fun u=>?_
  .have u:(body.getD i em).kind=1:=by simpa using u
   rw[show bQ (body.getD i em)=_ from am u]at G;refine gA Z (zq [0] (d88 (occ++(body.take i).flatMap bQ) (body.getD i em).atom (by rw[YS];omega)) ?_);refine gA Z ⟨j,ac,[],zW (hM Z (by rw[G,Y3]) Z ac)⟩
  .have u: ¬(body.getD i em).kind=1:=by simpa using u
   rw[show bQ (body.getD i em)=_ from be u,Zv]at G;refine gA Z ⟨j,ac,[],zW (hM Z (by rw[G]) Z ac)⟩
 have j:=co j;have e0:body.take i=body:=Y1 j;rw[e0];refine gA Z ?_;refine ox (σ:={x:List aj×Nat//cQ (fun occ=>aU occ) (fun occ=>fun _=>lc) body occ=dS (fun occ=>aU occ) (fun occ=>fun _=>lc) body (x.2+1) x.1∧bN (bL body) x.1<=x.2∧x.1.length+bN (bL body) x.1<=(occ++body.flatMap bQ).length+bN (bL body) (occ++body.flatMap bQ)})
  (fun x=>⟨[(0,.iv (lits body)),(1,.mp 0),(2,.dq (.func 227) [.mp 0] []),(3,.dq (.func 229) [] [])],[(0,io (ct (aC x.1.1)))],1⟩) (fun x=>bN (bL body) x.1.1)
  ⟨(occ++body.flatMap bQ,3*body.length),rfl,by dsimp only;omega,YY _⟩ [] (zW (zC trivial)) ?_
 rintro⟨⟨ok,f⟩,hx1,hx2,hx3⟩;dsimp only at hx1 hx2 hx3 ⊢;rw[YS]at hx3;refine gA Z ?_;refine az 0 body.length (YZ _) (fun i=>⟨[(0,.iv (lits body)),(1,.mp 0),(2,.dq (.func 227) [.mp 0] []),(3,.dq (.func 229) [] []),(28,.iv (lits body)),(29,pI body.length),(30,pI i)],[(0,io (ct (aC ok)))],1⟩) (fun i=>cL ((fun occ=>aU occ) ok) ((fun occ=>fun _=>lc) ok) ok (body.take i)=jp) [] Z
  (zW (zC trivial)) fun i hi D=>?_
 refine zJ Z Z (fun b=>?_) fun b=>?_
 .have b:=ci b;have m0:=Lit.aI body i b;have d0:=(body.getD i em).fz;have d: ∀v,my ((fun occ=>aU occ) ok) ((fun occ=>fun _=>lc) ok) ok (body.getD i em)=io v->cQ (fun occ=>aU occ) (fun occ=>fun _=>lc) body occ=dS (fun occ=>aU occ) (fun occ=>fun _=>lc) body (f-1+1) (ok++ [v])∧bN (bL body) (ok++ [v])<=f-1∧
    (ok++ [v]).length+bN (bL body) (ok++ [v])<=(occ++body.flatMap bQ).length+bN (bL body) (occ++body.flatMap bQ)∧bN (bL body) (ok++ [v])<bN (bL body) ok:=by
   intro v hv;have hf:=tr D b hv;obtain⟨g1,g2⟩:=mN hf;have i0:=oV g1 g2;have c0:bN (bL body) (ok++ [v])=bN (bL body) (b6 ok v):=by
    unfold bN;congr 2
    funext x
    congr 1;rw[ZE,aM,aM,cq,Y6,Y4]
   have J:f-1+1=f:=by omega
   refine⟨?_,by omega,?_,by omega⟩
   .rw[hx1,fX hf,J]
   .rw[YS,YS,Zs];omega
  have a0:=bB ok (gj (aU ok) ok (body.getD i em)).1;have S:=eY ok (gj (aU ok) ok (body.getD i em)).1;have b0:=bB ok (body.getD i em).a7;have Y:=eY ok (body.getD i em).a7;refine gA Z (zq [0] (WI ok (body.getD i em) (by omega)) ?_);refine zJ Z Z (fun B=>?_) fun B=>?_
  .obtain⟨g1,g2,g3,g4⟩:=d _ (am B);refine gA Z ⟨⟨(_,f-1),g1,g2,g3⟩,[],g4,zW (hM Z (by dsimp only;rw[cR];rfl) Z ac)⟩
  .refine zJ Z Z (fun y=>?_) fun y=>?_
   .have y:(body.getD i em).kind=4:=by simpa using y
    refine zJ Z Z (fun A=>?_) fun A=>?_
    .have A:aE ok (body.getD i em).a7=lc:=by rw[cG];simpa using A
     refine gA Z (zp (Yg (body.getD i em).agg) ?_);refine zJ Z Z (fun I=>?_) fun I=>?_
     .obtain⟨g1,g2,g3,g4⟩:=d _ ((be (by rw[B];simp)).trans (am ⟨y,A,I⟩));refine gA Z ⟨⟨(_,f-1),g1,g2,g3⟩,[],g4,zW (hM Z (by dsimp only;rw[cR];rfl) Z ac)⟩
     .refine gA Z ?_;exact⟨b,eT D b ((be (by rw[B];simp)).trans (be (fun h=>nomatch (h.2.2.symm.trans I)))),[],zW (zC ac)⟩
    .have A:aE ok (body.getD i em).a7=kw:=by rw[cG];simpa using A
     refine gA Z ⟨b,eT D b ((be (by rw[B];simp)).trans (be (by rw[A];simp))),[],zW (zC ac)⟩
   .have y: ¬(body.getD i em).kind=4:=by simpa using y
    refine gA Z ⟨b,eT D b ((be (by rw[B];simp)).trans (be (fun h=>y h.1))),[],zW (zC ac)⟩
 .have b:=co b;rw[Y1 b]at D;have F:cQ (fun occ=>aU occ) (fun occ=>fun _=>lc) body occ=ok:=by rw[hx1,fY D]
  refine gA Z (zD [] Z (zW (hM Z (by rw[F]) Z ac)))
theorem WH(occ:List aj)(l:Lit)(hb:l.size<=100000000000):bV prog 172 [ag l.c,.dq (.func 127) [] [.ptr 1 0],.mp 0] [ct (aC occ),.cells [.mp 0]] (.bM [pS (gj (c7 occ) occ l).1,pB (gj (c7 occ) occ l).2]) [(0,io (ct (aC occ))),(1,io (.cells [.mp 0]))] 2:=by
 have y:=l.size_eq;have u:=bB occ l.left.var;have x:=bB occ l.right.var;refine aB ab func172 Z (by decide) ntmps172 Z (by simp) ?_;refine zE Z Z (fun b=>?_) fun b=>?_
 .have b: ¬l.kind=3:=by simpa using b
  refine gA Z (zD [] Z (zM ⟨.of_eq (jO (a:=(YW,lc)) (by rw[gj,am (.inl b)])),rfl,ac⟩ (zC (zO ac))))
 have b:l.kind=3:=by simpa using b
 refine zJ Z Z (fun d=>?_) fun d=>?_
 .have d: ¬l.op=1:=by simpa using d
  refine gA Z (zD [] Z (zM ⟨.of_eq (jO (a:=(YW,lc)) (by rw[gj,am (.inr d)])),rfl,ac⟩ (zC (zO ac))))
 have d:l.op=1:=by simpa using d
 have j:gj (c7 occ) occ l=if l.left.kind=1∧aE occ l.left.var=lc∧(c7 occ) l.right=kw then(l.left.var,kw) else if l.right.kind=1∧aE occ l.right.var=lc∧(c7 occ) l.left=kw then(l.right.var,kw) else(YW,lc):=by
  rw[gj,be (by simp[b,d])]
 repeat' (first
  |(refine gA Z (zI (fun _=>?_) (fun _=>?_)))
  |(refine gA Z (bI [0,1] (d76 occ l.left (by omega)) Z Z Z Z Z Z Z Z ?_))
  |(refine gA Z (bI [0,1] (d76 occ l.right (by omega)) Z Z Z Z Z Z Z Z ?_))
  |fail)
 all_goals first
  |(refine gA Z (eV [] (.inr Z) Z (zM ⟨.of_eq (jO (a:=(YW,lc)) ?_),rfl,ac⟩ (zC (zO ac))));rw[j];simp only[cG] at*;simp_all;done)
  |(refine gA Z (eV [] (.inr Z) Z (zM ⟨.of_eq (jO (a:=(l.left.var,kw)) ?_),rfl,ac⟩ (zC (zO ac))));rw[j];simp only[cG] at*;simp_all;done)
  |(refine gA Z (eV [] (.inr Z) Z (zM ⟨.of_eq (jO (a:=(l.right.var,kw)) ?_),rfl,ac⟩ (zC (zO ac))));rw[j];simp only[cG] at*;simp_all;done)
  |(exfalso;simp_all;done)
theorem XL(occ:List aj)(body:List Lit)(hb:occ.length+8*Lit.aA body<=100000000000):bV prog 126 [.iv (lits body),.mp 0,.dq (.func 127) [] [.ptr 1 0],.dq (.func 128) [] []] [ct (aC occ),.cells [.mp 0]] (.bM []) [(0,io (ct (aC (cQ (fun occ=>c7 occ) (fun occ=>fun _=>lc) body occ)))),(1,io (.cells [.mp 0]))] 2:=by
 have f0:=Lit.au body;have k0:=hZ body;have g0:=jN body;have j0:=oW (bL body) (occ++body.flatMap bQ);refine aB ab func126 Z (by decide) ntmps126 Z (by simp) ?_;refine gA Z ?_;refine az 0 body.length (YZ _) (fun i=>⟨[(0,.iv (lits body)),(1,.mp 0),(2,.dq (.func 127) [] [.ptr 1 0]),(3,.dq (.func 128) [] []),(14,.iv (lits body)),(15,pI body.length),(16,pI i)],[(0,io (ct (aC (occ++(body.take i).flatMap bQ)))),(1,io (.cells [.mp 0]))],2⟩) (fun _=>True) [] ac
  (zW (hM Z (by simp) Z (zO trivial))) fun i hi _=>?_
 refine zJ Z Z (fun j=>?_) fun j=>?_
 .have j:=ci j;have G:=bG (f:=bQ) j;have hn:=Lit.b3 body i j;have hv:=hZ (body.take i);have n0:=(body.getD i em).size_eq;refine zJ Z Z (fun u=>?_) fun u=>?_
  .have u:(body.getD i em).kind=1:=by simpa using u
   rw[show bQ (body.getD i em)=_ from am u]at G;refine gA Z (zq [0] (d88 (occ++(body.take i).flatMap bQ) (body.getD i em).atom (by rw[YS];omega)) ?_);refine gA Z ⟨j,ac,[],zW (hM Z (by rw[G,Y3]) Z (zO ac))⟩
  .have u: ¬(body.getD i em).kind=1:=by simpa using u
   rw[show bQ (body.getD i em)=_ from be u,Zv]at G;refine gA Z ⟨j,ac,[],zW (hM Z (by rw[G]) Z (zO ac))⟩
 have j:=co j;have e0:body.take i=body:=Y1 j;rw[e0];refine gA Z ?_;refine ox (σ:={x:List aj×Nat//cQ (fun occ=>c7 occ) (fun occ=>fun _=>lc) body occ=dS (fun occ=>c7 occ) (fun occ=>fun _=>lc) body (x.2+1) x.1∧bN (bL body) x.1<=x.2∧x.1.length+bN (bL body) x.1<=(occ++body.flatMap bQ).length+bN (bL body) (occ++body.flatMap bQ)})
  (fun x=>⟨[(0,.iv (lits body)),(1,.mp 0),(2,.dq (.func 127) [] [.ptr 1 0]),(3,.dq (.func 128) [] [])],[(0,io (ct (aC x.1.1))),(1,io (.cells [.mp 0]))],2⟩) (fun x=>bN (bL body) x.1.1)
  ⟨(occ++body.flatMap bQ,3*body.length),rfl,by dsimp only;omega,YY _⟩ [] (zW (zC (zO trivial))) ?_
 rintro⟨⟨ok,f⟩,hx1,hx2,hx3⟩;dsimp only at hx1 hx2 hx3 ⊢;rw[YS]at hx3;refine gA Z ?_;refine az 0 body.length (YZ _) (fun i=>⟨[(0,.iv (lits body)),(1,.mp 0),(2,.dq (.func 127) [] [.ptr 1 0]),(3,.dq (.func 128) [] []),(28,.iv (lits body)),(29,pI body.length),(30,pI i)],[(0,io (ct (aC ok))),(1,io (.cells [.mp 0]))],2⟩) (fun i=>cL ((fun occ=>c7 occ) ok) ((fun occ=>fun _=>lc) ok) ok (body.take i)=jp) [] Z
  (zW (zC (zO trivial))) fun i hi D=>?_
 refine zJ Z Z (fun b=>?_) fun b=>?_
 .have b:=ci b;have m0:=Lit.aI body i b;have d0:=(body.getD i em).fz;have d: ∀v,my ((fun occ=>c7 occ) ok) ((fun occ=>fun _=>lc) ok) ok (body.getD i em)=io v->cQ (fun occ=>c7 occ) (fun occ=>fun _=>lc) body occ=dS (fun occ=>c7 occ) (fun occ=>fun _=>lc) body (f-1+1) (ok++ [v])∧bN (bL body) (ok++ [v])<=f-1∧
    (ok++ [v]).length+bN (bL body) (ok++ [v])<=(occ++body.flatMap bQ).length+bN (bL body) (occ++body.flatMap bQ)∧bN (bL body) (ok++ [v])<bN (bL body) ok:=by
   intro v hv;have hf:=tr D b hv;obtain⟨g1,g2⟩:=mN hf;have i0:=oV g1 g2;have c0:bN (bL body) (ok++ [v])=bN (bL body) (b6 ok v):=by
    unfold bN;congr 2
    funext x
    congr 1;rw[ZE,aM,aM,cq,Y6,Y4]
   have J:f-1+1=f:=by omega
   refine⟨?_,by omega,?_,by omega⟩
   .rw[hx1,fX hf,J]
   .rw[YS,YS,Zs];omega
  have a0:=bB ok (gj (c7 ok) ok (body.getD i em)).1;have S:=eY ok (gj (c7 ok) ok (body.getD i em)).1;have b0:=bB ok (body.getD i em).a7;have Y:=eY ok (body.getD i em).a7;refine gA Z (zq [0,1] (WH ok (body.getD i em) (by omega)) ?_);refine zJ Z Z (fun B=>?_) fun B=>?_
  .obtain⟨g1,g2,g3,g4⟩:=d _ (am B);refine gA Z ⟨⟨(_,f-1),g1,g2,g3⟩,[],g4,zW (hM Z (by dsimp only;rw[cR];rfl) Z (zO ac))⟩
  .refine zJ Z Z (fun y=>?_) fun y=>?_
   .have y:(body.getD i em).kind=4:=by simpa using y
    refine zJ Z Z (fun A=>?_) fun A=>?_
    .have A:aE ok (body.getD i em).a7=lc:=by rw[cG];simpa using A
     refine gA Z (zp (c77 (body.getD i em).agg) ?_);refine zJ Z Z (fun I=>?_) fun I=>?_
     .obtain⟨g1,g2,g3,g4⟩:=d _ ((be (by rw[B];simp)).trans (am ⟨y,A,I⟩));refine gA Z ⟨⟨(_,f-1),g1,g2,g3⟩,[],g4,zW (hM Z (by dsimp only;rw[cR];rfl) Z (zO ac))⟩
     .refine gA Z ?_;exact⟨b,eT D b ((be (by rw[B];simp)).trans (be (fun h=>nomatch (h.2.2.symm.trans I)))),[],zW (zC (zO ac))⟩
    .have A:aE ok (body.getD i em).a7=kw:=by rw[cG];simpa using A
     refine gA Z ⟨b,eT D b ((be (by rw[B];simp)).trans (be (by rw[A];simp))),[],zW (zC (zO ac))⟩
   .have y: ¬(body.getD i em).kind=4:=by simpa using y
    refine gA Z ⟨b,eT D b ((be (by rw[B];simp)).trans (be (fun h=>y h.1))),[],zW (zC (zO ac))⟩
 .have b:=co b;rw[Y1 b]at D;have F:cQ (fun occ=>c7 occ) (fun occ=>fun _=>lc) body occ=ok:=by rw[hx1,fY D]
  refine gA Z (zD [] Z (zW (hM Z (by rw[F]) Z (zO ac))))
theorem WG(r:ae)(occ:List aj)(l:Lit)(hb:l.size<=100000000000):bV prog 172 [ag l.c,.dq (.func 227) [.mp 0] [],.mp 0] [ct (aC occ),.cells [.iv (c9 r)],.cells [.mp 0]] (.bM [pS (gj (aU occ) occ l).1,pB (gj (aU occ) occ l).2]) [(0,io (ct (aC occ))),(1,io (.cells [.iv (c9 r)])),(2,io (.cells [.mp 0]))] 3:=by
 have y:=l.size_eq;have u:=bB occ l.left.var;have x:=bB occ l.right.var;refine aB ab func172 Z (by decide) ntmps172 Z (by simp) ?_;refine zE Z Z (fun b=>?_) fun b=>?_
 .have b: ¬l.kind=3:=by simpa using b
  refine gA Z (zD [] Z (zM ⟨.of_eq (jO (a:=(YW,lc)) (by rw[gj,am (.inl b)])),rfl,ac⟩ (zC ⟨⟨_,rfl,.of_eq Z⟩,YP Z,rfl,⟨_,rfl,.of_eq Z⟩,YP Z,rfl,ac⟩)))
 have b:l.kind=3:=by simpa using b
 refine zJ Z Z (fun d=>?_) fun d=>?_
 .have d: ¬l.op=1:=by simpa using d
  refine gA Z (zD [] Z (zM ⟨.of_eq (jO (a:=(YW,lc)) (by rw[gj,am (.inr d)])),rfl,ac⟩ (zC ⟨⟨_,rfl,.of_eq Z⟩,YP Z,rfl,⟨_,rfl,.of_eq Z⟩,YP Z,rfl,ac⟩)))
 have d:l.op=1:=by simpa using d
 have j:gj (aU occ) occ l=if l.left.kind=1∧aE occ l.left.var=lc∧(aU occ) l.right=kw then(l.left.var,kw) else if l.right.kind=1∧aE occ l.right.var=lc∧(aU occ) l.left=kw then(l.right.var,kw) else(YW,lc):=by
  rw[gj,be (by simp[b,d])]
 repeat' (first
  |(refine gA Z (zI (fun _=>?_) (fun _=>?_)))
  |(refine gA Z (bI [0] (d125 occ l.left (by omega)) Z Z Z Z Z Z Z Z ?_))
  |(refine gA Z (bI [0] (d125 occ l.right (by omega)) Z Z Z Z Z Z Z Z ?_))
  |fail)
 all_goals first
  |(refine gA Z (eV [] (.inr Z) Z (zM ⟨.of_eq (jO (a:=(YW,lc)) ?_),rfl,ac⟩ (zC ⟨⟨_,rfl,.of_eq Z⟩,YP Z,rfl,⟨_,rfl,.of_eq Z⟩,YP Z,rfl,ac⟩)));rw[j];simp only[cG] at*;simp_all;done)
  |(refine gA Z (eV [] (.inr Z) Z (zM ⟨.of_eq (jO (a:=(l.left.var,kw)) ?_),rfl,ac⟩ (zC ⟨⟨_,rfl,.of_eq Z⟩,YP Z,rfl,⟨_,rfl,.of_eq Z⟩,YP Z,rfl,ac⟩)));rw[j];simp only[cG] at*;simp_all;done)
  |(refine gA Z (eV [] (.inr Z) Z (zM ⟨.of_eq (jO (a:=(l.right.var,kw)) ?_),rfl,ac⟩ (zC ⟨⟨_,rfl,.of_eq Z⟩,YP Z,rfl,⟨_,rfl,.of_eq Z⟩,YP Z,rfl,ac⟩)));rw[j];simp only[cG] at*;simp_all;done)
  |(exfalso;simp_all;done)
theorem XK(r:ae)(occ:List aj)(body:List Lit)(hb:occ.length+8*Lit.aA body<=100000000000):bV prog 126 [.iv (lits body),.mp 0,.dq (.func 227) [.mp 0] [],.dq (.func 228) [] [.ptr 1 0,.ptr 2 0]] [ct (aC occ),.cells [.iv (c9 r)],.cells [.mp 0]] (.bM []) [(0,io (ct (aC (cQ (fun occ=>aU occ) (fun occ=>iZ (ay r) occ) body occ)))),(1,io (.cells [.iv (c9 r)])),(2,io (.cells [.mp 0]))] 3:=by
 have f0:=Lit.au body;have k0:=hZ body;have g0:=jN body;have j0:=oW (bL body) (occ++body.flatMap bQ);refine aB ab func126 Z (by decide) ntmps126 Z (by simp) ?_;refine gA Z ?_;refine az 0 body.length (YZ _) (fun i=>⟨[(0,.iv (lits body)),(1,.mp 0),(2,.dq (.func 227) [.mp 0] []),(3,.dq (.func 228) [] [.ptr 1 0,.ptr 2 0]),(14,.iv (lits body)),(15,pI body.length),(16,pI i)],[(0,io (ct (aC (occ++(body.take i).flatMap bQ)))),(1,io (.cells [.iv (c9 r)])),(2,io (.cells [.mp 0]))],3⟩) (fun _=>True) [] ac
  (zW (hM Z (by simp) Z ⟨⟨_,rfl,.of_eq Z⟩,YP Z,rfl,⟨_,rfl,.of_eq Z⟩,YP Z,rfl,ac⟩)) fun i hi _=>?_
 refine zJ Z Z (fun j=>?_) fun j=>?_
 .have j:=ci j;have G:=bG (f:=bQ) j;have hn:=Lit.b3 body i j;have hv:=hZ (body.take i);have n0:=(body.getD i em).size_eq;refine zJ Z Z (fun u=>?_) fun u=>?_
  .have u:(body.getD i em).kind=1:=by simpa using u
   rw[show bQ (body.getD i em)=_ from am u]at G;refine gA Z (zq [0] (d88 (occ++(body.take i).flatMap bQ) (body.getD i em).atom (by rw[YS];omega)) ?_);refine gA Z ⟨j,ac,[],zW (hM Z (by rw[G,Y3]) Z ⟨⟨_,rfl,.of_eq Z⟩,YP Z,rfl,⟨_,rfl,.of_eq Z⟩,YP Z,rfl,ac⟩)⟩
  .have u: ¬(body.getD i em).kind=1:=by simpa using u
   rw[show bQ (body.getD i em)=_ from be u,Zv]at G;refine gA Z ⟨j,ac,[],zW (hM Z (by rw[G]) Z ⟨⟨_,rfl,.of_eq Z⟩,YP Z,rfl,⟨_,rfl,.of_eq Z⟩,YP Z,rfl,ac⟩)⟩
 have j:=co j;have e0:body.take i=body:=Y1 j;rw[e0];refine gA Z ?_;refine ox (σ:={x:List aj×Nat//cQ (fun occ=>aU occ) (fun occ=>iZ (ay r) occ) body occ=dS (fun occ=>aU occ) (fun occ=>iZ (ay r) occ) body (x.2+1) x.1∧bN (bL body) x.1<=x.2∧x.1.length+bN (bL body) x.1<=(occ++body.flatMap bQ).length+bN (bL body) (occ++body.flatMap bQ)})
  (fun x=>⟨[(0,.iv (lits body)),(1,.mp 0),(2,.dq (.func 227) [.mp 0] []),(3,.dq (.func 228) [] [.ptr 1 0,.ptr 2 0])],[(0,io (ct (aC x.1.1))),(1,io (.cells [.iv (c9 r)])),(2,io (.cells [.mp 0]))],3⟩) (fun x=>bN (bL body) x.1.1)
  ⟨(occ++body.flatMap bQ,3*body.length),rfl,by dsimp only;omega,YY _⟩ [] (zW (zC ⟨⟨_,rfl,.of_eq Z⟩,YP Z,rfl,⟨_,rfl,.of_eq Z⟩,YP Z,rfl,ac⟩)) ?_
 rintro⟨⟨ok,f⟩,hx1,hx2,hx3⟩;dsimp only at hx1 hx2 hx3 ⊢;rw[YS]at hx3;refine gA Z ?_;refine az 0 body.length (YZ _) (fun i=>⟨[(0,.iv (lits body)),(1,.mp 0),(2,.dq (.func 227) [.mp 0] []),(3,.dq (.func 228) [] [.ptr 1 0,.ptr 2 0]),(28,.iv (lits body)),(29,pI body.length),(30,pI i)],[(0,io (ct (aC ok))),(1,io (.cells [.iv (c9 r)])),(2,io (.cells [.mp 0]))],3⟩) (fun i=>cL ((fun occ=>aU occ) ok) ((fun occ=>iZ (ay r) occ) ok) ok (body.take i)=jp) [] Z
  (zW (zC ⟨⟨_,rfl,.of_eq Z⟩,YP Z,rfl,⟨_,rfl,.of_eq Z⟩,YP Z,rfl,ac⟩)) fun i hi D=>?_
 refine zJ Z Z (fun b=>?_) fun b=>?_
 .have b:=ci b;have m0:=Lit.aI body i b;have d0:=(body.getD i em).fz;have d: ∀v,my ((fun occ=>aU occ) ok) ((fun occ=>iZ (ay r) occ) ok) ok (body.getD i em)=io v->cQ (fun occ=>aU occ) (fun occ=>iZ (ay r) occ) body occ=dS (fun occ=>aU occ) (fun occ=>iZ (ay r) occ) body (f-1+1) (ok++ [v])∧bN (bL body) (ok++ [v])<=f-1∧
    (ok++ [v]).length+bN (bL body) (ok++ [v])<=(occ++body.flatMap bQ).length+bN (bL body) (occ++body.flatMap bQ)∧bN (bL body) (ok++ [v])<bN (bL body) ok:=by
   intro v hv;have hf:=tr D b hv;obtain⟨g1,g2⟩:=mN hf;have i0:=oV g1 g2;have c0:bN (bL body) (ok++ [v])=bN (bL body) (b6 ok v):=by
    unfold bN;congr 2
    funext x
    congr 1;rw[ZE,aM,aM,cq,Y6,Y4]
   have J:f-1+1=f:=by omega
   refine⟨?_,by omega,?_,by omega⟩
   .rw[hx1,fX hf,J]
   .rw[YS,YS,Zs];omega
  have a0:=bB ok (gj (aU ok) ok (body.getD i em)).1;have S:=eY ok (gj (aU ok) ok (body.getD i em)).1;have b0:=bB ok (body.getD i em).a7;have Y:=eY ok (body.getD i em).a7;refine gA Z (zq [0,1,2] (WG r ok (body.getD i em) (by omega)) ?_);refine zJ Z Z (fun B=>?_) fun B=>?_
  .obtain⟨g1,g2,g3,g4⟩:=d _ (am B);refine gA Z ⟨⟨(_,f-1),g1,g2,g3⟩,[],g4,zW (hM Z (by dsimp only;rw[cR];rfl) Z ⟨⟨_,rfl,.of_eq Z⟩,YP Z,rfl,⟨_,rfl,.of_eq Z⟩,YP Z,rfl,ac⟩)⟩
  .refine zJ Z Z (fun y=>?_) fun y=>?_
   .have y:(body.getD i em).kind=4:=by simpa using y
    refine zJ Z Z (fun A=>?_) fun A=>?_
    .have A:aE ok (body.getD i em).a7=lc:=by rw[cG];simpa using A
     refine gA Z (zq [0,1,2] (d126 r ok (body.getD i em).agg (by omega)) ?_);refine zJ Z Z (fun I=>?_) fun I=>?_
     .obtain⟨g1,g2,g3,g4⟩:=d _ ((be (by rw[B];simp)).trans (am ⟨y,A,I⟩));refine gA Z ⟨⟨(_,f-1),g1,g2,g3⟩,[],g4,zW (hM Z (by dsimp only;rw[cR];rfl) Z ⟨⟨_,rfl,.of_eq Z⟩,YP Z,rfl,⟨_,rfl,.of_eq Z⟩,YP Z,rfl,ac⟩)⟩
     .refine gA Z ?_;exact⟨b,eT D b ((be (by rw[B];simp)).trans (be (fun h=>nomatch (h.2.2.symm.trans I)))),[],zW (zC ⟨⟨_,rfl,.of_eq Z⟩,YP Z,rfl,⟨_,rfl,.of_eq Z⟩,YP Z,rfl,ac⟩)⟩
    .have A:aE ok (body.getD i em).a7=kw:=by rw[cG];simpa using A
     refine gA Z ⟨b,eT D b ((be (by rw[B];simp)).trans (be (by rw[A];simp))),[],zW (zC ⟨⟨_,rfl,.of_eq Z⟩,YP Z,rfl,⟨_,rfl,.of_eq Z⟩,YP Z,rfl,ac⟩)⟩
   .have y: ¬(body.getD i em).kind=4:=by simpa using y
    refine gA Z ⟨b,eT D b ((be (by rw[B];simp)).trans (be (fun h=>y h.1))),[],zW (zC ⟨⟨_,rfl,.of_eq Z⟩,YP Z,rfl,⟨_,rfl,.of_eq Z⟩,YP Z,rfl,ac⟩)⟩
 .have b:=co b;rw[Y1 b]at D;have F:cQ (fun occ=>aU occ) (fun occ=>iZ (ay r) occ) body occ=ok:=by rw[hx1,fY D]
  refine gA Z (zD [] Z (zW (hM Z (by rw[F]) Z ⟨⟨_,rfl,.of_eq Z⟩,YP Z,rfl,⟨_,rfl,.of_eq Z⟩,YP Z,rfl,ac⟩)))
theorem wZ:gf .gH (ct (aC [])):=⟨id,fun M N U w j b=>⟨#[],0,b,⟨rfl,by simp[aC],by simp[aC],by simp,by simp⟩,im M⟩⟩
def ch(r:ae):List aj:=cQ (fun b=>aU b) (fun b=>iZ (ay r) b) r.body []
theorem WB(r:ae)(hb:8*Lit.aA r.body<=100000000000):bV prog 126 [.iv (lits r.body),.mp 0,.dq (.func 227) [.mp 0] [],.dq (.func 228) [] [.ptr 1 0,.ptr 2 0]] [.gH,.cells [.iv (c9 r)],.cells [.mp 0]] (.bM []) [(0,io (ct (aC (ch r)))),(1,io (.cells [.iv (c9 r)])),(2,io (.cells [.mp 0]))] 3:=
 bV.SH (XK r [] r.body (by simp;omega)) ⟨wZ,.refl _,.refl _,ac⟩
theorem d73(r:ae)(hb:8*r.size<=100000000000):bV prog 202 [.iv (c9 r)] [] (.mp 0) [(0,io (ct (aC (ch r))))] 1:=by
 unfold ae.size at hb;refine aB ab func202 Z (by decide) ntmps202 Z (by simp) ?_;refine gA Z (zd [1,0,2] (WB r (by omega)) ?_);refine gA Z (zD [1] Z (zW (zC ac)))
def U8(p:List aj->Prop)(q:PV)(h:AH)(n:Nat):Prop:= ∃ok,p ok∧q= .mp 0∧h=[(0,io (ct (aC ok)))]∧n=1
def LO(r:ae)(a:eL)(occ:List aj):Prop:=occ.Nodup∧ ∀x,x∈occ↔x∈bb a∧x∈ay r
theorem Au{l m:List aj}(h:l.Nodup)(hs: ∀x∈l,x∈m):l.length<=m.length:=aay h hs
theorem mV(a:eL):(bb a).length<=a.size:=by
 have b:=nu a.body;have d:=jM a.dX;unfold bb eL.size;rw[YS];split
 .rw[Z6];omega
 .omega
theorem SV(a:eL)(hb:a.size<=100000000000):bV prog 196 [ag a.c1] [] (.mp 0) [(0,io (ct (aC (bb a))))] 1:=bV.le (d127 a (by omega)) ⟨a.LB,ac⟩
theorem d161(r:ae)(a:eL)(hb:16*a.size<=100000000000):Al.Fn prog 203 [.iv (c9 r),ag a.c] [] (U8 fun ok=> ∃occ,LO r a occ∧ok=cQ (fun occ=>aU occ) (fun _=>fun _=>lc) a.body occ):=by
 have e0:=mV a;have f0:Lit.aA a.body<=a.size:=by unfold eL.size;omega
 refine Al.Fn.le (args:=[.iv (c9 r),ag a.c1]) ?_ ⟨.refl _,a.zm,ac⟩;refine yv ab func203 Z (by decide) ntmps203 Z (by simp) ?_;refine gA Z (zq [] (SV a (by omega)) ?_);refine gA Z ?_
 let b:List Nat->List aj:=fun d=>(d.reverse.filterMap fun j=>((aC (bb a))[j]?).bind fun x=>if aE (ay r) x.1 then io x.1 else jp)
 refine jv (aC (bb a)) (fun d=>⟨[(0,.iv (c9 r)),(3,.ptr 0 0),(5,.mp 1),(10,.ptr 3 0)],[(0,io (an a.c1)),(1,io (ct (aC (b d)))),(3,io (.cC .str A5 (aC (bb a)) d jp))],4⟩)
  (fun d=>(b d).Nodup∧ ∀x,x∈b d↔x∈ay r∧ ∃j∈d,∃y,(aC (bb a))[j]? =io y∧y.1=x) [] ⟨ZT,by simp[b]⟩
  (zW (zK (Jg Z im Z (hI Z Z (.inl Z) Z trivial)))) fun d hJ=>?_
 obtain⟨B,D⟩:=hJ;have g0:(b d).length<=(bb a).length:=Au B fun x F=>by
  obtain⟨_,j,_,y,h2,rfl⟩:=(D x).1 F;exact uj h2
 refine nS Z ac (fU Z Z Z Z Z (by decide) (fun Y=>?_) fun j x F S=>?_)
 .have b0:LO r a (b d):=⟨B,fun x=>by
   rw[D];constructor
   .rintro⟨h1,j,h2,y,A,rfl⟩;exact⟨uj A,h1⟩
   .rintro⟨h1,h2⟩;refine⟨h2,?_⟩;obtain⟨y,hy,rfl⟩:=Zu.1 (((ck (bb a)).2 x).2 h1);obtain⟨j,S⟩:=ZO hy
    exact⟨j,Y j (YV.1 S).1,y,S,rfl⟩⟩
  refine gA Z (zq [1] (XM (b d) a.body (by omega)) ?_);refine nS Z ac (HL [1] (.inr Z) Z ⟨_,⟨b d,b0,rfl⟩,rfl,rfl,rfl⟩ (zW (zC ac)))
 .have h5:=cG (occ:=ay r) (s:=x.1);have h7:=bB (ay r) x.1;have h8:=bB (b d) x.1;have h9:=eY (b d) x.1;have G:x.1∉b d:=fun h=>by
   obtain⟨_,i,hi,y,h2,A⟩:=(D x.1).1 h;have d0:=(ck (bb a)).1;have:i=j:=by
    have I:=(YV.1 h2)
    have J:=(YV.1 F)
    obtain⟨I,a0⟩:=I;obtain⟨J,c0⟩:=J;refine(abo (i:=i) (j:=j) (h₀:=by rw[Zo];exact I) (h₁:=by rw[Zo];exact J) d0).1 ?_;rw[abD,abD,a0,c0,A]
   exact S (this▸hi)
  have u:b (j::d)=b d++if aE (ay r) x.1 then[x.1] else[]:=by
   simp only[b,List.reverse_cons,abZ,ab5,List.filterMap_nil,F,abR];congr 1;cases aE (ay r) x.1<;>rfl
  have step:(b (j::d)).Nodup∧ ∀z,z∈b (j::d)↔z∈ay r∧ ∃i∈j::d,∃y,(aC (bb a))[i]? =io y∧y.1=z:=by
   rw[u];constructor
   .split
    .rw[aaP];refine⟨B,aad.2 ⟨abn,ZT⟩,fun p hp q hq e=>?_⟩;rw[Y4]at hq;exact G ((e.trans hq)▸hp)
    .rw[Zv];exact B
   .intro z;rw[Y6,D];constructor
    .rintro(⟨h1,i,h2,A⟩|h1)
     .exact⟨h1,i,Y7 _ h2,A⟩
     .split at h1
      .rename_i h2;rw[Y4]at h1;exact⟨h1▸aM.1 h2,j,Y8,x,F,h1.symm⟩
      .cases h1
    .rintro⟨h1,i,h2,y,A,h4⟩;rcases Za.1 h2 with rfl|h2
     .rw[F]at A;cases A;exact .inr (by rw[am (aM.2 (h4▸h1))];simp[h4])
     .exact .inl ⟨h1,i,h2,y,A,h4⟩
  refine zJ Z Z (fun g1=>?_) fun g1=>?_
  .have g1:aE (ay r) x.1=kw:=by
    have:=zT g1;rw[h5];simp;omega
   rw[g1,am Z]at u;refine gA Z ⟨j,x,F,S,step,[],zW (zK (hM Z (by rw[u,cR];rfl) Z (hI Z Z (.inr Z) Z ac)))⟩
  .have g1:aE (ay r) x.1=lc:=by
    have:=zF g1;rw[h5];simp;omega
   rw[g1,be (by simp),Zv]at u;refine gA Z ⟨j,x,F,S,step,[],zW (zK (hM Z (by rw[u]) Z (hI Z Z (.inr Z) Z ac)))⟩
end Go.Proofs.YtflegjieadkonaaGreatDoor
namespace Go.Proofs.YtflegjieadkonaaGreatDoor
open Go Go.Al
def pJ(s:aj):List UInt8:=s.data.toList
def Uj(l:List UInt8):aj:=⟨l.toArray⟩
theorem wV(s:aj):Uj (pJ s)=s:=by simp[pJ,Uj]
theorem OW(l:List UInt8):pJ (Uj l)=l:=by simp[pJ,Uj]
def eI(l:List (List UInt8)):List (List UInt8):=l.mergeSort fun x y=>li (x<=y)
def eN(l:List aj):List aj:=(eI (l.map pJ)).map Uj
def km:Prop:=
 (∀(b b0 a0:Nat) (d:List (List UInt8)) (w:World),Go.Sort.Holds encStr w b b0 d.toArray->b<w.heap.size->d.length<4611686018427387904->
  Calls Tryz.prog 91 #[.slice (io ⟨b,b0,jp⟩) d.length a0] w fun e j=>
   e= .returned (.tuple #[])∧ ∃n os,j=Go.Sort.grow (Go.Sort.putRow encStr (Go.Sort.ahead w n) b b0 (d.mergeSort fun x y=>li (x<=y)).toArray) os)∧
 (∀(p:Option Addr) (a0:Nat) (w:World),Calls Tryz.prog 91 #[.slice p 0 a0] w fun e j=>e= .returned (.tuple #[])∧j=w)
theorem jD(l:List aj):(eN l).length=l.length:=by simp[eN,eI]
theorem rj:eN []=[]:=by simp[eN,eI]
theorem uU(l:List aj):(eN l).map pJ=eI (l.map pJ):=by
 unfold eN;rw[aaH];have:pJ ∘ Uj=id:=by funext x;exact OW x
 rw[this,List.map_id]
theorem Ds{l:List aj}{k:Nat}{e:List PV}(h:(l.map fun x=>(cX x).map PV.iv)[k]? =io e): ∃s,l[k]? =io s∧e=[pS s]:=by
 rw[Y0,Y2]at h;obtain⟨s,b,rfl⟩:=h;exact⟨s,b,rfl⟩
theorem MN(hS:km)(l:List aj)(hl:l.length<=1000000000000):bV Tryz.prog 91 [.sl 0 0 l.length 1] [aG 1 l cX] (.bM []) [(0,io (aG 1 (eN l) cX))] 1:=by
 refine⟨bH Tryz.func91 Z (by decide),fun M N w vs hr I hv=>?_⟩;obtain⟨v,rfl⟩: ∃v,vs=[v]:=by
  cases vs with
  |nil=>cases I
  |cons v r=>cases r with
   |nil=>exact⟨v,rfl⟩
   |cons a b=>simp at I
 have u:=hv 0 _ Z;simp only[List.getD_cons_zero]at u;have n0:=hr.obj 0 _ Z;cases l with
 |nil=>
  have e0:v= .slice jp 0 0:=by
   generalize hq:PV.sl 0 0 ([]:List aj).length 1=q at u;cases u with
   |sl i off len sz a0 h h0 S hc he=>cases hq;simp at h0
   |pQ i sz h=>rfl
   |_=>cases hq
  subst e0;refine(hS.2 jp 0 w).mono ?_;rintro e w' ⟨rfl,rfl⟩;refine⟨_,M,N,.bM [],_,1,rfl,⟨rfl,rfl,rfl⟩,?_,?_,.bM [] #[] Z (by simp)⟩
  .rw[rj];exact .refl _ _ _ _ _
  .rw[rj];exact hr
 |cons s0 r=>
  generalize hL:s0::r=L at*
  have c0:0<L.length:=by rw[<-hL];simp
  obtain⟨a0,e0⟩: ∃a0,v= .slice (io ⟨N.aK 0,0,jp⟩) L.length a0:=by
   generalize hn:L.length=n at u c0;generalize hq:PV.sl 0 0 n 1=q at u;cases u with
   |sl i off len sz a0 h h0 S hc he=>cases hq;exact⟨a0,by simp⟩
   |pQ i sz h=>cases hq;omega
   |_=>cases hq
  subst e0;rcases n0 with h0|⟨_,c,T,S,h2,h3,h4,h5⟩
  .rw[<-hL]at h0;cases h0
  rw[Zo]at h3;have g0:(aG 1 L cX).real=kw:=by rw[<-hL];rfl
  have d0: ∀j s,L[j]? =io s->c.getD j undef= .string s:=fun j s G=>by
   have:=h5 j [pS s] 0 (pS s) (by rw[Y0,G];rfl) Z;rw[abM,aa0]at this;generalize c.getD j undef=y at this ⊢;cases this with
   |iv _ _ h=>cases h;rfl
  have m0:=hr.lt (i:=0) Z g0;have k0:(L.map pJ).length=L.length:=by simp
  have hH:Go.Sort.Holds encStr w (N.aK 0) 0 (L.map pJ).toArray:=by
   intro j G;have i0:j<L.length:=by simpa using G
   have f0:j<c.size:=by omega
   have:=d0 j L[j] (YU i0);rw[YQ,ZM f0,aah]at this;constructor
   .simp only[World.cell?,S,Zh,Option.isSome_none,aaq,if_false];rw[ZM f0,this,getElem!_pos _ j G];simp[encStr,pJ]
   .simp[World.frozen?,S]
  have B:=hS.1 (N.aK 0) 0 a0 (L.map pJ) w hH m0 (by omega);rw[k0]at B;refine B.mono ?_;rintro e w' ⟨rfl,n,os,rfl⟩
  let J:=Go.Sort.putRow encStr (Go.Sort.ahead w n) (N.aK 0) 0 ((L.map pJ).mergeSort fun x y=>li (x<=y)).toArray
  have Y:(eI (L.map pJ)).length=L.length:=by simp[eI]
  have A:Ext M N (· <1) (fw 0 [aG 1 L cX]) w M N (· <1) ((0,io (aG 1 (eN L) cX))::fw 0 [aG 1 L cX]) J∧Rel M N (· <1) ((0,io (aG 1 (eN L) cX))::fw 0 [aG 1 L cX]) J:=by
   refine hr.write (i:=0) (o0:=aG 1 L cX) Z g0 J (aG 1 (eN L) cX) Z Z Z ?_ ?_ ?_
   .show(Go.Sort.putRow _ _ _ _ _).heap.size=_;rw[Go.Sort.size_putRow];rfl
   .intro b hb;show((w.heap.modify (N.aK 0) _))[b]? =_;rw[ZK,be (fun e=>hb e.symm)]
   .refine .inr ⟨Nat.one_pos,Go.Sort.putCells encStr 0 (eI (L.map pJ)).toArray c,T,?_,?_,?_,?_,?_⟩
    .show((w.heap.modify (N.aK 0) _))[N.aK 0]? =_;rw[ZK,am Z,S];rfl
    .simp[Go.Sort.putCells,h2]
    .rw[Zo,jD];simp[Go.Sort.putCells];omega
    .intro k e he;obtain⟨s,_,rfl⟩:=Ds he;rfl
    .intro k e j p he hp;obtain⟨s,hs,rfl⟩:=Ds he;have G:j=0:=by
      rcases j with _|j
      .rfl
      .simp at hp
     subst G;cases hp;have hk:k<L.length:=by
      have:=(YV.1 hs).1;rwa[jD]at this
     have p0:(eI (L.map pJ))[k]? =io (pJ s):=by
      rw[<-uU,Y0,hs];rfl
     have j0:k<c.size:=by omega
     have b0:(Go.Sort.putCells encStr 0 (eI (L.map pJ)).toArray c).getD (k*1+0) undef= .string s:=by
      rw[abM,aa0,YQ];simp only[Go.Sort.putCells,Array.getElem?_mapIdx];rw[ZM j0,ZW,aah,am ⟨YZ _,by simp[Y];omega⟩,Nat.sub_zero];rw[getElem!_pos _ k (by simp[Y];omega)];have h9:(eI (L.map pJ)).toArray[k]'(by simp[Y];omega)=pJ s:=by
       rw[List.getElem_toArray];exact(YV.1 p0).2
      rw[h9];simp[encStr,pJ]
     rw[b0];exact .iv _ _ (.v _)
  have D:Rel M N (· <1) ((0,io (aG 1 (eN L) cX))::fw 0 [aG 1 L cX]) (Go.Sort.grow J os):=A.2.more fun b hb=>by
   show(J.heap++os)[b]? =_;rw[ZU hb]
  have q0:J.heap.size=w.heap.size:=by
   show(Go.Sort.putRow _ _ _ _ _).heap.size=_;rw[Go.Sort.size_putRow];rfl
  have d: ∀i o,AH.get [(0,io (aG 1 (eN L) cX))] i=io o->AH.get ((0,io (aG 1 (eN L) cX))::fw 0 [aG 1 L cX]) i=io o:=by
   intro i o h;rw[AH.aw]at h ⊢;split at h
   .rename_i h6;rw[am h6];exact h
   .simp[AH.get]at h
  refine⟨_,M,N,.bM [],_,1,rfl,⟨rfl,rfl,rfl⟩,⟨A.1.os,A.1.tape,A.1.output,?_,?_,.refl _,fun b c S h2=>(nomatch (S.symm.trans h2)),.refl _ _,fun _ h=>h,fun i o F=>A.1.jq i o (d i o F)⟩,?_,.bM [] #[] Z (by simp)⟩
  .show w.heap.size<=(Go.Sort.grow J os).heap.size;rw[Go.Sort.size_grow,q0];omega
  .intro b hb hn;have h7:=A.1.iQ b hb hn;show(J.heap++os)[b]? =_;rw[ZU (by omega)];exact h7
  .exact⟨D.fj,fun i o F=>D.used i o (d i o F),fun i o F=>D.fi i o (d i o F),fun i o F=>D.obj i o (d i o F),fun i j o p F G=>D.inj i j o p (d i o F) (d j p G)⟩
end Go.Proofs.YtflegjieadkonaaGreatDoor
namespace Go.Proofs.YtflegjieadkonaaGreatDoor
open Go Go.Al Go.Proofs.Tryz
theorem gQ(l:List (List UInt8)):(eI l).Perm l:=List.mergeSort_perm _ _
theorem ko(l:List (List UInt8)):(eI l).Pairwise (fun x y=>li (x<=y)=kw):=
 List.pairwise_mergeSort (le:=fun x y=>li (x<=y)) (fun a b c d j=>by simp only[decide_eq_true_eq] at*;exact List.le_trans d j)
  (fun a b=>by
   rcases List.le_total a b with h|h
   .simp[h]
   .simp[h]) l
theorem Iu{a b:List (List UInt8)}(h:a.Perm b)(ha:a.Pairwise (fun x y=>li (x<=y)=kw))(hb:b.Pairwise (fun x y=>li (x<=y)=kw)):a=b:=
 List.Perm.eq_of_pairwise (fun x y _ _ d j=>abS (zT d) (zT j)) ha hb h
theorem sN{a b:List aj}(h:a.Perm b):eN a=eN b:=by
 unfold eN;rw[Iu (((gQ _).trans (h.map pJ)).trans (gQ _).symm) (ko _) (ko _)]
theorem gn{x:aj}{l:List aj}:x∈eN l↔x∈l:=by
 unfold eN;rw[Zu];constructor
 .rintro⟨b,hb,rfl⟩;obtain⟨s,d,rfl⟩:=Zu.1 ((gQ _).mem_iff.1 hb);rwa[wV]
 .intro h;exact⟨pJ x,(gQ _).mem_iff.2 (Zu.2 ⟨x,h,rfl⟩),wV x⟩
def jt(m:NM)(vs:List Nat):List aj:=vs.reverse.filterMap fun j=>(m[j]?).map (·.1)
theorem nv(m:NM)(vs:List Nat)(j:Nat)(x:(KC.str).K×Int)(h:m[j]? =io x):jt m (j::vs)=jt m vs++ [x.1]:=by
 simp[jt,abZ,h]
theorem ye(m:NM)(vs:List Nat):(jt m vs).length<=vs.length:=by
 unfold jt;have:=List.length_filterMap_le (fun j=>(m[j]?).map (·.1)) vs.reverse;rwa[List.length_reverse]at this
theorem B8(m:NM):(Zg m.length).filterMap (fun j=>(m[j]?).map (·.1))=m.map (·.1):=by
 apply aaD;intro k;have h:(Zg m.length).filterMap (fun j=>(m[j]?).map (·.1))=(Zg m.length).map (fun j=>(m.getD j (YW,0)).1):=by
  rw[show(fun j=>(m.getD j (YW,0)).1)=fun j=>(m.getD j (YW,0)).1 from rfl];have key: ∀l:List Nat,(∀j∈l,j<m.length)->l.filterMap (fun j=>(m[j]?).map (·.1))=l.map (fun j=>(m.getD j (YW,0)).1):=by
   intro l
   induction l with
   |nil=>simp
   |cons j r ih=>
    intro h;have b:=h j Y8;rw[ab5,YU b,ih fun k d=>h k (Y7 _ d)];simp[b]
  exact key _ fun j b=>ZY.1 b
 rw[h];by_cases d:k<m.length
 .simp[d]
 .simp[d]
theorem mD(m:NM)(vs:List Nat)(hn:vs.Nodup)(hb: ∀j∈vs,j<m.length)(b: ∀j,j<m.length->j∈vs):(jt m vs).Perm (m.map (·.1)):=by
 rw[<-B8];unfold jt;apply List.Perm.filterMap;refine(List.reverse_perm _).trans ?_;rw[List.perm_ext_iff_of_nodup hn List.nodup_range];intro j;rw[ZY];exact⟨hb j,b j⟩
def ff(m:NM):List aj:=eN (m.map (·.1))
theorem xW{vs:List Nat}{n:Nat}(h:vs.Nodup)(hb: ∀j∈vs,j<n):vs.length<=n:=by
 have:=aay h (l₂:=Zg n) fun j b=>ZY.2 (hb j b);rwa[List.length_range]at this
theorem xE(σ:Nat->Nat)(l:List aj):(l.map fun x=>(cX x).map PV.iv).map (dK σ)=l.map fun x=>(cX x).map PV.iv:=by
 simp only[aaH,cX,Zd,ZR];rfl
theorem c51(G:km)(m:NM)(hm:m.length<=100000000):Pure prog 112 [.iv (CN m)] (.iv (strs (ff m))):=by
 refine ah ab func112 Z (by decide) ntmps112 Z (by simp) Z ?_;refine gA Z ?_;refine fS 3 1 Z ?_;refine jv m (fun b=>⟨[(3,.sl 2 0 (jt m b).length 1),(6,.ptr 0 0)],[(0,io (.cC .str A5 m b jp)),(2,io (aG 1 (jt m b) cX))],3⟩) (fun b=>b.Nodup∧ ∀j∈b,j<m.length) [1] ⟨ZT,by simp⟩
  (zW (hI Z Z (.inl Z) Z (zS trivial))) fun b F=>?_
 obtain⟨d,u⟩:=F;have S:=xW d u;have J:=ye m b;refine nS Z ac (fU Z Z Z Z Z (by decide) (fun y=>?_) fun j x A B=>?_)
 .refine nS Z ac (bI [2] (MN G (jt m b) (by omega)) Z Z Z Z Z (congrArg (fun o=> [io o]) (bA _).symm) Z Z ?_);refine nS Z ac (cx (.inr Z) Z Z ((xE _ _).trans (by rw[ff,sN (mD m b d u y)])) ?_);rw[ff,jD,<-(mD m b d u y).length_eq]
 .have D:=nv m b j x A;refine gA Z ⟨j,x,A,B,⟨aad.2 ⟨B,d⟩,fun i I=>(Za.1 I).elim (fun h=>h▸(YV.1 A).1) (u i)⟩,[4],zM ⟨.row (by rw[D,YS];rfl),rfl,bv ac⟩ (hI Z Z (.inr Z) Z (hR Z (by rw[D,YX];rfl) Z ac))⟩
theorem PR{P:Program}{k:FuncId}{kc:KC}{V:Type}{e:V->IV}{z:V}{G:Value}{I:PV->V}{m:List (kc.K×V)}{y:IV}(h:Al.Pure P k [.iv (.eF kc e z G m)] (.iv y)):bV P k [.mp 0] [.map kc e z G I m] (.iv y) [] 1:=by
 refine⟨h.1,fun M N w F hr Y hv=>?_⟩;obtain⟨u,B,J,h3,S⟩:=qz (n:=1) hr (i:=0) Z;have A:Rel u N (· <0) (fw 0 []) w:=⟨J.fj,fun i o d=>(nomatch d),fun i o d=>(nomatch d),fun i o d=>(nomatch d),fun i j o p d=>(nomatch d)⟩
 refine(h.2 u N w F A Y fun j p D=>?_).mono ?_
 .cases j with
  |zero=>
   cases D;have:=S _ _ (hv 0 _ Z);generalize F.getD 0 undef=x at this ⊢;cases this with
   |iv _ _ h=>exact .iv _ _ h
  |succ j=>cases D
 .rintro _ w' ⟨x,M',N',r,h',n',rfl,⟨rfl,rfl,rfl⟩,hx,hrr,hvr⟩;refine⟨x,M',N,.iv y,[],1,rfl,⟨rfl,rfl,rfl⟩,?_,⟨hrr.fj,fun i o d=>(nomatch d),fun i o d=>(nomatch d),fun i o d=>(nomatch d),fun i j o p d=>(nomatch d)⟩,?_⟩
  .refine⟨hx.os,hx.tape,hx.output,hx.size,fun b hb hn=>hx.iQ b hb fun i o d=>(nomatch d),B.r6.trans hx.r6,fun b c g1 g2=>?_,.refl _ _,fun _ h=>h,fun i o d=>(nomatch d)⟩;cases g3:u b with
   |some c'=>exact B.kf b c' g1 g3
   |none=>
    rcases hx.kf b c g3 g2 with g4|⟨i,o,g4,_⟩
    .exact .inl g4
    .exact nomatch g4
  .cases hvr with
   |iv _ _ h=>exact .iv _ _ h
theorem XU(b:km)(m:NM)(hm:m.length<=100000000):bV prog 112 [.mp 0] [ct m] (.iv (strs (ff m))) [] 1:=PR (c51 b m hm)
theorem we: ∀{m:NM} (_:(m.map (·.1)).Nodup) (k:aj),pN .str m k=m.filter fun x=>!li (x.1=k)
 | [],_,k=>rfl
 |(a,b)::r,h,k=>by
  rw[Zd,aad]at h;by_cases d:a=k
  .subst d;have:r.filter (fun x=>!li (x.1=a))=r:=ab6.2 fun x j=>by
    have:x.1≠a:=fun e=>h.1 (e▸Zu.2 ⟨x,j,rfl⟩);simp[this]
   simp[pN,this]
  .have u:=we h.2 k;simp[pN,d,u]
theorem r5{m:NM}{p:(KC.str).K×Int->Bool}(h:(m.map (·.1)).Nodup):((m.filter p).map (·.1)).Nodup:=h.sublist ((abw).map _)
theorem qL: ∀(d:List aj) {m:NM} (_:(m.map (·.1)).Nodup),d.foldl (fun m k=>pN .str m k) m=m.filter fun x=>!aE d x.1
 | [],m,h=>(ab6.2 fun _ _=>rfl).symm
 |k::r,m,h=>by
  rw[Zn,we h,qL r (r5 h),List.filter_filter];congr 1
  funext x
  by_cases b:x.1=k
  .simp[aE,b]
  .have: ¬k=x.1:=fun e=>b e.symm
   simp[aE,b,this]
def lH(r:ae)(a:eL):NM:=(aC (bb a)).filter fun x=>!aE (ay r) x.1
theorem kJ(l:List aj):(aC l).length<=l.length:=by
 have h:=ck l;have:=Au h.1 fun x b=>(h.2 x).1 b;rwa[Zo]at this
theorem d79(r:ae)(a:eL)(hb:a.size<=100000000000):bV prog 191 [.iv (c9 r),ag a.c] [] (.mp 0) [(0,io (ct (lH r a)))] 1:=by
 refine bV.le (args:=[.iv (c9 r),ag a.c1]) ?_ ⟨.refl _,a.zm,ac⟩;have I:=mV a;have A:=(ck (bb a)).1;refine aB ab func191 Z (by decide) ntmps191 Z (by simp) ?_;refine gA Z (zq [] (SV a (by omega)) ?_);refine gA Z ?_;refine jv (aC (ay r)) (fun b=>⟨[(5,.mp 1),(13,.ptr 2 0)],[(1,io (ct ((jt (aC (ay r)) b).foldl (fun m k=>pN .str m k) (aC (bb a))))),(2,io (.cC .str A5 (aC (ay r)) b jp))],3⟩)
  (fun b=>b.Nodup∧ ∀j∈b,j<(aC (ay r)).length) [] ⟨ZT,by simp⟩
  (zW (zC (hI Z Z (.inl Z) Z trivial))) fun b G=>?_
 obtain⟨d,u⟩:=G;refine nS Z ac (fU Z Z Z Z Z (by decide) (fun y=>?_) fun j x D F=>?_)
 .have B:(jt (aC (ay r)) b).foldl (fun m k=>pN .str m k) (aC (bb a))=lH r a:=by
   rw[qL _ A];unfold lH;congr 1
   funext x
   congr 1;rw[ZE,aM,aM,(mD _ b d u y).mem_iff];exact(ck (ay r)).2 x.1
  rw[B];refine gA Z (zD [1] Z (zW (zC ac)))
 .have S:=nv (aC (ay r)) b j x D;refine gA Z ⟨j,x,D,F,⟨aad.2 ⟨F,d⟩,fun i J=>(Za.1 J).elim (fun h=>h▸(YV.1 D).1) (u i)⟩,[],zW (hM Z (by rw[S,aao];rfl) Z (hI Z Z (.inr Z) Z ac))⟩
theorem wg{may:List aj->Expr->Bool}{more:List aj->eL->Bool}{body:List Lit}: ∀(n:Nat) (occ:List aj),(dS may more body n occ).length<=occ.length+n
 |0,occ=>YY _
 |n+1,occ=>by
  cases h:cL (may occ) (more occ) occ body with
  |none=>rw[fY h];omega
  |some v=>
   rw[fX h];have:=wg (may:=may) (more:=more) (body:=body) n (occ++ [v]);rw[YS,Zs]at this;omega
theorem wj{may:List aj->Expr->Bool}{more:List aj->eL->Bool}{body:List Lit}(occ:List aj):(cQ may more body occ).length<=occ.length+4*Lit.aA body+1:=by
 have b:=wg (may:=may) (more:=more) (body:=body) (3*body.length+1) (occ++body.flatMap bQ);have d:=hZ body;have j:=Lit.au body;rw[YS]at b;unfold cQ;omega
theorem FY(r:ae):(ch r).length<=4*Lit.aA r.body+1:=by
 have:=wj (may:=fun b=>aU b) (more:=fun b=>iZ (ay r) b) (body:=r.body) [];rw[Z6]at this;unfold ch;omega
def rX(r:ae):List aj:=cQ (fun b=>c7 b) (fun _=>fun _=>lc) r.body []
theorem IP(r:ae):(rX r).length<=4*Lit.aA r.body+1:=by
 have:=wj (may:=fun b=>c7 b) (more:=fun _=>fun _=>lc) (body:=r.body) [];rw[Z6]at this;unfold rX;omega
theorem WC(r:ae)(hb:8*Lit.aA r.body<=100000000000):bV prog 126 [.iv (lits r.body),.mp 0,.dq (.func 127) [] [.ptr 1 0],.dq (.func 128) [] []] [.gH,.cells [.mp 0]] (.bM []) [(0,io (ct (aC (rX r)))),(1,io (.cells [.mp 0]))] 2:=
 bV.SH (XL [] r.body (by simp;omega)) ⟨wZ,.refl _,ac⟩
theorem c29(b:km)(r:ae)(hb:r.size<=10000000):Pure prog 80 [ag r.c] (.iv (strs (ff (aC (ay r))))):=by
 have d:=kJ (ay r);have j:=oQ r;refine ah ab func80 Z (by decide) ntmps80 Z (by simp) Z ?_;refine gA Z (zp (c48 r (by omega)) ?_);refine gA Z (zp (c51 b (aC (ay r)) (by omega)) ?_);exact zU Z
theorem c33(b:km)(r:ae)(hb:r.size<=10000000):Pure prog 98 [ag r.c] (.iv (strs (ff (aC (rX r))))):=by
 have d:=kJ (rX r);have j:=IP r;have u:Lit.aA r.body<=r.size:=aar _ _;refine ah ab func98 Z (by decide) ntmps98 Z (by simp) Z ?_;refine gA Z ?_;refine gA Z (zq [1,2] (WC r (by omega)) ?_);refine gA Z (zq [1] (XU b (aC (rX r)) (by omega)) ?_);exact zU Z
def tg(r:ae)(lit:Int):List aj:=if lit<0∨(r.body.length:Int)<=lit∨ ¬(ak r lit).kind=4 then[] else ff (lH r (ak r lit).agg)
theorem vG{P:Program}{k:FuncId}{args:List PV}{os:List AO}{r:PV}{h:AH}{n0:Nat}(hc:oJ P k){n:Nat}(hn: ∃sz el,PV.iv (.dG sz n el)∈args)(hh:n<=maxLen->bV P k args os r h n0):bV P k args os r h n0:=Mn hc hn hh
def tk{α:Type}(p:α->Bool)(l:List α):Int:=match l.findIdx? p with
 |some i=>i
 |none=> -1
theorem iH{α:Type}{p:α->Bool}{l:List α}(h:l.any p=lc):tk p l= -1:=by
 have:l.findIdx? p=jp:=by
  rw[abq];intro x b;have:=ZL.1 h x b;simpa using this
 rw[tk,this]
theorem je{α:Type}[Inhabited α]{p:α->Bool}{l:List α}{i:Nat}(h:(l.take i).any p=lc)(hi:i<l.length)(hp:p (l.getD i em)=kw):tk p l=i:=by
 have:l.findIdx? p=io i:=by
  rw[aa6];have b:l.getD i em=l[i]:=by simp[hi]
  refine⟨hi,b▸hp,fun j d=>?_⟩;have:=ZL.1 h l[j] (List.mem_iff_getElem?.2 ⟨j,by rw[ZS,am d,YU (by omega)]⟩);simpa using this
 rw[tk,this]
theorem jY{α:Type}(p:α->Bool)(l:List α):li (tk p l>=0)=l.any p:=by
 unfold tk;cases h:l.findIdx? p with
 |none=>
  have:=abq.1 h;have:l.any p=lc:=ZL.2 fun x j=>by simp[this x j]
  rw[this];rfl
 |some i=>
  obtain⟨b,d,_⟩:=aa6.1 h;rw[ZG.2 ⟨_,Zz b,d⟩];simp
theorem FG{a b:Int}(h:a=b):pI a=pI b:=by rw[h]
theorem Yp(x:Int):Pure prog 155 [pI x] (pB (!li (x=1)&&!li (x=2))):=by
 refine ah ab func155 Z (by decide) ntmps155 Z (by simp) Z ?_
 repeat' (first|(refine gA Z (zI (fun _=>?_) (fun _=>?_)))|(refine gA Z (zL (.of_eq ?_))))
 all_goals(refine(fO ?_:pB _=pB _);simp_all)
theorem Yo(t:Term):Pure prog 194 [ag t.c] (pB (li (t.kind=3))):=by
 refine ah ab func194 Z (by decide) ntmps194 Z (by simp) Z ?_;exact zU Z
theorem Yn(t:Lit):Pure prog 195 [ag t.c] (pB (li (t.kind=4))):=by
 refine ah ab func195 Z (by decide) ntmps195 Z (by simp) Z ?_;exact zU Z
def dt(v:tE):Int:=if v.kind=1 then(if v.sym=YW∧ -2147483647<=v.num∧v.num<=2147483647 then 0 else 20) else if v.kind=2 then(if v.num=0∧v.sym.size<=64 then 0 else 20) else 20
theorem Ys(v:tE):Pure prog 261 [ag v.c] (pI (dt v)):=by
 refine ah ab func261 Z (by decide) ntmps261 Z (by simp) Z ?_
 repeat' (first|(refine gA Z (zI (fun _=>?_) (fun _=>?_)))|(refine gA Z (zL (.of_eq ?_))))
 all_goals(refine(FG ?_:pI _=pI _);have hE:(⟨#[]⟩:ByteArray)=YW:=rfl;simp_all [dt];try omega)
def Decl.z:Decl:=⟨YW,[],⟨0,0⟩⟩
def HT(d:Decl):IV:= .agg d.c
def Mx:Value:= .agg #[.string YW,.slice jp 0 0,.int .i64 0,.int .i64 0]
def intOf:List IV->Int
 | [.v (.int .i64 n)]=>n
 |_=>0
def XF:PV->Decl
 | .agg [.iv (.v (.string s)),.iv (.dG _ n el),.iv (.v (.int _ a)),.iv (.v (.int _ b))]=>⟨s,(Zg n).map fun k=>intOf (el k),⟨a,b⟩⟩
 |_=>Decl.z
abbrev DM:=List ((KC.str).K×Decl)
abbrev SR(m:DM):AO:= .map .str HT Decl.z Mx XF m
abbrev WA(m:DM):IV:= .eF .str HT Decl.z Mx m
theorem SQ(d:Decl):XF (ag d.c)=d:=by
 show(⟨d.name,(Zg d.types.length).map fun k=>intOf (ba (d.types.getD k em)),⟨d.at_.line,d.at_.zr⟩⟩:Decl)=d;have:(Zg d.types.length).map (fun k=>intOf (ba (d.types.getD k em)))=d.types:=by
  apply aaD;intro k;by_cases b:k<d.types.length
  .simp[b,intOf,ba]
  .simp[b]
 rw[this]
theorem Mw: ∀M,IR M (HT Decl.z) Mx:=fun M=>by
 refine .agg _ _ Z fun j p b=>?_
 match j,b with
 |0,b=>cases b;exact .v _
 |1,b=>cases b;exact .kN _ _ _ _
 |2,b=>cases b;exact .v _
 |3,b=>cases b;exact .v _
 |j+4,b=>simp[Decl.c]at b
theorem agI(l:List IV):aL (ag l) (.iv (.agg l)):=by
 intro M N U x h;generalize b:ag l=q at h;cases h with
 |agg cs ys hl hr=>
  cases b;refine .iv _ _ (.agg _ _ (by simpa using hl) fun j p d=>?_);have:=hr j (.iv p) (by rw[Y0,d];rfl);generalize ys.getD j undef=y at this ⊢;cases this with
  |iv _ _ h=>exact h
 |_=>cases b
theorem My(d:Decl):aL (ag d.c) (.iv (HT (XF (ag d.c)))):=by rw[SQ];exact agI _
def iF(m:DM)(d:Decl):DM:=if dZ .str m d.name=kw then m else cF .str m d.name d
def Ah(p:Prog):DM:=p.aD.foldl iF []
abbrev de(p:Prog):IV:=WA (Ah p)
theorem xN{V:Type}: ∀(m:List ((KC.str).K×V)) (k:aj) (v:V),(cF .str m k v).length<=m.length+1
 | [],_,_=>by simp[cF]
 |(a,b)::r,k,v=>by
  have:=xN r k v;simp only[cF];split
  .simp
  .simp only[Zr];omega
theorem d50(p:Prog)(hb:p.aD.length<=1000000000000):bV prog 124 [ag p.c] [] (.mp 0) [(0,io (SR (Ah p)))] 1:=by
 refine aB ab func124 Z (by decide) ntmps124 Z (by simp) ?_;refine gA Z ?_;refine az 0 p.aD.length (YZ _) (fun i=>⟨[(3,.mp 1),(13,.iv (cW 4 p.aD Decl.c)),(14,pI p.aD.length),(15,pI i)],[(1,io (SR ((p.aD.take i).foldl iF [])))],2⟩) (fun _=>True) [] ac
  (zW (Jg Z Mw Z trivial)) fun i x _=>?_
 refine zJ Z Z (fun d=>?_) fun d=>?_
 .have d:=ci d;have u:=cH (g:=iF) (b:=[]) d;refine zJ Z Z (fun j=>?_) fun j=>?_
  .have j:dZ .str ((p.aD.take i).foldl iF []) (p.aD.getD i em).name=lc:=by simpa using j
   rw[iF,be (by rw[j];simp)]at u;refine nS Z ?_ ?_
   .repeat' (first|exact ac|exact rfl|exact My _|exact aL.refl _|apply ZC)
    all_goals omega
   exact⟨d,ac,[],zW (hM Z (by rw[u,<-SQ (p.aD.getD i em)];rfl) Z ac)⟩
  .have j:dZ .str ((p.aD.take i).foldl iF []) (p.aD.getD i em).name=kw:=by simpa using j
   rw[iF,am j]at u;refine gA Z ⟨d,ac,[],zW (hM Z (by rw[u]) Z ac)⟩
 .have d:=co d;rw[Y1 d];refine gA Z (zD [1] Z (zW (zC ac)))
def lP(p:Prog)(a:Atom):Bool:=!dZ .str (Ah p) a.rel
def ir(p:Prog)(s:aj):Decl:=bU .str (Ah p) s Decl.z
def mZ(p:Prog)(a:Atom):Bool:=!li ((a.ad.length:Int)=((ir p a.rel).types.length:Int))
theorem d113(p:Prog)(a:Atom):bV prog 163 [ag a.c,.ptr 0 0] [.cells [.iv (de p)]] (pB (lP p a)) [(0,io (.cells [.iv (de p)]))] 1:=by
 refine aB ab func163 Z (by decide) ntmps163 Z (by simp) ?_;refine gA Z (zD [] Z (zM ⟨.of_eq Z,rfl,ac⟩ (zO ac)))
theorem d115(p:Prog)(a:Atom):bV prog 165 [ag a.c,.ptr 0 0] [.cells [.iv (de p)]] (pB (mZ p a)) [(0,io (.cells [.iv (de p)]))] 1:=by
 refine aB ab func165 Z (by decide) ntmps165 Z (by simp) ?_;refine gA Z (zD [] Z (zM ⟨.of_eq Z,rfl,ac⟩ (zO ac)))
theorem i187(l:List Int):bV prog 186 [.iv (cW 1 l ba),.dq (.func 155) [] []] [] (pI (tk (fun x=>!li (x=1)&&!li (x=2)) l)) [] 0:=by
 refine vG (bH func186 Z (by decide)) ⟨_,_,Y8⟩ fun j=>?_;simp only[maxLen]at j;refine aB ab func186 Z (by decide) ntmps186 Z (by simp) ?_;refine gA Z ?_
 refine az 0 l.length (YZ _) (fun i=>⟨[(0,.iv (cW 1 l ba)),(1,.dq (.func 155) [] []),(7,pI l.length),(8,pI i)],[],0⟩) (fun i=>(l.take i).any (fun x=>!li (x=1)&&!li (x=2))=lc) [] (by simp)
  (zW trivial) fun i y u=>?_
 refine zJ Z Z (fun b=>?_) fun b=>?_
 .have b:=ci b;refine gA Z (zp (Yp (l.getD i em)) ?_);refine zJ Z Z (fun d=>?_) fun d=>?_
  .have d:(fun x=>!li (x=1)&&!li (x=2)) (l.getD i em)=kw:=d;rw[je u b d];refine gA Z (zD [] Z (zW ac))
  .have d:(fun x=>!li (x=1)&&!li (x=2)) (l.getD i em)=lc:=d;refine gA Z ⟨b,(aW u b).2 d,[],zW ac⟩
 .have b:=co b;rw[iH (any_none u b)];refine gA Z (zD [] Z (zW ac))
theorem d153(l:List Int):bV prog 154 [.iv (cW 1 l ba),.dq (.func 155) [] []] [] (pB (l.any (fun x=>!li (x=1)&&!li (x=2)))) [] 0:=by
 refine aB ab func154 Z (by decide) ntmps154 Z (by simp) ?_;refine gA Z (zq [] (i187 l) ?_);refine gA Z (zD [] Z (zM ⟨.of_eq (fO (jY _ l)),rfl,ac⟩ ac))
theorem i191(l:List Term):bV prog 224 [.iv (cW 5 l Term.c),.dq (.func 194) [] []] [] (pI (tk (fun x:Term=>li (x.kind=3)) l)) [] 0:=by
 refine vG (bH func224 Z (by decide)) ⟨_,_,Y8⟩ fun j=>?_;simp only[maxLen]at j;refine aB ab func224 Z (by decide) ntmps224 Z (by simp) ?_;refine gA Z ?_
 refine az 0 l.length (YZ _) (fun i=>⟨[(0,.iv (cW 5 l Term.c)),(1,.dq (.func 194) [] []),(7,pI l.length),(8,pI i)],[],0⟩) (fun i=>(l.take i).any (fun x:Term=>li (x.kind=3))=lc) [] (by simp)
  (zW trivial) fun i y u=>?_
 refine zJ Z Z (fun b=>?_) fun b=>?_
 .have b:=ci b;refine gA Z (zp (Yo (l.getD i em)) ?_);refine zJ Z Z (fun d=>?_) fun d=>?_
  .have d:(fun x:Term=>li (x.kind=3)) (l.getD i em)=kw:=d;rw[je u b d];refine gA Z (zD [] Z (zW ac))
  .have d:(fun x:Term=>li (x.kind=3)) (l.getD i em)=lc:=d;refine gA Z ⟨b,(aW u b).2 d,[],zW ac⟩
 .have b:=co b;rw[iH (any_none u b)];refine gA Z (zD [] Z (zW ac))
theorem d157(l:List Term):bV prog 193 [.iv (cW 5 l Term.c),.dq (.func 194) [] []] [] (pB (l.any (fun x:Term=>li (x.kind=3)))) [] 0:=by
 refine aB ab func193 Z (by decide) ntmps193 Z (by simp) ?_;refine gA Z (zq [] (i191 l) ?_);refine gA Z (zD [] Z (zM ⟨.of_eq (fO (jY _ l)),rfl,ac⟩ ac))
theorem i192(l:List Lit):bV prog 130 [.iv (cW 30 l Lit.c),.dq (.func 195) [] []] [] (pI (tk (fun x:Lit=>li (x.kind=4)) l)) [] 0:=by
 refine vG (bH func130 Z (by decide)) ⟨_,_,Y8⟩ fun j=>?_;simp only[maxLen]at j;refine aB ab func130 Z (by decide) ntmps130 Z (by simp) ?_;refine gA Z ?_
 refine az 0 l.length (YZ _) (fun i=>⟨[(0,.iv (cW 30 l Lit.c)),(1,.dq (.func 195) [] []),(7,pI l.length),(8,pI i)],[],0⟩) (fun i=>(l.take i).any (fun x:Lit=>li (x.kind=4))=lc) [] (by simp)
  (zW trivial) fun i y u=>?_
 refine zJ Z Z (fun b=>?_) fun b=>?_
 .have b:=ci b;refine gA Z (zp (Yn (l.getD i em)) ?_);refine zJ Z Z (fun d=>?_) fun d=>?_
  .have d:(fun x:Lit=>li (x.kind=4)) (l.getD i em)=kw:=d;rw[je u b d];refine gA Z (zD [] Z (zW ac))
  .have d:(fun x:Lit=>li (x.kind=4)) (l.getD i em)=lc:=d;refine gA Z ⟨b,(aW u b).2 d,[],zW ac⟩
 .have b:=co b;rw[iH (any_none u b)];refine gA Z (zD [] Z (zW ac))
theorem d159(l:List Lit):bV prog 101 [.iv (cW 30 l Lit.c),.dq (.func 195) [] []] [] (pB (l.any (fun x:Lit=>li (x.kind=4)))) [] 0:=by
 refine aB ab func101 Z (by decide) ntmps101 Z (by simp) ?_;refine gA Z (zq [] (i192 l) ?_);refine gA Z (zD [] Z (zM ⟨.of_eq (fO (jY _ l)),rfl,ac⟩ ac))
theorem Wq(p:Prog)(l:List Atom):bV prog 192 [.iv (cW 2 l Atom.c),.dq (.func 163) [] [.ptr 0 0]] [.cells [.iv (de p)]] (pI (tk (fun x:Atom=>lP p x) l)) [(0,io (.cells [.iv (de p)]))] 1:=by
 refine vG (bH func192 Z (by decide)) ⟨_,_,Y8⟩ fun j=>?_;simp only[maxLen]at j;refine aB ab func192 Z (by decide) ntmps192 Z (by simp) ?_;refine gA Z ?_
 refine az 0 l.length (YZ _) (fun i=>⟨[(0,.iv (cW 2 l Atom.c)),(1,.dq (.func 163) [] [.ptr 0 0]),(7,pI l.length),(8,pI i)],[(0,io (.cells [.iv (de p)]))],1⟩) (fun i=>(l.take i).any (fun x:Atom=>lP p x)=lc) [] (by simp)
  (zW (zO trivial)) fun i y u=>?_
 refine zJ Z Z (fun b=>?_) fun b=>?_
 .have b:=ci b;refine gA Z (zq [0] (d113 p (l.getD i em)) ?_);refine zJ Z Z (fun d=>?_) fun d=>?_
  .have d:(fun x:Atom=>lP p x) (l.getD i em)=kw:=d;rw[je u b d];refine gA Z (zD [] Z (zW (zO ac)))
  .have d:(fun x:Atom=>lP p x) (l.getD i em)=lc:=d;refine gA Z ⟨b,(aW u b).2 d,[],zW (zO ac)⟩
 .have b:=co b;rw[iH (any_none u b)];refine gA Z (zD [] Z (zW (zO ac)))
theorem WK(p:Prog)(l:List Atom):bV prog 161 [.iv (cW 2 l Atom.c),.dq (.func 163) [] [.ptr 0 0]] [.cells [.iv (de p)]] (pB (l.any (fun x:Atom=>lP p x))) [(0,io (.cells [.iv (de p)]))] 1:=by
 refine aB ab func161 Z (by decide) ntmps161 Z (by simp) ?_;refine gA Z (zq [0] (Wq p l) ?_);refine gA Z (zD [] Z (zM ⟨.of_eq (fO (jY _ l)),rfl,ac⟩ (zO ac)))
theorem Wp(p:Prog)(l:List Atom):bV prog 192 [.iv (cW 2 l Atom.c),.dq (.func 165) [] [.ptr 0 0]] [.cells [.iv (de p)]] (pI (tk (fun x:Atom=>mZ p x) l)) [(0,io (.cells [.iv (de p)]))] 1:=by
 refine vG (bH func192 Z (by decide)) ⟨_,_,Y8⟩ fun j=>?_;simp only[maxLen]at j;refine aB ab func192 Z (by decide) ntmps192 Z (by simp) ?_;refine gA Z ?_
 refine az 0 l.length (YZ _) (fun i=>⟨[(0,.iv (cW 2 l Atom.c)),(1,.dq (.func 165) [] [.ptr 0 0]),(7,pI l.length),(8,pI i)],[(0,io (.cells [.iv (de p)]))],1⟩) (fun i=>(l.take i).any (fun x:Atom=>mZ p x)=lc) [] (by simp)
  (zW (zO trivial)) fun i y u=>?_
 refine zJ Z Z (fun b=>?_) fun b=>?_
 .have b:=ci b;refine gA Z (zq [0] (d115 p (l.getD i em)) ?_);refine zJ Z Z (fun d=>?_) fun d=>?_
  .have d:(fun x:Atom=>mZ p x) (l.getD i em)=kw:=d;rw[je u b d];refine gA Z (zD [] Z (zW (zO ac)))
  .have d:(fun x:Atom=>mZ p x) (l.getD i em)=lc:=d;refine gA Z ⟨b,(aW u b).2 d,[],zW (zO ac)⟩
 .have b:=co b;rw[iH (any_none u b)];refine gA Z (zD [] Z (zW (zO ac)))
theorem WJ(p:Prog)(l:List Atom):bV prog 161 [.iv (cW 2 l Atom.c),.dq (.func 165) [] [.ptr 0 0]] [.cells [.iv (de p)]] (pB (l.any (fun x:Atom=>mZ p x))) [(0,io (.cells [.iv (de p)]))] 1:=by
 refine aB ab func161 Z (by decide) ntmps161 Z (by simp) ?_;refine gA Z (zq [0] (Wp p l) ?_);refine gA Z (zD [] Z (zM ⟨.of_eq (fO (jY _ l)),rfl,ac⟩ (zO ac)))
def b8(l:Lit):List Atom:=if l.kind=1∨l.kind=2 then[l.atom] else[]
theorem mv: ∀l:List Lit,(l.flatMap b8).length<=l.length
 | []=>by simp
 |x::r=>by
  have b:=mv r;have d:(b8 x).length<=1:=by unfold b8;split<;>simp
  simp only[ZF,YS,Zr];omega
def oZ(r:ae)(lit:Int):List Lit:=if(ak r lit).kind=4 then(ak r lit).ar else[ak r lit]
def bu(r:ae)(lit:Int):List Atom:=if lit<0 then[r.head] else(oZ r lit).flatMap b8
theorem Qa(r:ae)(lit:Int)(h:0<=lit):oH (.dG 30 ((lit+1).toNat-lit.toNat) (fun j=>(r.body.getD (lit.toNat+j) em).c)) (lits [ak r lit]):=by
 have e:(lit+1).toNat-lit.toNat=1:=by omega
 rw[e]
 exact .dG Z (fun j b=>by
  have:j=0:=by omega
  subst this;rfl)
theorem W3(r:ae)(lit:Int)(h1:lit<r.body.length)(hb:r.size<=1000000000000):Pure prog 162 [ag r.c,pI lit] (.iv (cW 2 (bu r lit) Atom.c)):=by
 have S:=Lit.au r.body;have h0:Lit.aA r.body<=r.size:=aar _ _;refine ah ab func162 Z (by decide) ntmps162 Z (by simp) Z ?_;refine zJ Z Z (fun A=>?_) fun A=>?_
 .have A:lit<0:=by simpa using A
  refine gA Z (cx (by first|exact .inr Z|exact .inl Z) Z Z (by rw[bu,am A];rfl) (by rw[bu,am A];rfl))
 have A: ¬lit<0:=by simpa using A
 have hk:lit.toNat<r.body.length:=by omega
 have I:=Lit.aI r.body lit.toNat hk;have b0:=(ak r lit).size_eq;have c0:=Lit.au (ak r lit).ar;have a0:(ak r lit).size<=Lit.aA r.body:=I;refine zJ Z Z (fun B=>?_) fun B=>?_
 .have B:(ak r lit).kind=4:=by simpa[ak]using B
  have y:bu r lit=(ak r lit).ar.flatMap b8:=by rw[bu,be A,oZ,am B]
  refine gA Z ?_;refine fS 6 2 Z ?_;refine az 0 ((ak r lit).ar).length (YZ _) (fun i=>⟨[(6,.sl 2 0 ((((ak r lit).ar).take i).flatMap b8).length 2),(30,.iv (lits ((ak r lit).ar))),(31,pI ((ak r lit).ar).length),(32,pI i)],[(2,io (aG 2 ((((ak r lit).ar).take i).flatMap b8) Atom.c))],3⟩) (fun _=>True) [1] ac
   (zM (bv ⟨.iv (nP _),rfl,bv (bv trivial)⟩) (zS trivial)) fun i Y _=>?_
  have G:=mv (((ak r lit).ar).take i);have J:(((ak r lit).ar).take i).length<=((ak r lit).ar).length:=by rw[ZJ];exact Nat.min_le_right _ _
  have F:((ak r lit).ar).length<=1000000000000:=by first|omega|(rw[Zs];omega)
  refine zJ Z Z (fun d=>?_) fun d=>?_
  .have d:i<((ak r lit).ar).length:=zN d;have b:=bG (f:=b8) d;have j:((((ak r lit).ar).getD i em).kind=1∨(((ak r lit).ar).getD i em).kind=2)->(((ak r lit).ar).take (i+1)).flatMap b8=(((ak r lit).ar).take i).flatMap b8++ [(((ak r lit).ar).getD i em).atom]:=fun h=>by rw[b,b8,am h]
   have D: ¬((((ak r lit).ar).getD i em).kind=1∨(((ak r lit).ar).getD i em).kind=2)->(((ak r lit).ar).take (i+1)).flatMap b8=(((ak r lit).ar).take i).flatMap b8:=fun h=>by rw[b,b8,be h,Zv]
   refine zJ Z Z (fun u=>?_) fun u=>?_
   .have u: ¬(((ak r lit).ar).getD i em).kind=1:=by simpa using u
    refine zJ Z Z (fun x=>?_) fun x=>?_
    .have x:(((ak r lit).ar).getD i em).kind=2:=by simpa using x
     have b:=j (.inr x);refine gA Z ⟨d,ac,[5],zM ⟨.row (by rw[b,YS];rfl),rfl,bv (bv (bv ac))⟩ (hR Z (by rw[b,YX];rfl) Z ac)⟩
    .have x: ¬(((ak r lit).ar).getD i em).kind=2:=by simpa using x
     have b:=D (fun h=>h.elim u x);refine gA Z ⟨d,ac,[2],zM ⟨.row (by rw[b]),rfl,bv (bv (bv ac))⟩ (hR Z (by rw[b]) Z ac)⟩
   .have u:(((ak r lit).ar).getD i em).kind=1:=by simpa using u
    have b:=j (.inl u);refine gA Z ⟨d,ac,[5],zM ⟨.row (by rw[b,YS];rfl),rfl,bv (bv (bv ac))⟩ (hR Z (by rw[b,YX];rfl) Z ac)⟩
  .have d:((ak r lit).ar).length<=i:=zG d;rw[Y1 d] at*
   refine gA Z (cx (by first|exact .inr Z|exact .inl Z) Z Z (by rw[y]) (by rw[y]))
 .have B: ¬(ak r lit).kind=4:=by simpa[ak]using B
  have y:bu r lit=[ak r lit].flatMap b8:=by rw[bu,be A,oZ,be B]
  refine gA Z ?_;refine fS 6 2 Z ?_;refine az 0 ([ak r lit]).length (YZ _) (fun i=>⟨[(6,.sl 2 0 ((([ak r lit]).take i).flatMap b8).length 2),(30,.iv (lits ([ak r lit]))),(31,pI ([ak r lit]).length),(32,pI i)],[(2,io (aG 2 ((([ak r lit]).take i).flatMap b8) Atom.c))],3⟩) (fun _=>True) [1] ac
   (zM (bv ⟨.iv (Qa r lit (by omega)),rfl,.of_eq (FG (by simp only[Zs];omega)),rfl,bv trivial⟩) (zS trivial)) fun i Y _=>?_
  have G:=mv (([ak r lit]).take i);have J:(([ak r lit]).take i).length<=([ak r lit]).length:=by rw[ZJ];exact Nat.min_le_right _ _
  have F:([ak r lit]).length<=1000000000000:=by first|omega|(rw[Zs];omega)
  refine zJ Z Z (fun d=>?_) fun d=>?_
  .have d:i<([ak r lit]).length:=zN d;have b:=bG (f:=b8) d;have j:((([ak r lit]).getD i em).kind=1∨(([ak r lit]).getD i em).kind=2)->(([ak r lit]).take (i+1)).flatMap b8=(([ak r lit]).take i).flatMap b8++ [(([ak r lit]).getD i em).atom]:=fun h=>by rw[b,b8,am h]
   have D: ¬((([ak r lit]).getD i em).kind=1∨(([ak r lit]).getD i em).kind=2)->(([ak r lit]).take (i+1)).flatMap b8=(([ak r lit]).take i).flatMap b8:=fun h=>by rw[b,b8,be h,Zv]
   refine zJ Z Z (fun u=>?_) fun u=>?_
   .have u: ¬(([ak r lit]).getD i em).kind=1:=by simpa using u
    refine zJ Z Z (fun x=>?_) fun x=>?_
    .have x:(([ak r lit]).getD i em).kind=2:=by simpa using x
     have b:=j (.inr x);refine gA Z ⟨d,ac,[5],zM ⟨.row (by rw[b,YS];rfl),rfl,bv (bv (bv ac))⟩ (hR Z (by rw[b,YX];rfl) Z ac)⟩
    .have x: ¬(([ak r lit]).getD i em).kind=2:=by simpa using x
     have b:=D (fun h=>h.elim u x);refine gA Z ⟨d,ac,[2],zM ⟨.row (by rw[b]),rfl,bv (bv (bv ac))⟩ (hR Z (by rw[b]) Z ac)⟩
   .have u:(([ak r lit]).getD i em).kind=1:=by simpa using u
    have b:=j (.inl u);refine gA Z ⟨d,ac,[5],zM ⟨.row (by rw[b,YS];rfl),rfl,bv (bv (bv ac))⟩ (hR Z (by rw[b,YX];rfl) Z ac)⟩
  .have d:([ak r lit]).length<=i:=zG d;rw[Y1 d] at*
   refine gA Z (cx (by first|exact .inr Z|exact .inl Z) Z Z (by rw[y]) (by rw[y]))
theorem d110(p:Prog)(r:ae)(lit:Int)(h1:lit<r.body.length)(hb:r.size<=1000000000000):bV prog 160 [pI lit,.ptr 0 0,.ptr 1 0] [an r.c,.cells [.iv (de p)]] (pB ((bu r lit).any fun x=>lP p x)) [(0,io (an r.c)),(1,io (.cells [.iv (de p)]))] 2:=by
 refine aB ab func160 Z (by decide) ntmps160 Z (by simp) ?_;refine gA Z (zp (W3 r lit h1 hb) ?_);refine gA Z (zq [1] (WK p (bu r lit)) ?_);refine gA Z (zD [] Z (zW (zK (zO ac))))
theorem d114(p:Prog)(r:ae)(lit:Int)(h1:lit<r.body.length)(hb:r.size<=1000000000000):bV prog 164 [pI lit,.ptr 0 0,.ptr 1 0] [an r.c,.cells [.iv (de p)]] (pB ((bu r lit).any fun x=>mZ p x)) [(0,io (an r.c)),(1,io (.cells [.iv (de p)]))] 2:=by
 refine aB ab func164 Z (by decide) ntmps164 Z (by simp) ?_;refine gA Z (zp (W3 r lit h1 hb) ?_);refine gA Z (zq [1] (WJ p (bu r lit)) ?_);refine gA Z (zD [] Z (zW (zK (zO ac))))
def dD(r:ae)(lit:Int):Bool:=if lit<0 then r.head.ad.any fun x=>li (x.kind=3) else if(ak r lit).kind=4 then((ak r lit).ar.any fun x=>li (x.kind=4))||aE (bb (ak r lit).agg) (ak r lit).a7 else lc
theorem Yz(r:ae)(lit:Int)(h1:lit<r.body.length)(hb:r.size<=100000000):Pure prog 167 [ag r.c,pI lit] (pB (dD r lit)):=by
 have F:=Lit.au r.body;have S:Lit.aA r.body<=r.size:=aar _ _;refine ah ab func167 Z (by decide) ntmps167 Z (by simp) Z ?_;refine zJ Z Z (fun b=>?_) fun b=>?_
 .have b:lit<0:=by simpa using b
  refine gA Z (zq [] (d157 r.head.ad) ?_);refine gA Z (zL (.of_eq ?_));rw[dD,am b];rfl
 have b: ¬lit<0:=by simpa using b
 have G:lit.toNat<r.body.length:=by omega
 have A:=Lit.aI r.body lit.toNat G;have B:=(ak r lit).fz;have I:(ak r lit).size<=Lit.aA r.body:=A;have D:=mV (ak r lit).agg;refine zJ Z Z (fun d=>?_) fun d=>?_
 .have d: ¬(ak r lit).kind=4:=by simpa[ak]using d
  refine gA Z (zL (.of_eq ?_));rw[dD,be b,be d]
 have d:(ak r lit).kind=4:=by simpa[ak]using d
 refine gA Z (bI [] (bV.le (aa:=[.iv (EZ (ak r lit).ar),.dq (.func 195) [] []]) (d159 (ak r lit).ar) ⟨.iv (nP _),.refl _,ac⟩) Z Z Z Z Z Z Z Z ?_);refine zE Z Z (fun j=>?_) fun j=>?_
 .have j:((ak r lit).ar.any fun x=>li (x.kind=4))=lc:=j;have y:=bB (bb (ak r lit).agg) (ak r lit).a7;have u:=cG (occ:=bb (ak r lit).agg) (s:=(ak r lit).a7);refine gA Z (zd [] (d127 (ak r lit).agg (by omega)) ?_);refine gA Z (zL (.of_eq ?_));refine(fO ?_:pB (li (bU .str (aC (bb (ak r lit).agg)) (ak r lit).a7 0>0))=_);rw[dD,be b,am d,j,u,y,Z7];by_cases J:rS (bb (ak r lit).agg) (ak r lit).a7=0<;>simp[J];omega
 .have j:((ak r lit).ar.any fun x=>li (x.kind=4))=kw:=j;refine gA Z (zL (.of_eq ?_));rw[dD,be b,am d,j];rfl
theorem d116(r:ae)(lit:Int)(h1:lit<r.body.length)(hb:r.size<=100000000):bV prog 166 [pI lit,.ptr 0 0] [an r.c] (pB (dD r lit)) [(0,io (an r.c))] 1:=by
 refine aB ab func166 Z (by decide) ntmps166 Z (by simp) ?_;refine gA Z (zp (Yz r lit h1 hb) ?_);refine gA Z (zD [] Z (zW (zK ac)))
def ft(r:ae)(lit:Int):Pos:=if lit<0 then r.at_ else(ak r lit).at
theorem MP(r:ae)(lit:Int)(h1:lit<r.body.length):Pure prog 171 [ag r.c,pI lit] (ag [iI (ft r lit).line,iI (ft r lit).zr]):=by
 refine ah ab func171 Z (by decide) ntmps171 Z (by simp) Z ?_;refine zJ Z Z (fun b=>?_) fun b=>?_
 .have b:lit<0:=by simpa using b
  refine gA Z (zL (.of_eq ?_));rw[ft,am b];rfl
 have b: ¬lit<0:=by simpa using b
 refine gA Z (zL (.of_eq ?_));rw[ft,be b];rfl
def kv(r:ae)(l:Lit):Nat:=if l.kind=4 then(lH r l.agg).length else 0
def tV(r:ae):Nat:=r.body.foldl (fun n l=>n+kv r l) (aC (ay r)).length
theorem vn(r:ae)(l:Lit):kv r l<=l.size:=by
 unfold kv;split
 .have b:(lH r l.agg).length<=(aC (bb l.agg)).length:=Z4 _ _;have d:=kJ (bb l.agg);have j:=mV l.agg;have u:=l.fz;omega
 .omega
theorem xx(r:ae): ∀(l:List Lit) (n:Nat),l.foldl (fun n l=>n+kv r l) n<=n+Lit.aA l
 | [],n=>by simp
 |x::t,n=>by
  have b:=xx r t (n+kv r x);have d:=vn r x;simp only[Zn,Lit.aA];omega
theorem YA(r:ae)(hb:r.size<=100000000):Pure prog 159 [.iv (c9 r)] (pI (tV r)):=by
 have A:=Lit.au r.body;have I:Lit.aA r.body<=r.size:=aar _ _;have S:=oQ r;have B:=kJ (ay r);refine ah ab func159 Z (by decide) ntmps159 Z (by simp) Z ?_;refine gA Z ?_;refine az 0 r.body.length (YZ _) (fun i=>⟨[(0,.iv (c9 r)),(3,pI (((r.body.take i).foldl (fun n l=>n+kv r l) (aC (ay r)).length:Nat))),(15,.iv (lits r.body)),(16,pI r.body.length),(17,pI i)],[],0⟩) (fun _=>True) [] ac
  (zW trivial) fun i J _=>?_
 have D:=xx r (r.body.take i) (aC (ay r)).length;have F:=Lit.sP r.body i;refine zJ Z Z (fun d=>?_) fun d=>?_
 .have d:=ci d;have u:=cH (g:=fun n l=>n+kv r l) (b:=(aC (ay r)).length) d;have G:=Lit.aI r.body i d;have y:=(r.body.getD i em).fz;have x:=vn r (r.body.getD i em);refine zJ Z Z (fun j=>?_) fun j=>?_
  .have j:(r.body.getD i em).kind=4:=by simpa using j
   rw[kv,am j]at u x;refine gA Z (zq [] (d79 r (r.body.getD i em).agg (by omega)) ?_);refine gA Z ⟨d,ac,[],zM (bv ⟨.of_eq (FG (by rw[u];rfl)),rfl,bv (bv (bv ac))⟩) ac⟩
  .have j: ¬(r.body.getD i em).kind=4:=by simpa using j
   rw[kv,be j]at u;refine gA Z ⟨d,ac,[],zM (bv ⟨.of_eq (FG (by rw[u];rfl)),rfl,bv (bv (bv ac))⟩) ac⟩
 .have d:=co d;refine gA Z (zL (.of_eq ?_));rw[Y1 d];rfl
section
section
variable {may:List aj->Expr->Bool} {more:List aj->eL->Bool} {body:List Lit}
theorem wh: ∀(n:Nat) (occ:List aj),bN (bL body) occ<n->cL (may (dS may more body n occ)) (more (dS may more body n occ)) (dS may more body n occ) body=jp
 |0,occ,h=>by omega
 |n+1,occ,h=>by
  cases hv:cL (may occ) (more occ) occ body with
  |none=>rw[fY hv];exact hv
  |some v=>
   rw[fX hv];refine wh n _ ?_;obtain⟨g1,g2⟩:=mN hv;have d:=oV g1 g2;have b:bN (bL body) (occ++ [v])=bN (bL body) (b6 occ v):=by
    unfold bN;congr 2
    funext x
    congr 1;rw[ZE,aM,aM,cq,Y6,Y4]
   omega
theorem wm(occ:List aj):cL (may (cQ may more body occ)) (more (cQ may more body occ)) (cQ may more body occ) body=jp:=by
 refine wh _ _ ?_;have b:=oW (bL body) (occ++body.flatMap bQ);have d:=jN body;omega
theorem qO: ∀(n:Nat) (occ:List aj),∀x∈occ,x∈dS may more body n occ
 |0,occ,x,h=>h
 |n+1,occ,x,h=>by
  cases hv:cL (may occ) (more occ) occ body with
  |none=>rw[fY hv];exact h
  |some v=>rw[fX hv];exact qO n _ x (Zt _ h)
theorem qF{m1:Expr->Bool}{m2:eL->Bool}{occ:List aj}: ∀{l:List Lit},cL m1 m2 occ l=jp-> ∀x∈l,my m1 m2 occ x=jp
 | [],_,x,hx=>by cases hx
 |y::r,h,x,hx=>by
  simp only[cL]at h;split at h
  .cases h
  .rename_i b;rcases Za.1 hx with rfl|hx
   .exact b
   .exact qF h x hx
theorem v8{m1:Expr->Bool}{m2:eL->Bool}{occ:List aj}{v:aj}: ∀{l:List Lit},cL m1 m2 occ l=io v-> ∃x∈l,my m1 m2 occ x=io v
 | [],h=>by cases h
 |y::r,h=>by
  simp only[cL]at h;split at h
  .rename_i w d;exact⟨y,Y8,d.trans h⟩
  .obtain⟨x,j,b⟩:=v8 h;exact⟨x,Y7 _ j,b⟩
variable (hmay: ∀a b:List aj,(∀x∈a,x∈b)-> ∀e,may a e=kw->may b e=kw) (hmore: ∀a b:List aj,(∀x∈a,x∈b)-> ∀e,more a e=kw->more b e=kw)
include hmay hmore
theorem Hh{occ C:List aj}(b: ∀x∈occ,x∈C){l:Lit}{v:aj}(h:my (may occ) (more occ) occ l=io v)(hC:my (may C) (more C) C l=jp):v∈C:=by
 have D: ∀y,y∉C->aE C y=lc:=fun y I=>dY.2 I;have hnew:=(xY h).2;refine Z8 fun F=>?_;unfold my at h hC;by_cases d:(gj (may occ) occ l).2=kw
 .rw[am d]at h;simp only[YT]at h;have B:(gj (may C) C l).2=kw:=by
   unfold gj at d h ⊢;split at d
   .cases d
   .rename_i G;rw[be G]at h ⊢;split at d
    .rename_i u;rw[am u]at h;have A:l.left.var=v:=h;rw[am ⟨u.1,by rw[A];exact D v F,hmay occ C b _ u.2.2⟩]
    .rename_i u;rw[be u]at h;split at d
     .rename_i j;rw[am j]at h;have A:l.right.var=v:=h;split
      .rfl
      .rw[am ⟨j.1,by rw[A];exact D v F,hmay occ C b _ j.2.2⟩]
     .cases d
  rw[am B]at hC;cases hC
 .rw[be d]at h;split at h
  .rename_i j;simp only[YT]at h;split at hC
   .cases hC
   .rw[am ⟨j.1,by rw[h];exact D v F,hmore occ C b _ j.2.2⟩]at hC;cases hC
  .cases h
theorem qN{C:List aj}(hC:cL (may C) (more C) C body=jp): ∀(n:Nat) (occ:List aj),(∀x∈occ,x∈C)-> ∀x∈dS may more body n occ,x∈C
 |0,occ,h,x,hx=>h x hx
 |n+1,occ,h,x,hx=>by
  cases hv:cL (may occ) (more occ) occ body with
  |none=>rw[fY hv]at hx;exact h x hx
  |some v=>
   rw[fX hv]at hx;refine qN hC n _ (fun y hy=>?_) x hx;rcases Y6.1 hy with hy|hy
   .exact h y hy
   .rw[Y4]at hy;subst hy;obtain⟨l,d,b⟩:=v8 hv;exact Hh hmay hmore h b (qF hC l d)
theorem wi{d b:List aj}(h: ∀x∈d,x∈b): ∀x∈cQ may more body d,x∈cQ may more body b:=by
 refine qN hmay hmore (wm b) _ _ fun x hx=>?_;refine qO _ _ x ?_;rcases Y6.1 hx with hx|hx
 .exact Zt _ (h x hx)
 .exact aal _ hx
end
theorem lM(a b:List aj)(h: ∀x∈a,x∈b)(e:Expr)(hc:aU a e=kw):aU b e=kw:=by
 unfold aU at*
 rw[Zj] at*
 exact fun x d=>aM.2 (h x (aM.1 (hc x d)))
theorem DF(a b:List aj)(h: ∀x∈a,x∈b)(e:Expr)(hc:c7 a e=kw):c7 b e=kw:=by
 unfold c7 at*
 cases hk:li (e.kind=2) with
 |true=>simp
 |false=>
  rw[hk,Z7,Zf]at hc;rw[Z7,Zf];exact⟨hc.1,aM.2 (h _ (aM.1 hc.2))⟩
theorem FP(out:List aj)(a b:List aj)(h: ∀x∈a,x∈b)(e:eL)(hc:iZ out a e=kw):iZ out b e=kw:=by
 unfold iZ at*
 rw[Zj] at*
 intro x d;have:=hc x d;rw[aac,aac] at*
 rcases this with h1|h1|h1
 .exact .inl h1
 .exact .inr (.inl h1)
 .exact .inr (.inr (aM.2 (h _ (aM.1 h1))))
def yi(r:ae)(a:eL):List aj:=((aC (bb a)).map (·.1)).filter fun x=>aE (ay r) x
def B1(r:ae)(a:eL):List aj:=cQ (fun b=>aU b) (fun _=>fun _=>lc) a.body (yi r a)
theorem PY{r:ae}{a:eL}{occ:List aj}(h:LO r a occ)(s:aj):aE (cQ (fun occ=>aU occ) (fun _=>fun _=>lc) a.body occ) s=aE (B1 r a) s:=by
 have d: ∀x,x∈yi r a↔x∈occ:=fun x=>by
  unfold yi;rw[Zw,(ck (bb a)).2 x,aM,h.2 x]
 rw[ZE,aM,aM];exact⟨wi (more:=fun _=>fun _=>lc) lM (fun _ _ _ _ h=>h) (fun x b=>(d x).2 b) s,wi (more:=fun _=>fun _=>lc) lM (fun _ _ _ _ h=>h) (fun x b=>(d x).1 b) s⟩
def te(r:ae)(m:NM):Bool:=m.any fun x=>!aE (ch r) x.1
theorem qq{r:ae}{m:NM}(h: ∀j,j<m.length-> ∀x,m[j]? =io x->aE (ch r) x.1=kw):te r m=lc:=by
 refine ZL.2 fun x d=>?_;obtain⟨j,b⟩:=ZO d;rw[h j (YV.1 b).1 x b];simp
theorem td{r:ae}{m:NM}{j:Nat}{x:(KC.str).K×Int}(h:m[j]? =io x)(b:aE (ch r) x.1=lc):te r m=kw:=
 ZG.2 ⟨x,Zm h,by rw[b];rfl⟩
def mE(r:ae)(a:eL):NM:=(aC (bb a)).filter fun x=>!aE ((lH r a).map (·.1)) x.1
def dM(r:ae)(lit:Int):Bool:=
 if lit<0 then te r (aC (cI r.head))
 else if(ak r lit).kind=4 then(lH r (ak r lit).agg).any (fun x=>!aE (B1 r (ak r lit).agg) x.1)||te r (bump (mE r (ak r lit).agg) (ak r lit).a7)
 else te r (aC (cf (ak r lit)))
theorem XH(a:Atom)(hb:a.ad.length<=100000000000):bV prog 135 [.mp 0,ag a.c] [.gH] (.bM []) [(0,io (ct (aC (cI a))))] 1:=
 bV.SH (d88 [] a (by simp;omega)) ⟨wZ,ac⟩
theorem XG(l:Lit)(hb:l.size<=100000000000):bV prog 136 [.mp 0,ag l.c] [.gH] (.bM []) [(0,io (ct (aC (cf l))))] 1:=
 bV.SH (d89 l [] (by simp;omega)) ⟨wZ,ac⟩
theorem Ay(f:aj->Bool)(s:aj): ∀(m:NM),bU .str (m.filter fun x=>f x.1) s 0=if f s=kw then bU .str m s 0 else 0
 | []=>by simp[bU]
 |(a,b)::r=>by
  have d:=Ay f s r;cases hf:f a with
  |true=>
   rw[List.filter_cons_of_pos (by exact hf)];simp only[bU];split
   .rename_i h;subst h;rw[am hf]
   .exact d
  |false=>
   rw[List.filter_cons_of_neg (by simp[hf]),d];simp only[bU];split
   .rename_i h;split
    .rename_i j;subst j;rw[hf]at h;cases h
    .rfl
   .rfl
theorem P7(r:ae)(a:eL)(s:aj):0<=bU .str (mE r a) s 0∧bU .str (mE r a) s 0<=rS (bb a) s:=by
 have b:=bB (bb a) s;have d:=Ay (fun x=>!aE ((lH r a).map (·.1)) x) s (aC (bb a));unfold mE;rw[d,b];split<;>omega
set_option maxHeartbeats 2000000 in
theorem Yx(r:ae)(lit:Int)(hl:lit<r.body.length)(hb:r.size<=10000000):Pure prog 170 [.iv (c9 r),pI lit] (pB (dM r lit)):=by
 have t0:=Lit.au r.body;have h0:Lit.aA r.body<=r.size:=aar _ _;have q0:r.head.ad.length<=r.size:=Nat.le_add_right _ _;have y0:=FY r;refine ah ab func170 Z (by decide) ntmps170 Z (by simp) Z ?_;refine gA Z (zq [] (d73 r (by omega)) ?_);refine zJ Z Z (fun F=>?_) fun F=>?_
 .have F:lit<0:=by simpa using F
  refine gA Z (zq [1] (XH r.head (by omega)) ?_);refine gA Z ?_;have e0:(aC (cI r.head)).length<=1000000000000:=by have:=kJ (cI r.head);have:=iA r.head;omega
  refine jv (aC (cI r.head)) (fun d=>⟨[(5,.mp 0),(76,.ptr 2 0)],[(0,io (ct (aC (ch r)))),(2,io (.cC .str A5 (aC (cI r.head)) d jp))],3⟩) (fun d=> ∀j∈d,∀x,(aC (cI r.head))[j]? =io x->aE (ch r) x.1=kw) [] (by simp)
   (zW (zC (hI Z Z (.inl Z) Z trivial))) fun d G=>?_
  refine nS Z ac (fU Z Z Z Z Z (by decide) (fun u=>?_) fun j x b B=>?_)
  .refine gA Z (zL (.of_eq ?_));refine(fO ?_:pB lc=_);rw[dM,am F,qq fun j B x b=>G j (u j B) x b]
  .have Y:=bB (ch r) x.1;have A:=cG (occ:=ch r) (s:=x.1);refine zJ Z Z (fun g1=>?_) fun g1=>?_
   .have g1:aE (ch r) x.1=lc:=by
     have:=zT g1;rw[A];simp;omega
    refine gA Z (zL (.of_eq ?_));refine(fO ?_:pB kw=_);rw[dM,am F,td b g1]
   .have g1:aE (ch r) x.1=kw:=by
     have:=zF g1;rw[A];simp;omega
    refine gA Z ?_
    exact⟨j,x,b,B,fun i hi y D=>by
     rcases Za.1 hi with rfl|hi
     .rw[b]at D;cases D;exact g1
     .exact G i hi y D,[],zW (zC (hI Z Z (.inr Z) Z ac))⟩
 have F: ¬lit<0:=by simpa using F
 have hk:lit.toNat<r.body.length:=by omega
 have p0:=Lit.aI r.body lit.toNat hk;have r0:=(ak r lit).fz;have w0:(ak r lit).size<=Lit.aA r.body:=p0;have s0:=mV (ak r lit).agg;have n0:=o6 (ak r lit);refine zE Z Z (fun I=>?_) fun I=>?_
 .have I: ¬(ak r lit).kind=4:=by simpa[ak]using I
  refine gA Z (zq [1] (XG (ak r lit) (by omega)) ?_);refine gA Z ?_;have e0:(aC (cf (ak r lit))).length<=1000000000000:=by have:=kJ (cf (ak r lit));omega
  refine jv (aC (cf (ak r lit))) (fun d=>⟨[(5,.mp 0),(76,.ptr 3 0)],[(0,io (ct (aC (ch r)))),(3,io (.cC .str A5 (aC (cf (ak r lit))) d jp))],4⟩) (fun d=> ∀j∈d,∀x,(aC (cf (ak r lit)))[j]? =io x->aE (ch r) x.1=kw) [] (by simp)
   (zW (zC (hI Z Z (.inl Z) Z trivial))) fun d G=>?_
  refine nS Z ac (fU Z Z Z Z Z (by decide) (fun u=>?_) fun j x b B=>?_)
  .refine gA Z (zL (.of_eq ?_));refine(fO ?_:pB lc=_);rw[dM,be F,be I,qq fun j B x b=>G j (u j B) x b]
  .have Y:=bB (ch r) x.1;have A:=cG (occ:=ch r) (s:=x.1);refine zJ Z Z (fun g1=>?_) fun g1=>?_
   .have g1:aE (ch r) x.1=lc:=by
     have:=zT g1;rw[A];simp;omega
    refine gA Z (zL (.of_eq ?_));refine(fO ?_:pB kw=_);rw[dM,be F,be I,td b g1]
   .have g1:aE (ch r) x.1=kw:=by
     have:=zF g1;rw[A];simp;omega
    refine gA Z ?_
    exact⟨j,x,b,B,fun i hi y D=>by
     rcases Za.1 hi with rfl|hi
     .rw[b]at D;cases D;exact g1
     .exact G i hi y D,[],zW (zC (hI Z Z (.inr Z) Z ac))⟩
 have I:(ak r lit).kind=4:=by simpa[ak]using I
 refine gA Z (HE [] (d161 r (ak r lit).agg (by omega)) Z Z Z Z Z Z Z fun q h' n' hR=>?_);obtain⟨ok,⟨occ,i0,o0⟩,rfl,rfl,rfl⟩:=hR;have a0: ∀s,aE ok s=aE (B1 r (ak r lit).agg) s:=fun s=>by rw[o0];exact PY i0 s
 refine⟨_,rfl,?_⟩;have a1:=kJ (bb (ak r lit).agg);have x0:(lH r (ak r lit).agg).length<=(aC (bb (ak r lit).agg)).length:=Z4 _ _;have v0:(mE r (ak r lit).agg).length<=(aC (bb (ak r lit).agg)).length:=Z4 _ _;have j0:=(ck (bb (ak r lit).agg)).1;refine gA Z (zq [] (d79 r (ak r lit).agg (by omega)) ?_);refine gA Z ?_;refine jv (lH r (ak r lit).agg) (fun d=>⟨[(0,.iv (c9 r)),(5,.mp 0),(7,.ptr 2 0),(8,.mp 3),(43,.ptr 5 0)],[(0,io (ct (aC (ch r)))),(2,io (an (ak r lit).c)),(3,io (ct (aC ok))),(5,io (.cC .str A5 (lH r (ak r lit).agg) d jp))],6⟩) (fun d=> ∀j∈d,∀x,(lH r (ak r lit).agg)[j]? =io x->aE (B1 r (ak r lit).agg) x.1=kw) [] (by simp)
  (zW (zC (zK (zC (hI Z Z (.inl Z) Z trivial))))) fun d G=>?_
 refine nS Z ac (fU Z Z Z Z Z (by decide) (fun u=>?_) fun j x b B=>?_);rotate_left
 .have Y:=bB ok x.1;have A:=cG (occ:=ok) (s:=x.1);have J:=a0 x.1;refine zJ Z Z (fun g1=>?_) fun g1=>?_
  .have g1:aE (B1 r (ak r lit).agg) x.1=lc:=by
    have:=zT g1;rw[<-J,A];simp;omega
   refine gA Z (zL (.of_eq ?_));refine(fO ?_:pB kw=_);rw[dM,be F,am I,ZG.2 ⟨x,Zm b,by rw[g1];rfl⟩,abm]
  .have g1:aE (B1 r (ak r lit).agg) x.1=kw:=by
    have:=zF g1;rw[<-J,A];simp;omega
   refine gA Z ?_
   exact⟨j,x,b,B,fun i hi y D=>by
    rcases Za.1 hi with rfl|hi
    .rw[b]at D;cases D;exact g1
    .exact G i hi y D,[],zW (zC (zK (zC (hI Z Z (.inr Z) Z ac))))⟩
 have hA:(lH r (ak r lit).agg).any (fun x=>!aE (B1 r (ak r lit).agg) x.1)=lc:=ZL.2 fun x b=>by
  obtain⟨j,B⟩:=ZO b;rw[G j (u j (YV.1 B).1) x B];simp
 refine gA Z (zq [] (d127 (ak r lit).agg (by omega)) ?_);refine gA Z (zq [] (d79 r (ak r lit).agg (by omega)) ?_);refine gA Z ?_;refine jv (lH r (ak r lit).agg) (fun d=>⟨[(5,.mp 0),(6,.mp 6),(7,.ptr 2 0),(59,.ptr 8 0)],[(0,io (ct (aC (ch r)))),(2,io (an (ak r lit).c)),(6,io (ct ((jt (lH r (ak r lit).agg) d).foldl (fun m k=>pN .str m k) (aC (bb (ak r lit).agg))))),(8,io (.cC .str A5 (lH r (ak r lit).agg) d jp))],9⟩) (fun d=>d.Nodup∧ ∀j∈d,j<(lH r (ak r lit).agg).length) [] ⟨ZT,by simp⟩
  (zW (zC (zK (zC (hI Z Z (.inl Z) Z trivial))))) fun b0 f0=>?_
 obtain⟨c0,d0⟩:=f0;refine nS Z ac (fU Z Z Z Z Z (by decide) (fun S=>?_) fun j x b B=>?_);rotate_left
 .have hk:=nv (lH r (ak r lit).agg) b0 j x b;refine gA Z ⟨j,x,b,B,⟨aad.2 ⟨B,c0⟩,fun i hi=>(Za.1 hi).elim (fun h=>h▸(YV.1 b).1) (d0 i)⟩,[],zW (zC (zK (hM Z (by rw[hk,aao];rfl) Z (hI Z Z (.inr Z) Z ac))))⟩
 have k0:(jt (lH r (ak r lit).agg) b0).foldl (fun m k=>pN .str m k) (aC (bb (ak r lit).agg))=mE r (ak r lit).agg:=by
  rw[qL _ j0];unfold mE;congr 1
  funext x
  congr 1;rw[ZE,aM,aM,(mD _ b0 c0 d0 S).mem_iff]
 rw[k0];have m0:=P7 r (ak r lit).agg (ak r lit).a7;have g0:=eY (bb (ak r lit).agg) (ak r lit).a7;refine gA Z ?_;have e0:(bump (mE r (ak r lit).agg) (ak r lit).a7).length<=1000000000000:=by have:=xN (mE r (ak r lit).agg) (ak r lit).a7 (bU .str (mE r (ak r lit).agg) (ak r lit).a7 0+1);unfold bump;omega
 refine jv (bump (mE r (ak r lit).agg) (ak r lit).a7) (fun d=>⟨[(5,.mp 0),(76,.ptr 9 0)],[(0,io (ct (aC (ch r)))),(9,io (.cC .str A5 (bump (mE r (ak r lit).agg) (ak r lit).a7) d jp))],10⟩) (fun d=> ∀j∈d,∀x,(bump (mE r (ak r lit).agg) (ak r lit).a7)[j]? =io x->aE (ch r) x.1=kw) [] (by simp)
  (zW (zC (hI Z Z (.inl Z) Z trivial))) fun d G=>?_
 refine nS Z ac (fU Z Z Z Z Z (by decide) (fun u=>?_) fun j x b B=>?_)
 .refine gA Z (zL (.of_eq ?_));refine(fO ?_:pB lc=_);rw[dM,be F,am I,hA,Z7,qq fun j B x b=>G j (u j B) x b]
 .have Y:=bB (ch r) x.1;have A:=cG (occ:=ch r) (s:=x.1);refine zJ Z Z (fun g1=>?_) fun g1=>?_
  .have g1:aE (ch r) x.1=lc:=by
    have:=zT g1;rw[A];simp;omega
   refine gA Z (zL (.of_eq ?_));refine(fO ?_:pB kw=_);rw[dM,be F,am I,hA,Z7,td b g1]
  .have g1:aE (ch r) x.1=kw:=by
    have:=zF g1;rw[A];simp;omega
   refine gA Z ?_
   exact⟨j,x,b,B,fun i hi y D=>by
    rcases Za.1 hi with rfl|hi
    .rw[b]at D;cases D;exact g1
    .exact G i hi y D,[],zW (zC (hI Z Z (.inr Z) Z ac))⟩
end
end Go.Proofs.YtflegjieadkonaaGreatDoor
namespace Go.Proofs.YtflegjieadkonaaGreatDoor
open Go Go.Al
def JP(a b:aj):Prop:=pJ a<pJ b
theorem Be(a b:aj):Op.bytesLess a.toList b.toList=kw↔JP a b:=by
 rw[ByteArray.toList_eq,ByteArray.toList_eq,bytesLess_eq,decide_eq_true_eq];rfl
theorem By{a b:aj}(h:pJ a=pJ b):a=b:=by rw[<-wV a,<-wV b,h]
theorem vl{a b c:aj}(h:JP a b)(k:JP b c):JP a c:=List.lt_trans h k
theorem ku(a:aj): ¬JP a a:=List.lt_irrefl _
theorem Hi{a b:aj}(h: ¬a=b)(k: ¬JP a b):JP b a:=by
 refine Z8 fun d=>h (By (abS ?_ ?_))
 .exact acf.1 d
 .exact acf.1 k
abbrev pR(l:List aj):Prop:=l.Pairwise JP
theorem tj: ∀{l:List aj} (_:pR l) (s:aj),pR (ins l s)
 | [],_,s=>List.pairwise_singleton _ _
 |x::r,h,s=>by
  obtain⟨j,u⟩:=aaj.1 h;simp only[ins];split
  .exact h
  .rename_i d;split
   .rename_i b;have b:=(Be x s).1 b;refine aaj.2 ⟨fun y hy=>?_,tj u s⟩;rcases wY.1 hy with hy|rfl
    .exact j y hy
    .exact b
   .rename_i b;have b:JP s x:=Hi d fun h=>b ((Be x s).2 h);refine aaj.2 ⟨fun y hy=>?_,h⟩;rcases Za.1 hy with rfl|hy
    .exact b
    .exact vl b (j y hy)
theorem jR{l:List aj}(h:pR l)(s:aj):pR (b6 l s):=by rw[q9];exact tj h s
theorem fk: ∀{m l:List aj} (_:pR l),pR (cv l m)
 | [],_,h=>h
 |x::r,_,h=>fk (m:=r) (jR h x)
theorem me: ∀{a b:List aj},pR a->pR b->(∀x,x∈a↔x∈b)->a=b
 | [],[],_,_,_=>rfl
 | [],y::s,_,_,h=>by have:=(h y).2 Y8;cases this
 |x::r,[],_,_,h=>by have:=(h x).1 Y8;cases this
 |x::r,y::s,ha,hb,h=>by
  obtain⟨u,a2⟩:=aaj.1 ha;obtain⟨A,B⟩:=aaj.1 hb;have j:x=y:=by
   rcases Za.1 ((h x).1 Y8) with h1|h1
   .exact h1
   .rcases Za.1 ((h y).2 Y8) with h2|h2
    .exact h2.symm
    .exact absurd (vl (A x h1) (u y h2)) (ku _)
  subst j;rw[me a2 B fun z=>?_];constructor
  .intro d;rcases Za.1 ((h z).1 (Y7 _ d)) with rfl|h3
   .exact absurd (u z d) (ku _)
   .exact h3
  .intro d;rcases Za.1 ((h z).2 (Y7 _ d)) with rfl|h3
   .exact absurd (A z d) (ku _)
   .exact h3
theorem fL{l:List aj}(h:l.Nodup):pR (eN l):=by
 have u:=ko (l.map pJ);rw[<-uU]at u;have D:(eN l).Nodup:=by
  have F:((eN l).map pJ).Perm (l.map pJ):=by rw[uU];exact gQ _
  have j:(l.map pJ).Nodup:=List.Pairwise.map pJ (fun a b d e=>d (By e)) h;have:=F.nodup_iff.2 j;exact List.Pairwise.of_map pJ (fun a b d e=>d (by rw[e])) this
 have x:(eN l).Pairwise fun a b=>pJ a<=pJ b:=(List.pairwise_map.1 u).imp fun{a b} d=>zT d;refine(List.Pairwise.and x D).imp fun{a b} d=>?_;obtain⟨y,A⟩:=d;exact Z8 fun B=>A (By (abS y (acf.1 B)))
theorem GC{m:NM}{l:List aj}(hm:(m.map (·.1)).Nodup)(b:pR l)(h: ∀x,x∈m.map (·.1)↔x∈l):ff m=l:=by
 refine me (fL hm) b fun x=>?_;rw[ff,gn];exact h x
theorem CY{occ l:List aj}(b:pR l)(h: ∀x,x∈occ↔x∈l):ff (aC occ)=l:=
 GC (ck occ).1 b fun x=>((ck occ).2 x).trans (h x)
theorem r8{x:aj}: ∀{l:List Term} {a:List aj},x∈l.foldl kZ a↔x∈a∨x∈l.flatMap fun t=>if t.kind=1 then[t.var] else[]
 | [],a=>by simp
 |t::r,a=>by
  rw[Zn,r8,ZF,Y6];unfold kZ;split
  .rw[cq,Y4,or_assoc]
  .simp
theorem fP{x:aj}{a:Atom}:x∈bj a↔x∈cI a:=by
 unfold bj cI;rw[r8];simp
mutual
theorem di{x:aj}: ∀{e:Expr},x∈aH e↔x∈bC e
 | .mk k v _ _ args=>by
  simp only[aH,bC];split
  .rw[cq];simp
  .split
   .rw[r9];simp
   .rfl
theorem r9{x:aj}: ∀{l:List Expr} {a:List aj},x∈gq a l↔x∈a∨x∈jf l
 | [],a=>by simp[gq,jf]
 |e::r,a=>by
  simp only[gq,jf];rw[r9,ie,di,Y6,or_assoc]
end
theorem ja{x:aj}{l:Lit}:x∈cm l↔x∈cf l:=by
 unfold cm cf;split
 .exact fP
 .split
  .rw[ie,di,di,Y6]
  .rfl
theorem fu{x:aj}{a:eL}:x∈aF a↔x∈bb a:=by
 unfold aF bb;have key: ∀(l:List Lit) (b:List aj),x∈l.foldl JN b↔x∈b∨x∈l.flatMap cf:=by
  intro l
  induction l with
  |nil=>simp
  |cons y r ih=>
   intro b;rw[Zn,ih,ZF,Y6,ie,ja,or_assoc]
 rw[key,Y6];split
 .rfl
 .rw[di]
theorem jI{x:aj}{r:ae}:x∈outer r↔x∈ay r:=by
 unfold outer ay;have key: ∀(l:List Lit) (b:List aj),x∈l.foldl ve b↔x∈b∨x∈l.flatMap fb:=by
  intro l
  induction l with
  |nil=>simp
  |cons y r ih=>
   intro b;rw[Zn,ih,ZF,Y6];by_cases d:y.kind=4
   .rw[DK d,show fb y=cf y++ [y.a7] by unfold fb;rw[am d],cq,ie,ja,Y6,Y4];simp only[or_assoc]
   .rw[DN d,show fb y=cf y by unfold fb;rw[be d,Zv],ie,ja,or_assoc]
 rw[key,Y6,fP]
theorem wL(a:Atom):pR (bj a):=by
 have key: ∀(l:List Term) (b:List aj),pR b->pR (l.foldl kZ b):=by
  intro l
  induction l with
  |nil=>exact fun _ h=>h
  |cons t r ih=>
   intro b h;rw[Zn];refine ih _ ?_;unfold kZ;split
   .exact jR h _
   .exact h
 exact key _ _ aaC
theorem BW(r:ae):pR (outer r):=by
 have key: ∀(l:List Lit) (b:List aj),pR b->pR (l.foldl ve b):=by
  intro l
  induction l with
  |nil=>exact fun _ h=>h
  |cons t r ih=>
   intro b h;rw[Zn];refine ih _ ?_;unfold ve;split
   .exact jR (fk h) _
   .exact fk h
 exact key _ _ (wL _)
theorem xo(r:ae):ff (aC (ay r))=outer r:=CY (BW r) fun _=>jI.symm
theorem rA{a b:List aj}(h: ∀x,x∈a↔x∈b)(x:aj):aE a x=aE b x:=by
 rw[ZE,aM,aM];exact h x
theorem wG: ∀(e:Expr),pR (aH e)
 | .mk k v _ _ args=>by
  simp only[aH];split
  .exact jR aaC _
  .split
   .rw[lL];have key: ∀(l:List Expr) (b:List aj),pR b->pR (l.foldl (fun a e=>cv a (aH e)) b):=by
     intro l
     induction l with
     |nil=>exact fun _ h=>h
     |cons t r ih=>intro b h;exact ih _ (fk h)
    exact key _ _ aaC
   .exact aaC
theorem Cf(a:eL):pR (aF a):=by
 have key: ∀(l:List Lit) (b:List aj),pR b->pR (l.foldl JN b):=by
  intro l
  induction l with
  |nil=>exact fun _ h=>h
  |cons t r ih=>intro b h;exact ih _ (fk h)
 refine key _ _ ?_;split
 .exact aaC
 .exact wG _
theorem Fl(r:ae)(lit:Int):tg r lit=mA r lit:=by
 unfold tg mA;split
 .rfl
 .refine GC (r5 (ck _).1) ((Cf _).sublist abw) fun x=>?_
  unfold lH;have u:=(ck (bb (ak r lit).agg)).2 x;rw[Zw,fu,rA (fun _=>jI) x,<-u];constructor
  .intro h;obtain⟨y,j,rfl⟩:=Zu.1 h;obtain⟨b,d⟩:=Zw.1 j;exact⟨Zu.2 ⟨y,b,rfl⟩,d⟩
  .rintro⟨b,d⟩;obtain⟨y,j,rfl⟩:=Zu.1 b;exact Zu.2 ⟨y,Zw.2 ⟨j,d⟩,rfl⟩
end Go.Proofs.YtflegjieadkonaaGreatDoor
namespace Go.Proofs.YtflegjieadkonaaGreatDoor
open Go Go.Al Go.Proofs.Tryz
def kM(r:ae):List aj:=tp kw (outer r) r.body []
theorem c32(r:ae)(hb:4*r.size<=1000000000000):Pure prog 252 [ag r.c] (.iv (strs (kM r))):=by
 have hu:=hb;unfold ae.size at hu;refine ah ab func252 Z (by decide) ntmps252 Z (by simp) Z ?_;refine gA Z (zp (UP r (by omega)) ?_);refine gA Z (zp ((c74 r.body [] (outer r) kw (by simp;omega)).le (aa:=[.iv (lits r.body),.iv (.v (.slice jp 0 0)),.iv (strs (outer r)),pB kw]) ⟨.refl _,.nil _ _,.refl _,.refl _,ac⟩) ?_);exact zU Z
def vo(r:ae)(lit:Int):List aj:=(aF (ak r lit).agg).foldl (fun k x=>if aE (outer r) x then b6 k x else k) []
def mB(r:ae)(lit:Int):List aj:=tp lc [] (ak r lit).ar (vo r lit)
theorem v7(p:aj->Bool): ∀(l k:List aj),(l.foldl (fun k x=>if p x then b6 k x else k) k).length<=k.length+l.length
 | [],k=>by simp
 |x::r,k=>by
  have b:=v7 p r (if p x then b6 k x else k);have j:=jz k x;simp only[Zn,Zr];split at b<;>rename_i d<;>simp only[d,if_true,aaq,if_false]<;>omega
theorem Ye(r:ae)(lit:Int)(h0:0<=lit)(h1:lit<r.body.length)(hb:8*r.size<=1000000000000):Pure prog 253 [ag r.c,pI lit] (.iv (strs (mB r lit))):=by
 have hu:=hb;unfold ae.size at hu;have F:lit.toNat<r.body.length:=by omega
 have I:(ak r lit).size<=Lit.aA r.body:=Lit.aI r.body lit.toNat F;have B:=(ak r lit).fz;have D:=gp (ak r lit).agg;have G:=(ak r lit).size_eq;refine ah ab func253 Z (by decide) ntmps253 Z (by simp) Z ?_;refine gA Z (zp (UP r (by omega)) ?_);refine gA Z (zp (Ve (ak r lit).agg (by omega)) ?_);refine gA Z ?_;refine az 0 (aF (ak r lit).agg).length (YZ _) (fun i=>⟨[(5,.ptr 1 0),(6,.iv (strs (outer r))),(7,.iv (strs (((aF (ak r lit).agg).take i).foldl (fun k x=>if aE (outer r) x then b6 k x else k) []))),(8,.iv (strs (aF (ak r lit).agg))),(9,pI i)],[(1,io (an (ak r lit).agg.c1))],2⟩) (fun _=>True) [] ac
  ?_ fun i J _=>?_
 .refine zM (bv (bv ⟨.nil _ _,rfl,bv (bv ac)⟩)) ⟨⟨_,rfl,?_⟩,YP Z,lY _ _,ac⟩;rw[tz];exact gf.cells ⟨.refl _,.refl _,.refl _,.refl _,.refl _,.refl _,.refl _,.refl _,.refl _,.iv (nP _),ac⟩
 have j:=v7 (aE (outer r)) ((aF (ak r lit).agg).take i) [];simp only[Z6,ZJ]at j;refine zJ Z Z (fun d=>?_) fun d=>?_
 .have d:=ci d;have u:=cH (g:=fun k x=>if aE (outer r) x then b6 k x else k) (b:=[]) d;refine gA Z (bh (JC _ ((aF (ak r lit).agg).getD i em)) Z Z Z Z Z Z ?_);refine zJ Z Z (fun y=>?_) fun y=>?_
  .rw[am y]at u;refine gA Z (bh (No _ _ (by omega)) Z Z Z Z Z Z ?_);refine gA Z ⟨d,ac,[],zM (bv (bv ⟨.of_eq (by rw[u];rfl),rfl,bv (bv ac)⟩)) (zK ac)⟩
  .rw[be (by rw[y];simp)]at u;refine gA Z ⟨d,ac,[],zM (bv (bv ⟨.of_eq (by rw[u];rfl),rfl,bv (bv ac)⟩)) (zK ac)⟩
 .have d:=co d;have A:((aF (ak r lit).agg).take i).foldl (fun k x=>if aE (outer r) x then b6 k x else k) []=vo r lit:=lV d;rw[A]at j ⊢;refine gA Z (zp ((c74 (ak r lit).ar (vo r lit) [] lc (by omega)).le (aa:=[.iv (lits (ak r lit).ar),.iv (strs (vo r lit)),.iv (.v (.slice jp 0 0)),pB lc]) ⟨.refl _,.refl _,.nil _ _,.refl _,ac⟩) ?_);exact zU Z
theorem EL{l:Lit}{k:List aj}(h:(dQ l k).2=kw):((dQ l k).1=l.left.var∨(dQ l k).1=l.right.var)∧(dQ l k).1∉k:=by
 unfold dQ at h ⊢;split at h
 .cases h
 .rename_i j;rw[be j];split at h
  .rename_i b;rw[am b];exact⟨.inl Z,dY.1 b.2.1⟩
  .rename_i b;rw[be b];by_cases d:l.right.kind=1∧(if l.left.kind=1 then aE k l.left.var else li (l.left.kind=2))=kw
   .rw[am d]at h ⊢;exact⟨.inr Z,dY.1 (by simpa using h)⟩
   .rw[be d]at h;cases h
def jC(a:List aj×Bool)(l:Lit):List aj×Bool:=if(dQ l a.1).2=kw then(b6 a.1 (dQ l a.1).1,kw) else a
def nJ(body:List Lit)(k:List aj):List aj×Bool:=body.foldl jC (k,lc)
def vd(body:List Lit):Nat->List aj->List aj
 |0,k=>k
 |n+1,k=>if(nJ body k).2=kw then vd body n (nJ body k).1 else(nJ body k).1
theorem vR{body:List Lit}{n:Nat}{k:List aj}:vd body (n+1) k=if(nJ body k).2=kw then vd body n (nJ body k).1 else(nJ body k).1:=rfl
def fN(r:ae):List aj:=vd r.body (3*r.body.length+1) (r.body.foldl ia [])
theorem Km{c:List aj}{a:List aj×Bool}{l:Lit}(hc: ∀v∈ [l.left.var,l.right.var,l.a7],v∈c):
  (jC a l).1.length+bN c (jC a l).1<=a.1.length+bN c a.1∧bN c (jC a l).1<=bN c a.1∧((jC a l).2=kw->a.2=kw∨bN c (jC a l).1<bN c a.1):=by
 unfold jC;split
 .rename_i h;obtain⟨h1,b⟩:=EL h;have d:=oV (hc _ (by rcases h1 with h1|h1<;>simp[h1])) b;have j:=jz a.1 (dQ l a.1).1;exact⟨by dsimp only;omega,by dsimp only;omega,fun _=> .inr d⟩
 .exact⟨YY _,YY _,fun h=> .inl h⟩
theorem Ez{c:List aj}: ∀{body:List Lit} {a:List aj×Bool},(∀l∈body,∀v∈ [l.left.var,l.right.var,l.a7],v∈c)->
  (body.foldl jC a).1.length+bN c (body.foldl jC a).1<=a.1.length+bN c a.1∧bN c (body.foldl jC a).1<=bN c a.1∧
  ((body.foldl jC a).2=kw->a.2=kw∨bN c (body.foldl jC a).1<bN c a.1)
 | [],a,_=>⟨YY _,YY _,fun h=> .inl h⟩
 |l::r,a,hc=>by
  obtain⟨j,u,b⟩:=Km (a:=a) (hc l Y8);obtain⟨g1,g2,g3⟩:=Ez (body:=r) (a:=jC a l) fun l d=>hc l (Y7 _ d);simp only[Zn];refine⟨by omega,by omega,fun h=>?_⟩;rcases g3 h with g|g
  .rcases b g with h|h
   .exact .inl h
   .exact .inr (by omega)
  .exact .inr (by omega)
theorem c34(r:ae)(hb:4*r.size<=1000000000000):Pure prog 134 [ag r.c] (.iv (strs (fN r))):=by
 unfold ae.size at hb;have Y:=Lit.au r.body;have G:=iX r.body [];have b0:=jN r.body;have f0:=oW (bL r.body) (r.body.foldl ia []);simp only[Z6]at G;refine ah ab func134 Z (by decide) ntmps134 Z (by simp) Z ?_;refine gA Z ?_;refine az 0 r.body.length (YZ _) (fun i=>⟨[(1,.ptr 0 0),(3,.iv (strs ((r.body.take i).foldl ia []))),(4,pI i)],[(0,io (an r.c))],1⟩) (fun _=>True) [] ac
  (zM (bv ⟨.nil _ _,rfl,bv trivial⟩) (zK trivial)) fun i hi _=>?_
 refine zJ Z Z (fun y=>?_) fun y=>?_
 .have y:=ci y;have j:=cH (g:=ia) (b:=[]) y;have I:=iX (r.body.take i) [];have hn:=Lit.b3 r.body i y;have a0:=dr (r.body.getD i em).atom;have g0:=(r.body.getD i em).size_eq;simp only[Z6]at I;refine zJ Z Z (fun u=>?_) fun u=>?_
  .have u:(r.body.getD i em).kind=1:=by simpa using u
   rw[show ia ((r.body.take i).foldl ia []) (r.body.getD i em)=_ from am u]at j;refine gA Z (zp (SZ (r.body.getD i em).atom (by omega)) ?_);refine gA Z (bh (UO _ _ (by omega)) Z Z Z Z Z Z ?_);refine gA Z ⟨y,ac,[],zM (bv ⟨.of_eq (by rw[j];rfl),rfl,bv ac⟩) (zK ac)⟩
  .have u: ¬(r.body.getD i em).kind=1:=by simpa using u
   rw[show ia ((r.body.take i).foldl ia []) (r.body.getD i em)=_ from be u]at j;refine gA Z ⟨y,ac,[],zM (bv ⟨.of_eq (by rw[j];rfl),rfl,bv ac⟩) (zK ac)⟩
 have y:=co y;have J:(r.body.take i).foldl ia []=r.body.foldl ia []:=lV y;rw[J];refine gA Z ?_;refine ox (σ:={x:List aj×Bool×Nat//fN r=(if x.2.1=kw then vd r.body (x.2.2+1) x.1 else x.1)∧(x.2.1=kw->bN (bL r.body) x.1<=x.2.2)∧x.1.length+bN (bL r.body) x.1<=(r.body.foldl ia []).length+bN (bL r.body) (r.body.foldl ia [])})
  (fun x=>⟨[(1,.ptr 0 0),(3,.iv (strs x.1.1)),(6,pB x.1.2.1)],[(0,io (an r.c))],1⟩) (fun x=>if x.1.2.1=kw then bN (bL r.body) x.1.1+1 else 0)
  ⟨(r.body.foldl ia [],kw,3*r.body.length),by simp[fN],fun _=>by dsimp only;omega,YY _⟩ [] (zM (bv (bv ⟨.rz Z,rfl,ac⟩)) (zK trivial)) ?_
 rintro⟨⟨k,more,f⟩,hx1,hx2,hx3⟩;dsimp only at hx1 hx2 hx3 ⊢;refine zJ Z Z (fun u=>?_) fun u=>?_
 .subst u;rw[am Z]at hx1;have d0:=hx2 Z;refine gA Z ?_;refine az 0 r.body.length (YZ _) (fun i=>⟨[(1,.ptr 0 0),(3,.iv (strs ((r.body.take i).foldl jC (k,lc)).1)),(6,pB ((r.body.take i).foldl jC (k,lc)).2),(7,pI i)],[(0,io (an r.c))],1⟩) (fun _=>True) [] ac
   (zM (bv (bv ⟨.rz Z,rfl,bv trivial⟩)) (zK trivial)) fun i hi _=>?_
  have d:=Ez (c:=bL r.body) (body:=r.body.take i) (a:=(k,lc)) fun l hl v I=>rG (abk hl) I;dsimp only at d;refine zJ Z Z (fun A=>?_) fun A=>?_
  .have A:=ci A;have j:=cH (g:=jC) (b:=(k,lc)) A;generalize c0:(r.body.take i).foldl jC (k,lc)=ka at d j ⊢;refine gA Z (zp (c78 (r.body.getD i em) ka.1) ?_);refine zJ Z Z (fun D=>?_) fun D=>?_
   .rw[show jC ka (r.body.getD i em)=_ from am D]at j;refine gA Z (bh (No ka.1 _ (by omega)) Z Z Z Z Z Z ?_);refine gA Z ⟨A,ac,[],zM (bv ⟨.of_eq (by rw[j];rfl),rfl,.rz (by rw[j]),rfl,bv ac⟩) (zK ac)⟩
   .rw[show jC ka (r.body.getD i em)=_ from be (by rw[D];simp)]at j;refine gA Z ⟨A,ac,[],zM (bv ⟨.of_eq (by rw[j];rfl),rfl,.of_eq (by rw[j];rfl),rfl,bv ac⟩) (zK ac)⟩
  .have A:=co A;have S:(r.body.take i).foldl jC (k,lc)=nJ r.body k:=lV A;rw[S]at d ⊢;refine gA Z ?_;refine⟨⟨((nJ r.body k).1,(nJ r.body k).2,f-1),?_,fun B=>?_,by dsimp only;omega⟩,[],?_,zW (zK ac)⟩
   .dsimp only;rw[hx1,vR];by_cases B:(nJ r.body k).2=kw
    .have:=d.2.2 B;have F:f-1+1=f:=by simp at this;omega
     rw[am B,am B,F]
    .rw[be B,be B]
   .have:=d.2.2 B;simp at this;dsimp only;omega
   .dsimp only;split
    .rename_i B;have:=d.2.2 B;simp at this;simp;omega
    .simp
 .subst u;rw[be (by simp)]at hx1;refine gA Z (zL (.of_eq ?_));rw[hx1];rfl
end Go.Proofs.YtflegjieadkonaaGreatDoor
namespace Go.Proofs.YtflegjieadkonaaGreatDoor
open Go Go.Al
section
section
variable (stp:List aj->Lit->aj×Bool)
def gS(a:List aj×Bool)(l:Lit):List aj×Bool:=if(stp a.1 l).2=kw then(b6 a.1 (stp a.1 l).1,kw) else a
def gR(body:List Lit)(k:List aj):List aj×Bool:=body.foldl (gS stp) (k,lc)
def gN(body:List Lit):Nat->List aj->List aj
 |0,k=>k
 |n+1,k=>if(gR stp body k).2=kw then gN body n (gR stp body k).1 else(gR stp body k).1
variable {stp}
theorem HH: ∀(body:List Lit) (k:List aj),(body.foldl (gS stp) (k,kw)).2=kw
 | [],k=>rfl
 |l::r,k=>by
  rw[Zn];have: ∃b,gS stp (k,kw) l=(b,kw):=by
   unfold gS;split
   .exact⟨_,rfl⟩
   .exact⟨_,rfl⟩
  obtain⟨b,d⟩:=this;rw[d];exact HH r b
theorem Ev: ∀{body:List Lit} {k:List aj},(body.foldl (gS stp) (k,lc)).2=lc->(body.foldl (gS stp) (k,lc)).1=k∧ ∀l∈body,(stp k l).2=lc
 | [],k,_=>⟨rfl,by simp⟩
 |l::r,k,h=>by
  rw[Zn]at h ⊢;cases hs:(stp k l).2 with
  |true=>
   have:gS stp (k,lc) l=(b6 k (stp k l).1,kw):=am hs;rw[this,HH]at h;cases h
  |false=>
   have:gS stp (k,lc) l=(k,lc):=be (by rw[hs];simp);rw[this]at h ⊢;obtain⟨b,d⟩:=Ev h
   exact⟨b,fun x hx=>by
    rcases Za.1 hx with rfl|hx
    .exact hs
    .exact d x hx⟩
theorem F9: ∀(body:List Lit) (a:List aj×Bool),∀x∈a.1,x∈(body.foldl (gS stp) a).1
 | [],a,x,h=>h
 |l::r,a,x,h=>by
  rw[Zn];refine F9 r _ x ?_;unfold gS;split
  .exact cq.2 (.inl h)
  .exact h
theorem Mm{body:List Lit}: ∀(n:Nat) (k:List aj),∀x∈k,x∈gN stp body n k
 |0,k,x,h=>h
 |n+1,k,x,h=>by
  unfold gN;split
  .exact Mm n _ x (F9 body (k,lc) x h)
  .exact F9 body (k,lc) x h
theorem vz: ∀(body:List Lit) (a:List aj×Bool),pR a.1->pR (body.foldl (gS stp) a).1
 | [],a,h=>h
 |l::r,a,h=>by
  rw[Zn];refine vz r _ ?_;unfold gS;split
  .exact jR h _
  .exact h
theorem AV{body:List Lit}: ∀(n:Nat) (k:List aj),pR k->pR (gN stp body n k)
 |0,k,h=>h
 |n+1,k,h=>by
  unfold gN;split
  .exact AV n _ (vz body (k,lc) h)
  .exact vz body (k,lc) h
variable (hnew: ∀(k:List aj) (l:Lit),(stp k l).2=kw->(stp k l).1∈ [l.left.var,l.right.var,l.a7]∧(stp k l).1∉k)
include hnew
theorem HG{c:List aj}: ∀{body:List Lit} {a:List aj×Bool},(∀l∈body,∀v∈ [l.left.var,l.right.var,l.a7],v∈c)->
  bN c (body.foldl (gS stp) a).1<=bN c a.1∧((body.foldl (gS stp) a).2=kw->a.2=kw∨bN c (body.foldl (gS stp) a).1<bN c a.1)
 | [],a,_=>⟨YY _,fun h=> .inl h⟩
 |l::r,a,hc=>by
  have b:bN c (gS stp a l).1<=bN c a.1∧((gS stp a l).2=kw->a.2=kw∨bN c (gS stp a l).1<bN c a.1):=by
   unfold gS;split
   .rename_i h;obtain⟨g1,g2⟩:=hnew _ _ h;have:=oV (hc l Y8 _ g1) g2;exact⟨by dsimp only;omega,fun _=> .inr this⟩
   .exact⟨YY _,fun h=> .inl h⟩
  obtain⟨g1,g2⟩:=HG (body:=r) (a:=gS stp a l) fun l d=>hc l (Y7 _ d);rw[Zn];refine⟨by omega,fun h=>?_⟩;rcases g2 h with g3|g3
  .rcases b.2 g3 with g4|g4
   .exact .inl g4
   .exact .inr (by omega)
  .exact .inr (by omega)
theorem Ml{body:List Lit}: ∀(n:Nat) (k:List aj),bN (bL body) k<n-> ∀l∈body,(stp (gN stp body n k) l).2=lc
 |0,k,h,_,_=>by omega
 |n+1,k,h,l,b=>by
  unfold gN;cases hr:(gR stp body k).2 with
  |true=>
   rw[am Z];refine Ml n _ ?_ l b;obtain⟨_,g2⟩:=HG hnew (c:=bL body) (body:=body) (a:=(k,lc)) fun l b v d=>rG b d;rcases g2 hr with g3|g3
   .cases g3
   .unfold gR;dsimp only at g3;omega
  |false=>
   rw[be (by simp)];obtain⟨g1,g2⟩:=Ev hr;unfold gR;rw[g1];exact g2 l b
end
theorem qE{m1:Expr->Bool}{m2:eL->Bool}{occ:List aj}: ∀{l:List Lit},(∀x∈l,my m1 m2 occ x=jp)->cL m1 m2 occ l=jp
 | [],_=>rfl
 |y::r,h=>by
  simp only[cL,h y Y8];exact qE fun x b=>h x (Y7 _ b)
section
variable {stp:List aj->Lit->aj×Bool} {may:List aj->Expr->Bool} {more:List aj->eL->Bool} {body:List Lit}
variable (hE: ∀(k:List aj) (l:Lit),my (may k) (more k) k l=if(stp k l).2=kw then io (stp k l).1 else jp)
variable (hmay: ∀a b:List aj,(∀x∈a,x∈b)-> ∀e,may a e=kw->may b e=kw) (hmore: ∀a b:List aj,(∀x∈a,x∈b)-> ∀e,more a e=kw->more b e=kw)
include hE
theorem O0(k:List aj)(l:Lit)(h:(stp k l).2=kw):(stp k l).1∈ [l.left.var,l.right.var,l.a7]∧(stp k l).1∉k:=by
 have:=hE k l;rw[am h]at this;exact xY this
include hmay hmore
theorem Mj{C:List aj}(hC: ∀l∈body,my (may C) (more C) C l=jp): ∀(b:List Lit) (a:List aj×Bool),(∀l∈b,l∈body)->(∀x∈a.1,x∈C)-> ∀x∈(b.foldl (gS stp) a).1,x∈C
 | [],a,_,h,x,hx=>h x hx
 |l::r,a,hb,h,x,hx=>by
  rw[Zn]at hx;refine Mj hC r _ (fun l j=>hb l (Y7 _ j)) (fun y d=>?_) x hx;unfold gS at d;split at d
  .rename_i u;rcases cq.1 d with d|rfl
   .exact h y d
   .have:=hE a.1 l;rw[am u]at this;exact Hh hmay hmore h this (hC l (hb l Y8))
  .exact h y d
theorem Mk{C:List aj}(hC: ∀l∈body,my (may C) (more C) C l=jp): ∀(n:Nat) (k:List aj),(∀x∈k,x∈C)-> ∀x∈gN stp body n k,x∈C
 |0,k,h,x,hx=>h x hx
 |n+1,k,h,x,hx=>by
  unfold gN at hx;have b:=Mj hE hmay hmore hC body (k,lc) (fun _ h=>h) h;split at hx
  .exact Mk hC n _ b x hx
  .exact b x hx
theorem pY{k occ:List aj}(d: ∀x,x∈k↔x∈occ++body.flatMap bQ)(x:aj):x∈gN stp body (3*body.length+1) k↔x∈cQ may more body occ:=by
 constructor
 .refine Mk hE hmay hmore (C:=cQ may more body occ) (qF (wm occ)) _ _ (fun y b=>?_) x;exact qO _ _ y ((d y).1 b)
 .refine qN hmay hmore (C:=gN stp body (3*body.length+1) k) (qE fun l j=>?_) _ _ (fun y b=>Mm _ _ y ((d y).2 b)) x;have u:=oW (bL body) k;have A:=jN body;rw[hE,Ml (O0 hE) _ _ (by omega) l j,be (by simp)]
end
theorem ug{x:aj}: ∀{l:List Lit} {a:List aj},x∈l.foldl ia a↔x∈a∨x∈l.flatMap bQ
 | [],a=>by simp
 |t::r,a=>by
  rw[Zn,ug,ZF,Y6];by_cases b:t.kind=1
  .rw[show ia a t=cv a (bj t.atom) from am b,show bQ t=cI t.atom from am b,ie,fP,or_assoc]
  .rw[show ia a t=a from be b,show bQ t=[] from be b];simp
theorem vQ: ∀(l:List Lit) (a:List aj),pR a->pR (l.foldl ia a)
 | [],a,h=>h
 |t::r,a,h=>by
  rw[Zn];refine vQ r _ ?_;unfold ia;split
  .exact fk h
  .exact h
theorem E9{k:List aj}{e:Expr}(h:e.kind=1):lO k (aH e)=aE k e.var:=by
 rw[pc h];simp[lO]
theorem qZ(k:List aj)(e:Expr):lO k (aH e)=aU k e:=by
 rw[ZE,M8];unfold aU;rw[Zj];exact⟨fun h x b=>aM.2 (h x (di.2 b)),fun h x b=>aM.1 (h x (di.1 b))⟩
theorem Dm(k:List aj)(l:Lit):kg l k=gj (aU k) k l:=by
 unfold kg gj;split
 .rfl
 .have b:l.left.kind=1->aU k l.left=aE k l.left.var:=fun h=>by rw[<-qZ,E9 h]
  have d:l.right.kind=1->aU k l.right=aE k l.right.var:=fun h=>by rw[<-qZ,E9 h]
  simp only[qZ];by_cases j:l.left.kind=1<;>by_cases u:l.right.kind=1<;>simp[j,u,b,d]
theorem MF{may:Expr->Bool}{k:List aj}{l:Lit}(h:(gj may k l).2=kw):l.kind=3:=by
 unfold gj at h;split at h
 .cases h
 .rename_i b;exact Z8 fun d=>b (.inl d)
theorem JH(out:List aj)(r:ae)(k:List aj)(a:eL)(ho: ∀x,x∈out↔x∈ay r):sv a k out=(!aE k a.var&&iZ (ay r) k a):=by
 unfold sv iZ;congr 1;rw[ZE,Zj,Zj];have key: ∀x,(!(aE out x&&(!aE k x&&!li (x=a.var))))=(li (x=a.var)||(!aE (ay r) x||aE k x)):=fun x=>by
  rw[rA ho x];cases aE (ay r) x<;>cases aE k x<;>cases li (x=a.var)<;>rfl
 constructor
 .intro h x b;rw[<-key];exact h x (fu.2 b)
 .intro h x b;rw[key];exact h x (fu.1 b)
theorem I2(r:ae)(k:List aj)(l:Lit):my (aU k) (iZ (ay r) k) k l=if(fD kw (outer r) k l).2=kw then io (fD kw (outer r) k l).1 else jp:=by
 unfold my fD;by_cases b:l.kind=4
 .have d: ¬(gj (aU k) k l).2=kw:=fun h=>by have:=MF h;omega
  rw[be d,am (c:=kw=kw∧l.kind=4) ⟨rfl,b⟩];dsimp only;rw[JH (outer r) r k l.agg fun _=>jI];show(if l.kind=4∧aE k l.a7=lc∧iZ (ay r) k l.agg=kw then io l.a7 else jp)=if(!aE k l.a7&&iZ (ay r) k l.agg)=kw then io l.a7 else jp;cases aE k l.a7<;>cases iZ (ay r) k l.agg<;>simp[b]
 .rw[be (c:=l.kind=4∧_) (fun h=>b h.1),be (c:=kw=kw∧_) (fun h=>b h.2),Dm]
theorem Lk(k:List aj)(l:Lit):my (c7 k) (fun _=>lc) k l=if(dQ l k).2=kw then io (dQ l k).1 else jp:=by
 unfold my;rw[be (c:=l.kind=4∧_) (fun h=>Bool.noConfusion h.2.2)];have:(if(gj (c7 k) k l).2=kw then io (gj (c7 k) k l).1 else jp)=if(dQ l k).2=kw then io (dQ l k).1 else jp:=by
  unfold gj dQ c7;split
  .rfl
  .by_cases b:l.left.kind=1<;>by_cases a2:l.right.kind=1<;>by_cases a3:l.left.kind=2<;>by_cases a4:l.right.kind=2<;>cases a5:aE k l.left.var<;>cases a6:aE k l.right.var<;>simp_all
 exact this
theorem yn(own:Bool)(out:List aj)(body:List Lit): ∀(n:Nat) (k:List aj),AP own out body n k=gN (fD own out) body n k
 |0,k=>rfl
 |n+1,k=>by
  rw[yl,yn own out body n];rfl
theorem Ak(body:List Lit): ∀(n:Nat) (k:List aj),vd body n k=gN (fun k l=>dQ l k) body n k
 |0,k=>rfl
 |n+1,k=>by
  rw[vR,Ak body n];rfl
theorem told_plain(r:ae):ff (aC (rX r))=fN r:=by
 unfold fN;rw[Ak];refine CY (AV _ _ (vQ _ _ aaC)) fun x=>?_;exact(pY (may:=fun b=>c7 b) (more:=fun _=>fun _=>lc) Lk DF (fun _ _ _ _ h=>h) (fun y=>by rw[ug];simp) x).symm
end
end Go.Proofs.YtflegjieadkonaaGreatDoor
namespace Go.Proofs
open Go.Shelf
def Tryz.Eb:Go.Shelf.Ren:=⟨fun|190=>91|125=>122|258=>121|128=>152|129=>153|302=>143|303=>144|304=>145|305=>146|306=>147|307=>148|308=>149|309=>150|310=>151|333=>180|329=>181|330=>182|334=>183|335=>184|336=>185|344=>213|n=>n,fun|31=>53|9=>9|3=>3|46=>179|0=>0|51=>203|53=>205|4=>4|183=>196|182=>195|131=>50|5=>5|218=>233|222=>237|228=>280|229=>281|n=>n,fun|n=>n⟩
theorem Tryz.Ho:Go.Proofs.Lays.n190 Tryz.prog Tryz.Eb:={
 mixed:=by kernel_rfl
 f125:=Tryz.func122.trans (congrArg io (by kernel_rfl))
 f128:=Tryz.func152.trans (congrArg io (by kernel_rfl))
 f129:=Tryz.func153.trans (congrArg io (by kernel_rfl))
 f190:=Tryz.func91.trans (congrArg io (by kernel_rfl))
 f258:=Tryz.func121.trans (congrArg io (by kernel_rfl))
 f302:=Tryz.func143.trans (congrArg io (by kernel_rfl))
 f303:=Tryz.func144.trans (congrArg io (by kernel_rfl))
 f304:=Tryz.func145.trans (congrArg io (by kernel_rfl))
 f305:=Tryz.func146.trans (congrArg io (by kernel_rfl))
 f306:=Tryz.func147.trans (congrArg io (by kernel_rfl))
 f307:=Tryz.func148.trans (congrArg io (by kernel_rfl))
 f308:=Tryz.func149.trans (congrArg io (by kernel_rfl))
 f309:=Tryz.func150.trans (congrArg io (by kernel_rfl))
 f310:=Tryz.func151.trans (congrArg io (by kernel_rfl))
 f329:=Tryz.func181.trans (congrArg io (by kernel_rfl))
 f330:=Tryz.func182.trans (congrArg io (by kernel_rfl))
 f333:=Tryz.func180.trans (congrArg io (by kernel_rfl))
 f334:=Tryz.func183.trans (congrArg io (by kernel_rfl))
 f335:=Tryz.func184.trans (congrArg io (by kernel_rfl))
 f336:=Tryz.func185.trans (congrArg io (by kernel_rfl))
 f344:=Tryz.func213.trans (congrArg io (by kernel_rfl))
 t0:=Tryz.underlying0
 a0:=Tryz.isAgg0
 z0:=Tryz.sizeOf0
 v0:=Tryz.zeroValue0
 t3:=Tryz.underlying3
 a3:=Tryz.isAgg3
 z3:=Tryz.sizeOf3
 v3:=Tryz.zeroValue3
 t4:=Tryz.underlying4
 a4:=Tryz.isAgg4
 z4:=Tryz.sizeOf4
 v4:=Tryz.zeroValue4
 t5:=Tryz.underlying5
 a5:=Tryz.isAgg5
 z5:=Tryz.sizeOf5
 v5:=Tryz.zeroValue5
 t9:=Tryz.underlying9
 a9:=Tryz.isAgg9
 z9:=Tryz.sizeOf9
 v9:=Tryz.zeroValue9
 t31:=Tryz.underlying53
 a31:=Tryz.isAgg53
 z31:=Tryz.sizeOf53
 v31:=Tryz.zeroValue53
 t46:=Tryz.underlying179
 a46:=Tryz.isAgg179
 z46:=Tryz.sizeOf179
 v46:=Tryz.zeroValue179
 t51:=Tryz.underlying203
 a51:=Tryz.isAgg203
 z51:=Tryz.sizeOf203
 v51:=Tryz.zeroValue203
 t53:=Tryz.underlying205
 a53:=Tryz.isAgg205
 z53:=Tryz.sizeOf205
 v53:=Tryz.zeroValue205
 t131:=Tryz.underlying50
 a131:=Tryz.isAgg50
 z131:=Tryz.sizeOf50
 v131:=Tryz.zeroValue50
 t182:=Tryz.underlying195
 a182:=Tryz.isAgg195
 z182:=Tryz.sizeOf195
 v182:=Tryz.zeroValue195
 t183:=Tryz.underlying196
 a183:=Tryz.isAgg196
 z183:=Tryz.sizeOf196
 v183:=Tryz.zeroValue196
 t218:=Tryz.underlying233
 a218:=Tryz.isAgg233
 z218:=Tryz.sizeOf233
 v218:=Tryz.zeroValue233
 t222:=Tryz.underlying237
 a222:=Tryz.isAgg237
 z222:=Tryz.sizeOf237
 v222:=Tryz.zeroValue237
 t228:=Tryz.underlying280
 a228:=Tryz.isAgg280
 z228:=Tryz.sizeOf280
 v228:=Tryz.zeroValue280
 t229:=Tryz.underlying281
 a229:=Tryz.isAgg281
 z229:=Tryz.sizeOf281
 v229:=Tryz.zeroValue281}
theorem YtflegjieadkonaaGreatDoor.Kp:YtflegjieadkonaaGreatDoor.km:=
 ⟨fun j b0 a0 x w u b d=>Any.slices_Sort_string Tryz.Ho j b0 a0 x w u b d,fun p a0 w=>Any.slices_Sort_string_none Tryz.Ho p a0 w⟩
end Go.Proofs
namespace Go.Proofs.YtflegjieadkonaaGreatDoor
open Go Go.Al
theorem fK{α:Type}[Inhabited α]{f:α->List IV}(h: ∀x,jx ((f x).map .iv)=kw)(l:List α):allOnes ((Zg l.length).map fun k=>(f (l.getD k em)).map PV.iv)=kw:=by rw[oL];exact wu h l
def Prog.size(p:Prog):Nat:=p.aD.length+(p.aD.map fun d=>d.types.length).sum+p.rules.length+(p.rules.map ae.size).sum
theorem GH{α:Type}[Inhabited α](f:α->Nat): ∀(l:List α) (i:Nat),i<l.length->f (l.getD i em)<=(l.map f).sum
 |x::r,0,_=>by simp
 |x::r,i+1,h=>by
  have:=GH f r i (by simpa using h);simp only[aag,Zd,aaF];omega
theorem AM(i sz n:Nat): ∀l:List IV,iR i sz n (l.map .iv)
 | []=>trivial
 |x::r=>⟨ac,AM i sz n r⟩
theorem xH{α:Type}(i sz n b:Nat)(l:List α)(f:α->List IV):(aG b l f).xQ i sz n:=by
 intro k e j p d u;rw[Y0,Y2]at d;obtain⟨x,_,rfl⟩:=d;rw[Y0,Y2]at u;obtain⟨y,_,rfl⟩:=u;exact⟨y,rfl⟩
theorem UQ(r:ae)(hb:r.size<=10000000):Pure Tryz.prog 80 [ag r.c] (.iv (strs (outer r))):=xo r▸c29 Kp r hb
theorem XV(r:ae)(hb:r.size<=10000000):Pure Tryz.prog 98 [ag r.c] (.iv (strs (fN r))):=told_plain r▸c33 Kp r hb
end Go.Proofs.YtflegjieadkonaaGreatDoor
namespace Go.Proofs.YtflegjieadkonaaGreatDoor
open Go.Proofs.Tryz
open Go
section
set_option maxHeartbeats 2000000
theorem Hu: ∃j,prog.info? 245=io j∧j.size=2:=by
 have h:(prog.info? 245).map (fun i=>i.size)=io 2:=by kernel_rfl
 rw[Y2]at h;exact h
theorem Qd:liesAt prog prog.depth 247 (4/prog.cellsOf 247) 0 245 1=kw:=by kernel_rfl
theorem QK(b:Nat)(w:World)(h0:w.cell? ⟨b,0,jp⟩=io (.pointer (io ⟨b,0,jp⟩))):
  Calls prog 260 #[.pointer (io ⟨b,0,jp⟩)] w fun e u=>e= .returned (.tuple #[])∧u=w:=by
 obtain⟨j,d,_⟩:=Hu
 go_enter func260,ntmps260
 go_wp2
 rw[Lib.run_neq_ptr_same w _ underlying242 d]
 go_wp2
 go_end0
 exact⟨rfl,rfl⟩
theorem ML(b:Nat)(w:World)(h0:w.cell? ⟨b,0,jp⟩=io (.pointer jp))(d:w.shape? b=io (247,4))(y:w.frozen? ⟨b,0,jp⟩=lc):
  Calls prog 260 #[.pointer (io ⟨b,0,jp⟩)] w fun e A=>e= .returned (.tuple #[])∧A=w.setCell ⟨b,0,jp⟩ (.pointer (io ⟨b,0,jp⟩)):=by
 obtain⟨j,x,u⟩:=Hu
 go_enter func260,ntmps260
 go_wp2
 rw[Lib.run_to_unsafe w ⟨b,0,jp⟩ underlying242 underlying327 x (by rw[u];decide) d (by show 0<4;decide)];simp only[Result.andThen];rw[Oper.upon_value]
 go_wp2
 rw[run_callFunc_extern func272 (by kernel_rfl) (by kernel_rfl) (by kernel_rfl) (e:=Extern.AbiNoEscape.same) (by kernel_rfl)];rw[Lib.run_noEscape];simp only[Result.andThen];rw[Oper.upon_value]
 go_wp2
 rw[Lib.run_from_unsafe w ⟨b,0,jp⟩ underlying327 underlying242 x d Qd];simp only[Result.andThen];rw[Oper.upon_value]
 go_wp2
 go_end0
 exact⟨rfl,rfl⟩
theorem UN:prog.cellsOf 5=1:=by kernel_rfl
theorem QQ(b g cap:Nat)(p x y:Value)(d:Array Value)(l:List UInt8)(w:World)(D:w.heap[b]? =io (.cells #[p,.slice (io ⟨g,0,jp⟩) l.length cap,x,y] 247 (0,0)))(hg:w.heap[g]? =io (.cells d 5 (0,0)))
  (hl:l.length<=d.size) (I:l.length<=cap) (F:cap<=maxLen) (A: ∀(j:Nat) (x:UInt8),l[j]? =io x->d.getD j undef= .int .u8 (x.toNat:Int)) (h0:l≠ []):
  Calls prog 220 #[.pointer (io ⟨b,0,jp⟩)] w fun e w'=>e= .returned (.string ⟨l.toArray⟩)∧w'=w.drew.freeze ⟨g,0,jp⟩ l.length:=by
 have a0:l.length≠0:=by simpa using h0
 have c1:w.drew.cell? ⟨b,1,jp⟩=io (.slice (io ⟨g,0,jp⟩) l.length cap):=by
  have:w.drew.heap[b]? =io (.cells #[p,.slice (io ⟨g,0,jp⟩) l.length cap,x,y] 247 (0,0)):=D;rw[Lib.cell_of_heap this];rfl
 have S:(Builtin.unsafeSliceData_ #[243] 306 #[.slice (io ⟨g,0,jp⟩) l.length cap]).run prog w.drew= .ok (.pointer (io ⟨g,0,jp⟩)) w.drew:=
  Lib.run_unsafeSliceData_row _ _ _ _ _ _ (by omega)
 have Y:(Builtin.unsafeString_ #[306,3] 9 #[.pointer (io ⟨g,0,jp⟩),.int .i64 l.length]).run prog w.drew= .ok (.string ⟨l.toArray⟩) (w.drew.freeze ⟨g,0,jp⟩ l.length):=by
  refine Lib.run_unsafeString_row w.drew 306 3 9 5 underlying306 UN g d.size (by have u:w.drew.heap[g]? =io (.cells d 5 (0,0)):=hg;simp[World.shape?,u]) l h0 (by omega) (by unfold maxLen at F;omega) ?_;intro j x J;have B:j<d.size:=by have:=(YV.1 J).1;omega
  have:=A j x J;rw[YQ,ZM B]at this;show w.drew.cell? _=_;have u:w.drew.heap[g]? =io (.cells d 5 (0,0)):=hg;rw[Al.iC,Zh];simp only[World.cell?,u];simpa[B]using this
 have G:prog.follows .mixedOrders=kw:=rfl
 go_enter func220,ntmps220
 go_wp2
 go_region_o
 all_goals(go_wp2;go_ret;exact⟨rfl,rfl⟩)
theorem UU(b:Nat)(p x y:Value)(w:World)(d:w.heap[b]? =io (.cells #[p,.slice jp 0 0,x,y] 247 (0,0))):
  Calls prog 220 #[.pointer (io ⟨b,0,jp⟩)] w fun e B=>e= .returned (.string ⟨#[]⟩)∧B=w.drew:=by
 have A:(W:World)->(Builtin.unsafeString_ #[306,3] 9 #[.pointer jp,.int .i64 0]).run prog W= .ok (.string .empty) W:=fun W=>Lib.run_unsafeString_none W _ _ _ jp
 have c1:w.drew.cell? ⟨b,1,jp⟩=io (.slice jp 0 0):=by
  have:w.drew.heap[b]? =io (.cells #[p,.slice jp 0 0,x,y] 247 (0,0)):=d;rw[Lib.cell_of_heap this];rfl
 have u:(Builtin.unsafeSliceData_ #[243] 306 #[.slice jp 0 0]).run prog w.drew= .ok (.pointer jp) w.drew:=rfl;have j:prog.follows .mixedOrders=kw:=rfl
 go_enter func220,ntmps220
 go_wp2
 go_region_o
 all_goals(go_wp2;go_ret;exact⟨rfl,rfl⟩)
end
end Go.Proofs.YtflegjieadkonaaGreatDoor
namespace Go.Proofs.YtflegjieadkonaaGreatDoor
open Go Go.Al Go.Proofs.Tryz
def Nn(c:Nat):Bool:=(li (97<=c)&&li (c<=122))||((li (65<=c)&&li (c<=90))||((li (48<=c)&&li (c<=57))||decide (c=95)))
def okB(b:UInt8):Bool:=Nn b.toNat
def hd(s:aj):Int:=((s.data.toList.getD 0 0).toNat:Int)
def pq(s:aj)(b hi:Int):Bool:=!li (s=⟨#[]⟩)&&(li (s.size<=32)&&(li (b<=hd s)&&(li (hd s<=hi)&&s.data.toList.all okB)))
theorem La{c:Nat}(h:Nn c=kw):c<128:=by
 simp only[Nn,aac,Zf,decide_eq_true_eq]at h;omega
theorem GN{s:aj}(h: ¬s=⟨#[]⟩):0<s.size:=by
 refine Nat.pos_of_ne_zero fun b=>h ?_;have:s.data= #[]:=Array.eq_empty_of_size_eq_zero b;cases s;simp_all
theorem Yj(c:Nat):Pure prog 215 [.iv (.v (.int .i32 (c:Int)))] (pB (!Nn c)):=by
 refine ah ab func215 Z (by decide) ntmps215 Z (by simp) Z ?_
 repeat' (first|(refine gA Z (zI (fun _=>?_) (fun _=>?_)))|(refine gA Z (zL (.of_eq ?_))))
 all_goals(refine(fO ?_:pB _=pB _))
 all_goals(simp only[abh,abj,decide_eq_true_eq,decide_eq_false_iff_not] at*;rw[ZE];simp[Nn];omega)
theorem Mz{s:aj}{i:Nat}(h:i<s.size)(hb:okB (s.data.toList.getD i 0)=kw):Utf8.decode s i=((s.data.toList.getD i 0).toNat,1):=by
 have b:(s[i]'h)=s.data.toList.getD i 0:=by
  have:i<s.data.toList.length:=by simpa using h
  rw[YR,YU this];simp;rfl
 have:=decode_ascii s i h (by rw[b];exact La hb);rw[this,b]
theorem UK{s:aj}{i:Nat}(h:i<s.size)(hb:okB (s.data.toList.getD i 0)=lc):Nn (Utf8.decode s i).1=lc:=by
 by_cases d:(s.data.toList.getD i 0).toNat<128
 .have b:(s[i]'h)=s.data.toList.getD i 0:=by
   have:i<s.data.toList.length:=by simpa using h
   rw[YR,YU this];simp;rfl
  have:=decode_ascii s i h (by rw[b];exact d);rw[this,b];exact hb
 .have b:(s.get! (i+0)).toNat=(s.data.toList.getD i 0).toNat:=by
   have:i<s.data.toList.length:=by simpa using h
   rw[YR,YU this];simp[ByteArray.get!,getElem!_pos,h]
  have:128<=(Utf8.decode s i).1:=by
   simp only[Utf8.decode,b,be d]
   repeat' split
   all_goals(dsimp only[Utf8.runeError];(try simp only[Zf,decide_eq_true_eq] at*);omega)
  cases hk:Nn (Utf8.decode s i).1 with
  |false=>rfl
  |true=>have:=La hk;omega
def H5(s:aj):Int:=tk (fun b=>!okB b) s.data.toList
theorem d217(s:aj):bV prog 259 [pS s,.dq (.func 215) [] [],pB kw] [] (pI (H5 s)) [] 0:=by
 have A:s.data.toList.length=s.size:=by simp
 refine aB ab func259 Z (by decide) ntmps259 Z (by simp) ?_;refine gA Z ?_;refine AR ab Z Z Z Z Z Z Z ?_;refine gA Z ?_;refine az 0 s.size (YZ _) (fun i=>⟨[(0,pS s),(1,.dq (.func 215) [] []),(2,pB kw),(10,.ptr 0 0)],[(0,io (.eP s i))],1⟩) (fun i=>(s.data.toList.take i).any (fun b=>!okB b)=lc) [] (by simp)
  (zW ⟨⟨_,rfl,.of_eq Z⟩,YP Z,ac,ac⟩) fun i B x=>?_
 refine gA Z ?_;refine ow Z Z Z Z Z Z (fun j=>?_) (fun j=>?_)
 .have d:s.data.toList.length<=i:=by omega
  rw[H5,iH (any_none x d)];refine gA Z (zD [] Z (zW ac))
 .have u:i<s.data.toList.length:=by omega
  have y:s.data.toList.getD i em=s.data.toList.getD i 0:=rfl;refine gA Z (zp (Yj (Utf8.decode s i).1) ?_);refine zJ Z Z (fun d=>?_) fun d=>?_
  .have d:Nn (Utf8.decode s i).1=lc:=by simpa using d
   have hb:okB (s.data.toList.getD i 0)=lc:=by
    cases hk:okB (s.data.toList.getD i 0) with
    |false=>rfl
    |true=>
     rw[Mz j hk]at d;exact absurd (hk.symm.trans d) (by simp)
   rw[H5,je x u (by rw[y,hb];rfl)];refine gA Z (zD [] Z (zW ac))
  .have d:Nn (Utf8.decode s i).1=kw:=by simpa using d
   have hb:okB (s.data.toList.getD i 0)=kw:=by
    cases hk:okB (s.data.toList.getD i 0) with
    |true=>rfl
    |false=>exact absurd ((UK j hk).symm.trans d) (by simp)
   have hd:=Mz j hb;refine gA Z ⟨j,(aW x u).2 (by rw[y,hb];rfl),[],zW ⟨⟨_,rfl,.of_eq (by rw[hd];rfl)⟩,YP Z,ac,ac⟩⟩
theorem QZ(l:List UInt8):(l.any fun b=>!okB b)=!l.all okB:=by
 induction l with
 |nil=>rfl
 |cons x r ih=>simp only[abP,List.all_cons,ih];cases okB x<;>rfl
theorem d203(s:aj):bV prog 242 [pS s,.dq (.func 215) [] []] [] (pI (H5 s)) [] 0:=by
 refine aB ab func242 Z (by decide) ntmps242 Z (by simp) ?_;refine gA Z (zq [] (d217 s) ?_);refine gA Z (zD [] Z (zW ac))
theorem d180(s:aj):bV prog 214 [pS s,.dq (.func 215) [] []] [] (pB (!s.data.toList.all okB)) [] 0:=by
 refine aB ab func214 Z (by decide) ntmps214 Z (by simp) ?_;refine gA Z (zq [] (d203 s) ?_);refine gA Z (zD [] Z (zM ⟨.of_eq (fO ((jY _ _).trans (QZ _))),rfl,ac⟩ ac))
theorem W2(s:aj)(x hi:Int):Pure prog 187 [pS s,.iv (.v (.int .u8 x)),.iv (.v (.int .u8 hi))] (pB (pq s x hi)):=by
 refine ah ab func187 Z (by decide) ntmps187 Z (by simp) Z ?_;refine zE Z Z (fun b=>?_) fun b=>?_
 .have b:s=⟨#[]⟩:=zT b;refine gA Z (zL (.of_eq ?_));refine(fO ?_:pB _=pB _);subst b;rfl
 have b: ¬s=⟨#[]⟩:=zF b;have y:=GN b;refine zE Z Z (fun d=>?_) fun d=>?_
 .have d:32<s.size:=zN d;refine gA Z (zL (.of_eq ?_));refine(fO ?_:pB _=pB _);have: ¬s.size<=32:=by omega
  simp[pq,this]
 have d:s.size<=32:=by have:=zF d;omega
 refine zE Z Z (fun j=>?_) fun j=>?_
 .have j:hd s<x:=zT j;refine gA Z (zL (.of_eq ?_));refine(fO ?_:pB _=pB _);have: ¬x<=hd s:=by omega
  simp[pq,this]
 have j:x<=hd s:=by have: ¬hd s<x:=zF j;omega
 refine zJ Z Z (fun u=>?_) fun u=>?_
 .have u:hi<hd s:=zT u;refine gA Z (zL (.of_eq ?_));refine(fO ?_:pB _=pB _);have: ¬hd s<=hi:=by omega
  simp[pq,this]
 have u:hd s<=hi:=by have: ¬hd s>hi:=zF u;omega
 refine gA Z (zq [] (d180 s) ?_);refine gA Z (zL (.of_eq ?_));refine(fO ?_:pB _=pB _);simp[pq,b,d,j,u]
def Px:List aj:=[⟨#[114,101,108,97,116,105,111,110]⟩,⟨#[110,111,116]⟩,⟨#[110,117,109]⟩,⟨#[115,121,109]⟩,⟨#[109,111,100]⟩,⟨#[99,111,117,110,116]⟩,⟨#[115,117,109]⟩,⟨#[109,105,110]⟩,⟨#[109,97,120]⟩]
def Du(s:aj):Bool:=Px.any fun x=>li (s=x)
def ep(s:aj):Bool:=!Du s&&pq s 97 122
def eh(s:aj):Bool:=pq s 65 90
theorem Gk(s:aj):Pure prog 218 [pS s] (pB (eh s)):=by
 refine ah ab func218 Z (by decide) ntmps218 Z (by simp) Z ?_;refine gA Z (zp (W2 s 65 90) ?_);exact zU Z
theorem XR(s:aj):Pure prog 156 [pS s] (pB (ep s)):=by
 refine ah ab func156 Z (by decide) ntmps156 Z (by simp) Z ?_
 repeat' (first|(refine gA Z (zI (fun _=>?_) (fun _=>?_)))|(refine gA Z (zp (W2 s 97 122) ?_))|(refine gA Z (zL (.of_eq ?_))))
 all_goals(refine(fO ?_:pB _=pB _))
 all_goals(simp only[ep,Du,Px,abP,List.any_nil, *];rfl)
section
theorem Rel.FK{M:Mem}{N:Nm}{U:Nat->Prop}{h h2:AH}{w:World}(hr:Rel M N U h w)(e: ∀i,AH.get h2 i=h.get i):Rel M N U h2 w:=
 ⟨hr.fj,fun i o b=>hr.used i o (by rw[<-e];exact b),fun i o b=>hr.fi i o (by rw[<-e];exact b),fun i o b=>hr.obj i o (by rw[<-e];exact b),fun i j o p b d=>hr.inj i j o p (by rw[<-e];exact b) (by rw[<-e];exact d)⟩
theorem Ext.FK{M d:Mem}{N j:Nm}{U u:Nat->Prop}{h0 h h2:AH}{w x:World}(b:Ext M N U h0 w d j u h x)(e: ∀i,AH.get h2 i=h.get i):Ext M N U h0 w d j u h2 x:=
 ⟨b.os,b.tape,b.output,b.size,b.iQ,b.r6,b.kf,b.nm,b.ule,fun i o y=>b.jq i o (by rw[<-e];exact y)⟩
structure WS where
 fr:Bool
 l:List UInt8
 bad:Bool
 br:Int
abbrev WS.uM(w:WS)(i j:Nat):AO:= .cells [.fB w.fr i,.sl j 0 w.l.length 1,pB w.bad,pI w.br] (io 247)
abbrev WS.c(w:WS):AO:=w.uM 0 1
abbrev WS.O(w:WS):List AO:=[w.c,.bT w.l 5]
abbrev WS.H(w:WS):AH:=[(0,io (w.uM 0 2)),(2,io (.bT w.l 5))]
theorem d204(w:WS):bV prog 260 [.ptr 0 0] w.O (.bM []) [(0,io ({w with fr:=lc}:WS).c),(1,io (.bT w.l 5))] 2:=by
 refine⟨bH func260 Z (by decide),fun M N wd vs J y hv=>?_⟩;obtain⟨v,rfl⟩: ∃v,vs=[v]:=by
  cases vs with
  |nil=>cases y
  |cons v r=>cases r with
   |nil=>exact⟨v,rfl⟩
   |cons a b=>simp at y
 have S:VR M N (· <2) (.ptr 0 0) v:=hv 0 _ Z;have Y:v= .pointer (io ⟨N.aK 0,0,jp⟩):=by cases S;rfl
 subst Y;have G:AH.get (fw 0 w.O) 0=io w.c:=rfl;obtain⟨c,T,D,h2,h3,h4,h5⟩:=J.obj 0 _ G;have hT:=h5 247 Z;subst hT;have A:c.size=4:=h3.symm;have a0:N.aK 0<wd.heap.size:=(aaa.1 D).1;have I:c.getD 0 undef= .pointer (bif w.fr then jp else io ⟨N.aK 0,0,jp⟩):=by
  have:=h4 0 _ Z;generalize c.getD 0 undef=x at this;cases this;rfl
 have d:wd.cell? ⟨N.aK 0,0,jp⟩=io (c.getD 0 undef):=by
  rw[Lib.cell_of_heap D,YQ,ZM (by omega)];rfl
 rw[I]at d;show Calls prog 260 #[_] wd _;cases hfr:w.fr with
 |false=>
  rw[hfr]at d;refine(QK (N.aK 0) wd d).mono ?_;rintro e w' ⟨rfl,rfl⟩;have hw:({w with fr:=lc}:WS)=w:=by cases w;simp_all
  rw[hw];exact⟨_,M,N,.bM [],_,2,rfl,⟨rfl,rfl,rfl⟩,.refl _ _ _ _ _,J,.bM [] #[] Z (by simp)⟩
 |true=>
  rw[hfr]at d;refine(ML (N.aK 0) wd d (by simp[World.shape?,D,A]) (Lib.frozen_of_heap D 0)).mono ?_;rintro e w' ⟨rfl,rfl⟩;have B:(wd.setCell ⟨N.aK 0,0,jp⟩ (.pointer (io ⟨N.aK 0,0,jp⟩))).heap[N.aK 0]? =io (.cells (c.setIfInBounds 0 (.pointer (io ⟨N.aK 0,0,jp⟩))) 247 (0,0)):=by
   simp[World.setCell,ZK,D]
  obtain⟨g1,g2⟩:=J.write (i:=0) (o0:=w.c) G Z (wd.setCell ⟨N.aK 0,0,jp⟩ (.pointer (io ⟨N.aK 0,0,jp⟩))) ({w with fr:=lc}:WS).c Z Z Z (by simp[World.setCell]) (fun b hb=>by
   simp only[World.setCell,ZK]
   rw[be (fun e=>hb e.symm)]) ⟨_,247,B,by simpa using h2,by simp[A],fun j p F=>by
    match j,F with
    |0,F=>
     cases F;rw[YQ,ZB];simp only[if_true,A];exact .fB lc 0 (by show 0<2;decide)
    |j+1,F=>
     have:=h4 (j+1) p (by exact F);rw[YQ,ZB,be (by omega)];rw[YQ]at this
     exact this,h5⟩
  have u: ∀i,AH.get [(0,io ({w with fr:=lc}:WS).c),(1,io (.bT w.l 5))] i=AH.get ((0,io ({w with fr:=lc}:WS).c)::fw 0 w.O) i:=by
   intro i
   match i with
   |0=>rfl
   |1=>rfl
   |i+2=>rfl
  exact⟨_,M,N,.bM [],_,2,rfl,⟨rfl,rfl,rfl⟩,Ext.FK g1 u,Rel.FK g2 u,.bM [] #[] Z (by simp)⟩
theorem d150(w:WS):bV prog 220 [.ptr 0 0] w.O (pS ⟨w.l.toArray⟩) [] 2:=by
 refine⟨bH func220 Z (by decide),fun M N wd vs hr G hv=>?_⟩;obtain⟨v,rfl⟩: ∃v,vs=[v]:=by
  cases vs with
  |nil=>cases G
  |cons v r=>cases r with
   |nil=>exact⟨v,rfl⟩
   |cons a b=>simp at G
 have m0:VR M N (· <2) (.ptr 0 0) v:=hv 0 _ Z;have n0:v= .pointer (io ⟨N.aK 0,0,jp⟩):=by cases m0;rfl
 subst n0;have k0:AH.get (fw 0 w.O) 0=io w.c:=rfl;have I:AH.get (fw 0 w.O) 1=io (.bT w.l 5):=rfl;obtain⟨c,T,Y,h2,h3,h4,h5⟩:=hr.obj 0 _ k0;have hT:=h5 247 Z;subst hT;have g0:c.size=4:=h3.symm;have d0: ∀(x1:Value),c.getD 1 undef=x1-> ∃p x y,c= #[p,x1,x,y]:=by
  intro x1 B;refine⟨c.getD 0 undef,c.getD 2 undef,c.getD 3 undef,?_⟩;apply Array.ext
  .simpa using g0
  .intro i u o0
   match i,u with
   |0,u=>simp[YQ,u]
   |1,u=>rw[<-B];simp[YQ,u]
   |2,u=>simp[YQ,u]
   |3,u=>simp[YQ,u]
   |i+4,u=>omega
 have A:=h4 1 _ Z;have J:=hr.obj 1 _ I;show Calls prog 220 #[_] wd _;by_cases F:w.l=[]
 .have B:c.getD 1 undef= .slice jp 0 0:=by
   generalize c.getD 1 undef=x at A;rw[F]at A;generalize S:PV.sl 1 0 ([]:List UInt8).length 1=q at A;cases A with
   |sl i off len sz a0 h h0 Y hc he=>cases S;simp at h0
   |pQ i sz h=>rfl
   |_=>cases S
  obtain⟨p,x,y,rfl⟩:=d0 _ B;refine(UU (N.aK 0) p x y wd Y).mono ?_;rintro e w' ⟨rfl,rfl⟩;refine⟨.string ⟨#[]⟩,M,N,pS ⟨w.l.toArray⟩,[],2,rfl,⟨rfl,rfl,rfl⟩,?_,?_,.iv _ _ (by rw[F];exact .v _)⟩
  .have:=Ext.drew (M:=M) (N:=N) (U:=(· <w.O.length)) (h:=fw 0 w.O) (w:=wd);exact⟨this.os,this.tape,this.output,this.size,this.iQ,this.r6,this.kf,this.nm,this.ule,fun i o u=>(nomatch u)⟩
  .exact⟨hr.drew.fj,fun i o u=>(nomatch u),fun i o u=>(nomatch u),fun i o u=>(nomatch u),fun i j o p u=>(nomatch u)⟩
 .have c0:0<w.l.length:=aaY.2 F;obtain⟨a0,B,b0,i0⟩: ∃a0,c.getD 1 undef= .slice (io ⟨N.aK 1,0,jp⟩) w.l.length a0∧w.l.length<=a0∧a0<=maxLen:=by
   generalize c.getD 1 undef=x at A;generalize hn:w.l.length=n at A c0;generalize S:PV.sl 1 0 n 1=q at A;cases A with
   |sl i off len sz a0 h h0 F hc he=>cases S;exact⟨a0,by simp,F,hc⟩
   |pQ i sz h=>cases S;omega
   |_=>cases S
  rcases J with J|⟨f0,q1,q2,q3,q4⟩
  .exact absurd J F
  obtain⟨p,x,y,rfl⟩:=d0 _ B;refine(QQ (N.aK 0) (N.aK 1) a0 p x y f0 w.l wd Y q1 q3 b0 i0 q4 F).mono ?_;rintro e w' ⟨rfl,rfl⟩;have e0:(AO.bT w.l 5).real=kw:=by cases hll:w.l with
   |nil=>exact absurd hll F
   |cons=>rfl
  have hk: ∀b,b≠N.aK 1->(wd.drew.freeze ⟨N.aK 1,0,jp⟩ w.l.length).heap[b]? =wd.heap[b]? :=by
   intro b hb;unfold World.freeze;split
   .rfl
   .show(wd.heap.modify _ _)[b]? =_;simp only[ZK];rw[be (fun e=>hb e.symm)]
  have D:(wd.drew.freeze ⟨N.aK 1,0,jp⟩ w.l.length).os=wd.os∧(wd.drew.freeze ⟨N.aK 1,0,jp⟩ w.l.length).tape=wd.tape∧(wd.drew.freeze ⟨N.aK 1,0,jp⟩ w.l.length).output=wd.output∧(wd.drew.freeze ⟨N.aK 1,0,jp⟩ w.l.length).heap.size=wd.heap.size:=by
   unfold World.freeze;split
   .exact⟨rfl,rfl,rfl,rfl⟩
   .exact⟨rfl,rfl,rfl,by show(wd.heap.modify _ _).size=_;simp⟩
  refine⟨_,M,N,pS ⟨w.l.toArray⟩,[],2,rfl,⟨rfl,rfl,rfl⟩,?_,?_,.iv _ _ (.v _)⟩
  .exact⟨D.1,D.2.1,D.2.2.1,by rw[D.2.2.2];exact YY _,fun b hb hn=>hk b fun e=>hn 1 _ I e0 e.symm,.refl _,fun b c Y h2=>by simp[Y]at h2,.refl _ _,fun _ h=>h,fun i o u=>(nomatch u)⟩
  .refine⟨fun b d hb=>?_,fun i o u=>(nomatch u),fun i o u=>(nomatch u),fun i o u=>(nomatch u),fun i j o p u=>(nomatch u)⟩;have j0:b≠N.aK 1:=fun e=>by
    have:=hr.fi 1 _ I e0;rw[<-e,hb]at this;cases this
   exact(hr.fj b d hb).mono (hk b j0)
section
variable {nt:Nat} {Q:AQ} {k:List KI} {s:AS}
def wS(s:AS)(b:WS)(i j:Nat):AS:=match s with|⟨f,h,n⟩=>⟨f,(i,io (b.uM i n))::(n,io (.bT b.l 5))::(i,jp)::(j,jp)::h,n+1⟩
theorem Vj(s:AS)(b:WS)(i j:Nat):wS s b i j=⟨s.f,(i,io (b.uM i s.nx))::(s.nx,io (.bT b.l 5))::(i,jp)::(j,jp)::s.h,s.nx+1⟩:=by cases s;rfl
def Vi(s:AS)(b:WS)(i j m:Nat):AS:=match s with|⟨f,h,n⟩=>⟨f,(i,io (b.uM i n))::(n,io (.bT b.l 5))::(i,jp)::(j,jp)::(m,jp)::h,n+1⟩
theorem S5(s:AS)(b:WS)(i j m:Nat):Vi s b i j m=⟨s.f,(i,io (b.uM i s.nx))::(s.nx,io (.bT b.l 5))::(i,jp)::(j,jp)::(m,jp)::s.h,s.nx+1⟩:=by cases s;rfl
theorem CQ{o:Oper}{c:Call}{g:FuncId}{args d:List PV}{w B:WS}{r:PV}{i j:Nat}{s':AS}(hc:bV prog g (.ptr 0 0::args) w.O r B.H 3)(ho:o.op= .call c)(ha:bX s.f c=io (g,.ptr i 0::d))
  (hi:s.h.get i=io (w.uM i j)) (hj:s.h.get j=io (.bT w.l 5)) (hlt:Zb i s.nx=kw) (hlj:Zb j s.nx=kw) (hne:Zk i j=lc) (has:d=args) (hlow:bq 0 args=kw) (hr:r.low 0=kw)
  (hp:putDst nt o r (wS s B i j)=io s'):OT prog nt o s (fun t=>t=s'):=by
 have u:i≠j:=fun e=>by subst e;simp at hne
 have y:([i,j]:List Nat).Nodup:=by simp[u]
 have D: ∀x∈ [i,j],x<s.nx:=by
  intro x A;simp only[Za,abn,or_false]at A;rcases A with rfl|rfl
  .exact YP hlt
  .exact YP hlj
 subst has;have b: ∀σ,dK σ d=d:=fun σ=>iW σ d hlow;refine nA ho ha hc y D ?_ ?_ ?_
 .simp only[Zd,ZR,hi,hj];rfl
 .simp only[dK,b];rfl
 .rintro q F n0 ⟨rfl,rfl,rfl⟩;rw[PV.jV _ _ hr];rw[Vj]at hp;exact⟨s',hp,rfl⟩
theorem Wt{all rest:List Oper}{o:Oper}{c:Call}{g:FuncId}{args b:List PV}{w d:WS}{r:PV}{i j:Nat}{s':AS}(hc:bV prog g (.ptr 0 0::args) w.O r d.H 3)(ho:o.op= .call c)(hg:o.guard=jp)(ha:bX s.f c=io (g,.ptr i 0::b))
  (hi:s.h.get i=io (w.uM i j)) (hj:s.h.get j=io (.bT w.l 5)) (hlt:Zb i s.nx=kw) (hlj:Zb j s.nx=kw) (hne:Zk i j=lc) (has:b=args) (hlow:bq 0 args=kw) (hr:r.low 0=kw)
  (hp:putDst nt o r (wS s d i j)=io s') (h:GO prog nt (.ops all rest::k) Q s'):GO prog nt (.ops all (o::rest)::k) Q s:=
 dI hg (CQ hc ho ha hi hj hlt hlj hne has hlow hr hp) fun t u=>by subst u;exact h
theorem j5{all rest:List Oper}{o:Oper}{c:Call}{g:FuncId}{args b:List PV}{w d:WS}{r:PV}{i j:Nat}{s':AS}(hc:bV prog g (.ptr 0 0::args) w.O r d.H 3)(h:GO prog nt (.ops all rest::k) Q s')(ho:o.op= .call c:=by exact rfl)(hg:o.guard=jp:=by exact rfl)(ha:bX s.f c=io (g,.ptr i 0::b):=by exact rfl)(hi:s.h.get i=io (w.uM i j):=by exact rfl)(hj:s.h.get j=io (.bT w.l 5):=by exact rfl)(hlt:Zb i s.nx=kw:=by exact rfl)(hlj:Zb j s.nx=kw:=by exact rfl)(hne:Zk i j=lc:=by exact rfl)(has:b=args:=by exact rfl)(hlow:bq 0 args=kw:=by exact rfl)(hr:r.low 0=kw:=by exact rfl)(hp:putDst nt o r (wS s d i j)=io s':=by exact rfl):GO prog nt (.ops all (o::rest)::k) Q s:=Wt (hc:=hc) (ho:=ho) (hg:=hg) (ha:=ha) (hi:=hi) (hj:=hj) (hlt:=hlt) (hlj:=hlj) (hne:=hne) (has:=has) (hlow:=hlow) (hr:=hr) (hp:=hp) (h:=h)
theorem Gt{o:Oper}{c:Call}{g:FuncId}{b:List aj}{w d:WS}{i j m n:Nat}{s':AS}(hc:bV prog g [.ptr 0 0,.sl 2 0 b.length 1] [w.c,.bT w.l 5,aG 1 b cX] (.bM []) [(0,io (d.uM 0 3)),(3,io (.bT d.l 5))] 4)(ho:o.op= .call c)(ha:bX s.f c=io (g,[.ptr i 0,.sl m 0 n 1]))
  (hi:s.h.get i=io (w.uM i j)) (hj:s.h.get j=io (.bT w.l 5)) (hm:s.h.get m=io (aG 1 b cX)) (hn:n=b.length) (hlt:Zb i s.nx=kw) (hlj:Zb j s.nx=kw) (hlm:Zb m s.nx=kw) (hnd:b4 [i,j,m]=kw)
  (hp:putDst nt o (.bM []) (Vi s d i j m)=io s'):OT prog nt o s (fun t=>t=s'):=by
 have y: ∀x∈ [i,j,m],x<s.nx:=by
  intro x u;simp only[Za,abn,or_false]at u;rcases u with rfl|rfl|rfl
  .exact YP hlt
  .exact YP hlj
  .exact YP hlm
 subst hn;refine nA ho ha hc (dA hnd) y ?_ Z ?_
 .simp only[Zd,ZR,hi,hj,hm,bA];rfl
 .rintro q A n0 ⟨rfl,rfl,rfl⟩;rw[S5]at hp;exact⟨s',hp,rfl⟩
theorem go_wp{all rest:List Oper}{o:Oper}{c:Call}{g:FuncId}{b:List aj}{w d:WS}{i j m n:Nat}{s':AS}(hc:bV prog g [.ptr 0 0,.sl 2 0 b.length 1] [w.c,.bT w.l 5,aG 1 b cX] (.bM []) [(0,io (d.uM 0 3)),(3,io (.bT d.l 5))] 4)(ho:o.op= .call c)(hg:o.guard=jp)(ha:bX s.f c=io (g,[.ptr i 0,.sl m 0 n 1]))
  (hi:s.h.get i=io (w.uM i j)) (hj:s.h.get j=io (.bT w.l 5)) (hm:s.h.get m=io (aG 1 b cX)) (hn:n=b.length) (hlt:Zb i s.nx=kw) (hlj:Zb j s.nx=kw) (hlm:Zb m s.nx=kw) (hnd:b4 [i,j,m]=kw)
  (hp:putDst nt o (.bM []) (Vi s d i j m)=io s')
  (h:GO prog nt (.ops all rest::k) Q s'):GO prog nt (.ops all (o::rest)::k) Q s:=
 dI hg (Gt hc ho ha hi hj hm hn hlt hlj hlm hnd hp) fun t u=>by subst u;exact h
theorem kO{all rest:List Oper}{o:Oper}{c:Call}{g:FuncId}{b:List aj}{w d:WS}{i j m n:Nat}{s':AS}(hc:bV prog g [.ptr 0 0,.sl 2 0 b.length 1] [w.c,.bT w.l 5,aG 1 b cX] (.bM []) [(0,io (d.uM 0 3)),(3,io (.bT d.l 5))] 4)(h:GO prog nt (.ops all rest::k) Q s')(ho:o.op= .call c:=by exact rfl)(hg:o.guard=jp:=by exact rfl)(ha:bX s.f c=io (g,[.ptr i 0,.sl m 0 n 1]):=by exact rfl)(hi:s.h.get i=io (w.uM i j):=by exact rfl)(hj:s.h.get j=io (.bT w.l 5):=by exact rfl)(hm:s.h.get m=io (aG 1 b cX):=by exact rfl)(hn:n=b.length:=by exact rfl)(hlt:Zb i s.nx=kw:=by exact rfl)(hlj:Zb j s.nx=kw:=by exact rfl)(hlm:Zb m s.nx=kw:=by exact rfl)(hnd:b4 [i,j,m]=kw:=by exact rfl)(hp:putDst nt o (.bM []) (Vi s d i j m)=io s':=by exact rfl):GO prog nt (.ops all (o::rest)::k) Q s:=go_wp (hc:=hc) (ho:=ho) (hg:=hg) (ha:=ha) (hi:=hi) (hj:=hj) (hm:=hm) (hn:=hn) (hlt:=hlt) (hlj:=hlj) (hlm:=hlm) (hnd:=hnd) (hp:=hp) (h:=h)
theorem Cm{all:List Oper}{todo pend:List (Nat×Oper)}{d:Nat}{A y:Prop}{o:Oper}{c:Call}{g:FuncId}{b:List aj}{w u:WS}{i j m n:Nat}{s':AS}(hc:bV prog g [.ptr 0 0,.sl 2 0 b.length 1] [w.c,.bT w.l 5,aG 1 b cX] (.bM []) [(0,io (u.uM 0 3)),(3,io (.bT u.l 5))] 4)
  (hrd:fq todo=[(d,o)]) (ho:o.op= .call c) (ha:bX s.f c=io (g,[.ptr i 0,.sl m 0 n 1]))
  (hi:s.h.get i=io (w.uM i j)) (hj:s.h.get j=io (.bT w.l 5)) (hm:s.h.get m=io (aG 1 b cX)) (hn:n=b.length) (hlt:Zb i s.nx=kw) (hlj:Zb j s.nx=kw) (hlm:Zb m s.nx=kw) (hnd:b4 [i,j,m]=kw)
  (hp:putDst nt o (.bM []) (Vi s u i j m)=io s')
  (hg:cN nt all s.f o=io kw) (hpb:jH all pend o=kw) (hE:pd todo [d]=kw)
  (hag:tC px nt all s todo pend=io A) (hCA:A) (hag2:eC px nt all s' (bn pend o)=io y) (hC2:y)
  (h:GO prog nt (.cZ all (todo.filter fun x=>!Zk x.1 d) (bn pend o)::k) Q s'):GO prog nt (.cZ all todo pend::k) Q s:=
 yp ab hrd hg hpb hE hag hCA (Gt hc ho ha hi hj hm hn hlt hlj hlm hnd hp) hag2 hC2 h
theorem Wu{all:List Oper}{todo pend:List (Nat×Oper)}{b:Nat}{u d:Prop}{o:Oper}{c:Call}{g:FuncId}{args y:List PV}{w A:WS}{r:PV}{i j:Nat}{s':AS}(hc:bV prog g (.ptr 0 0::args) w.O r A.H 3)
  (hrd:fq todo=[(b,o)]) (ho:o.op= .call c) (ha:bX s.f c=io (g,.ptr i 0::y))
  (hi:s.h.get i=io (w.uM i j)) (hj:s.h.get j=io (.bT w.l 5)) (hlt:Zb i s.nx=kw) (hlj:Zb j s.nx=kw) (hne:Zk i j=lc) (has:y=args) (hlow:bq 0 args=kw) (hr:r.low 0=kw)
  (hp:putDst nt o r (wS s A i j)=io s')
  (hg:cN nt all s.f o=io kw) (hpb:jH all pend o=kw) (hE:pd todo [b]=kw)
  (hag:tC px nt all s todo pend=io u) (hCA:u) (hag2:eC px nt all s' (bn pend o)=io d) (hC2:d)
  (h:GO prog nt (.cZ all (todo.filter fun x=>!Zk x.1 b) (bn pend o)::k) Q s'):GO prog nt (.cZ all todo pend::k) Q s:=
 yp ab hrd hg hpb hE hag hCA (CQ hc ho ha hi hj hlt hlj hne has hlow hr hp) hag2 hC2 h
theorem zo{all:List Oper}{todo pend:List (Nat×Oper)}{b:Nat}{u d:Prop}{o:Oper}{c:Call}{g:FuncId}{args y:List PV}{w A:WS}{r:PV}{i j:Nat}{s':AS}(hc:bV prog g (.ptr 0 0::args) w.O r A.H 3)(h:GO prog nt (.cZ all (todo.filter fun x=>!Zk x.1 b) (bn pend o)::k) Q s')(hrd:fq todo=[(b,o)]:=by exact rfl)(ho:o.op= .call c:=by exact rfl)(ha:bX s.f c=io (g,.ptr i 0::y):=by exact rfl)(hi:s.h.get i=io (w.uM i j):=by exact rfl)(hj:s.h.get j=io (.bT w.l 5):=by exact rfl)(hlt:Zb i s.nx=kw:=by exact rfl)(hlj:Zb j s.nx=kw:=by exact rfl)(hne:Zk i j=lc:=by exact rfl)(has:y=args:=by exact rfl)(hlow:bq 0 args=kw:=by exact rfl)(hr:r.low 0=kw:=by exact rfl)(hp:putDst nt o r (wS s A i j)=io s':=by exact rfl)(hg:cN nt all s.f o=io kw:=by exact rfl)(hpb:jH all pend o=kw:=by exact rfl)(hE:pd todo [b]=kw:=by exact rfl)(hag:tC px nt all s todo pend=io u:=by exact rfl)(hCA:u:=by(repeat' (first|exact ac|exact rfl|exact aL.refl _|exact aL.bk (by assumption)|apply ZC))<;>first|omega|(simp only[Zi];omega)|(simp;done)|(simp;omega))(hag2:eC px nt all s' (bn pend o)=io d:=by exact rfl)(hC2:d:=by(repeat' (first|exact ac|exact rfl|exact aL.refl _|exact aL.bk (by assumption)|apply ZC))<;>first|omega|(simp only[Zi];omega)|(simp;done)|(simp;omega)):GO prog nt (.cZ all todo pend::k) Q s:=Wu (hc:=hc) (hrd:=hrd) (ho:=ho) (ha:=ha) (hi:=hi) (hj:=hj) (hlt:=hlt) (hlj:=hlj) (hne:=hne) (has:=has) (hlow:=hlow) (hr:=hr) (hp:=hp) (hg:=hg) (hpb:=hpb) (hE:=hE) (hag:=hag) (hCA:=hCA) (hag2:=hag2) (hC2:=hC2) (h:=h)
theorem Mq{l:List ResultVar}{r A a b c d:PV}{e:Exit}{u:WS}{j n:Nat}(he:e= .normal∨e= .ret)(hr:lj px s l=io A)(hi:s.h.get 0=io (.cells [a,b,c,d] (io 247)))(ha:a= .fB u.fr 0)(hb:b= .sl j 0 n 1)(hn:n=u.l.length)(hc:aL c (pB u.bad))(hd:aL d (pI u.br))
  (hj:s.h.get j=io (.bT u.l 5)) (hlj:Zb j s.nx=kw) (hne:Zk 0 j=lc) (hns:aaM 2 s.nx=kw)
  (hrl:aL A r) (hlow:r.low 0=kw) (hlow3:r.low 3=kw):CM px l 2 r u.H 3 e s:=by
 subst ha;subst hb;subst hn;refine eV [j] he hr ⟨rfl,YP hns,fun x y=>?_,⟨?_,hlow3,ac⟩,⟨⟨_,hi,.cells ⟨.refl _,.refl _,hc,hd,ac⟩⟩,YP Z,rfl,⟨.bT u.l 5,hj,.of_eq Z⟩,YP Z,ac,ac⟩,?_⟩
 .simp only[Y4]at y;subst y;exact YP hlj
 .rw[PV.jV _ _ hlow];exact hrl
 .have:(0:Nat)≠j:=fun e=>by subst e;simp at hne
  show([0,j]:List Nat).Nodup;simpa using this
theorem kD{l:List ResultVar}{r x a b c d:PV}{e:Exit}{u:WS}{j n:Nat}(he:e= .normal∨e= .ret:=by first|exact .inr Z|exact .inl Z)(hr:lj px s l=io x:=by exact rfl)(hi:s.h.get 0=io (.cells [a,b,c,d] (io 247)):=by exact rfl)(ha:a= .fB u.fr 0:=by exact rfl)(hb:b= .sl j 0 n 1:=by exact rfl)(hn:n=u.l.length:=by exact rfl)(hc:aL c (pB u.bad):=by first|exact .refl _|exact .kb _)(hd:aL d (pI u.br):=by first|exact .refl _|exact .kb _)(hj:s.h.get j=io (.bT u.l 5):=by exact rfl)(hlj:Zb j s.nx=kw:=by exact rfl)(hne:Zk 0 j=lc:=by exact rfl)(hns:aaM 2 s.nx=kw:=by exact rfl)(hrl:aL x r:=by exact .refl _)(hlow:r.low 0=kw:=by exact rfl)(hlow3:r.low 3=kw:=by exact rfl):CM px l 2 r u.H 3 e s:=Mq (he:=he) (hr:=hr) (hi:=hi) (ha:=ha) (hb:=hb) (hn:=hn) (hc:=hc) (hd:=hd) (hj:=hj) (hlj:=hlj) (hne:=hne) (hns:=hns) (hrl:=hrl) (hlow:=hlow) (hlow3:=hlow3)
theorem Xr{n0 j m:Nat}{D:AF}{w A:WS}{a b c d:PV}(hw:w=A)(hi:s.h.get 0=io (.cells [a,b,c,d] (io 247)))(ha:a= .fB w.fr 0)(hb:b= .sl j 0 m 1)(hm:m=w.l.length)(hc:aL c (pB w.bad))(hd:aL d (pI w.br))(hj:s.h.get j=io (.bT w.l 5))
  (hlj:Zb j s.nx=kw) (hne:Zk 0 j=lc) (h0:Zb 0 n0=kw) (hns:aaM n0 s.nx=kw) (hf:Gw (n0+1) (sg n0 [j]) s.f D):Wk n0 [j] s ⟨D,[(0,io (A.uM 0 n0)),(n0,io (.bT A.l 5))],n0+1⟩:=by
 subst hw;subst ha;subst hb;subst hm;have u:0<n0:=YP h0;have s0:sg n0 [j] 0=0:=gx u;have F:Zb n0 n0=lc:=aaB.2 fun e=>absurd (YP e) (by omega);have G:Zb 0 (n0+1)=kw:=Zy (by omega);have I:Zb n0 (n0+1)=kw:=Zy (by omega);have y:sg n0 [j] n0=j:=by simp[sg,F]
 refine⟨rfl,YP hns,fun x B=>?_,hf,⟨⟨_,by rw[s0];exact hi,?_⟩,aav u,?_,⟨.bT w.l 5,by rw[y];exact hj,.of_eq Z⟩,aai _,ac,ac⟩,?_⟩
 .simp only[Y4]at B;subst B;exact YP hlj
 .simp only[AO.da,dK,PV.da,s0,y];exact .cells ⟨.refl _,.refl _,hc,hd,ac⟩
 .simp[AO.low,bq,PV.low,G,I]
 .have:(0:Nat)≠j:=fun e=>by subst e;simp at hne
  simp only[en,s0,y];simpa using this
theorem tF{n0 j m:Nat}{x:AF}{w u:WS}{a b c d:PV}(hw:w=u)(hi:s.h.get 0=io (.cells [a,b,c,d] (io 247)):=by exact rfl)(ha:a= .fB w.fr 0:=by exact rfl)(hb:b= .sl j 0 m 1:=by exact rfl)(hm:m=w.l.length:=by exact rfl)(hc:aL c (pB w.bad):=by first|exact .refl _|exact .kb _)(hd:aL d (pI w.br):=by first|exact .refl _|exact .kb _)(hj:s.h.get j=io (.bT w.l 5):=by exact rfl)(hlj:Zb j s.nx=kw:=by exact rfl)(hne:Zk 0 j=lc:=by exact rfl)(h0:Zb 0 n0=kw:=by exact rfl)(hns:aaM n0 s.nx=kw:=by exact rfl)(hf:Gw (n0+1) (sg n0 [j]) s.f x:=by repeat' (first|exact ac|exact aL.refl _|exact rfl|apply ZC)):Wk n0 [j] s ⟨x,[(0,io (u.uM 0 n0)),(n0,io (.bT u.l 5))],n0+1⟩:=Xr (hw:=hw) (hi:=hi) (ha:=ha) (hb:=hb) (hm:=hm) (hc:=hc) (hd:=hd) (hj:=hj) (hlj:=hlj) (hne:=hne) (h0:=h0) (hns:=hns) (hf:=hf)
end
end
def BP(w:WS)(s:aj):WS:=⟨lc,w.l++s.data.toList,w.bad,w.br⟩
theorem d183(w:WS)(s:aj)(hb:w.l.length+s.size<=140737488355328):bV prog 243 [.ptr 0 0,pS s] w.O (.bM [pI s.size,.iv (.v .nilIface)]) (BP w s).H 3:=by
 refine aB ab func243 Z (by decide) ntmps243 Z (by simp) ?_;refine gA Z (zq [0,1] (d204 w) ?_);refine gA Z ?_;refine Qj ab Z Z Z Z Z Z Z Z Z Z Z Z Z Z Z Z hb ?_;refine gA Z kD
def aS(w:WS)(b:Bool):WS:=⟨w.fr,w.l,w.bad||!b,w.br⟩
theorem P2(w:WS){b:Bool}(h:(!b)=lc):aS w b=w:=by cases w;simp_all [aS]
theorem P3(w:WS){b:Bool}(h:(!b)=kw):aS w b=⟨w.fr,w.l,kw,w.br⟩:=by cases w;simp_all [aS]
theorem d146(w:WS)(b:Bool):bV prog 216 [.ptr 0 0,pB b] w.O (.bM []) (aS w b).H 3:=by
 refine aB ab func216 Z (by decide) ntmps216 Z (by simp) ?_;refine zJ Z Z (fun h=>?_) fun h=>?_
 .rw[P3 w h];refine gA Z kD
 .rw[P2 w h];refine gA Z kD
def a8(w:WS)(b:List aj):WS:=b.foldl BP w
def gU(b:List aj):Nat:=(b.map abG).sum
theorem KZ(w:WS)(s:aj):(BP w s).l.length=w.l.length+s.size:=by simp[BP]
theorem kI: ∀(b:List aj) (w:WS),(a8 w b).l.length=w.l.length+gU b
 | [],w=>by simp[a8,gU]
 |s::r,w=>by
  have:=kI r (BP w s);simp only[a8,Zn]at this ⊢;rw[this,KZ];simp[gU];omega
theorem xy: ∀(b:List aj) (i:Nat),i<b.length->gU (b.take i)+(b.getD i em).size<=gU b
 | [],i,h=>by simp at h
 |s::r,0,_=>by simp[gU]
 |s::r,i+1,h=>by
  have:=xy r i (by simpa using h);simp[gU]at this ⊢;omega
theorem d147(w:WS)(d:List aj)(A:d.length<=1000)(hb:w.l.length+gU d<=140737488355328):bV prog 217 [.ptr 0 0,.sl 2 0 d.length 1] [w.c,.bT w.l 5,aG 1 d cX] (.bM []) [(0,io ((a8 w d).uM 0 3)),(3,io (.bT (a8 w d).l 5))] 4:=by
 refine aB ab func217 Z (by decide) ntmps217 Z (by simp) ?_;refine gA Z ?_;refine Cl 2 (fun k=>cX (d.getD k em)) Z (fM Z) (by simp[AF.xQ,PV.db,qW]) ⟨(by simp[AO.xQ,iR,PV.db]),ac,xH _ _ _ _ _ _,ac⟩ ?_;refine az 0 d.length (YZ _) (fun i=>⟨[(0,.ptr 0 0),(6,.iv (strs d)),(7,pI d.length),(8,pI i)],[(0,io ((a8 w (d.take i)).uM 0 3)),(3,io (.bT (a8 w (d.take i)).l 5))],4⟩) (fun _=>True) [1] ac
  (zM (bv ⟨.dG Z (fun k _=>by rw[Zh]),rfl,bv (bv trivial)⟩) ⟨⟨_,rfl,.of_eq Z⟩,YP Z,rfl,⟨_,rfl,.of_eq Z⟩,YP Z,ac,ac⟩) fun i y _=>?_
 refine zJ Z Z (fun j=>?_) fun j=>?_
 .have j:i<d.length:=zN j;have u:a8 w (d.take (i+1))=BP (a8 w (d.take i)) (d.getD i em):=cH (g:=BP) (b:=w) j;have x:=kI (d.take i) w;have B:=xy d i j;refine gA Z (j5 (d183 (a8 w (d.take i)) (d.getD i em) (by omega)) ?_);refine gA Z ⟨j,ac,[4],zW ⟨⟨_,rfl,.of_eq (by rw[u];rfl)⟩,YP Z,rfl,⟨_,rfl,.of_eq (by rw[u];rfl)⟩,YP Z,ac,ac⟩⟩
 .have j:d.length<=i:=zG j;rw[Y1 j];refine gA Z (zD [3] Z (zW ⟨⟨_,rfl,.of_eq Z⟩,YP Z,rfl,⟨_,rfl,.of_eq Z⟩,YP Z,ac,ac⟩))
end Go.Proofs.YtflegjieadkonaaGreatDoor
namespace Go.Proofs
open Go.Shelf
def Tryz.B5:Go.Shelf.Ren:=⟨fun|171=>273|243=>285|246=>297|283=>302|284=>303|285=>304|286=>305|129=>153|317=>307|318=>308|319=>309|320=>310|337=>311|338=>312|n=>n,fun|3=>3|9=>9|2=>2|4=>4|171=>337|0=>0|53=>205|37=>243|5=>5|173=>339|212=>343|51=>203|20=>20|213=>344|46=>179|232=>345|233=>346|n=>n,fun|17=>0|18=>1|19=>2|n=>n⟩
theorem Tryz.LC:Go.Proofs.LaysM.n171 Tryz.prog Tryz.B5:={
 mixed:=by kernel_rfl
 f129:=Tryz.func153.trans (congrArg io (by kernel_rfl))
 f171:=Tryz.func273.trans (congrArg io (by kernel_rfl))
 f243:=Tryz.func285.trans (congrArg io (by kernel_rfl))
 f246:=Tryz.func297.trans (congrArg io (by kernel_rfl))
 f283:=Tryz.func302.trans (congrArg io (by kernel_rfl))
 f284:=Tryz.func303.trans (congrArg io (by kernel_rfl))
 f285:=Tryz.func304.trans (congrArg io (by kernel_rfl))
 f286:=Tryz.func305.trans (congrArg io (by kernel_rfl))
 f317:=Tryz.func307.trans (congrArg io (by kernel_rfl))
 f318:=Tryz.func308.trans (congrArg io (by kernel_rfl))
 f319:=Tryz.func309.trans (congrArg io (by kernel_rfl))
 f320:=Tryz.func310.trans (congrArg io (by kernel_rfl))
 f337:=Tryz.func311.trans (congrArg io (by kernel_rfl))
 f338:=Tryz.func312.trans (congrArg io (by kernel_rfl))
 t0:=Tryz.underlying0
 a0:=Tryz.isAgg0
 z0:=Tryz.sizeOf0
 v0:=Tryz.zeroValue0
 t2:=Tryz.underlying2
 a2:=Tryz.isAgg2
 z2:=Tryz.sizeOf2
 v2:=Tryz.zeroValue2
 t3:=Tryz.underlying3
 a3:=Tryz.isAgg3
 z3:=Tryz.sizeOf3
 v3:=Tryz.zeroValue3
 t4:=Tryz.underlying4
 a4:=Tryz.isAgg4
 z4:=Tryz.sizeOf4
 v4:=Tryz.zeroValue4
 t5:=Tryz.underlying5
 a5:=Tryz.isAgg5
 z5:=Tryz.sizeOf5
 v5:=Tryz.zeroValue5
 t9:=Tryz.underlying9
 a9:=Tryz.isAgg9
 z9:=Tryz.sizeOf9
 v9:=Tryz.zeroValue9
 t20:=Tryz.underlying20
 a20:=Tryz.isAgg20
 z20:=Tryz.sizeOf20
 v20:=Tryz.zeroValue20
 t37:=Tryz.underlying243
 a37:=Tryz.isAgg243
 z37:=Tryz.sizeOf243
 v37:=Tryz.zeroValue243
 t46:=Tryz.underlying179
 a46:=Tryz.isAgg179
 z46:=Tryz.sizeOf179
 v46:=Tryz.zeroValue179
 t51:=Tryz.underlying203
 a51:=Tryz.isAgg203
 z51:=Tryz.sizeOf203
 v51:=Tryz.zeroValue203
 t53:=Tryz.underlying205
 a53:=Tryz.isAgg205
 z53:=Tryz.sizeOf205
 v53:=Tryz.zeroValue205
 t171:=Tryz.underlying337
 a171:=Tryz.isAgg337
 z171:=Tryz.sizeOf337
 v171:=Tryz.zeroValue337
 t173:=Tryz.underlying339
 a173:=Tryz.isAgg339
 z173:=Tryz.sizeOf339
 v173:=Tryz.zeroValue339
 t212:=Tryz.underlying343
 a212:=Tryz.isAgg343
 z212:=Tryz.sizeOf343
 v212:=Tryz.zeroValue343
 t213:=Tryz.underlying344
 a213:=Tryz.isAgg344
 z213:=Tryz.sizeOf344
 t232:=Tryz.underlying345
 a232:=Tryz.isAgg345
 z232:=Tryz.sizeOf345
 v232:=Tryz.zeroValue345
 t233:=Tryz.underlying346
 a233:=Tryz.isAgg346
 z233:=Tryz.sizeOf346
 v233:=Tryz.zeroValue346
 g17:=by kernel_rfl
 g18:=by kernel_rfl
 g19:=by kernel_rfl
 i0:=by kernel_rfl
 i2:=by kernel_rfl
 i3:=by kernel_rfl
 i4:=by kernel_rfl
 i5:=by kernel_rfl
 i9:=by kernel_rfl
 i20:=by kernel_rfl
 i37:=by kernel_rfl
 i46:=by kernel_rfl
 i51:=by kernel_rfl
 i53:=by kernel_rfl
 i171:=by kernel_rfl
 i173:=by kernel_rfl
 i212:=by kernel_rfl
 i232:=by kernel_rfl
 i233:=by kernel_rfl
 m17:=by kernel_rfl
 m18:=by kernel_rfl
 m19:=by kernel_rfl}
theorem YtflegjieadkonaaGreatDoor.Wo (n:Int) (h0: -9223372036854775808<=n) (h1:n<=9223372036854775807) (w:World) (b:Lib.TabIs Tryz.prog w "internal/strconv.uint64pow10" .u64 Lib.pow10Tab):
  Calls Tryz.prog 273 #[.int .i64 n] w fun e d=>e= .returned (.string ⟨(Lib.itoa n).toArray⟩)∧ ∃k os,d=Go.Sort.grow (w.drewN k) os:=Any.strconv_Itoa Tryz.LC n h0 h1 w b
end Go.Proofs
namespace Go.Proofs.YtflegjieadkonaaGreatDoor
open Go Go.Al Go.Proofs.Tryz
theorem XC:prog.globalNamed "internal/strconv.uint64pow10" =io 0:=by kernel_rfl
theorem pow_eq:sZ=Lib.pow10Tab:=by decide
theorem Xt{M:Mem}{N:Nm}{U:Nat->Prop}{h:AH}{w:World}(hr:Rel M N U h w):Lib.TabIs prog w "internal/strconv.uint64pow10" .u64 Lib.pow10Tab:=by
 obtain⟨T,d,b⟩:=hr.fj 0 _ (M.Qr 0 _ Z);show World.var? _ _ _=_;simp only[World.var?,XC,abR,b,pow_eq]
theorem WO(n:Int)(h0: -9223372036854775808<=n)(h1:n<=9223372036854775807):Pure prog 273 [pI n] (pS ⟨(Lib.itoa n).toArray⟩):=by
 refine⟨bH func273 Z (by decide),fun M N w D x u G=>?_⟩;obtain⟨v,rfl⟩: ∃v,D=[v]:=by
  cases D with
  |nil=>cases u
  |cons v r=>cases r with
   |nil=>exact⟨v,rfl⟩
   |cons a b=>simp at u
 have y:VR M N (· <0) (pI n) v:=G 0 _ Z;have A:v= .int .i64 n:=by
  cases y with
  |iv _ _ h=>cases h;rfl
 subst A;refine(Wo n h0 h1 w (Xt x)).mono ?_;rintro e I ⟨rfl,k,os,rfl⟩;have B: ∀b,b<w.heap.size->(Go.Sort.grow (w.drewN k) os).heap[b]? =w.heap[b]? :=fun b hb=>by
  show(w.heap++os)[b]? =_;rw[ZU hb]
 refine⟨_,M,N,pS ⟨(Lib.itoa n).toArray⟩,[],0,rfl,⟨rfl,rfl,rfl⟩,⟨rfl,rfl,rfl,?_,fun b hb _=>B b hb,.refl _,fun b c h1 F=>(nomatch (h1.symm.trans F)),.refl _ _,fun _ h=>h,fun i o d=>(nomatch d)⟩,⟨fun b c hb=>?_,fun i o d=>(nomatch d),fun i o d=>(nomatch d),fun i o d=>(nomatch d),fun i j o p d=>(nomatch d)⟩,.iv _ _ (.v _)⟩
 .show w.heap.size<=(w.heap++os).size;simp
 .exact(x.fj b c hb).mono (B b (x.fj b c hb).lt)
def Qh:aj:=⟨#[48,49,50,51,52,53,54,55,56,57,65,66,67,68,69,70]⟩
def Qg(c:UInt8):Int:=(c.toNat:Int).fdiv (2 ^ min (Int.toNat 4) IntKind.u8.bits)
def SG(c:UInt8):Int:=IntKind.u8.wrap ((BitVec.ofInt IntKind.u8.bits (c.toNat:Int)&&&BitVec.ofInt IntKind.u8.bits 15).toNat:Int)
theorem LP(c:UInt8):0<=Qg c∧Qg c<16:=by
 have h:c.toNat<256:=c.toNat_lt;have e:Qg c=(c.toNat:Int)/16:=by
  unfold Qg;have:(2:Int) ^ min (Int.toNat 4) IntKind.u8.bits=16:=by decide
  rw[this];exact Int.fdiv_eq_ediv_of_nonneg _ (by decide)
 rw[e];omega
theorem Ls: ∀c:UInt8,0<=SG c∧SG c<16:=by
 intro c;have h: ∀n:Fin 256,0<=SG (UInt8.ofNat n.val)∧SG (UInt8.ofNat n.val)<16:=by decide
 have:=h ⟨c.toNat,c.toNat_lt⟩;simpa using this
def Ch(n:Int):UInt8:=Qh.data.toList.getD n.toNat 0
def qB(c:UInt8):List UInt8:=if c.toNat=34∨c.toNat=92 then[92,c] else if c.toNat=10 then[92,110] else if c.toNat<32∨126<c.toNat then[92,120,Ch (Qg c),Ch (SG c)] else[c]
theorem T9(c:UInt8):(qB c).length<=4:=by
 unfold qB
 repeat' split
 all_goals simp
def mY(s:aj)(i:Nat):List UInt8:=34::(s.data.toList.take i).flatMap qB
def p7(s:aj):aj:=⟨(34::s.data.toList.flatMap qB++ [34]).toArray⟩
theorem ud(s:aj): ∀i,(mY s i).length<=1+4*i
 |0=>by simp[mY]
 |i+1=>by
  have h:=ud s i;rcases Z1 i s.data.toList.length with hi|hi
  .have:=T9 (s.data.toList.getD i em);simp only[mY,Zr]at h ⊢;rw[bG hi,YS];omega
  .simp only[mY,Y1 hi]at h;simp only[mY,Y1 (by omega:s.data.toList.length<=i+1)];omega
theorem Ao{s:aj}{i:Nat}(h:i<s.data.toList.length):mY s (i+1)=mY s i++qB (s.data.toList.getD i em):=by
 simp only[mY,bG h,aat]
theorem Ya(s:aj)(hs:s.size<=1000):Pure prog 274 [pS s] (pS (p7 s)):=by
 have J:s.data.toList.length=s.size:=by simp
 refine ah ab func274 Z (by decide) ntmps274 Z (by simp) Z ?_;refine gA Z ?_;refine Ji ab Z Z Z Z Z Z Z Z Z Z Z (by omega) ?_;refine gA Z ?_;refine az 0 s.data.toList.length (YZ _) (fun i=>⟨[(3,.sl 1 0 (mY s i).length 1),(8,.iv (.dG 1 s.data.toList.length fun k=>yG (s.data.toList.getD k em))),(9,pI s.data.toList.length),(10,pI i)],[(1,io (aG 1 (mY s i) yG))],2⟩) (fun _=>True) [0] ac
  (zW (zS trivial)) fun i I _=>?_
 have S:=ud s i;refine zE Z Z (fun x=>?_) fun x=>?_
 .have x:s.data.toList.length<=i:=zG x;refine gA Z ?_;refine Qo ab (mY s i++ [34]) Z Z Z Z Z Z Z Z Z Z Z Z (by rw[YX];rfl) (by rw[YS];rfl) ?_;refine gA Z (zL (.of_eq ?_));simp only[mY,p7,Y1 x];rfl
 have x:i<s.data.toList.length:=zN x;have b:=Ao x;have d:s.data.toList.getD (i:Int).toNat em=s.data.toList.getD i em:=rfl;generalize G:s.data.toList.getD i em=c at b d;refine zJ Z Z (fun A=>?_) fun A=>?_
 .have A:c.toNat=34:=by have:=zT A;rw[d]at this;omega
  rw[qB,am (.inl A)]at b;refine gA Z ⟨x,ac,[3],zM ⟨.row (by rw[b,YS];rfl),rfl,bv (bv (bv ac))⟩ (hR Z (by rw[b,YX,<-G];rfl) Z ac)⟩
 have A: ¬c.toNat=34:=by have:=zF A;rw[d]at this;omega
 refine zJ Z Z (fun B=>?_) fun B=>?_
 .have B:c.toNat=92:=by have:=zT B;rw[d]at this;omega
  rw[qB,am (.inr B)]at b;refine gA Z ⟨x,ac,[3],zM ⟨.row (by rw[b,YS];rfl),rfl,bv (bv (bv ac))⟩ (hR Z (by rw[b,YX,<-G];rfl) Z ac)⟩
 have B: ¬c.toNat=92:=by have:=zF B;rw[d]at this;omega
 rw[qB,be (by omega)]at b;refine zJ Z Z (fun y=>?_) fun y=>?_
 .have y:c.toNat=10:=by have:=zT y;rw[d]at this;omega
  rw[am y]at b;refine gA Z ⟨x,ac,[3],zM ⟨.row (by rw[b,YS];rfl),rfl,bv (bv (bv ac))⟩ (hR Z (by rw[b,YX];rfl) Z ac)⟩
 have y: ¬c.toNat=10:=by have:=zF y;rw[d]at this;omega
 rw[be y]at b;have j:=LP c;have u:=Ls c;rw[<-G]at j u;simp only[Qg,SG]at j u;refine zJ Z Z (fun D=>?_) fun D=>?_
 .have D:c.toNat<32:=by have:=zT D;rw[d]at this;omega
  rw[am (.inl D)]at b;refine nS Z (by(repeat' (first|exact ac|exact rfl|exact aL.refl _|exact j|exact u|apply ZC))<;>first|omega|exact j.1|exact j.2|exact u.1|exact u.2|simp) ?_;exact⟨x,ac,[3],zM ⟨.row (by rw[b,YS];rfl),rfl,bv (bv (bv ac))⟩ (hR Z (by rw[b,YX,<-G];rfl) Z ac)⟩
 have D: ¬c.toNat<32:=by have:=zF D;rw[d]at this;omega
 refine zJ Z Z (fun F=>?_) fun F=>?_
 .have F:126<c.toNat:=by have:=zT F;rw[d]at this;omega
  rw[am (.inr F)]at b;refine nS Z (by(repeat' (first|exact ac|exact rfl|exact aL.refl _|exact j|exact u|apply ZC))<;>first|omega|exact j.1|exact j.2|exact u.1|exact u.2|simp) ?_;exact⟨x,ac,[3],zM ⟨.row (by rw[b,YS];rfl),rfl,bv (bv (bv ac))⟩ (hR Z (by rw[b,YX,<-G];rfl) Z ac)⟩
 have F: ¬126<c.toNat:=by have:=zF F;rw[d]at this;omega
 rw[be (by omega)]at b;refine gA Z ⟨x,ac,[3],zM ⟨.row (by rw[b,YS];rfl),rfl,bv (bv (bv ac))⟩ (hR Z (by rw[b,YX,<-G];rfl) Z ac)⟩
def tM(v:tE):aj:=if v.kind=1 then⟨(Lib.itoa v.num).toArray⟩ else if ep v.sym then v.sym else p7 v.sym
theorem sG{v:tE}(h:dt v=0)(h1:v.kind=1): -2147483647<=v.num∧v.num<=2147483647:=by
 unfold dt at h;rw[am h1]at h;split at h
 .rename_i b;exact b.2
 .cases h
theorem sF{v:tE}(h:dt v=0)(h1: ¬v.kind=1):v.sym.size<=64:=by
 unfold dt at h;rw[be h1]at h;split at h
 .split at h
  .rename_i b;exact b.2
  .cases h
 .cases h
theorem Yd(v:tE)(j:dt v=0):Pure prog 262 [ag v.c] (pS (tM v)):=by
 refine ah ab func262 Z (by decide) ntmps262 Z (by simp) Z ?_;refine zJ Z Z (fun b=>?_) fun b=>?_
 .have b:v.kind=1:=by simpa using b
  have:=sG j b;refine gA Z (zp (WO v.num (by omega) (by omega)) ?_);refine gA Z (zL (.of_eq ?_));rw[tM,am b];rfl
 have b: ¬v.kind=1:=by simpa using b
 have u:=sF j b;refine gA Z (zp (XR v.sym) ?_);refine zJ Z Z (fun d=>?_) fun d=>?_
 .have d:ep v.sym=kw:=d;refine gA Z (zL (.of_eq ?_));rw[tM,be b,am d];rfl
 .have d:ep v.sym=lc:=d;refine gA Z (zp (Ya v.sym (by omega)) ?_);refine gA Z (zL (.of_eq ?_));rw[tM,be b,be (by rw[d];simp)];rfl
def nZ(v:tE):aj:=if dt v=0 then tM v else⟨#[]⟩
theorem Yi(v:tE):Pure prog 244 [ag v.c] (.bM [pS (nZ v),pI (dt v)]):=by
 refine ah ab func244 Z (by decide) ntmps244 Z (by simp) Z ?_;refine gA Z (zp (Ys v) ?_);refine zJ Z Z (fun b=>?_) fun b=>?_
 .have b: ¬dt v=0:=by simpa using b
  refine gA Z (zL (.of_eq ?_));rw[nZ,be b];rfl
 .have b:dt v=0:=by simpa using b
  refine gA Z (zp (Yd v b) ?_);refine gA Z (zL (.of_eq ?_));rw[nZ,am b,b];rfl
def nG(w:WS)(v:tE):WS:=a8 (aS w (li (dt v=0))) [nZ v]
theorem d149(w:WS)(v:tE)(hb:w.l.length<=1000000000000)(b:(nZ v).size<=1000):bV prog 219 [.ptr 0 0,ag v.c] w.O (.bM []) (nG w v).H 3:=by
 refine aB ab func219 Z (by decide) ntmps219 Z (by simp) ?_;refine gA Z (zp (Yi v) ?_);refine gA Z (Wt (d146 ⟨_,_,_,_⟩ (li (dt v=0))) Z Z Z Z Z Z Z Z Z Z Z Z ?_);refine gA Z (go_wp (d147 ⟨_,_,_,_⟩ [nZ v] (by simp) (by simp[gU,aS];omega)) Z Z Z Z Z Z Z Z Z Z Z Z ?_);refine gA Z kD
def bg(op:Int):Int:=if op=1∨op=2 then 1 else if op=3∨op=4∨op=5 then 2 else if op=6 then 3 else 0
theorem QN(op:Int):Pure prog 246 [pI op] (pI (bg op)):=by
 refine ah ab func246 Z (by decide) ntmps246 Z (by simp) Z ?_
 repeat' (first|(refine gA Z (zI (fun _=>?_) (fun _=>?_)))|(refine gA Z (zL (.of_eq ?_))))
 all_goals(refine(FG ?_:pI _=pI _);simp only[abh,abj,decide_eq_true_eq,decide_eq_false_iff_not] at*;simp_all [bg])
def eB(e:Expr):Int:=if e.kind=4 then bg e.op else 4
theorem JD(e:Expr):Pure prog 264 [ag e.c] (pI (eB e)):=by
 refine ah ab func264 Z (by decide) ntmps264 Z (by simp) Z ?_
 repeat' (first|(refine gA Z (zI (fun _=>?_) (fun _=>?_)))|(refine gA Z (zp (QN e.op) ?_))|(refine gA Z (zL (.of_eq ?_))))
 all_goals(refine(FG ?_:pI _=pI _);simp_all [eB])
def cT(v:tE):Bool:=li (v.kind=0)&&(li (v.num=0)&&(li (v.sym=YW)&&kw))
def cV(e:Expr):Bool:=li (e.kind=0)&&(li (e.var=⟨#[]⟩)&&(cT e.val&&(li (e.op=0)&&li ((e.args.length:Int)=0))))
theorem QO(e:Expr):Pure prog 245 [ag e.c] (pB (cV e)):=by
 refine ah ab func245 Z (by decide) ntmps245 Z (by simp) Z ?_
 repeat' (first|(refine gA Z (zI (fun _=>?_) (fun _=>?_)))|(refine gA Z (zL (.of_eq ?_))))
 all_goals(refine(fO ?_:pB _=pB _))
 all_goals(simp only[cV,cT, *];rfl)
def kz(l:Lit):Bool:=
 (li (l.kind=1)||decide (l.kind=2)||!(!li (l.atom.rel=⟨#[]⟩)||decide ((l.atom.ad.length:Int)>0)))&&
 ((!(!li (l.kind=3))||!(!li (l.op=0)||(!cV l.left||!cV l.right)))&&
 (li (l.kind=4)||(li (l.c6=0)&&(li (l.a7=⟨#[]⟩)&&(cV l.jQ&&li ((l.ar.length:Int)=0))))))
set_option maxHeartbeats 4000000 in
theorem Yh(l:Lit):Pure prog 221 [ag l.c] (pB (kz l)):=by
 refine ah ab func221 Z (by decide) ntmps221 Z (by simp) Z ?_
 repeat' (first|(refine gA Z (zI (fun _=>?_) (fun _=>?_)))|(refine gA Z (zp (QO l.left) ?_))|(refine gA Z (zp (QO l.right) ?_))|(refine gA Z (zp (QO l.jQ) ?_))|(refine gA Z (zL (.of_eq ?_))))
 all_goals(refine(fO ?_:pB _=pB _))
 all_goals(try simp only[abh,abj] at*)
 all_goals(simp_all [kz])
def pA(op:Int):aj:=if op=1 then⟨#[43]⟩ else if op=2 then⟨#[45]⟩ else if op=3 then⟨#[42]⟩ else if op=4 then⟨#[47]⟩ else⟨#[109,111,100]⟩
def sgL:aj:=⟨#[43,45,42,47]⟩
theorem X6(op:Int):Pure prog 265 [pI op] (pS (pA op)):=by
 refine ah ab func265 Z (by decide) ntmps265 Z (by simp) Z ?_;refine gA Z ?_;refine AR ab Z Z Z Z Z Z Z ?_;refine gA Z ?_;refine az 0 4 (by decide) (fun i=>⟨[(0,pI op),(5,.ptr 0 0)],[(0,io (.eP sgL i))],1⟩) (fun i=> ∀k:Nat,k<i-> ¬(k:Int)+1=op) [] (by simp)
  (zW ⟨⟨_,rfl,.of_eq Z⟩,YP Z,ac,ac⟩) fun i D b=>?_
 have j:i=0∨i=1∨i=2∨i=3∨i=4:=by omega
 rcases j with rfl|rfl|rfl|rfl|rfl
 .refine gA Z ?_;refine ow Z Z Z Z Z Z (fun h=>absurd h (by decide)) (fun _=>?_);refine zJ Z Z (fun h=>?_) fun h=>?_
  .have h:op=1:=by have:=zT h;omega
   refine gA Z ?_;refine w7 ab Z Z Z Z Z Z Z Z Z ?_;refine gA Z (zL (.of_eq ?_));refine(congrArg pS ?_:pS _=pS _);subst h;decide
  .have h: ¬op=1:=by have:=zF h;omega
   refine gA Z ⟨by decide,fun k u=>(by rcases(by omega:k<0∨k=0) with d|rfl;exact b k d;omega),[],zW ⟨⟨_,rfl,.of_eq Z⟩,YP Z,ac,ac⟩⟩
 .refine gA Z ?_;refine ow Z Z Z Z Z Z (fun h=>absurd h (by decide)) (fun _=>?_);refine zJ Z Z (fun h=>?_) fun h=>?_
  .have h:op=2:=by have:=zT h;omega
   refine gA Z ?_;refine w7 ab Z Z Z Z Z Z Z Z Z ?_;refine gA Z (zL (.of_eq ?_));refine(congrArg pS ?_:pS _=pS _);subst h;decide
  .have h: ¬op=2:=by have:=zF h;omega
   refine gA Z ⟨by decide,fun k u=>(by rcases(by omega:k<1∨k=1) with d|rfl;exact b k d;omega),[],zW ⟨⟨_,rfl,.of_eq Z⟩,YP Z,ac,ac⟩⟩
 .refine gA Z ?_;refine ow Z Z Z Z Z Z (fun h=>absurd h (by decide)) (fun _=>?_);refine zJ Z Z (fun h=>?_) fun h=>?_
  .have h:op=3:=by have:=zT h;omega
   refine gA Z ?_;refine w7 ab Z Z Z Z Z Z Z Z Z ?_;refine gA Z (zL (.of_eq ?_));refine(congrArg pS ?_:pS _=pS _);subst h;decide
  .have h: ¬op=3:=by have:=zF h;omega
   refine gA Z ⟨by decide,fun k u=>(by rcases(by omega:k<2∨k=2) with d|rfl;exact b k d;omega),[],zW ⟨⟨_,rfl,.of_eq Z⟩,YP Z,ac,ac⟩⟩
 .refine gA Z ?_;refine ow Z Z Z Z Z Z (fun h=>absurd h (by decide)) (fun _=>?_);refine zJ Z Z (fun h=>?_) fun h=>?_
  .have h:op=4:=by have:=zT h;omega
   refine gA Z ?_;refine w7 ab Z Z Z Z Z Z Z Z Z ?_;refine gA Z (zL (.of_eq ?_));refine(congrArg pS ?_:pS _=pS _);subst h;decide
  .have h: ¬op=4:=by have:=zF h;omega
   refine gA Z ⟨by decide,fun k u=>(by rcases(by omega:k<3∨k=3) with d|rfl;exact b k d;omega),[],zW ⟨⟨_,rfl,.of_eq Z⟩,YP Z,ac,ac⟩⟩
 .refine gA Z ?_;refine ow Z Z Z Z Z Z (fun _=>?_) (fun h=>absurd h (by decide));refine gA Z (zL (.of_eq ?_));have x:=b 0 (by decide);have y:=b 1 (by decide);have A:=b 2 (by decide);have B:=b 3 (by decide);rw[pA,be (by omega),be (by omega),be (by omega),be (by omega)];rfl
theorem FE(s:aj):(p7 s).size<=2+4*s.size:=by
 have h:=ud s s.data.toList.length;simp only[mY,aaz,Zr]at h;have e:(p7 s).size=(34::s.data.toList.flatMap qB++ [34]).length:=by simp[p7,abG]
 have:s.data.toList.length=s.size:=by simp
 rw[e,YS,Zr,Zs];omega
theorem nY(v:tE):(nZ v).size<=300:=by
 unfold nZ;split
 .rename_i d;unfold tM;split
  .rename_i b;have:=sG d b;have j:=Lib.itoa_length_le v.num (by omega) (by omega);have e:(⟨(Lib.itoa v.num).toArray⟩:ByteArray).size=(Lib.itoa v.num).length:=by simp[abG]
   omega
  .rename_i b;have j:=sF d b;split
   .omega
   .have:=FE v.sym;omega
 .decide
mutual
def Expr.ts:Expr->Nat
 | .mk _ v _ _ args=>v.size+400+Expr.lB args
def Expr.lB:List Expr->Nat
 | []=>0
 |e::r=>e.ts+Expr.lB r
end
theorem Expr.l9(e:Expr):e.ts=e.var.size+400+Expr.lB e.args:=by cases e;rfl
theorem Expr.tL: ∀(l:List Expr) (k:Nat),k<l.length->(l.getD k em).ts<=Expr.lB l
 |e::r,0,_=>by simp[Expr.lB]
 |e::r,k+1,h=>by
  have:=Expr.tL r k (by simpa using h);simp only[aag,Expr.lB];omega
 | [],k,h=>by simp at h
theorem Expr.wP: ∀(l:List Expr),l.length=2->(l.getD 0 em).ts+(l.getD 1 em).ts<=Expr.lB l
 | [a,b],_=>by simp[Expr.lB]
 | [],h=>by simp at h
 | [a],h=>by simp at h
 |a::b::c::r,h=>by simp at h
def sM:aj:=⟨#[45]⟩
def sO:aj:=⟨#[40]⟩
def sC:aj:=⟨#[41]⟩
def GV:aj:=⟨#[32]⟩
def oE(w:WS):WS:=⟨w.fr,w.l,kw,w.br⟩
def qj(e:Expr):Bool:=eh e.var&&(cT e.val&&(li (e.op=0)&&li ((e.args.length:Int)=0)))
def rZ(e:Expr):Bool:=li (e.var=⟨#[]⟩)&&(li (e.op=0)&&li ((e.args.length:Int)=0))
def mw(e:Expr):Bool:=li (e.var=⟨#[]⟩)&&(cT e.val&&li (bg e.op>0))
def aP(e:Expr):Expr:=e.args.getD 0 em
def kV(e:Expr):Expr:=e.args.getD 1 em
def pK(e:Expr):Bool:=li (e.kind=2)&&li (e.val.kind=1)
def oi(a:Expr):Bool:=li (eB a<3)||(pK a&&li (a.val.num>0))
def jK(w:WS)(e:Expr)(k:WS):WS:=
 if w.bad=kw then oE w else if e.kind=1 then a8 (aS w (qj e)) [e.var] else if e.kind=2 then nG (aS w (rZ e)) e.val else if e.kind=4 then k else oE w
def kh(a0:Bool->WS->Expr->WS)(w:WS)(e:Expr):WS:=
 if w.bad=kw then oE w else if e.op=6 then
  (if e.args.length=1 then a0 (oi (aP e)) (if(pK (aP e)&&li ((aP e).val.num=0))=kw then a8 (a8 w [sM]) [sM] else a8 w [sM]) (aP e) else oE w)
 else if e.args.length=2 then a0 (li (eB (kV e)<=bg e.op)) (a8 (a0 (li (eB (aP e)<bg e.op)) w (aP e)) [GV,pA e.op,GV]) (kV e) else oE w
def cO:Nat->WS->Expr->WS
 |0,w,_=>oE w
 |1,w,e=>jK w e (oE (aS w (mw e)))
 |m+2,w,e=>jK w e (kh (fun b w a=>if b=kw then a8 (cO m (a8 w [sO]) a) [sC] else cO (m+1) w a) (aS w (mw e)) e)
def qU(m:Nat)(b:Bool)(w:WS)(a:Expr):WS:=if b=kw then a8 (cO m (a8 w [sO]) a) [sC] else cO (m+1) w a
theorem aX(w:WS)(b:Bool):(aS w b).l=w.l:=rfl
theorem iz(w:WS):(oE w).l=w.l:=rfl
theorem cy(s:aj):gU [s]=s.size:=by simp[gU]
theorem Dj(op:Int):(pA op).size<=3:=by
 unfold pA
 repeat' split
 all_goals decide
theorem aV(w:WS)(s:aj):(a8 w [s]).l.length=w.l.length+s.size:=by rw[kI,cy]
theorem xl(w:WS)(v:tE):(nG w v).l.length<=w.l.length+300:=by
 have:=nY v;rw[nG,aV,aX];omega
theorem AG(w k:WS)(e:Expr)(h:k.l.length<=w.l.length+e.ts):(jK w e k).l.length<=w.l.length+e.ts:=by
 have:=e.l9;unfold jK
 repeat' split
 .rw[iz];omega
 .rw[aV,aX];omega
 .have:=xl (aS w (rZ e)) e.val;rw[aX]at this;omega
 .exact h
 .rw[iz];omega
theorem IW(a0:Bool->WS->Expr->WS)(d: ∀b w a,(a0 b w a).l.length<=w.l.length+(2+a.ts))(w:WS)(e:Expr):(kh a0 w e).l.length<=w.l.length+e.ts:=by
 have B:=e.l9;unfold kh;split
 .rw[iz];omega
 split
 .split
  .rename_i u;have y:=Expr.tL e.args 0 (by omega);have j:sM.size=1:=rfl;split
   .have:=d (oi (aP e)) (a8 (a8 w [sM]) [sM]) (aP e);rw[aV,aV]at this;simp only[aP]at this ⊢;omega
   .have:=d (oi (aP e)) (a8 w [sM]) (aP e);rw[aV]at this;simp only[aP]at this ⊢;omega
  .rw[iz];omega
 .split
  .rename_i u;have y:=Expr.wP e.args u;have x:=d (li (eB (kV e)<=bg e.op)) (a8 (a0 (li (eB (aP e)<bg e.op)) w (aP e)) [GV,pA e.op,GV]) (kV e);have D:=d (li (eB (aP e)<bg e.op)) w (aP e);have F:=Dj e.op;have j:GV.size=1:=rfl;rw[kI]at x;have A:gU [GV,pA e.op,GV]=1+((pA e.op).size+1):=by simp[gU,j]
   simp only[aP,kV] at*;omega
  .rw[iz];omega
theorem ef: ∀(n:Nat) (w:WS) (e:Expr),(cO n w e).l.length<=w.l.length+e.ts
 |0,w,e=>by rw[cO,iz];omega
 |1,w,e=>by rw[cO];exact AG _ _ _ (by rw[iz,aX];omega)
 |m+2,w,e=>by
  rw[cO];refine AG _ _ _ ?_
  have:=IW (fun d w a=>if d=kw then a8 (cO m (a8 w [sO]) a) [sC] else cO (m+1) w a) (fun b w a=>by
   split
   .have j:=ef m (a8 w [sO]) a;have u:sO.size=1:=rfl;have x:sC.size=1:=rfl;rw[aV]at j ⊢;omega
   .have:=ef (m+1) w a
    omega) (aS w (mw e)) e
  rwa[aX]at this
theorem MY(m:Nat)(b:Bool)(w:WS)(a:Expr):(qU m b w a).l.length<=w.l.length+(2+a.ts):=by
 unfold qU;split
 .have d:=ef m (a8 w [sO]) a;have j:sO.size=1:=rfl;have u:sC.size=1:=rfl;rw[aV]at d ⊢;omega
 .have:=ef (m+1) w a;omega
def PE(n:Nat):Prop:= ∀(d:Int) (w:WS) (e:Expr),d+1=n->w.l.length+e.ts<=1000000000->bV prog 222 [.ptr 0 0,ag e.c,pI d] w.O (.bM []) (cO n w e).H 3
theorem d225(n:Nat)(hn:n<=1000)(x:PE (n+1))(hB:PE n)(b:Bool)(d:Int)(hd:d=n)(w:WS)(e:Expr)(hb:w.l.length+e.ts+2<=1000000000):bV prog 263 [.ptr 0 0,ag e.c,pB b,pI d] w.O (.bM []) (qU n b w e).H 3:=by
 refine aB ab func263 Z (by decide) ntmps263 Z (by simp) ?_;refine zJ Z Z (fun h=>?_) fun h=>?_
 .have h:b=lc:=by simpa using h
  rw[qU,be (by rw[h];simp)];refine gA Z (j5 (x d w e (by omega) (by omega)) ?_);refine gA Z kD
 .have h:b=kw:=by simpa using h
  rw[qU,am h];have j:sO.size=1:=rfl;have u:sC.size=1:=rfl;have y:=ef n (a8 w [sO]) e;have A:=aV w sO;refine gA Z (kO (d147 w [sO] (by simp) (by rw[cy,j];omega)) ?_);refine gA Z (j5 (hB (d-1) (a8 w [sO]) e (by omega) (by omega)) ?_);refine gA Z (kO (d147 (cO n (a8 w [sO]) e) [sC] (by simp) (by rw[cy,u];omega)) ?_);refine gA Z kD
theorem WE(d:Int)(hd:d<0)(w:WS)(e:Expr):bV prog 247 [.ptr 0 0,ag e.c,pI d] w.O (.bM []) (oE w).H 3:=by
 refine aB ab func247 Z (by decide) ntmps247 Z (by simp) ?_
 repeat' (first
  |((rename_i h;exact absurd hd (zF h)))
  |(refine gA Z (zI (fun _=>?_) (fun _=>?_)))
  |(refine gA Z (Mq (by first|exact .inr Z|exact .inl Z) Z Z Z Z Z (by first|exact .refl _|exact .kb _) (by first|exact .refl _|exact .kb _) Z Z Z Z (.refl _) Z Z)))
set_option maxHeartbeats 2000000 in
theorem d213(m:Nat)(hm:m<=900)(I:PE (m+1))(hB:PE m)(d:Int)(hd:d=m)(w:WS)(e:Expr)(hb:w.l.length+e.ts<=1000000000):bV prog 247 [.ptr 0 0,ag e.c,pI d] w.O (.bM []) (kh (qU m) w e).H 3:=by
 refine bV.le (aa:=[.ptr 0 0,ag e.c,pI d]) (args:=[.ptr 0 0,ag e.c1,pI d]) ?_ ⟨.refl _,e.zm,.refl _,ac⟩;have e0:=e.l9;have G:sM.size=1:=rfl;have x:m<=1000:=by omega
 refine aB ab func247 Z (by decide) ntmps247 Z (by simp) ?_;refine zJ Z Z (fun J=>?_) fun J=>?_
 .have J:e.op=6:=zT J;refine zE Z Z (fun B=>?_) fun B=>?_
  .have B:w.bad=kw:=B;rw[kh,am B];refine gA Z kD
  have B: ¬w.bad=kw:=by rw[show w.bad=lc from B];simp
  refine zE Z Z (fun D=>?_) fun D=>?_
  .have D: ¬e.args.length=1:=by simp at D;omega
   rw[kh,be B,am J,be D];refine gA Z kD
  have D:e.args.length=1:=by simp at D;omega
  have hg:(aP e).ts<=_:=Expr.tL e.args 0 (by omega);have j:kh (qU m) w e=qU m (oi (aP e)) (if(pK (aP e)&&li ((aP e).val.num=0))=kw then a8 (a8 w [sM]) [sM] else a8 w [sM]) (aP e):=by rw[kh,be B,am J,am D]
  have b0:e.args.getD 0 em=aP e:=rfl;refine zJ Z Z (fun h3=>?_) fun h3=>?_
  .exact absurd (zT h3) (by omega)
  refine zE Z Z (fun h7=>?_) fun h7=>?_
  .exact absurd (zF h7) (by simp)
  have y:=aV w sM;refine zJ Z Z (fun hk=>?_) fun hk=>?_
  .have a0:(aP e).kind=2:=zT hk;refine gA Z (kO (d147 w [sM] (by simp) (by rw[cy,G];omega)) ?_);refine zE Z Z (fun hv=>?_) fun hv=>?_
   .have F: ¬(aP e).val.kind=1:=zF hv;have A:pK (aP e)=lc:=by rw[pK,decide_eq_false F,ZV]
    rw[A,ZZ,be (by simp)]at j;refine gA Z (pP (JD (aP e)) ?_);refine zJ Z Z (fun u=>?_) fun u=>?_
    .have b:eB (aP e)<3:=zT u;rw[oi,decide_eq_true b,abm]at j;rw[j];refine gA Z (zo (d225 m x I hB kw d hd (a8 w [sM]) (aP e) (by rw[y,G];omega)) ?_);refine gA Z kD
    .have b: ¬eB (aP e)<3:=zF u;refine zJ Z Z (fun S=>?_) fun S=>?_
     .exact absurd (zT S) F
     rw[oi,decide_eq_false b,Z7,A,ZZ]at j;rw[j];refine gA Z (zo (d225 m x I hB lc d hd (a8 w [sM]) (aP e) (by rw[y,G];omega)) ?_);refine gA Z kD
   .have F:(aP e).val.kind=1:=zT hv;have A:pK (aP e)=kw:=by rw[pK,decide_eq_true F,decide_eq_true a0];rfl
    rw[A,ZH]at j;refine zJ Z Z (fun h0=>?_) fun h0=>?_
    .have Y:(aP e).val.num=0:=zT h0;rw[am (decide_eq_true Y)]at j;refine gA Z (kO (d147 (a8 w [sM]) [sM] (by simp) (by rw[cy,y,G];omega)) ?_);refine gA Z (pP (JD (aP e)) ?_);refine zJ Z Z (fun u=>?_) fun u=>?_
     .have b:eB (aP e)<3:=zT u;rw[oi,decide_eq_true b,abm]at j;rw[j];refine gA Z (zo (d225 m x I hB kw d hd (a8 (a8 w [sM]) [sM]) (aP e) (by rw[aV,y,G];omega)) ?_);refine gA Z kD
     .have b: ¬eB (aP e)<3:=zF u;refine zE Z Z (fun S=>?_) fun S=>?_
      .exact absurd F (zF S)
      rw[oi,decide_eq_false b,Z7,A,ZH]at j;rw[j];refine gA Z (zo (d225 m x I hB (li ((aP e).val.num>0)) d hd (a8 (a8 w [sM]) [sM]) (aP e) (by rw[aV,y,G];omega)) ?_);refine gA Z kD
    .have Y: ¬(aP e).val.num=0:=zF h0;rw[be (by simpa using Y)]at j;refine gA Z (pP (JD (aP e)) ?_);refine zJ Z Z (fun u=>?_) fun u=>?_
     .have b:eB (aP e)<3:=zT u;rw[oi,decide_eq_true b,abm]at j;rw[j];refine gA Z (zo (d225 m x I hB kw d hd (a8 w [sM]) (aP e) (by rw[y,G];omega)) ?_);refine gA Z kD
     .have b: ¬eB (aP e)<3:=zF u;refine zE Z Z (fun S=>?_) fun S=>?_
      .exact absurd F (zF S)
      rw[oi,decide_eq_false b,Z7,A,ZH]at j;rw[j];refine gA Z (zo (d225 m x I hB (li ((aP e).val.num>0)) d hd (a8 w [sM]) (aP e) (by rw[y,G];omega)) ?_);refine gA Z kD
  .have a0: ¬(aP e).kind=2:=zF hk;have A:pK (aP e)=lc:=by rw[pK,decide_eq_false a0];rfl
   rw[A,ZZ,be (by simp)]at j;refine gA Z (kO (d147 w [sM] (by simp) (by rw[cy,G];omega)) ?_);refine gA Z (pP (JD (aP e)) ?_);refine zJ Z Z (fun u=>?_) fun u=>?_
   .have b:eB (aP e)<3:=zT u;rw[oi,decide_eq_true b,abm]at j;rw[j];refine gA Z (zo (d225 m x I hB kw d hd (a8 w [sM]) (aP e) (by rw[y,G];omega)) ?_);refine gA Z kD
   .have b: ¬eB (aP e)<3:=zF u;rw[oi,decide_eq_false b,Z7,A,ZZ]at j;rw[j];refine gA Z (zo (d225 m x I hB lc d hd (a8 w [sM]) (aP e) (by rw[y,G];omega)) ?_);refine gA Z kD
 .have J: ¬e.op=6:=zF J;refine zE Z Z (fun B=>?_) fun B=>?_
  .have B:w.bad=kw:=B;rw[kh,am B];refine gA Z kD
  have B: ¬w.bad=kw:=by rw[show w.bad=lc from B];simp
  refine zE Z Z (fun D=>?_) fun D=>?_
  .have D: ¬e.args.length=2:=by simp at D;omega
   rw[kh,be B,be J,be D];refine gA Z kD
  have D:e.args.length=2:=by simp at D;omega
  have hg:(aP e).ts+(kV e).ts<=_:=Expr.wP e.args D;rw[kh,be B,be J,am D];refine zJ Z Z (fun h3=>?_) fun h3=>?_
  .exact absurd (zT h3) (by omega)
  refine zJ Z Z (fun h7=>?_) fun h7=>?_
  .exact absurd (zT h7) (by simp)
  refine gA Z (pP (JD (aP e)) ?_);refine gA Z (pP (QN e.op) ?_);refine gA Z (zo (d225 m x I hB (li (eB (aP e)<bg e.op)) d hd w (aP e) (by omega)) ?_);refine gA Z (zp (X6 e.op) ?_);have c0:=MY m (li (eB (aP e)<bg e.op)) w (aP e);have d0:=Dj e.op;have e2:GV.size=1:=rfl;have e3:gU [GV,pA e.op,GV]=1+((pA e.op).size+1):=by simp[gU,e2]
  refine gA Z (kO (d147 (qU m (li (eB (aP e)<bg e.op)) w (aP e)) [GV,pA e.op,GV] (by simp) (by rw[e3];omega)) ?_);refine gA Z (pP (JD (kV e)) ?_);refine gA Z (pP (QN e.op) ?_);refine gA Z (zo (d225 m x I hB (li (eB (kV e)<=bg e.op)) d hd (a8 (qU m (li (eB (aP e)<bg e.op)) w (aP e)) [GV,pA e.op,GV]) (kV e) (by rw[kI,e3];omega)) ?_);refine gA Z kD
theorem d189(d:Int)(S:0<=d)(Y:d<=1000)(w:WS)(e:Expr)(hb:w.l.length+e.ts<=1000000000)(k:WS)(G:bV prog 247 [.ptr 0 0,ag e.c,pI (d-1)] (aS w (mw e)).O (.bM []) k.H 3):bV prog 222 [.ptr 0 0,ag e.c,pI d] w.O (.bM []) (jK w e k).H 3:=by
 have a0:=e.l9;refine aB ab func222 Z (by decide) ntmps222 Z (by simp) ?_;refine zE Z Z (fun I=>?_) fun I=>?_
 .have I:w.bad=kw:=I;rw[jK,am I];refine gA Z kD
 have A: ¬w.bad=kw:=by rw[show w.bad=lc from I];simp
 refine zJ Z Z (fun J=>?_) fun J=>?_
 .exact absurd (zT J) (by omega)
 refine zJ Z Z (fun B=>?_) fun B=>?_
 .have j:e.kind=1:=zT B;have y:jK w e k=a8 (aS w (qj e)) [e.var]:=by rw[jK,be A,am j]
  rw[y];refine gA Z (zp (Gk e.var) ?_);refine zE Z Z (fun g0=>?_) fun g0=>?_
  .have b:qj e=lc:=by simp only[qj,cT, *];rfl
   rw[b];refine gA Z (j5 (d146 w lc) ?_);refine gA Z (kO (d147 (aS w lc) [e.var] (by simp) (by rw[cy,aX];omega)) ?_);refine gA Z kD
  refine zE Z Z (fun g1=>?_) fun g1=>?_
  .have b:qj e=lc:=by simp only[qj,cT, *];rfl
   rw[b];refine gA Z (j5 (d146 w lc) ?_);refine gA Z (kO (d147 (aS w lc) [e.var] (by simp) (by rw[cy,aX];omega)) ?_);refine gA Z kD
  refine zE Z Z (fun g2=>?_) fun g2=>?_
  .have b:qj e=lc:=by simp only[qj,cT, *];rfl
   rw[b];refine gA Z (j5 (d146 w lc) ?_);refine gA Z (kO (d147 (aS w lc) [e.var] (by simp) (by rw[cy,aX];omega)) ?_);refine gA Z kD
  have b:qj e=li ((e.args.length:Int)=0):=by simp only[qj,cT, *];rfl
  rw[b];refine gA Z (j5 (d146 w (li ((e.args.length:Int)=0))) ?_);refine gA Z (kO (d147 (aS w (li ((e.args.length:Int)=0))) [e.var] (by simp) (by rw[cy,aX];omega)) ?_);refine gA Z kD
 have j: ¬e.kind=1:=zF B;refine zJ Z Z (fun D=>?_) fun D=>?_
 .have u:e.kind=2:=zT D;have y:jK w e k=nG (aS w (rZ e)) e.val:=by rw[jK,be A,be j,am u]
  rw[y];have b0:=nY e.val;refine zE Z Z (fun g0=>?_) fun g0=>?_
  .have b:rZ e=lc:=by simp only[rZ,cT, *];rfl
   rw[b];refine gA Z (j5 (d146 w lc) ?_);refine gA Z (j5 (d149 (aS w lc) e.val (by rw[aX];omega) (by omega)) ?_);refine gA Z kD
  refine zE Z Z (fun g1=>?_) fun g1=>?_
  .have b:rZ e=lc:=by simp only[rZ,cT, *];rfl
   rw[b];refine gA Z (j5 (d146 w lc) ?_);refine gA Z (j5 (d149 (aS w lc) e.val (by rw[aX];omega) (by omega)) ?_);refine gA Z kD
  have b:rZ e=li ((e.args.length:Int)=0):=by simp only[rZ,cT, *];rfl
  rw[b];refine gA Z (j5 (d146 w (li ((e.args.length:Int)=0))) ?_);refine gA Z (j5 (d149 (aS w (li ((e.args.length:Int)=0))) e.val (by rw[aX];omega) (by omega)) ?_);refine gA Z kD
 have u: ¬e.kind=2:=zF D;refine zJ Z Z (fun F=>?_) fun F=>?_
 .have x:e.kind=4:=zT F;have y:jK w e k=k:=by rw[jK,be A,be j,be u,am x]
  rw[y];refine zE Z Z (fun g0=>?_) fun g0=>?_
  .have b:mw e=lc:=by simp only[mw,cT, *];rfl
   rw[b]at G;refine gA Z (j5 (d146 w lc) ?_);refine gA Z (j5 (G) ?_);refine gA Z kD
  refine zE Z Z (fun g1=>?_) fun g1=>?_
  .have b:mw e=lc:=by simp only[mw,cT, *];rfl
   rw[b]at G;refine gA Z (j5 (d146 w lc) ?_);refine gA Z (j5 (G) ?_);refine gA Z kD
  refine gA Z (zp (QN e.op) ?_);have b:mw e=li (bg e.op>0):=by simp only[mw,cT, *];rfl
  rw[b]at G;refine gA Z (j5 (d146 w (li (bg e.op>0))) ?_);refine gA Z (j5 (G) ?_);refine gA Z kD
 have x: ¬e.kind=4:=zF F;rw[jK,be A,be j,be u,be x];refine gA Z kD
theorem pe0:PE 0:=fun d w e hd hb=>by
 refine aB ab func222 Z (by decide) ntmps222 Z (by simp) ?_;rw[cO]
 repeat' (first
  |((rename_i h;exact absurd (by omega:d<0) (zF h)))
  |(refine gA Z (zI (fun _=>?_) (fun _=>?_)))
  |(refine gA Z (Mq (by first|exact .inr Z|exact .inl Z) Z Z Z Z Z (by first|exact .refl _|exact .kb _) (by first|exact .refl _|exact .kb _) Z Z Z Z (.refl _) Z Z)))
theorem FF: ∀n,n<=900->PE n
 |0,_=>pe0
 |1,_=>fun d w e hd hb=>d189 d (by omega) (by omega) w e hb _ (WE (d-1) (by omega) (aS w (mw e)) e)
 |m+2,h=>fun d w e hd hb=>d189 d (by omega) (by omega) w e (by omega) _ (d213 m (by omega) (FF (m+1) (by omega)) (FF m (by omega)) (d-1) (by omega) (aS w (mw e)) e (by rw[aX];omega))
theorem sq(w:WS)(e:Expr)(hb:w.l.length+e.ts<=900000000):bV prog 222 [.ptr 0 0,ag e.c,pI 16] w.O (.bM []) (cO 17 w e).H 3:=FF 17 (by omega) 16 w e (by omega) (by omega)
def wC:aj:=⟨#[44,32]⟩
def Kx:aj:=⟨#[95]⟩
def iT(i:Nat)(w:WS):WS:=if i=0 then w else a8 w [wC]
def zj(t:Term):Bool:=eh t.var&&cT t.val
def zk(t:Term):Bool:=li (t.var=⟨#[]⟩)&&cT t.val
def lv(w:WS)(t:Term):WS:=
 if t.kind=1 then a8 (aS w (zj t)) [t.var] else if t.kind=2 then nG (aS w (li (t.var=⟨#[]⟩))) t.val else if t.kind=3 then a8 (aS w (zk t)) [Kx] else oE w
def eE(l:List Term)(w:WS):Nat->WS
 |0=>w
 |i+1=>lv (iT i (eE l w i)) (l.getD i em)
def kj(w:WS)(a:Atom):WS:=a8 (eE a.ad (a8 (aS w (ep a.rel)) [a.rel,sO]) a.ad.length) [sC]
def Term.ts(t:Term):Nat:=t.var.size+310
def Atom.ts(a:Atom):Nat:=a.rel.size+10+(a.ad.map Term.ts).sum
theorem pf(i:Nat)(w:WS):(iT i w).l.length<=w.l.length+2:=by
 have e:wC.size=2:=rfl;unfold iT;split
 .omega
 .rw[aV,e];omega
theorem Il(w:WS)(t:Term):(lv w t).l.length<=w.l.length+300+t.var.size:=by
 have e:Kx.size=1:=rfl;unfold lv
 repeat' split
 .rw[aV,aX];omega
 .have:=xl (aS w (li (t.var=⟨#[]⟩))) t.val;rw[aX]at this;omega
 .rw[aV,aX,e];omega
 .rw[iz];omega
theorem uT: ∀(l:List Term) (i:Nat),i<l.length->((l.take i).map Term.ts).sum+(l.getD i em).ts<=(l.map Term.ts).sum
 | [],i,h=>by simp at h
 |s::r,0,_=>by simp
 |s::r,i+1,h=>by
  have:=uT r i (by simpa using h);simp at this ⊢;omega
theorem GI: ∀(l:List Term) (i:Nat),((l.take i).map Term.ts).sum<=(l.map Term.ts).sum
 | [],i=>by simp
 |s::r,0=>by simp
 |s::r,i+1=>by have:=GI r i;simp at this ⊢;omega
theorem sJ(l:List Term)(w:WS): ∀i,i<=l.length->(eE l w i).l.length<=w.l.length+((l.take i).map Term.ts).sum
 |0,_=>by simp[eE]
 |i+1,h=>by
  have b:=sJ l w i (by omega);have d:=pf i (eE l w i);have j:=Il (iT i (eE l w i)) (l.getD i em);have u:(l.getD i em).ts=(l.getD i em).var.size+310:=rfl;have x:((l.take (i+1)).map Term.ts).sum=((l.take i).map Term.ts).sum+(l.getD i em).ts:=by
   rw[bz (by omega),YX,List.sum_append];simp
  rw[eE];omega
theorem Bh(w:WS)(a:Atom):(kj w a).l.length<=w.l.length+a.ts:=by
 have b:sO.size=1:=rfl;have d:sC.size=1:=rfl;have j:gU [a.rel,sO]=a.rel.size+1:=by simp[gU,b]
 have u:=sJ a.ad (a8 (aS w (ep a.rel)) [a.rel,sO]) a.ad.length (YY _);rw[kI,j,aX,aaz]at u;rw[kj,aV,d];unfold Atom.ts;omega
theorem AE: ∀l:List Term,l.length<=(l.map Term.ts).sum
 | []=>by simp
 |t::r=>by have:=AE r;simp[Term.ts]at this ⊢;omega
set_option maxHeartbeats 1000000 in
theorem d104(w:WS)(a:Atom)(hb:w.l.length+a.ts<=900000000):bV prog 188 [.ptr 0 0,ag a.c] w.O (.bM []) (kj w a).H 3:=by
 have J:sO.size=1:=rfl;have S:sC.size=1:=rfl;have A:wC.size=2:=rfl;have e5:Kx.size=1:=rfl;have I:gU [a.rel,sO]=a.rel.size+1:=by simp[gU,J]
 have f0:a.ts=a.rel.size+10+(a.ad.map Term.ts).sum:=rfl;have c0:=AE a.ad;have a0:(a8 (aS w (ep a.rel)) [a.rel,sO]).l.length=w.l.length+(a.rel.size+1):=by rw[kI,I,aX]
 refine aB ab func188 Z (by decide) ntmps188 Z (by simp) ?_;refine gA Z (zp (XR a.rel) ?_);refine gA Z (j5 (d146 w (ep a.rel)) ?_);refine gA Z (kO (d147 (aS w (ep a.rel)) [a.rel,sO] (by simp) (by rw[I,aX];omega)) ?_);generalize hW:a8 (aS w (ep a.rel)) [a.rel,sO]=w1 at*
 refine gA Z ?_;refine az 0 a.ad.length (YZ _) (fun i=>⟨[(0,.ptr 0 0),(17,.iv (cW 5 a.ad Term.c)),(18,pI a.ad.length),(19,pI i)],[(0,io ((eE a.ad w1 i).uM 0 6)),(6,io (.bT (eE a.ad w1 i).l 5))],7⟩) (fun _=>True) _ ac
  (Xr (w:=w1) Z Z Z Z Z (.refl _) (.refl _) Z Z Z Z Z (bv (bv (bv (bv trivial))))) fun i hi _=>?_
 have b0:=sJ a.ad w1 i hi;have d0:=GI a.ad i;refine zE Z Z (fun u=>?_) fun u=>?_
 .have u:a.ad.length<=i:=zG u;have G:i=a.ad.length:=by omega
  subst G;refine gA Z (kO (d147 (eE a.ad w1 a.ad.length) [sC] (by simp) (by rw[cy,S];omega)) ?_);rw[kj,hW];refine gA Z kD
 have u:i<a.ad.length:=zN u;have e0:=uT a.ad i u;have b:eE a.ad w1 (i+1)=lv (iT i (eE a.ad w1 i)) (a.ad.getD i em):=rfl;have ht:(a.ad.getD i em).ts=(a.ad.getD i em).var.size+310:=rfl;have i0:=nY (a.ad.getD i em).val;have Y:=pf i (eE a.ad w1 i);generalize hT:eE a.ad w1 i=w2 at*
 refine zJ Z Z (fun B=>?_) fun B=>?_
 .have B: ¬i=0:=by have:=zT B;omega
  rw[iT,be B]at b;refine gA Z (kO (d147 w2 [wC] (by simp) (by rw[cy,A];omega)) ?_);refine zJ Z Z (fun k1=>?_) fun k1=>?_
  .have d:(a.ad.getD i em).kind=1:=zT k1;rw[lv,am d]at b;refine gA Z (zp (Gk (a.ad.getD i em).var) ?_);refine zE Z Z (fun g0=>?_) fun g0=>?_
   .have x:zj (a.ad.getD i em)=lc:=by have g:eh (a.ad.getD i em).var=lc:=g0;rw[zj,g];rfl
    rw[x]at b;refine gA Z (j5 (d146 (a8 w2 [wC]) lc) ?_);refine gA Z (kO (d147 (aS (a8 w2 [wC]) lc) [(a.ad.getD i em).var] (by simp) (by rw[cy,aX];first|omega|(rw[aV,A];omega))) ?_);refine gA Z ⟨u,ac,_,tF (b.symm)⟩
   have x:zj (a.ad.getD i em)=cT (a.ad.getD i em).val:=by have g:eh (a.ad.getD i em).var=kw:=g0;rw[zj,g];rfl
   rw[x]at b;refine gA Z (j5 (d146 (a8 w2 [wC]) (cT (a.ad.getD i em).val)) ?_);refine gA Z (kO (d147 (aS (a8 w2 [wC]) (cT (a.ad.getD i em).val)) [(a.ad.getD i em).var] (by simp) (by rw[cy,aX];first|omega|(rw[aV,A];omega))) ?_);refine gA Z ⟨u,ac,_,tF (b.symm)⟩
  have d: ¬(a.ad.getD i em).kind=1:=zF k1;refine zJ Z Z (fun D=>?_) fun D=>?_
  .have j:(a.ad.getD i em).kind=2:=zT D;rw[lv,be d,am j]at b;refine gA Z (j5 (d146 (a8 w2 [wC]) (li ((a.ad.getD i em).var=⟨#[]⟩))) ?_);refine gA Z (j5 (d149 (aS (a8 w2 [wC]) (li ((a.ad.getD i em).var=⟨#[]⟩))) (a.ad.getD i em).val (by rw[aX];first|omega|(rw[aV,A];omega)) (by omega)) ?_);refine gA Z ⟨u,ac,_,tF (b.symm)⟩
  have j: ¬(a.ad.getD i em).kind=2:=zF D;refine zJ Z Z (fun F=>?_) fun F=>?_
  .have y:(a.ad.getD i em).kind=3:=zT F;rw[lv,be d,be j,am y]at b;refine zE Z Z (fun g0=>?_) fun g0=>?_
   .have x:zk (a.ad.getD i em)=lc:=by have g:li ((a.ad.getD i em).var=⟨#[]⟩)=lc:=g0;rw[zk,g];rfl
    rw[x]at b;refine gA Z (j5 (d146 (a8 w2 [wC]) lc) ?_);refine gA Z (kO (d147 (aS (a8 w2 [wC]) lc) [Kx] (by simp) (by rw[cy,aX];first|omega|(rw[aV,A];omega))) ?_);refine gA Z ⟨u,ac,_,tF (b.symm)⟩
   have x:zk (a.ad.getD i em)=cT (a.ad.getD i em).val:=by have g:li ((a.ad.getD i em).var=⟨#[]⟩)=kw:=g0;rw[zk,g];rfl
   rw[x]at b;refine gA Z (j5 (d146 (a8 w2 [wC]) (cT (a.ad.getD i em).val)) ?_);refine gA Z (kO (d147 (aS (a8 w2 [wC]) (cT (a.ad.getD i em).val)) [Kx] (by simp) (by rw[cy,aX];first|omega|(rw[aV,A];omega))) ?_);refine gA Z ⟨u,ac,_,tF (b.symm)⟩
  have y: ¬(a.ad.getD i em).kind=3:=zF F;rw[lv,be d,be j,be y]at b;refine gA Z ⟨u,ac,_,tF (b.symm)⟩
 .have B:i=0:=by have:=zF B;omega
  rw[iT,am B]at b;refine zJ Z Z (fun k1=>?_) fun k1=>?_
  .have d:(a.ad.getD i em).kind=1:=zT k1;rw[lv,am d]at b;refine gA Z (zp (Gk (a.ad.getD i em).var) ?_);refine zE Z Z (fun g0=>?_) fun g0=>?_
   .have x:zj (a.ad.getD i em)=lc:=by have g:eh (a.ad.getD i em).var=lc:=g0;rw[zj,g];rfl
    rw[x]at b;refine gA Z (j5 (d146 w2 lc) ?_);refine gA Z (kO (d147 (aS w2 lc) [(a.ad.getD i em).var] (by simp) (by rw[cy,aX];first|omega|(rw[aV,A];omega))) ?_);refine gA Z ⟨u,ac,_,tF (b.symm)⟩
   have x:zj (a.ad.getD i em)=cT (a.ad.getD i em).val:=by have g:eh (a.ad.getD i em).var=kw:=g0;rw[zj,g];rfl
   rw[x]at b;refine gA Z (j5 (d146 w2 (cT (a.ad.getD i em).val)) ?_);refine gA Z (kO (d147 (aS w2 (cT (a.ad.getD i em).val)) [(a.ad.getD i em).var] (by simp) (by rw[cy,aX];first|omega|(rw[aV,A];omega))) ?_);refine gA Z ⟨u,ac,_,tF (b.symm)⟩
  have d: ¬(a.ad.getD i em).kind=1:=zF k1;refine zJ Z Z (fun D=>?_) fun D=>?_
  .have j:(a.ad.getD i em).kind=2:=zT D;rw[lv,be d,am j]at b;refine gA Z (j5 (d146 w2 (li ((a.ad.getD i em).var=⟨#[]⟩))) ?_);refine gA Z (j5 (d149 (aS w2 (li ((a.ad.getD i em).var=⟨#[]⟩))) (a.ad.getD i em).val (by rw[aX];first|omega|(rw[aV,A];omega)) (by omega)) ?_);refine gA Z ⟨u,ac,_,tF (b.symm)⟩
  have j: ¬(a.ad.getD i em).kind=2:=zF D;refine zJ Z Z (fun F=>?_) fun F=>?_
  .have y:(a.ad.getD i em).kind=3:=zT F;rw[lv,be d,be j,am y]at b;refine zE Z Z (fun g0=>?_) fun g0=>?_
   .have x:zk (a.ad.getD i em)=lc:=by have g:li ((a.ad.getD i em).var=⟨#[]⟩)=lc:=g0;rw[zk,g];rfl
    rw[x]at b;refine gA Z (j5 (d146 w2 lc) ?_);refine gA Z (kO (d147 (aS w2 lc) [Kx] (by simp) (by rw[cy,aX];first|omega|(rw[aV,A];omega))) ?_);refine gA Z ⟨u,ac,_,tF (b.symm)⟩
   have x:zk (a.ad.getD i em)=cT (a.ad.getD i em).val:=by have g:li ((a.ad.getD i em).var=⟨#[]⟩)=kw:=g0;rw[zk,g];rfl
   rw[x]at b;refine gA Z (j5 (d146 w2 (cT (a.ad.getD i em).val)) ?_);refine gA Z (kO (d147 (aS w2 (cT (a.ad.getD i em).val)) [Kx] (by simp) (by rw[cy,aX];first|omega|(rw[aV,A];omega))) ?_);refine gA Z ⟨u,ac,_,tF (b.symm)⟩
  have y: ¬(a.ad.getD i em).kind=3:=zF F;rw[lv,be d,be j,be y]at b;refine gA Z ⟨u,ac,_,tF (b.symm)⟩
end Go.Proofs.YtflegjieadkonaaGreatDoor
namespace Go.Proofs.YtflegjieadkonaaGreatDoor
open Go Go.Al
def xC:aj:=⟨#[110,111,116,32]⟩
def pZ:aj:=⟨#[32,61,32]⟩
def p3:aj:=⟨#[32,123,32]⟩
def Fe:aj:=⟨#[32,58,32]⟩
def wB:aj:=⟨#[32,125]⟩
def qM(op:Int):aj:=if op=1 then⟨#[32,61,32]⟩ else if op=2 then⟨#[32,33,61,32]⟩ else if op=3 then⟨#[32,60,32]⟩ else if op=4 then⟨#[32,60,61,32]⟩ else if op=5 then⟨#[32,62,32]⟩ else⟨#[32,62,61,32]⟩
def fC(f:Int):aj:=if f=1 then⟨#[99,111,117,110,116]⟩ else if f=2 then⟨#[115,117,109]⟩ else if f=3 then⟨#[109,105,110]⟩ else⟨#[109,97,120]⟩
def xd(w:WS)(n:Int):WS:=⟨w.fr,w.l,w.bad,w.br+n⟩
def df(f:Lit->WS->WS)(l:List Lit)(w:WS):Nat->WS
 |0=>w
 |i+1=>if(df f l w i).bad=kw then df f l w i else f (l.getD i em) (iT i (df f l w i))
def rN(w:WS)(a:eL):WS:=if a.func=1 then aS w (cV a.dX) else a8 (cO 17 w a.dX) [Fe]
def yZ(f:Lit->WS->WS)(w:WS)(a:eL):WS:=
 if a.func<1∨5<=a.func∨16<=w.br∨a.body.length=0 then oE w
 else a8 (xd (df f a.body (xd (rN (a8 (aS w (eh a.var)) [a.var,pZ,fC a.func,p3]) a) 1) a.body.length) (-1)) [wB]
def D9(f:Lit->WS->WS)(l:Lit)(w:WS):WS:=
 if l.kind=2 then kj (a8 w [xC]) l.atom else if l.kind=1 then kj w l.atom
 else if l.kind=3 then(if l.op<1∨7<=l.op then oE (cO 17 w l.left) else cO 17 (a8 (cO 17 w l.left) [qM l.op]) l.right)
 else if l.kind=4 then yZ f w l.agg else oE w
def eD:Nat->Lit->WS->WS
 |0,_,w=>w
 |n+1,l,w=>D9 (eD n) l (aS w (kz l))
theorem dh: ∀(b:List aj) (w:WS),(a8 w b).br=w.br
 | [],w=>rfl
 |s::r,w=>dh r (BP w s)
theorem qo(w:WS)(b:Bool):(aS w b).br=w.br:=rfl
theorem QW(w:WS):(oE w).br=w.br:=rfl
theorem zQ(w:WS)(v:tE):(nG w v).br=w.br:=by rw[nG,dh];rfl
theorem Ea(w k:WS)(e:Expr)(h:k.br=w.br):(jK w e k).br=w.br:=by
 unfold jK
 repeat' split
 .rfl
 .rw[dh];rfl
 .rw[zQ];rfl
 .exact h
 .rfl
theorem K7(a0:Bool->WS->Expr->WS)(d: ∀b w a,(a0 b w a).br=w.br)(w:WS)(e:Expr):(kh a0 w e).br=w.br:=by
 unfold kh
 repeat' split
 .rfl
 .rw[d,dh,dh]
 .rw[d,dh]
 .rfl
 .rw[d,dh,d]
 .rfl
theorem oz: ∀(n:Nat) (w:WS) (e:Expr),(cO n w e).br=w.br
 |0,w,e=>rfl
 |1,w,e=>by rw[cO];exact Ea _ _ _ Z
 |m+2,w,e=>by
  rw[cO];refine Ea _ _ _ ?_;rw[K7 _ (fun b w a=>?_)]
  .rfl
  .split
   .rw[dh,oz m,dh]
   .exact oz (m+1) _ _
theorem rE(i:Nat)(w:WS):(iT i w).br=w.br:=by
 unfold iT;split
 .rfl
 .exact dh _ _
theorem J9(w:WS)(t:Term):(lv w t).br=w.br:=by
 unfold lv
 repeat' split
 .rw[dh];rfl
 .rw[zQ];rfl
 .rw[dh];rfl
 .rfl
theorem z7(l:List Term)(w:WS): ∀i,(eE l w i).br=w.br
 |0=>rfl
 |i+1=>by rw[eE,J9,rE,z7 l w i]
theorem E4(w:WS)(a:Atom):(kj w a).br=w.br:=by rw[kj,dh,z7,dh];rfl
theorem oD(f:Lit->WS->WS)(hf: ∀l w,(f l w).br=w.br)(l:List Lit)(w:WS): ∀i,(df f l w i).br=w.br
 |0=>rfl
 |i+1=>by
  rw[df];split
  .exact oD f hf l w i
  .rw[hf,rE,oD f hf l w i]
theorem FL(w:WS)(a:eL):(rN w a).br=w.br:=by
 unfold rN;split
 .rfl
 .rw[dh,oz]
theorem Q5(f:Lit->WS->WS)(hf: ∀l w,(f l w).br=w.br)(w:WS)(a:eL):(yZ f w a).br=w.br:=by
 unfold yZ;split
 .rfl
 .rw[dh];show(df _ _ _ _).br+ -1=_;rw[oD f hf];show(rN _ _).br+1+ -1=_;rw[FL,dh,qo];omega
theorem Qc(f:Lit->WS->WS)(hf: ∀l w,(f l w).br=w.br)(l:Lit)(w:WS):(D9 f l w).br=w.br:=by
 unfold D9
 repeat' split
 .rw[E4,dh]
 .exact E4 _ _
 .rw[QW,oz]
 .rw[oz,dh,oz]
 .exact Q5 f hf _ _
 .rfl
theorem w4: ∀(n:Nat) (l:Lit) (w:WS),(eD n l w).br=w.br
 |0,_,_=>rfl
 |n+1,l,w=>by rw[eD,Qc (eD n) (w4 n)];rfl
mutual
def Lit.ts:Lit->Nat
 | .mk _ a _ l r _ v o b _=>100+a.ts+l.ts+r.ts+v.size+o.ts+Lit.lB b
def Lit.lB:List Lit->Nat
 | []=>0
 |e::r=>e.ts+Lit.lB r
end
theorem Lit.l9(l:Lit):l.ts=100+l.atom.ts+l.left.ts+l.right.ts+l.a7.size+l.jQ.ts+Lit.lB l.ar:=by cases l;rfl
theorem Lit.tJ: ∀(l:List Lit) (i:Nat),i<l.length->Lit.lB (l.take i)+(l.getD i em).ts<=Lit.lB l
 | [],i,h=>by simp at h
 |s::r,0,_=>by simp[Lit.lB]
 |s::r,i+1,h=>by
  have:=Lit.tJ r i (by simpa using h);simp only[aae,Lit.lB,aag];omega
theorem Lit.J4: ∀(l:List Lit) (i:Nat),Lit.lB (l.take i)<=Lit.lB l
 | [],i=>by simp
 |s::r,0=>by simp[Lit.lB]
 |s::r,i+1=>by have:=Lit.J4 r i;simp only[aae,Lit.lB];omega
theorem Lit.Tz(l:Lit):100<=l.ts:=by rw[l.l9];omega
theorem yB(op:Int):(qM op).size<=4:=by
 unfold qM
 repeat' split
 all_goals decide
theorem ur(op:Int):(fC op).size<=5:=by
 unfold fC
 repeat' split
 all_goals decide
def Q9(f:Lit->WS->WS):Prop:= ∀l w,(f l w).l.length+4<=w.l.length+l.ts
theorem rJ(f:Lit->WS->WS)(hf:Q9 f)(l:List Lit)(w:WS): ∀i,i<=l.length->(df f l w i).l.length<=w.l.length+Lit.lB (l.take i)
 |0,_=>by simp[df,Lit.lB]
 |i+1,h=>by
  have d:=rJ f hf l w i (by omega);have y:Lit.lB (l.take (i+1))=Lit.lB (l.take i)+(l.getD i em).ts:=by
   rw[bz (by omega)];have: ∀(a:List Lit) (b:Lit),Lit.lB (a++ [b])=Lit.lB a+b.ts:=by
    intro a b
    induction a with
    |nil=>simp[Lit.lB]
    |cons x r ih=>simp only[aat,Lit.lB,ih];omega
   exact this _ _
  rw[df];split
  .omega
  .have j:=hf (l.getD i em) (iT i (df f l w i));have u:=pf i (df f l w i);omega
theorem He(w:WS)(a:eL):(rN w a).l.length<=w.l.length+a.dX.ts+3:=by
 have e:Fe.size=3:=rfl;unfold rN;split
 .rw[aX];omega
 .have:=ef 17 w a.dX;rw[aV,e];omega
theorem AN(w:WS)(a:eL):(a8 (aS w (eh a.var)) [a.var,pZ,fC a.func,p3]).l.length<=w.l.length+a.var.size+11:=by
 have b:pZ.size=3:=rfl;have d:p3.size=3:=rfl;have h:=ur a.func;have e:gU [a.var,pZ,fC a.func,p3]=a.var.size+(3+((fC a.func).size+3)):=by simp[gU,b,d]
 rw[kI,aX,e];omega
theorem M9(f:Lit->WS->WS)(hf:Q9 f)(w:WS)(a:eL):(yZ f w a).l.length<=w.l.length+a.var.size+a.dX.ts+Lit.lB a.body+20:=by
 have e:wB.size=2:=rfl;unfold yZ;split
 .rw[iz];omega
 .rw[aV,e];show(df _ _ _ _).l.length+2<=_;have b:=rJ f hf a.body (xd (rN (a8 (aS w (eh a.var)) [a.var,pZ,fC a.func,p3]) a) 1) a.body.length (YY _);rw[aaz]at b;have d:=He (a8 (aS w (eh a.var)) [a.var,pZ,fC a.func,p3]) a;have j:=AN w a;have u:(xd (rN (a8 (aS w (eh a.var)) [a.var,pZ,fC a.func,p3]) a) 1).l.length=(rN (a8 (aS w (eh a.var)) [a.var,pZ,fC a.func,p3]) a).l.length:=rfl;omega
theorem Lx(f:Lit->WS->WS)(hf:Q9 f)(l:Lit)(w:WS):(D9 f l w).l.length+4<=w.l.length+l.ts:=by
 have x:=l.l9;have e:xC.size=4:=rfl;unfold D9
 repeat' split
 .have b:=Bh (a8 w [xC]) l.atom;rw[aV,e]at b;omega
 .have b:=Bh w l.atom;omega
 .have b:=ef 17 w l.left;rw[iz];omega
 .have b:=ef 17 w l.left;have d:=ef 17 (a8 (cO 17 w l.left) [qM l.op]) l.right;have j:=yB l.op;rw[aV]at d;omega
 .have b:=M9 f hf w l.agg;have d:l.agg.var=l.a7:=rfl;have j:l.agg.dX=l.jQ:=rfl;have u:l.agg.body=l.ar:=rfl;rw[d,j,u]at b;omega
 .rw[iz];omega
theorem yc: ∀n,Q9 (eD n)
 |0=>fun l w=>by have:=l.Tz;rw[eD];omega
 |n+1=>fun l w=>Lx (eD n) (yc n) l (aS w (kz l))
theorem Bd{f:Lit->WS->WS}{l:List Lit}{w:WS}{i:Nat}(h:(df f l w i).bad=kw): ∀k,df f l w (i+k)=df f l w i
 |0=>rfl
 |k+1=>by
  have:=Bd h k;rw[<-aas,df,this,am h]
end Go.Proofs.YtflegjieadkonaaGreatDoor
namespace Go.Proofs.YtflegjieadkonaaGreatDoor
open Go Go.Al Go.Proofs.Tryz
def Ng(n:Nat):Prop:= ∀(l:Lit) (w:WS),l.size<=n->0<=w.br->w.br<=16->w.l.length+l.ts<=900000000->bV prog 190 [.ptr 0 0,ag l.c] w.O (.bM []) (eD n l w).H 3
set_option maxHeartbeats 1000000 in
theorem d214(n:Nat)(D:Ng n)(w:WS)(b:List Lit)(hs:Lit.aA b<=n)(G:0<=w.br)(I:w.br<=16)(hb:w.l.length+Lit.lB b+2<=900000000)(hn:n<=100000000):
  bV prog 248 [.ptr 0 0,.iv (lits b)] w.O (.bM []) (df (eD n) b w b.length).H 3:=by
 have F:wC.size=2:=rfl;have a0:=Lit.au b;refine aB ab func248 Z (by decide) ntmps248 Z (by simp) ?_;refine gA Z ?_;refine az 0 b.length (YZ _) (fun i=>⟨[(0,.ptr 0 0),(6,.iv (lits b)),(7,pI b.length),(8,pI i)],[(0,io ((df (eD n) b w i).uM 0 2)),(2,io (.bT (df (eD n) b w i).l 5))],3⟩) (fun _=>True) _ ac
  (Xr (w:=w) Z Z Z Z Z (.refl _) (.refl _) Z Z Z Z Z (bv (bv (bv (bv trivial))))) fun i S _=>?_
 have Y:=rJ (eD n) (yc n) b w i S;have J:=oD (eD n) (w4 n) b w i;have c0:=Lit.J4 b i;refine zE Z Z (fun j=>?_) fun j=>?_
 .have j:b.length<=i:=zG j;have B:i=b.length:=by omega
  subst B;refine gA Z kD
 have j:i<b.length:=zN j;have d0:=Lit.tJ b i j;have b0:=Lit.aI b i j;have d:df (eD n) b w (i+1)=if(df (eD n) b w i).bad=kw then df (eD n) b w i else eD n (b.getD i em) (iT i (df (eD n) b w i)):=rfl;have u:=fun h=>Bd (f:=eD n) (l:=b) (w:=w) (i:=i) h (b.length-i);rw[Nat.add_sub_cancel' (Nat.le_of_lt j)]at u;have A:=pf i (df (eD n) b w i);have y:=rE i (df (eD n) b w i);generalize df (eD n) b w i=w2 at*
 refine zJ Z Z (fun g=>?_) fun g=>?_
 .have g:w2.bad=kw:=g;rw[u g];refine gA Z kD
 have g: ¬w2.bad=kw:=by
  have g:w2.bad=lc:=g;rw[g];decide
 rw[be g]at d;refine zJ Z Z (fun x=>?_) fun x=>?_
 .have x: ¬i=0:=by have:=zT x;omega
  rw[iT,be x]at d A y;refine gA Z (kO (d147 w2 [wC] (by simp) (by rw[cy,F];omega)) ?_);refine gA Z (j5 (D (b.getD i em) (a8 w2 [wC]) (by omega) (by omega) (by omega) (by omega)) ?_);refine gA Z ⟨j,ac,_,tF (d.symm)⟩
 .have x:i=0:=by have:=zF x;omega
  rw[iT,am x]at d A y;refine gA Z (j5 (D (b.getD i em) w2 (by omega) (by omega) (by omega) (by omega)) ?_);refine gA Z ⟨j,ac,_,tF (d.symm)⟩
def eL.ts(a:eL):Nat:=a.var.size+a.dX.ts+Lit.lB a.body
set_option maxHeartbeats 4000000 in
theorem d190(n:Nat)(S:Ng n)(w:WS)(a:eL)(hs:Lit.aA a.body<=n)(a0:0<=w.br)(b0:w.br<=16)(hb:w.l.length+a.ts+30<=900000000)(hn:n<=100000000):
  bV prog 223 [.ptr 0 0,ag a.c] w.O (.bM []) (yZ (eD n) w a).H 3:=by
 refine bV.le (args:=[.ptr 0 0,ag a.c1]) ?_ ⟨.refl _,a.zm,ac⟩;have J:wB.size=2:=rfl;have Y:Fe.size=3:=rfl;have c0:=Lit.au a.body;have d0:a.ts=a.var.size+a.dX.ts+Lit.lB a.body:=rfl;have hW: ¬(a.func<1∨5<=a.func∨16<=w.br∨a.body.length=0)->yZ (eD n) w a=a8 (xd (df (eD n) a.body (xd (rN (a8 (aS w (eh a.var)) [a.var,pZ,fC a.func,p3]) a) 1) a.body.length) (-1)) [wB]:=fun h=>be h;have hB:a.func<1∨5<=a.func∨16<=w.br∨a.body.length=0->yZ (eD n) w a=oE w:=fun h=>am h;have hh:=AN w a;have x:=He (a8 (aS w (eh a.var)) [a.var,pZ,fC a.func,p3]) a;have j:=FL (a8 (aS w (eh a.var)) [a.var,pZ,fC a.func,p3]) a;rw[dh,qo]at j;have y:(xd (rN (a8 (aS w (eh a.var)) [a.var,pZ,fC a.func,p3]) a) 1).l.length=(rN (a8 (aS w (eh a.var)) [a.var,pZ,fC a.func,p3]) a).l.length:=rfl;have A:(xd (rN (a8 (aS w (eh a.var)) [a.var,pZ,fC a.func,p3]) a) 1).br=(rN (a8 (aS w (eh a.var)) [a.var,pZ,fC a.func,p3]) a).br+1:=rfl;have u:=rJ (eD n) (yc n) a.body (xd (rN (a8 (aS w (eh a.var)) [a.var,pZ,fC a.func,p3]) a) 1) a.body.length (YY _);rw[aaz]at u;have B:=oD (eD n) (w4 n) a.body (xd (rN (a8 (aS w (eh a.var)) [a.var,pZ,fC a.func,p3]) a) 1) a.body.length;have D:gU [a.var,pZ,fC a.func,p3]=a.var.size+(3+((fC a.func).size+3)):=by simp[gU,pZ,p3];rfl
 have F:=ur a.func;obtain⟨d,var,b,body⟩:=a;dsimp only at*
 refine aB ab func223 Z (by decide) ntmps223 Z (by simp) ?_;refine zE Z Z (fun g1=>?_) fun g1=>?_
 .rw[hB (.inl (zT g1))];refine gA Z kD
 refine zE Z Z (fun g2=>?_) fun g2=>?_
 .rw[hB (.inr (.inl (zT g2)))];refine gA Z kD
 refine zE Z Z (fun g3=>?_) fun g3=>?_
 .rw[hB (.inr (.inr (.inl (zT g3))))];refine gA Z kD
 refine zJ Z Z (fun g4=>?_) fun g4=>?_
 .rw[hB (.inr (.inr (.inr (ab8.1 (zT g4)))))];refine gA Z kD
 have g1: ¬d<1:=zF g1;have g2: ¬d>=5:=zF g2;have g3: ¬w.br>=16:=zF g3;have g4: ¬body.length=0:=fun h=>zF g4 (ab8.2 h);rw[hW (by rintro(h|h|h|h)<;>omega)];have hf:d=1∨d=2∨d=3∨d=4:=by omega
 clear hW hB;rcases hf with rfl|rfl|rfl|rfl
 .have e:fC 1=⟨#[99,111,117,110,116]⟩:=rfl;rw[e]at hh x j y A u B D F ⊢;refine gA Z (zp (Gk var) ?_);refine gA Z (j5 (d146 w (eh var)) ?_);refine gA Z (Cm (d147 (aS w (eh var)) [var,pZ,⟨#[99,111,117,110,116]⟩,p3] (by simp) (by rw[D,aX];omega)) Z Z Z Z Z Z Z Z Z Z Z Z Z Z Z Z (by(repeat' (first|exact ac|exact rfl|exact aL.refl _|exact aL.bk (by assumption)|apply ZC))<;>first|omega|(simp only[Zi];omega)|(simp;done)|(simp;omega)) Z (by(repeat' (first|exact ac|exact rfl|exact aL.refl _|exact aL.bk (by assumption)|apply ZC))<;>first|omega|(simp only[Zi];omega)|(simp;done)|(simp;omega)) ?_);generalize I:a8 (aS w (eh var)) [var,pZ,⟨#[99,111,117,110,116]⟩,p3]=w1 at*
  have G:rN w1 ⟨1,var,b,body⟩=aS w1 (cV b):=rfl;rw[G]at x j y A u B ⊢;refine zE Z Z (fun q=>?_) fun q=>?_
  .exact absurd (show kw=lc from q) (by decide)
  refine gA Z (zp (QO b) ?_);refine gA Z (j5 (d146 w1 (cV b)) ?_);generalize aS w1 (cV b)=w2 at*
  refine gA Z (j5 (d214 n S (xd w2 1) body hs (by omega) (by omega) (by omega) hn) ?_);generalize df (eD n) body (xd w2 1) body.length=w3 at*
  refine gA Z (go_wp (d147 (xd w3 (-1)) [wB] (by simp) (by rw[cy,J];show w3.l.length+2<=_;omega)) Z Z Z Z Z Z Z Z Z Z Z Z ?_);refine gA Z kD
 .have e:fC 2=⟨#[115,117,109]⟩:=rfl;rw[e]at hh x j y A u B D F ⊢;refine gA Z (zp (Gk var) ?_);refine gA Z (j5 (d146 w (eh var)) ?_);refine gA Z (Cm (d147 (aS w (eh var)) [var,pZ,⟨#[115,117,109]⟩,p3] (by simp) (by rw[D,aX];omega)) Z Z Z Z Z Z Z Z Z Z Z Z Z Z Z Z (by(repeat' (first|exact ac|exact rfl|exact aL.refl _|exact aL.bk (by assumption)|apply ZC))<;>first|omega|(simp only[Zi];omega)|(simp;done)|(simp;omega)) Z (by(repeat' (first|exact ac|exact rfl|exact aL.refl _|exact aL.bk (by assumption)|apply ZC))<;>first|omega|(simp only[Zi];omega)|(simp;done)|(simp;omega)) ?_);generalize I:a8 (aS w (eh var)) [var,pZ,⟨#[115,117,109]⟩,p3]=w1 at*
  have G:rN w1 ⟨2,var,b,body⟩=a8 (cO 17 w1 b) [Fe]:=rfl;rw[G]at x j y A u B ⊢;refine zJ Z Z (fun q=>?_) fun q=>?_
  .exact absurd (show lc=kw from q) (by decide)
  have hx:=ef 17 w1 b;refine gA Z (j5 (sq w1 b (by omega)) ?_);refine gA Z (kO (d147 (cO 17 w1 b) [Fe] (by simp) (by rw[cy,Y];omega)) ?_);generalize a8 (cO 17 w1 b) [Fe]=w2 at*
  refine gA Z (j5 (d214 n S (xd w2 1) body hs (by omega) (by omega) (by omega) hn) ?_);generalize df (eD n) body (xd w2 1) body.length=w3 at*
  refine gA Z (go_wp (d147 (xd w3 (-1)) [wB] (by simp) (by rw[cy,J];show w3.l.length+2<=_;omega)) Z Z Z Z Z Z Z Z Z Z Z Z ?_);refine gA Z kD
 .have e:fC 3=⟨#[109,105,110]⟩:=rfl;rw[e]at hh x j y A u B D F ⊢;refine gA Z (zp (Gk var) ?_);refine gA Z (j5 (d146 w (eh var)) ?_);refine gA Z (Cm (d147 (aS w (eh var)) [var,pZ,⟨#[109,105,110]⟩,p3] (by simp) (by rw[D,aX];omega)) Z Z Z Z Z Z Z Z Z Z Z Z Z Z Z Z (by(repeat' (first|exact ac|exact rfl|exact aL.refl _|exact aL.bk (by assumption)|apply ZC))<;>first|omega|(simp only[Zi];omega)|(simp;done)|(simp;omega)) Z (by(repeat' (first|exact ac|exact rfl|exact aL.refl _|exact aL.bk (by assumption)|apply ZC))<;>first|omega|(simp only[Zi];omega)|(simp;done)|(simp;omega)) ?_);generalize I:a8 (aS w (eh var)) [var,pZ,⟨#[109,105,110]⟩,p3]=w1 at*
  have G:rN w1 ⟨3,var,b,body⟩=a8 (cO 17 w1 b) [Fe]:=rfl;rw[G]at x j y A u B ⊢;refine zJ Z Z (fun q=>?_) fun q=>?_
  .exact absurd (show lc=kw from q) (by decide)
  have hx:=ef 17 w1 b;refine gA Z (j5 (sq w1 b (by omega)) ?_);refine gA Z (kO (d147 (cO 17 w1 b) [Fe] (by simp) (by rw[cy,Y];omega)) ?_);generalize a8 (cO 17 w1 b) [Fe]=w2 at*
  refine gA Z (j5 (d214 n S (xd w2 1) body hs (by omega) (by omega) (by omega) hn) ?_);generalize df (eD n) body (xd w2 1) body.length=w3 at*
  refine gA Z (go_wp (d147 (xd w3 (-1)) [wB] (by simp) (by rw[cy,J];show w3.l.length+2<=_;omega)) Z Z Z Z Z Z Z Z Z Z Z Z ?_);refine gA Z kD
 .have e:fC 4=⟨#[109,97,120]⟩:=rfl;rw[e]at hh x j y A u B D F ⊢;refine gA Z (zp (Gk var) ?_);refine gA Z (j5 (d146 w (eh var)) ?_);refine gA Z (Cm (d147 (aS w (eh var)) [var,pZ,⟨#[109,97,120]⟩,p3] (by simp) (by rw[D,aX];omega)) Z Z Z Z Z Z Z Z Z Z Z Z Z Z Z Z (by(repeat' (first|exact ac|exact rfl|exact aL.refl _|exact aL.bk (by assumption)|apply ZC))<;>first|omega|(simp only[Zi];omega)|(simp;done)|(simp;omega)) Z (by(repeat' (first|exact ac|exact rfl|exact aL.refl _|exact aL.bk (by assumption)|apply ZC))<;>first|omega|(simp only[Zi];omega)|(simp;done)|(simp;omega)) ?_);generalize I:a8 (aS w (eh var)) [var,pZ,⟨#[109,97,120]⟩,p3]=w1 at*
  have G:rN w1 ⟨4,var,b,body⟩=a8 (cO 17 w1 b) [Fe]:=rfl;rw[G]at x j y A u B ⊢;refine zJ Z Z (fun q=>?_) fun q=>?_
  .exact absurd (show lc=kw from q) (by decide)
  have hx:=ef 17 w1 b;refine gA Z (j5 (sq w1 b (by omega)) ?_);refine gA Z (kO (d147 (cO 17 w1 b) [Fe] (by simp) (by rw[cy,Y];omega)) ?_);generalize a8 (cO 17 w1 b) [Fe]=w2 at*
  refine gA Z (j5 (d214 n S (xd w2 1) body hs (by omega) (by omega) (by omega) hn) ?_);generalize df (eD n) body (xd w2 1) body.length=w3 at*
  refine gA Z (go_wp (d147 (xd w3 (-1)) [wB] (by simp) (by rw[cy,J];show w3.l.length+2<=_;omega)) Z Z Z Z Z Z Z Z Z Z Z Z ?_);refine gA Z kD
set_option maxHeartbeats 4000000 in
theorem Jw(n:Nat)(ih:Ng n)(hn:n<=100000000):Ng (n+1):=by
 intro l w hs G I hb;have B:xC.size=4:=rfl;have y:=l.size_eq;have A:=l.l9;have x:l.agg.ts=l.a7.size+l.jQ.ts+Lit.lB l.ar:=rfl;have F:eD (n+1) l w=D9 (eD n) l (aS w (kz l)):=rfl;rw[F];have J:(aS w (kz l)).l.length=w.l.length:=rfl;have S:=qo w (kz l);have hx:=ef 17 (aS w (kz l)) l.left;obtain⟨kind,atom,op,left,right,c6,a7,jQ,ar,at_⟩:=l;dsimp only[Lit.atom,Lit.left,Lit.right,Lit.a7,Lit.jQ,Lit.ar]at y A x hx;refine aB ab func190 Z (by decide) ntmps190 Z (by simp) ?_;refine gA Z (zp (Yh (.mk kind atom op left right c6 a7 jQ ar at_)) ?_);refine gA Z (j5 (d146 w (kz (.mk kind atom op left right c6 a7 jQ ar at_))) ?_);generalize aS w (kz (.mk kind atom op left right c6 a7 jQ ar at_))=w1 at*
 have D:D9 (eD n) (.mk kind atom op left right c6 a7 jQ ar at_) w1=if kind=2 then kj (a8 w1 [xC]) atom else if kind=1 then kj w1 atom
  else if kind=3 then(if op<1∨7<=op then oE (cO 17 w1 left) else cO 17 (a8 (cO 17 w1 left) [qM op]) right)
  else if kind=4 then yZ (eD n) w1 (Lit.mk kind atom op left right c6 a7 jQ ar at_).agg else oE w1:=rfl
 rw[D];refine zJ Z Z (fun d=>?_) fun d=>?_
 .have d:kind=2:=zT d;rw[am d];refine gA Z (kO (d147 w1 [xC] (by simp) (by rw[cy,B];omega)) ?_);refine gA Z (j5 (d104 (a8 w1 [xC]) atom (by rw[aV,B];omega)) ?_);refine gA Z kD
 have d: ¬kind=2:=zF d;rw[be d];refine zJ Z Z (fun k1=>?_) fun k1=>?_
 .have k1:kind=1:=zT k1;rw[am k1];refine gA Z (j5 (d104 w1 atom (by omega)) ?_);refine gA Z kD
 have k1: ¬kind=1:=zF k1;rw[be k1];refine zE Z Z (fun j=>?_) fun j=>?_
 .have j: ¬kind=3:=zF j;rw[be j];refine zJ Z Z (fun u=>?_) fun u=>?_
  .have u:kind=4:=zT u;rw[am u];refine gA Z (j5 (d190 n ih w1 (Lit.mk kind atom op left right c6 a7 jQ ar at_).agg (by show Lit.aA ar<=n;omega) (by omega) (by omega) (by omega) hn) ?_);refine gA Z kD
  .have u: ¬kind=4:=zF u;rw[be u];refine gA Z kD
 have j:kind=3:=zT j;rw[am j];refine gA Z (j5 (sq w1 left (by omega)) ?_);refine zE Z Z (fun g1=>?_) fun g1=>?_
 .rw[am (.inl (zT g1))];refine gA Z kD
 refine zJ Z Z (fun g2=>?_) fun g2=>?_
 .rw[am (.inr (zT g2))];refine gA Z kD
 have g1: ¬op<1:=zF g1;have g2: ¬op>=7:=zF g2;rw[be (by rintro(h|h)<;>omega)];generalize cO 17 w1 left=w2 at*
 have Y:op=1∨op=2∨op=3∨op=4∨op=5∨op=6:=by omega
 clear D F;rcases Y with rfl|rfl|rfl|rfl|rfl|rfl
 .have e:qM 1=⟨#[32,61,32]⟩:=rfl;have b:((⟨#[32,61,32]⟩:aj)).size=3:=rfl;rw[e];refine nS Z (by dsimp only[Lit.op];exact(by(repeat' (first|exact ac|exact rfl|exact aL.refl _|exact aL.bk (by assumption)|apply ZC))<;>first|omega|(simp only[Zi];omega)|(simp;done)|(simp;omega))) (go_wp (d147 w2 [⟨#[32,61,32]⟩] (by simp) (by rw[cy,b];omega)) Z Z Z Z Z Z Z Z Z Z Z Z ?_);refine gA Z (j5 (sq (a8 w2 [⟨#[32,61,32]⟩]) right (by rw[aV,b];omega)) ?_);refine gA Z kD
 .have e:qM 2=⟨#[32,33,61,32]⟩:=rfl;have b:((⟨#[32,33,61,32]⟩:aj)).size=4:=rfl;rw[e];refine nS Z (by dsimp only[Lit.op];exact(by(repeat' (first|exact ac|exact rfl|exact aL.refl _|exact aL.bk (by assumption)|apply ZC))<;>first|omega|(simp only[Zi];omega)|(simp;done)|(simp;omega))) (go_wp (d147 w2 [⟨#[32,33,61,32]⟩] (by simp) (by rw[cy,b];omega)) Z Z Z Z Z Z Z Z Z Z Z Z ?_);refine gA Z (j5 (sq (a8 w2 [⟨#[32,33,61,32]⟩]) right (by rw[aV,b];omega)) ?_);refine gA Z kD
 .have e:qM 3=⟨#[32,60,32]⟩:=rfl;have b:((⟨#[32,60,32]⟩:aj)).size=3:=rfl;rw[e];refine nS Z (by dsimp only[Lit.op];exact(by(repeat' (first|exact ac|exact rfl|exact aL.refl _|exact aL.bk (by assumption)|apply ZC))<;>first|omega|(simp only[Zi];omega)|(simp;done)|(simp;omega))) (go_wp (d147 w2 [⟨#[32,60,32]⟩] (by simp) (by rw[cy,b];omega)) Z Z Z Z Z Z Z Z Z Z Z Z ?_);refine gA Z (j5 (sq (a8 w2 [⟨#[32,60,32]⟩]) right (by rw[aV,b];omega)) ?_);refine gA Z kD
 .have e:qM 4=⟨#[32,60,61,32]⟩:=rfl;have b:((⟨#[32,60,61,32]⟩:aj)).size=4:=rfl;rw[e];refine nS Z (by dsimp only[Lit.op];exact(by(repeat' (first|exact ac|exact rfl|exact aL.refl _|exact aL.bk (by assumption)|apply ZC))<;>first|omega|(simp only[Zi];omega)|(simp;done)|(simp;omega))) (go_wp (d147 w2 [⟨#[32,60,61,32]⟩] (by simp) (by rw[cy,b];omega)) Z Z Z Z Z Z Z Z Z Z Z Z ?_);refine gA Z (j5 (sq (a8 w2 [⟨#[32,60,61,32]⟩]) right (by rw[aV,b];omega)) ?_);refine gA Z kD
 .have e:qM 5=⟨#[32,62,32]⟩:=rfl;have b:((⟨#[32,62,32]⟩:aj)).size=3:=rfl;rw[e];refine nS Z (by dsimp only[Lit.op];exact(by(repeat' (first|exact ac|exact rfl|exact aL.refl _|exact aL.bk (by assumption)|apply ZC))<;>first|omega|(simp only[Zi];omega)|(simp;done)|(simp;omega))) (go_wp (d147 w2 [⟨#[32,62,32]⟩] (by simp) (by rw[cy,b];omega)) Z Z Z Z Z Z Z Z Z Z Z Z ?_);refine gA Z (j5 (sq (a8 w2 [⟨#[32,62,32]⟩]) right (by rw[aV,b];omega)) ?_);refine gA Z kD
 .have e:qM 6=⟨#[32,62,61,32]⟩:=rfl;have b:((⟨#[32,62,61,32]⟩:aj)).size=4:=rfl;rw[e];refine nS Z (by dsimp only[Lit.op];exact(by(repeat' (first|exact ac|exact rfl|exact aL.refl _|exact aL.bk (by assumption)|apply ZC))<;>first|omega|(simp only[Zi];omega)|(simp;done)|(simp;omega))) (go_wp (d147 w2 [⟨#[32,62,61,32]⟩] (by simp) (by rw[cy,b];omega)) Z Z Z Z Z Z Z Z Z Z Z Z ?_);refine gA Z (j5 (sq (a8 w2 [⟨#[32,62,61,32]⟩]) right (by rw[aV,b];omega)) ?_);refine gA Z kD
theorem Wh: ∀n,n<=100000001->Ng n
 |0,_=>fun l w b=>by have:=l.size_pos;omega
 |n+1,h=>Jw n (Wh n (by omega)) (by omega)
section
abbrev WS.o:WS:=⟨kw,[],lc,0⟩
section
variable {nt:Nat} {Q:AQ} {k:List KI} {s:AS}
def wN(s:AS)(i:Nat):AS:=match s with|⟨f,h,n⟩=>⟨f,(i,io (WS.o.uM i n))::(n,io (.bT [] 5))::h,n+1⟩
theorem HC{P:Program}{c:Code}{s':AS}(i:Nat)(hi:s.h.get i=io (.cells [.iv (.v (.pointer jp)),.iv (.v (.slice jp 0 0)),pB lc,pI 0] (io 247)))
  (hs:wN s i=s') (h:GO P nt (.code c::k) Q s'):GO P nt (.code c::k) Q s:=by
 subst hs;intro M N a w A;obtain⟨sf,Y,d⟩:=s;obtain⟨h1,S⟩:=A.1.Rk 5;have F:i<d:=A.1.used i _ hi;have G:i≠d:=fun e=>by omega
 have u:AH.get ((d,io (AO.bT [] 5))::Y) i=io (.cells [.iv (.v (.pointer jp)),.iv (.v (.slice jp 0 0)),pB lc,pI 0] (io 247)):=by
  rw[AH.aw,be G];exact hi
 obtain⟨x,T,e1,e2,e3,y,e5⟩:=S.obj i _ u;have hv: ∀(j:Nat) (p:PV),[PV.fB kw i,.sl d 0 0 1,pB lc,pI 0][j]? =io p->VR M N (· <d+1) p (x.getD j undef):=by
  intro j p b
  match j,b with
  |0,b=>
   cases b;have:=y 0 _ Z;generalize x.getD 0 undef=v at this ⊢;cases this with
   |iv _ _ h=>cases h with
    |v=>exact .fB kw i (aav F)
  |1,b=>
   cases b;have:=y 1 _ Z;generalize x.getD 1 undef=v at this ⊢;cases this with
   |iv _ _ h=>cases h with
    |v=>exact .pQ _ _ (aai _)
  |2,b=>exact y 2 p b
  |3,b=>exact y 3 p b
  |j+4,b=>cases b
 obtain⟨g1,g2⟩:=S.write (i:=i) (o0:= .cells [.iv (.v (.pointer jp)),.iv (.v (.slice jp 0 0)),pB lc,pI 0] (io 247)) u Z w (WS.o.uM i d) Z Z Z Z (fun _ _=>rfl) ⟨x,T,e1,e2,e3,hv,e5⟩;have B:Fits M N ⟨sf,(i,io (WS.o.uM i d))::(d,io (.bT [] 5))::Y,d+1⟩ nt a w:=
  ⟨g2,fun k=>(A.2.1 k).mono (.refl _) (.refl _ _) (fun i hi=>aav hi),A.2.2⟩
 exact AW.then h B fun e a2 w2 M2 N2 s2 J D I=>⟨M2,N2,s2,(h1.trans g1).trans J,D,I⟩
end
def WS.told(w:WS):PV:= .bM [pS (if w.bad=kw then⟨#[]⟩ else⟨w.l.toArray⟩),pI (if w.bad=kw then 50 else 0)]
theorem d105(w:WS):bV prog 189 [.ptr 0 0] w.O w.told [] 2:=by
 refine aB ab func189 Z (by decide) ntmps189 Z (by simp) ?_;refine zJ Z Z (fun g=>?_) fun g=>?_
 .have g:w.bad=kw:=g;unfold WS.told;rw[am g,am g];refine gA Z (zD [] Z (zW ac))
 .have g: ¬w.bad=kw:=by
   have g:w.bad=lc:=g;rw[g];decide
  unfold WS.told;rw[be g,be g];refine gA Z (zq [0,1] (d150 w) ?_);refine gA Z (zD [] Z (zW ac))
def W8(a:Atom):PV:=(kj WS.o a).told
def Xy(l:Lit):PV:=(eD l.size l WS.o).told
theorem c61(a:Atom)(hb:a.ts<=900000000):Pure prog 157 [ag a.c] (W8 a):=by
 refine ah ab func157 Z (by decide) ntmps157 Z (by simp) Z ?_;refine gM 12 Z (HC 1 Z Z ?_);refine gA Z (j5 (d104 WS.o a (by simpa using hb)) ?_);refine gA Z (zq [1,3] (d105 (kj WS.o a)) ?_);exact zU Z
theorem YB(l:Lit)(hb:l.ts<=900000000)(hs:l.size<=100000000):Pure prog 158 [ag l.c] (Xy l):=by
 refine ah ab func158 Z (by decide) ntmps158 Z (by simp) Z ?_;refine gM 12 Z (HC 1 Z Z ?_);refine gA Z (j5 (Wh l.size (by omega) l WS.o (YY _) (by decide) (by decide) (by simpa using hb)) ?_);refine gA Z (zq [1,3] (d105 (eD l.size l WS.o)) ?_);exact zU Z
end
def sW(d:Decl)(i k:Int):Int:=
 if(d.types.any fun x=>!li (x=1)&&!li (x=2))=kw∨ep d.name=lc then 1
 else if i>=64∨(d.types.length:Int)>8 then 66 else if k>0 then 60 else 0
theorem YC(d:Decl)(i k:Int):Pure prog 123 [ag d.c,pI i,pI k] (pI (sW d i k)):=by
 refine ah ab func123 Z (by decide) ntmps123 Z (by simp) Z ?_;refine gA Z (zq [] (d153 d.types) ?_);refine zE Z Z (fun g1=>?_) fun g1=>?_
 .rw[sW,am (.inl (by simpa using g1))];exact zU Z
 have g1: ¬(d.types.any fun x=>!li (x=1)&&!li (x=2))=kw:=by
  have g1:(d.types.any fun x=>!li (x=1)&&!li (x=2))=lc:=g1;rw[g1];decide
 refine gA Z (zp (XR d.name) ?_);refine zJ Z Z (fun g2=>?_) fun g2=>?_
 .have g2:ep d.name=lc:=by simpa using g2
  rw[sW,am (.inr g2)];exact zU Z
 have g2: ¬ep d.name=lc:=by
  have g2:ep d.name=kw:=by simpa using g2
  rw[g2];decide
 rw[sW,be (by rintro(h|h);exact g1 h;exact g2 h)];refine zE Z Z (fun g3=>?_) fun g3=>?_
 .rw[am (.inl (by simpa using g3))];exact zU Z
 have g3: ¬i>=64:=zF g3;refine zJ Z Z (fun g4=>?_) fun g4=>?_
 .rw[am (.inr (zT g4))];exact zU Z
 have g4: ¬(d.types.length:Int)>8:=zF g4;rw[be (by rintro(h|h);exact g3 h;exact g4 h)];refine zJ Z Z (fun g5=>?_) fun g5=>?_
 .rw[am (zT g5)];exact zU Z
 .rw[be (zF g5)];exact zU Z
abbrev aN:=(KC.si .i64).K
def aN.z:aN:=(YW,0)
def aN.c(s:aN):List IV:=[iS s.1,iI s.2]
def spE(s:aN):IV:= .agg s.c
def spZ:Value:= .agg #[.string YW,.int .i64 0]
def dvP:PV->aN
 | .agg [.iv (.v (.string s)),.iv (.v (.int _ a))]=>(s,a)
 |_=>aN.z
abbrev UM:=List (aN×aN)
abbrev KM:=List (aN×Int)
abbrev rU(m:UM):AO:= .map (.si .i64) spE aN.z spZ dvP m
abbrev upI(m:UM):IV:= .eF (.si .i64) spE aN.z spZ m
abbrev sa(m:KM):AO:= .map (.si .i64) A5 0 (.int .i64 0) Xm m
abbrev kdI(m:KM):IV:= .eF (.si .i64) A5 0 (.int .i64 0) m
structure Want where
 lit:Int
 at_:aN
 kind:Int
 has:Int
 deriving Inhabited
def Want.c(w:Want):List IV:=[iI w.lit,iS w.at_.1,iI w.at_.2,iI w.kind,iI w.has]
structure TS where
 up:UM
 ws:List Want
 kind:KM
abbrev TS.cell(r:ae)(u j n k:Nat):AO:= .cells [.iv (c9 r),.mp u,.sl j 0 n 5,.mp k]
abbrev TS.O(r:ae)(t:TS):List AO:=[TS.cell r 1 2 t.ws.length 3,rU t.up,aG 5 t.ws Want.c,sa t.kind]
abbrev TS.K(r:ae)(t:TS):AH:=[(0,io (TS.cell r 1 2 t.ws.length 3)),(1,io (rU t.up)),(2,io (aG 5 t.ws Want.c)),(3,io (sa t.kind))]
abbrev TS.H(r:ae)(t:TS):AH:=[(0,io (TS.cell r 1 4 t.ws.length 3)),(1,io (rU t.up)),(4,io (aG 5 t.ws Want.c)),(3,io (sa t.kind))]
def bf(r:ae)(s:aj)(w:Int):aN:=(s,if bU .str (aC (ay r)) s 0>0 then-1 else w)
theorem d136(r:ae)(t:TS)(s:aj)(w:Int):bV prog 225 [.ptr 0 0,pS s,pI w] (t.O r) (ag (bf r s w).c) (t.K r) 4:=by
 refine aB ab func225 Z (by decide) ntmps225 Z (by simp) ?_;refine zJ Z Z (fun g=>?_) fun g=>?_
 .have e:bf r s w=(s, -1):=by unfold bf;rw[am (zT g)]
  rw[e];refine gA Z (zD [] Z (zW (zO (zC ⟨⟨_,rfl,.of_eq (bA _).symm⟩,YP Z,cJ _,zC ac⟩))))
 .have e:bf r s w=(s,w):=by unfold bf;rw[be (zF g)]
  rw[e];refine gA Z (zD [] Z (zW (zO (zC ⟨⟨_,rfl,.of_eq (bA _).symm⟩,YP Z,cJ _,zC ac⟩))))
def aQ:UM->aN->aN
 | [],v=>v
 |(x,y)::r,v=>if x=v then aQ r y else aQ r v
def iV:UM->Prop
 | []=>True
 |(x,y)::r=>x≠y∧(∀q∈r,q.1≠x)∧(∀q∈r,q.2≠x)∧iV r
def Ig:UM->aN->Nat
 | [],_=>0
 |(x,_)::r,v=>if x=v then r.length+1 else Ig r v
theorem JZ: ∀(m:UM) (v:aN),Ig m v<=m.length
 | [],_=>YY _
 |(x,y)::r,v=>by
  have:=JZ r v;unfold Ig;split
  .simp
  .simp;omega
theorem tZ: ∀(m:UM) (v:aN),dZ (.si .i64) m v=lc->aQ m v=v
 | [],_,_=>rfl
 |(x,y)::r,v,h=>by
  unfold dZ at h;unfold aQ;split at h
  .cases h
  .rename_i b;rw[be b];exact tZ r v h
theorem Pt{m:UM}{v:aN}(h: ∀q∈m,q.1≠v):aQ m v=v:=by
 induction m with
 |nil=>rfl
 |cons a r ih=>
  obtain⟨x,y⟩:=a;unfold aQ;rw[be (h _ (Y8))];exact ih fun q b=>h q (Y7 _ b)
theorem p6: ∀(m:UM) (v:aN),iV m->dZ (.si .i64) m v=kw->aQ m (bU (.si .i64) m v aN.z)=aQ m v∧Ig m (bU (.si .i64) m v aN.z)<Ig m v
 | [],_,_,h=>nomatch h
 |(x,y)::r,v,ok,h=>by
  obtain⟨D,I,F,G⟩:=ok;by_cases j:x=v
  .subst j;have e:bU (.si .i64) ((x,y)::r) x aN.z=y:=am Z;rw[e];refine⟨?_,?_⟩
   .show(if x=y then aQ r y else aQ r y)=if x=x then aQ r y else aQ r x;rw[am Z];split<;>rfl
   .show(if x=y then r.length+1 else Ig r y)<if x=x then r.length+1 else Ig r x;rw[am Z,be D];have:=JZ r y;omega
  .have e:bU (.si .i64) ((x,y)::r) v aN.z=bU (.si .i64) r v aN.z:=be j;have u:dZ (.si .i64) r v=kw:=by
    unfold dZ at h;rw[be j]at h;exact h
   rw[e];obtain⟨g1,g2⟩:=p6 r v G u;have d:bU (.si .i64) r v aN.z≠x:=by
    have: ∀(m:UM),(∀q∈m,q.2≠x)->dZ (.si .i64) m v=kw->bU (.si .i64) m v aN.z≠x:=by
     intro m
     induction m with
     |nil=>intro _ h;cases h
     |cons a r ih=>
      obtain⟨J,S⟩:=a;intro A h;unfold dZ at h;unfold bU;split at h
      .rename_i b;rw[am b];exact A _ Y8
      .rename_i b;rw[be b];exact ih (fun q B=>A q (Y7 _ B)) h
    exact this r F u
   refine⟨?_,?_⟩
   .show(if x=_ then aQ r y else aQ r _)=if x=v then aQ r y else aQ r v;rw[be (fun e=>d e.symm),be j];exact g1
   .show(if x=_ then r.length+1 else Ig r _)<if x=v then r.length+1 else Ig r v;rw[be (fun e=>d e.symm),be j];exact g2
theorem d52(r:ae)(t:TS)(v0:aN)(ok:iV t.up):bV prog 201 [.ptr 0 0,ag v0.c] (t.O r) (ag (aQ t.up v0).c) (t.K r) 4:=by
 refine aB ab func201 Z (by decide) ntmps201 Z (by simp) ?_;refine gA Z ?_
 refine ox (σ:={v:aN//aQ t.up v=aQ t.up v0}) (fun v=>⟨[(0,.ptr 0 0),(3,.ptr 4 0),(4,.ptr 5 0)],
  [(0,io (TS.cell r 1 2 t.ws.length 3)),(1,io (rU t.up)),(2,io (aG 5 t.ws Want.c)),(3,io (sa t.kind)),(4,io (.cells [pS v.1.1,pI v.1.2])),(5,io (.cells [pS ⟨#[]⟩,pI 0]))],6⟩) (fun v=>Ig t.up v.1) ⟨v0,rfl⟩ []
  (zW (zO (zC ⟨⟨_,rfl,.of_eq (bA _).symm⟩,YP Z,cJ _,zC ⟨⟨_,rfl,.of_eq Z⟩,YP Z,rfl,⟨_,rfl,.of_eq Z⟩,YP Z,rfl,ac⟩⟩))) fun v=>?_
 obtain⟨v,b⟩:=v;refine zJ Z Z (fun g=>?_) fun g=>?_
 .have h:dZ (.si .i64) t.up v=lc:=by simpa using g
  have e:aQ t.up v0=v:=by rw[<-b];exact tZ t.up v h
  refine gA Z (zD [] Z (zM ⟨.of_eq (congrArg (fun x:aN=>ag x.c) e.symm),rfl,ac⟩ (zO (zC ⟨⟨_,rfl,.of_eq (bA _).symm⟩,YP Z,cJ _,zC ac⟩))))
 .have h:dZ (.si .i64) t.up v=kw:=by simpa using g
  obtain⟨d,j⟩:=p6 t.up v ok h;refine gA Z ⟨⟨bU (.si .i64) t.up v aN.z,d.trans b⟩,[],j,zW (zO (zC ⟨⟨_,rfl,.of_eq (bA _).symm⟩,YP Z,cJ _,zC ⟨⟨_,rfl,.of_eq Z⟩,YP Z,rfl,⟨_,rfl,.of_eq Z⟩,YP Z,rfl,ac⟩⟩))⟩
def Tx(r:ae)(t:TS):IV:= .mF [c9 r,upI t.up,cW 5 t.ws Want.c,kdI t.kind]
theorem c52(r:ae)(t:TS)(v0:aN)(ok:iV t.up):Pure prog 201 [.iv (Tx r t),ag v0.c] (ag (aQ t.up v0).c):=by
 refine ah ab func201 Z (by decide) ntmps201 Z (by simp) Z ?_;refine gA Z ?_
 refine ox (σ:={v:aN//aQ t.up v=aQ t.up v0}) (fun v=>⟨[(0,.iv (Tx r t)),(3,.ptr 0 0),(4,.ptr 1 0)],
  [(0,io (.cells [pS v.1.1,pI v.1.2])),(1,io (.cells [pS ⟨#[]⟩,pI 0]))],2⟩) (fun v=>Ig t.up v.1) ⟨v0,rfl⟩ []
  (zW ⟨⟨_,rfl,.of_eq Z⟩,YP Z,rfl,⟨_,rfl,.of_eq Z⟩,YP Z,rfl,ac⟩) fun v=>?_
 obtain⟨v,b⟩:=v;refine zJ Z Z (fun g=>?_) fun g=>?_
 .have h:dZ (.si .i64) t.up v=lc:=by simpa using g
  have e:aQ t.up v0=v:=by rw[<-b];exact tZ t.up v h
  refine gA Z (zL (.of_eq ?_));exact congrArg (fun x:aN=>ag x.c) e.symm
 .have h:dZ (.si .i64) t.up v=kw:=by simpa using g
  obtain⟨d,j⟩:=p6 t.up v ok h;refine gA Z ⟨⟨bU (.si .i64) t.up v aN.z,d.trans b⟩,[],j,zW ⟨⟨_,rfl,.of_eq Z⟩,YP Z,rfl,⟨_,rfl,.of_eq Z⟩,YP Z,rfl,ac⟩⟩
def tI(t:TS)(w:Want):Int:=if w.has=0 then bU (.si .i64) t.kind (aQ t.up w.at_) 0 else w.has
def rT(t:TS)(lit:Int)(w:Want):Bool:=li (w.lit=lit)&&!li (tI t w=w.kind)
def nF(t:TS)(lit:Int):Bool:=t.ws.any (rT t lit)
theorem Yy(r:ae)(t:TS)(lit:Int)(ok:iV t.up)(hb:t.ws.length<=1000000000000):Pure prog 169 [.iv (Tx r t),pI lit] (pB (nF t lit)):=by
 refine ah ab func169 Z (by decide) ntmps169 Z (by simp) Z ?_;refine gA Z ?_;refine az 0 t.ws.length (YZ _) (fun i=>⟨[(0,.iv (Tx r t)),(1,pI lit),(11,.iv (cW 5 t.ws Want.c)),(12,pI t.ws.length),(13,pI i)],[],0⟩) (fun i=>(t.ws.take i).any (rT t lit)=lc) [] Z
  (zW trivial) fun i A y=>?_
 refine zJ Z Z (fun b=>?_) fun b=>?_
 .have b:=ci b;have x:=aW y b;refine zJ Z Z (fun j=>?_) fun j=>?_
  .have j:(t.ws.getD i em).has=0:=zT j;refine gA Z (pP (c52 r t (t.ws.getD i em).at_ ok) ?_);have u:tI t (t.ws.getD i em)=bU (.si .i64) t.kind (aQ t.up (t.ws.getD i em).at_) 0:=am j;refine zJ Z Z (fun k1=>?_) fun k1=>?_
   .have k1:(t.ws.getD i em).lit=lit:=zT k1;refine zJ Z Z (fun d=>?_) fun d=>?_
    .have d: ¬tI t (t.ws.getD i em)=(t.ws.getD i em).kind:=by rw[u];simpa using d
     have e:nF t lit=kw:=ZG.2 ⟨t.ws.getD i em,by rw[YR,YU b];exact Zz b,by rw[rT,decide_eq_true k1,decide_eq_false d];rfl⟩;refine gA Z (zL (.of_eq ?_));rw[e]
    .have d:tI t (t.ws.getD i em)=(t.ws.getD i em).kind:=by rw[u];simpa using d
     refine gA Z ⟨b,x.2 (by rw[rT,decide_eq_true d,abh,ZV]),[],zW ac⟩
   .have k1: ¬(t.ws.getD i em).lit=lit:=by simpa using k1
    refine gA Z ⟨b,x.2 (by rw[rT,decide_eq_false k1];rfl),[],zW ac⟩
  .have j: ¬(t.ws.getD i em).has=0:=zF j;have u:tI t (t.ws.getD i em)=(t.ws.getD i em).has:=be j;refine zJ Z Z (fun k1=>?_) fun k1=>?_
   .have k1:(t.ws.getD i em).lit=lit:=zT k1;refine zJ Z Z (fun d=>?_) fun d=>?_
    .have d: ¬tI t (t.ws.getD i em)=(t.ws.getD i em).kind:=by rw[u];simpa using d
     have e:nF t lit=kw:=ZG.2 ⟨t.ws.getD i em,by rw[YR,YU b];exact Zz b,by rw[rT,decide_eq_true k1,decide_eq_false d];rfl⟩;refine gA Z (zL (.of_eq ?_));rw[e]
    .have d:tI t (t.ws.getD i em)=(t.ws.getD i em).kind:=by rw[u];simpa using d
     refine gA Z ⟨b,x.2 (by rw[rT,decide_eq_true d,abh,ZV]),[],zW ac⟩
   .have k1: ¬(t.ws.getD i em).lit=lit:=by simpa using k1
    refine gA Z ⟨b,x.2 (by rw[rT,decide_eq_false k1];rfl),[],zW ac⟩
 .have b:=co b;rw[Y1 b]at y;refine gA Z (zL (.of_eq ?_));rw[nF,y]
section
section
variable (r:ae) (lit w:Int)
def ky(e:Expr):List Want:=if e.kind=1 then[⟨lit,bf r e.var w,1,0⟩] else if e.kind=2 then[⟨lit,aN.z,1,e.val.kind⟩] else[]
mutual
def gr:Expr->List Want
 | .mk k v val op args=>ky r lit w (.mk k v val op args)++(if k=4 then vS args else[])
def vS:List Expr->List Want
 | []=> []
 |e::s=>gr e++vS s
end
theorem DQ: ∀l:List Expr,vS r lit w l=l.flatMap (gr r lit w)
 | []=>rfl
 |e::s=>by rw[vS,ZF,DQ s]
def jd(e:Expr):List Want:=if e.kind=4 then e.args.flatMap (gr r lit w) else[]
theorem wW(e:Expr):gr r lit w e=ky r lit w e++jd r lit w e:=by
 cases e;rw[gr,DQ];rfl
end
abbrev TS.add(t:TS)(l:List Want):TS:=⟨t.up,t.ws++l,t.kind⟩
section
variable {nt:Nat} {Q:AQ} {k:List KI} {s:AS}
def tS(s:AS)(r:ae)(t:TS)(i u j m:Nat):AS:=match s with|⟨f,h,n⟩=>⟨f,(i,io (TS.cell r u n t.ws.length m))::(u,io (rU t.up))::(n,io (aG 5 t.ws Want.c))::(m,io (sa t.kind))::(i,jp)::(u,jp)::(j,jp)::(m,jp)::h,n+1⟩
theorem VV(s:AS)(r:ae)(t:TS)(i u j m:Nat):tS s r t i u j m=⟨s.f,(i,io (TS.cell r u s.nx t.ws.length m))::(u,io (rU t.up))::(s.nx,io (aG 5 t.ws Want.c))::(m,io (sa t.kind))::(i,jp)::(u,jp)::(j,jp)::(m,jp)::s.h,s.nx+1⟩:=by cases s;rfl
def tR(s:AS)(r:ae)(t:TS)(i u j m:Nat):AS:=match s with|⟨f,h,n⟩=>⟨f,(i,io (TS.cell r u j t.ws.length m))::(u,io (rU t.up))::(j,io (aG 5 t.ws Want.c))::(m,io (sa t.kind))::(i,jp)::(u,jp)::(j,jp)::(m,jp)::h,n⟩
theorem VW(s:AS)(r:ae)(t:TS)(i u j m:Nat):tR s r t i u j m=⟨s.f,(i,io (TS.cell r u j t.ws.length m))::(u,io (rU t.up))::(j,io (aG 5 t.ws Want.c))::(m,io (sa t.kind))::(i,jp)::(u,jp)::(j,jp)::(m,jp)::s.h,s.nx⟩:=by cases s;rfl
theorem Ka{o:Oper}{c:Call}{g:FuncId}{args y:List PV}{r:ae}{t A:TS}{d:PV}{i u j m n:Nat}{es:List (List PV)}{s':AS}(hc:bV prog g (.ptr 0 0::args) (t.O r) d (A.H r) 5)(ho:o.op= .call c)(ha:bX s.f c=io (g,.ptr i 0::y))
  (hi:s.h.get i=io (TS.cell r u j n m)) (hu:s.h.get u=io (rU t.up)) (hj:s.h.get j=io (.row 5 es)) (hm:s.h.get m=io (sa t.kind)) (hn:n=t.ws.length) (he:es=t.ws.map fun x=>(Want.c x).map .iv)
  (hlt:[i,u,j,m].all (fun x=>Zb x s.nx)=kw) (hnd:b4 [i,u,j,m]=kw) (has:y=args) (hlow:bq 0 args=kw) (hr:d.low 0=kw)
  (hp:putDst nt o d (tS s r A i u j m)=io s'):OT prog nt o s (fun t=>t=s'):=by
 subst has;subst hn;subst he;have b: ∀σ,dK σ y=y:=fun σ=>iW σ y hlow;refine nA ho ha hc (dA hnd) (fun j hj=>YP (Zj.1 hlt j hj)) ?_ ?_ ?_
 .simp only[Zd,ZR,hi,hu,hj,hm,bA];rfl
 .simp only[dK,b];rfl
 .rintro q B n0 ⟨rfl,rfl,rfl⟩;rw[PV.jV _ _ hr];rw[VV]at hp;refine⟨s',?_,rfl⟩;rw[<-hp];simp only[TS.H,aO,sV,ZW,bA];rfl
theorem J5{o:Oper}{c:Call}{g:FuncId}{args y:List PV}{r:ae}{t:TS}{d:PV}{i u j m n:Nat}{es:List (List PV)}{s':AS}(hc:bV prog g (.ptr 0 0::args) (t.O r) d (t.K r) 4)(ho:o.op= .call c)(ha:bX s.f c=io (g,.ptr i 0::y))
  (hi:s.h.get i=io (TS.cell r u j n m)) (hu:s.h.get u=io (rU t.up)) (hj:s.h.get j=io (.row 5 es)) (hm:s.h.get m=io (sa t.kind)) (hn:n=t.ws.length) (he:es=t.ws.map fun x=>(Want.c x).map .iv)
  (hlt:[i,u,j,m].all (fun x=>Zb x s.nx)=kw) (hnd:b4 [i,u,j,m]=kw) (has:y=args) (hlow:bq 0 args=kw) (hr:d.low 0=kw)
  (hp:putDst nt o d (tR s r t i u j m)=io s'):OT prog nt o s (fun t=>t=s'):=by
 subst has;subst hn;subst he;have b: ∀σ,dK σ y=y:=fun σ=>iW σ y hlow;refine nA ho ha hc (dA hnd) (fun j hj=>YP (Zj.1 hlt j hj)) ?_ ?_ ?_
 .simp only[Zd,ZR,hi,hu,hj,hm,bA];rfl
 .simp only[dK,b];rfl
 .rintro q A n0 ⟨rfl,rfl,rfl⟩;rw[PV.jV _ _ hr];rw[VW]at hp;refine⟨s',?_,rfl⟩;rw[<-hp];simp only[TS.K,aO,sV,ZW,bA];rfl
theorem En{all rest:List Oper}{o:Oper}{c:Call}{g:FuncId}{args d:List PV}{r:ae}{t y:TS}{b:PV}{i u j m n:Nat}{es:List (List PV)}{s':AS}(hc:bV prog g (.ptr 0 0::args) (t.O r) b (y.H r) 5)(ho:o.op= .call c)(hg:o.guard=jp)(ha:bX s.f c=io (g,.ptr i 0::d))
  (hi:s.h.get i=io (TS.cell r u j n m)) (hu:s.h.get u=io (rU t.up)) (hj:s.h.get j=io (.row 5 es)) (hm:s.h.get m=io (sa t.kind)) (hn:n=t.ws.length) (he:es=t.ws.map fun x=>(Want.c x).map .iv)
  (hlt:[i,u,j,m].all (fun x=>Zb x s.nx)=kw) (hnd:b4 [i,u,j,m]=kw) (has:d=args) (hlow:bq 0 args=kw) (hr:b.low 0=kw)
  (hp:putDst nt o b (tS s r y i u j m)=io s') (h:GO prog nt (.ops all rest::k) Q s'):GO prog nt (.ops all (o::rest)::k) Q s:=
 dI hg (Ka hc ho ha hi hu hj hm hn he hlt hnd has hlow hr hp) fun t A=>by subst A;exact h
theorem Hz{all rest:List Oper}{o:Oper}{c:Call}{g:FuncId}{args d:List PV}{r:ae}{t y:TS}{b:PV}{i u j m n:Nat}{es:List (List PV)}{s':AS}(hc:bV prog g (.ptr 0 0::args) (t.O r) b (y.H r) 5)(h:GO prog nt (.ops all rest::k) Q s')(ho:o.op= .call c:=by exact rfl)(hg:o.guard=jp:=by exact rfl)(ha:bX s.f c=io (g,.ptr i 0::d):=by exact rfl)(hi:s.h.get i=io (TS.cell r u j n m):=by exact rfl)(hu:s.h.get u=io (rU t.up):=by exact rfl)(hj:s.h.get j=io (.row 5 es):=by exact rfl)(hm:s.h.get m=io (sa t.kind):=by exact rfl)(hn:n=t.ws.length:=by first|rfl|(rw[YS];rfl)|simp)(he:es=t.ws.map fun x=>(Want.c x).map .iv:=by first|rfl|(rw[YX];rfl)|(simp only[YX,Y3];rfl))(hlt:[i,u,j,m].all (fun x=>Zb x s.nx)=kw:=by exact rfl)(hnd:b4 [i,u,j,m]=kw:=by exact rfl)(has:d=args:=by exact rfl)(hlow:bq 0 args=kw:=by exact rfl)(hr:b.low 0=kw:=by exact rfl)(hp:putDst nt o b (tS s r y i u j m)=io s':=by exact rfl):GO prog nt (.ops all (o::rest)::k) Q s:=En (hc:=hc) (ho:=ho) (hg:=hg) (ha:=ha) (hi:=hi) (hu:=hu) (hj:=hj) (hm:=hm) (hn:=hn) (he:=he) (hlt:=hlt) (hnd:=hnd) (has:=has) (hlow:=hlow) (hr:=hr) (hp:=hp) (h:=h)
theorem Ux{all:List Oper}{todo pend:List (Nat×Oper)}{d:Nat}{A y:Prop}{o:Oper}{c:Call}{g:FuncId}{args B:List PV}{r:ae}{t:TS}{b:PV}{i u j m n:Nat}{es:List (List PV)}{s':AS}(hc:bV prog g (.ptr 0 0::args) (t.O r) b (t.K r) 4)
  (hrd:fq todo=[(d,o)]) (ho:o.op= .call c) (ha:bX s.f c=io (g,.ptr i 0::B))
  (hi:s.h.get i=io (TS.cell r u j n m)) (hu:s.h.get u=io (rU t.up)) (hj:s.h.get j=io (.row 5 es)) (hm:s.h.get m=io (sa t.kind)) (hn:n=t.ws.length) (he:es=t.ws.map fun x=>(Want.c x).map .iv)
  (hlt:[i,u,j,m].all (fun x=>Zb x s.nx)=kw) (hnd:b4 [i,u,j,m]=kw) (has:B=args) (hlow:bq 0 args=kw) (hr:b.low 0=kw)
  (hp:putDst nt o b (tR s r t i u j m)=io s')
  (hg:cN nt all s.f o=io kw) (hpb:jH all pend o=kw) (hE:pd todo [d]=kw)
  (hag:tC px nt all s todo pend=io A) (hCA:A) (hag2:eC px nt all s' (bn pend o)=io y) (hC2:y)
  (h:GO prog nt (.cZ all (todo.filter fun x=>!Zk x.1 d) (bn pend o)::k) Q s'):GO prog nt (.cZ all todo pend::k) Q s:=
 yp ab hrd hg hpb hE hag hCA (J5 hc ho ha hi hu hj hm hn he hlt hnd has hlow hr hp) hag2 hC2 h
theorem qy{all:List Oper}{todo pend:List (Nat×Oper)}{d:Nat}{A y:Prop}{o:Oper}{c:Call}{g:FuncId}{args B:List PV}{r:ae}{t:TS}{b:PV}{i u j m n:Nat}{es:List (List PV)}{s':AS}(hc:bV prog g (.ptr 0 0::args) (t.O r) b (t.K r) 4)(h:GO prog nt (.cZ all (todo.filter fun x=>!Zk x.1 d) (bn pend o)::k) Q s')(hrd:fq todo=[(d,o)]:=by exact rfl)(ho:o.op= .call c:=by exact rfl)(ha:bX s.f c=io (g,.ptr i 0::B):=by exact rfl)(hi:s.h.get i=io (TS.cell r u j n m):=by exact rfl)(hu:s.h.get u=io (rU t.up):=by exact rfl)(hj:s.h.get j=io (.row 5 es):=by exact rfl)(hm:s.h.get m=io (sa t.kind):=by exact rfl)(hn:n=t.ws.length:=by first|rfl|(rw[YS];rfl)|simp)(he:es=t.ws.map fun x=>(Want.c x).map .iv:=by first|rfl|(rw[YX];rfl)|(simp only[YX,Y3];rfl))(hlt:[i,u,j,m].all (fun x=>Zb x s.nx)=kw:=by exact rfl)(hnd:b4 [i,u,j,m]=kw:=by exact rfl)(has:B=args:=by exact rfl)(hlow:bq 0 args=kw:=by exact rfl)(hr:b.low 0=kw:=by exact rfl)(hp:putDst nt o b (tR s r t i u j m)=io s':=by exact rfl)(hg:cN nt all s.f o=io kw:=by exact rfl)(hpb:jH all pend o=kw:=by exact rfl)(hE:pd todo [d]=kw:=by exact rfl)(hag:tC px nt all s todo pend=io A:=by exact rfl)(hCA:A:=by(repeat' (first|exact ac|exact rfl|exact aL.refl _|exact aL.bk (by assumption)|apply ZC))<;>first|omega|(simp only[Zi];omega)|(simp;done)|(simp;omega))(hag2:eC px nt all s' (bn pend o)=io y:=by exact rfl)(hC2:y:=by(repeat' (first|exact ac|exact rfl|exact aL.refl _|exact aL.bk (by assumption)|apply ZC))<;>first|omega|(simp only[Zi];omega)|(simp;done)|(simp;omega)):GO prog nt (.cZ all todo pend::k) Q s:=Ux (hc:=hc) (hrd:=hrd) (ho:=ho) (ha:=ha) (hi:=hi) (hu:=hu) (hj:=hj) (hm:=hm) (hn:=hn) (he:=he) (hlt:=hlt) (hnd:=hnd) (has:=has) (hlow:=hlow) (hr:=hr) (hp:=hp) (hg:=hg) (hpb:=hpb) (hE:=hE) (hag:=hag) (hCA:=hCA) (hag2:=hag2) (hC2:=hC2) (h:=h)
theorem SO{l:List ResultVar}{y:PV}{e:Exit}{r:ae}{d:TS}{b:PV}{j n:Nat}{es:List (List PV)}(he:e= .normal∨e= .ret)(hr:lj px s l=io y)(hi:s.h.get 0=io (TS.cell r 1 j n 3))(hu:s.h.get 1=io (rU d.up))(hj:s.h.get j=io (.row 5 es))(hm:s.h.get 3=io (sa d.kind))
  (hn:n=d.ws.length) (hes:es=d.ws.map fun x=>(Want.c x).map .iv) (hlt:Zb j s.nx=kw) (hnd:b4 [0,1,j,3]=kw) (hns:aaM 4 s.nx=kw) (hrl:aL y b) (hlow:b.low 0=kw) (hlow5:b.low 5=kw):CM px l 4 b (d.H r) 5 e s:=by
 subst hn;subst hes;refine eV [j] he hr ⟨rfl,YP hns,fun x u=>?_,⟨?_,hlow5,ac⟩,⟨⟨_,hi,.of_eq Z⟩,YP Z,rfl,⟨_,hu,.of_eq Z⟩,YP Z,ac,⟨_,hj,.of_eq (bA _).symm⟩,YP Z,cJ _,⟨_,hm,.of_eq Z⟩,YP Z,ac,ac⟩,?_⟩
 .simp only[Y4]at u;subst u;exact YP hlt
 .rw[PV.jV _ _ hlow];exact hrl
 .exact dA hnd
theorem ze{l:List ResultVar}{u:PV}{e:Exit}{r:ae}{d:TS}{b:PV}{j n:Nat}{es:List (List PV)}(he:e= .normal∨e= .ret:=by first|exact .inr Z|exact .inl Z)(hr:lj px s l=io u:=by exact rfl)(hi:s.h.get 0=io (TS.cell r 1 j n 3):=by exact rfl)(hu:s.h.get 1=io (rU d.up):=by exact rfl)(hj:s.h.get j=io (.row 5 es):=by exact rfl)(hm:s.h.get 3=io (sa d.kind):=by exact rfl)(hn:n=d.ws.length:=by first|rfl|(rw[YS];rfl)|simp)(hes:es=d.ws.map fun x=>(Want.c x).map .iv:=by first|rfl|(rw[YX];rfl)|(simp only[YX,Y3];rfl))(hlt:Zb j s.nx=kw:=by exact rfl)(hnd:b4 [0,1,j,3]=kw:=by exact rfl)(hns:aaM 4 s.nx=kw:=by exact rfl)(hrl:aL u b:=by exact .refl _)(hlow:b.low 0=kw:=by exact rfl)(hlow5:b.low 5=kw:=by exact rfl):CM px l 4 b (d.H r) 5 e s:=SO (he:=he) (hr:=hr) (hi:=hi) (hu:=hu) (hj:=hj) (hm:=hm) (hn:=hn) (hes:=hes) (hlt:=hlt) (hnd:=hnd) (hns:=hns) (hrl:=hrl) (hlow:=hlow) (hlow5:=hlow5)
theorem Ri{n0 i u j m n:Nat}{es:List (List PV)}{I:AF}{r:ae}{t b:TS}(hw:t=b)(hi:s.h.get i=io (TS.cell r u j n m))(hu:s.h.get u=io (rU t.up))(hj:s.h.get j=io (.row 5 es))(hm:s.h.get m=io (sa t.kind))
  (hn:n=t.ws.length) (hes:es=t.ws.map fun x=>(Want.c x).map .iv) (hlt:Zb j s.nx=kw) (hnd:b4 [i,u,j,m]=kw) (h0:[i,u,m].all (fun x=>Zb x n0)=kw) (hns:aaM n0 s.nx=kw) (hf:Gw (n0+1) (sg n0 [j]) s.f I):
  Wk n0 [j] s ⟨I,[(i,io (TS.cell r u n0 b.ws.length m)),(u,io (rU b.up)),(n0,io (aG 5 b.ws Want.c)),(m,io (sa b.kind))],n0+1⟩:=by
 subst hw;subst hn;subst hes;simp only[List.all_cons,List.all_nil,Bool.and_true,Zf]at h0;have d:i<n0:=YP h0.1;have A:u<n0:=YP h0.2.1;have y:m<n0:=YP h0.2.2;have s0:sg n0 [j] i=i:=gx d;have B:sg n0 [j] u=u:=gx A;have D:sg n0 [j] m=m:=gx y;have J:Zb n0 n0=lc:=aaB.2 fun e=>absurd (YP e) (by omega);have F:sg n0 [j] n0=j:=by simp[sg,J]
 have c1:Zb u (n0+1)=kw:=Zy (by omega);have S:Zb m (n0+1)=kw:=Zy (by omega);have Y:Zb n0 (n0+1)=kw:=Zy (by omega);refine⟨rfl,YP hns,fun x G=>?_,hf,⟨⟨_,by rw[s0];exact hi,?_⟩,by show i<n0+1;omega,?_,⟨_,by rw[B];exact hu,.of_eq Z⟩,by show u<n0+1;omega,ac,⟨_,by rw[F];exact hj,.of_eq (bA _).symm⟩,aai _,cJ _,⟨_,by rw[D];exact hm,.of_eq Z⟩,by show m<n0+1;omega,ac,ac⟩,?_⟩
 .simp only[Y4]at G;subst G;exact YP hlt
 .simp only[AO.da,dK,PV.da,B,D,F];exact .of_eq Z
 .simp[AO.low,bq,PV.low,c1,S,Y]
 .simp only[en,s0,B,D,F];exact dA hnd
theorem sy{n0 i u j m n:Nat}{es:List (List PV)}{d:AF}{r:ae}{t b:TS}(hw:t=b)(hi:s.h.get i=io (TS.cell r u j n m):=by exact rfl)(hu:s.h.get u=io (rU t.up):=by exact rfl)(hj:s.h.get j=io (.row 5 es):=by exact rfl)(hm:s.h.get m=io (sa t.kind):=by exact rfl)(hn:n=t.ws.length:=by first|rfl|(rw[YS];rfl)|simp)(hes:es=t.ws.map fun x=>(Want.c x).map .iv:=by first|rfl|(rw[YX];rfl)|(simp only[YX,Y3];rfl))(hlt:Zb j s.nx=kw:=by exact rfl)(hnd:b4 [i,u,j,m]=kw:=by exact rfl)(h0:[i,u,m].all (fun x=>Zb x n0)=kw:=by exact rfl)(hns:aaM n0 s.nx=kw:=by exact rfl)(hf:Gw (n0+1) (sg n0 [j]) s.f d:=by repeat' (first|exact ac|exact aL.refl _|exact rfl|apply ZC)):Wk n0 [j] s ⟨d,[(i,io (TS.cell r u n0 b.ws.length m)),(u,io (rU b.up)),(n0,io (aG 5 b.ws Want.c)),(m,io (sa b.kind))],n0+1⟩:=Ri (hw:=hw) (hi:=hi) (hu:=hu) (hj:=hj) (hm:=hm) (hn:=hn) (hes:=hes) (hlt:=hlt) (hnd:=hnd) (h0:=h0) (hns:=hns) (hf:=hf)
end
theorem TS.add_add(t:TS)(a b:List Want):(t.add a).add b=t.add (a++b):=by simp[TS.add]
theorem TS.add_nil(t:TS):t.add []=t:=by simp[TS.add]
def Rc(r:ae)(n:Nat):Prop:= ∀(t:TS) (e:Expr) (lit w:Int),e.size<=n->t.ws.length+Expr.aA e.args<=1000000000->bV prog 226 [.ptr 0 0,ag e.c,pI lit,pI w] (t.O r) (.bM []) ((t.add (jd r lit w e)).H r) 5
def U7(r:ae)(n:Nat):Prop:= ∀(t:TS) (e:Expr) (lit w:Int),e.size<=n->t.ws.length+e.size<=1000000000->bV prog 199 [.ptr 0 0,ag e.c,pI lit,pI w] (t.O r) (.bM []) ((t.add (gr r lit w e)).H r) 5
theorem d92(r:ae)(n:Nat)(u:Rc r n):U7 r n:=by
 intro t e lit w j hb;have x:=e.size_eq;rw[wW,<-TS.add_add];refine aB ab func199 Z (by decide) ntmps199 Z (by simp) ?_;refine zJ Z Z (fun k1=>?_) fun k1=>?_
 .have k1:e.kind=1:=zT k1;have d:ky r lit w e=[⟨lit,bf r e.var w,1,0⟩]:=am k1;rw[d];refine gA Z (qy (d136 r t e.var w) ?_);refine gA Z (En (u (t.add [⟨lit,bf r e.var w,1,0⟩]) e lit w j (by show(t.ws++_).length+_<=_;rw[YS,Zs];omega)) Z Z Z Z Z Z Z (by first|rfl|(rw[YS];rfl)|simp) (by first|rfl|(rw[YX];rfl)|(simp only[YX,Y3];rfl)) Z Z Z Z Z Z ?_);refine gA Z ze
 have k1: ¬e.kind=1:=zF k1;refine zJ Z Z (fun b=>?_) fun b=>?_
 .have b:e.kind=2:=zT b;have d:ky r lit w e=[⟨lit,aN.z,1,e.val.kind⟩]:=by unfold ky;rw[be k1,am b]
  rw[d];refine gA Z (En (u (t.add [⟨lit,aN.z,1,e.val.kind⟩]) e lit w j (by show(t.ws++_).length+_<=_;rw[YS,Zs];omega)) Z Z Z Z Z Z Z (by first|rfl|(rw[YS];rfl)|simp) (by first|rfl|(rw[YX];rfl)|(simp only[YX,Y3];rfl)) Z Z Z Z Z Z ?_);refine gA Z ze
 .have b: ¬e.kind=2:=zF b;have d:ky r lit w e=[]:=by unfold ky;rw[be k1,be b]
  rw[d,TS.add_nil];refine gA Z (Hz (u t e lit w j (by omega)) ?_);refine gA Z ze
theorem jX(r:ae)(lit w:Int): ∀e:Expr,(gr r lit w e).length<=e.size
 | .mk k v val op args=>by
  rw[gr,Expr.size,YS];have b:(ky r lit w (.mk k v val op args)).length<=1:=by
   unfold ky
   repeat' split
   all_goals simp
  have d:(if k=4 then vS r lit w args else[]).length<=Expr.aA args:=by
   split
   .exact numRs_len args
   .simp
  omega
where
 numRs_len: ∀l:List Expr,(vS r lit w l).length<=Expr.aA l
 | []=>by simp[vS]
 |e::s=>by
  have h1:=jX r lit w e;have h2:=numRs_len s;rw[vS,Expr.aA,YS];omega
theorem Lf(r:ae)(lit w:Int)(l:List Expr)(i:Nat)(h:i<l.length):((l.take i).flatMap (gr r lit w)).length+(l.getD i em).size<=Expr.aA l:=by
 have b: ∀l:List Expr,(l.flatMap (gr r lit w)).length<=Expr.aA l:=by
  intro l
  induction l with
  |nil=>simp
  |cons e s ih=>
   have:=jX r lit w e;rw[ZF,YS,Expr.aA];omega
 have j:=b (l.take i);have d: ∀(l:List Expr) (i:Nat),i<l.length->Expr.aA (l.take i)+(l.getD i em).size<=Expr.aA l:=by
  intro l
  induction l with
  |nil=>intro i h;simp at h
  |cons e s ih=>
   intro i h;cases i with
   |zero=>simp[Expr.aA]
   |succ i=>
    have:=ih i (by simpa using h);simp only[aae,aag,Expr.aA];omega
 have:=d l i h;omega
theorem d137(r:ae)(n:Nat)(y:U7 r n):Rc r (n+1):=by
 intro t e lit w F hb;have x:=e.size_eq;refine bV.le (args:=[.ptr 0 0,ag e.c1,pI lit,pI w]) ?_ ⟨.refl _,e.zm,.refl _,.refl _,ac⟩;have u:=Expr.au e.args;refine aB ab func226 Z (by decide) ntmps226 Z (by simp) ?_;refine zE Z Z (fun k=>?_) fun k=>?_
 .have k: ¬e.kind=4:=zF k;have d:jd r lit w e=[]:=be k;rw[d,TS.add_nil];refine gA Z ze
 have k:e.kind=4:=zT k;have d:jd r lit w e=e.args.flatMap (gr r lit w):=am k;rw[d];refine gA Z ?_
 refine az 0 e.args.length (YZ _) (fun i=>⟨[(0,.ptr 0 0),(2,pI lit),(3,pI w),(14,.iv (cW 7 e.args Expr.c)),(15,pI e.args.length),(16,pI i)],
  [(0,io (TS.cell r 1 5 (t.add ((e.args.take i).flatMap (gr r lit w))).ws.length 3)),(1,io (rU (t.add ((e.args.take i).flatMap (gr r lit w))).up)),(5,io (aG 5 (t.add ((e.args.take i).flatMap (gr r lit w))).ws Want.c)),(3,io (sa (t.add ((e.args.take i).flatMap (gr r lit w))).kind))],6⟩) (fun _=>True) _ ac
  (Ri (t:=t) (TS.add_nil t).symm Z Z Z Z Z Z Z Z Z Z (bv (bv (bv (bv (bv (bv trivial))))))) fun i B _=>?_
 refine zJ Z Z (fun b=>?_) fun b=>?_
 .have b:=ci b;have j:=bG (f:=gr r lit w) b;have D:=Lf r lit w e.args i b;have A:=Expr.aI e.args i b;refine gA Z (En (y (t.add ((e.args.take i).flatMap (gr r lit w))) (e.args.getD i em) lit w (by omega) (by show(t.ws++_).length+_<=_;rw[YS];omega)) Z Z Z Z Z Z Z (by first|rfl|(rw[YS];rfl)|simp) (by first|rfl|(rw[YX];rfl)|(simp only[YX,Y3];rfl)) Z Z Z Z Z Z ?_);refine gA Z ⟨b,ac,_,Ri ((by rw[TS.add_add,j])) Z Z Z Z (by first|rfl|(rw[YS];rfl)|simp) (by first|rfl|(rw[YX];rfl)|(simp only[YX,Y3];rfl)) Z Z Z Z (bv (bv (bv (bv (bv (bv ac))))))⟩
 .have b:=co b;rw[Y1 b];refine gA Z ze
end
theorem vh(r:ae): ∀n,U7 r n∧Rc r n
 |0=>by
  have b:Rc r 0:=fun t e lit w j=>by have:=e.size_pos;omega
  exact⟨d92 r 0 b,b⟩
 |n+1=>by
  have d:=d137 r n (vh r n).1;exact⟨d92 r (n+1) d,d⟩
theorem MA(r:ae)(t:TS)(e:Expr)(lit w:Int)(hb:t.ws.length+e.size<=1000000000):bV prog 199 [.ptr 0 0,ag e.c,pI lit,pI w] (t.O r) (.bM []) ((t.add (gr r lit w e)).H r) 5:=(vh r e.size).1 t e lit w (YY _) hb
theorem SS(r:ae)(t:TS)(e:Expr)(lit w:Int)(hb:t.ws.length+e.size<=1000000000):bV prog 226 [.ptr 0 0,ag e.c,pI lit,pI w] (t.O r) (.bM []) ((t.add (jd r lit w e)).H r) 5:=(vh r e.size).2 t e lit w (YY _) (by have:=e.size_eq;omega)
def typeAt(p:Prog)(a:Atom)(i:Nat):Int:=(ir p a.rel).types.getD i em
def nI(p:Prog)(a:Atom)(i:Nat):Bool:=li (i<(ir p a.rel).types.length)&&(li (typeAt p a i=1)||decide (typeAt p a i=2))
def ma(p:Prog)(r:ae)(a:Atom)(lit w:Int)(i:Nat):List Want:=
 if nI p a i=lc then[]
 else if(a.ad.getD i em).kind=1 then[⟨lit,bf r (a.ad.getD i em).var w,typeAt p a i,0⟩]
 else if(a.ad.getD i em).kind=2 then[⟨lit,aN.z,typeAt p a i,(a.ad.getD i em).val.kind⟩] else[]
def gv(p:Prog)(r:ae)(a:Atom)(lit w:Int):Nat->List Want
 |0=> []
 |i+1=>gv p r a lit w i++ma p r a lit w i
theorem Fm(p:Prog)(r:ae)(a:Atom)(lit w:Int)(i:Nat):(ma p r a lit w i).length<=1:=by
 unfold ma
 repeat' split
 all_goals simp
theorem pj(p:Prog)(r:ae)(a:Atom)(lit w:Int): ∀i,(gv p r a lit w i).length<=i
 |0=>YY _
 |i+1=>by
  have b:=pj p r a lit w i;have d:=Fm p r a lit w i;rw[gv,YS];omega
set_option maxHeartbeats 1000000 in
theorem d90(p:Prog)(r:ae)(t:TS)(a:Atom)(lit w:Int)(hb:t.ws.length+a.ad.length<=1000000000):bV prog 197 [.ptr 0 0,.iv (de p),ag a.c,pI lit,pI w] (t.O r) (.bM []) ((t.add (gv p r a lit w a.ad.length)).H r) 5:=by
 refine aB ab func197 Z (by decide) ntmps197 Z (by simp) ?_;refine gA Z ?_
 refine az 0 a.ad.length (YZ _) (fun i=>⟨[(0,.ptr 0 0),(3,pI lit),(4,pI w),(10,.iv (cW 1 (ir p a.rel).types ba)),(19,.iv (cW 5 a.ad Term.c)),(20,pI a.ad.length),(21,pI i)],
  [(0,io (TS.cell r 1 5 (t.add (gv p r a lit w i)).ws.length 3)),(1,io (rU (t.add (gv p r a lit w i)).up)),(5,io (aG 5 (t.add (gv p r a lit w i)).ws Want.c)),(3,io (sa (t.add (gv p r a lit w i)).kind))],6⟩) (fun _=>True) _ ac
  (Ri (t:=t) (TS.add_nil t).symm Z Z Z Z Z Z Z Z Z Z (bv (bv (bv (bv (bv (bv (bv trivial)))))))) fun i A _=>?_
 refine zE Z Z (fun j=>?_) fun j=>?_
 .have j:=co j;have:i=a.ad.length:=by omega
  subst this;refine gA Z ze
 have j:=ci j;have B:=pj p r a lit w i;have b:t.add (gv p r a lit w (i+1))=(t.add (gv p r a lit w i)).add (ma p r a lit w i):=by rw[TS.add_add];rfl
 have y:(t.add (gv p r a lit w i)).ws.length<=t.ws.length+i:=by show(t.ws++_).length<=_;rw[YS];omega
 generalize t.add (gv p r a lit w i)=t1 at*
 refine zE Z Z (fun g1=>?_) fun g1=>?_
 .have g1: ¬i<(ir p a.rel).types.length:=by have g:=zT (show li ((i:Int)>=((ir p a.rel).types.length:Int))=kw from g1);omega
  have u:nI p a i=lc:=by rw[nI,decide_eq_false g1];rfl
  have hW:ma p r a lit w i=[]:=am u;rw[hW,TS.add_nil]at b;refine gA Z ⟨j,ac,_,sy (b.symm)⟩
 have g1:i<(ir p a.rel).types.length:=by have g:=zF (show li ((i:Int)>=((ir p a.rel).types.length:Int))=lc from g1);omega
 refine zJ Z Z (fun g2=>?_) fun g2=>?_
 .have g2: ¬typeAt p a i=1:=by simpa[typeAt]using g2
  refine zJ Z Z (fun g3=>?_) fun g3=>?_
  .have g3: ¬typeAt p a i=2:=by simpa[typeAt]using g3
   have u:nI p a i=lc:=by rw[nI,decide_eq_true g1,decide_eq_false g2,decide_eq_false g3];rfl
   have hW:ma p r a lit w i=[]:=am u;rw[hW,TS.add_nil]at b;refine gA Z ⟨j,ac,_,sy (b.symm)⟩
  .have g3:typeAt p a i=2:=by simpa[typeAt]using g3
   have x:nI p a i=kw:=by rw[nI,decide_eq_true g1,decide_eq_true g3,aa2];rfl
   have hW:ma p r a lit w i=if(a.ad.getD i em).kind=1 then[⟨lit,bf r (a.ad.getD i em).var w,typeAt p a i,0⟩]
    else if(a.ad.getD i em).kind=2 then[⟨lit,aN.z,typeAt p a i,(a.ad.getD i em).val.kind⟩] else[]:=by unfold ma;rw[x];exact be (by decide)
   rw[hW]at b;refine zJ Z Z (fun k1=>?_) fun k1=>?_
   .have k1:(a.ad.getD i em).kind=1:=zT k1;rw[am k1]at b;refine gA Z (qy (d136 r t1 (a.ad.getD i em).var w) ?_);refine gA Z ⟨j,ac,_,sy (b.symm)⟩
   have k1: ¬(a.ad.getD i em).kind=1:=zF k1;rw[be k1]at b;refine zJ Z Z (fun d=>?_) fun d=>?_
   .have d:(a.ad.getD i em).kind=2:=zT d;rw[am d]at b;refine gA Z ⟨j,ac,_,sy (b.symm)⟩
   .have d: ¬(a.ad.getD i em).kind=2:=zF d;rw[be d,TS.add_nil]at b;refine gA Z ⟨j,ac,_,sy (b.symm)⟩
 .have g2:typeAt p a i=1:=by simpa[typeAt]using g2
  have x:nI p a i=kw:=by rw[nI,decide_eq_true g1,decide_eq_true g2];rfl
  have hW:ma p r a lit w i=if(a.ad.getD i em).kind=1 then[⟨lit,bf r (a.ad.getD i em).var w,typeAt p a i,0⟩]
   else if(a.ad.getD i em).kind=2 then[⟨lit,aN.z,typeAt p a i,(a.ad.getD i em).val.kind⟩] else[]:=by unfold ma;rw[x];exact be (by decide)
  rw[hW]at b;refine zJ Z Z (fun k1=>?_) fun k1=>?_
  .have k1:(a.ad.getD i em).kind=1:=zT k1;rw[am k1]at b;refine gA Z (qy (d136 r t1 (a.ad.getD i em).var w) ?_);refine gA Z ⟨j,ac,_,sy (b.symm)⟩
  have k1: ¬(a.ad.getD i em).kind=1:=zF k1;rw[be k1]at b;refine zJ Z Z (fun d=>?_) fun d=>?_
  .have d:(a.ad.getD i em).kind=2:=zT d;rw[am d]at b;refine gA Z ⟨j,ac,_,sy (b.symm)⟩
  .have d: ¬(a.ad.getD i em).kind=2:=zF d;rw[be d,TS.add_nil]at b;refine gA Z ⟨j,ac,_,sy (b.symm)⟩
def sI(t:TS)(u v:aN):TS:=if u=v then t else⟨cF (.si .i64) t.up u v,t.ws,t.kind⟩
def lJ(y:Expr):Int:=if y.kind=2 then y.val.kind else 1
def gd(r:ae)(lit w:Int)(t:TS)(x y:Expr):TS:=
 if y.kind=1 then sI t (aQ t.up (bf r x.var w)) (aQ t.up (bf r y.var w))
 else t.add (if x.kind=1 then[⟨lit,bf r x.var w,lJ y,0⟩] else if x.kind=2 then[⟨lit,aN.z,lJ y,x.val.kind⟩] else[⟨lit,aN.z,lJ y,1⟩])
def jy(r:ae)(lit w:Int)(t:TS)(a b:Expr):TS:=
 if b.kind=1 then gd r lit w ((t.add (jd r lit w a)).add (jd r lit w b)) b a else gd r lit w ((t.add (jd r lit w a)).add (jd r lit w b)) a b
theorem O3{u v:aN}(h:(!(li (u.1=v.1)&&(li (u.2=v.2)&&kw)))=kw):u≠v:=by
 rintro rfl;simp at h
theorem O4{u v:aN}(h:(!(li (u.1=v.1)&&(li (u.2=v.2)&&kw)))=lc):u=v:=by
 simp at h;exact Prod.ext h.1 h.2
theorem uk(r:ae)(lit w:Int)(e:Expr):(jd r lit w e).length<=e.size:=by
 have b:=jX r lit w e;rw[wW,YS]at b;omega
set_option maxHeartbeats 1000000 in
theorem d93(r:ae)(t:TS)(a b:Expr)(lit w:Int)(ok:iV t.up)(hb:t.ws.length+a.size+b.size<=1000000000):bV prog 200 [.ptr 0 0,ag a.c,ag b.c,pI lit,pI w] (t.O r) (.bM []) ((jy r lit w t a b).H r) 5:=by
 have F:=uk r lit w a;have G:=uk r lit w b;have D:jy r lit w t a b=if b.kind=1 then gd r lit w ((t.add (jd r lit w a)).add (jd r lit w b)) b a else gd r lit w ((t.add (jd r lit w a)).add (jd r lit w b)) a b:=rfl;rw[D];have A:iV ((t.add (jd r lit w a)).add (jd r lit w b)).up:=ok;refine aB ab func200 Z (by decide) ntmps200 Z (by simp) ?_;refine gA Z (Hz (SS r t a lit w (by omega)) ?_);refine gA Z (En (SS r (t.add (jd r lit w a)) b lit w (by show(t.ws++_).length+_<=_;rw[YS];omega)) Z Z Z Z Z Z Z (by first|rfl|(rw[YS];rfl)|simp) (by first|rfl|(rw[YX];rfl)|(simp only[YX,Y3];rfl)) Z Z Z Z Z Z ?_);have I:((t.add (jd r lit w a)).add (jd r lit w b)).ws.length<=t.ws.length+a.size+b.size:=by
  show((t.ws++_)++_).length<=_;rw[YS,YS];omega
 generalize(t.add (jd r lit w a)).add (jd r lit w b)=t1 at*
 refine zJ Z Z (fun k1=>?_) fun k1=>?_
 .have k1:b.kind=1:=zT k1;rw[am k1];refine zJ Z Z (fun j=>?_) fun j=>?_
  .have j:a.kind=2:=zT j;have B: ¬a.kind=1:=by omega
   have hh:lJ a=a.val.kind:=am j;have x:gd r lit w t1 b a=t1.add [⟨lit,bf r b.var w,lJ a,0⟩]:=by unfold gd;rw[be B,am k1]
   rw[x,hh];refine zJ Z Z (fun u=>?_) fun u=>?_
   .exact absurd (zT u) B
   refine zE Z Z (fun d=>?_) fun d=>?_
   .exact absurd k1 (zF d)
   refine gA Z (qy (d136 r t1 b.var w) ?_);refine gA Z ze
  .have j: ¬a.kind=2:=zF j;refine zJ Z Z (fun u=>?_) fun u=>?_
   .have u:a.kind=1:=zT u;have x:gd r lit w t1 b a=sI t1 (aQ t1.up (bf r b.var w)) (aQ t1.up (bf r a.var w)):=am u;rw[x];refine gA Z (qy (d136 r t1 b.var w) ?_);refine gA Z (qy (d52 r t1 (bf r b.var w) A) ?_);refine gA Z (qy (d136 r t1 a.var w) ?_);refine gA Z (qy (d52 r t1 (bf r a.var w) A) ?_);refine zJ Z Z (fun d=>?_) fun d=>?_
    .have e:sI t1 (aQ t1.up (bf r b.var w)) (aQ t1.up (bf r a.var w))=⟨cF (.si .i64) t1.up (aQ t1.up (bf r b.var w)) (aQ t1.up (bf r a.var w)),t1.ws,t1.kind⟩:=be (O3 d);rw[e];refine nS Z (by repeat' (first|exact ac|exact rfl|exact agI (aN.c (aQ t1.up (bf r a.var w)))|exact aL.refl _|apply ZC)) (SO (by first|exact .inr Z|exact .inl Z) Z Z Z Z Z Z Z Z Z Z (.refl _) Z Z)
    .have e:sI t1 (aQ t1.up (bf r b.var w)) (aQ t1.up (bf r a.var w))=t1:=am (O4 d);rw[e];refine gA Z ze
   .have B: ¬a.kind=1:=zF u;have hh:lJ a=1:=be j;have x:gd r lit w t1 b a=t1.add [⟨lit,bf r b.var w,lJ a,0⟩]:=by unfold gd;rw[be B,am k1]
    rw[x,hh];refine zE Z Z (fun d=>?_) fun d=>?_
    .exact absurd k1 (zF d)
    refine gA Z (qy (d136 r t1 b.var w) ?_);refine gA Z ze
 have k1: ¬b.kind=1:=zF k1;rw[be k1];have x:gd r lit w t1 a b=t1.add (if a.kind=1 then[⟨lit,bf r a.var w,lJ b,0⟩] else if a.kind=2 then[⟨lit,aN.z,lJ b,a.val.kind⟩] else[⟨lit,aN.z,lJ b,1⟩]):=be k1;rw[x];refine zJ Z Z (fun j=>?_) fun j=>?_
 .have j:b.kind=2:=zT j;have hh:lJ b=b.val.kind:=am j;rw[hh];refine zJ Z Z (fun u=>?_) fun u=>?_
  .exact absurd (zT u) k1
  refine zJ Z Z (fun d=>?_) fun d=>?_
  .rw[am (zT d)];refine gA Z (qy (d136 r t1 a.var w) ?_);refine gA Z ze
  rw[be (zF d)];refine zJ Z Z (fun y=>?_) fun y=>?_
  .rw[am (zT y)];refine gA Z ze
  .rw[be (zF y)];refine gA Z ze
 .have j: ¬b.kind=2:=zF j;have hh:lJ b=1:=be j;rw[hh];refine zJ Z Z (fun u=>?_) fun u=>?_
  .exact absurd (zT u) k1
  refine zJ Z Z (fun d=>?_) fun d=>?_
  .rw[am (zT d)];refine gA Z (qy (d136 r t1 a.var w) ?_);refine gA Z ze
  rw[be (zF d)];refine zJ Z Z (fun y=>?_) fun y=>?_
  .rw[am (zT y)];refine gA Z ze
  .rw[be (zF y)];refine gA Z ze
def pL(p:Prog)(r:ae)(lit w:Int)(t:TS)(l:Lit):TS:=
 if l.kind=1∨l.kind=2 then t.add (gv p r l.atom lit w l.atom.ad.length)
 else if l.kind=3 then(if l.op=1∨l.op=2 then jy r lit w t l.left l.right else(t.add (gr r lit w l.left)).add (gr r lit w l.right)) else t
theorem d91(p:Prog)(r:ae)(t:TS)(l:Lit)(lit w:Int)(ok:iV t.up)(hb:t.ws.length+l.size<=1000000000):bV prog 198 [.ptr 0 0,.iv (de p),ag l.c,pI lit,pI w] (t.O r) (.bM []) ((pL p r lit w t l).H r) 5:=by
 have y:=l.size_eq;have A:=jX r lit w l.left;refine aB ab func198 Z (by decide) ntmps198 Z (by simp) ?_;refine zE Z Z (fun k1=>?_) fun k1=>?_
 .have k1:l.kind=1:=by simpa using k1
  have b:pL p r lit w t l=t.add (gv p r l.atom lit w l.atom.ad.length):=am (.inl k1);rw[b];refine gA Z (Hz (d90 p r t l.atom lit w (by omega)) ?_);refine gA Z ze
 have k1: ¬l.kind=1:=zF k1;refine zJ Z Z (fun d=>?_) fun d=>?_
 .have d:l.kind=2:=zT d;have b:pL p r lit w t l=t.add (gv p r l.atom lit w l.atom.ad.length):=am (.inr d);rw[b];refine gA Z (Hz (d90 p r t l.atom lit w (by omega)) ?_);refine gA Z ze
 have d: ¬l.kind=2:=zF d;have b:pL p r lit w t l=if l.kind=3 then(if l.op=1∨l.op=2 then jy r lit w t l.left l.right else(t.add (gr r lit w l.left)).add (gr r lit w l.right)) else t:=be (by rintro(h|h);exact k1 h;exact d h);refine zJ Z Z (fun j=>?_) fun j=>?_
 .have j: ¬l.kind=3:=by simpa using j
  rw[be j]at b;rw[b];refine gA Z ze
 have j:l.kind=3:=by simpa using j
 rw[am j]at b;refine zE Z Z (fun u=>?_) fun u=>?_
 .have u:l.op=1:=by simpa using u
  rw[am (.inl u)]at b;rw[b];refine gA Z (Hz (d93 r t l.left l.right lit w ok (by omega)) ?_);refine gA Z ze
 have u: ¬l.op=1:=zF u;refine zJ Z Z (fun x=>?_) fun x=>?_
 .have x:l.op=2:=zT x;rw[am (.inr x)]at b;rw[b];refine gA Z (Hz (d93 r t l.left l.right lit w ok (by omega)) ?_);refine gA Z ze
 .have x: ¬l.op=2:=zF x;rw[be (by rintro(h|h);exact u h;exact x h)]at b;rw[b];refine gA Z (Hz (MA r t l.left lit w (by omega)) ?_);refine gA Z (En (MA r (t.add (gr r lit w l.left)) l.right lit w (by show(t.ws++_).length+_<=_;rw[YS];omega)) Z Z Z Z Z Z Z (by first|rfl|(rw[YS];rfl)|simp) (by first|rfl|(rw[YX];rfl)|(simp only[YX,Y3];rfl)) Z Z Z Z Z Z ?_);refine gA Z ze
theorem mg: ∀(n:Nat) (m:UM) (v:aN),iV m->Ig m v<=n->dZ (.si .i64) m (aQ m v)=lc
 |n,m,v,ok,hn=>by
  cases h:dZ (.si .i64) m v with
  |false=>rw[tZ m v h];exact h
  |true=>
   obtain⟨b,d⟩:=p6 m v ok h;cases n with
   |zero=>omega
   |succ n=>rw[<-b];exact mg n m _ ok (by omega)
theorem ub: ∀(m:UM) (u v:aN),dZ (.si .i64) m u=lc->cF (.si .i64) m u v=m++ [(u,v)]
 | [],_,_,_=>rfl
 |(x,y)::r,u,v,h=>by
  unfold dZ at h;split at h
  .cases h
  .rename_i b;show(if x=u then _ else(x,y)::cF (.si .i64) r u v)=_;rw[be b,ub r u v h];rfl
theorem Ej{m:UM}{u:aN}(h:dZ (.si .i64) m u=lc): ∀q∈m,q.1≠u:=by
 induction m with
 |nil=>intro q hq;cases hq
 |cons a r ih=>
  obtain⟨x,y⟩:=a;unfold dZ at h;split at h
  .cases h
  .rename_i b;intro q hq;rcases Za.1 hq with rfl|hq
   .exact b
   .exact ih h q hq
theorem zZ: ∀{m:UM} {u v:aN},iV m->(∀q∈m,q.1≠u)->(∀q∈m,q.1≠v)->u≠v->iV (m++ [(u,v)])
 | [],u,v,_,_,_,hne=>⟨hne,fun q hq=>(nomatch hq),fun q hq=>(nomatch hq),ac⟩
 |(x,y)::r,u,v,⟨o1,o2,o3,o4⟩,hu,hv,hne=>by
  refine⟨o1,fun q hq=>?_,fun q hq=>?_,zZ o4 (fun q hq=>hu q (Y7 _ hq)) (fun q hq=>hv q (Y7 _ hq)) hne⟩
  .rcases Y6.1 hq with hq|hq
   .exact o2 q hq
   .simp only[Y4]at hq;subst hq;exact fun e=>hu _ Y8 e.symm
  .rcases Y6.1 hq with hq|hq
   .exact o3 q hq
   .simp only[Y4]at hq;subst hq;exact fun e=>hv _ Y8 e.symm
theorem J7{t:TS}(ok:iV t.up)(a b:aN):iV (sI t (aQ t.up a) (aQ t.up b)).up:=by
 unfold sI;split
 .exact ok
 .rename_i d;have j:=mg _ t.up a ok (YY _);have u:=mg _ t.up b ok (YY _);show iV (cF _ _ _ _);rw[ub _ _ _ j];exact zZ ok (Ej j) (Ej u) d
theorem Bn(r:ae)(lit w:Int){t:TS}(ok:iV t.up)(x y:Expr):iV (gd r lit w t x y).up:=by
 unfold gd;split
 .exact J7 ok _ _
 .exact ok
theorem Fa(r:ae)(lit w:Int){t:TS}(ok:iV t.up)(a b:Expr):iV (jy r lit w t a b).up:=by
 unfold jy;split
 .exact Bn r lit w (t:=(t.add (jd r lit w a)).add (jd r lit w b)) ok _ _
 .exact Bn r lit w (t:=(t.add (jd r lit w a)).add (jd r lit w b)) ok _ _
theorem Lu(p:Prog)(r:ae)(lit w:Int){t:TS}(ok:iV t.up)(l:Lit):iV (pL p r lit w t l).up:=by
 unfold pL
 repeat' split
 .exact ok
 .exact Fa r lit w ok _ _
 .exact ok
 .exact ok
theorem J6(t:TS)(u v:aN):(sI t u v).ws=t.ws:=by unfold sI;split<;>rfl
theorem yY(r:ae)(lit w:Int)(t:TS)(x y:Expr):(gd r lit w t x y).ws.length<=t.ws.length+1:=by
 unfold gd
 repeat' split
 .rw[J6];omega
 all_goals(show(t.ws++_).length<=_;rw[YS,Zs];omega)
theorem Bl(r:ae)(lit w:Int)(t:TS)(a b:Expr):(jy r lit w t a b).ws.length<=t.ws.length+a.size+b.size+1:=by
 have d:=uk r lit w a;have j:=uk r lit w b;have u:((t.add (jd r lit w a)).add (jd r lit w b)).ws.length<=t.ws.length+a.size+b.size:=by
  show((t.ws++_)++_).length<=_;rw[YS,YS];omega
 unfold jy;split
 .exact ZI (yY _ _ _ _ _ _) (by omega)
 .exact ZI (yY _ _ _ _ _ _) (by omega)
theorem Hl(p:Prog)(r:ae)(lit w:Int)(t:TS)(l:Lit):(pL p r lit w t l).ws.length<=t.ws.length+l.size:=by
 have b:=l.size_eq;have d:=pj p r l.atom lit w l.atom.ad.length;have j:=Bl r lit w t l.left l.right;have u:=jX r lit w l.left;have x:=jX r lit w l.right;unfold pL
 repeat' split
 .show(t.ws++_).length<=_;rw[YS];omega
 .omega
 .show((t.ws++_)++_).length<=_;rw[YS,YS];omega
 .omega
end Go.Proofs.YtflegjieadkonaaGreatDoor
