/-
  What the proofs of the claims need: part 3 of 7.
-/
import Derived.Test.YtflegjieadkonaaGreatDoorPart2
import Derived.Sort.EncStr
import Derived.Sort.Grow
import Derived.Sort.Walk0
import Derived.Shelf.Sort.Plain
import Derived.Shelf.Slices.In.SortNone
import Derived.Shelf.Slices.In.SortNone2
import Derived.WalkKit
import Derived.Lib.Builder
import Derived.Lib.UnsafeStr
import Derived.Laws.Externs
import Derived.Shelf.RegionOpenPlain
import Derived.KernelRfl
import Derived.Test.YtflegjieadkonaaGreatDoorProg
import Derived.Laws.RangeString
import Derived.Shelf.LaysM
import Derived.Shelf.Strconv.Itoa3
import Derived.Lib.ItoaLen
open And renaming intro→ZU
open Array renaming getD_eq_getD_getElem?→Y7,getElem?_append_left→aac,getElem?_eq_getElem→Z4,getElem?_eq_some_iff→aaq,getElem?_modify→Z2,getElem?_setIfInBounds→ZT
open Bool renaming and_eq_true→Zw,and_false→aaa,eq_false_iff→aaS,eq_iff_iff→ZW,false_and→aad,false_eq_true→aaG,false_or→aan,not_eq_true'→aae,not_false→abC,not_true→abA,or_eq_true→aas,or_true→abi,true_and→ZR,true_or→abF
open ByteArray renaming empty→Zd,size→abY
open Classical renaming byContradiction→aao
open Int renaming ofNat_eq_zero→acr,toNat_natCast→Zx
open List.Nodup renaming length_le_of_subset→aaP
open List.Pairwise renaming nil→aaT
open List renaming all_eq_false→aaV,all_eq_true→ZA,any_cons→ab6,any_eq_false→Z3,any_eq_true→ZZ,append_assoc→Zj,append_nil→ZL,cons_append→aaJ,ext_getElem?→aaU,filterMap_append→ach,filterMap_cons→aco,filter_append→abk,filter_cons→aaD,filter_eq_self→acp,filter_sublist→abP,findIdx?_eq_none_iff→abK,findIdx?_eq_some_iff_getElem→abn,flatMap_cons→ZX,foldl_append→aaE,foldl_cons→ZD,getD_cons_succ→aav,getD_eq_getElem?_getD→Y6,getElem?_eq_getElem→Za,getElem?_eq_some_iff→Zb,getElem?_map→Zg,getElem?_of_mem→Z7,getElem?_take→Z6,getElem_inj→abH,getElem_map→abW,getElem_mem→ZQ,le_antisymm→ab9,length_append→Y8,length_cons→ZI,length_eq_zero_iff→aaZ,length_filter_le→aak,length_map→ZE,length_nil→aai,length_singleton→ZH,length_take→ZP,map_append→Ze,map_cons→Zr,map_map→aa4,map_nil→Z0,mem_append→Zm,mem_append_left→ZJ,mem_append_right→aaA,mem_cons→Zq,mem_cons_of_mem→Zn,mem_cons_self→Zo,mem_filter→ZM,mem_flatMap→aa0,mem_map→ZK,mem_of_getElem?→ZC,mem_of_mem_take→abD,mem_range→aam,mem_singleton→Zk,nodup_append→aa6,nodup_cons→aat,nodup_nil→aab,not_lt→acy,not_mem_nil→abG,pairwise_cons→aay,range→Zy,sum_cons→aaW,take_append_drop→abm,take_length→aaQ,take_of_length_le→Zh,take_succ_cons→aau
open Nat renaming add_assoc→aaI,add_zero→abg,beq→Zz,ble→aa2,ble_eq_true_of_le→ZO,blt→Zs,le_add_left→aaH,le_of_ble_eq_true→Y5,le_refl→Zc,le_trans→Z1,lt_or_ge→aag,lt_succ_of_lt→aaL,lt_succ_self→aax,mul_one→ab2,sub_zero→acd,zero_add→Zu,zero_le→Zf
open Option renaming bind_some→ab8,getD_some→aaw,map_eq_some_iff→Zi,map_some→Z8
open Option.some renaming injEq→Y9
set_option maxRecDepth 100000
open Bool renaming false→lc,true→kw
open Decidable renaming decide→li
open Inhabited renaming default→em
open Option renaming none→jp,some→io
open Array renaming range→ab0
open Array renaming getElem?_map→abw
open Nat renaming mul_le_mul_right→ZF
open Nat renaming add_mul→aal
open List renaming getElem?_append_right→Zv
open Array renaming getElem?_toList→aah
namespace Go.Proofs.YtflegjieadkonaaGreatDoor
open Go Go.Al Go.Proofs.Tryz
theorem EH{α:Type}[Inhabited α]{l:List α}{p:α->Bool}{i:Nat}(h:i<l.length):(l.take (i+1)).filter p=if p (l.getD i em) then(l.take i).filter p++ [l.getD i em] else(l.take i).filter p:=by
 rw[ba h,abk];cases hp:p (l.getD i em)<;>simp only[aaD,List.filter_nil,hp]<;>simp
theorem wR{α:Type}(l:List α)(p:α->Bool)(i:Nat):((l.take i).filter p).length<=l.length:=by
 have b:=aak p (l.take i);have d:(l.take i).length<=l.length:=by simp;omega
 omega
def an(r:ah)(lit:Int):Lit:=r.body.getD lit.toNat em
def mF(r:ah)(lit:Int):List ak:=if lit<0∨(r.body.length:Int)<=lit∨ ¬(an r lit).kind=4 then[] else(aG (an r lit).agg).filter fun x=>!aH (outer r) x
theorem Lit.fC(l:Lit):l.agg.size+2<=l.size:=by
 rw[l.size_eq];unfold eO.size Lit.agg;dsimp only;omega
theorem c36(r:ah)(lit:Int)(hb:r.size<=1000000000000):Pure prog 238 [ag r.c,pI lit] (.iv (strs (mF r lit))):=by
 have D:=hb;unfold ah.size at D;refine ae ab func238 Z (by decide) ntmps238 Z (by simp) Z ?_;refine zE Z Z (fun d=>?_) fun d=>?_
 .have d:lit<0:=by simpa using d
  refine gA Z (zL ?_);rw[mF,am (.inl d)];exact .nil _ _
 have d: ¬lit<0:=by simpa using d
 refine zE Z Z (fun u=>?_) fun u=>?_
 .have u:(r.body.length:Int)<=lit:=by simpa using u
  refine gA Z (zL ?_);rw[mF,am (.inr (.inl u))];exact .nil _ _
 have u: ¬(r.body.length:Int)<=lit:=by simpa using u
 refine zJ Z Z (fun j=>?_) fun j=>?_
 .have j: ¬(an r lit).kind=4:=by simpa[an]using j
  refine gA Z (zL ?_);rw[mF,am (.inr (.inr j))];exact .nil _ _
 have j:(an r lit).kind=4:=by simpa[an]using j
 have S:lit.toNat<r.body.length:=by omega
 have F:=Lit.aF r.body lit.toNat S;have G:=(an r lit).fC;have J:=gv (an r lit).agg;have Y:(an r lit).size<=Lit.az r.body:=F;refine gA Z (zp (S1 r hb) ?_);refine gA Z (zp (Vl (an r lit).agg (by omega)) ?_);refine gA Z ?_;refine fY 7 1 Z ?_;refine aw 0 (aG (an r lit).agg).length (Zf _) (fun i=>⟨[(5,.iv (strs (outer r))),(6,.iv (strs (aG (an r lit).agg))),(7,.sl 2 0 (((aG (an r lit).agg).take i).filter fun x=>!aH (outer r) x).length 1),(8,pI i)],[(2,io (aE 1 (((aG (an r lit).agg).take i).filter fun x=>!aH (outer r) x) cz))],3⟩) (fun _=>True) [1] ac
  (zW (zS trivial)) fun i hi hJ=>?_
 have I:=wR (aG (an r lit).agg) (fun x=>!aH (outer r) x) i;refine zJ Z Z (fun b=>?_) fun b=>?_
 .have b:=ci b;have y:=EH (p:=fun x=>!aH (outer r) x) b;refine gA Z (bg (JB _ ((aG (an r lit).agg).getD i em)) Z Z Z Z Z Z ?_);refine zJ Z Z (fun B=>?_) fun B=>?_
  .rw[am B]at y;refine nV Z ?_ ⟨b,ac,[4],zM (bv (bv ⟨.row (by rw[y];simp),rfl,bv ac⟩)) (hR Z (by rw[y,Ze];rfl) Z ac)⟩
   repeat' (first|exact ac|exact rfl|apply ZU)
   all_goals first|omega|(simp;omega)|simp
  .rw[B]at y;refine gA Z ⟨b,ac,[2],zM (bv (bv ⟨.row (by rw[y];simp),rfl,bv ac⟩)) (hR Z (by rw[y];simp;try rfl) Z ac)⟩
 .have b:=co b;have A:mF r lit=((aG (an r lit).agg).take i).filter fun x=>!aH (outer r) x:=by
   rw[Zh b,mF,be (by simp[d,j];omega)]
  refine gA Z (cS (by first|exact .inr Z|exact .inl Z) Z Z (by rw[A]) (by rw[A]))
def ku(l:Lit)(b:List ak):ak×Bool:=
 if¬l.kind=3∨ ¬l.op=1 then(Zd,lc)
 else if l.left.kind=1∧lY b (aI l.left)=lc∧lY b (aI l.right)=kw then(l.left.var,kw)
 else if l.right.kind=1∧lY b (aI l.right)=lc∧lY b (aI l.left)=kw then(l.right.var,kw)
 else(Zd,lc)
theorem jU{a b:ak×Bool}(h:a=b):PV.bQ [pS a.1,pB a.2]= .bQ [pS b.1,pB b.2]:=by rw[h]
theorem YI(l:Lit)(b:List ak)(hb:l.size<=1000000000000):Pure prog 283 [ag l.c,.iv (strs b)] (.bQ [pS (ku l b).1,pB (ku l b).2]):=by
 have G:=l.size_eq;refine ae ab func283 Z (by decide) ntmps283 Z (by simp) Z ?_;refine zE Z Z (fun B=>?_) fun B=>?_
 .have B: ¬l.kind=3:=by simpa using B
  refine gA Z (zL (.of_eq ?_));exact jU (a:=(Zd,lc)) (by rw[ku,am (.inl B)])
 have B:l.kind=3:=by simpa using B
 refine zJ Z Z (fun D=>?_) fun D=>?_
 .have D: ¬l.op=1:=by simpa using D
  refine gA Z (zL (.of_eq ?_));exact jU (a:=(Zd,lc)) (by rw[ku,am (.inr D)])
 have D:l.op=1:=by simpa using D
 have y:ku l b=if l.left.kind=1∧lY b (aI l.left)=lc∧lY b (aI l.right)=kw then(l.left.var,kw)
   else if l.right.kind=1∧lY b (aI l.right)=lc∧lY b (aI l.left)=kw then(l.right.var,kw)
   else(Zd,lc):=by rw[ku,be (by simp[B,D])]
 refine gA Z (zp (EZ l.left (by omega)) ?_);refine gA Z (zp (EZ l.right (by omega)) ?_);refine gA Z (zp (W9 b (aI l.left)) ?_);refine gA Z (zp (W9 b (aI l.right)) ?_);refine zJ Z Z (fun A=>?_) fun A=>?_
 .have A:l.left.kind=1:=by simpa using A
  refine zJ Z Z (fun u=>?_) fun u=>?_
  .have u:lY b (aI l.left)=lc:=by simpa using u
   refine zJ Z Z (fun F=>?_) fun F=>?_
   .refine gA Z (zL (.of_eq ?_));exact jU (a:=(l.left.var,kw)) (by rw[y,am ⟨A,u,F⟩])
   .refine zJ Z Z (fun d=>?_) fun d=>?_
    .have d:l.right.kind=1:=by simpa using d
     refine zJ Z Z (fun j=>?_) fun j=>?_
     .refine zJ Z Z (fun x=>?_) fun x=>?_
      .rw[u]at x;cases x
      .refine gA Z (zL (.of_eq ?_));exact jU (a:=(Zd,lc)) (by rw[y,be (by simp[F]),be (by simp[u])])
     .rw[F]at j;cases j
    .have d: ¬l.right.kind=1:=by simpa using d
     refine gA Z (zL (.of_eq ?_));exact jU (a:=(Zd,lc)) (by rw[y,be (by simp[F]),be (by simp[u])])
  .have u:lY b (aI l.left)=kw:=by simpa using u
   refine zJ Z Z (fun d=>?_) fun d=>?_
   .have d:l.right.kind=1:=by simpa using d
    refine zJ Z Z (fun j=>?_) fun j=>?_
    .have j:lY b (aI l.right)=lc:=by simpa using j
     refine zJ Z Z (fun x=>?_) fun x=>?_
     .refine gA Z (zL (.of_eq ?_));exact jU (a:=(l.right.var,kw)) (by rw[y,be (by simp[u]),am ⟨d,j,u⟩])
     .rw[u]at x;cases x
    .have j:lY b (aI l.right)=kw:=by simpa using j
     refine gA Z (zL (.of_eq ?_));exact jU (a:=(Zd,lc)) (by rw[y,be (by simp[u]),be (by simp[j])])
   .have d: ¬l.right.kind=1:=by simpa using d
    refine gA Z (zL (.of_eq ?_));exact jU (a:=(Zd,lc)) (by rw[y,be (by simp[u]),be (by simp[d])])
 .have A: ¬l.left.kind=1:=by simpa using A
  refine zJ Z Z (fun d=>?_) fun d=>?_
  .have d:l.right.kind=1:=by simpa using d
   refine zJ Z Z (fun j=>?_) fun j=>?_
   .have j:lY b (aI l.right)=lc:=by simpa using j
    refine zJ Z Z (fun x=>?_) fun x=>?_
    .refine gA Z (zL (.of_eq ?_));exact jU (a:=(l.right.var,kw)) (by rw[y,be (by simp[A]),am ⟨d,j,x⟩])
    .refine gA Z (zL (.of_eq ?_));exact jU (a:=(Zd,lc)) (by rw[y,be (by simp[A]),be (by simp[x])])
   .have j:lY b (aI l.right)=kw:=by simpa using j
    refine gA Z (zL (.of_eq ?_));exact jU (a:=(Zd,lc)) (by rw[y,be (by simp[A]),be (by simp[j])])
  .have d: ¬l.right.kind=1:=by simpa using d
   refine gA Z (zL (.of_eq ?_));exact jU (a:=(Zd,lc)) (by rw[y,be (by simp[A]),be (by simp[d])])
def sB(a:eO)(b outer:List ak):Bool:=!aH b a.var&&(aG a).all fun x=>!(aH outer x&&(!aH b x&&!li (x=a.var)))
theorem YH(a:eO)(b outer:List ak)(hb:a.size<=1000000000000):Pure prog 284 [ag a.c,.iv (strs b),.iv (strs outer)] (pB (sB a b outer)):=by
 have D:=gv a;refine ae ab func284 Z (by decide) ntmps284 Z (by simp) Z ?_;refine gA Z (zp (JB b a.var) ?_);refine zJ Z Z (fun y=>?_) fun y=>?_
 .refine gA Z (zL (.of_eq ?_));rw[sB,y];try rfl
 refine gA Z (zp (Vl a hb) ?_);refine gA Z ?_;refine aw 0 (aG a).length (Zf _) (fun i=>⟨[(1,.iv (strs b)),(2,.iv (strs outer)),(3,.ptr 0 0),(8,.iv (strs (aG a))),(9,pI i)],[(0,io (aj a.c))],1⟩) (fun i=>((aG a).take i).all (fun x=>!(aH outer x&&(!aH b x&&!li (x=a.var))))=kw) [] Z
  (zW (zK trivial)) fun i F u=>?_
 refine zJ Z Z (fun d=>?_) fun d=>?_
 .have d:=ci d;refine gA Z (zp (JB outer ((aG a).getD i em)) ?_);refine gA Z (zp (JB b ((aG a).getD i em)) ?_);refine zJ Z Z (fun j=>?_) fun j=>?_
  .refine zJ Z Z (fun A=>?_) fun A=>?_
   .refine zJ Z Z (fun B=>?_) fun B=>?_
    .refine gA Z (zL (.of_eq ?_));rw[sB,E9 d (show(!(aH outer ((aG a).getD i em)&&(!aH b ((aG a).getD i em)&&!li ((aG a).getD i em=a.var))))=lc by rw[j,A,show(!li ((aG a).getD i em=a.var))=kw from B];rfl)];simp;try rfl
    .refine gA Z ?_;exact⟨d,(lg u d).2 (by rw[j];simp only[ZR];rw[show(!li ((aG a).getD i em=a.var))=lc from B];simp),[],zW (zK ac)⟩
   .refine gA Z ?_;exact⟨d,(lg u d).2 (by rw[A];simp),[],zW (zK ac)⟩
  .refine gA Z ?_;exact⟨d,(lg u d).2 (by rw[j];simp),[],zW (zK ac)⟩
 .have d:=co d;refine gA Z (zL (.of_eq ?_));rw[sB,y,Fa u d];try rfl
def dS(l:Lit)(b:List ak):ak×Bool:=
 if¬l.kind=3∨ ¬l.op=1 then(Zd,lc)
 else if l.left.kind=1∧aH b l.left.var=lc∧(l.right.kind=2∨l.right.kind=1∧aH b l.right.var=kw) then(l.left.var,kw)
 else if l.right.kind=1∧(if l.left.kind=1 then aH b l.left.var else li (l.left.kind=2))=kw then(l.right.var,!aH b l.right.var)
 else(Zd,lc)
theorem c78(l:Lit)(b:List ak):Pure prog 177 [ag l.c,.iv (strs b)] (.bQ [pS (dS l b).1,pB (dS l b).2]):=by
 refine ae ab func177 Z (by decide) ntmps177 Z (by simp) Z ?_
 repeat' (first|(refine gA Z (zI (fun _=>?_) (fun _=>?_)))|(refine gA Z (zp (JB b l.left.var) ?_))|(refine gA Z (zp (JB b l.right.var) ?_))|(refine gA Z (zL (.of_eq ?_))))
 all_goals first
  |exact jU (a:=(Zd,lc)) (by simp_all [dS])
  |exact jU (a:=(l.left.var,kw)) (by simp_all [dS])
  |exact jU (a:=(l.right.var,!aH b l.right.var)) (by simp_all [dS])
  |(exfalso;simp_all;done)
theorem ph{e:Expr}(h:e.kind=1):aI e=[e.var]:=by
 rw[wm,am h,re];rfl
theorem IA{l:Lit}{k:List ak}(h:(ku l k).2=kw):((ku l k).1=l.left.var∨(ku l k).1=l.right.var)∧(ku l k).1∉k:=by
 unfold ku at h ⊢;split at h
 .cases h
 .rename_i u;rw[be u];split at h
  .rename_i b;rw[am b];refine⟨.inl Z,fun j=>?_⟩;have:=b.2.1;rw[ph b.1]at this;simp[lY,aM.2 j]at this
  .rename_i b;rw[be b];split at h
   .rename_i d;rw[am d];refine⟨.inr Z,fun j=>?_⟩;have:=d.2.1;rw[ph d.1]at this;simp[lY,aM.2 j]at this
   .cases h
theorem JH{a:eO}{k o:List ak}(h:sB a k o=kw):a.var∉k:=by
 unfold sB at h;simp only[Zw,aae]at h;exact ef.1 h.1
def bK(body:List Lit):List ak:=body.flatMap fun l=> [l.left.var,l.right.var,l.a8]
def bN(c k:List ak):Nat:=(c.filter fun x=>!aH k x).length
theorem jS: ∀body:List Lit,(bK body).length=3*body.length
 | []=>rfl
 |l::r=>by have:=jS r;simp only[bK,ZX,Y8,ZI,aai]at this ⊢;omega
theorem o5(c k:List ak):bN c k<=c.length:=aak _ _
theorem oZ{v:ak}{k:List ak}: ∀{c:List ak},v∈c->v∉k->bN c (b6 k v)<bN c k:=by
 have mono: ∀c:List ak,bN c (b6 k v)<=bN c k:=by
  intro c
  induction c with
  |nil=>exact Zc _
  |cons x r d=>
   simp only[bN]at d ⊢;simp only[aaD];by_cases b:x∈k
   .have:aH (b6 k v) x=kw:=aM.2 (ct.2 (.inl b));rw[this,aM.2 b];exact d
   .simp only[ef.2 b,abC,if_true,ZI];split<;>(try simp only[ZI])<;>omega
 intro c u y
 induction c with
 |nil=>cases u
 |cons x r d=>
  have A:=mono r;simp only[bN]at d A ⊢;simp only[aaD];by_cases j:x=v
  .subst j;have:aH (b6 k x) x=kw:=aM.2 (ct.2 (.inr Z));simp[this,ef.2 y];omega
  .have B:v∈r:=by
    rcases Zq.1 u with h|h
    .exact absurd h.symm j
    .exact h
   have d:=d B;by_cases b:x∈k
   .have:aH (b6 k v) x=kw:=aM.2 (ct.2 (.inl b));simp[this,aM.2 b];exact d
   .have:aH (b6 k v) x=lc:=ef.2 fun h=>by rcases ct.1 h with h|h;exact b h;exact j h
    simp[this,ef.2 b];omega
def fG(own:Bool)(outer:List ak)(k:List ak)(l:Lit):ak×Bool:=if own=kw∧l.kind=4 then(l.a8,sB l.agg k outer) else ku l k
def stepG(own:Bool)(outer:List ak)(a:List ak×Bool)(l:Lit):List ak×Bool:=if(fG own outer a.1 l).2=kw then(b6 a.1 (fG own outer a.1 l).1,kw) else a
def nO(own:Bool)(outer:List ak)(body:List Lit)(k:List ak):List ak×Bool:=body.foldl (stepG own outer) (k,lc)
def AU(own:Bool)(outer:List ak)(body:List Lit):Nat->List ak->List ak
 |0,k=>k
 |n+1,k=>if(nO own outer body k).2=kw then AU own outer body n (nO own outer body k).1 else(nO own outer body k).1
theorem yu{own:Bool}{outer:List ak}{body:List Lit}{n:Nat}{k:List ak}:AU own outer body (n+1) k=if(nO own outer body k).2=kw then AU own outer body n (nO own outer body k).1 else(nO own outer body k).1:=rfl
def ic(k:List ak)(l:Lit):List ak:=if l.kind=1 then cy k (bn l.atom) else k
def tw(own:Bool)(outer:List ak)(body:List Lit)(k:List ak):List ak:=AU own outer body (3*body.length+1) (body.foldl ic k)
theorem It{own:Bool}{outer k:List ak}{l:Lit}(h:(fG own outer k l).2=kw):(fG own outer k l).1∈ [l.left.var,l.right.var,l.a8]∧(fG own outer k l).1∉k:=by
 unfold fG at h ⊢;split at h
 .rename_i b;rw[am b];exact⟨by simp,JH (a:=l.agg) h⟩
 .rename_i b;rw[be b];obtain⟨h2,d⟩:=IA h;refine⟨?_,d⟩;rcases h2 with h2|h2<;>simp[h2]
theorem rK{body:List Lit}{l:Lit}(h:l∈body){v:ak}(b:v∈ [l.left.var,l.right.var,l.a8]):v∈bK body:=aa0.2 ⟨l,h,b⟩
theorem Kl{own:Bool}{outer c:List ak}{a:List ak×Bool}{l:Lit}(hc: ∀v∈ [l.left.var,l.right.var,l.a8],v∈c):
  (stepG own outer a l).1.length+bN c (stepG own outer a l).1<=a.1.length+bN c a.1∧bN c (stepG own outer a l).1<=bN c a.1∧
  ((stepG own outer a l).2=kw->a.2=kw∨bN c (stepG own outer a l).1<bN c a.1):=by
 unfold stepG;split
 .rename_i h;obtain⟨b,d⟩:=It h;have j:=oZ (hc _ b) d;have u:=jD a.1 (fG own outer a.1 l).1;exact⟨by dsimp only;omega,by dsimp only;omega,fun _=> .inr j⟩
 .exact⟨Zc _,Zc _,fun h=> .inl h⟩
theorem ED{own:Bool}{outer c:List ak}: ∀{body:List Lit} {a:List ak×Bool},(∀l∈body,∀v∈ [l.left.var,l.right.var,l.a8],v∈c)->
  (body.foldl (stepG own outer) a).1.length+bN c (body.foldl (stepG own outer) a).1<=a.1.length+bN c a.1∧bN c (body.foldl (stepG own outer) a).1<=bN c a.1∧
  ((body.foldl (stepG own outer) a).2=kw->a.2=kw∨bN c (body.foldl (stepG own outer) a).1<bN c a.1)
 | [],a,_=>⟨Zc _,Zc _,fun h=> .inl h⟩
 |l::r,a,hc=>by
  obtain⟨j,u,b⟩:=Kl (own:=own) (outer:=outer) (a:=a) (hc l Zo);obtain⟨g1,g2,g3⟩:=ED (own:=own) (outer:=outer) (body:=r) (a:=stepG own outer a l) fun l d=>hc l (Zn _ d);simp only[ZD];refine⟨by omega,by omega,fun h=>?_⟩;rcases g3 h with g|g
  .rcases b g with h|h
   .exact .inl h
   .exact .inr (by omega)
  .exact .inr (by omega)
theorem KU(k:List ak)(l:Lit):(ic k l).length+2<=k.length+l.size:=by
 have b:=eP (bn l.atom) k;have d:=dw l.atom;have j:=l.size_eq;unfold ic;split<;>omega
theorem ja: ∀(l:List Lit) (a:List ak),(l.foldl ic a).length<=a.length+Lit.az l
 | [],a=>by simp[Lit.az]
 |e::r,a=>by
  have b:=ja r (ic a e);have d:=KU a e;simp only[ZD,Lit.az];omega
theorem c74(body:List Lit)(d outer:List ak)(own:Bool)(hb:d.length+4*Lit.az body<=1000000000000):Pure prog 269 [.iv (lits body),.iv (strs d),.iv (strs outer),pB own] (.iv (strs (tw own outer body d))):=by
 have b0:=Lit.au body;have j0:=ja body d;have d0:=jS body;have i0:=o5 (bK body) (body.foldl ic d);refine ae ab func269 Z (by decide) ntmps269 Z (by simp) Z ?_;refine gA Z ?_;refine aw 0 body.length (Zf _) (fun i=>⟨[(0,.iv (lits body)),(1,.iv (strs ((body.take i).foldl ic d))),(2,.iv (strs outer)),(3,pB own),(9,pI i)],[],0⟩) (fun _=>True) [] ac
  (lJ Z Z (bv (bv (bv (bv (bv trivial))))) Z) fun i hi _=>?_
 refine zJ Z Z (fun G=>?_) fun G=>?_
 .have G:=ci G;have j:=cK (g:=ic) (b:=d) G;have hv:=ja (body.take i) d;have hn:=Lit.b3 body i G;have c0:=dw (body.getD i em).atom;have m0:=(body.getD i em).size_eq;refine zJ Z Z (fun D=>?_) fun D=>?_
  .have D:(body.getD i em).kind=1:=by simpa using D
   rw[show ic ((body.take i).foldl ic d) (body.getD i em)=_ from am D]at j;refine gA Z (zp (S0 (body.getD i em).atom (by omega)) ?_);refine gA Z (bg (UU _ _ (by omega)) Z Z Z Z Z Z ?_);refine gA Z ⟨G,ac,[],lJ Z Z (bv ⟨.of_eq (by rw[j];rfl),rfl,bv (bv (bv ac))⟩) Z⟩
  .have D: ¬(body.getD i em).kind=1:=by simpa using D
   rw[show ic ((body.take i).foldl ic d) (body.getD i em)=_ from be D]at j;refine gA Z ⟨G,ac,[],lJ Z Z (bv ⟨.of_eq (by rw[j];rfl),rfl,bv (bv (bv ac))⟩) Z⟩
 have G:=co G;have e0:(body.take i).foldl ic d=body.foldl ic d:=mb G;rw[e0];refine gA Z ?_;refine oC (σ:={x:List ak×Bool×Nat//tw own outer body d=(if x.2.1=kw then AU own outer body (x.2.2+1) x.1 else x.1)∧(x.2.1=kw->bN (bK body) x.1<=x.2.2)∧x.1.length+bN (bK body) x.1<=(body.foldl ic d).length+bN (bK body) (body.foldl ic d)})
  (fun x=>⟨[(0,.iv (lits body)),(1,.iv (strs x.1.1)),(2,.iv (strs outer)),(3,pB own),(11,pB x.1.2.1)],[],0⟩) (fun x=>if x.1.2.1=kw then bN (bK body) x.1.1+1 else 0)
  ⟨(body.foldl ic d,kw,3*body.length),by simp[tw],fun _=>by dsimp only;omega,Zc _⟩ [] (lJ Z Z (bv (bv (bv (bv ⟨.rC Z,rfl,ac⟩)))) Z) ?_
 rintro⟨⟨k,more,f⟩,hx1,hx2,hx3⟩;dsimp only at hx1 hx2 hx3 ⊢;refine zJ Z Z (fun D=>?_) fun D=>?_
 .subst D;rw[am Z]at hx1;have g0:=hx2 Z;refine gA Z ?_;refine aw 0 body.length (Zf _) (fun i=>⟨[(0,.iv (lits body)),(1,.iv (strs ((body.take i).foldl (stepG own outer) (k,lc)).1)),(2,.iv (strs outer)),(3,pB own),(11,pB ((body.take i).foldl (stepG own outer) (k,lc)).2),(12,pI i)],[],0⟩) (fun _=>True) [] ac
   (lJ Z Z (bv (bv (bv (bv ⟨.rC Z,rfl,bv trivial⟩)))) Z) fun i hi _=>?_
  have B:=ED (own:=own) (outer:=outer) (c:=bK body) (body:=body.take i) (a:=(k,lc)) fun l hl v hv=>rK (abD hl) hv;dsimp only at B;refine zJ Z Z (fun A=>?_) fun A=>?_
  .have A:=ci A;have j:=cK (g:=stepG own outer) (b:=(k,lc)) A;generalize f0:(body.take i).foldl (stepG own outer) (k,lc)=ka at B j ⊢;have k0:=Lit.aF body i A;have a0:=(body.getD i em).fC;refine gA Z (zp (YI (body.getD i em) ka.1 (by omega)) ?_);refine zJ Z Z (fun S=>?_) fun S=>?_
   .subst S;refine zJ Z Z (fun J=>?_) fun J=>?_
    .have J:(body.getD i em).kind=4:=by simpa using J
     have y:fG kw outer ka.1 (body.getD i em)=((body.getD i em).a8,sB (body.getD i em).agg ka.1 outer):=am ⟨rfl,J⟩;refine gA Z (zp (YH (body.getD i em).agg ka.1 outer (by omega)) ?_);refine zJ Z Z (fun F=>?_) fun F=>?_
     .have u:stepG kw outer ka (body.getD i em)=(b6 ka.1 (body.getD i em).a8,kw):=by unfold stepG;rw[y,am F]
      rw[u]at j;refine gA Z (bg (Nn ka.1 _ (by omega)) Z Z Z Z Z Z ?_);refine gA Z ⟨A,ac,[],lJ Z Z (bv ⟨.of_eq (by rw[j];rfl),rfl,bv (bv ⟨.rC (by rw[j]),rfl,bv ac⟩)⟩) Z⟩
     .have u:stepG kw outer ka (body.getD i em)=ka:=by unfold stepG;rw[y,be (by rw[F];simp)]
      rw[u]at j;refine gA Z ⟨A,ac,[],lJ Z Z (bv ⟨.of_eq (by rw[j];rfl),rfl,bv (bv ⟨.of_eq (by rw[j];rfl),rfl,bv ac⟩)⟩) Z⟩
    .have J: ¬(body.getD i em).kind=4:=by simpa using J
     have y:fG kw outer ka.1 (body.getD i em)=ku (body.getD i em) ka.1:=be (fun h=>J h.2);refine zJ Z Z (fun F=>?_) fun F=>?_
     .have u:stepG kw outer ka (body.getD i em)=(b6 ka.1 (ku (body.getD i em) ka.1).1,kw):=by unfold stepG;rw[y,am F]
      rw[u]at j;refine gA Z (bg (Nn ka.1 _ (by omega)) Z Z Z Z Z Z ?_);refine gA Z ⟨A,ac,[],lJ Z Z (bv ⟨.of_eq (by rw[j];rfl),rfl,bv (bv ⟨.rC (by rw[j]),rfl,bv ac⟩)⟩) Z⟩
     .have u:stepG kw outer ka (body.getD i em)=ka:=by unfold stepG;rw[y,be (by rw[F];simp)]
      rw[u]at j;refine gA Z ⟨A,ac,[],lJ Z Z (bv ⟨.of_eq (by rw[j];rfl),rfl,bv (bv ⟨.of_eq (by rw[j];rfl),rfl,bv ac⟩)⟩) Z⟩
   .have S:own=lc:=S;subst S;have y:fG lc outer ka.1 (body.getD i em)=ku (body.getD i em) ka.1:=be (fun h=>by cases h.1);refine zJ Z Z (fun F=>?_) fun F=>?_
    .have u:stepG lc outer ka (body.getD i em)=(b6 ka.1 (ku (body.getD i em) ka.1).1,kw):=by unfold stepG;rw[y,am F]
     rw[u]at j;refine gA Z (bg (Nn ka.1 _ (by omega)) Z Z Z Z Z Z ?_);refine gA Z ⟨A,ac,[],lJ Z Z (bv ⟨.of_eq (by rw[j];rfl),rfl,bv (bv ⟨.rC (by rw[j]),rfl,bv ac⟩)⟩) Z⟩
    .have u:stepG lc outer ka (body.getD i em)=ka:=by unfold stepG;rw[y,be (by rw[F];simp)]
     rw[u]at j;refine gA Z ⟨A,ac,[],lJ Z Z (bv ⟨.of_eq (by rw[j];rfl),rfl,bv (bv ⟨.of_eq (by rw[j];rfl),rfl,bv ac⟩)⟩) Z⟩
  .have A:=co A;have e1:(body.take i).foldl (stepG own outer) (k,lc)=nO own outer body k:=mb A;rw[e1]at B ⊢;refine gA Z ?_;refine⟨⟨((nO own outer body k).1,(nO own outer body k).2,f-1),?_,fun I=>?_,by dsimp only;omega⟩,[],?_,lJ Z Z (bv (bv (bv (bv (bv ac))))) Z⟩
   .dsimp only;rw[hx1,yu];by_cases I:(nO own outer body k).2=kw
    .have:=B.2.2 I;have Y:f-1+1=f:=by simp at this;omega
     rw[am I,am I,Y]
    .rw[be I,be I]
   .have:=B.2.2 I;simp at this;dsimp only;omega
   .dsimp only;split
    .rename_i I;have:=B.2.2 I;simp at this;simp;omega
    .simp
 .subst D;rw[be (by simp)]at hx1;refine gA Z (zL (.of_eq ?_));rw[hx1];rfl
def gn(may:Expr->Bool)(occ:List ak)(l:Lit):ak×Bool:=
 if¬l.kind=3∨ ¬l.op=1 then(Zd,lc)
 else if l.left.kind=1∧aH occ l.left.var=lc∧may l.right=kw then(l.left.var,kw)
 else if l.right.kind=1∧aH occ l.right.var=lc∧may l.left=kw then(l.right.var,kw)
 else(Zd,lc)
theorem cI{occ:List ak}{s:ak}:aH occ s=!li (bU .str (aC occ) s 0=0):=by
 rw[bz];by_cases h:s∈occ
 .have:=oH.2 h;rw[aM.2 h];simp;omega
 .rw[ef.2 h,rJ.2 h];rfl
def c8(occ:List ak)(e:Expr):Bool:=li (e.kind=2)||(li (e.kind=1)&&aH occ e.var)
theorem fV{a b:Bool}(h:a=b):pB a=pB b:=by rw[h]
theorem d76(occ:List ak)(e:Expr)(hb:e.size<=1000000000000):bW prog 127 [ag e.c,.ptr 1 0] [cx (aC occ),.cells [.mp 0]] (pB (c8 occ e)) [(0,io (cx (aC occ))),(1,io (.cells [.mp 0]))] 2:=by
 have b:=bz occ e.var;have d:=cI (occ:=occ) (s:=e.var);refine aB ab func127 Z (by decide) ntmps127 Z (by simp) ?_
 repeat' (first
  |(refine gA Z (zI (fun _=>?_) (fun _=>?_)))
  |fail)
 all_goals first
  |(refine gA Z (fp [] (.inr Z) Z (zM ⟨.of_eq (fV (a:=kw) ?_),rfl,ac⟩ (zC (zO ac))));simp_all [c8];done)
  |(refine gA Z (fp [] (.inr Z) Z (zM ⟨.of_eq (fV (a:=lc) ?_),rfl,ac⟩ (zC (zO ac))));simp_all [c8];done)
  |(refine gA Z (fp [] (.inr Z) Z (zM ⟨.of_eq (fV (a:=li (bU .str (aC occ) e.var 0>0)) ?_),rfl,ac⟩ (zC (zO ac))));rw[c8,d,b];simp_all;by_cases j:rW occ e.var=0<;>simp[j]<;>omega)
theorem c77(a:eO):Pure prog 128 [ag a.c] (pB lc):=by
 refine ae ab func128 Z (by decide) ntmps128 Z (by simp) Z ?_;exact zU Z
theorem Yt(a:eO):Pure prog 229 [ag a.c] (pB lc):=by
 refine ae ab func229 Z (by decide) ntmps229 Z (by simp) Z ?_;exact zU Z
def jb(out occ:List ak)(a:eO):Bool:=(bd a).all fun x=>li (x=a.var)||(!aH out x||aH occ x)
theorem d126(r:ah)(occ:List ak)(a:eO)(hb:a.size<=1000000000000):bW prog 228 [ag a.c,.ptr 1 0,.ptr 2 0] [cx (aC occ),.cells [.iv (db r)],.cells [.mp 0]] (pB (jb (aA r) occ a)) [(0,io (cx (aC occ))),(1,io (.cells [.iv (db r)])),(2,io (.cells [.mp 0]))] 3:=by
 refine aB ab func228 Z (by decide) ntmps228 Z (by simp) ?_;refine gA Z (zq [] (d127 a hb) ?_);refine gA Z ?_;refine jy (aC (bd a)) (fun u=>⟨[(1,.ptr 1 0),(2,.ptr 2 0),(3,.ptr 3 0),(8,.ptr 5 0)],[(0,io (cx (aC occ))),(1,io (.cells [.iv (db r)])),(2,io (.cells [.mp 0])),(3,io (aj a.c)),(5,io (.cF .str A8 (aC (bd a)) u jp))],6⟩) (fun u=> ∀j∈u,∀x,(aC (bd a))[j]? =io x->(li (x.1=a.var)||(!aH (aA r) x.1||aH occ x.1))=kw) [] (by simp)
  (zW (zC ⟨⟨_,rfl,.of_eq Z⟩,Y5 Z,rfl,⟨_,rfl,.of_eq Z⟩,Y5 Z,rfl,zK (hI Z Z (.inl Z) Z trivial)⟩)) fun u G=>?_
 refine nV Z ac (fZ Z Z Z Z Z (by decide) (fun b=>?_) fun j x d A=>?_)
 .refine gA Z (zD [] Z (zM ⟨.of_eq (fV (a:=kw) (ZA.2 fun t I=>all_keys (p:=fun t=>(li (t=a.var)||(!aH (aA r) t||aH occ t))=kw) b G t I).symm),rfl,ac⟩ (zC ⟨⟨_,rfl,.of_eq Z⟩,Y5 Z,rfl,⟨_,rfl,.of_eq Z⟩,Y5 Z,rfl,ac⟩)))
 .have more:(li (x.1=a.var)||(!aH (aA r) x.1||aH occ x.1))=kw-> ∀i∈j::u,∀x,(aC (bd a))[i]? =io x->(li (x.1=a.var)||(!aH (aA r) x.1||aH occ x.1))=kw:=fun h i hi y B=>by
   rcases Zq.1 hi with rfl|hi
   .rw[d]at B;cases B;exact h
   .exact G i hi y B
  have D:=cI (occ:=aA r) (s:=x.1);have F:=cI (occ:=occ) (s:=x.1);have J:=bz (aA r) x.1;have S:=bz occ x.1;refine zJ Z Z (fun g1=>?_) fun g1=>?_
  .have g1:li (x.1=a.var)=lc:=by simpa using g1
   refine zJ Z Z (fun g2=>?_) fun g2=>?_
   .have g2:aH (aA r) x.1=kw:=by
     have:=zT g2;rw[D];simp;omega
    refine zJ Z Z (fun g3=>?_) fun g3=>?_
    .have g3:aH occ x.1=lc:=by rw[F,g3];rfl
     refine gA Z (zD [] Z (zM ⟨.of_eq (fV (a:=lc) (aaV.2 ⟨x.1,uv d,by rw[g1,g2,g3];simp⟩).symm),rfl,ac⟩ (zC ⟨⟨_,rfl,.of_eq Z⟩,Y5 Z,rfl,⟨_,rfl,.of_eq Z⟩,Y5 Z,rfl,ac⟩)))
    .have g3:aH occ x.1=kw:=by rw[F,g3];rfl
     refine gA Z ⟨j,x,d,A,more (by rw[g3];simp),[],zW (zC ⟨⟨_,rfl,.of_eq Z⟩,Y5 Z,rfl,⟨_,rfl,.of_eq Z⟩,Y5 Z,rfl,zK (hI Z Z (.inr Z) Z ac)⟩)⟩
   .have g2:aH (aA r) x.1=lc:=by
     have:=zF g2;rw[D];simp;omega
    refine gA Z ⟨j,x,d,A,more (by rw[g2];simp),[],zW (zC ⟨⟨_,rfl,.of_eq Z⟩,Y5 Z,rfl,⟨_,rfl,.of_eq Z⟩,Y5 Z,rfl,zK (hI Z Z (.inr Z) Z ac)⟩)⟩
  .have g1:li (x.1=a.var)=kw:=by simpa using g1
   refine gA Z ⟨j,x,d,A,more (by rw[g1];simp),[],zW (zC ⟨⟨_,rfl,.of_eq Z⟩,Y5 Z,rfl,⟨_,rfl,.of_eq Z⟩,Y5 Z,rfl,zK (hI Z Z (.inr Z) Z ac)⟩)⟩
def mD(may:Expr->Bool)(more:eO->Bool)(occ:List ak)(l:Lit):Option ak:=
 if(gn may occ l).2=kw then io (gn may occ l).1 else if l.kind=4∧aH occ l.a8=lc∧more l.agg=kw then io l.a8 else jp
def cO(may:Expr->Bool)(more:eO->Bool)(occ:List ak):List Lit->Option ak
 | []=>jp
 |l::r=>match mD may more occ l with
  |some v=>io v
  |none=>cO may more occ r
def dT(may:List ak->Expr->Bool)(more:List ak->eO->Bool)(body:List Lit):Nat->List ak->List ak
 |0,occ=>occ
 |n+1,occ=>match cO (may occ) (more occ) occ body with
  |some v=>dT may more body n (occ++ [v])
  |none=>occ
def bP(l:Lit):List ak:=if l.kind=1 then cL l.atom else[]
def cT(may:List ak->Expr->Bool)(more:List ak->eO->Bool)(body:List Lit)(occ:List ak):List ak:=dT may more body (3*body.length+1) (occ++body.flatMap bP)
theorem gh{may:List ak->Expr->Bool}{more:List ak->eO->Bool}{body:List Lit}{n:Nat}{occ:List ak}{v:ak}(h:cO (may occ) (more occ) occ body=io v):dT may more body (n+1) occ=dT may more body n (occ++ [v]):=by
 simp only[dT,h]
theorem gi{may:List ak->Expr->Bool}{more:List ak->eO->Bool}{body:List Lit}{n:Nat}{occ:List ak}(h:cO (may occ) (more occ) occ body=jp):dT may more body (n+1) occ=occ:=by
 simp only[dT,h]
theorem nW{may:Expr->Bool}{more:eO->Bool}{occ:List ak}: ∀{l m:List Lit},cO may more occ l=jp->cO may more occ (l++m)=cO may more occ m
 | [],_,_=>rfl
 |x::r,m,h=>by
  simp only[cO]at h;split at h
  .cases h
  .rename_i b;simp only[aaJ,cO,b];exact nW h
theorem eY{may:Expr->Bool}{more:eO->Bool}{occ:List ak}{l:List Lit}{i:Nat}(h:cO may more occ (l.take i)=jp)(hi:i<l.length)(b:mD may more occ (l.getD i em)=jp):cO may more occ (l.take (i+1))=jp:=by
 rw[ba hi,nW h];simp only[cO,b]
theorem tz{may:Expr->Bool}{more:eO->Bool}{occ:List ak}{l:List Lit}{i:Nat}{v:ak}(h:cO may more occ (l.take i)=jp)(hi:i<l.length)(b:mD may more occ (l.getD i em)=io v):cO may more occ l=io v:=by
 have e:l=l.take i++(l.getD i em::l.drop (i+1)):=by
  rw[Y6,Za hi,aaw,List.getElem_cons_drop,abm]
 rw[e,nW h];simp only[cO,b]
theorem yd{may:Expr->Bool}{more:eO->Bool}{occ:List ak}{l:Lit}{v:ak}(h:mD may more occ l=io v):v∈ [l.left.var,l.right.var,l.a8]∧v∉occ:=by
 unfold mD at h;split at h
 .rename_i b;simp only[Y9]at h;subst h;unfold gn at b ⊢;split at b
  .cases b
  .rename_i u;rw[be u];split at b
   .rename_i d;rw[am d];exact⟨by simp,ef.1 d.2.1⟩
   .rename_i d;rw[be d];split at b
    .rename_i j;rw[am j];exact⟨by simp,ef.1 j.2.1⟩
    .cases b
 .split at h
  .rename_i d;simp only[Y9]at h;subst h;exact⟨by simp,ef.1 d.2.1⟩
  .cases h
theorem mS{may:Expr->Bool}{more:eO->Bool}{occ:List ak}{v:ak}: ∀{l:List Lit},cO may more occ l=io v->v∈bK l∧v∉occ
 | [],h=>by cases h
 |x::r,h=>by
  simp only[cO]at h;split at h
  .rename_i w j;simp only[Y9]at h;subst h;obtain⟨b,d⟩:=yd j;exact⟨rK Zo b,d⟩
  .obtain⟨b,d⟩:=mS h;refine⟨?_,d⟩;simp only[bK,ZX,Zm]at b ⊢;exact .inr b
theorem ib: ∀l:List Lit,(l.flatMap bP).length<=Lit.az l
 | []=>by simp
 |e::r=>by
  have b:=ib r;have d:(bP e).length<=e.size:=by
   have:=iE e.atom;have:=e.size_eq;unfold bP;split
   .omega
   .simp
  rw[ZX,Y8];simp only[Lit.az];omega
theorem WT(occ:List ak)(l:Lit)(hb:l.size<=100000000000):bW prog 172 [ag l.c,.du (.func 227) [.mp 0] [],.mp 0] [cx (aC occ)] (.bQ [pS (gn (aU occ) occ l).1,pB (gn (aU occ) occ l).2]) [(0,io (cx (aC occ)))] 1:=by
 have y:=l.size_eq;have u:=bz occ l.left.var;have x:=bz occ l.right.var;refine aB ab func172 Z (by decide) ntmps172 Z (by simp) ?_;refine zE Z Z (fun b=>?_) fun b=>?_
 .have b: ¬l.kind=3:=by simpa using b
  refine gA Z (zD [] Z (zM ⟨.of_eq (jU (a:=(Zd,lc)) (by rw[gn,am (.inl b)])),rfl,ac⟩ (zC ac)))
 have b:l.kind=3:=by simpa using b
 refine zJ Z Z (fun d=>?_) fun d=>?_
 .have d: ¬l.op=1:=by simpa using d
  refine gA Z (zD [] Z (zM ⟨.of_eq (jU (a:=(Zd,lc)) (by rw[gn,am (.inr d)])),rfl,ac⟩ (zC ac)))
 have d:l.op=1:=by simpa using d
 have j:gn (aU occ) occ l=if l.left.kind=1∧aH occ l.left.var=lc∧(aU occ) l.right=kw then(l.left.var,kw) else if l.right.kind=1∧aH occ l.right.var=lc∧(aU occ) l.left=kw then(l.right.var,kw) else(Zd,lc):=by
  rw[gn,be (by simp[b,d])]
 repeat' (first
  |(refine gA Z (zI (fun _=>?_) (fun _=>?_)))
  |(refine gA Z (bM [0] (d125 occ l.left (by omega)) Z Z Z Z Z Z Z Z ?_))
  |(refine gA Z (bM [0] (d125 occ l.right (by omega)) Z Z Z Z Z Z Z Z ?_))
  |fail)
 all_goals first
  |(refine gA Z (fp [] (.inr Z) Z (zM ⟨.of_eq (jU (a:=(Zd,lc)) ?_),rfl,ac⟩ (zC ac)));rw[j];simp only[cI] at*;simp_all;done)
  |(refine gA Z (fp [] (.inr Z) Z (zM ⟨.of_eq (jU (a:=(l.left.var,kw)) ?_),rfl,ac⟩ (zC ac)));rw[j];simp only[cI] at*;simp_all;done)
  |(refine gA Z (fp [] (.inr Z) Z (zM ⟨.of_eq (jU (a:=(l.right.var,kw)) ?_),rfl,ac⟩ (zC ac)));rw[j];simp only[cI] at*;simp_all;done)
  |(exfalso;simp_all;done)
theorem XX(occ:List ak)(body:List Lit)(hb:occ.length+8*Lit.az body<=100000000000):bW prog 126 [.iv (lits body),.mp 0,.du (.func 227) [.mp 0] [],.du (.func 229) [] []] [cx (aC occ)] (.bQ []) [(0,io (cx (aC (cT (fun occ=>aU occ) (fun occ=>fun _=>lc) body occ))))] 1:=by
 have f0:=Lit.au body;have k0:=ib body;have g0:=jS body;have j0:=o5 (bK body) (occ++body.flatMap bP);refine aB ab func126 Z (by decide) ntmps126 Z (by simp) ?_;refine gA Z ?_;refine aw 0 body.length (Zf _) (fun i=>⟨[(0,.iv (lits body)),(1,.mp 0),(2,.du (.func 227) [.mp 0] []),(3,.du (.func 229) [] []),(14,.iv (lits body)),(15,pI body.length),(16,pI i)],[(0,io (cx (aC (occ++(body.take i).flatMap bP))))],1⟩) (fun _=>True) [] ac
  (zW (hM Z (by simp) Z trivial)) fun i hi _=>?_
 refine zJ Z Z (fun j=>?_) fun j=>?_
 .have j:=ci j;have G:=bE (f:=bP) j;have hn:=Lit.b3 body i j;have hv:=ib (body.take i);have n0:=(body.getD i em).size_eq;refine zJ Z Z (fun u=>?_) fun u=>?_
  .have u:(body.getD i em).kind=1:=by simpa using u
   rw[show bP (body.getD i em)=_ from am u]at G;refine gA Z (zq [0] (d88 (occ++(body.take i).flatMap bP) (body.getD i em).atom (by rw[Y8];omega)) ?_);refine gA Z ⟨j,ac,[],zW (hM Z (by rw[G,Zj]) Z ac)⟩
  .have u: ¬(body.getD i em).kind=1:=by simpa using u
   rw[show bP (body.getD i em)=_ from be u,ZL]at G;refine gA Z ⟨j,ac,[],zW (hM Z (by rw[G]) Z ac)⟩
 have j:=co j;have e0:body.take i=body:=Zh j;rw[e0];refine gA Z ?_;refine oC (σ:={x:List ak×Nat//cT (fun occ=>aU occ) (fun occ=>fun _=>lc) body occ=dT (fun occ=>aU occ) (fun occ=>fun _=>lc) body (x.2+1) x.1∧bN (bK body) x.1<=x.2∧x.1.length+bN (bK body) x.1<=(occ++body.flatMap bP).length+bN (bK body) (occ++body.flatMap bP)})
  (fun x=>⟨[(0,.iv (lits body)),(1,.mp 0),(2,.du (.func 227) [.mp 0] []),(3,.du (.func 229) [] [])],[(0,io (cx (aC x.1.1)))],1⟩) (fun x=>bN (bK body) x.1.1)
  ⟨(occ++body.flatMap bP,3*body.length),rfl,by dsimp only;omega,Zc _⟩ [] (zW (zC trivial)) ?_
 rintro⟨⟨ok,f⟩,hx1,hx2,hx3⟩;dsimp only at hx1 hx2 hx3 ⊢;rw[Y8]at hx3;refine gA Z ?_;refine aw 0 body.length (Zf _) (fun i=>⟨[(0,.iv (lits body)),(1,.mp 0),(2,.du (.func 227) [.mp 0] []),(3,.du (.func 229) [] []),(28,.iv (lits body)),(29,pI body.length),(30,pI i)],[(0,io (cx (aC ok)))],1⟩) (fun i=>cO ((fun occ=>aU occ) ok) ((fun occ=>fun _=>lc) ok) ok (body.take i)=jp) [] Z
  (zW (zC trivial)) fun i hi D=>?_
 refine zJ Z Z (fun b=>?_) fun b=>?_
 .have b:=ci b;have m0:=Lit.aF body i b;have d0:=(body.getD i em).fC;have d: ∀v,mD ((fun occ=>aU occ) ok) ((fun occ=>fun _=>lc) ok) ok (body.getD i em)=io v->cT (fun occ=>aU occ) (fun occ=>fun _=>lc) body occ=dT (fun occ=>aU occ) (fun occ=>fun _=>lc) body (f-1+1) (ok++ [v])∧bN (bK body) (ok++ [v])<=f-1∧
    (ok++ [v]).length+bN (bK body) (ok++ [v])<=(occ++body.flatMap bP).length+bN (bK body) (occ++body.flatMap bP)∧bN (bK body) (ok++ [v])<bN (bK body) ok:=by
   intro v hv;have hf:=tz D b hv;obtain⟨g1,g2⟩:=mS hf;have i0:=oZ g1 g2;have c0:bN (bK body) (ok++ [v])=bN (bK body) (b6 ok v):=by
    unfold bN;congr 2
    funext x
    congr 1;rw[ZW,aM,aM,ct,Zm,Zk]
   have J:f-1+1=f:=by omega
   refine⟨?_,by omega,?_,by omega⟩
   .rw[hx1,gh hf,J]
   .rw[Y8,Y8,ZH];omega
  have a0:=bz ok (gn (aU ok) ok (body.getD i em)).1;have S:=fa ok (gn (aU ok) ok (body.getD i em)).1;have b0:=bz ok (body.getD i em).a8;have Y:=fa ok (body.getD i em).a8;refine gA Z (zq [0] (WT ok (body.getD i em) (by omega)) ?_);refine zJ Z Z (fun B=>?_) fun B=>?_
  .obtain⟨g1,g2,g3,g4⟩:=d _ (am B);refine gA Z ⟨⟨(_,f-1),g1,g2,g3⟩,[],g4,zW (hM Z (by dsimp only;rw[cU];rfl) Z ac)⟩
  .refine zJ Z Z (fun y=>?_) fun y=>?_
   .have y:(body.getD i em).kind=4:=by simpa using y
    refine zJ Z Z (fun A=>?_) fun A=>?_
    .have A:aH ok (body.getD i em).a8=lc:=by rw[cI];simpa using A
     refine gA Z (zp (Yt (body.getD i em).agg) ?_);refine zJ Z Z (fun I=>?_) fun I=>?_
     .obtain⟨g1,g2,g3,g4⟩:=d _ ((be (by rw[B];simp)).trans (am ⟨y,A,I⟩));refine gA Z ⟨⟨(_,f-1),g1,g2,g3⟩,[],g4,zW (hM Z (by dsimp only;rw[cU];rfl) Z ac)⟩
     .refine gA Z ?_;exact⟨b,eY D b ((be (by rw[B];simp)).trans (be (fun h=>nomatch (h.2.2.symm.trans I)))),[],zW (zC ac)⟩
    .have A:aH ok (body.getD i em).a8=kw:=by rw[cI];simpa using A
     refine gA Z ⟨b,eY D b ((be (by rw[B];simp)).trans (be (by rw[A];simp))),[],zW (zC ac)⟩
   .have y: ¬(body.getD i em).kind=4:=by simpa using y
    refine gA Z ⟨b,eY D b ((be (by rw[B];simp)).trans (be (fun h=>y h.1))),[],zW (zC ac)⟩
 .have b:=co b;rw[Zh b]at D;have F:cT (fun occ=>aU occ) (fun occ=>fun _=>lc) body occ=ok:=by rw[hx1,gi D]
  refine gA Z (zD [] Z (zW (hM Z (by rw[F]) Z ac)))
theorem WR(occ:List ak)(l:Lit)(hb:l.size<=100000000000):bW prog 172 [ag l.c,.du (.func 127) [] [.ptr 1 0],.mp 0] [cx (aC occ),.cells [.mp 0]] (.bQ [pS (gn (c8 occ) occ l).1,pB (gn (c8 occ) occ l).2]) [(0,io (cx (aC occ))),(1,io (.cells [.mp 0]))] 2:=by
 have y:=l.size_eq;have u:=bz occ l.left.var;have x:=bz occ l.right.var;refine aB ab func172 Z (by decide) ntmps172 Z (by simp) ?_;refine zE Z Z (fun b=>?_) fun b=>?_
 .have b: ¬l.kind=3:=by simpa using b
  refine gA Z (zD [] Z (zM ⟨.of_eq (jU (a:=(Zd,lc)) (by rw[gn,am (.inl b)])),rfl,ac⟩ (zC (zO ac))))
 have b:l.kind=3:=by simpa using b
 refine zJ Z Z (fun d=>?_) fun d=>?_
 .have d: ¬l.op=1:=by simpa using d
  refine gA Z (zD [] Z (zM ⟨.of_eq (jU (a:=(Zd,lc)) (by rw[gn,am (.inr d)])),rfl,ac⟩ (zC (zO ac))))
 have d:l.op=1:=by simpa using d
 have j:gn (c8 occ) occ l=if l.left.kind=1∧aH occ l.left.var=lc∧(c8 occ) l.right=kw then(l.left.var,kw) else if l.right.kind=1∧aH occ l.right.var=lc∧(c8 occ) l.left=kw then(l.right.var,kw) else(Zd,lc):=by
  rw[gn,be (by simp[b,d])]
 repeat' (first
  |(refine gA Z (zI (fun _=>?_) (fun _=>?_)))
  |(refine gA Z (bM [0,1] (d76 occ l.left (by omega)) Z Z Z Z Z Z Z Z ?_))
  |(refine gA Z (bM [0,1] (d76 occ l.right (by omega)) Z Z Z Z Z Z Z Z ?_))
  |fail)
 all_goals first
  |(refine gA Z (fp [] (.inr Z) Z (zM ⟨.of_eq (jU (a:=(Zd,lc)) ?_),rfl,ac⟩ (zC (zO ac))));rw[j];simp only[cI] at*;simp_all;done)
  |(refine gA Z (fp [] (.inr Z) Z (zM ⟨.of_eq (jU (a:=(l.left.var,kw)) ?_),rfl,ac⟩ (zC (zO ac))));rw[j];simp only[cI] at*;simp_all;done)
  |(refine gA Z (fp [] (.inr Z) Z (zM ⟨.of_eq (jU (a:=(l.right.var,kw)) ?_),rfl,ac⟩ (zC (zO ac))));rw[j];simp only[cI] at*;simp_all;done)
  |(exfalso;simp_all;done)
theorem XW(occ:List ak)(body:List Lit)(hb:occ.length+8*Lit.az body<=100000000000):bW prog 126 [.iv (lits body),.mp 0,.du (.func 127) [] [.ptr 1 0],.du (.func 128) [] []] [cx (aC occ),.cells [.mp 0]] (.bQ []) [(0,io (cx (aC (cT (fun occ=>c8 occ) (fun occ=>fun _=>lc) body occ)))),(1,io (.cells [.mp 0]))] 2:=by
 have f0:=Lit.au body;have k0:=ib body;have g0:=jS body;have j0:=o5 (bK body) (occ++body.flatMap bP);refine aB ab func126 Z (by decide) ntmps126 Z (by simp) ?_;refine gA Z ?_;refine aw 0 body.length (Zf _) (fun i=>⟨[(0,.iv (lits body)),(1,.mp 0),(2,.du (.func 127) [] [.ptr 1 0]),(3,.du (.func 128) [] []),(14,.iv (lits body)),(15,pI body.length),(16,pI i)],[(0,io (cx (aC (occ++(body.take i).flatMap bP)))),(1,io (.cells [.mp 0]))],2⟩) (fun _=>True) [] ac
  (zW (hM Z (by simp) Z (zO trivial))) fun i hi _=>?_
 refine zJ Z Z (fun j=>?_) fun j=>?_
 .have j:=ci j;have G:=bE (f:=bP) j;have hn:=Lit.b3 body i j;have hv:=ib (body.take i);have n0:=(body.getD i em).size_eq;refine zJ Z Z (fun u=>?_) fun u=>?_
  .have u:(body.getD i em).kind=1:=by simpa using u
   rw[show bP (body.getD i em)=_ from am u]at G;refine gA Z (zq [0] (d88 (occ++(body.take i).flatMap bP) (body.getD i em).atom (by rw[Y8];omega)) ?_);refine gA Z ⟨j,ac,[],zW (hM Z (by rw[G,Zj]) Z (zO ac))⟩
  .have u: ¬(body.getD i em).kind=1:=by simpa using u
   rw[show bP (body.getD i em)=_ from be u,ZL]at G;refine gA Z ⟨j,ac,[],zW (hM Z (by rw[G]) Z (zO ac))⟩
 have j:=co j;have e0:body.take i=body:=Zh j;rw[e0];refine gA Z ?_;refine oC (σ:={x:List ak×Nat//cT (fun occ=>c8 occ) (fun occ=>fun _=>lc) body occ=dT (fun occ=>c8 occ) (fun occ=>fun _=>lc) body (x.2+1) x.1∧bN (bK body) x.1<=x.2∧x.1.length+bN (bK body) x.1<=(occ++body.flatMap bP).length+bN (bK body) (occ++body.flatMap bP)})
  (fun x=>⟨[(0,.iv (lits body)),(1,.mp 0),(2,.du (.func 127) [] [.ptr 1 0]),(3,.du (.func 128) [] [])],[(0,io (cx (aC x.1.1))),(1,io (.cells [.mp 0]))],2⟩) (fun x=>bN (bK body) x.1.1)
  ⟨(occ++body.flatMap bP,3*body.length),rfl,by dsimp only;omega,Zc _⟩ [] (zW (zC (zO trivial))) ?_
 rintro⟨⟨ok,f⟩,hx1,hx2,hx3⟩;dsimp only at hx1 hx2 hx3 ⊢;rw[Y8]at hx3;refine gA Z ?_;refine aw 0 body.length (Zf _) (fun i=>⟨[(0,.iv (lits body)),(1,.mp 0),(2,.du (.func 127) [] [.ptr 1 0]),(3,.du (.func 128) [] []),(28,.iv (lits body)),(29,pI body.length),(30,pI i)],[(0,io (cx (aC ok))),(1,io (.cells [.mp 0]))],2⟩) (fun i=>cO ((fun occ=>c8 occ) ok) ((fun occ=>fun _=>lc) ok) ok (body.take i)=jp) [] Z
  (zW (zC (zO trivial))) fun i hi D=>?_
 refine zJ Z Z (fun b=>?_) fun b=>?_
 .have b:=ci b;have m0:=Lit.aF body i b;have d0:=(body.getD i em).fC;have d: ∀v,mD ((fun occ=>c8 occ) ok) ((fun occ=>fun _=>lc) ok) ok (body.getD i em)=io v->cT (fun occ=>c8 occ) (fun occ=>fun _=>lc) body occ=dT (fun occ=>c8 occ) (fun occ=>fun _=>lc) body (f-1+1) (ok++ [v])∧bN (bK body) (ok++ [v])<=f-1∧
    (ok++ [v]).length+bN (bK body) (ok++ [v])<=(occ++body.flatMap bP).length+bN (bK body) (occ++body.flatMap bP)∧bN (bK body) (ok++ [v])<bN (bK body) ok:=by
   intro v hv;have hf:=tz D b hv;obtain⟨g1,g2⟩:=mS hf;have i0:=oZ g1 g2;have c0:bN (bK body) (ok++ [v])=bN (bK body) (b6 ok v):=by
    unfold bN;congr 2
    funext x
    congr 1;rw[ZW,aM,aM,ct,Zm,Zk]
   have J:f-1+1=f:=by omega
   refine⟨?_,by omega,?_,by omega⟩
   .rw[hx1,gh hf,J]
   .rw[Y8,Y8,ZH];omega
  have a0:=bz ok (gn (c8 ok) ok (body.getD i em)).1;have S:=fa ok (gn (c8 ok) ok (body.getD i em)).1;have b0:=bz ok (body.getD i em).a8;have Y:=fa ok (body.getD i em).a8;refine gA Z (zq [0,1] (WR ok (body.getD i em) (by omega)) ?_);refine zJ Z Z (fun B=>?_) fun B=>?_
  .obtain⟨g1,g2,g3,g4⟩:=d _ (am B);refine gA Z ⟨⟨(_,f-1),g1,g2,g3⟩,[],g4,zW (hM Z (by dsimp only;rw[cU];rfl) Z (zO ac))⟩
  .refine zJ Z Z (fun y=>?_) fun y=>?_
   .have y:(body.getD i em).kind=4:=by simpa using y
    refine zJ Z Z (fun A=>?_) fun A=>?_
    .have A:aH ok (body.getD i em).a8=lc:=by rw[cI];simpa using A
     refine gA Z (zp (c77 (body.getD i em).agg) ?_);refine zJ Z Z (fun I=>?_) fun I=>?_
     .obtain⟨g1,g2,g3,g4⟩:=d _ ((be (by rw[B];simp)).trans (am ⟨y,A,I⟩));refine gA Z ⟨⟨(_,f-1),g1,g2,g3⟩,[],g4,zW (hM Z (by dsimp only;rw[cU];rfl) Z (zO ac))⟩
     .refine gA Z ?_;exact⟨b,eY D b ((be (by rw[B];simp)).trans (be (fun h=>nomatch (h.2.2.symm.trans I)))),[],zW (zC (zO ac))⟩
    .have A:aH ok (body.getD i em).a8=kw:=by rw[cI];simpa using A
     refine gA Z ⟨b,eY D b ((be (by rw[B];simp)).trans (be (by rw[A];simp))),[],zW (zC (zO ac))⟩
   .have y: ¬(body.getD i em).kind=4:=by simpa using y
    refine gA Z ⟨b,eY D b ((be (by rw[B];simp)).trans (be (fun h=>y h.1))),[],zW (zC (zO ac))⟩
 .have b:=co b;rw[Zh b]at D;have F:cT (fun occ=>c8 occ) (fun occ=>fun _=>lc) body occ=ok:=by rw[hx1,gi D]
  refine gA Z (zD [] Z (zW (hM Z (by rw[F]) Z (zO ac))))
theorem WQ(r:ah)(occ:List ak)(l:Lit)(hb:l.size<=100000000000):bW prog 172 [ag l.c,.du (.func 227) [.mp 0] [],.mp 0] [cx (aC occ),.cells [.iv (db r)],.cells [.mp 0]] (.bQ [pS (gn (aU occ) occ l).1,pB (gn (aU occ) occ l).2]) [(0,io (cx (aC occ))),(1,io (.cells [.iv (db r)])),(2,io (.cells [.mp 0]))] 3:=by
 have y:=l.size_eq;have u:=bz occ l.left.var;have x:=bz occ l.right.var;refine aB ab func172 Z (by decide) ntmps172 Z (by simp) ?_;refine zE Z Z (fun b=>?_) fun b=>?_
 .have b: ¬l.kind=3:=by simpa using b
  refine gA Z (zD [] Z (zM ⟨.of_eq (jU (a:=(Zd,lc)) (by rw[gn,am (.inl b)])),rfl,ac⟩ (zC ⟨⟨_,rfl,.of_eq Z⟩,Y5 Z,rfl,⟨_,rfl,.of_eq Z⟩,Y5 Z,rfl,ac⟩)))
 have b:l.kind=3:=by simpa using b
 refine zJ Z Z (fun d=>?_) fun d=>?_
 .have d: ¬l.op=1:=by simpa using d
  refine gA Z (zD [] Z (zM ⟨.of_eq (jU (a:=(Zd,lc)) (by rw[gn,am (.inr d)])),rfl,ac⟩ (zC ⟨⟨_,rfl,.of_eq Z⟩,Y5 Z,rfl,⟨_,rfl,.of_eq Z⟩,Y5 Z,rfl,ac⟩)))
 have d:l.op=1:=by simpa using d
 have j:gn (aU occ) occ l=if l.left.kind=1∧aH occ l.left.var=lc∧(aU occ) l.right=kw then(l.left.var,kw) else if l.right.kind=1∧aH occ l.right.var=lc∧(aU occ) l.left=kw then(l.right.var,kw) else(Zd,lc):=by
  rw[gn,be (by simp[b,d])]
 repeat' (first
  |(refine gA Z (zI (fun _=>?_) (fun _=>?_)))
  |(refine gA Z (bM [0] (d125 occ l.left (by omega)) Z Z Z Z Z Z Z Z ?_))
  |(refine gA Z (bM [0] (d125 occ l.right (by omega)) Z Z Z Z Z Z Z Z ?_))
  |fail)
 all_goals first
  |(refine gA Z (fp [] (.inr Z) Z (zM ⟨.of_eq (jU (a:=(Zd,lc)) ?_),rfl,ac⟩ (zC ⟨⟨_,rfl,.of_eq Z⟩,Y5 Z,rfl,⟨_,rfl,.of_eq Z⟩,Y5 Z,rfl,ac⟩)));rw[j];simp only[cI] at*;simp_all;done)
  |(refine gA Z (fp [] (.inr Z) Z (zM ⟨.of_eq (jU (a:=(l.left.var,kw)) ?_),rfl,ac⟩ (zC ⟨⟨_,rfl,.of_eq Z⟩,Y5 Z,rfl,⟨_,rfl,.of_eq Z⟩,Y5 Z,rfl,ac⟩)));rw[j];simp only[cI] at*;simp_all;done)
  |(refine gA Z (fp [] (.inr Z) Z (zM ⟨.of_eq (jU (a:=(l.right.var,kw)) ?_),rfl,ac⟩ (zC ⟨⟨_,rfl,.of_eq Z⟩,Y5 Z,rfl,⟨_,rfl,.of_eq Z⟩,Y5 Z,rfl,ac⟩)));rw[j];simp only[cI] at*;simp_all;done)
  |(exfalso;simp_all;done)
theorem XV(r:ah)(occ:List ak)(body:List Lit)(hb:occ.length+8*Lit.az body<=100000000000):bW prog 126 [.iv (lits body),.mp 0,.du (.func 227) [.mp 0] [],.du (.func 228) [] [.ptr 1 0,.ptr 2 0]] [cx (aC occ),.cells [.iv (db r)],.cells [.mp 0]] (.bQ []) [(0,io (cx (aC (cT (fun occ=>aU occ) (fun occ=>jb (aA r) occ) body occ)))),(1,io (.cells [.iv (db r)])),(2,io (.cells [.mp 0]))] 3:=by
 have f0:=Lit.au body;have k0:=ib body;have g0:=jS body;have j0:=o5 (bK body) (occ++body.flatMap bP);refine aB ab func126 Z (by decide) ntmps126 Z (by simp) ?_;refine gA Z ?_;refine aw 0 body.length (Zf _) (fun i=>⟨[(0,.iv (lits body)),(1,.mp 0),(2,.du (.func 227) [.mp 0] []),(3,.du (.func 228) [] [.ptr 1 0,.ptr 2 0]),(14,.iv (lits body)),(15,pI body.length),(16,pI i)],[(0,io (cx (aC (occ++(body.take i).flatMap bP)))),(1,io (.cells [.iv (db r)])),(2,io (.cells [.mp 0]))],3⟩) (fun _=>True) [] ac
  (zW (hM Z (by simp) Z ⟨⟨_,rfl,.of_eq Z⟩,Y5 Z,rfl,⟨_,rfl,.of_eq Z⟩,Y5 Z,rfl,ac⟩)) fun i hi _=>?_
 refine zJ Z Z (fun j=>?_) fun j=>?_
 .have j:=ci j;have G:=bE (f:=bP) j;have hn:=Lit.b3 body i j;have hv:=ib (body.take i);have n0:=(body.getD i em).size_eq;refine zJ Z Z (fun u=>?_) fun u=>?_
  .have u:(body.getD i em).kind=1:=by simpa using u
   rw[show bP (body.getD i em)=_ from am u]at G;refine gA Z (zq [0] (d88 (occ++(body.take i).flatMap bP) (body.getD i em).atom (by rw[Y8];omega)) ?_);refine gA Z ⟨j,ac,[],zW (hM Z (by rw[G,Zj]) Z ⟨⟨_,rfl,.of_eq Z⟩,Y5 Z,rfl,⟨_,rfl,.of_eq Z⟩,Y5 Z,rfl,ac⟩)⟩
  .have u: ¬(body.getD i em).kind=1:=by simpa using u
   rw[show bP (body.getD i em)=_ from be u,ZL]at G;refine gA Z ⟨j,ac,[],zW (hM Z (by rw[G]) Z ⟨⟨_,rfl,.of_eq Z⟩,Y5 Z,rfl,⟨_,rfl,.of_eq Z⟩,Y5 Z,rfl,ac⟩)⟩
 have j:=co j;have e0:body.take i=body:=Zh j;rw[e0];refine gA Z ?_;refine oC (σ:={x:List ak×Nat//cT (fun occ=>aU occ) (fun occ=>jb (aA r) occ) body occ=dT (fun occ=>aU occ) (fun occ=>jb (aA r) occ) body (x.2+1) x.1∧bN (bK body) x.1<=x.2∧x.1.length+bN (bK body) x.1<=(occ++body.flatMap bP).length+bN (bK body) (occ++body.flatMap bP)})
  (fun x=>⟨[(0,.iv (lits body)),(1,.mp 0),(2,.du (.func 227) [.mp 0] []),(3,.du (.func 228) [] [.ptr 1 0,.ptr 2 0])],[(0,io (cx (aC x.1.1))),(1,io (.cells [.iv (db r)])),(2,io (.cells [.mp 0]))],3⟩) (fun x=>bN (bK body) x.1.1)
  ⟨(occ++body.flatMap bP,3*body.length),rfl,by dsimp only;omega,Zc _⟩ [] (zW (zC ⟨⟨_,rfl,.of_eq Z⟩,Y5 Z,rfl,⟨_,rfl,.of_eq Z⟩,Y5 Z,rfl,ac⟩)) ?_
 rintro⟨⟨ok,f⟩,hx1,hx2,hx3⟩;dsimp only at hx1 hx2 hx3 ⊢;rw[Y8]at hx3;refine gA Z ?_;refine aw 0 body.length (Zf _) (fun i=>⟨[(0,.iv (lits body)),(1,.mp 0),(2,.du (.func 227) [.mp 0] []),(3,.du (.func 228) [] [.ptr 1 0,.ptr 2 0]),(28,.iv (lits body)),(29,pI body.length),(30,pI i)],[(0,io (cx (aC ok))),(1,io (.cells [.iv (db r)])),(2,io (.cells [.mp 0]))],3⟩) (fun i=>cO ((fun occ=>aU occ) ok) ((fun occ=>jb (aA r) occ) ok) ok (body.take i)=jp) [] Z
  (zW (zC ⟨⟨_,rfl,.of_eq Z⟩,Y5 Z,rfl,⟨_,rfl,.of_eq Z⟩,Y5 Z,rfl,ac⟩)) fun i hi D=>?_
 refine zJ Z Z (fun b=>?_) fun b=>?_
 .have b:=ci b;have m0:=Lit.aF body i b;have d0:=(body.getD i em).fC;have d: ∀v,mD ((fun occ=>aU occ) ok) ((fun occ=>jb (aA r) occ) ok) ok (body.getD i em)=io v->cT (fun occ=>aU occ) (fun occ=>jb (aA r) occ) body occ=dT (fun occ=>aU occ) (fun occ=>jb (aA r) occ) body (f-1+1) (ok++ [v])∧bN (bK body) (ok++ [v])<=f-1∧
    (ok++ [v]).length+bN (bK body) (ok++ [v])<=(occ++body.flatMap bP).length+bN (bK body) (occ++body.flatMap bP)∧bN (bK body) (ok++ [v])<bN (bK body) ok:=by
   intro v hv;have hf:=tz D b hv;obtain⟨g1,g2⟩:=mS hf;have i0:=oZ g1 g2;have c0:bN (bK body) (ok++ [v])=bN (bK body) (b6 ok v):=by
    unfold bN;congr 2
    funext x
    congr 1;rw[ZW,aM,aM,ct,Zm,Zk]
   have J:f-1+1=f:=by omega
   refine⟨?_,by omega,?_,by omega⟩
   .rw[hx1,gh hf,J]
   .rw[Y8,Y8,ZH];omega
  have a0:=bz ok (gn (aU ok) ok (body.getD i em)).1;have S:=fa ok (gn (aU ok) ok (body.getD i em)).1;have b0:=bz ok (body.getD i em).a8;have Y:=fa ok (body.getD i em).a8;refine gA Z (zq [0,1,2] (WQ r ok (body.getD i em) (by omega)) ?_);refine zJ Z Z (fun B=>?_) fun B=>?_
  .obtain⟨g1,g2,g3,g4⟩:=d _ (am B);refine gA Z ⟨⟨(_,f-1),g1,g2,g3⟩,[],g4,zW (hM Z (by dsimp only;rw[cU];rfl) Z ⟨⟨_,rfl,.of_eq Z⟩,Y5 Z,rfl,⟨_,rfl,.of_eq Z⟩,Y5 Z,rfl,ac⟩)⟩
  .refine zJ Z Z (fun y=>?_) fun y=>?_
   .have y:(body.getD i em).kind=4:=by simpa using y
    refine zJ Z Z (fun A=>?_) fun A=>?_
    .have A:aH ok (body.getD i em).a8=lc:=by rw[cI];simpa using A
     refine gA Z (zq [0,1,2] (d126 r ok (body.getD i em).agg (by omega)) ?_);refine zJ Z Z (fun I=>?_) fun I=>?_
     .obtain⟨g1,g2,g3,g4⟩:=d _ ((be (by rw[B];simp)).trans (am ⟨y,A,I⟩));refine gA Z ⟨⟨(_,f-1),g1,g2,g3⟩,[],g4,zW (hM Z (by dsimp only;rw[cU];rfl) Z ⟨⟨_,rfl,.of_eq Z⟩,Y5 Z,rfl,⟨_,rfl,.of_eq Z⟩,Y5 Z,rfl,ac⟩)⟩
     .refine gA Z ?_;exact⟨b,eY D b ((be (by rw[B];simp)).trans (be (fun h=>nomatch (h.2.2.symm.trans I)))),[],zW (zC ⟨⟨_,rfl,.of_eq Z⟩,Y5 Z,rfl,⟨_,rfl,.of_eq Z⟩,Y5 Z,rfl,ac⟩)⟩
    .have A:aH ok (body.getD i em).a8=kw:=by rw[cI];simpa using A
     refine gA Z ⟨b,eY D b ((be (by rw[B];simp)).trans (be (by rw[A];simp))),[],zW (zC ⟨⟨_,rfl,.of_eq Z⟩,Y5 Z,rfl,⟨_,rfl,.of_eq Z⟩,Y5 Z,rfl,ac⟩)⟩
   .have y: ¬(body.getD i em).kind=4:=by simpa using y
    refine gA Z ⟨b,eY D b ((be (by rw[B];simp)).trans (be (fun h=>y h.1))),[],zW (zC ⟨⟨_,rfl,.of_eq Z⟩,Y5 Z,rfl,⟨_,rfl,.of_eq Z⟩,Y5 Z,rfl,ac⟩)⟩
 .have b:=co b;rw[Zh b]at D;have F:cT (fun occ=>aU occ) (fun occ=>jb (aA r) occ) body occ=ok:=by rw[hx1,gi D]
  refine gA Z (zD [] Z (zW (hM Z (by rw[F]) Z ⟨⟨_,rfl,.of_eq Z⟩,Y5 Z,rfl,⟨_,rfl,.of_eq Z⟩,Y5 Z,rfl,ac⟩)))
theorem xb:fb .gP (cx (aC [])):=⟨id,fun M N U w j b=>⟨#[],0,b,⟨rfl,by simp[aC],by simp[aC],by simp,by simp⟩,iu M⟩⟩
def ch(r:ah):List ak:=cT (fun b=>aU b) (fun b=>jb (aA r) b) r.body []
theorem WM(r:ah)(hb:8*Lit.az r.body<=100000000000):bW prog 126 [.iv (lits r.body),.mp 0,.du (.func 227) [.mp 0] [],.du (.func 228) [] [.ptr 1 0,.ptr 2 0]] [.gP,.cells [.iv (db r)],.cells [.mp 0]] (.bQ []) [(0,io (cx (aC (ch r)))),(1,io (.cells [.iv (db r)])),(2,io (.cells [.mp 0]))] 3:=
 bW.SI (XV r [] r.body (by simp;omega)) ⟨xb,.refl _,.refl _,ac⟩
theorem d73(r:ah)(hb:8*r.size<=100000000000):bW prog 202 [.iv (db r)] [] (.mp 0) [(0,io (cx (aC (ch r))))] 1:=by
 unfold ah.size at hb;refine aB ab func202 Z (by decide) ntmps202 Z (by simp) ?_;refine gA Z (zd [1,0,2] (WM r (by omega)) ?_);refine gA Z (zD [1] Z (zW (zC ac)))
def Vd(p:List ak->Prop)(q:PV)(h:AH)(n:Nat):Prop:= ∃ok,p ok∧q= .mp 0∧h=[(0,io (cx (aC ok)))]∧n=1
def LG(r:ah)(a:eO)(occ:List ak):Prop:=occ.Nodup∧ ∀x,x∈occ↔x∈bd a∧x∈aA r
theorem Ay{l m:List ak}(h:l.Nodup)(hs: ∀x∈l,x∈m):l.length<=m.length:=aaP h hs
theorem mZ(a:eO):(bd a).length<=a.size:=by
 have b:=nB a.body;have d:=jR a.dZ;unfold bd eO.size;rw[Y8];split
 .rw[aai];omega
 .omega
theorem SY(a:eO)(hb:a.size<=100000000000):bW prog 196 [ag a.c1] [] (.mp 0) [(0,io (cx (aC (bd a))))] 1:=bW.le (d127 a (by omega)) ⟨a.Jb,ac⟩
theorem d161(r:ah)(a:eO)(hb:16*a.size<=100000000000):Al.Fn prog 203 [.iv (db r),ag a.c] [] (Vd fun ok=> ∃occ,LG r a occ∧ok=cT (fun occ=>aU occ) (fun _=>fun _=>lc) a.body occ):=by
 have e0:=mZ a;have f0:Lit.az a.body<=a.size:=by unfold eO.size;omega
 refine Al.Fn.le (args:=[.iv (db r),ag a.c1]) ?_ ⟨.refl _,a.xd,ac⟩;refine yD ab func203 Z (by decide) ntmps203 Z (by simp) ?_;refine gA Z (zq [] (SY a (by omega)) ?_);refine gA Z ?_
 let b:List Nat->List ak:=fun d=>(d.reverse.filterMap fun j=>((aC (bd a))[j]?).bind fun x=>if aH (aA r) x.1 then io x.1 else jp)
 refine jy (aC (bd a)) (fun d=>⟨[(0,.iv (db r)),(3,.ptr 0 0),(5,.mp 1),(10,.ptr 3 0)],[(0,io (aj a.c1)),(1,io (cx (aC (b d)))),(3,io (.cF .str A8 (aC (bd a)) d jp))],4⟩)
  (fun d=>(b d).Nodup∧ ∀x,x∈b d↔x∈aA r∧ ∃j∈d,∃y,(aC (bd a))[j]? =io y∧y.1=x) [] ⟨aab,by simp[b]⟩
  (zW (zK (Jf Z iu Z (hI Z Z (.inl Z) Z trivial)))) fun d hJ=>?_
 obtain⟨B,D⟩:=hJ;have g0:(b d).length<=(bd a).length:=Ay B fun x F=>by
  obtain⟨_,j,_,y,h2,rfl⟩:=(D x).1 F;exact uv h2
 refine nV Z ac (fZ Z Z Z Z Z (by decide) (fun Y=>?_) fun j x F S=>?_)
 .have b0:LG r a (b d):=⟨B,fun x=>by
   rw[D];constructor
   .rintro⟨h1,j,h2,y,A,rfl⟩;exact⟨uv A,h1⟩
   .rintro⟨h1,h2⟩;refine⟨h2,?_⟩;obtain⟨y,hy,rfl⟩:=ZK.1 (((cm (bd a)).2 x).2 h1);obtain⟨j,S⟩:=Z7 hy
    exact⟨j,Y j (Zb.1 S).1,y,S,rfl⟩⟩
  refine gA Z (zq [1] (XX (b d) a.body (by omega)) ?_);refine nV Z ac (HL [1] (.inr Z) Z ⟨_,⟨b d,b0,rfl⟩,rfl,rfl,rfl⟩ (zW (zC ac)))
 .have h5:=cI (occ:=aA r) (s:=x.1);have h7:=bz (aA r) x.1;have h8:=bz (b d) x.1;have h9:=fa (b d) x.1;have G:x.1∉b d:=fun h=>by
   obtain⟨_,i,hi,y,h2,A⟩:=(D x.1).1 h;have d0:=(cm (bd a)).1;have:i=j:=by
    have I:=(Zb.1 h2)
    have J:=(Zb.1 F)
    obtain⟨I,a0⟩:=I;obtain⟨J,c0⟩:=J;refine(abH (i:=i) (j:=j) (h₀:=by rw[ZE];exact I) (h₁:=by rw[ZE];exact J) d0).1 ?_;rw[abW,abW,a0,c0,A]
   exact S (this▸hi)
  have u:b (j::d)=b d++if aH (aA r) x.1 then[x.1] else[]:=by
   simp only[b,List.reverse_cons,ach,aco,List.filterMap_nil,F,ab8];congr 1;cases aH (aA r) x.1<;>rfl
  have step:(b (j::d)).Nodup∧ ∀z,z∈b (j::d)↔z∈aA r∧ ∃i∈j::d,∃y,(aC (bd a))[i]? =io y∧y.1=z:=by
   rw[u];constructor
   .split
    .rw[aa6];refine⟨B,aat.2 ⟨abG,aab⟩,fun p hp q hq e=>?_⟩;rw[Zk]at hq;exact G ((e.trans hq)▸hp)
    .rw[ZL];exact B
   .intro z;rw[Zm,D];constructor
    .rintro(⟨h1,i,h2,A⟩|h1)
     .exact⟨h1,i,Zn _ h2,A⟩
     .split at h1
      .rename_i h2;rw[Zk]at h1;exact⟨h1▸aM.1 h2,j,Zo,x,F,h1.symm⟩
      .cases h1
    .rintro⟨h1,i,h2,y,A,h4⟩;rcases Zq.1 h2 with rfl|h2
     .rw[F]at A;cases A;exact .inr (by rw[am (aM.2 (h4▸h1))];simp[h4])
     .exact .inl ⟨h1,i,h2,y,A,h4⟩
  refine zJ Z Z (fun g1=>?_) fun g1=>?_
  .have g1:aH (aA r) x.1=kw:=by
    have:=zT g1;rw[h5];simp;omega
   rw[g1,am Z]at u;refine gA Z ⟨j,x,F,S,step,[],zW (zK (hM Z (by rw[u,cU];rfl) Z (hI Z Z (.inr Z) Z ac)))⟩
  .have g1:aH (aA r) x.1=lc:=by
    have:=zF g1;rw[h5];simp;omega
   rw[g1,be (by simp),ZL]at u;refine gA Z ⟨j,x,F,S,step,[],zW (zK (hM Z (by rw[u]) Z (hI Z Z (.inr Z) Z ac)))⟩
end Go.Proofs.YtflegjieadkonaaGreatDoor
namespace Go.Proofs.YtflegjieadkonaaGreatDoor
open Go Go.Al
def pO(s:ak):List UInt8:=s.data.toList
def Uo(l:List UInt8):ak:=⟨l.toArray⟩
theorem w7(s:ak):Uo (pO s)=s:=by simp[pO,Uo]
theorem OW(l:List UInt8):pO (Uo l)=l:=by simp[pO,Uo]
def eL(l:List (List UInt8)):List (List UInt8):=l.mergeSort fun x y=>li (x<=y)
def eQ(l:List ak):List ak:=(eL (l.map pO)).map Uo
def kz:Prop:=
 (∀(b b0 a0:Nat) (d:List (List UInt8)) (w:World),Go.Sort.Holds encStr w b b0 d.toArray->b<w.heap.size->d.length<4611686018427387904->
  Calls Tryz.prog 91 #[.slice (io ⟨b,b0,jp⟩) d.length a0] w fun e j=>
   e= .returned (.tuple #[])∧ ∃n os,j=Go.Sort.grow (Go.Sort.putRow encStr (Go.Sort.ahead w n) b b0 (d.mergeSort fun x y=>li (x<=y)).toArray) os)∧
 (∀(p:Option Addr) (a0:Nat) (w:World),Calls Tryz.prog 91 #[.slice p 0 a0] w fun e j=>e= .returned (.tuple #[])∧j=w)
theorem jH(l:List ak):(eQ l).length=l.length:=by simp[eQ,eL]
theorem rq:eQ []=[]:=by simp[eQ,eL]
theorem u0(l:List ak):(eQ l).map pO=eL (l.map pO):=by
 unfold eQ;rw[aa4];have:pO ∘ Uo=id:=by funext x;exact OW x
 rw[this,List.map_id]
theorem Dy{l:List ak}{k:Nat}{e:List PV}(h:(l.map fun x=>(cz x).map PV.iv)[k]? =io e): ∃s,l[k]? =io s∧e=[pS s]:=by
 rw[Zg,Zi]at h;obtain⟨s,b,rfl⟩:=h;exact⟨s,b,rfl⟩
theorem MK(hS:kz)(l:List ak)(hl:l.length<=1000000000000):bW Tryz.prog 91 [.sl 0 0 l.length 1] [aE 1 l cz] (.bQ []) [(0,io (aE 1 (eQ l) cz))] 1:=by
 refine⟨bF Tryz.func91 Z (by decide),fun M N w vs hr I hv=>?_⟩;obtain⟨v,rfl⟩: ∃v,vs=[v]:=by
  cases vs with
  |nil=>cases I
  |cons v r=>cases r with
   |nil=>exact⟨v,rfl⟩
   |cons a b=>simp at I
 have u:=hv 0 _ Z;simp only[List.getD_cons_zero]at u;have n0:=hr.obj 0 _ Z;cases l with
 |nil=>
  have e0:v= .slice jp 0 0:=by
   generalize hq:PV.sl 0 0 ([]:List ak).length 1=q at u;cases u with
   |sl i off len sz a0 h h0 S hc he=>cases hq;simp at h0
   |pW i sz h=>rfl
   |_=>cases hq
  subst e0;refine(hS.2 jp 0 w).mono ?_;rintro e w' ⟨rfl,rfl⟩;refine⟨_,M,N,.bQ [],_,1,rfl,⟨rfl,rfl,rfl⟩,?_,?_,.bQ [] #[] Z (by simp)⟩
  .rw[rq];exact .refl _ _ _ _ _
  .rw[rq];exact hr
 |cons s0 r=>
  generalize hL:s0::r=L at*
  have c0:0<L.length:=by rw[<-hL];simp
  obtain⟨a0,e0⟩: ∃a0,v= .slice (io ⟨N.aL 0,0,jp⟩) L.length a0:=by
   generalize hn:L.length=n at u c0;generalize hq:PV.sl 0 0 n 1=q at u;cases u with
   |sl i off len sz a0 h h0 S hc he=>cases hq;exact⟨a0,by simp⟩
   |pW i sz h=>cases hq;omega
   |_=>cases hq
  subst e0;rcases n0 with h0|⟨_,c,T,S,h2,h3,h4,h5⟩
  .rw[<-hL]at h0;cases h0
  rw[ZE]at h3;have g0:(aE 1 L cz).real=kw:=by rw[<-hL];rfl
  have d0: ∀j s,L[j]? =io s->c.getD j undef= .string s:=fun j s G=>by
   have:=h5 j [pS s] 0 (pS s) (by rw[Zg,G];rfl) Z;rw[ab2,abg]at this;generalize c.getD j undef=y at this ⊢;cases this with
   |iv _ _ h=>cases h;rfl
  have m0:=hr.lt (i:=0) Z g0;have k0:(L.map pO).length=L.length:=by simp
  have hH:Go.Sort.Holds encStr w (N.aL 0) 0 (L.map pO).toArray:=by
   intro j G;have i0:j<L.length:=by simpa using G
   have f0:j<c.size:=by omega
   have:=d0 j L[j] (Za i0);rw[Y7,Z4 f0,aaw]at this;constructor
   .simp only[World.cell?,S,Zu,Option.isSome_none,aaG,if_false];rw[Z4 f0,this,getElem!_pos _ j G];simp[encStr,pO]
   .simp[World.frozen?,S]
  have B:=hS.1 (N.aL 0) 0 a0 (L.map pO) w hH m0 (by omega);rw[k0]at B;refine B.mono ?_;rintro e w' ⟨rfl,n,os,rfl⟩
  let J:=Go.Sort.putRow encStr (Go.Sort.ahead w n) (N.aL 0) 0 ((L.map pO).mergeSort fun x y=>li (x<=y)).toArray
  have Y:(eL (L.map pO)).length=L.length:=by simp[eL]
  have A:Ext M N (· <1) (fA 0 [aE 1 L cz]) w M N (· <1) ((0,io (aE 1 (eQ L) cz))::fA 0 [aE 1 L cz]) J∧Rel M N (· <1) ((0,io (aE 1 (eQ L) cz))::fA 0 [aE 1 L cz]) J:=by
   refine hr.write (i:=0) (o0:=aE 1 L cz) Z g0 J (aE 1 (eQ L) cz) Z Z Z ?_ ?_ ?_
   .show(Go.Sort.putRow _ _ _ _ _).heap.size=_;rw[Go.Sort.size_putRow];rfl
   .intro b hb;show((w.heap.modify (N.aL 0) _))[b]? =_;rw[Z2,be (fun e=>hb e.symm)]
   .refine .inr ⟨Nat.one_pos,Go.Sort.putCells encStr 0 (eL (L.map pO)).toArray c,T,?_,?_,?_,?_,?_⟩
    .show((w.heap.modify (N.aL 0) _))[N.aL 0]? =_;rw[Z2,am Z,S];rfl
    .simp[Go.Sort.putCells,h2]
    .rw[ZE,jH];simp[Go.Sort.putCells];omega
    .intro k e he;obtain⟨s,_,rfl⟩:=Dy he;rfl
    .intro k e j p he hp;obtain⟨s,hs,rfl⟩:=Dy he;have G:j=0:=by
      rcases j with _|j
      .rfl
      .simp at hp
     subst G;cases hp;have hk:k<L.length:=by
      have:=(Zb.1 hs).1;rwa[jH]at this
     have p0:(eL (L.map pO))[k]? =io (pO s):=by
      rw[<-u0,Zg,hs];rfl
     have j0:k<c.size:=by omega
     have b0:(Go.Sort.putCells encStr 0 (eL (L.map pO)).toArray c).getD (k*1+0) undef= .string s:=by
      rw[ab2,abg,Y7];simp only[Go.Sort.putCells,Array.getElem?_mapIdx];rw[Z4 j0,Z8,aaw,am ⟨Zf _,by simp[Y];omega⟩,acd];rw[getElem!_pos _ k (by simp[Y];omega)];have h9:(eL (L.map pO)).toArray[k]'(by simp[Y];omega)=pO s:=by
       rw[List.getElem_toArray];exact(Zb.1 p0).2
      rw[h9];simp[encStr,pO]
     rw[b0];exact .iv _ _ (.v _)
  have D:Rel M N (· <1) ((0,io (aE 1 (eQ L) cz))::fA 0 [aE 1 L cz]) (Go.Sort.grow J os):=A.2.more fun b hb=>by
   show(J.heap++os)[b]? =_;rw[aac hb]
  have q0:J.heap.size=w.heap.size:=by
   show(Go.Sort.putRow _ _ _ _ _).heap.size=_;rw[Go.Sort.size_putRow];rfl
  have d: ∀i o,AH.get [(0,io (aE 1 (eQ L) cz))] i=io o->AH.get ((0,io (aE 1 (eQ L) cz))::fA 0 [aE 1 L cz]) i=io o:=by
   intro i o h;rw[AH.ax]at h ⊢;split at h
   .rename_i h6;rw[am h6];exact h
   .simp[AH.get]at h
  refine⟨_,M,N,.bQ [],_,1,rfl,⟨rfl,rfl,rfl⟩,⟨A.1.os,A.1.tape,A.1.output,?_,?_,.refl _,fun b c S h2=>(nomatch (S.symm.trans h2)),.refl _ _,fun _ h=>h,fun i o F=>A.1.jt i o (d i o F)⟩,?_,.bQ [] #[] Z (by simp)⟩
  .show w.heap.size<=(Go.Sort.grow J os).heap.size;rw[Go.Sort.size_grow,q0];omega
  .intro b hb hn;have h7:=A.1.iT b hb hn;show(J.heap++os)[b]? =_;rw[aac (by omega)];exact h7
  .exact⟨D.eW,fun i o F=>D.used i o (d i o F),fun i o F=>D.fo i o (d i o F),fun i o F=>D.obj i o (d i o F),fun i j o p F G=>D.inj i j o p (d i o F) (d j p G)⟩
end Go.Proofs.YtflegjieadkonaaGreatDoor
namespace Go.Proofs.YtflegjieadkonaaGreatDoor
open Go Go.Al Go.Proofs.Tryz
theorem gX(l:List (List UInt8)):(eL l).Perm l:=List.mergeSort_perm _ _
theorem kB(l:List (List UInt8)):(eL l).Pairwise (fun x y=>li (x<=y)=kw):=
 List.pairwise_mergeSort (le:=fun x y=>li (x<=y)) (fun a b c d j=>by simp only[decide_eq_true_eq] at*;exact List.le_trans d j)
  (fun a b=>by
   rcases List.le_total a b with h|h
   .simp[h]
   .simp[h]) l
theorem Iu{a b:List (List UInt8)}(h:a.Perm b)(ha:a.Pairwise (fun x y=>li (x<=y)=kw))(hb:b.Pairwise (fun x y=>li (x<=y)=kw)):a=b:=
 List.Perm.eq_of_pairwise (fun x y _ _ d j=>ab9 (zT d) (zT j)) ha hb h
theorem sT{a b:List ak}(h:a.Perm b):eQ a=eQ b:=by
 unfold eQ;rw[Iu (((gX _).trans (h.map pO)).trans (gX _).symm) (kB _) (kB _)]
theorem gu{x:ak}{l:List ak}:x∈eQ l↔x∈l:=by
 unfold eQ;rw[ZK];constructor
 .rintro⟨b,hb,rfl⟩;obtain⟨s,d,rfl⟩:=ZK.1 ((gX _).mem_iff.1 hb);rwa[w7]
 .intro h;exact⟨pO x,(gX _).mem_iff.2 (ZK.2 ⟨x,h,rfl⟩),w7 x⟩
def jw(m:NM)(vs:List Nat):List ak:=vs.reverse.filterMap fun j=>(m[j]?).map (·.1)
theorem nC(m:NM)(vs:List Nat)(j:Nat)(x:(KC.str).K×Int)(h:m[j]? =io x):jw m (j::vs)=jw m vs++ [x.1]:=by
 simp[jw,ach,h]
theorem yl(m:NM)(vs:List Nat):(jw m vs).length<=vs.length:=by
 unfold jw;have:=List.length_filterMap_le (fun j=>(m[j]?).map (·.1)) vs.reverse;rwa[List.length_reverse]at this
theorem Cb(m:NM):(Zy m.length).filterMap (fun j=>(m[j]?).map (·.1))=m.map (·.1):=by
 apply aaU;intro k;have h:(Zy m.length).filterMap (fun j=>(m[j]?).map (·.1))=(Zy m.length).map (fun j=>(m.getD j (Zd,0)).1):=by
  rw[show(fun j=>(m.getD j (Zd,0)).1)=fun j=>(m.getD j (Zd,0)).1 from rfl];have key: ∀l:List Nat,(∀j∈l,j<m.length)->l.filterMap (fun j=>(m[j]?).map (·.1))=l.map (fun j=>(m.getD j (Zd,0)).1):=by
   intro l
   induction l with
   |nil=>simp
   |cons j r ih=>
    intro h;have b:=h j Zo;rw[aco,Za b,ih fun k d=>h k (Zn _ d)];simp[b]
  exact key _ fun j b=>aam.1 b
 rw[h];by_cases d:k<m.length
 .simp[d]
 .simp[d]
theorem mI(m:NM)(vs:List Nat)(hn:vs.Nodup)(hb: ∀j∈vs,j<m.length)(b: ∀j,j<m.length->j∈vs):(jw m vs).Perm (m.map (·.1)):=by
 rw[<-Cb];unfold jw;apply List.Perm.filterMap;refine(List.reverse_perm _).trans ?_;rw[List.perm_ext_iff_of_nodup hn List.nodup_range];intro j;rw[aam];exact⟨hb j,b j⟩
def fi(m:NM):List ak:=eQ (m.map (·.1))
theorem yb{vs:List Nat}{n:Nat}(h:vs.Nodup)(hb: ∀j∈vs,j<n):vs.length<=n:=by
 have:=aaP h (l₂:=Zy n) fun j b=>aam.2 (hb j b);rwa[List.length_range]at this
theorem xN(σ:Nat->Nat)(l:List ak):(l.map fun x=>(cz x).map PV.iv).map (ep σ)=l.map fun x=>(cz x).map PV.iv:=by
 simp only[aa4,cz,Zr,Z0];rfl
theorem c51(G:kz)(m:NM)(hm:m.length<=100000000):Pure prog 112 [.iv (CO m)] (.iv (strs (fi m))):=by
 refine ae ab func112 Z (by decide) ntmps112 Z (by simp) Z ?_;refine gA Z ?_;refine fY 3 1 Z ?_;refine jy m (fun b=>⟨[(3,.sl 2 0 (jw m b).length 1),(6,.ptr 0 0)],[(0,io (.cF .str A8 m b jp)),(2,io (aE 1 (jw m b) cz))],3⟩) (fun b=>b.Nodup∧ ∀j∈b,j<m.length) [1] ⟨aab,by simp⟩
  (zW (hI Z Z (.inl Z) Z (zS trivial))) fun b F=>?_
 obtain⟨d,u⟩:=F;have S:=yb d u;have J:=yl m b;refine nV Z ac (fZ Z Z Z Z Z (by decide) (fun y=>?_) fun j x A B=>?_)
 .refine nV Z ac (bM [2] (MK G (jw m b) (by omega)) Z Z Z Z Z (congrArg (fun o=> [io o]) (bG _).symm) Z Z ?_);refine nV Z ac (cS (.inr Z) Z Z ((xN _ _).trans (by rw[fi,sT (mI m b d u y)])) ?_);rw[fi,jH,<-(mI m b d u y).length_eq]
 .have D:=nC m b j x A;refine gA Z ⟨j,x,A,B,⟨aat.2 ⟨B,d⟩,fun i I=>(Zq.1 I).elim (fun h=>h▸(Zb.1 A).1) (u i)⟩,[4],zM ⟨.row (by rw[D,Y8];rfl),rfl,bv ac⟩ (hI Z Z (.inr Z) Z (hR Z (by rw[D,Ze];rfl) Z ac))⟩
theorem PR{P:Program}{k:FuncId}{kc:KC}{V:Type}{e:V->IV}{z:V}{G:Value}{I:PV->V}{m:List (kc.K×V)}{y:IV}(h:Al.Pure P k [.iv (.eI kc e z G m)] (.iv y)):bW P k [.mp 0] [.map kc e z G I m] (.iv y) [] 1:=by
 refine⟨h.1,fun M N w F hr Y hv=>?_⟩;obtain⟨u,B,J,h3,S⟩:=qE (n:=1) hr (i:=0) Z;have A:Rel u N (· <0) (fA 0 []) w:=⟨J.eW,fun i o d=>(nomatch d),fun i o d=>(nomatch d),fun i o d=>(nomatch d),fun i j o p d=>(nomatch d)⟩
 refine(h.2 u N w F A Y fun j p D=>?_).mono ?_
 .cases j with
  |zero=>
   cases D;have:=S _ _ (hv 0 _ Z);generalize F.getD 0 undef=x at this ⊢;cases this with
   |iv _ _ h=>exact .iv _ _ h
  |succ j=>cases D
 .rintro _ w' ⟨x,M',N',r,h',n',rfl,⟨rfl,rfl,rfl⟩,hx,hrr,hvr⟩;refine⟨x,M',N,.iv y,[],1,rfl,⟨rfl,rfl,rfl⟩,?_,⟨hrr.eW,fun i o d=>(nomatch d),fun i o d=>(nomatch d),fun i o d=>(nomatch d),fun i j o p d=>(nomatch d)⟩,?_⟩
  .refine⟨hx.os,hx.tape,hx.output,hx.size,fun b hb hn=>hx.iT b hb fun i o d=>(nomatch d),B.sb.trans hx.sb,fun b c g1 g2=>?_,.refl _ _,fun _ h=>h,fun i o d=>(nomatch d)⟩;cases g3:u b with
   |some c'=>exact B.kr b c' g1 g3
   |none=>
    rcases hx.kr b c g3 g2 with g4|⟨i,o,g4,_⟩
    .exact .inl g4
    .exact nomatch g4
  .cases hvr with
   |iv _ _ h=>exact .iv _ _ h
theorem X9(b:kz)(m:NM)(hm:m.length<=100000000):bW prog 112 [.mp 0] [cx m] (.iv (strs (fi m))) [] 1:=PR (c51 b m hm)
theorem wo: ∀{m:NM} (_:(m.map (·.1)).Nodup) (k:ak),pT .str m k=m.filter fun x=>!li (x.1=k)
 | [],_,k=>rfl
 |(a,b)::r,h,k=>by
  rw[Zr,aat]at h;by_cases d:a=k
  .subst d;have:r.filter (fun x=>!li (x.1=a))=r:=acp.2 fun x j=>by
    have:x.1≠a:=fun e=>h.1 (e▸ZK.2 ⟨x,j,rfl⟩);simp[this]
   simp[pT,this]
  .have u:=wo h.2 k;simp[pT,d,u]
theorem sa{m:NM}{p:(KC.str).K×Int->Bool}(h:(m.map (·.1)).Nodup):((m.filter p).map (·.1)).Nodup:=h.sublist ((abP).map _)
theorem qP: ∀(d:List ak) {m:NM} (_:(m.map (·.1)).Nodup),d.foldl (fun m k=>pT .str m k) m=m.filter fun x=>!aH d x.1
 | [],m,h=>(acp.2 fun _ _=>rfl).symm
 |k::r,m,h=>by
  rw[ZD,wo h,qP r (sa h),List.filter_filter];congr 1
  funext x
  by_cases b:x.1=k
  .simp[aH,b]
  .have: ¬k=x.1:=fun e=>b e.symm
   simp[aH,b,this]
def lR(r:ah)(a:eO):NM:=(aC (bd a)).filter fun x=>!aH (aA r) x.1
theorem kT(l:List ak):(aC l).length<=l.length:=by
 have h:=cm l;have:=Ay h.1 fun x b=>(h.2 x).1 b;rwa[ZE]at this
theorem d79(r:ah)(a:eO)(hb:a.size<=100000000000):bW prog 191 [.iv (db r),ag a.c] [] (.mp 0) [(0,io (cx (lR r a)))] 1:=by
 refine bW.le (args:=[.iv (db r),ag a.c1]) ?_ ⟨.refl _,a.xd,ac⟩;have I:=mZ a;have A:=(cm (bd a)).1;refine aB ab func191 Z (by decide) ntmps191 Z (by simp) ?_;refine gA Z (zq [] (SY a (by omega)) ?_);refine gA Z ?_;refine jy (aC (aA r)) (fun b=>⟨[(5,.mp 1),(13,.ptr 2 0)],[(1,io (cx ((jw (aC (aA r)) b).foldl (fun m k=>pT .str m k) (aC (bd a))))),(2,io (.cF .str A8 (aC (aA r)) b jp))],3⟩)
  (fun b=>b.Nodup∧ ∀j∈b,j<(aC (aA r)).length) [] ⟨aab,by simp⟩
  (zW (zC (hI Z Z (.inl Z) Z trivial))) fun b G=>?_
 obtain⟨d,u⟩:=G;refine nV Z ac (fZ Z Z Z Z Z (by decide) (fun y=>?_) fun j x D F=>?_)
 .have B:(jw (aC (aA r)) b).foldl (fun m k=>pT .str m k) (aC (bd a))=lR r a:=by
   rw[qP _ A];unfold lR;congr 1
   funext x
   congr 1;rw[ZW,aM,aM,(mI _ b d u y).mem_iff];exact(cm (aA r)).2 x.1
  rw[B];refine gA Z (zD [1] Z (zW (zC ac)))
 .have S:=nC (aC (aA r)) b j x D;refine gA Z ⟨j,x,D,F,⟨aat.2 ⟨F,d⟩,fun i J=>(Zq.1 J).elim (fun h=>h▸(Zb.1 D).1) (u i)⟩,[],zW (hM Z (by rw[S,aaE];rfl) Z (hI Z Z (.inr Z) Z ac))⟩
theorem wq{may:List ak->Expr->Bool}{more:List ak->eO->Bool}{body:List Lit}: ∀(n:Nat) (occ:List ak),(dT may more body n occ).length<=occ.length+n
 |0,occ=>Zc _
 |n+1,occ=>by
  cases h:cO (may occ) (more occ) occ body with
  |none=>rw[gi h];omega
  |some v=>
   rw[gh h];have:=wq (may:=may) (more:=more) (body:=body) n (occ++ [v]);rw[Y8,ZH]at this;omega
theorem wx{may:List ak->Expr->Bool}{more:List ak->eO->Bool}{body:List Lit}(occ:List ak):(cT may more body occ).length<=occ.length+4*Lit.az body+1:=by
 have b:=wq (may:=may) (more:=more) (body:=body) (3*body.length+1) (occ++body.flatMap bP);have d:=ib body;have j:=Lit.au body;rw[Y8]at b;unfold cT;omega
theorem FZ(r:ah):(ch r).length<=4*Lit.az r.body+1:=by
 have:=wx (may:=fun b=>aU b) (more:=fun b=>jb (aA r) b) (body:=r.body) [];rw[aai]at this;unfold ch;omega
def r7(r:ah):List ak:=cT (fun b=>c8 b) (fun _=>fun _=>lc) r.body []
theorem IL(r:ah):(r7 r).length<=4*Lit.az r.body+1:=by
 have:=wx (may:=fun b=>c8 b) (more:=fun _=>fun _=>lc) (body:=r.body) [];rw[aai]at this;unfold r7;omega
theorem WN(r:ah)(hb:8*Lit.az r.body<=100000000000):bW prog 126 [.iv (lits r.body),.mp 0,.du (.func 127) [] [.ptr 1 0],.du (.func 128) [] []] [.gP,.cells [.mp 0]] (.bQ []) [(0,io (cx (aC (r7 r)))),(1,io (.cells [.mp 0]))] 2:=
 bW.SI (XW [] r.body (by simp;omega)) ⟨xb,.refl _,ac⟩
theorem c29(b:kz)(r:ah)(hb:r.size<=10000000):Pure prog 80 [ag r.c] (.iv (strs (fi (aC (aA r))))):=by
 have d:=kT (aA r);have j:=oU r;refine ae ab func80 Z (by decide) ntmps80 Z (by simp) Z ?_;refine gA Z (zp (c48 r (by omega)) ?_);refine gA Z (zp (c51 b (aC (aA r)) (by omega)) ?_);exact zU Z
theorem c33(b:kz)(r:ah)(hb:r.size<=10000000):Pure prog 98 [ag r.c] (.iv (strs (fi (aC (r7 r))))):=by
 have d:=kT (r7 r);have j:=IL r;have u:Lit.az r.body<=r.size:=aaH _ _;refine ae ab func98 Z (by decide) ntmps98 Z (by simp) Z ?_;refine gA Z ?_;refine gA Z (zq [1,2] (WN r (by omega)) ?_);refine gA Z (zq [1] (X9 b (aC (r7 r)) (by omega)) ?_);exact zU Z
def tm(r:ah)(lit:Int):List ak:=if lit<0∨(r.body.length:Int)<=lit∨ ¬(an r lit).kind=4 then[] else fi (lR r (an r lit).agg)
theorem vN{P:Program}{k:FuncId}{args:List PV}{os:List AO}{r:PV}{h:AH}{n0:Nat}(hc:oN P k){n:Nat}(hn: ∃sz el,PV.iv (.de sz n el)∈args)(hh:n<=maxLen->bW P k args os r h n0):bW P k args os r h n0:=Mh hc hn hh
def tr{α:Type}(p:α->Bool)(l:List α):Int:=match l.findIdx? p with
 |some i=>i
 |none=> -1
theorem iK{α:Type}{p:α->Bool}{l:List α}(h:l.any p=lc):tr p l= -1:=by
 have:l.findIdx? p=jp:=by
  rw[abK];intro x b;have:=Z3.1 h x b;simpa using this
 rw[tr,this]
theorem jf{α:Type}[Inhabited α]{p:α->Bool}{l:List α}{i:Nat}(h:(l.take i).any p=lc)(hi:i<l.length)(hp:p (l.getD i em)=kw):tr p l=i:=by
 have:l.findIdx? p=io i:=by
  rw[abn];have b:l.getD i em=l[i]:=by simp[hi]
  refine⟨hi,b▸hp,fun j d=>?_⟩;have:=Z3.1 h l[j] (List.mem_iff_getElem?.2 ⟨j,by rw[Z6,am d,Za (by omega)]⟩);simpa using this
 rw[tr,this]
theorem j9{α:Type}(p:α->Bool)(l:List α):li (tr p l>=0)=l.any p:=by
 unfold tr;cases h:l.findIdx? p with
 |none=>
  have:=abK.1 h;have:l.any p=lc:=Z3.2 fun x j=>by simp[this x j]
  rw[this];rfl
 |some i=>
  obtain⟨b,d,_⟩:=abn.1 h;rw[ZZ.2 ⟨_,ZQ b,d⟩];simp
theorem FG{a b:Int}(h:a=b):pI a=pI b:=by rw[h]
theorem YD(x:Int):Pure prog 155 [pI x] (pB (!li (x=1)&&!li (x=2))):=by
 refine ae ab func155 Z (by decide) ntmps155 Z (by simp) Z ?_
 repeat' (first|(refine gA Z (zI (fun _=>?_) (fun _=>?_)))|(refine gA Z (zL (.of_eq ?_))))
 all_goals(refine(fV ?_:pB _=pB _);simp_all)
theorem YC(t:Term):Pure prog 194 [ag t.c] (pB (li (t.kind=3))):=by
 refine ae ab func194 Z (by decide) ntmps194 Z (by simp) Z ?_;exact zU Z
theorem YB(t:Lit):Pure prog 195 [ag t.c] (pB (li (t.kind=4))):=by
 refine ae ab func195 Z (by decide) ntmps195 Z (by simp) Z ?_;exact zU Z
def dx(v:tK):Int:=if v.kind=1 then(if v.sym=Zd∧ -2147483647<=v.num∧v.num<=2147483647 then 0 else 20) else if v.kind=2 then(if v.num=0∧v.sym.size<=64 then 0 else 20) else 20
theorem YG(v:tK):Pure prog 261 [ag v.c] (pI (dx v)):=by
 refine ae ab func261 Z (by decide) ntmps261 Z (by simp) Z ?_
 repeat' (first|(refine gA Z (zI (fun _=>?_) (fun _=>?_)))|(refine gA Z (zL (.of_eq ?_))))
 all_goals(refine(FG ?_:pI _=pI _);have hE:(⟨#[]⟩:ByteArray)=Zd:=rfl;simp_all [dx];try omega)
def Decl.z:Decl:=⟨Zd,[],⟨0,0⟩⟩
def HS(d:Decl):IV:= .agg d.c
def Ms:Value:= .agg #[.string Zd,.slice jp 0 0,.int .i64 0,.int .i64 0]
def intOf:List IV->Int
 | [.v (.int .i64 n)]=>n
 |_=>0
def XR:PV->Decl
 | .agg [.iv (.v (.string s)),.iv (.de _ n el),.iv (.v (.int _ a)),.iv (.v (.int _ b))]=>⟨s,(Zy n).map fun k=>intOf (el k),⟨a,b⟩⟩
 |_=>Decl.z
abbrev DM:=List ((KC.str).K×Decl)
abbrev SS(m:DM):AO:= .map .str HS Decl.z Ms XR m
abbrev WL(m:DM):IV:= .eI .str HS Decl.z Ms m
theorem SR(d:Decl):XR (ag d.c)=d:=by
 show(⟨d.name,(Zy d.types.length).map fun k=>intOf (aY (d.types.getD k em)),⟨d.at_.line,d.at_.zy⟩⟩:Decl)=d;have:(Zy d.types.length).map (fun k=>intOf (aY (d.types.getD k em)))=d.types:=by
  apply aaU;intro k;by_cases b:k<d.types.length
  .simp[b,intOf,aY]
  .simp[b]
 rw[this]
theorem Mr: ∀M,IR M (HS Decl.z) Ms:=fun M=>by
 refine .agg _ _ Z fun j p b=>?_
 match j,b with
 |0,b=>cases b;exact .v _
 |1,b=>cases b;exact .j8 _ _ _ _
 |2,b=>cases b;exact .v _
 |3,b=>cases b;exact .v _
 |j+4,b=>simp[Decl.c]at b
theorem agI(l:List IV):aK (ag l) (.iv (.agg l)):=by
 intro M N U x h;generalize b:ag l=q at h;cases h with
 |agg cs ys hl hr=>
  cases b;refine .iv _ _ (.agg _ _ (by simpa using hl) fun j p d=>?_);have:=hr j (.iv p) (by rw[Zg,d];rfl);generalize ys.getD j undef=y at this ⊢;cases this with
  |iv _ _ h=>exact h
 |_=>cases b
theorem Mt(d:Decl):aK (ag d.c) (.iv (HS (XR (ag d.c)))):=by rw[SR];exact agI _
def iH(m:DM)(d:Decl):DM:=if eh .str m d.name=kw then m else cH .str m d.name d
def Am(p:Prog):DM:=p.aD.foldl iH []
abbrev di(p:Prog):IV:=WL (Am p)
theorem xV{V:Type}: ∀(m:List ((KC.str).K×V)) (k:ak) (v:V),(cH .str m k v).length<=m.length+1
 | [],_,_=>by simp[cH]
 |(a,b)::r,k,v=>by
  have:=xV r k v;simp only[cH];split
  .simp
  .simp only[ZI];omega
theorem d50(p:Prog)(hb:p.aD.length<=1000000000000):bW prog 124 [ag p.c] [] (.mp 0) [(0,io (SS (Am p)))] 1:=by
 refine aB ab func124 Z (by decide) ntmps124 Z (by simp) ?_;refine gA Z ?_;refine aw 0 p.aD.length (Zf _) (fun i=>⟨[(3,.mp 1),(13,.iv (cZ 4 p.aD Decl.c)),(14,pI p.aD.length),(15,pI i)],[(1,io (SS ((p.aD.take i).foldl iH [])))],2⟩) (fun _=>True) [] ac
  (zW (Jf Z Mr Z trivial)) fun i x _=>?_
 refine zJ Z Z (fun d=>?_) fun d=>?_
 .have d:=ci d;have u:=cK (g:=iH) (b:=[]) d;refine zJ Z Z (fun j=>?_) fun j=>?_
  .have j:eh .str ((p.aD.take i).foldl iH []) (p.aD.getD i em).name=lc:=by simpa using j
   rw[iH,be (by rw[j];simp)]at u;refine nV Z ?_ ?_
   .repeat' (first|exact ac|exact rfl|exact Mt _|exact aK.refl _|apply ZU)
    all_goals omega
   exact⟨d,ac,[],zW (hM Z (by rw[u,<-SR (p.aD.getD i em)];rfl) Z ac)⟩
  .have j:eh .str ((p.aD.take i).foldl iH []) (p.aD.getD i em).name=kw:=by simpa using j
   rw[iH,am j]at u;refine gA Z ⟨d,ac,[],zW (hM Z (by rw[u]) Z ac)⟩
 .have d:=co d;rw[Zh d];refine gA Z (zD [1] Z (zW (zC ac)))
def lZ(p:Prog)(a:Atom):Bool:=!eh .str (Am p) a.rel
def iy(p:Prog)(s:ak):Decl:=bU .str (Am p) s Decl.z
def nj(p:Prog)(a:Atom):Bool:=!li ((a.ad.length:Int)=((iy p a.rel).types.length:Int))
theorem d113(p:Prog)(a:Atom):bW prog 163 [ag a.c,.ptr 0 0] [.cells [.iv (di p)]] (pB (lZ p a)) [(0,io (.cells [.iv (di p)]))] 1:=by
 refine aB ab func163 Z (by decide) ntmps163 Z (by simp) ?_;refine gA Z (zD [] Z (zM ⟨.of_eq Z,rfl,ac⟩ (zO ac)))
theorem d115(p:Prog)(a:Atom):bW prog 165 [ag a.c,.ptr 0 0] [.cells [.iv (di p)]] (pB (nj p a)) [(0,io (.cells [.iv (di p)]))] 1:=by
 refine aB ab func165 Z (by decide) ntmps165 Z (by simp) ?_;refine gA Z (zD [] Z (zM ⟨.of_eq Z,rfl,ac⟩ (zO ac)))
theorem i187(l:List Int):bW prog 186 [.iv (cZ 1 l aY),.du (.func 155) [] []] [] (pI (tr (fun x=>!li (x=1)&&!li (x=2)) l)) [] 0:=by
 refine vN (bF func186 Z (by decide)) ⟨_,_,Zo⟩ fun j=>?_;simp only[maxLen]at j;refine aB ab func186 Z (by decide) ntmps186 Z (by simp) ?_;refine gA Z ?_
 refine aw 0 l.length (Zf _) (fun i=>⟨[(0,.iv (cZ 1 l aY)),(1,.du (.func 155) [] []),(7,pI l.length),(8,pI i)],[],0⟩) (fun i=>(l.take i).any (fun x=>!li (x=1)&&!li (x=2))=lc) [] (by simp)
  (zW trivial) fun i y u=>?_
 refine zJ Z Z (fun b=>?_) fun b=>?_
 .have b:=ci b;refine gA Z (zp (YD (l.getD i em)) ?_);refine zJ Z Z (fun d=>?_) fun d=>?_
  .have d:(fun x=>!li (x=1)&&!li (x=2)) (l.getD i em)=kw:=d;rw[jf u b d];refine gA Z (zD [] Z (zW ac))
  .have d:(fun x=>!li (x=1)&&!li (x=2)) (l.getD i em)=lc:=d;refine gA Z ⟨b,(aW u b).2 d,[],zW ac⟩
 .have b:=co b;rw[iK (any_none u b)];refine gA Z (zD [] Z (zW ac))
theorem d153(l:List Int):bW prog 154 [.iv (cZ 1 l aY),.du (.func 155) [] []] [] (pB (l.any (fun x=>!li (x=1)&&!li (x=2)))) [] 0:=by
 refine aB ab func154 Z (by decide) ntmps154 Z (by simp) ?_;refine gA Z (zq [] (i187 l) ?_);refine gA Z (zD [] Z (zM ⟨.of_eq (fV (j9 _ l)),rfl,ac⟩ ac))
theorem i191(l:List Term):bW prog 224 [.iv (cZ 5 l Term.c),.du (.func 194) [] []] [] (pI (tr (fun x:Term=>li (x.kind=3)) l)) [] 0:=by
 refine vN (bF func224 Z (by decide)) ⟨_,_,Zo⟩ fun j=>?_;simp only[maxLen]at j;refine aB ab func224 Z (by decide) ntmps224 Z (by simp) ?_;refine gA Z ?_
 refine aw 0 l.length (Zf _) (fun i=>⟨[(0,.iv (cZ 5 l Term.c)),(1,.du (.func 194) [] []),(7,pI l.length),(8,pI i)],[],0⟩) (fun i=>(l.take i).any (fun x:Term=>li (x.kind=3))=lc) [] (by simp)
  (zW trivial) fun i y u=>?_
 refine zJ Z Z (fun b=>?_) fun b=>?_
 .have b:=ci b;refine gA Z (zp (YC (l.getD i em)) ?_);refine zJ Z Z (fun d=>?_) fun d=>?_
  .have d:(fun x:Term=>li (x.kind=3)) (l.getD i em)=kw:=d;rw[jf u b d];refine gA Z (zD [] Z (zW ac))
  .have d:(fun x:Term=>li (x.kind=3)) (l.getD i em)=lc:=d;refine gA Z ⟨b,(aW u b).2 d,[],zW ac⟩
 .have b:=co b;rw[iK (any_none u b)];refine gA Z (zD [] Z (zW ac))
theorem d157(l:List Term):bW prog 193 [.iv (cZ 5 l Term.c),.du (.func 194) [] []] [] (pB (l.any (fun x:Term=>li (x.kind=3)))) [] 0:=by
 refine aB ab func193 Z (by decide) ntmps193 Z (by simp) ?_;refine gA Z (zq [] (i191 l) ?_);refine gA Z (zD [] Z (zM ⟨.of_eq (fV (j9 _ l)),rfl,ac⟩ ac))
theorem i192(l:List Lit):bW prog 130 [.iv (cZ 30 l Lit.c),.du (.func 195) [] []] [] (pI (tr (fun x:Lit=>li (x.kind=4)) l)) [] 0:=by
 refine vN (bF func130 Z (by decide)) ⟨_,_,Zo⟩ fun j=>?_;simp only[maxLen]at j;refine aB ab func130 Z (by decide) ntmps130 Z (by simp) ?_;refine gA Z ?_
 refine aw 0 l.length (Zf _) (fun i=>⟨[(0,.iv (cZ 30 l Lit.c)),(1,.du (.func 195) [] []),(7,pI l.length),(8,pI i)],[],0⟩) (fun i=>(l.take i).any (fun x:Lit=>li (x.kind=4))=lc) [] (by simp)
  (zW trivial) fun i y u=>?_
 refine zJ Z Z (fun b=>?_) fun b=>?_
 .have b:=ci b;refine gA Z (zp (YB (l.getD i em)) ?_);refine zJ Z Z (fun d=>?_) fun d=>?_
  .have d:(fun x:Lit=>li (x.kind=4)) (l.getD i em)=kw:=d;rw[jf u b d];refine gA Z (zD [] Z (zW ac))
  .have d:(fun x:Lit=>li (x.kind=4)) (l.getD i em)=lc:=d;refine gA Z ⟨b,(aW u b).2 d,[],zW ac⟩
 .have b:=co b;rw[iK (any_none u b)];refine gA Z (zD [] Z (zW ac))
theorem d159(l:List Lit):bW prog 101 [.iv (cZ 30 l Lit.c),.du (.func 195) [] []] [] (pB (l.any (fun x:Lit=>li (x.kind=4)))) [] 0:=by
 refine aB ab func101 Z (by decide) ntmps101 Z (by simp) ?_;refine gA Z (zq [] (i192 l) ?_);refine gA Z (zD [] Z (zM ⟨.of_eq (fV (j9 _ l)),rfl,ac⟩ ac))
theorem Wz(p:Prog)(l:List Atom):bW prog 192 [.iv (cZ 2 l Atom.c),.du (.func 163) [] [.ptr 0 0]] [.cells [.iv (di p)]] (pI (tr (fun x:Atom=>lZ p x) l)) [(0,io (.cells [.iv (di p)]))] 1:=by
 refine vN (bF func192 Z (by decide)) ⟨_,_,Zo⟩ fun j=>?_;simp only[maxLen]at j;refine aB ab func192 Z (by decide) ntmps192 Z (by simp) ?_;refine gA Z ?_
 refine aw 0 l.length (Zf _) (fun i=>⟨[(0,.iv (cZ 2 l Atom.c)),(1,.du (.func 163) [] [.ptr 0 0]),(7,pI l.length),(8,pI i)],[(0,io (.cells [.iv (di p)]))],1⟩) (fun i=>(l.take i).any (fun x:Atom=>lZ p x)=lc) [] (by simp)
  (zW (zO trivial)) fun i y u=>?_
 refine zJ Z Z (fun b=>?_) fun b=>?_
 .have b:=ci b;refine gA Z (zq [0] (d113 p (l.getD i em)) ?_);refine zJ Z Z (fun d=>?_) fun d=>?_
  .have d:(fun x:Atom=>lZ p x) (l.getD i em)=kw:=d;rw[jf u b d];refine gA Z (zD [] Z (zW (zO ac)))
  .have d:(fun x:Atom=>lZ p x) (l.getD i em)=lc:=d;refine gA Z ⟨b,(aW u b).2 d,[],zW (zO ac)⟩
 .have b:=co b;rw[iK (any_none u b)];refine gA Z (zD [] Z (zW (zO ac)))
theorem WV(p:Prog)(l:List Atom):bW prog 161 [.iv (cZ 2 l Atom.c),.du (.func 163) [] [.ptr 0 0]] [.cells [.iv (di p)]] (pB (l.any (fun x:Atom=>lZ p x))) [(0,io (.cells [.iv (di p)]))] 1:=by
 refine aB ab func161 Z (by decide) ntmps161 Z (by simp) ?_;refine gA Z (zq [0] (Wz p l) ?_);refine gA Z (zD [] Z (zM ⟨.of_eq (fV (j9 _ l)),rfl,ac⟩ (zO ac)))
theorem Wy(p:Prog)(l:List Atom):bW prog 192 [.iv (cZ 2 l Atom.c),.du (.func 165) [] [.ptr 0 0]] [.cells [.iv (di p)]] (pI (tr (fun x:Atom=>nj p x) l)) [(0,io (.cells [.iv (di p)]))] 1:=by
 refine vN (bF func192 Z (by decide)) ⟨_,_,Zo⟩ fun j=>?_;simp only[maxLen]at j;refine aB ab func192 Z (by decide) ntmps192 Z (by simp) ?_;refine gA Z ?_
 refine aw 0 l.length (Zf _) (fun i=>⟨[(0,.iv (cZ 2 l Atom.c)),(1,.du (.func 165) [] [.ptr 0 0]),(7,pI l.length),(8,pI i)],[(0,io (.cells [.iv (di p)]))],1⟩) (fun i=>(l.take i).any (fun x:Atom=>nj p x)=lc) [] (by simp)
  (zW (zO trivial)) fun i y u=>?_
 refine zJ Z Z (fun b=>?_) fun b=>?_
 .have b:=ci b;refine gA Z (zq [0] (d115 p (l.getD i em)) ?_);refine zJ Z Z (fun d=>?_) fun d=>?_
  .have d:(fun x:Atom=>nj p x) (l.getD i em)=kw:=d;rw[jf u b d];refine gA Z (zD [] Z (zW (zO ac)))
  .have d:(fun x:Atom=>nj p x) (l.getD i em)=lc:=d;refine gA Z ⟨b,(aW u b).2 d,[],zW (zO ac)⟩
 .have b:=co b;rw[iK (any_none u b)];refine gA Z (zD [] Z (zW (zO ac)))
theorem WU(p:Prog)(l:List Atom):bW prog 161 [.iv (cZ 2 l Atom.c),.du (.func 165) [] [.ptr 0 0]] [.cells [.iv (di p)]] (pB (l.any (fun x:Atom=>nj p x))) [(0,io (.cells [.iv (di p)]))] 1:=by
 refine aB ab func161 Z (by decide) ntmps161 Z (by simp) ?_;refine gA Z (zq [0] (Wy p l) ?_);refine gA Z (zD [] Z (zM ⟨.of_eq (fV (j9 _ l)),rfl,ac⟩ (zO ac)))
def b8(l:Lit):List Atom:=if l.kind=1∨l.kind=2 then[l.atom] else[]
theorem mB: ∀l:List Lit,(l.flatMap b8).length<=l.length
 | []=>by simp
 |x::r=>by
  have b:=mB r;have d:(b8 x).length<=1:=by unfold b8;split<;>simp
  simp only[ZX,Y8,ZI];omega
def o8(r:ah)(lit:Int):List Lit:=if(an r lit).kind=4 then(an r lit).ar else[an r lit]
def bu(r:ah)(lit:Int):List Atom:=if lit<0 then[r.head] else(o8 r lit).flatMap b8
theorem P9(r:ah)(lit:Int)(h:0<=lit):n6 (.de 30 ((lit+1).toNat-lit.toNat) (fun j=>(r.body.getD (lit.toNat+j) em).c)) (lits [an r lit]):=by
 have e:(lit+1).toNat-lit.toNat=1:=by omega
 rw[e]
 exact .de Z (fun j b=>by
  have:j=0:=by omega
  subst this;rfl)
theorem Xd(r:ah)(lit:Int)(h1:lit<r.body.length)(hb:r.size<=1000000000000):Pure prog 162 [ag r.c,pI lit] (.iv (cZ 2 (bu r lit) Atom.c)):=by
 have S:=Lit.au r.body;have h0:Lit.az r.body<=r.size:=aaH _ _;refine ae ab func162 Z (by decide) ntmps162 Z (by simp) Z ?_;refine zJ Z Z (fun A=>?_) fun A=>?_
 .have A:lit<0:=by simpa using A
  refine gA Z (cS (by first|exact .inr Z|exact .inl Z) Z Z (by rw[bu,am A];rfl) (by rw[bu,am A];rfl))
 have A: ¬lit<0:=by simpa using A
 have hk:lit.toNat<r.body.length:=by omega
 have I:=Lit.aF r.body lit.toNat hk;have b0:=(an r lit).size_eq;have c0:=Lit.au (an r lit).ar;have a0:(an r lit).size<=Lit.az r.body:=I;refine zJ Z Z (fun B=>?_) fun B=>?_
 .have B:(an r lit).kind=4:=by simpa[an]using B
  have y:bu r lit=(an r lit).ar.flatMap b8:=by rw[bu,be A,o8,am B]
  refine gA Z ?_;refine fY 6 2 Z ?_;refine aw 0 ((an r lit).ar).length (Zf _) (fun i=>⟨[(6,.sl 2 0 ((((an r lit).ar).take i).flatMap b8).length 2),(30,.iv (lits ((an r lit).ar))),(31,pI ((an r lit).ar).length),(32,pI i)],[(2,io (aE 2 ((((an r lit).ar).take i).flatMap b8) Atom.c))],3⟩) (fun _=>True) [1] ac
   (zM (bv ⟨.iv (kG _),rfl,bv (bv trivial)⟩) (zS trivial)) fun i Y _=>?_
  have G:=mB (((an r lit).ar).take i);have J:(((an r lit).ar).take i).length<=((an r lit).ar).length:=by rw[ZP];exact Nat.min_le_right _ _
  have F:((an r lit).ar).length<=1000000000000:=by first|omega|(rw[ZH];omega)
  refine zJ Z Z (fun d=>?_) fun d=>?_
  .have d:i<((an r lit).ar).length:=zN d;have b:=bE (f:=b8) d;have j:((((an r lit).ar).getD i em).kind=1∨(((an r lit).ar).getD i em).kind=2)->(((an r lit).ar).take (i+1)).flatMap b8=(((an r lit).ar).take i).flatMap b8++ [(((an r lit).ar).getD i em).atom]:=fun h=>by rw[b,b8,am h]
   have D: ¬((((an r lit).ar).getD i em).kind=1∨(((an r lit).ar).getD i em).kind=2)->(((an r lit).ar).take (i+1)).flatMap b8=(((an r lit).ar).take i).flatMap b8:=fun h=>by rw[b,b8,be h,ZL]
   refine zJ Z Z (fun u=>?_) fun u=>?_
   .have u: ¬(((an r lit).ar).getD i em).kind=1:=by simpa using u
    refine zJ Z Z (fun x=>?_) fun x=>?_
    .have x:(((an r lit).ar).getD i em).kind=2:=by simpa using x
     have b:=j (.inr x);refine gA Z ⟨d,ac,[5],zM ⟨.row (by rw[b,Y8];rfl),rfl,bv (bv (bv ac))⟩ (hR Z (by rw[b,Ze];rfl) Z ac)⟩
    .have x: ¬(((an r lit).ar).getD i em).kind=2:=by simpa using x
     have b:=D (fun h=>h.elim u x);refine gA Z ⟨d,ac,[2],zM ⟨.row (by rw[b]),rfl,bv (bv (bv ac))⟩ (hR Z (by rw[b]) Z ac)⟩
   .have u:(((an r lit).ar).getD i em).kind=1:=by simpa using u
    have b:=j (.inl u);refine gA Z ⟨d,ac,[5],zM ⟨.row (by rw[b,Y8];rfl),rfl,bv (bv (bv ac))⟩ (hR Z (by rw[b,Ze];rfl) Z ac)⟩
  .have d:((an r lit).ar).length<=i:=zG d;rw[Zh d] at*
   refine gA Z (cS (by first|exact .inr Z|exact .inl Z) Z Z (by rw[y]) (by rw[y]))
 .have B: ¬(an r lit).kind=4:=by simpa[an]using B
  have y:bu r lit=[an r lit].flatMap b8:=by rw[bu,be A,o8,be B]
  refine gA Z ?_;refine fY 6 2 Z ?_;refine aw 0 ([an r lit]).length (Zf _) (fun i=>⟨[(6,.sl 2 0 ((([an r lit]).take i).flatMap b8).length 2),(30,.iv (lits ([an r lit]))),(31,pI ([an r lit]).length),(32,pI i)],[(2,io (aE 2 ((([an r lit]).take i).flatMap b8) Atom.c))],3⟩) (fun _=>True) [1] ac
   (zM (bv ⟨.iv (P9 r lit (by omega)),rfl,.of_eq (FG (by simp only[ZH];omega)),rfl,bv trivial⟩) (zS trivial)) fun i Y _=>?_
  have G:=mB (([an r lit]).take i);have J:(([an r lit]).take i).length<=([an r lit]).length:=by rw[ZP];exact Nat.min_le_right _ _
  have F:([an r lit]).length<=1000000000000:=by first|omega|(rw[ZH];omega)
  refine zJ Z Z (fun d=>?_) fun d=>?_
  .have d:i<([an r lit]).length:=zN d;have b:=bE (f:=b8) d;have j:((([an r lit]).getD i em).kind=1∨(([an r lit]).getD i em).kind=2)->(([an r lit]).take (i+1)).flatMap b8=(([an r lit]).take i).flatMap b8++ [(([an r lit]).getD i em).atom]:=fun h=>by rw[b,b8,am h]
   have D: ¬((([an r lit]).getD i em).kind=1∨(([an r lit]).getD i em).kind=2)->(([an r lit]).take (i+1)).flatMap b8=(([an r lit]).take i).flatMap b8:=fun h=>by rw[b,b8,be h,ZL]
   refine zJ Z Z (fun u=>?_) fun u=>?_
   .have u: ¬(([an r lit]).getD i em).kind=1:=by simpa using u
    refine zJ Z Z (fun x=>?_) fun x=>?_
    .have x:(([an r lit]).getD i em).kind=2:=by simpa using x
     have b:=j (.inr x);refine gA Z ⟨d,ac,[5],zM ⟨.row (by rw[b,Y8];rfl),rfl,bv (bv (bv ac))⟩ (hR Z (by rw[b,Ze];rfl) Z ac)⟩
    .have x: ¬(([an r lit]).getD i em).kind=2:=by simpa using x
     have b:=D (fun h=>h.elim u x);refine gA Z ⟨d,ac,[2],zM ⟨.row (by rw[b]),rfl,bv (bv (bv ac))⟩ (hR Z (by rw[b]) Z ac)⟩
   .have u:(([an r lit]).getD i em).kind=1:=by simpa using u
    have b:=j (.inl u);refine gA Z ⟨d,ac,[5],zM ⟨.row (by rw[b,Y8];rfl),rfl,bv (bv (bv ac))⟩ (hR Z (by rw[b,Ze];rfl) Z ac)⟩
  .have d:([an r lit]).length<=i:=zG d;rw[Zh d] at*
   refine gA Z (cS (by first|exact .inr Z|exact .inl Z) Z Z (by rw[y]) (by rw[y]))
theorem d110(p:Prog)(r:ah)(lit:Int)(h1:lit<r.body.length)(hb:r.size<=1000000000000):bW prog 160 [pI lit,.ptr 0 0,.ptr 1 0] [aj r.c,.cells [.iv (di p)]] (pB ((bu r lit).any fun x=>lZ p x)) [(0,io (aj r.c)),(1,io (.cells [.iv (di p)]))] 2:=by
 refine aB ab func160 Z (by decide) ntmps160 Z (by simp) ?_;refine gA Z (zp (Xd r lit h1 hb) ?_);refine gA Z (zq [1] (WV p (bu r lit)) ?_);refine gA Z (zD [] Z (zW (zK (zO ac))))
theorem d114(p:Prog)(r:ah)(lit:Int)(h1:lit<r.body.length)(hb:r.size<=1000000000000):bW prog 164 [pI lit,.ptr 0 0,.ptr 1 0] [aj r.c,.cells [.iv (di p)]] (pB ((bu r lit).any fun x=>nj p x)) [(0,io (aj r.c)),(1,io (.cells [.iv (di p)]))] 2:=by
 refine aB ab func164 Z (by decide) ntmps164 Z (by simp) ?_;refine gA Z (zp (Xd r lit h1 hb) ?_);refine gA Z (zq [1] (WU p (bu r lit)) ?_);refine gA Z (zD [] Z (zW (zK (zO ac))))
def dF(r:ah)(lit:Int):Bool:=if lit<0 then r.head.ad.any fun x=>li (x.kind=3) else if(an r lit).kind=4 then((an r lit).ar.any fun x=>li (x.kind=4))||aH (bd (an r lit).agg) (an r lit).a8 else lc
theorem YN(r:ah)(lit:Int)(h1:lit<r.body.length)(hb:r.size<=100000000):Pure prog 167 [ag r.c,pI lit] (pB (dF r lit)):=by
 have F:=Lit.au r.body;have S:Lit.az r.body<=r.size:=aaH _ _;refine ae ab func167 Z (by decide) ntmps167 Z (by simp) Z ?_;refine zJ Z Z (fun b=>?_) fun b=>?_
 .have b:lit<0:=by simpa using b
  refine gA Z (zq [] (d157 r.head.ad) ?_);refine gA Z (zL (.of_eq ?_));rw[dF,am b];rfl
 have b: ¬lit<0:=by simpa using b
 have G:lit.toNat<r.body.length:=by omega
 have A:=Lit.aF r.body lit.toNat G;have B:=(an r lit).fC;have I:(an r lit).size<=Lit.az r.body:=A;have D:=mZ (an r lit).agg;refine zJ Z Z (fun d=>?_) fun d=>?_
 .have d: ¬(an r lit).kind=4:=by simpa[an]using d
  refine gA Z (zL (.of_eq ?_));rw[dF,be b,be d]
 have d:(an r lit).kind=4:=by simpa[an]using d
 refine gA Z (bM [] (bW.le (aa:=[.iv (uL (an r lit).ar),.du (.func 195) [] []]) (d159 (an r lit).ar) ⟨.iv (kG _),.refl _,ac⟩) Z Z Z Z Z Z Z Z ?_);refine zE Z Z (fun j=>?_) fun j=>?_
 .have j:((an r lit).ar.any fun x=>li (x.kind=4))=lc:=j;have y:=bz (bd (an r lit).agg) (an r lit).a8;have u:=cI (occ:=bd (an r lit).agg) (s:=(an r lit).a8);refine gA Z (zd [] (d127 (an r lit).agg (by omega)) ?_);refine gA Z (zL (.of_eq ?_));refine(fV ?_:pB (li (bU .str (aC (bd (an r lit).agg)) (an r lit).a8 0>0))=_);rw[dF,be b,am d,j,u,y,aan];by_cases J:rW (bd (an r lit).agg) (an r lit).a8=0<;>simp[J];omega
 .have j:((an r lit).ar.any fun x=>li (x.kind=4))=kw:=j;refine gA Z (zL (.of_eq ?_));rw[dF,be b,am d,j];rfl
theorem d116(r:ah)(lit:Int)(h1:lit<r.body.length)(hb:r.size<=100000000):bW prog 166 [pI lit,.ptr 0 0] [aj r.c] (pB (dF r lit)) [(0,io (aj r.c))] 1:=by
 refine aB ab func166 Z (by decide) ntmps166 Z (by simp) ?_;refine gA Z (zp (YN r lit h1 hb) ?_);refine gA Z (zD [] Z (zW (zK ac)))
def fx(r:ah)(lit:Int):Pos:=if lit<0 then r.at_ else(an r lit).at
theorem MM(r:ah)(lit:Int)(h1:lit<r.body.length):Pure prog 171 [ag r.c,pI lit] (ag [iI (fx r lit).line,iI (fx r lit).zy]):=by
 refine ae ab func171 Z (by decide) ntmps171 Z (by simp) Z ?_;refine zJ Z Z (fun b=>?_) fun b=>?_
 .have b:lit<0:=by simpa using b
  refine gA Z (zL (.of_eq ?_));rw[fx,am b];rfl
 have b: ¬lit<0:=by simpa using b
 refine gA Z (zL (.of_eq ?_));rw[fx,be b];rfl
def kF(r:ah)(l:Lit):Nat:=if l.kind=4 then(lR r l.agg).length else 0
def tZ(r:ah):Nat:=r.body.foldl (fun n l=>n+kF r l) (aC (aA r)).length
theorem vz(r:ah)(l:Lit):kF r l<=l.size:=by
 unfold kF;split
 .have b:(lR r l.agg).length<=(aC (bd l.agg)).length:=aak _ _;have d:=kT (bd l.agg);have j:=mZ l.agg;have u:=l.fC;omega
 .omega
theorem xF(r:ah): ∀(l:List Lit) (n:Nat),l.foldl (fun n l=>n+kF r l) n<=n+Lit.az l
 | [],n=>by simp
 |x::t,n=>by
  have b:=xF r t (n+kF r x);have d:=vz r x;simp only[ZD,Lit.az];omega
theorem YO(r:ah)(hb:r.size<=100000000):Pure prog 159 [.iv (db r)] (pI (tZ r)):=by
 have A:=Lit.au r.body;have I:Lit.az r.body<=r.size:=aaH _ _;have S:=oU r;have B:=kT (aA r);refine ae ab func159 Z (by decide) ntmps159 Z (by simp) Z ?_;refine gA Z ?_;refine aw 0 r.body.length (Zf _) (fun i=>⟨[(0,.iv (db r)),(3,pI (((r.body.take i).foldl (fun n l=>n+kF r l) (aC (aA r)).length:Nat))),(15,.iv (lits r.body)),(16,pI r.body.length),(17,pI i)],[],0⟩) (fun _=>True) [] ac
  (zW trivial) fun i J _=>?_
 have D:=xF r (r.body.take i) (aC (aA r)).length;have F:=Lit.sU r.body i;refine zJ Z Z (fun d=>?_) fun d=>?_
 .have d:=ci d;have u:=cK (g:=fun n l=>n+kF r l) (b:=(aC (aA r)).length) d;have G:=Lit.aF r.body i d;have y:=(r.body.getD i em).fC;have x:=vz r (r.body.getD i em);refine zJ Z Z (fun j=>?_) fun j=>?_
  .have j:(r.body.getD i em).kind=4:=by simpa using j
   rw[kF,am j]at u x;refine gA Z (zq [] (d79 r (r.body.getD i em).agg (by omega)) ?_);refine gA Z ⟨d,ac,[],zM (bv ⟨.of_eq (FG (by rw[u];rfl)),rfl,bv (bv (bv ac))⟩) ac⟩
  .have j: ¬(r.body.getD i em).kind=4:=by simpa using j
   rw[kF,be j]at u;refine gA Z ⟨d,ac,[],zM (bv ⟨.of_eq (FG (by rw[u];rfl)),rfl,bv (bv (bv ac))⟩) ac⟩
 .have d:=co d;refine gA Z (zL (.of_eq ?_));rw[Zh d];rfl
section
section
variable {may:List ak->Expr->Bool} {more:List ak->eO->Bool} {body:List Lit}
theorem wu: ∀(n:Nat) (occ:List ak),bN (bK body) occ<n->cO (may (dT may more body n occ)) (more (dT may more body n occ)) (dT may more body n occ) body=jp
 |0,occ,h=>by omega
 |n+1,occ,h=>by
  cases hv:cO (may occ) (more occ) occ body with
  |none=>rw[gi hv];exact hv
  |some v=>
   rw[gh hv];refine wu n _ ?_;obtain⟨g1,g2⟩:=mS hv;have d:=oZ g1 g2;have b:bN (bK body) (occ++ [v])=bN (bK body) (b6 occ v):=by
    unfold bN;congr 2
    funext x
    congr 1;rw[ZW,aM,aM,ct,Zm,Zk]
   omega
theorem wy(occ:List ak):cO (may (cT may more body occ)) (more (cT may more body occ)) (cT may more body occ) body=jp:=by
 refine wu _ _ ?_;have b:=o5 (bK body) (occ++body.flatMap bP);have d:=jS body;omega
theorem qS: ∀(n:Nat) (occ:List ak),∀x∈occ,x∈dT may more body n occ
 |0,occ,x,h=>h
 |n+1,occ,x,h=>by
  cases hv:cO (may occ) (more occ) occ body with
  |none=>rw[gi hv];exact h
  |some v=>rw[gh hv];exact qS n _ x (ZJ _ h)
theorem qJ{m1:Expr->Bool}{m2:eO->Bool}{occ:List ak}: ∀{l:List Lit},cO m1 m2 occ l=jp-> ∀x∈l,mD m1 m2 occ x=jp
 | [],_,x,hx=>by cases hx
 |y::r,h,x,hx=>by
  simp only[cO]at h;split at h
  .cases h
  .rename_i b;rcases Zq.1 hx with rfl|hx
   .exact b
   .exact qJ h x hx
theorem wh{m1:Expr->Bool}{m2:eO->Bool}{occ:List ak}{v:ak}: ∀{l:List Lit},cO m1 m2 occ l=io v-> ∃x∈l,mD m1 m2 occ x=io v
 | [],h=>by cases h
 |y::r,h=>by
  simp only[cO]at h;split at h
  .rename_i w d;exact⟨y,Zo,d.trans h⟩
  .obtain⟨x,j,b⟩:=wh h;exact⟨x,Zn _ j,b⟩
variable (hmay: ∀a b:List ak,(∀x∈a,x∈b)-> ∀e,may a e=kw->may b e=kw) (hmore: ∀a b:List ak,(∀x∈a,x∈b)-> ∀e,more a e=kw->more b e=kw)
include hmay hmore
theorem Hg{occ C:List ak}(b: ∀x∈occ,x∈C){l:Lit}{v:ak}(h:mD (may occ) (more occ) occ l=io v)(hC:mD (may C) (more C) C l=jp):v∈C:=by
 have D: ∀y,y∉C->aH C y=lc:=fun y I=>ef.2 I;have hnew:=(yd h).2;refine aao fun F=>?_;unfold mD at h hC;by_cases d:(gn (may occ) occ l).2=kw
 .rw[am d]at h;simp only[Y9]at h;have B:(gn (may C) C l).2=kw:=by
   unfold gn at d h ⊢;split at d
   .cases d
   .rename_i G;rw[be G]at h ⊢;split at d
    .rename_i u;rw[am u]at h;have A:l.left.var=v:=h;rw[am ⟨u.1,by rw[A];exact D v F,hmay occ C b _ u.2.2⟩]
    .rename_i u;rw[be u]at h;split at d
     .rename_i j;rw[am j]at h;have A:l.right.var=v:=h;split
      .rfl
      .rw[am ⟨j.1,by rw[A];exact D v F,hmay occ C b _ j.2.2⟩]
     .cases d
  rw[am B]at hC;cases hC
 .rw[be d]at h;split at h
  .rename_i j;simp only[Y9]at h;split at hC
   .cases hC
   .rw[am ⟨j.1,by rw[h];exact D v F,hmore occ C b _ j.2.2⟩]at hC;cases hC
  .cases h
theorem qR{C:List ak}(hC:cO (may C) (more C) C body=jp): ∀(n:Nat) (occ:List ak),(∀x∈occ,x∈C)-> ∀x∈dT may more body n occ,x∈C
 |0,occ,h,x,hx=>h x hx
 |n+1,occ,h,x,hx=>by
  cases hv:cO (may occ) (more occ) occ body with
  |none=>rw[gi hv]at hx;exact h x hx
  |some v=>
   rw[gh hv]at hx;refine qR hC n _ (fun y hy=>?_) x hx;rcases Zm.1 hy with hy|hy
   .exact h y hy
   .rw[Zk]at hy;subst hy;obtain⟨l,d,b⟩:=wh hv;exact Hg hmay hmore h b (qJ hC l d)
theorem wv{d b:List ak}(h: ∀x∈d,x∈b): ∀x∈cT may more body d,x∈cT may more body b:=by
 refine qR hmay hmore (wy b) _ _ fun x hx=>?_;refine qS _ _ x ?_;rcases Zm.1 hx with hx|hx
 .exact ZJ _ (h x hx)
 .exact aaA _ hx
end
theorem lW(a b:List ak)(h: ∀x∈a,x∈b)(e:Expr)(hc:aU a e=kw):aU b e=kw:=by
 unfold aU at*
 rw[ZA] at*
 exact fun x d=>aM.2 (h x (aM.1 (hc x d)))
theorem DK(a b:List ak)(h: ∀x∈a,x∈b)(e:Expr)(hc:c8 a e=kw):c8 b e=kw:=by
 unfold c8 at*
 cases hk:li (e.kind=2) with
 |true=>simp
 |false=>
  rw[hk,aan,Zw]at hc;rw[aan,Zw];exact⟨hc.1,aM.2 (h _ (aM.1 hc.2))⟩
theorem FP(out:List ak)(a b:List ak)(h: ∀x∈a,x∈b)(e:eO)(hc:jb out a e=kw):jb out b e=kw:=by
 unfold jb at*
 rw[ZA] at*
 intro x d;have:=hc x d;rw[aas,aas] at*
 rcases this with h1|h1|h1
 .exact .inl h1
 .exact .inr (.inl h1)
 .exact .inr (.inr (aM.2 (h _ (aM.1 h1))))
def yq(r:ah)(a:eO):List ak:=((aC (bd a)).map (·.1)).filter fun x=>aH (aA r) x
def B4(r:ah)(a:eO):List ak:=cT (fun b=>aU b) (fun _=>fun _=>lc) a.body (yq r a)
theorem PX{r:ah}{a:eO}{occ:List ak}(h:LG r a occ)(s:ak):aH (cT (fun occ=>aU occ) (fun _=>fun _=>lc) a.body occ) s=aH (B4 r a) s:=by
 have d: ∀x,x∈yq r a↔x∈occ:=fun x=>by
  unfold yq;rw[ZM,(cm (bd a)).2 x,aM,h.2 x]
 rw[ZW,aM,aM];exact⟨wv (more:=fun _=>fun _=>lc) lW (fun _ _ _ _ h=>h) (fun x b=>(d x).2 b) s,wv (more:=fun _=>fun _=>lc) lW (fun _ _ _ _ h=>h) (fun x b=>(d x).1 b) s⟩
def tk(r:ah)(m:NM):Bool:=m.any fun x=>!aH (ch r) x.1
theorem qu{r:ah}{m:NM}(h: ∀j,j<m.length-> ∀x,m[j]? =io x->aH (ch r) x.1=kw):tk r m=lc:=by
 refine Z3.2 fun x d=>?_;obtain⟨j,b⟩:=Z7 d;rw[h j (Zb.1 b).1 x b];simp
theorem tj{r:ah}{m:NM}{j:Nat}{x:(KC.str).K×Int}(h:m[j]? =io x)(b:aH (ch r) x.1=lc):tk r m=kw:=
 ZZ.2 ⟨x,ZC h,by rw[b];rfl⟩
def mJ(r:ah)(a:eO):NM:=(aC (bd a)).filter fun x=>!aH ((lR r a).map (·.1)) x.1
def dN(r:ah)(lit:Int):Bool:=
 if lit<0 then tk r (aC (cL r.head))
 else if(an r lit).kind=4 then(lR r (an r lit).agg).any (fun x=>!aH (B4 r (an r lit).agg) x.1)||tk r (bump (mJ r (an r lit).agg) (an r lit).a8)
 else tk r (aC (cf (an r lit)))
theorem XT(a:Atom)(hb:a.ad.length<=100000000000):bW prog 135 [.mp 0,ag a.c] [.gP] (.bQ []) [(0,io (cx (aC (cL a))))] 1:=
 bW.SI (d88 [] a (by simp;omega)) ⟨xb,ac⟩
theorem XS(l:Lit)(hb:l.size<=100000000000):bW prog 136 [.mp 0,ag l.c] [.gP] (.bQ []) [(0,io (cx (aC (cf l))))] 1:=
 bW.SI (d89 l [] (by simp;omega)) ⟨xb,ac⟩
theorem AD(f:ak->Bool)(s:ak): ∀(m:NM),bU .str (m.filter fun x=>f x.1) s 0=if f s=kw then bU .str m s 0 else 0
 | []=>by simp[bU]
 |(a,b)::r=>by
  have d:=AD f s r;cases hf:f a with
  |true=>
   rw[List.filter_cons_of_pos (by exact hf)];simp only[bU];split
   .rename_i h;subst h;rw[am hf]
   .exact d
  |false=>
   rw[List.filter_cons_of_neg (by simp[hf]),d];simp only[bU];split
   .rename_i h;split
    .rename_i j;subst j;rw[hf]at h;cases h
    .rfl
   .rfl
theorem P6(r:ah)(a:eO)(s:ak):0<=bU .str (mJ r a) s 0∧bU .str (mJ r a) s 0<=rW (bd a) s:=by
 have b:=bz (bd a) s;have d:=AD (fun x=>!aH ((lR r a).map (·.1)) x) s (aC (bd a));unfold mJ;rw[d,b];split<;>omega
set_option maxHeartbeats 2000000 in
theorem YL(r:ah)(lit:Int)(hl:lit<r.body.length)(hb:r.size<=10000000):Pure prog 170 [.iv (db r),pI lit] (pB (dN r lit)):=by
 have t0:=Lit.au r.body;have h0:Lit.az r.body<=r.size:=aaH _ _;have q0:r.head.ad.length<=r.size:=Nat.le_add_right _ _;have y0:=FZ r;refine ae ab func170 Z (by decide) ntmps170 Z (by simp) Z ?_;refine gA Z (zq [] (d73 r (by omega)) ?_);refine zJ Z Z (fun F=>?_) fun F=>?_
 .have F:lit<0:=by simpa using F
  refine gA Z (zq [1] (XT r.head (by omega)) ?_);refine gA Z ?_;have e0:(aC (cL r.head)).length<=1000000000000:=by have:=kT (cL r.head);have:=iE r.head;omega
  refine jy (aC (cL r.head)) (fun d=>⟨[(5,.mp 0),(76,.ptr 2 0)],[(0,io (cx (aC (ch r)))),(2,io (.cF .str A8 (aC (cL r.head)) d jp))],3⟩) (fun d=> ∀j∈d,∀x,(aC (cL r.head))[j]? =io x->aH (ch r) x.1=kw) [] (by simp)
   (zW (zC (hI Z Z (.inl Z) Z trivial))) fun d G=>?_
  refine nV Z ac (fZ Z Z Z Z Z (by decide) (fun u=>?_) fun j x b B=>?_)
  .refine gA Z (zL (.of_eq ?_));refine(fV ?_:pB lc=_);rw[dN,am F,qu fun j B x b=>G j (u j B) x b]
  .have Y:=bz (ch r) x.1;have A:=cI (occ:=ch r) (s:=x.1);refine zJ Z Z (fun g1=>?_) fun g1=>?_
   .have g1:aH (ch r) x.1=lc:=by
     have:=zT g1;rw[A];simp;omega
    refine gA Z (zL (.of_eq ?_));refine(fV ?_:pB kw=_);rw[dN,am F,tj b g1]
   .have g1:aH (ch r) x.1=kw:=by
     have:=zF g1;rw[A];simp;omega
    refine gA Z ?_
    exact⟨j,x,b,B,fun i hi y D=>by
     rcases Zq.1 hi with rfl|hi
     .rw[b]at D;cases D;exact g1
     .exact G i hi y D,[],zW (zC (hI Z Z (.inr Z) Z ac))⟩
 have F: ¬lit<0:=by simpa using F
 have hk:lit.toNat<r.body.length:=by omega
 have p0:=Lit.aF r.body lit.toNat hk;have r0:=(an r lit).fC;have w0:(an r lit).size<=Lit.az r.body:=p0;have s0:=mZ (an r lit).agg;have n0:=pb (an r lit);refine zE Z Z (fun I=>?_) fun I=>?_
 .have I: ¬(an r lit).kind=4:=by simpa[an]using I
  refine gA Z (zq [1] (XS (an r lit) (by omega)) ?_);refine gA Z ?_;have e0:(aC (cf (an r lit))).length<=1000000000000:=by have:=kT (cf (an r lit));omega
  refine jy (aC (cf (an r lit))) (fun d=>⟨[(5,.mp 0),(76,.ptr 3 0)],[(0,io (cx (aC (ch r)))),(3,io (.cF .str A8 (aC (cf (an r lit))) d jp))],4⟩) (fun d=> ∀j∈d,∀x,(aC (cf (an r lit)))[j]? =io x->aH (ch r) x.1=kw) [] (by simp)
   (zW (zC (hI Z Z (.inl Z) Z trivial))) fun d G=>?_
  refine nV Z ac (fZ Z Z Z Z Z (by decide) (fun u=>?_) fun j x b B=>?_)
  .refine gA Z (zL (.of_eq ?_));refine(fV ?_:pB lc=_);rw[dN,be F,be I,qu fun j B x b=>G j (u j B) x b]
  .have Y:=bz (ch r) x.1;have A:=cI (occ:=ch r) (s:=x.1);refine zJ Z Z (fun g1=>?_) fun g1=>?_
   .have g1:aH (ch r) x.1=lc:=by
     have:=zT g1;rw[A];simp;omega
    refine gA Z (zL (.of_eq ?_));refine(fV ?_:pB kw=_);rw[dN,be F,be I,tj b g1]
   .have g1:aH (ch r) x.1=kw:=by
     have:=zF g1;rw[A];simp;omega
    refine gA Z ?_
    exact⟨j,x,b,B,fun i hi y D=>by
     rcases Zq.1 hi with rfl|hi
     .rw[b]at D;cases D;exact g1
     .exact G i hi y D,[],zW (zC (hI Z Z (.inr Z) Z ac))⟩
 have I:(an r lit).kind=4:=by simpa[an]using I
 refine gA Z (HD [] (d161 r (an r lit).agg (by omega)) Z Z Z Z Z Z Z fun q h' n' hR=>?_);obtain⟨ok,⟨occ,i0,o0⟩,rfl,rfl,rfl⟩:=hR;have a0: ∀s,aH ok s=aH (B4 r (an r lit).agg) s:=fun s=>by rw[o0];exact PX i0 s
 refine⟨_,rfl,?_⟩;have a1:=kT (bd (an r lit).agg);have x0:(lR r (an r lit).agg).length<=(aC (bd (an r lit).agg)).length:=aak _ _;have v0:(mJ r (an r lit).agg).length<=(aC (bd (an r lit).agg)).length:=aak _ _;have j0:=(cm (bd (an r lit).agg)).1;refine gA Z (zq [] (d79 r (an r lit).agg (by omega)) ?_);refine gA Z ?_;refine jy (lR r (an r lit).agg) (fun d=>⟨[(0,.iv (db r)),(5,.mp 0),(7,.ptr 2 0),(8,.mp 3),(43,.ptr 5 0)],[(0,io (cx (aC (ch r)))),(2,io (aj (an r lit).c)),(3,io (cx (aC ok))),(5,io (.cF .str A8 (lR r (an r lit).agg) d jp))],6⟩) (fun d=> ∀j∈d,∀x,(lR r (an r lit).agg)[j]? =io x->aH (B4 r (an r lit).agg) x.1=kw) [] (by simp)
  (zW (zC (zK (zC (hI Z Z (.inl Z) Z trivial))))) fun d G=>?_
 refine nV Z ac (fZ Z Z Z Z Z (by decide) (fun u=>?_) fun j x b B=>?_);rotate_left
 .have Y:=bz ok x.1;have A:=cI (occ:=ok) (s:=x.1);have J:=a0 x.1;refine zJ Z Z (fun g1=>?_) fun g1=>?_
  .have g1:aH (B4 r (an r lit).agg) x.1=lc:=by
    have:=zT g1;rw[<-J,A];simp;omega
   refine gA Z (zL (.of_eq ?_));refine(fV ?_:pB kw=_);rw[dN,be F,am I,ZZ.2 ⟨x,ZC b,by rw[g1];rfl⟩,abF]
  .have g1:aH (B4 r (an r lit).agg) x.1=kw:=by
    have:=zF g1;rw[<-J,A];simp;omega
   refine gA Z ?_
   exact⟨j,x,b,B,fun i hi y D=>by
    rcases Zq.1 hi with rfl|hi
    .rw[b]at D;cases D;exact g1
    .exact G i hi y D,[],zW (zC (zK (zC (hI Z Z (.inr Z) Z ac))))⟩
 have hA:(lR r (an r lit).agg).any (fun x=>!aH (B4 r (an r lit).agg) x.1)=lc:=Z3.2 fun x b=>by
  obtain⟨j,B⟩:=Z7 b;rw[G j (u j (Zb.1 B).1) x B];simp
 refine gA Z (zq [] (d127 (an r lit).agg (by omega)) ?_);refine gA Z (zq [] (d79 r (an r lit).agg (by omega)) ?_);refine gA Z ?_;refine jy (lR r (an r lit).agg) (fun d=>⟨[(5,.mp 0),(6,.mp 6),(7,.ptr 2 0),(59,.ptr 8 0)],[(0,io (cx (aC (ch r)))),(2,io (aj (an r lit).c)),(6,io (cx ((jw (lR r (an r lit).agg) d).foldl (fun m k=>pT .str m k) (aC (bd (an r lit).agg))))),(8,io (.cF .str A8 (lR r (an r lit).agg) d jp))],9⟩) (fun d=>d.Nodup∧ ∀j∈d,j<(lR r (an r lit).agg).length) [] ⟨aab,by simp⟩
  (zW (zC (zK (zC (hI Z Z (.inl Z) Z trivial))))) fun b0 f0=>?_
 obtain⟨c0,d0⟩:=f0;refine nV Z ac (fZ Z Z Z Z Z (by decide) (fun S=>?_) fun j x b B=>?_);rotate_left
 .have hk:=nC (lR r (an r lit).agg) b0 j x b;refine gA Z ⟨j,x,b,B,⟨aat.2 ⟨B,c0⟩,fun i hi=>(Zq.1 hi).elim (fun h=>h▸(Zb.1 b).1) (d0 i)⟩,[],zW (zC (zK (hM Z (by rw[hk,aaE];rfl) Z (hI Z Z (.inr Z) Z ac))))⟩
 have k0:(jw (lR r (an r lit).agg) b0).foldl (fun m k=>pT .str m k) (aC (bd (an r lit).agg))=mJ r (an r lit).agg:=by
  rw[qP _ j0];unfold mJ;congr 1
  funext x
  congr 1;rw[ZW,aM,aM,(mI _ b0 c0 d0 S).mem_iff]
 rw[k0];have m0:=P6 r (an r lit).agg (an r lit).a8;have g0:=fa (bd (an r lit).agg) (an r lit).a8;refine gA Z ?_;have e0:(bump (mJ r (an r lit).agg) (an r lit).a8).length<=1000000000000:=by have:=xV (mJ r (an r lit).agg) (an r lit).a8 (bU .str (mJ r (an r lit).agg) (an r lit).a8 0+1);unfold bump;omega
 refine jy (bump (mJ r (an r lit).agg) (an r lit).a8) (fun d=>⟨[(5,.mp 0),(76,.ptr 9 0)],[(0,io (cx (aC (ch r)))),(9,io (.cF .str A8 (bump (mJ r (an r lit).agg) (an r lit).a8) d jp))],10⟩) (fun d=> ∀j∈d,∀x,(bump (mJ r (an r lit).agg) (an r lit).a8)[j]? =io x->aH (ch r) x.1=kw) [] (by simp)
  (zW (zC (hI Z Z (.inl Z) Z trivial))) fun d G=>?_
 refine nV Z ac (fZ Z Z Z Z Z (by decide) (fun u=>?_) fun j x b B=>?_)
 .refine gA Z (zL (.of_eq ?_));refine(fV ?_:pB lc=_);rw[dN,be F,am I,hA,aan,qu fun j B x b=>G j (u j B) x b]
 .have Y:=bz (ch r) x.1;have A:=cI (occ:=ch r) (s:=x.1);refine zJ Z Z (fun g1=>?_) fun g1=>?_
  .have g1:aH (ch r) x.1=lc:=by
    have:=zT g1;rw[A];simp;omega
   refine gA Z (zL (.of_eq ?_));refine(fV ?_:pB kw=_);rw[dN,be F,am I,hA,aan,tj b g1]
  .have g1:aH (ch r) x.1=kw:=by
    have:=zF g1;rw[A];simp;omega
   refine gA Z ?_
   exact⟨j,x,b,B,fun i hi y D=>by
    rcases Zq.1 hi with rfl|hi
    .rw[b]at D;cases D;exact g1
    .exact G i hi y D,[],zW (zC (hI Z Z (.inr Z) Z ac))⟩
end
end Go.Proofs.YtflegjieadkonaaGreatDoor
namespace Go.Proofs.YtflegjieadkonaaGreatDoor
open Go Go.Al
def JO(a b:ak):Prop:=pO a<pO b
theorem Bg(a b:ak):Op.bytesLess a.toList b.toList=kw↔JO a b:=by
 rw[ByteArray.toList_eq,ByteArray.toList_eq,bytesLess_eq,decide_eq_true_eq];rfl
theorem BA{a b:ak}(h:pO a=pO b):a=b:=by rw[<-w7 a,<-w7 b,h]
theorem vv{a b c:ak}(h:JO a b)(k:JO b c):JO a c:=List.lt_trans h k
theorem kE(a:ak): ¬JO a a:=List.lt_irrefl _
theorem Hh{a b:ak}(h: ¬a=b)(k: ¬JO a b):JO b a:=by
 refine aao fun d=>h (BA (ab9 ?_ ?_))
 .exact acy.1 d
 .exact acy.1 k
abbrev pX(l:List ak):Prop:=l.Pairwise JO
theorem tq: ∀{l:List ak} (_:pX l) (s:ak),pX (ins l s)
 | [],_,s=>List.pairwise_singleton _ _
 |x::r,h,s=>by
  obtain⟨j,u⟩:=aay.1 h;simp only[ins];split
  .exact h
  .rename_i d;split
   .rename_i b;have b:=(Bg x s).1 b;refine aay.2 ⟨fun y hy=>?_,tq u s⟩;rcases xa.1 hy with hy|rfl
    .exact j y hy
    .exact b
   .rename_i b;have b:JO s x:=Hh d fun h=>b ((Bg x s).2 h);refine aay.2 ⟨fun y hy=>?_,h⟩;rcases Zq.1 hy with rfl|hy
    .exact b
    .exact vv b (j y hy)
theorem jW{l:List ak}(h:pX l)(s:ak):pX (b6 l s):=by rw[re];exact tq h s
theorem fq: ∀{m l:List ak} (_:pX l),pX (cy l m)
 | [],_,h=>h
 |x::r,_,h=>fq (m:=r) (jW h x)
theorem mv: ∀{a b:List ak},pX a->pX b->(∀x,x∈a↔x∈b)->a=b
 | [],[],_,_,_=>rfl
 | [],y::s,_,_,h=>by have:=(h y).2 Zo;cases this
 |x::r,[],_,_,h=>by have:=(h x).1 Zo;cases this
 |x::r,y::s,ha,hb,h=>by
  obtain⟨u,a2⟩:=aay.1 ha;obtain⟨A,B⟩:=aay.1 hb;have j:x=y:=by
   rcases Zq.1 ((h x).1 Zo) with h1|h1
   .exact h1
   .rcases Zq.1 ((h y).2 Zo) with h2|h2
    .exact h2.symm
    .exact absurd (vv (A x h1) (u y h2)) (kE _)
  subst j;rw[mv a2 B fun z=>?_];constructor
  .intro d;rcases Zq.1 ((h z).1 (Zn _ d)) with rfl|h3
   .exact absurd (u z d) (kE _)
   .exact h3
  .intro d;rcases Zq.1 ((h z).2 (Zn _ d)) with rfl|h3
   .exact absurd (A z d) (kE _)
   .exact h3
theorem fS{l:List ak}(h:l.Nodup):pX (eQ l):=by
 have u:=kB (l.map pO);rw[<-u0]at u;have D:(eQ l).Nodup:=by
  have F:((eQ l).map pO).Perm (l.map pO):=by rw[u0];exact gX _
  have j:(l.map pO).Nodup:=List.Pairwise.map pO (fun a b d e=>d (BA e)) h;have:=F.nodup_iff.2 j;exact List.Pairwise.of_map pO (fun a b d e=>d (by rw[e])) this
 have x:(eQ l).Pairwise fun a b=>pO a<=pO b:=(List.pairwise_map.1 u).imp fun{a b} d=>zT d;refine(List.Pairwise.and x D).imp fun{a b} d=>?_;obtain⟨y,A⟩:=d;exact aao fun B=>A (BA (ab9 y (acy.1 B)))
theorem GC{m:NM}{l:List ak}(hm:(m.map (·.1)).Nodup)(b:pX l)(h: ∀x,x∈m.map (·.1)↔x∈l):fi m=l:=by
 refine mv (fS hm) b fun x=>?_;rw[fi,gu];exact h x
theorem C4{occ l:List ak}(b:pX l)(h: ∀x,x∈occ↔x∈l):fi (aC occ)=l:=
 GC (cm occ).1 b fun x=>((cm occ).2 x).trans (h x)
theorem sd{x:ak}: ∀{l:List Term} {a:List ak},x∈l.foldl lk a↔x∈a∨x∈l.flatMap fun t=>if t.kind=1 then[t.var] else[]
 | [],a=>by simp
 |t::r,a=>by
  rw[ZD,sd,ZX,Zm];unfold lk;split
  .rw[ct,Zk,or_assoc]
  .simp
theorem fW{x:ak}{a:Atom}:x∈bn a↔x∈cL a:=by
 unfold bn cL;rw[sd];simp
mutual
theorem dr{x:ak}: ∀{e:Expr},x∈aI e↔x∈bA e
 | .mk k v _ _ args=>by
  simp only[aI,bA];split
  .rw[ct];simp
  .split
   .rw[sj];simp
   .rfl
theorem sj{x:ak}: ∀{l:List Expr} {a:List ak},x∈gx a l↔x∈a∨x∈jh l
 | [],a=>by simp[gx,jh]
 |e::r,a=>by
  simp only[gx,jh];rw[sj,ij,dr,Zm,or_assoc]
end
theorem jc{x:ak}{l:Lit}:x∈cq l↔x∈cf l:=by
 unfold cq cf;split
 .exact fW
 .split
  .rw[ij,dr,dr,Zm]
  .rfl
theorem fy{x:ak}{a:eO}:x∈aG a↔x∈bd a:=by
 unfold aG bd;have key: ∀(l:List Lit) (b:List ak),x∈l.foldl JM b↔x∈b∨x∈l.flatMap cf:=by
  intro l
  induction l with
  |nil=>simp
  |cons y r ih=>
   intro b;rw[ZD,ih,ZX,Zm,ij,jc,or_assoc]
 rw[key,Zm];split
 .rfl
 .rw[dr]
theorem jN{x:ak}{r:ah}:x∈outer r↔x∈aA r:=by
 unfold outer aA;have key: ∀(l:List Lit) (b:List ak),x∈l.foldl vm b↔x∈b∨x∈l.flatMap ff:=by
  intro l
  induction l with
  |nil=>simp
  |cons y r ih=>
   intro b;rw[ZD,ih,ZX,Zm];by_cases d:y.kind=4
   .rw[DR d,show ff y=cf y++ [y.a8] by unfold ff;rw[am d],ct,ij,jc,Zm,Zk];simp only[or_assoc]
   .rw[DS d,show ff y=cf y by unfold ff;rw[be d,ZL],ij,jc,or_assoc]
 rw[key,Zm,fW]
theorem wV(a:Atom):pX (bn a):=by
 have key: ∀(l:List Term) (b:List ak),pX b->pX (l.foldl lk b):=by
  intro l
  induction l with
  |nil=>exact fun _ h=>h
  |cons t r ih=>
   intro b h;rw[ZD];refine ih _ ?_;unfold lk;split
   .exact jW h _
   .exact h
 exact key _ _ aaT
theorem B1(r:ah):pX (outer r):=by
 have key: ∀(l:List Lit) (b:List ak),pX b->pX (l.foldl vm b):=by
  intro l
  induction l with
  |nil=>exact fun _ h=>h
  |cons t r ih=>
   intro b h;rw[ZD];refine ih _ ?_;unfold vm;split
   .exact jW (fq h) _
   .exact fq h
 exact key _ _ (wV _)
theorem xy(r:ah):fi (aC (aA r))=outer r:=C4 (B1 r) fun _=>jN.symm
theorem rD{a b:List ak}(h: ∀x,x∈a↔x∈b)(x:ak):aH a x=aH b x:=by
 rw[ZW,aM,aM];exact h x
theorem wT: ∀(e:Expr),pX (aI e)
 | .mk k v _ _ args=>by
  simp only[aI];split
  .exact jW aaT _
  .split
   .rw[lV];have key: ∀(l:List Expr) (b:List ak),pX b->pX (l.foldl (fun a e=>cy a (aI e)) b):=by
     intro l
     induction l with
     |nil=>exact fun _ h=>h
     |cons t r ih=>intro b h;exact ih _ (fq h)
    exact key _ _ aaT
   .exact aaT
theorem Ci(a:eO):pX (aG a):=by
 have key: ∀(l:List Lit) (b:List ak),pX b->pX (l.foldl JM b):=by
  intro l
  induction l with
  |nil=>exact fun _ h=>h
  |cons t r ih=>intro b h;exact ih _ (fq h)
 refine key _ _ ?_;split
 .exact aaT
 .exact wT _
theorem Fo(r:ah)(lit:Int):tm r lit=mF r lit:=by
 unfold tm mF;split
 .rfl
 .refine GC (sa (cm _).1) ((Ci _).sublist abP) fun x=>?_
  unfold lR;have u:=(cm (bd (an r lit).agg)).2 x;rw[ZM,fy,rD (fun _=>jN) x,<-u];constructor
  .intro h;obtain⟨y,j,rfl⟩:=ZK.1 h;obtain⟨b,d⟩:=ZM.1 j;exact⟨ZK.2 ⟨y,b,rfl⟩,d⟩
  .rintro⟨b,d⟩;obtain⟨y,j,rfl⟩:=ZK.1 b;exact ZK.2 ⟨y,ZM.2 ⟨j,d⟩,rfl⟩
end Go.Proofs.YtflegjieadkonaaGreatDoor
namespace Go.Proofs.YtflegjieadkonaaGreatDoor
open Go Go.Al Go.Proofs.Tryz
def kW(r:ah):List ak:=tw kw (outer r) r.body []
theorem c32(r:ah)(hb:4*r.size<=1000000000000):Pure prog 252 [ag r.c] (.iv (strs (kW r))):=by
 have hu:=hb;unfold ah.size at hu;refine ae ab func252 Z (by decide) ntmps252 Z (by simp) Z ?_;refine gA Z (zp (S1 r (by omega)) ?_);refine gA Z (zp ((c74 r.body [] (outer r) kw (by simp;omega)).le (aa:=[.iv (lits r.body),.iv (.v (.slice jp 0 0)),.iv (strs (outer r)),pB kw]) ⟨.refl _,.nil _ _,.refl _,.refl _,ac⟩) ?_);exact zU Z
def vA(r:ah)(lit:Int):List ak:=(aG (an r lit).agg).foldl (fun k x=>if aH (outer r) x then b6 k x else k) []
def mG(r:ah)(lit:Int):List ak:=tw lc [] (an r lit).ar (vA r lit)
theorem wg(p:ak->Bool): ∀(l k:List ak),(l.foldl (fun k x=>if p x then b6 k x else k) k).length<=k.length+l.length
 | [],k=>by simp
 |x::r,k=>by
  have b:=wg p r (if p x then b6 k x else k);have j:=jD k x;simp only[ZD,ZI];split at b<;>rename_i d<;>simp only[d,if_true,aaG,if_false]<;>omega
theorem Yr(r:ah)(lit:Int)(h0:0<=lit)(h1:lit<r.body.length)(hb:8*r.size<=1000000000000):Pure prog 253 [ag r.c,pI lit] (.iv (strs (mG r lit))):=by
 have hu:=hb;unfold ah.size at hu;have F:lit.toNat<r.body.length:=by omega
 have I:(an r lit).size<=Lit.az r.body:=Lit.aF r.body lit.toNat F;have B:=(an r lit).fC;have D:=gv (an r lit).agg;have G:=(an r lit).size_eq;refine ae ab func253 Z (by decide) ntmps253 Z (by simp) Z ?_;refine gA Z (zp (S1 r (by omega)) ?_);refine gA Z (zp (Vl (an r lit).agg (by omega)) ?_);refine gA Z ?_;refine aw 0 (aG (an r lit).agg).length (Zf _) (fun i=>⟨[(5,.ptr 1 0),(6,.iv (strs (outer r))),(7,.iv (strs (((aG (an r lit).agg).take i).foldl (fun k x=>if aH (outer r) x then b6 k x else k) []))),(8,.iv (strs (aG (an r lit).agg))),(9,pI i)],[(1,io (aj (an r lit).agg.c1))],2⟩) (fun _=>True) [] ac
  ?_ fun i J _=>?_
 .refine zM (bv (bv ⟨.nil _ _,rfl,bv (bv ac)⟩)) ⟨⟨_,rfl,?_⟩,Y5 Z,mf _ _,ac⟩;rw[tF];exact fb.cells ⟨.refl _,.refl _,.refl _,.refl _,.refl _,.refl _,.refl _,.refl _,.refl _,.iv (kG _),ac⟩
 have j:=wg (aH (outer r)) ((aG (an r lit).agg).take i) [];simp only[aai,ZP]at j;refine zJ Z Z (fun d=>?_) fun d=>?_
 .have d:=ci d;have u:=cK (g:=fun k x=>if aH (outer r) x then b6 k x else k) (b:=[]) d;refine gA Z (bg (JB _ ((aG (an r lit).agg).getD i em)) Z Z Z Z Z Z ?_);refine zJ Z Z (fun y=>?_) fun y=>?_
  .rw[am y]at u;refine gA Z (bg (Nn _ _ (by omega)) Z Z Z Z Z Z ?_);refine gA Z ⟨d,ac,[],zM (bv (bv ⟨.of_eq (by rw[u];rfl),rfl,bv (bv ac)⟩)) (zK ac)⟩
  .rw[be (by rw[y];simp)]at u;refine gA Z ⟨d,ac,[],zM (bv (bv ⟨.of_eq (by rw[u];rfl),rfl,bv (bv ac)⟩)) (zK ac)⟩
 .have d:=co d;have A:((aG (an r lit).agg).take i).foldl (fun k x=>if aH (outer r) x then b6 k x else k) []=vA r lit:=mb d;rw[A]at j ⊢;refine gA Z (zp ((c74 (an r lit).ar (vA r lit) [] lc (by omega)).le (aa:=[.iv (lits (an r lit).ar),.iv (strs (vA r lit)),.iv (.v (.slice jp 0 0)),pB lc]) ⟨.refl _,.refl _,.nil _ _,.refl _,ac⟩) ?_);exact zU Z
theorem EO{l:Lit}{k:List ak}(h:(dS l k).2=kw):((dS l k).1=l.left.var∨(dS l k).1=l.right.var)∧(dS l k).1∉k:=by
 unfold dS at h ⊢;split at h
 .cases h
 .rename_i j;rw[be j];split at h
  .rename_i b;rw[am b];exact⟨.inl Z,ef.1 b.2.1⟩
  .rename_i b;rw[be b];by_cases d:l.right.kind=1∧(if l.left.kind=1 then aH k l.left.var else li (l.left.kind=2))=kw
   .rw[am d]at h ⊢;exact⟨.inr Z,ef.1 (by simpa using h)⟩
   .rw[be d]at h;cases h
def jG(a:List ak×Bool)(l:Lit):List ak×Bool:=if(dS l a.1).2=kw then(b6 a.1 (dS l a.1).1,kw) else a
def nN(body:List Lit)(k:List ak):List ak×Bool:=body.foldl jG (k,lc)
def vl(body:List Lit):Nat->List ak->List ak
 |0,k=>k
 |n+1,k=>if(nN body k).2=kw then vl body n (nN body k).1 else(nN body k).1
theorem vY{body:List Lit}{n:Nat}{k:List ak}:vl body (n+1) k=if(nN body k).2=kw then vl body n (nN body k).1 else(nN body k).1:=rfl
def fU(r:ah):List ak:=vl r.body (3*r.body.length+1) (r.body.foldl ic [])
theorem Kk{c:List ak}{a:List ak×Bool}{l:Lit}(hc: ∀v∈ [l.left.var,l.right.var,l.a8],v∈c):
  (jG a l).1.length+bN c (jG a l).1<=a.1.length+bN c a.1∧bN c (jG a l).1<=bN c a.1∧((jG a l).2=kw->a.2=kw∨bN c (jG a l).1<bN c a.1):=by
 unfold jG;split
 .rename_i h;obtain⟨h1,b⟩:=EO h;have d:=oZ (hc _ (by rcases h1 with h1|h1<;>simp[h1])) b;have j:=jD a.1 (dS l a.1).1;exact⟨by dsimp only;omega,by dsimp only;omega,fun _=> .inr d⟩
 .exact⟨Zc _,Zc _,fun h=> .inl h⟩
theorem EC{c:List ak}: ∀{body:List Lit} {a:List ak×Bool},(∀l∈body,∀v∈ [l.left.var,l.right.var,l.a8],v∈c)->
  (body.foldl jG a).1.length+bN c (body.foldl jG a).1<=a.1.length+bN c a.1∧bN c (body.foldl jG a).1<=bN c a.1∧
  ((body.foldl jG a).2=kw->a.2=kw∨bN c (body.foldl jG a).1<bN c a.1)
 | [],a,_=>⟨Zc _,Zc _,fun h=> .inl h⟩
 |l::r,a,hc=>by
  obtain⟨j,u,b⟩:=Kk (a:=a) (hc l Zo);obtain⟨g1,g2,g3⟩:=EC (body:=r) (a:=jG a l) fun l d=>hc l (Zn _ d);simp only[ZD];refine⟨by omega,by omega,fun h=>?_⟩;rcases g3 h with g|g
  .rcases b g with h|h
   .exact .inl h
   .exact .inr (by omega)
  .exact .inr (by omega)
theorem c34(r:ah)(hb:4*r.size<=1000000000000):Pure prog 134 [ag r.c] (.iv (strs (fU r))):=by
 unfold ah.size at hb;have Y:=Lit.au r.body;have G:=ja r.body [];have b0:=jS r.body;have f0:=o5 (bK r.body) (r.body.foldl ic []);simp only[aai]at G;refine ae ab func134 Z (by decide) ntmps134 Z (by simp) Z ?_;refine gA Z ?_;refine aw 0 r.body.length (Zf _) (fun i=>⟨[(1,.ptr 0 0),(3,.iv (strs ((r.body.take i).foldl ic []))),(4,pI i)],[(0,io (aj r.c))],1⟩) (fun _=>True) [] ac
  (zM (bv ⟨.nil _ _,rfl,bv trivial⟩) (zK trivial)) fun i hi _=>?_
 refine zJ Z Z (fun y=>?_) fun y=>?_
 .have y:=ci y;have j:=cK (g:=ic) (b:=[]) y;have I:=ja (r.body.take i) [];have hn:=Lit.b3 r.body i y;have a0:=dw (r.body.getD i em).atom;have g0:=(r.body.getD i em).size_eq;simp only[aai]at I;refine zJ Z Z (fun u=>?_) fun u=>?_
  .have u:(r.body.getD i em).kind=1:=by simpa using u
   rw[show ic ((r.body.take i).foldl ic []) (r.body.getD i em)=_ from am u]at j;refine gA Z (zp (S0 (r.body.getD i em).atom (by omega)) ?_);refine gA Z (bg (UU _ _ (by omega)) Z Z Z Z Z Z ?_);refine gA Z ⟨y,ac,[],zM (bv ⟨.of_eq (by rw[j];rfl),rfl,bv ac⟩) (zK ac)⟩
  .have u: ¬(r.body.getD i em).kind=1:=by simpa using u
   rw[show ic ((r.body.take i).foldl ic []) (r.body.getD i em)=_ from be u]at j;refine gA Z ⟨y,ac,[],zM (bv ⟨.of_eq (by rw[j];rfl),rfl,bv ac⟩) (zK ac)⟩
 have y:=co y;have J:(r.body.take i).foldl ic []=r.body.foldl ic []:=mb y;rw[J];refine gA Z ?_;refine oC (σ:={x:List ak×Bool×Nat//fU r=(if x.2.1=kw then vl r.body (x.2.2+1) x.1 else x.1)∧(x.2.1=kw->bN (bK r.body) x.1<=x.2.2)∧x.1.length+bN (bK r.body) x.1<=(r.body.foldl ic []).length+bN (bK r.body) (r.body.foldl ic [])})
  (fun x=>⟨[(1,.ptr 0 0),(3,.iv (strs x.1.1)),(6,pB x.1.2.1)],[(0,io (aj r.c))],1⟩) (fun x=>if x.1.2.1=kw then bN (bK r.body) x.1.1+1 else 0)
  ⟨(r.body.foldl ic [],kw,3*r.body.length),by simp[fU],fun _=>by dsimp only;omega,Zc _⟩ [] (zM (bv (bv ⟨.rC Z,rfl,ac⟩)) (zK trivial)) ?_
 rintro⟨⟨k,more,f⟩,hx1,hx2,hx3⟩;dsimp only at hx1 hx2 hx3 ⊢;refine zJ Z Z (fun u=>?_) fun u=>?_
 .subst u;rw[am Z]at hx1;have d0:=hx2 Z;refine gA Z ?_;refine aw 0 r.body.length (Zf _) (fun i=>⟨[(1,.ptr 0 0),(3,.iv (strs ((r.body.take i).foldl jG (k,lc)).1)),(6,pB ((r.body.take i).foldl jG (k,lc)).2),(7,pI i)],[(0,io (aj r.c))],1⟩) (fun _=>True) [] ac
   (zM (bv (bv ⟨.rC Z,rfl,bv trivial⟩)) (zK trivial)) fun i hi _=>?_
  have d:=EC (c:=bK r.body) (body:=r.body.take i) (a:=(k,lc)) fun l hl v I=>rK (abD hl) I;dsimp only at d;refine zJ Z Z (fun A=>?_) fun A=>?_
  .have A:=ci A;have j:=cK (g:=jG) (b:=(k,lc)) A;generalize c0:(r.body.take i).foldl jG (k,lc)=ka at d j ⊢;refine gA Z (zp (c78 (r.body.getD i em) ka.1) ?_);refine zJ Z Z (fun D=>?_) fun D=>?_
   .rw[show jG ka (r.body.getD i em)=_ from am D]at j;refine gA Z (bg (Nn ka.1 _ (by omega)) Z Z Z Z Z Z ?_);refine gA Z ⟨A,ac,[],zM (bv ⟨.of_eq (by rw[j];rfl),rfl,.rC (by rw[j]),rfl,bv ac⟩) (zK ac)⟩
   .rw[show jG ka (r.body.getD i em)=_ from be (by rw[D];simp)]at j;refine gA Z ⟨A,ac,[],zM (bv ⟨.of_eq (by rw[j];rfl),rfl,.of_eq (by rw[j];rfl),rfl,bv ac⟩) (zK ac)⟩
  .have A:=co A;have S:(r.body.take i).foldl jG (k,lc)=nN r.body k:=mb A;rw[S]at d ⊢;refine gA Z ?_;refine⟨⟨((nN r.body k).1,(nN r.body k).2,f-1),?_,fun B=>?_,by dsimp only;omega⟩,[],?_,zW (zK ac)⟩
   .dsimp only;rw[hx1,vY];by_cases B:(nN r.body k).2=kw
    .have:=d.2.2 B;have F:f-1+1=f:=by simp at this;omega
     rw[am B,am B,F]
    .rw[be B,be B]
   .have:=d.2.2 B;simp at this;dsimp only;omega
   .dsimp only;split
    .rename_i B;have:=d.2.2 B;simp at this;simp;omega
    .simp
 .subst u;rw[be (by simp)]at hx1;refine gA Z (zL (.of_eq ?_));rw[hx1];rfl
end Go.Proofs.YtflegjieadkonaaGreatDoor
namespace Go.Proofs.YtflegjieadkonaaGreatDoor
open Go Go.Al
section
section
variable (stp:List ak->Lit->ak×Bool)
def gS(a:List ak×Bool)(l:Lit):List ak×Bool:=if(stp a.1 l).2=kw then(b6 a.1 (stp a.1 l).1,kw) else a
def gR(body:List Lit)(k:List ak):List ak×Bool:=body.foldl (gS stp) (k,lc)
def gN(body:List Lit):Nat->List ak->List ak
 |0,k=>k
 |n+1,k=>if(gR stp body k).2=kw then gN body n (gR stp body k).1 else(gR stp body k).1
variable {stp}
theorem HG: ∀(body:List Lit) (k:List ak),(body.foldl (gS stp) (k,kw)).2=kw
 | [],k=>rfl
 |l::r,k=>by
  rw[ZD];have: ∃b,gS stp (k,kw) l=(b,kw):=by
   unfold gS;split
   .exact⟨_,rfl⟩
   .exact⟨_,rfl⟩
  obtain⟨b,d⟩:=this;rw[d];exact HG r b
theorem Ey: ∀{body:List Lit} {k:List ak},(body.foldl (gS stp) (k,lc)).2=lc->(body.foldl (gS stp) (k,lc)).1=k∧ ∀l∈body,(stp k l).2=lc
 | [],k,_=>⟨rfl,by simp⟩
 |l::r,k,h=>by
  rw[ZD]at h ⊢;cases hs:(stp k l).2 with
  |true=>
   have:gS stp (k,lc) l=(b6 k (stp k l).1,kw):=am hs;rw[this,HG]at h;cases h
  |false=>
   have:gS stp (k,lc) l=(k,lc):=be (by rw[hs];simp);rw[this]at h ⊢;obtain⟨b,d⟩:=Ey h
   exact⟨b,fun x hx=>by
    rcases Zq.1 hx with rfl|hx
    .exact hs
    .exact d x hx⟩
theorem Ga: ∀(body:List Lit) (a:List ak×Bool),∀x∈a.1,x∈(body.foldl (gS stp) a).1
 | [],a,x,h=>h
 |l::r,a,x,h=>by
  rw[ZD];refine Ga r _ x ?_;unfold gS;split
  .exact ct.2 (.inl h)
  .exact h
theorem Mf{body:List Lit}: ∀(n:Nat) (k:List ak),∀x∈k,x∈gN stp body n k
 |0,k,x,h=>h
 |n+1,k,x,h=>by
  unfold gN;split
  .exact Mf n _ x (Ga body (k,lc) x h)
  .exact Ga body (k,lc) x h
theorem vI: ∀(body:List Lit) (a:List ak×Bool),pX a.1->pX (body.foldl (gS stp) a).1
 | [],a,h=>h
 |l::r,a,h=>by
  rw[ZD];refine vI r _ ?_;unfold gS;split
  .exact jW h _
  .exact h
theorem A0{body:List Lit}: ∀(n:Nat) (k:List ak),pX k->pX (gN stp body n k)
 |0,k,h=>h
 |n+1,k,h=>by
  unfold gN;split
  .exact A0 n _ (vI body (k,lc) h)
  .exact vI body (k,lc) h
variable (hnew: ∀(k:List ak) (l:Lit),(stp k l).2=kw->(stp k l).1∈ [l.left.var,l.right.var,l.a8]∧(stp k l).1∉k)
include hnew
theorem HF{c:List ak}: ∀{body:List Lit} {a:List ak×Bool},(∀l∈body,∀v∈ [l.left.var,l.right.var,l.a8],v∈c)->
  bN c (body.foldl (gS stp) a).1<=bN c a.1∧((body.foldl (gS stp) a).2=kw->a.2=kw∨bN c (body.foldl (gS stp) a).1<bN c a.1)
 | [],a,_=>⟨Zc _,fun h=> .inl h⟩
 |l::r,a,hc=>by
  have b:bN c (gS stp a l).1<=bN c a.1∧((gS stp a l).2=kw->a.2=kw∨bN c (gS stp a l).1<bN c a.1):=by
   unfold gS;split
   .rename_i h;obtain⟨g1,g2⟩:=hnew _ _ h;have:=oZ (hc l Zo _ g1) g2;exact⟨by dsimp only;omega,fun _=> .inr this⟩
   .exact⟨Zc _,fun h=> .inl h⟩
  obtain⟨g1,g2⟩:=HF (body:=r) (a:=gS stp a l) fun l d=>hc l (Zn _ d);rw[ZD];refine⟨by omega,fun h=>?_⟩;rcases g2 h with g3|g3
  .rcases b.2 g3 with g4|g4
   .exact .inl g4
   .exact .inr (by omega)
  .exact .inr (by omega)
theorem Me{body:List Lit}: ∀(n:Nat) (k:List ak),bN (bK body) k<n-> ∀l∈body,(stp (gN stp body n k) l).2=lc
 |0,k,h,_,_=>by omega
 |n+1,k,h,l,b=>by
  unfold gN;cases hr:(gR stp body k).2 with
  |true=>
   rw[am Z];refine Me n _ ?_ l b;obtain⟨_,g2⟩:=HF hnew (c:=bK body) (body:=body) (a:=(k,lc)) fun l b v d=>rK b d;rcases g2 hr with g3|g3
   .cases g3
   .unfold gR;dsimp only at g3;omega
  |false=>
   rw[be (by simp)];obtain⟨g1,g2⟩:=Ey hr;unfold gR;rw[g1];exact g2 l b
end
theorem qI{m1:Expr->Bool}{m2:eO->Bool}{occ:List ak}: ∀{l:List Lit},(∀x∈l,mD m1 m2 occ x=jp)->cO m1 m2 occ l=jp
 | [],_=>rfl
 |y::r,h=>by
  simp only[cO,h y Zo];exact qI fun x b=>h x (Zn _ b)
section
variable {stp:List ak->Lit->ak×Bool} {may:List ak->Expr->Bool} {more:List ak->eO->Bool} {body:List Lit}
variable (hE: ∀(k:List ak) (l:Lit),mD (may k) (more k) k l=if(stp k l).2=kw then io (stp k l).1 else jp)
variable (hmay: ∀a b:List ak,(∀x∈a,x∈b)-> ∀e,may a e=kw->may b e=kw) (hmore: ∀a b:List ak,(∀x∈a,x∈b)-> ∀e,more a e=kw->more b e=kw)
include hE
theorem O0(k:List ak)(l:Lit)(h:(stp k l).2=kw):(stp k l).1∈ [l.left.var,l.right.var,l.a8]∧(stp k l).1∉k:=by
 have:=hE k l;rw[am h]at this;exact yd this
include hmay hmore
theorem Mc{C:List ak}(hC: ∀l∈body,mD (may C) (more C) C l=jp): ∀(b:List Lit) (a:List ak×Bool),(∀l∈b,l∈body)->(∀x∈a.1,x∈C)-> ∀x∈(b.foldl (gS stp) a).1,x∈C
 | [],a,_,h,x,hx=>h x hx
 |l::r,a,hb,h,x,hx=>by
  rw[ZD]at hx;refine Mc hC r _ (fun l j=>hb l (Zn _ j)) (fun y d=>?_) x hx;unfold gS at d;split at d
  .rename_i u;rcases ct.1 d with d|rfl
   .exact h y d
   .have:=hE a.1 l;rw[am u]at this;exact Hg hmay hmore h this (hC l (hb l Zo))
  .exact h y d
theorem Md{C:List ak}(hC: ∀l∈body,mD (may C) (more C) C l=jp): ∀(n:Nat) (k:List ak),(∀x∈k,x∈C)-> ∀x∈gN stp body n k,x∈C
 |0,k,h,x,hx=>h x hx
 |n+1,k,h,x,hx=>by
  unfold gN at hx;have b:=Mc hE hmay hmore hC body (k,lc) (fun _ h=>h) h;split at hx
  .exact Md hC n _ b x hx
  .exact b x hx
theorem p4{k occ:List ak}(d: ∀x,x∈k↔x∈occ++body.flatMap bP)(x:ak):x∈gN stp body (3*body.length+1) k↔x∈cT may more body occ:=by
 constructor
 .refine Md hE hmay hmore (C:=cT may more body occ) (qJ (wy occ)) _ _ (fun y b=>?_) x;exact qS _ _ y ((d y).1 b)
 .refine qR hmay hmore (C:=gN stp body (3*body.length+1) k) (qI fun l j=>?_) _ _ (fun y b=>Mf _ _ y ((d y).2 b)) x;have u:=o5 (bK body) k;have A:=jS body;rw[hE,Me (O0 hE) _ _ (by omega) l j,be (by simp)]
end
theorem um{x:ak}: ∀{l:List Lit} {a:List ak},x∈l.foldl ic a↔x∈a∨x∈l.flatMap bP
 | [],a=>by simp
 |t::r,a=>by
  rw[ZD,um,ZX,Zm];by_cases b:t.kind=1
  .rw[show ic a t=cy a (bn t.atom) from am b,show bP t=cL t.atom from am b,ij,fW,or_assoc]
  .rw[show ic a t=a from be b,show bP t=[] from be b];simp
theorem vX: ∀(l:List Lit) (a:List ak),pX a->pX (l.foldl ic a)
 | [],a,h=>h
 |t::r,a,h=>by
  rw[ZD];refine vX r _ ?_;unfold ic;split
  .exact fq h
  .exact h
theorem Fb{k:List ak}{e:Expr}(h:e.kind=1):lY k (aI e)=aH k e.var:=by
 rw[ph h];simp[lY]
theorem ra(k:List ak)(e:Expr):lY k (aI e)=aU k e:=by
 rw[ZW,M7];unfold aU;rw[ZA];exact⟨fun h x b=>aM.2 (h x (dr.2 b)),fun h x b=>aM.1 (h x (dr.1 b))⟩
theorem Dr(k:List ak)(l:Lit):ku l k=gn (aU k) k l:=by
 unfold ku gn;split
 .rfl
 .have b:l.left.kind=1->aU k l.left=aH k l.left.var:=fun h=>by rw[<-ra,Fb h]
  have d:l.right.kind=1->aU k l.right=aH k l.right.var:=fun h=>by rw[<-ra,Fb h]
  simp only[ra];by_cases j:l.left.kind=1<;>by_cases u:l.right.kind=1<;>simp[j,u,b,d]
theorem MA{may:Expr->Bool}{k:List ak}{l:Lit}(h:(gn may k l).2=kw):l.kind=3:=by
 unfold gn at h;split at h
 .cases h
 .rename_i b;exact aao fun d=>b (.inl d)
theorem JG(out:List ak)(r:ah)(k:List ak)(a:eO)(ho: ∀x,x∈out↔x∈aA r):sB a k out=(!aH k a.var&&jb (aA r) k a):=by
 unfold sB jb;congr 1;rw[ZW,ZA,ZA];have key: ∀x,(!(aH out x&&(!aH k x&&!li (x=a.var))))=(li (x=a.var)||(!aH (aA r) x||aH k x)):=fun x=>by
  rw[rD ho x];cases aH (aA r) x<;>cases aH k x<;>cases li (x=a.var)<;>rfl
 constructor
 .intro h x b;rw[<-key];exact h x (fy.2 b)
 .intro h x b;rw[key];exact h x (fy.1 b)
theorem I0(r:ah)(k:List ak)(l:Lit):mD (aU k) (jb (aA r) k) k l=if(fG kw (outer r) k l).2=kw then io (fG kw (outer r) k l).1 else jp:=by
 unfold mD fG;by_cases b:l.kind=4
 .have d: ¬(gn (aU k) k l).2=kw:=fun h=>by have:=MA h;omega
  rw[be d,am (c:=kw=kw∧l.kind=4) ⟨rfl,b⟩];dsimp only;rw[JG (outer r) r k l.agg fun _=>jN];show(if l.kind=4∧aH k l.a8=lc∧jb (aA r) k l.agg=kw then io l.a8 else jp)=if(!aH k l.a8&&jb (aA r) k l.agg)=kw then io l.a8 else jp;cases aH k l.a8<;>cases jb (aA r) k l.agg<;>simp[b]
 .rw[be (c:=l.kind=4∧_) (fun h=>b h.1),be (c:=kw=kw∧_) (fun h=>b h.2),Dr]
theorem Lf(k:List ak)(l:Lit):mD (c8 k) (fun _=>lc) k l=if(dS l k).2=kw then io (dS l k).1 else jp:=by
 unfold mD;rw[be (c:=l.kind=4∧_) (fun h=>Bool.noConfusion h.2.2)];have:(if(gn (c8 k) k l).2=kw then io (gn (c8 k) k l).1 else jp)=if(dS l k).2=kw then io (dS l k).1 else jp:=by
  unfold gn dS c8;split
  .rfl
  .by_cases b:l.left.kind=1<;>by_cases a2:l.right.kind=1<;>by_cases a3:l.left.kind=2<;>by_cases a4:l.right.kind=2<;>cases a5:aH k l.left.var<;>cases a6:aH k l.right.var<;>simp_all
 exact this
theorem yv(own:Bool)(out:List ak)(body:List Lit): ∀(n:Nat) (k:List ak),AU own out body n k=gN (fG own out) body n k
 |0,k=>rfl
 |n+1,k=>by
  rw[yu,yv own out body n];rfl
theorem Ap(body:List Lit): ∀(n:Nat) (k:List ak),vl body n k=gN (fun k l=>dS l k) body n k
 |0,k=>rfl
 |n+1,k=>by
  rw[vY,Ap body n];rfl
theorem told_plain(r:ah):fi (aC (r7 r))=fU r:=by
 unfold fU;rw[Ap];refine C4 (A0 _ _ (vX _ _ aaT)) fun x=>?_;exact(p4 (may:=fun b=>c8 b) (more:=fun _=>fun _=>lc) Lf DK (fun _ _ _ _ h=>h) (fun y=>by rw[um];simp) x).symm
end
end Go.Proofs.YtflegjieadkonaaGreatDoor
namespace Go.Proofs
open Go.Shelf
def Tryz.Ef:Go.Shelf.Ren:=⟨fun|190=>91|125=>122|258=>121|128=>152|129=>153|302=>143|303=>144|304=>145|305=>146|306=>147|307=>148|308=>149|309=>150|310=>151|333=>180|329=>181|330=>182|334=>183|335=>184|336=>185|344=>213|n=>n,fun|31=>53|9=>9|3=>3|46=>179|0=>0|51=>203|53=>205|4=>4|183=>196|182=>195|131=>50|5=>5|218=>233|222=>237|228=>280|229=>281|n=>n,fun|n=>n⟩
theorem Tryz.Hn:Go.Proofs.Lays.n190 Tryz.prog Tryz.Ef:={
 mixed:=by kernel_rfl
 f125:=Tryz.func122.trans (congrArg io (by kernel_rfl))
 f128:=Tryz.func152.trans (congrArg io (by kernel_rfl))
 f129:=Tryz.func153.trans (congrArg io (by kernel_rfl))
 f190:=Tryz.func91.trans (congrArg io (by kernel_rfl))
 f258:=Tryz.func121.trans (congrArg io (by kernel_rfl))
 f302:=Tryz.func143.trans (congrArg io (by kernel_rfl))
 f303:=Tryz.func144.trans (congrArg io (by kernel_rfl))
 f304:=Tryz.func145.trans (congrArg io (by kernel_rfl))
 f305:=Tryz.func146.trans (congrArg io (by kernel_rfl))
 f306:=Tryz.func147.trans (congrArg io (by kernel_rfl))
 f307:=Tryz.func148.trans (congrArg io (by kernel_rfl))
 f308:=Tryz.func149.trans (congrArg io (by kernel_rfl))
 f309:=Tryz.func150.trans (congrArg io (by kernel_rfl))
 f310:=Tryz.func151.trans (congrArg io (by kernel_rfl))
 f329:=Tryz.func181.trans (congrArg io (by kernel_rfl))
 f330:=Tryz.func182.trans (congrArg io (by kernel_rfl))
 f333:=Tryz.func180.trans (congrArg io (by kernel_rfl))
 f334:=Tryz.func183.trans (congrArg io (by kernel_rfl))
 f335:=Tryz.func184.trans (congrArg io (by kernel_rfl))
 f336:=Tryz.func185.trans (congrArg io (by kernel_rfl))
 f344:=Tryz.func213.trans (congrArg io (by kernel_rfl))
 t0:=Tryz.underlying0
 a0:=Tryz.isAgg0
 z0:=Tryz.sizeOf0
 v0:=Tryz.zeroValue0
 t3:=Tryz.underlying3
 a3:=Tryz.isAgg3
 z3:=Tryz.sizeOf3
 v3:=Tryz.zeroValue3
 t4:=Tryz.underlying4
 a4:=Tryz.isAgg4
 z4:=Tryz.sizeOf4
 v4:=Tryz.zeroValue4
 t5:=Tryz.underlying5
 a5:=Tryz.isAgg5
 z5:=Tryz.sizeOf5
 v5:=Tryz.zeroValue5
 t9:=Tryz.underlying9
 a9:=Tryz.isAgg9
 z9:=Tryz.sizeOf9
 v9:=Tryz.zeroValue9
 t31:=Tryz.underlying53
 a31:=Tryz.isAgg53
 z31:=Tryz.sizeOf53
 v31:=Tryz.zeroValue53
 t46:=Tryz.underlying179
 a46:=Tryz.isAgg179
 z46:=Tryz.sizeOf179
 v46:=Tryz.zeroValue179
 t51:=Tryz.underlying203
 a51:=Tryz.isAgg203
 z51:=Tryz.sizeOf203
 v51:=Tryz.zeroValue203
 t53:=Tryz.underlying205
 a53:=Tryz.isAgg205
 z53:=Tryz.sizeOf205
 v53:=Tryz.zeroValue205
 t131:=Tryz.underlying50
 a131:=Tryz.isAgg50
 z131:=Tryz.sizeOf50
 v131:=Tryz.zeroValue50
 t182:=Tryz.underlying195
 a182:=Tryz.isAgg195
 z182:=Tryz.sizeOf195
 v182:=Tryz.zeroValue195
 t183:=Tryz.underlying196
 a183:=Tryz.isAgg196
 z183:=Tryz.sizeOf196
 v183:=Tryz.zeroValue196
 t218:=Tryz.underlying233
 a218:=Tryz.isAgg233
 z218:=Tryz.sizeOf233
 v218:=Tryz.zeroValue233
 t222:=Tryz.underlying237
 a222:=Tryz.isAgg237
 z222:=Tryz.sizeOf237
 v222:=Tryz.zeroValue237
 t228:=Tryz.underlying280
 a228:=Tryz.isAgg280
 z228:=Tryz.sizeOf280
 v228:=Tryz.zeroValue280
 t229:=Tryz.underlying281
 a229:=Tryz.isAgg281
 z229:=Tryz.sizeOf281
 v229:=Tryz.zeroValue281}
theorem YtflegjieadkonaaGreatDoor.Kn:YtflegjieadkonaaGreatDoor.kz:=
 ⟨fun j b0 a0 x w u b d=>Any.slices_Sort_string Tryz.Hn j b0 a0 x w u b d,fun p a0 w=>Any.slices_Sort_string_none Tryz.Hn p a0 w⟩
end Go.Proofs
namespace Go.Proofs.YtflegjieadkonaaGreatDoor
open Go Go.Al Go.Proofs.Tryz
theorem fQ{α:Type}[Inhabited α]{f:α->List IV}(h: ∀x,jA ((f x).map .iv)=kw)(l:List α):allOnes ((Zy l.length).map fun k=>(f (l.getD k em)).map PV.iv)=kw:=by rw[lL];exact wD h l
theorem c20(a:Atom)(hb:a.ad.length<=100000000000):Pure prog 48 [ag a.c] (ag a.c):=by
 refine ae ab func48 Z (by decide) ntmps48 Z (by simp) Z ?_;refine gA Z (kh (.inr Z) Z (jC.xQ 3 a.ad Term.c Z (lL _ _) (by simp[PV.bX,da]) (.done (.of_eq (by simp only[PV.eW,pe,Zu];rfl)))))
theorem c95: ∀(n:Nat) (e:Expr),e.size<=n->e.size<=100000000000->Pure prog 89 [ag e.c] (ag e.c)
 |0,e,h,_=>absurd e.size_pos (by omega)
 |n+1,e,h,hb=>by
  have y:=e.size_eq;have u:=Expr.au e.args;refine Al.Pure.le (aa:=[ag e.c]) (args:=[ag e.c1]) ?_ ⟨e.xd,ac⟩;refine ae ab func89 Z (by decide) ntmps89 Z (by simp) Z ?_;refine gA Z ?_;refine jg 2 6 7 Z Z ?_;refine aw 0 e.args.length (Zf _) (fun i=>⟨[(1,.ptr 0 0),(2,.ptr 1 0),(3,.ptr 2 0),(4,pI i)],[(0,io (aj e.c1)),(1,io (.cells [pI 0,pS Zd,pI 0,pI 0,pS Zd,pI 0,.iv (.v (.slice jp 0 0))])),(2,io (.cells [.iv (iI e.kind),.iv (iS e.var),.iv (iI e.val.kind),.iv (iI e.val.num),.iv (iS e.val.sym),.iv (iI e.op),.sl 4 0 i 7])),(4,io (aE 7 (e.args.take i) Expr.c))],5⟩) (fun _=>True) [3] ac
   (zW (zK (zO (zO (zS trivial))))) fun i B _=>?_
  refine zJ Z Z (fun b=>?_) fun b=>?_
  .have b:=ci b;have A:=Expr.aF e.args i b;have x:(e.args.take i).length=i:=by rw[ZP];omega
   have j:=ba (l:=e.args) b;refine gA Z (n9 (c95 n (e.args.getD i em) (by omega) (by omega)) ?_);refine gA Z ⟨b,ac,[6],zW (zK (zO (zO (hR Z (by rw[j,Ze];rfl) Z ac))))⟩
  .have b:=co b;have d:i=e.args.length:=by omega
   subst d;rw[Zh (Zc _)];refine gA Z (kh (.inr Z) Z (jC.xQ 4 e.args Expr.c Z Z (by simp[PV.bX,da]) (.done ?_)));have:aK (ag e.c1) (ag e.c):=e.Jb;simp only[PV.eW,pe,Zu];exact this
theorem UT(e:Expr)(hb:e.size<=100000000000):Pure prog 89 [ag e.c] (ag e.c):=c95 e.size e (Zc _) hb
theorem X8: ∀(n:Nat) (l:List Lit) (y:IV),Lit.az l<=n->Lit.az l<=100000000000->n6 (lits l) y->Pure prog 49 [.iv (lits l)] (.iv y):=by
 intro n
 induction n with
 |zero=>
  intro l y h hb A;have F:=Lit.au l;have B:l.length=0:=by omega
  refine ae ab func49 Z (by decide) ntmps49 Z (by simp) Z ?_;refine gA Z ?_;refine aw 0 l.length (Zf _) (fun i=>⟨[(0,.iv (lits l)),(3,.iv (.v (.slice jp 0 0))),(4,pI i)],[],0⟩) (fun _=>True) [] ac
   (lJ Z Z (bv (bv (bv trivial))) Z) fun i D _=>?_
  refine zJ Z Z (fun b=>?_) fun b=>?_
  .have b:=ci b;omega
  .refine gA Z (zL ?_);have d:l=[]:=aaZ.1 B;subst d;exact .iv (fun M x S=>A M x (by cases S;exact .j8 _ _ _ _))
 |succ n ih=>
  intro l y h hb A;have F:=Lit.au l;refine ae ab func49 Z (by decide) ntmps49 Z (by simp) Z ?_;refine gA Z ?_;refine fY 3 30 Z ?_;refine aw 0 l.length (Zf _) (fun i=>⟨[(0,.iv (lits l)),(3,.sl 1 0 i 30),(4,pI i)],[(1,io (aE 30 (l.take i) Lit.c))],2⟩) (fun _=>True) [0] ac
   (zW (zS trivial)) fun i D _=>?_
  refine zJ Z Z (fun b=>?_) fun b=>?_
  .have b:=ci b;have J:=Lit.aF l i b;have I:=(l.getD i em).size_eq;have G:(l.take i).length=i:=by rw[ZP];omega
   have u:=ba (l:=l) b;refine gA Z (zp (c20 (l.getD i em).atom (by omega)) ?_);refine gA Z (zp (UT (l.getD i em).left (by omega)) ?_);refine gA Z (zp (UT (l.getD i em).right (by omega)) ?_);refine gA Z (zp (UT (l.getD i em).jT (by omega)) ?_);refine gA Z (bg (Al.Pure.le (aa:=[.iv (uL (l.getD i em).ar)]) (ih (l.getD i em).ar (uL (l.getD i em).ar) (by omega) (by omega) (FX _)) ⟨.iv (kG _),ac⟩) Z Z Z Z Z Z ?_);refine gA Z ⟨b,ac,[4],zW (hR Z (by rw[u,Ze];rfl) Z ac)⟩
  .have b:=co b;have j:i=l.length:=by omega
   subst j;rw[Zh (Zc _)];refine gA Z (kh (r0:= .sl 1 0 l.length 30) (.inr Z) Z (jC.xQ 1 l Lit.c Z Z (by simp[PV.bX,da]) (.done ?_)));have:aK (.iv (lits l)) (.iv y):= .iv A;simp only[PV.eW,pe,Zu];exact this
theorem c53(l:List Lit)(hb:Lit.az l<=100000000000):Pure prog 49 [.iv (lits l)] (.iv (lits l)):=X8 _ l _ (Zc _) hb (fun _ _ h=>h)
def Prog.size(p:Prog):Nat:=p.aD.length+(p.aD.map fun d=>d.types.length).sum+p.rules.length+(p.rules.map ah.size).sum
theorem rk{α:Type}[Inhabited α](f:α->Nat): ∀(l:List α) (i:Nat),i<l.length->f (l.getD i em)<=(l.map f).sum
 |x::r,0,_=>by simp
 |x::r,i+1,h=>by
  have:=rk f r i (by simpa using h);simp only[aav,Zr,aaW];omega
theorem ma(i sz n:Nat): ∀l:List IV,da i sz n (l.map .iv)
 | []=>trivial
 |x::r=>⟨ac,ma i sz n r⟩
theorem jZ{α:Type}(i sz n b:Nat)(l:List α)(f:α->List IV):(aE b l f).rR i sz n:=by
 intro k e j p d u;rw[Zg,Zi]at d;obtain⟨x,_,rfl⟩:=d;rw[Zg,Zi]at u;obtain⟨y,_,rfl⟩:=u;exact⟨y,rfl⟩
theorem c14(p:Prog)(hb:p.size<=100000000000):Pure prog 12 [ag p.c] (ag p.c):=by
 unfold Prog.size at hb;have D: ∀(l:List ah),l.length<=100000000000->True:=fun _ _=>trivial;refine ae ab func12 Z (by decide) ntmps12 Z (by simp) Z ?_;refine gA Z ?_;refine jg 2 0 4 Z Z ?_;refine jg 2 1 5 Z Z ?_
 refine aw 0 p.aD.length (Zf _) (fun i=>⟨[(1,.ptr 0 0),(2,.ptr 1 0),(3,.ptr 2 0),(4,pI i)],[(0,io (aj p.c)),(1,io (.cells [.iv (.v (.slice jp 0 0)),.iv (.v (.slice jp 0 0))])),(2,io (.cells [.sl 5 0 i 4,.sl 4 0 0 5])),(4,io (aE 5 ([]:List ah) ah.c)),(5,io (aE 4 (p.aD.take i) Decl.c))],6⟩) (fun _=>True) [3] ac
  (zW (zK ⟨⟨_,rfl,.of_eq Z⟩,Y5 Z,rfl,⟨_,rfl,.of_eq Z⟩,Y5 Z,rfl,zS (zS trivial)⟩)) fun i B _=>?_
 refine zJ Z Z (fun b=>?_) fun b=>?_
 .have b:=ci b;have y:(p.aD.take i).length=i:=by rw[ZP];omega
  have x:=ba (l:=p.aD) b;have A:=rk (fun d:Decl=>d.types.length) p.aD i b;refine gM 26 Z ?_;refine fO (L:=[]) (t:=⟨[(1,.ptr 0 0),(2,.ptr 1 0),(3,.ptr 2 0),(4,pI i),(5,.ptr 6 0),(6,.sl 8 0 (p.aD.getD i em).types.length 1)],[(0,io (aj p.c)),(1,io (.cells [.iv (.v (.slice jp 0 0)),.iv (.v (.slice jp 0 0))])),(2,io (.cells [.sl 5 0 i 4,.sl 4 0 0 5])),(4,io (aE 5 ([]:List ah) ah.c)),(5,io (aE 4 (p.aD.take i) Decl.c)),(6,io (aj (p.aD.getD i em).c)),(8,io (aE 1 (p.aD.getD i em).types aY))],9⟩)
   (zM (bv (bv (bv (bv (bv ⟨.row (by rw[Zu];rfl),rfl,ac⟩))))) (zK (zO (zO (zS (zS (zK (hR Z (lL _ _) Z trivial)))))))) ?_
  refine rE 8 (fun k=>aY ((p.aD.getD i em).types.getD k em)) Z (eE Z) (by simp[AF.rR,PV.bX]) ⟨ma _ _ _ _,(by simp[AO.rR,da,PV.bX]),(by simp[AO.rR,da,PV.bX]),jZ _ _ _ _ _ _,jZ _ _ _ _ _ _,ma _ _ _ _,jZ _ _ _ _ _ _,ac⟩ ?_;refine gA Z ⟨b,ac,[10],zW (zK (zO (zO (zS (hR Z (by rw[x,Ze];simp only[Zu];rfl) Z ac)))))⟩
 .have b:=co b;have u:i=p.aD.length:=by omega
  subst u;rw[Zh (Zc _)];refine gA Z ?_;refine aw 0 p.rules.length (Zf _) (fun i=>⟨[(1,.ptr 0 0),(2,.ptr 1 0),(3,.ptr 2 0),(7,pI i)],[(0,io (aj p.c)),(1,io (.cells [.iv (.v (.slice jp 0 0)),.iv (.v (.slice jp 0 0))])),(2,io (.cells [.sl 5 0 p.aD.length 4,.sl 6 0 i 5])),(5,io (aE 4 p.aD Decl.c)),(6,io (aE 5 (p.rules.take i) ah.c))],7⟩) (fun _=>True) [4] ac
   (zW (zK (zO (zO (zS (zS trivial)))))) fun i B _=>?_
  refine zJ Z Z (fun j=>?_) fun j=>?_
  .have j:=ci j;have y:(p.rules.take i).length=i:=by rw[ZP];omega
   have x:=ba (l:=p.rules) j;have A:=rk ah.size p.rules i j;have F:(p.rules.getD i em).size=(p.rules.getD i em).head.ad.length+Lit.az (p.rules.getD i em).body:=rfl;refine gA Z (n9 (c20 (p.rules.getD i em).head (by omega)) ?_);refine gA Z (n9 (c53 (p.rules.getD i em).body (by omega)) ?_);refine gA Z ⟨j,ac,[8],zW (zK (zO (zO (zS (hR Z (by rw[x,Ze];rfl) Z ac)))))⟩
  .have j:=co j;have u:i=p.rules.length:=by omega
   subst u;rw[Zh (Zc _)];refine gA Z (kh (r0:= .agg [.sl 5 0 p.aD.length 4,.sl 6 0 p.rules.length 5]) (.inr Z) Z (jC.xQ 5 p.aD Decl.c Z Z (by simp[PV.bX,da]) (jC.xQ 6 p.rules ah.c Z Z (by simp[PV.bX,da,PV.eW,pe,show Zz 6 5=lc from rfl]) (.done (.of_eq (by simp only[PV.eW,pe,Zu,show Zz 6 5=lc from rfl,show Zz 5 5=kw from rfl,show Zz 6 6=kw from rfl,cond_true,cond_false];rfl))))))
theorem UW(r:ah)(hb:r.size<=10000000):Pure prog 80 [ag r.c] (.iv (strs (outer r))):=xy r▸c29 Kn r hb
theorem Ya(r:ah)(hb:r.size<=10000000):Pure prog 98 [ag r.c] (.iv (strs (fU r))):=told_plain r▸c33 Kn r hb
end Go.Proofs.YtflegjieadkonaaGreatDoor
namespace Go.Proofs.YtflegjieadkonaaGreatDoor
open Go.Proofs.Tryz
open Go
section
set_option maxHeartbeats 2000000
theorem Ht: ∃j,prog.info? 245=io j∧j.size=2:=by
 have h:(prog.info? 245).map (fun i=>i.size)=io 2:=by kernel_rfl
 rw[Zi]at h;exact h
theorem Qc:liesAt prog prog.depth 247 (4/prog.cellsOf 247) 0 245 1=kw:=by kernel_rfl
theorem QK(b:Nat)(w:World)(h0:w.cell? ⟨b,0,jp⟩=io (.pointer (io ⟨b,0,jp⟩))):
  Calls prog 260 #[.pointer (io ⟨b,0,jp⟩)] w fun e u=>e= .returned (.tuple #[])∧u=w:=by
 obtain⟨j,d,_⟩:=Ht
 go_enter func260,ntmps260
 go_wp2
 rw[Lib.run_neq_ptr_same w _ underlying242 d]
 go_wp2
 go_end0
 exact⟨rfl,rfl⟩
theorem MH(b:Nat)(w:World)(h0:w.cell? ⟨b,0,jp⟩=io (.pointer jp))(d:w.shape? b=io (247,4))(y:w.frozen? ⟨b,0,jp⟩=lc):
  Calls prog 260 #[.pointer (io ⟨b,0,jp⟩)] w fun e A=>e= .returned (.tuple #[])∧A=w.setCell ⟨b,0,jp⟩ (.pointer (io ⟨b,0,jp⟩)):=by
 obtain⟨j,x,u⟩:=Ht
 go_enter func260,ntmps260
 go_wp2
 rw[Lib.run_to_unsafe w ⟨b,0,jp⟩ underlying242 underlying327 x (by rw[u];decide) d (by show 0<4;decide)];simp only[Result.andThen];rw[Oper.upon_value]
 go_wp2
 rw[run_callFunc_extern func272 (by kernel_rfl) (by kernel_rfl) (by kernel_rfl) (e:=Extern.AbiNoEscape.same) (by kernel_rfl)];rw[Lib.run_noEscape];simp only[Result.andThen];rw[Oper.upon_value]
 go_wp2
 rw[Lib.run_from_unsafe w ⟨b,0,jp⟩ underlying327 underlying242 x d Qc];simp only[Result.andThen];rw[Oper.upon_value]
 go_wp2
 go_end0
 exact⟨rfl,rfl⟩
theorem US:prog.cellsOf 5=1:=by kernel_rfl
theorem QQ(b g cap:Nat)(p x y:Value)(d:Array Value)(l:List UInt8)(w:World)(D:w.heap[b]? =io (.cells #[p,.slice (io ⟨g,0,jp⟩) l.length cap,x,y] 247 (0,0)))(hg:w.heap[g]? =io (.cells d 5 (0,0)))
  (hl:l.length<=d.size) (I:l.length<=cap) (F:cap<=maxLen) (A: ∀(j:Nat) (x:UInt8),l[j]? =io x->d.getD j undef= .int .u8 (x.toNat:Int)) (h0:l≠ []):
  Calls prog 220 #[.pointer (io ⟨b,0,jp⟩)] w fun e w'=>e= .returned (.string ⟨l.toArray⟩)∧w'=w.drew.freeze ⟨g,0,jp⟩ l.length:=by
 have a0:l.length≠0:=by simpa using h0
 have c1:w.drew.cell? ⟨b,1,jp⟩=io (.slice (io ⟨g,0,jp⟩) l.length cap):=by
  have:w.drew.heap[b]? =io (.cells #[p,.slice (io ⟨g,0,jp⟩) l.length cap,x,y] 247 (0,0)):=D;rw[Lib.cell_of_heap this];rfl
 have S:(Builtin.unsafeSliceData_ #[243] 306 #[.slice (io ⟨g,0,jp⟩) l.length cap]).run prog w.drew= .ok (.pointer (io ⟨g,0,jp⟩)) w.drew:=
  Lib.run_unsafeSliceData_row _ _ _ _ _ _ (by omega)
 have Y:(Builtin.unsafeString_ #[306,3] 9 #[.pointer (io ⟨g,0,jp⟩),.int .i64 l.length]).run prog w.drew= .ok (.string ⟨l.toArray⟩) (w.drew.freeze ⟨g,0,jp⟩ l.length):=by
  refine Lib.run_unsafeString_row w.drew 306 3 9 5 underlying306 US g d.size (by have u:w.drew.heap[g]? =io (.cells d 5 (0,0)):=hg;simp[World.shape?,u]) l h0 (by omega) (by unfold maxLen at F;omega) ?_;intro j x J;have B:j<d.size:=by have:=(Zb.1 J).1;omega
  have:=A j x J;rw[Y7,Z4 B]at this;show w.drew.cell? _=_;have u:w.drew.heap[g]? =io (.cells d 5 (0,0)):=hg;rw[Al.iF,Zu];simp only[World.cell?,u];simpa[B]using this
 have G:prog.follows .mixedOrders=kw:=rfl
 go_enter func220,ntmps220
 go_wp2
 go_region_o
 all_goals(go_wp2;go_ret;exact⟨rfl,rfl⟩)
theorem U0(b:Nat)(p x y:Value)(w:World)(d:w.heap[b]? =io (.cells #[p,.slice jp 0 0,x,y] 247 (0,0))):
  Calls prog 220 #[.pointer (io ⟨b,0,jp⟩)] w fun e B=>e= .returned (.string ⟨#[]⟩)∧B=w.drew:=by
 have A:(W:World)->(Builtin.unsafeString_ #[306,3] 9 #[.pointer jp,.int .i64 0]).run prog W= .ok (.string .empty) W:=fun W=>Lib.run_unsafeString_none W _ _ _ jp
 have c1:w.drew.cell? ⟨b,1,jp⟩=io (.slice jp 0 0):=by
  have:w.drew.heap[b]? =io (.cells #[p,.slice jp 0 0,x,y] 247 (0,0)):=d;rw[Lib.cell_of_heap this];rfl
 have u:(Builtin.unsafeSliceData_ #[243] 306 #[.slice jp 0 0]).run prog w.drew= .ok (.pointer jp) w.drew:=rfl;have j:prog.follows .mixedOrders=kw:=rfl
 go_enter func220,ntmps220
 go_wp2
 go_region_o
 all_goals(go_wp2;go_ret;exact⟨rfl,rfl⟩)
end
end Go.Proofs.YtflegjieadkonaaGreatDoor
namespace Go.Proofs.YtflegjieadkonaaGreatDoor
open Go Go.Al Go.Proofs.Tryz
def Nl(c:Nat):Bool:=(li (97<=c)&&li (c<=122))||((li (65<=c)&&li (c<=90))||((li (48<=c)&&li (c<=57))||decide (c=95)))
def okB(b:UInt8):Bool:=Nl b.toNat
def hd(s:ak):Int:=((s.data.toList.getD 0 0).toNat:Int)
def pz(s:ak)(b hi:Int):Bool:=!li (s=⟨#[]⟩)&&(li (s.size<=32)&&(li (b<=hd s)&&(li (hd s<=hi)&&s.data.toList.all okB)))
theorem K4{c:Nat}(h:Nl c=kw):c<128:=by
 simp only[Nl,aas,Zw,decide_eq_true_eq]at h;omega
theorem GK{s:ak}(h: ¬s=⟨#[]⟩):0<s.size:=by
 refine Nat.pos_of_ne_zero fun b=>h ?_;have:s.data= #[]:=Array.eq_empty_of_size_eq_zero b;cases s;simp_all
theorem Yx(c:Nat):Pure prog 215 [.iv (.v (.int .i32 (c:Int)))] (pB (!Nl c)):=by
 refine ae ab func215 Z (by decide) ntmps215 Z (by simp) Z ?_
 repeat' (first|(refine gA Z (zI (fun _=>?_) (fun _=>?_)))|(refine gA Z (zL (.of_eq ?_))))
 all_goals(refine(fV ?_:pB _=pB _))
 all_goals(simp only[abA,abC,decide_eq_true_eq,decide_eq_false_iff_not] at*;rw[ZW];simp[Nl];omega)
theorem Mu{s:ak}{i:Nat}(h:i<s.size)(hb:okB (s.data.toList.getD i 0)=kw):Utf8.decode s i=((s.data.toList.getD i 0).toNat,1):=by
 have b:(s[i]'h)=s.data.toList.getD i 0:=by
  have:i<s.data.toList.length:=by simpa using h
  rw[Y6,Za this];simp;rfl
 have:=decode_ascii s i h (by rw[b];exact K4 hb);rw[this,b]
theorem UQ{s:ak}{i:Nat}(h:i<s.size)(hb:okB (s.data.toList.getD i 0)=lc):Nl (Utf8.decode s i).1=lc:=by
 by_cases d:(s.data.toList.getD i 0).toNat<128
 .have b:(s[i]'h)=s.data.toList.getD i 0:=by
   have:i<s.data.toList.length:=by simpa using h
   rw[Y6,Za this];simp;rfl
  have:=decode_ascii s i h (by rw[b];exact d);rw[this,b];exact hb
 .have b:(s.get! (i+0)).toNat=(s.data.toList.getD i 0).toNat:=by
   have:i<s.data.toList.length:=by simpa using h
   rw[Y6,Za this];simp[ByteArray.get!,getElem!_pos,h]
  have:128<=(Utf8.decode s i).1:=by
   simp only[Utf8.decode,b,be d]
   repeat' split
   all_goals(dsimp only[Utf8.runeError];(try simp only[Zw,decide_eq_true_eq] at*);omega)
  cases hk:Nl (Utf8.decode s i).1 with
  |false=>rfl
  |true=>have:=K4 hk;omega
def H6(s:ak):Int:=tr (fun b=>!okB b) s.data.toList
theorem d217(s:ak):bW prog 259 [pS s,.du (.func 215) [] [],pB kw] [] (pI (H6 s)) [] 0:=by
 have A:s.data.toList.length=s.size:=by simp
 refine aB ab func259 Z (by decide) ntmps259 Z (by simp) ?_;refine gA Z ?_;refine AV ab Z Z Z Z Z Z Z ?_;refine gA Z ?_;refine aw 0 s.size (Zf _) (fun i=>⟨[(0,pS s),(1,.du (.func 215) [] []),(2,pB kw),(10,.ptr 0 0)],[(0,io (.eS s i))],1⟩) (fun i=>(s.data.toList.take i).any (fun b=>!okB b)=lc) [] (by simp)
  (zW ⟨⟨_,rfl,.of_eq Z⟩,Y5 Z,ac,ac⟩) fun i B x=>?_
 refine gA Z ?_;refine oB Z Z Z Z Z Z (fun j=>?_) (fun j=>?_)
 .have d:s.data.toList.length<=i:=by omega
  rw[H6,iK (any_none x d)];refine gA Z (zD [] Z (zW ac))
 .have u:i<s.data.toList.length:=by omega
  have y:s.data.toList.getD i em=s.data.toList.getD i 0:=rfl;refine gA Z (zp (Yx (Utf8.decode s i).1) ?_);refine zJ Z Z (fun d=>?_) fun d=>?_
  .have d:Nl (Utf8.decode s i).1=lc:=by simpa using d
   have hb:okB (s.data.toList.getD i 0)=lc:=by
    cases hk:okB (s.data.toList.getD i 0) with
    |false=>rfl
    |true=>
     rw[Mu j hk]at d;exact absurd (hk.symm.trans d) (by simp)
   rw[H6,jf x u (by rw[y,hb];rfl)];refine gA Z (zD [] Z (zW ac))
  .have d:Nl (Utf8.decode s i).1=kw:=by simpa using d
   have hb:okB (s.data.toList.getD i 0)=kw:=by
    cases hk:okB (s.data.toList.getD i 0) with
    |true=>rfl
    |false=>exact absurd ((UQ j hk).symm.trans d) (by simp)
   have hd:=Mu j hb;refine gA Z ⟨j,(aW x u).2 (by rw[y,hb];rfl),[],zW ⟨⟨_,rfl,.of_eq (by rw[hd];rfl)⟩,Y5 Z,ac,ac⟩⟩
theorem QZ(l:List UInt8):(l.any fun b=>!okB b)=!l.all okB:=by
 induction l with
 |nil=>rfl
 |cons x r ih=>simp only[ab6,List.all_cons,ih];cases okB x<;>rfl
theorem d203(s:ak):bW prog 242 [pS s,.du (.func 215) [] []] [] (pI (H6 s)) [] 0:=by
 refine aB ab func242 Z (by decide) ntmps242 Z (by simp) ?_;refine gA Z (zq [] (d217 s) ?_);refine gA Z (zD [] Z (zW ac))
theorem d180(s:ak):bW prog 214 [pS s,.du (.func 215) [] []] [] (pB (!s.data.toList.all okB)) [] 0:=by
 refine aB ab func214 Z (by decide) ntmps214 Z (by simp) ?_;refine gA Z (zq [] (d203 s) ?_);refine gA Z (zD [] Z (zM ⟨.of_eq (fV ((j9 _ _).trans (QZ _))),rfl,ac⟩ ac))
theorem Xc(s:ak)(x hi:Int):Pure prog 187 [pS s,.iv (.v (.int .u8 x)),.iv (.v (.int .u8 hi))] (pB (pz s x hi)):=by
 refine ae ab func187 Z (by decide) ntmps187 Z (by simp) Z ?_;refine zE Z Z (fun b=>?_) fun b=>?_
 .have b:s=⟨#[]⟩:=zT b;refine gA Z (zL (.of_eq ?_));refine(fV ?_:pB _=pB _);subst b;rfl
 have b: ¬s=⟨#[]⟩:=zF b;have y:=GK b;refine zE Z Z (fun d=>?_) fun d=>?_
 .have d:32<s.size:=zN d;refine gA Z (zL (.of_eq ?_));refine(fV ?_:pB _=pB _);have: ¬s.size<=32:=by omega
  simp[pz,this]
 have d:s.size<=32:=by have:=zF d;omega
 refine zE Z Z (fun j=>?_) fun j=>?_
 .have j:hd s<x:=zT j;refine gA Z (zL (.of_eq ?_));refine(fV ?_:pB _=pB _);have: ¬x<=hd s:=by omega
  simp[pz,this]
 have j:x<=hd s:=by have: ¬hd s<x:=zF j;omega
 refine zJ Z Z (fun u=>?_) fun u=>?_
 .have u:hi<hd s:=zT u;refine gA Z (zL (.of_eq ?_));refine(fV ?_:pB _=pB _);have: ¬hd s<=hi:=by omega
  simp[pz,this]
 have u:hd s<=hi:=by have: ¬hd s>hi:=zF u;omega
 refine gA Z (zq [] (d180 s) ?_);refine gA Z (zL (.of_eq ?_));refine(fV ?_:pB _=pB _);simp[pz,b,d,j,u]
def Pw:List ak:=[⟨#[114,101,108,97,116,105,111,110]⟩,⟨#[110,111,116]⟩,⟨#[110,117,109]⟩,⟨#[115,121,109]⟩,⟨#[109,111,100]⟩,⟨#[99,111,117,110,116]⟩,⟨#[115,117,109]⟩,⟨#[109,105,110]⟩,⟨#[109,97,120]⟩]
def DA(s:ak):Bool:=Pw.any fun x=>li (s=x)
def ey(s:ak):Bool:=!DA s&&pz s 97 122
def ej(s:ak):Bool:=pz s 65 90
theorem Gk(s:ak):Pure prog 218 [pS s] (pB (ej s)):=by
 refine ae ab func218 Z (by decide) ntmps218 Z (by simp) Z ?_;refine gA Z (zp (Xc s 65 90) ?_);exact zU Z
theorem X3(s:ak):Pure prog 156 [pS s] (pB (ey s)):=by
 refine ae ab func156 Z (by decide) ntmps156 Z (by simp) Z ?_
 repeat' (first|(refine gA Z (zI (fun _=>?_) (fun _=>?_)))|(refine gA Z (zp (Xc s 97 122) ?_))|(refine gA Z (zL (.of_eq ?_))))
 all_goals(refine(fV ?_:pB _=pB _))
 all_goals(simp only[ey,DA,Pw,ab6,List.any_nil, *];rfl)
section
theorem Rel.FK{M:Mem}{N:Nm}{U:Nat->Prop}{h h2:AH}{w:World}(hr:Rel M N U h w)(e: ∀i,AH.get h2 i=h.get i):Rel M N U h2 w:=
 ⟨hr.eW,fun i o b=>hr.used i o (by rw[<-e];exact b),fun i o b=>hr.fo i o (by rw[<-e];exact b),fun i o b=>hr.obj i o (by rw[<-e];exact b),fun i j o p b d=>hr.inj i j o p (by rw[<-e];exact b) (by rw[<-e];exact d)⟩
theorem Ext.FK{M d:Mem}{N j:Nm}{U u:Nat->Prop}{h0 h h2:AH}{w x:World}(b:Ext M N U h0 w d j u h x)(e: ∀i,AH.get h2 i=h.get i):Ext M N U h0 w d j u h2 x:=
 ⟨b.os,b.tape,b.output,b.size,b.iT,b.sb,b.kr,b.nm,b.ule,fun i o y=>b.jt i o (by rw[<-e];exact y)⟩
structure WS where
 fr:Bool
 l:List UInt8
 bad:Bool
 br:Int
abbrev WS.uS(w:WS)(i j:Nat):AO:= .cells [.fE w.fr i,.sl j 0 w.l.length 1,pB w.bad,pI w.br] (io 247)
abbrev WS.c(w:WS):AO:=w.uS 0 1
abbrev WS.O(w:WS):List AO:=[w.c,.bS w.l 5]
abbrev WS.H(w:WS):AH:=[(0,io (w.uS 0 2)),(2,io (.bS w.l 5))]
theorem d204(w:WS):bW prog 260 [.ptr 0 0] w.O (.bQ []) [(0,io ({w with fr:=lc}:WS).c),(1,io (.bS w.l 5))] 2:=by
 refine⟨bF func260 Z (by decide),fun M N wd vs J y hv=>?_⟩;obtain⟨v,rfl⟩: ∃v,vs=[v]:=by
  cases vs with
  |nil=>cases y
  |cons v r=>cases r with
   |nil=>exact⟨v,rfl⟩
   |cons a b=>simp at y
 have S:VR M N (· <2) (.ptr 0 0) v:=hv 0 _ Z;have Y:v= .pointer (io ⟨N.aL 0,0,jp⟩):=by cases S;rfl
 subst Y;have G:AH.get (fA 0 w.O) 0=io w.c:=rfl;obtain⟨c,T,D,h2,h3,h4,h5⟩:=J.obj 0 _ G;have hT:=h5 247 Z;subst hT;have A:c.size=4:=h3.symm;have a0:N.aL 0<wd.heap.size:=(aaq.1 D).1;have I:c.getD 0 undef= .pointer (bif w.fr then jp else io ⟨N.aL 0,0,jp⟩):=by
  have:=h4 0 _ Z;generalize c.getD 0 undef=x at this;cases this;rfl
 have d:wd.cell? ⟨N.aL 0,0,jp⟩=io (c.getD 0 undef):=by
  rw[Lib.cell_of_heap D,Y7,Z4 (by omega)];rfl
 rw[I]at d;show Calls prog 260 #[_] wd _;cases hfr:w.fr with
 |false=>
  rw[hfr]at d;refine(QK (N.aL 0) wd d).mono ?_;rintro e w' ⟨rfl,rfl⟩;have hw:({w with fr:=lc}:WS)=w:=by cases w;simp_all
  rw[hw];exact⟨_,M,N,.bQ [],_,2,rfl,⟨rfl,rfl,rfl⟩,.refl _ _ _ _ _,J,.bQ [] #[] Z (by simp)⟩
 |true=>
  rw[hfr]at d;refine(MH (N.aL 0) wd d (by simp[World.shape?,D,A]) (Lib.frozen_of_heap D 0)).mono ?_;rintro e w' ⟨rfl,rfl⟩;have B:(wd.setCell ⟨N.aL 0,0,jp⟩ (.pointer (io ⟨N.aL 0,0,jp⟩))).heap[N.aL 0]? =io (.cells (c.setIfInBounds 0 (.pointer (io ⟨N.aL 0,0,jp⟩))) 247 (0,0)):=by
   simp[World.setCell,Z2,D]
  obtain⟨g1,g2⟩:=J.write (i:=0) (o0:=w.c) G Z (wd.setCell ⟨N.aL 0,0,jp⟩ (.pointer (io ⟨N.aL 0,0,jp⟩))) ({w with fr:=lc}:WS).c Z Z Z (by simp[World.setCell]) (fun b hb=>by
   simp only[World.setCell,Z2]
   rw[be (fun e=>hb e.symm)]) ⟨_,247,B,by simpa using h2,by simp[A],fun j p F=>by
    match j,F with
    |0,F=>
     cases F;rw[Y7,ZT];simp only[if_true,A];exact .fE lc 0 (by show 0<2;decide)
    |j+1,F=>
     have:=h4 (j+1) p (by exact F);rw[Y7,ZT,be (by omega)];rw[Y7]at this
     exact this,h5⟩
  have u: ∀i,AH.get [(0,io ({w with fr:=lc}:WS).c),(1,io (.bS w.l 5))] i=AH.get ((0,io ({w with fr:=lc}:WS).c)::fA 0 w.O) i:=by
   intro i
   match i with
   |0=>rfl
   |1=>rfl
   |i+2=>rfl
  exact⟨_,M,N,.bQ [],_,2,rfl,⟨rfl,rfl,rfl⟩,Ext.FK g1 u,Rel.FK g2 u,.bQ [] #[] Z (by simp)⟩
theorem d150(w:WS):bW prog 220 [.ptr 0 0] w.O (pS ⟨w.l.toArray⟩) [] 2:=by
 refine⟨bF func220 Z (by decide),fun M N wd vs hr G hv=>?_⟩;obtain⟨v,rfl⟩: ∃v,vs=[v]:=by
  cases vs with
  |nil=>cases G
  |cons v r=>cases r with
   |nil=>exact⟨v,rfl⟩
   |cons a b=>simp at G
 have m0:VR M N (· <2) (.ptr 0 0) v:=hv 0 _ Z;have n0:v= .pointer (io ⟨N.aL 0,0,jp⟩):=by cases m0;rfl
 subst n0;have k0:AH.get (fA 0 w.O) 0=io w.c:=rfl;have I:AH.get (fA 0 w.O) 1=io (.bS w.l 5):=rfl;obtain⟨c,T,Y,h2,h3,h4,h5⟩:=hr.obj 0 _ k0;have hT:=h5 247 Z;subst hT;have g0:c.size=4:=h3.symm;have d0: ∀(x1:Value),c.getD 1 undef=x1-> ∃p x y,c= #[p,x1,x,y]:=by
  intro x1 B;refine⟨c.getD 0 undef,c.getD 2 undef,c.getD 3 undef,?_⟩;apply Array.ext
  .simpa using g0
  .intro i u o0
   match i,u with
   |0,u=>simp[Y7,u]
   |1,u=>rw[<-B];simp[Y7,u]
   |2,u=>simp[Y7,u]
   |3,u=>simp[Y7,u]
   |i+4,u=>omega
 have A:=h4 1 _ Z;have J:=hr.obj 1 _ I;show Calls prog 220 #[_] wd _;by_cases F:w.l=[]
 .have B:c.getD 1 undef= .slice jp 0 0:=by
   generalize c.getD 1 undef=x at A;rw[F]at A;generalize S:PV.sl 1 0 ([]:List UInt8).length 1=q at A;cases A with
   |sl i off len sz a0 h h0 Y hc he=>cases S;simp at h0
   |pW i sz h=>rfl
   |_=>cases S
  obtain⟨p,x,y,rfl⟩:=d0 _ B;refine(U0 (N.aL 0) p x y wd Y).mono ?_;rintro e w' ⟨rfl,rfl⟩;refine⟨.string ⟨#[]⟩,M,N,pS ⟨w.l.toArray⟩,[],2,rfl,⟨rfl,rfl,rfl⟩,?_,?_,.iv _ _ (by rw[F];exact .v _)⟩
  .have:=Ext.drew (M:=M) (N:=N) (U:=(· <w.O.length)) (h:=fA 0 w.O) (w:=wd);exact⟨this.os,this.tape,this.output,this.size,this.iT,this.sb,this.kr,this.nm,this.ule,fun i o u=>(nomatch u)⟩
  .exact⟨hr.drew.eW,fun i o u=>(nomatch u),fun i o u=>(nomatch u),fun i o u=>(nomatch u),fun i j o p u=>(nomatch u)⟩
 .have c0:0<w.l.length:=List.length_pos_iff.2 F;obtain⟨a0,B,b0,i0⟩: ∃a0,c.getD 1 undef= .slice (io ⟨N.aL 1,0,jp⟩) w.l.length a0∧w.l.length<=a0∧a0<=maxLen:=by
   generalize c.getD 1 undef=x at A;generalize hn:w.l.length=n at A c0;generalize S:PV.sl 1 0 n 1=q at A;cases A with
   |sl i off len sz a0 h h0 F hc he=>cases S;exact⟨a0,by simp,F,hc⟩
   |pW i sz h=>cases S;omega
   |_=>cases S
  rcases J with J|⟨f0,q1,q2,q3,q4⟩
  .exact absurd J F
  obtain⟨p,x,y,rfl⟩:=d0 _ B;refine(QQ (N.aL 0) (N.aL 1) a0 p x y f0 w.l wd Y q1 q3 b0 i0 q4 F).mono ?_;rintro e w' ⟨rfl,rfl⟩;have e0:(AO.bS w.l 5).real=kw:=by cases hll:w.l with
   |nil=>exact absurd hll F
   |cons=>rfl
  have hk: ∀b,b≠N.aL 1->(wd.drew.freeze ⟨N.aL 1,0,jp⟩ w.l.length).heap[b]? =wd.heap[b]? :=by
   intro b hb;unfold World.freeze;split
   .rfl
   .show(wd.heap.modify _ _)[b]? =_;simp only[Z2];rw[be (fun e=>hb e.symm)]
  have D:(wd.drew.freeze ⟨N.aL 1,0,jp⟩ w.l.length).os=wd.os∧(wd.drew.freeze ⟨N.aL 1,0,jp⟩ w.l.length).tape=wd.tape∧(wd.drew.freeze ⟨N.aL 1,0,jp⟩ w.l.length).output=wd.output∧(wd.drew.freeze ⟨N.aL 1,0,jp⟩ w.l.length).heap.size=wd.heap.size:=by
   unfold World.freeze;split
   .exact⟨rfl,rfl,rfl,rfl⟩
   .exact⟨rfl,rfl,rfl,by show(wd.heap.modify _ _).size=_;simp⟩
  refine⟨_,M,N,pS ⟨w.l.toArray⟩,[],2,rfl,⟨rfl,rfl,rfl⟩,?_,?_,.iv _ _ (.v _)⟩
  .exact⟨D.1,D.2.1,D.2.2.1,by rw[D.2.2.2];exact Zc _,fun b hb hn=>hk b fun e=>hn 1 _ I e0 e.symm,.refl _,fun b c Y h2=>by simp[Y]at h2,.refl _ _,fun _ h=>h,fun i o u=>(nomatch u)⟩
  .refine⟨fun b d hb=>?_,fun i o u=>(nomatch u),fun i o u=>(nomatch u),fun i o u=>(nomatch u),fun i j o p u=>(nomatch u)⟩;have j0:b≠N.aL 1:=fun e=>by
    have:=hr.fo 1 _ I e0;rw[<-e,hb]at this;cases this
   exact(hr.eW b d hb).mono (hk b j0)
section
variable {nt:Nat} {Q:AQ} {k:List KI} {s:AS}
def wS(s:AS)(b:WS)(i j:Nat):AS:=match s with|⟨f,h,n⟩=>⟨f,(i,io (b.uS i n))::(n,io (.bS b.l 5))::(i,jp)::(j,jp)::h,n+1⟩
theorem Vq(s:AS)(b:WS)(i j:Nat):wS s b i j=⟨s.f,(i,io (b.uS i s.nx))::(s.nx,io (.bS b.l 5))::(i,jp)::(j,jp)::s.h,s.nx+1⟩:=by cases s;rfl
def Vp(s:AS)(b:WS)(i j m:Nat):AS:=match s with|⟨f,h,n⟩=>⟨f,(i,io (b.uS i n))::(n,io (.bS b.l 5))::(i,jp)::(j,jp)::(m,jp)::h,n+1⟩
theorem S8(s:AS)(b:WS)(i j m:Nat):Vp s b i j m=⟨s.f,(i,io (b.uS i s.nx))::(s.nx,io (.bS b.l 5))::(i,jp)::(j,jp)::(m,jp)::s.h,s.nx+1⟩:=by cases s;rfl
theorem CT{o:Oper}{c:Call}{g:FuncId}{args d:List PV}{w B:WS}{r:PV}{i j:Nat}{s':AS}(hc:bW prog g (.ptr 0 0::args) w.O r B.H 3)(ho:o.op= .call c)(ha:bY s.f c=io (g,.ptr i 0::d))
  (hi:s.h.get i=io (w.uS i j)) (hj:s.h.get j=io (.bS w.l 5)) (hlt:Zs i s.nx=kw) (hlj:Zs j s.nx=kw) (hne:Zz i j=lc) (has:d=args) (hlow:bq 0 args=kw) (hr:r.low 0=kw)
  (hp:putDst nt o r (wS s B i j)=io s'):OT prog nt o s (fun t=>t=s'):=by
 have u:i≠j:=fun e=>by subst e;simp at hne
 have y:([i,j]:List Nat).Nodup:=by simp[u]
 have D: ∀x∈ [i,j],x<s.nx:=by
  intro x A;simp only[Zq,abG,or_false]at A;rcases A with rfl|rfl
  .exact Y5 hlt
  .exact Y5 hlj
 subst has;have b: ∀σ,ep σ d=d:=fun σ=>iY σ d hlow;refine nE ho ha hc y D ?_ ?_ ?_
 .simp only[Zr,Z0,hi,hj];rfl
 .simp only[ep,b];rfl
 .rintro q F n0 ⟨rfl,rfl,rfl⟩;rw[PV.j5 _ _ hr];rw[Vq]at hp;exact⟨s',hp,rfl⟩
theorem WC{all rest:List Oper}{o:Oper}{c:Call}{g:FuncId}{args b:List PV}{w d:WS}{r:PV}{i j:Nat}{s':AS}(hc:bW prog g (.ptr 0 0::args) w.O r d.H 3)(ho:o.op= .call c)(hg:o.guard=jp)(ha:bY s.f c=io (g,.ptr i 0::b))
  (hi:s.h.get i=io (w.uS i j)) (hj:s.h.get j=io (.bS w.l 5)) (hlt:Zs i s.nx=kw) (hlj:Zs j s.nx=kw) (hne:Zz i j=lc) (has:b=args) (hlow:bq 0 args=kw) (hr:r.low 0=kw)
  (hp:putDst nt o r (wS s d i j)=io s') (h:GO prog nt (.ops all rest::k) Q s'):GO prog nt (.ops all (o::rest)::k) Q s:=
 dK hg (CT hc ho ha hi hj hlt hlj hne has hlow hr hp) fun t u=>by subst u;exact h
theorem kf{all rest:List Oper}{o:Oper}{c:Call}{g:FuncId}{args b:List PV}{w d:WS}{r:PV}{i j:Nat}{s':AS}(hc:bW prog g (.ptr 0 0::args) w.O r d.H 3)(h:GO prog nt (.ops all rest::k) Q s')(ho:o.op= .call c:=by exact rfl)(hg:o.guard=jp:=by exact rfl)(ha:bY s.f c=io (g,.ptr i 0::b):=by exact rfl)(hi:s.h.get i=io (w.uS i j):=by exact rfl)(hj:s.h.get j=io (.bS w.l 5):=by exact rfl)(hlt:Zs i s.nx=kw:=by exact rfl)(hlj:Zs j s.nx=kw:=by exact rfl)(hne:Zz i j=lc:=by exact rfl)(has:b=args:=by exact rfl)(hlow:bq 0 args=kw:=by exact rfl)(hr:r.low 0=kw:=by exact rfl)(hp:putDst nt o r (wS s d i j)=io s':=by exact rfl):GO prog nt (.ops all (o::rest)::k) Q s:=WC (hc:=hc) (ho:=ho) (hg:=hg) (ha:=ha) (hi:=hi) (hj:=hj) (hlt:=hlt) (hlj:=hlj) (hne:=hne) (has:=has) (hlow:=hlow) (hr:=hr) (hp:=hp) (h:=h)
theorem Gu{o:Oper}{c:Call}{g:FuncId}{b:List ak}{w d:WS}{i j m n:Nat}{s':AS}(hc:bW prog g [.ptr 0 0,.sl 2 0 b.length 1] [w.c,.bS w.l 5,aE 1 b cz] (.bQ []) [(0,io (d.uS 0 3)),(3,io (.bS d.l 5))] 4)(ho:o.op= .call c)(ha:bY s.f c=io (g,[.ptr i 0,.sl m 0 n 1]))
  (hi:s.h.get i=io (w.uS i j)) (hj:s.h.get j=io (.bS w.l 5)) (hm:s.h.get m=io (aE 1 b cz)) (hn:n=b.length) (hlt:Zs i s.nx=kw) (hlj:Zs j s.nx=kw) (hlm:Zs m s.nx=kw) (hnd:b4 [i,j,m]=kw)
  (hp:putDst nt o (.bQ []) (Vp s d i j m)=io s'):OT prog nt o s (fun t=>t=s'):=by
 have y: ∀x∈ [i,j,m],x<s.nx:=by
  intro x u;simp only[Zq,abG,or_false]at u;rcases u with rfl|rfl|rfl
  .exact Y5 hlt
  .exact Y5 hlj
  .exact Y5 hlm
 subst hn;refine nE ho ha hc (dC hnd) y ?_ Z ?_
 .simp only[Zr,Z0,hi,hj,hm,bG];rfl
 .rintro q A n0 ⟨rfl,rfl,rfl⟩;rw[S8]at hp;exact⟨s',hp,rfl⟩
theorem go_wp{all rest:List Oper}{o:Oper}{c:Call}{g:FuncId}{b:List ak}{w d:WS}{i j m n:Nat}{s':AS}(hc:bW prog g [.ptr 0 0,.sl 2 0 b.length 1] [w.c,.bS w.l 5,aE 1 b cz] (.bQ []) [(0,io (d.uS 0 3)),(3,io (.bS d.l 5))] 4)(ho:o.op= .call c)(hg:o.guard=jp)(ha:bY s.f c=io (g,[.ptr i 0,.sl m 0 n 1]))
  (hi:s.h.get i=io (w.uS i j)) (hj:s.h.get j=io (.bS w.l 5)) (hm:s.h.get m=io (aE 1 b cz)) (hn:n=b.length) (hlt:Zs i s.nx=kw) (hlj:Zs j s.nx=kw) (hlm:Zs m s.nx=kw) (hnd:b4 [i,j,m]=kw)
  (hp:putDst nt o (.bQ []) (Vp s d i j m)=io s')
  (h:GO prog nt (.ops all rest::k) Q s'):GO prog nt (.ops all (o::rest)::k) Q s:=
 dK hg (Gu hc ho ha hi hj hm hn hlt hlj hlm hnd hp) fun t u=>by subst u;exact h
theorem kX{all rest:List Oper}{o:Oper}{c:Call}{g:FuncId}{b:List ak}{w d:WS}{i j m n:Nat}{s':AS}(hc:bW prog g [.ptr 0 0,.sl 2 0 b.length 1] [w.c,.bS w.l 5,aE 1 b cz] (.bQ []) [(0,io (d.uS 0 3)),(3,io (.bS d.l 5))] 4)(h:GO prog nt (.ops all rest::k) Q s')(ho:o.op= .call c:=by exact rfl)(hg:o.guard=jp:=by exact rfl)(ha:bY s.f c=io (g,[.ptr i 0,.sl m 0 n 1]):=by exact rfl)(hi:s.h.get i=io (w.uS i j):=by exact rfl)(hj:s.h.get j=io (.bS w.l 5):=by exact rfl)(hm:s.h.get m=io (aE 1 b cz):=by exact rfl)(hn:n=b.length:=by exact rfl)(hlt:Zs i s.nx=kw:=by exact rfl)(hlj:Zs j s.nx=kw:=by exact rfl)(hlm:Zs m s.nx=kw:=by exact rfl)(hnd:b4 [i,j,m]=kw:=by exact rfl)(hp:putDst nt o (.bQ []) (Vp s d i j m)=io s':=by exact rfl):GO prog nt (.ops all (o::rest)::k) Q s:=go_wp (hc:=hc) (ho:=ho) (hg:=hg) (ha:=ha) (hi:=hi) (hj:=hj) (hm:=hm) (hn:=hn) (hlt:=hlt) (hlj:=hlj) (hlm:=hlm) (hnd:=hnd) (hp:=hp) (h:=h)
theorem Cp{all:List Oper}{todo pend:List (Nat×Oper)}{d:Nat}{A y:Prop}{o:Oper}{c:Call}{g:FuncId}{b:List ak}{w u:WS}{i j m n:Nat}{s':AS}(hc:bW prog g [.ptr 0 0,.sl 2 0 b.length 1] [w.c,.bS w.l 5,aE 1 b cz] (.bQ []) [(0,io (u.uS 0 3)),(3,io (.bS u.l 5))] 4)
  (hrd:fw todo=[(d,o)]) (ho:o.op= .call c) (ha:bY s.f c=io (g,[.ptr i 0,.sl m 0 n 1]))
  (hi:s.h.get i=io (w.uS i j)) (hj:s.h.get j=io (.bS w.l 5)) (hm:s.h.get m=io (aE 1 b cz)) (hn:n=b.length) (hlt:Zs i s.nx=kw) (hlj:Zs j s.nx=kw) (hlm:Zs m s.nx=kw) (hnd:b4 [i,j,m]=kw)
  (hp:putDst nt o (.bQ []) (Vp s u i j m)=io s')
  (hg:cJ nt all s.f o=io kw) (hpb:jM all pend o=kw) (hE:pj todo [d]=kw)
  (hag:tJ pC nt all s todo pend=io A) (hCA:A) (hag2:eD pC nt all s' (bp pend o)=io y) (hC2:y)
  (h:GO prog nt (.cX all (todo.filter fun x=>!Zz x.1 d) (bp pend o)::k) Q s'):GO prog nt (.cX all todo pend::k) Q s:=
 yy ab hrd hg hpb hE hag hCA (Gu hc ho ha hi hj hm hn hlt hlj hlm hnd hp) hag2 hC2 h
theorem WE{all:List Oper}{todo pend:List (Nat×Oper)}{b:Nat}{u d:Prop}{o:Oper}{c:Call}{g:FuncId}{args y:List PV}{w A:WS}{r:PV}{i j:Nat}{s':AS}(hc:bW prog g (.ptr 0 0::args) w.O r A.H 3)
  (hrd:fw todo=[(b,o)]) (ho:o.op= .call c) (ha:bY s.f c=io (g,.ptr i 0::y))
  (hi:s.h.get i=io (w.uS i j)) (hj:s.h.get j=io (.bS w.l 5)) (hlt:Zs i s.nx=kw) (hlj:Zs j s.nx=kw) (hne:Zz i j=lc) (has:y=args) (hlow:bq 0 args=kw) (hr:r.low 0=kw)
  (hp:putDst nt o r (wS s A i j)=io s')
  (hg:cJ nt all s.f o=io kw) (hpb:jM all pend o=kw) (hE:pj todo [b]=kw)
  (hag:tJ pC nt all s todo pend=io u) (hCA:u) (hag2:eD pC nt all s' (bp pend o)=io d) (hC2:d)
  (h:GO prog nt (.cX all (todo.filter fun x=>!Zz x.1 b) (bp pend o)::k) Q s'):GO prog nt (.cX all todo pend::k) Q s:=
 yy ab hrd hg hpb hE hag hCA (CT hc ho ha hi hj hlt hlj hne has hlow hr hp) hag2 hC2 h
theorem zx{all:List Oper}{todo pend:List (Nat×Oper)}{b:Nat}{u d:Prop}{o:Oper}{c:Call}{g:FuncId}{args y:List PV}{w A:WS}{r:PV}{i j:Nat}{s':AS}(hc:bW prog g (.ptr 0 0::args) w.O r A.H 3)(h:GO prog nt (.cX all (todo.filter fun x=>!Zz x.1 b) (bp pend o)::k) Q s')(hrd:fw todo=[(b,o)]:=by exact rfl)(ho:o.op= .call c:=by exact rfl)(ha:bY s.f c=io (g,.ptr i 0::y):=by exact rfl)(hi:s.h.get i=io (w.uS i j):=by exact rfl)(hj:s.h.get j=io (.bS w.l 5):=by exact rfl)(hlt:Zs i s.nx=kw:=by exact rfl)(hlj:Zs j s.nx=kw:=by exact rfl)(hne:Zz i j=lc:=by exact rfl)(has:y=args:=by exact rfl)(hlow:bq 0 args=kw:=by exact rfl)(hr:r.low 0=kw:=by exact rfl)(hp:putDst nt o r (wS s A i j)=io s':=by exact rfl)(hg:cJ nt all s.f o=io kw:=by exact rfl)(hpb:jM all pend o=kw:=by exact rfl)(hE:pj todo [b]=kw:=by exact rfl)(hag:tJ pC nt all s todo pend=io u:=by exact rfl)(hCA:u:=by(repeat' (first|exact ac|exact rfl|exact aK.refl _|exact aK.bk (by assumption)|apply ZU))<;>first|omega|(simp only[Zx];omega)|(simp;done)|(simp;omega))(hag2:eD pC nt all s' (bp pend o)=io d:=by exact rfl)(hC2:d:=by(repeat' (first|exact ac|exact rfl|exact aK.refl _|exact aK.bk (by assumption)|apply ZU))<;>first|omega|(simp only[Zx];omega)|(simp;done)|(simp;omega)):GO prog nt (.cX all todo pend::k) Q s:=WE (hc:=hc) (hrd:=hrd) (ho:=ho) (ha:=ha) (hi:=hi) (hj:=hj) (hlt:=hlt) (hlj:=hlj) (hne:=hne) (has:=has) (hlow:=hlow) (hr:=hr) (hp:=hp) (hg:=hg) (hpb:=hpb) (hE:=hE) (hag:=hag) (hCA:=hCA) (hag2:=hag2) (hC2:=hC2) (h:=h)
theorem Mk{l:List ResultVar}{r r0 a b c d:PV}{e:Exit}{u:WS}{j n:Nat}(he:e= .normal∨e= .ret)(hr:ly pC s l=io r0)(hi:s.h.get 0=io (.cells [a,b,c,d] (io 247)))(ha:a= .fE u.fr 0)(hb:b= .sl j 0 n 1)(hn:n=u.l.length)(hc:aK c (pB u.bad))(hd:aK d (pI u.br))
  (hj:s.h.get j=io (.bS u.l 5)) (hlj:Zs j s.nx=kw) (hne:Zz 0 j=lc) (hns:aa2 2 s.nx=kw)
  (hrl:aK r0 r) (hlow:r.low 0=kw) (hlow3:r.low 3=kw):CN pC l 2 r u.H 3 e s:=by
 subst ha;subst hb;subst hn;refine fp [j] he hr ⟨rfl,Y5 hns,fun x y=>?_,⟨?_,hlow3,ac⟩,⟨⟨_,hi,.cells ⟨.refl _,.refl _,hc,hd,ac⟩⟩,Y5 Z,rfl,⟨.bS u.l 5,hj,.of_eq Z⟩,Y5 Z,ac,ac⟩,?_⟩
 .simp only[Zk]at y;subst y;exact Y5 hlj
 .rw[PV.j5 _ _ hlow];exact hrl
 .have:(0:Nat)≠j:=fun e=>by subst e;simp at hne
  show([0,j]:List Nat).Nodup;simpa using this
theorem kM{l:List ResultVar}{r r0 a b c d:PV}{e:Exit}{u:WS}{j n:Nat}(he:e= .normal∨e= .ret:=by first|exact .inr Z|exact .inl Z)(hr:ly pC s l=io r0:=by exact rfl)(hi:s.h.get 0=io (.cells [a,b,c,d] (io 247)):=by exact rfl)(ha:a= .fE u.fr 0:=by exact rfl)(hb:b= .sl j 0 n 1:=by exact rfl)(hn:n=u.l.length:=by exact rfl)(hc:aK c (pB u.bad):=by first|exact .refl _|exact .kb _)(hd:aK d (pI u.br):=by first|exact .refl _|exact .kb _)(hj:s.h.get j=io (.bS u.l 5):=by exact rfl)(hlj:Zs j s.nx=kw:=by exact rfl)(hne:Zz 0 j=lc:=by exact rfl)(hns:aa2 2 s.nx=kw:=by exact rfl)(hrl:aK r0 r:=by exact .refl _)(hlow:r.low 0=kw:=by exact rfl)(hlow3:r.low 3=kw:=by exact rfl):CN pC l 2 r u.H 3 e s:=Mk (he:=he) (hr:=hr) (hi:=hi) (ha:=ha) (hb:=hb) (hn:=hn) (hc:=hc) (hd:=hd) (hj:=hj) (hlj:=hlj) (hne:=hne) (hns:=hns) (hrl:=hrl) (hlow:=hlow) (hlow3:=hlow3)
theorem XB{n0 j m:Nat}{D:AF}{w A:WS}{a b c d:PV}(hw:w=A)(hi:s.h.get 0=io (.cells [a,b,c,d] (io 247)))(ha:a= .fE w.fr 0)(hb:b= .sl j 0 m 1)(hm:m=w.l.length)(hc:aK c (pB w.bad))(hd:aK d (pI w.br))(hj:s.h.get j=io (.bS w.l 5))
  (hlj:Zs j s.nx=kw) (hne:Zz 0 j=lc) (h0:Zs 0 n0=kw) (hns:aa2 n0 s.nx=kw) (hf:Gx (n0+1) (sg n0 [j]) s.f D):Wk n0 [j] s ⟨D,[(0,io (A.uS 0 n0)),(n0,io (.bS A.l 5))],n0+1⟩:=by
 subst hw;subst ha;subst hb;subst hm;have u:0<n0:=Y5 h0;have s0:sg n0 [j] 0=0:=gE u;have F:Zs n0 n0=lc:=aaS.2 fun e=>absurd (Y5 e) (by omega);have G:Zs 0 (n0+1)=kw:=ZO (by omega);have I:Zs n0 (n0+1)=kw:=ZO (by omega);have y:sg n0 [j] n0=j:=by simp[sg,F]
 refine⟨rfl,Y5 hns,fun x B=>?_,hf,⟨⟨_,by rw[s0];exact hi,?_⟩,aaL u,?_,⟨.bS w.l 5,by rw[y];exact hj,.of_eq Z⟩,aax _,ac,ac⟩,?_⟩
 .simp only[Zk]at B;subst B;exact Y5 hlj
 .simp only[AO.dc,ep,PV.dc,s0,y];exact .cells ⟨.refl _,.refl _,hc,hd,ac⟩
 .simp[AO.low,bq,PV.low,G,I]
 .have:(0:Nat)≠j:=fun e=>by subst e;simp at hne
  simp only[ew,s0,y];simpa using this
theorem tL{n0 j m:Nat}{x:AF}{w u:WS}{a b c d:PV}(hw:w=u)(hi:s.h.get 0=io (.cells [a,b,c,d] (io 247)):=by exact rfl)(ha:a= .fE w.fr 0:=by exact rfl)(hb:b= .sl j 0 m 1:=by exact rfl)(hm:m=w.l.length:=by exact rfl)(hc:aK c (pB w.bad):=by first|exact .refl _|exact .kb _)(hd:aK d (pI w.br):=by first|exact .refl _|exact .kb _)(hj:s.h.get j=io (.bS w.l 5):=by exact rfl)(hlj:Zs j s.nx=kw:=by exact rfl)(hne:Zz 0 j=lc:=by exact rfl)(h0:Zs 0 n0=kw:=by exact rfl)(hns:aa2 n0 s.nx=kw:=by exact rfl)(hf:Gx (n0+1) (sg n0 [j]) s.f x:=by repeat' (first|exact ac|exact aK.refl _|exact rfl|apply ZU)):Wk n0 [j] s ⟨x,[(0,io (u.uS 0 n0)),(n0,io (.bS u.l 5))],n0+1⟩:=XB (hw:=hw) (hi:=hi) (ha:=ha) (hb:=hb) (hm:=hm) (hc:=hc) (hd:=hd) (hj:=hj) (hlj:=hlj) (hne:=hne) (h0:=h0) (hns:=hns) (hf:=hf)
end
end
def BS(w:WS)(s:ak):WS:=⟨lc,w.l++s.data.toList,w.bad,w.br⟩
theorem d183(w:WS)(s:ak)(hb:w.l.length+s.size<=140737488355328):bW prog 243 [.ptr 0 0,pS s] w.O (.bQ [pI s.size,.iv (.v .nilIface)]) (BS w s).H 3:=by
 refine aB ab func243 Z (by decide) ntmps243 Z (by simp) ?_;refine gA Z (zq [0,1] (d204 w) ?_);refine gA Z ?_;refine Qi ab Z Z Z Z Z Z Z Z Z Z Z Z Z Z Z Z hb ?_;refine gA Z kM
def aT(w:WS)(b:Bool):WS:=⟨w.fr,w.l,w.bad||!b,w.br⟩
theorem P1(w:WS){b:Bool}(h:(!b)=lc):aT w b=w:=by cases w;simp_all [aT]
theorem P2(w:WS){b:Bool}(h:(!b)=kw):aT w b=⟨w.fr,w.l,kw,w.br⟩:=by cases w;simp_all [aT]
theorem d146(w:WS)(b:Bool):bW prog 216 [.ptr 0 0,pB b] w.O (.bQ []) (aT w b).H 3:=by
 refine aB ab func216 Z (by decide) ntmps216 Z (by simp) ?_;refine zJ Z Z (fun h=>?_) fun h=>?_
 .rw[P2 w h];refine gA Z kM
 .rw[P1 w h];refine gA Z kM
def bb(w:WS)(b:List ak):WS:=b.foldl BS w
def gZ(b:List ak):Nat:=(b.map abY).sum
theorem KT(w:WS)(s:ak):(BS w s).l.length=w.l.length+s.size:=by simp[BS]
theorem kR: ∀(b:List ak) (w:WS),(bb w b).l.length=w.l.length+gZ b
 | [],w=>by simp[bb,gZ]
 |s::r,w=>by
  have:=kR r (BS w s);simp only[bb,ZD]at this ⊢;rw[this,KT];simp[gZ];omega
theorem xG: ∀(b:List ak) (i:Nat),i<b.length->gZ (b.take i)+(b.getD i em).size<=gZ b
 | [],i,h=>by simp at h
 |s::r,0,_=>by simp[gZ]
 |s::r,i+1,h=>by
  have:=xG r i (by simpa using h);simp[gZ]at this ⊢;omega
theorem d147(w:WS)(d:List ak)(A:d.length<=1000)(hb:w.l.length+gZ d<=140737488355328):bW prog 217 [.ptr 0 0,.sl 2 0 d.length 1] [w.c,.bS w.l 5,aE 1 d cz] (.bQ []) [(0,io ((bb w d).uS 0 3)),(3,io (.bS (bb w d).l 5))] 4:=by
 refine aB ab func217 Z (by decide) ntmps217 Z (by simp) ?_;refine gA Z ?_;refine rE 2 (fun k=>cz (d.getD k em)) Z (eE Z) (by simp[AF.rR,PV.bX,q6]) ⟨(by simp[AO.rR,da,PV.bX]),ac,jZ _ _ _ _ _ _,ac⟩ ?_;refine aw 0 d.length (Zf _) (fun i=>⟨[(0,.ptr 0 0),(6,.iv (strs d)),(7,pI d.length),(8,pI i)],[(0,io ((bb w (d.take i)).uS 0 3)),(3,io (.bS (bb w (d.take i)).l 5))],4⟩) (fun _=>True) [1] ac
  (zM (bv ⟨.de Z (fun k _=>by rw[Zu]),rfl,bv (bv trivial)⟩) ⟨⟨_,rfl,.of_eq Z⟩,Y5 Z,rfl,⟨_,rfl,.of_eq Z⟩,Y5 Z,ac,ac⟩) fun i y _=>?_
 refine zJ Z Z (fun j=>?_) fun j=>?_
 .have j:i<d.length:=zN j;have u:bb w (d.take (i+1))=BS (bb w (d.take i)) (d.getD i em):=cK (g:=BS) (b:=w) j;have x:=kR (d.take i) w;have B:=xG d i j;refine gA Z (kf (d183 (bb w (d.take i)) (d.getD i em) (by omega)) ?_);refine gA Z ⟨j,ac,[4],zW ⟨⟨_,rfl,.of_eq (by rw[u];rfl)⟩,Y5 Z,rfl,⟨_,rfl,.of_eq (by rw[u];rfl)⟩,Y5 Z,ac,ac⟩⟩
 .have j:d.length<=i:=zG j;rw[Zh j];refine gA Z (zD [3] Z (zW ⟨⟨_,rfl,.of_eq Z⟩,Y5 Z,rfl,⟨_,rfl,.of_eq Z⟩,Y5 Z,ac,ac⟩))
end Go.Proofs.YtflegjieadkonaaGreatDoor
namespace Go.Proofs
open Go.Shelf
def Tryz.B8:Go.Shelf.Ren:=⟨fun|171=>273|243=>285|246=>297|283=>302|284=>303|285=>304|286=>305|129=>153|317=>307|318=>308|319=>309|320=>310|337=>311|338=>312|n=>n,fun|3=>3|9=>9|2=>2|4=>4|171=>337|0=>0|53=>205|37=>243|5=>5|173=>339|212=>343|51=>203|20=>20|213=>344|46=>179|232=>345|233=>346|n=>n,fun|17=>0|18=>1|19=>2|n=>n⟩
theorem Tryz.Lt:Go.Proofs.LaysM.n171 Tryz.prog Tryz.B8:={
 mixed:=by kernel_rfl
 f129:=Tryz.func153.trans (congrArg io (by kernel_rfl))
 f171:=Tryz.func273.trans (congrArg io (by kernel_rfl))
 f243:=Tryz.func285.trans (congrArg io (by kernel_rfl))
 f246:=Tryz.func297.trans (congrArg io (by kernel_rfl))
 f283:=Tryz.func302.trans (congrArg io (by kernel_rfl))
 f284:=Tryz.func303.trans (congrArg io (by kernel_rfl))
 f285:=Tryz.func304.trans (congrArg io (by kernel_rfl))
 f286:=Tryz.func305.trans (congrArg io (by kernel_rfl))
 f317:=Tryz.func307.trans (congrArg io (by kernel_rfl))
 f318:=Tryz.func308.trans (congrArg io (by kernel_rfl))
 f319:=Tryz.func309.trans (congrArg io (by kernel_rfl))
 f320:=Tryz.func310.trans (congrArg io (by kernel_rfl))
 f337:=Tryz.func311.trans (congrArg io (by kernel_rfl))
 f338:=Tryz.func312.trans (congrArg io (by kernel_rfl))
 t0:=Tryz.underlying0
 a0:=Tryz.isAgg0
 z0:=Tryz.sizeOf0
 v0:=Tryz.zeroValue0
 t2:=Tryz.underlying2
 a2:=Tryz.isAgg2
 z2:=Tryz.sizeOf2
 v2:=Tryz.zeroValue2
 t3:=Tryz.underlying3
 a3:=Tryz.isAgg3
 z3:=Tryz.sizeOf3
 v3:=Tryz.zeroValue3
 t4:=Tryz.underlying4
 a4:=Tryz.isAgg4
 z4:=Tryz.sizeOf4
 v4:=Tryz.zeroValue4
 t5:=Tryz.underlying5
 a5:=Tryz.isAgg5
 z5:=Tryz.sizeOf5
 v5:=Tryz.zeroValue5
 t9:=Tryz.underlying9
 a9:=Tryz.isAgg9
 z9:=Tryz.sizeOf9
 v9:=Tryz.zeroValue9
 t20:=Tryz.underlying20
 a20:=Tryz.isAgg20
 z20:=Tryz.sizeOf20
 v20:=Tryz.zeroValue20
 t37:=Tryz.underlying243
 a37:=Tryz.isAgg243
 z37:=Tryz.sizeOf243
 v37:=Tryz.zeroValue243
 t46:=Tryz.underlying179
 a46:=Tryz.isAgg179
 z46:=Tryz.sizeOf179
 v46:=Tryz.zeroValue179
 t51:=Tryz.underlying203
 a51:=Tryz.isAgg203
 z51:=Tryz.sizeOf203
 v51:=Tryz.zeroValue203
 t53:=Tryz.underlying205
 a53:=Tryz.isAgg205
 z53:=Tryz.sizeOf205
 v53:=Tryz.zeroValue205
 t171:=Tryz.underlying337
 a171:=Tryz.isAgg337
 z171:=Tryz.sizeOf337
 v171:=Tryz.zeroValue337
 t173:=Tryz.underlying339
 a173:=Tryz.isAgg339
 z173:=Tryz.sizeOf339
 v173:=Tryz.zeroValue339
 t212:=Tryz.underlying343
 a212:=Tryz.isAgg343
 z212:=Tryz.sizeOf343
 v212:=Tryz.zeroValue343
 t213:=Tryz.underlying344
 a213:=Tryz.isAgg344
 z213:=Tryz.sizeOf344
 t232:=Tryz.underlying345
 a232:=Tryz.isAgg345
 z232:=Tryz.sizeOf345
 v232:=Tryz.zeroValue345
 t233:=Tryz.underlying346
 a233:=Tryz.isAgg346
 z233:=Tryz.sizeOf346
 v233:=Tryz.zeroValue346
 g17:=by kernel_rfl
 g18:=by kernel_rfl
 g19:=by kernel_rfl
 i0:=by kernel_rfl
 i2:=by kernel_rfl
 i3:=by kernel_rfl
 i4:=by kernel_rfl
 i5:=by kernel_rfl
 i9:=by kernel_rfl
 i20:=by kernel_rfl
 i37:=by kernel_rfl
 i46:=by kernel_rfl
 i51:=by kernel_rfl
 i53:=by kernel_rfl
 i171:=by kernel_rfl
 i173:=by kernel_rfl
 i212:=by kernel_rfl
 i232:=by kernel_rfl
 i233:=by kernel_rfl
 m17:=by kernel_rfl
 m18:=by kernel_rfl
 m19:=by kernel_rfl}
theorem YtflegjieadkonaaGreatDoor.Wx (n:Int) (h0: -9223372036854775808<=n) (h1:n<=9223372036854775807) (w:World) (b:Lib.TabIs Tryz.prog w "internal/strconv.uint64pow10" .u64 Lib.pow10Tab):
  Calls Tryz.prog 273 #[.int .i64 n] w fun e d=>e= .returned (.string ⟨(Lib.itoa n).toArray⟩)∧ ∃k os,d=Go.Sort.grow (w.drewN k) os:=Any.strconv_Itoa Tryz.Lt n h0 h1 w b
end Go.Proofs
namespace Go.Proofs.YtflegjieadkonaaGreatDoor
open Go Go.Al Go.Proofs.Tryz
theorem XN:prog.globalNamed "internal/strconv.uint64pow10" =io 0:=by kernel_rfl
theorem pow_eq:td=Lib.pow10Tab:=by decide
theorem XD{M:Mem}{N:Nm}{U:Nat->Prop}{h:AH}{w:World}(hr:Rel M N U h w):Lib.TabIs prog w "internal/strconv.uint64pow10" .u64 Lib.pow10Tab:=by
 obtain⟨T,d,b⟩:=hr.eW 0 _ (M.Qq 0 _ Z);show World.var? _ _ _=_;simp only[World.var?,XN,ab8,b,pow_eq]
theorem W0(n:Int)(h0: -9223372036854775808<=n)(h1:n<=9223372036854775807):Pure prog 273 [pI n] (pS ⟨(Lib.itoa n).toArray⟩):=by
 refine⟨bF func273 Z (by decide),fun M N w D x u G=>?_⟩;obtain⟨v,rfl⟩: ∃v,D=[v]:=by
  cases D with
  |nil=>cases u
  |cons v r=>cases r with
   |nil=>exact⟨v,rfl⟩
   |cons a b=>simp at u
 have y:VR M N (· <0) (pI n) v:=G 0 _ Z;have A:v= .int .i64 n:=by
  cases y with
  |iv _ _ h=>cases h;rfl
 subst A;refine(Wx n h0 h1 w (XD x)).mono ?_;rintro e I ⟨rfl,k,os,rfl⟩;have B: ∀b,b<w.heap.size->(Go.Sort.grow (w.drewN k) os).heap[b]? =w.heap[b]? :=fun b hb=>by
  show(w.heap++os)[b]? =_;rw[aac hb]
 refine⟨_,M,N,pS ⟨(Lib.itoa n).toArray⟩,[],0,rfl,⟨rfl,rfl,rfl⟩,⟨rfl,rfl,rfl,?_,fun b hb _=>B b hb,.refl _,fun b c h1 F=>(nomatch (h1.symm.trans F)),.refl _ _,fun _ h=>h,fun i o d=>(nomatch d)⟩,⟨fun b c hb=>?_,fun i o d=>(nomatch d),fun i o d=>(nomatch d),fun i o d=>(nomatch d),fun i j o p d=>(nomatch d)⟩,.iv _ _ (.v _)⟩
 .show w.heap.size<=(w.heap++os).size;simp
 .exact(x.eW b c hb).mono (B b (x.eW b c hb).lt)
def Qg:ak:=⟨#[48,49,50,51,52,53,54,55,56,57,65,66,67,68,69,70]⟩
def Qf(c:UInt8):Int:=(c.toNat:Int).fdiv (2 ^ min (Int.toNat 4) IntKind.u8.bits)
def SH(c:UInt8):Int:=IntKind.u8.wrap ((BitVec.ofInt IntKind.u8.bits (c.toNat:Int)&&&BitVec.ofInt IntKind.u8.bits 15).toNat:Int)
theorem LH(c:UInt8):0<=Qf c∧Qf c<16:=by
 have h:c.toNat<256:=c.toNat_lt;have e:Qf c=(c.toNat:Int)/16:=by
  unfold Qf;have:(2:Int) ^ min (Int.toNat 4) IntKind.u8.bits=16:=by decide
  rw[this];exact Int.fdiv_eq_ediv_of_nonneg _ (by decide)
 rw[e];omega
theorem Lm: ∀c:UInt8,0<=SH c∧SH c<16:=by
 intro c;have h: ∀n:Fin 256,0<=SH (UInt8.ofNat n.val)∧SH (UInt8.ofNat n.val)<16:=by decide
 have:=h ⟨c.toNat,c.toNat_lt⟩;simpa using this
def Ck(n:Int):UInt8:=Qg.data.toList.getD n.toNat 0
def qB(c:UInt8):List UInt8:=if c.toNat=34∨c.toNat=92 then[92,c] else if c.toNat=10 then[92,110] else if c.toNat<32∨126<c.toNat then[92,120,Ck (Qf c),Ck (SH c)] else[c]
theorem Uf(c:UInt8):(qB c).length<=4:=by
 unfold qB
 repeat' split
 all_goals simp
def ni(s:ak)(i:Nat):List UInt8:=34::(s.data.toList.take i).flatMap qB
def qi(s:ak):ak:=⟨(34::s.data.toList.flatMap qB++ [34]).toArray⟩
theorem ui(s:ak): ∀i,(ni s i).length<=1+4*i
 |0=>by simp[ni]
 |i+1=>by
  have h:=ui s i;rcases aag i s.data.toList.length with hi|hi
  .have:=Uf (s.data.toList.getD i em);simp only[ni,ZI]at h ⊢;rw[bE hi,Y8];omega
  .simp only[ni,Zh hi]at h;simp only[ni,Zh (by omega:s.data.toList.length<=i+1)];omega
theorem As{s:ak}{i:Nat}(h:i<s.data.toList.length):ni s (i+1)=ni s i++qB (s.data.toList.getD i em):=by
 simp only[ni,bE h,aaJ]
theorem Yn(s:ak)(hs:s.size<=1000):Pure prog 274 [pS s] (pS (qi s)):=by
 have J:s.data.toList.length=s.size:=by simp
 refine ae ab func274 Z (by decide) ntmps274 Z (by simp) Z ?_;refine gA Z ?_;refine Jh ab Z Z Z Z Z Z Z Z Z Z Z (by omega) ?_;refine gA Z ?_;refine aw 0 s.data.toList.length (Zf _) (fun i=>⟨[(3,.sl 1 0 (ni s i).length 1),(8,.iv (.de 1 s.data.toList.length fun k=>yO (s.data.toList.getD k em))),(9,pI s.data.toList.length),(10,pI i)],[(1,io (aE 1 (ni s i) yO))],2⟩) (fun _=>True) [0] ac
  (zW (zS trivial)) fun i I _=>?_
 have S:=ui s i;refine zE Z Z (fun x=>?_) fun x=>?_
 .have x:s.data.toList.length<=i:=zG x;refine gA Z ?_;refine Qn ab (ni s i++ [34]) Z Z Z Z Z Z Z Z Z Z Z Z (by rw[Ze];rfl) (by rw[Y8];rfl) ?_;refine gA Z (zL (.of_eq ?_));simp only[ni,qi,Zh x];rfl
 have x:i<s.data.toList.length:=zN x;have b:=As x;have d:s.data.toList.getD (i:Int).toNat em=s.data.toList.getD i em:=rfl;generalize G:s.data.toList.getD i em=c at b d;refine zJ Z Z (fun A=>?_) fun A=>?_
 .have A:c.toNat=34:=by have:=zT A;rw[d]at this;omega
  rw[qB,am (.inl A)]at b;refine gA Z ⟨x,ac,[3],zM ⟨.row (by rw[b,Y8];rfl),rfl,bv (bv (bv ac))⟩ (hR Z (by rw[b,Ze,<-G];rfl) Z ac)⟩
 have A: ¬c.toNat=34:=by have:=zF A;rw[d]at this;omega
 refine zJ Z Z (fun B=>?_) fun B=>?_
 .have B:c.toNat=92:=by have:=zT B;rw[d]at this;omega
  rw[qB,am (.inr B)]at b;refine gA Z ⟨x,ac,[3],zM ⟨.row (by rw[b,Y8];rfl),rfl,bv (bv (bv ac))⟩ (hR Z (by rw[b,Ze,<-G];rfl) Z ac)⟩
 have B: ¬c.toNat=92:=by have:=zF B;rw[d]at this;omega
 rw[qB,be (by omega)]at b;refine zJ Z Z (fun y=>?_) fun y=>?_
 .have y:c.toNat=10:=by have:=zT y;rw[d]at this;omega
  rw[am y]at b;refine gA Z ⟨x,ac,[3],zM ⟨.row (by rw[b,Y8];rfl),rfl,bv (bv (bv ac))⟩ (hR Z (by rw[b,Ze];rfl) Z ac)⟩
 have y: ¬c.toNat=10:=by have:=zF y;rw[d]at this;omega
 rw[be y]at b;have j:=LH c;have u:=Lm c;rw[<-G]at j u;simp only[Qf,SH]at j u;refine zJ Z Z (fun D=>?_) fun D=>?_
 .have D:c.toNat<32:=by have:=zT D;rw[d]at this;omega
  rw[am (.inl D)]at b;refine nV Z (by(repeat' (first|exact ac|exact rfl|exact aK.refl _|exact j|exact u|apply ZU))<;>first|omega|exact j.1|exact j.2|exact u.1|exact u.2|simp) ?_;exact⟨x,ac,[3],zM ⟨.row (by rw[b,Y8];rfl),rfl,bv (bv (bv ac))⟩ (hR Z (by rw[b,Ze,<-G];rfl) Z ac)⟩
 have D: ¬c.toNat<32:=by have:=zF D;rw[d]at this;omega
 refine zJ Z Z (fun F=>?_) fun F=>?_
 .have F:126<c.toNat:=by have:=zT F;rw[d]at this;omega
  rw[am (.inr F)]at b;refine nV Z (by(repeat' (first|exact ac|exact rfl|exact aK.refl _|exact j|exact u|apply ZU))<;>first|omega|exact j.1|exact j.2|exact u.1|exact u.2|simp) ?_;exact⟨x,ac,[3],zM ⟨.row (by rw[b,Y8];rfl),rfl,bv (bv (bv ac))⟩ (hR Z (by rw[b,Ze,<-G];rfl) Z ac)⟩
 have F: ¬126<c.toNat:=by have:=zF F;rw[d]at this;omega
 rw[be (by omega)]at b;refine gA Z ⟨x,ac,[3],zM ⟨.row (by rw[b,Y8];rfl),rfl,bv (bv (bv ac))⟩ (hR Z (by rw[b,Ze,<-G];rfl) Z ac)⟩
def tU(v:tK):ak:=if v.kind=1 then⟨(Lib.itoa v.num).toArray⟩ else if ey v.sym then v.sym else qi v.sym
theorem sL{v:tK}(h:dx v=0)(h1:v.kind=1): -2147483647<=v.num∧v.num<=2147483647:=by
 unfold dx at h;rw[am h1]at h;split at h
 .rename_i b;exact b.2
 .cases h
theorem sK{v:tK}(h:dx v=0)(h1: ¬v.kind=1):v.sym.size<=64:=by
 unfold dx at h;rw[be h1]at h;split at h
 .split at h
  .rename_i b;exact b.2
  .cases h
 .cases h
theorem Yq(v:tK)(j:dx v=0):Pure prog 262 [ag v.c] (pS (tU v)):=by
 refine ae ab func262 Z (by decide) ntmps262 Z (by simp) Z ?_;refine zJ Z Z (fun b=>?_) fun b=>?_
 .have b:v.kind=1:=by simpa using b
  have:=sL j b;refine gA Z (zp (W0 v.num (by omega) (by omega)) ?_);refine gA Z (zL (.of_eq ?_));rw[tU,am b];rfl
 have b: ¬v.kind=1:=by simpa using b
 have u:=sK j b;refine gA Z (zp (X3 v.sym) ?_);refine zJ Z Z (fun d=>?_) fun d=>?_
 .have d:ey v.sym=kw:=d;refine gA Z (zL (.of_eq ?_));rw[tU,be b,am d];rfl
 .have d:ey v.sym=lc:=d;refine gA Z (zp (Yn v.sym (by omega)) ?_);refine gA Z (zL (.of_eq ?_));rw[tU,be b,be (by rw[d];simp)];rfl
def od(v:tK):ak:=if dx v=0 then tU v else⟨#[]⟩
theorem Yw(v:tK):Pure prog 244 [ag v.c] (.bQ [pS (od v),pI (dx v)]):=by
 refine ae ab func244 Z (by decide) ntmps244 Z (by simp) Z ?_;refine gA Z (zp (YG v) ?_);refine zJ Z Z (fun b=>?_) fun b=>?_
 .have b: ¬dx v=0:=by simpa using b
  refine gA Z (zL (.of_eq ?_));rw[od,be b];rfl
 .have b:dx v=0:=by simpa using b
  refine gA Z (zp (Yq v b) ?_);refine gA Z (zL (.of_eq ?_));rw[od,am b,b];rfl
def nK(w:WS)(v:tK):WS:=bb (aT w (li (dx v=0))) [od v]
theorem d149(w:WS)(v:tK)(hb:w.l.length<=1000000000000)(b:(od v).size<=1000):bW prog 219 [.ptr 0 0,ag v.c] w.O (.bQ []) (nK w v).H 3:=by
 refine aB ab func219 Z (by decide) ntmps219 Z (by simp) ?_;refine gA Z (zp (Yw v) ?_);refine gA Z (WC (d146 ⟨_,_,_,_⟩ (li (dx v=0))) Z Z Z Z Z Z Z Z Z Z Z Z ?_);refine gA Z (go_wp (d147 ⟨_,_,_,_⟩ [od v] (by simp) (by simp[gZ,aT];omega)) Z Z Z Z Z Z Z Z Z Z Z Z ?_);refine gA Z kM
def bj(op:Int):Int:=if op=1∨op=2 then 1 else if op=3∨op=4∨op=5 then 2 else if op=6 then 3 else 0
theorem QN(op:Int):Pure prog 246 [pI op] (pI (bj op)):=by
 refine ae ab func246 Z (by decide) ntmps246 Z (by simp) Z ?_
 repeat' (first|(refine gA Z (zI (fun _=>?_) (fun _=>?_)))|(refine gA Z (zL (.of_eq ?_))))
 all_goals(refine(FG ?_:pI _=pI _);simp only[abA,abC,decide_eq_true_eq,decide_eq_false_iff_not] at*;simp_all [bj])
def eC(e:Expr):Int:=if e.kind=4 then bj e.op else 4
theorem JC(e:Expr):Pure prog 264 [ag e.c] (pI (eC e)):=by
 refine ae ab func264 Z (by decide) ntmps264 Z (by simp) Z ?_
 repeat' (first|(refine gA Z (zI (fun _=>?_) (fun _=>?_)))|(refine gA Z (zp (QN e.op) ?_))|(refine gA Z (zL (.of_eq ?_))))
 all_goals(refine(FG ?_:pI _=pI _);simp_all [eC])
def cV(v:tK):Bool:=li (v.kind=0)&&(li (v.num=0)&&(li (v.sym=Zd)&&kw))
def cY(e:Expr):Bool:=li (e.kind=0)&&(li (e.var=⟨#[]⟩)&&(cV e.val&&(li (e.op=0)&&li ((e.args.length:Int)=0))))
theorem QO(e:Expr):Pure prog 245 [ag e.c] (pB (cY e)):=by
 refine ae ab func245 Z (by decide) ntmps245 Z (by simp) Z ?_
 repeat' (first|(refine gA Z (zI (fun _=>?_) (fun _=>?_)))|(refine gA Z (zL (.of_eq ?_))))
 all_goals(refine(fV ?_:pB _=pB _))
 all_goals(simp only[cY,cV, *];rfl)
def kI(l:Lit):Bool:=
 (li (l.kind=1)||decide (l.kind=2)||!(!li (l.atom.rel=⟨#[]⟩)||decide ((l.atom.ad.length:Int)>0)))&&
 ((!(!li (l.kind=3))||!(!li (l.op=0)||(!cY l.left||!cY l.right)))&&
 (li (l.kind=4)||(li (l.c7=0)&&(li (l.a8=⟨#[]⟩)&&(cY l.jT&&li ((l.ar.length:Int)=0))))))
set_option maxHeartbeats 4000000 in
theorem Yv(l:Lit):Pure prog 221 [ag l.c] (pB (kI l)):=by
 refine ae ab func221 Z (by decide) ntmps221 Z (by simp) Z ?_
 repeat' (first|(refine gA Z (zI (fun _=>?_) (fun _=>?_)))|(refine gA Z (zp (QO l.left) ?_))|(refine gA Z (zp (QO l.right) ?_))|(refine gA Z (zp (QO l.jT) ?_))|(refine gA Z (zL (.of_eq ?_))))
 all_goals(refine(fV ?_:pB _=pB _))
 all_goals(try simp only[abA,abC] at*)
 all_goals(simp_all [kI])
def pF(op:Int):ak:=if op=1 then⟨#[43]⟩ else if op=2 then⟨#[45]⟩ else if op=3 then⟨#[42]⟩ else if op=4 then⟨#[47]⟩ else⟨#[109,111,100]⟩
def sgL:ak:=⟨#[43,45,42,47]⟩
theorem Yj(op:Int):Pure prog 265 [pI op] (pS (pF op)):=by
 refine ae ab func265 Z (by decide) ntmps265 Z (by simp) Z ?_;refine gA Z ?_;refine AV ab Z Z Z Z Z Z Z ?_;refine gA Z ?_;refine aw 0 4 (by decide) (fun i=>⟨[(0,pI op),(5,.ptr 0 0)],[(0,io (.eS sgL i))],1⟩) (fun i=> ∀k:Nat,k<i-> ¬(k:Int)+1=op) [] (by simp)
  (zW ⟨⟨_,rfl,.of_eq Z⟩,Y5 Z,ac,ac⟩) fun i D b=>?_
 have j:i=0∨i=1∨i=2∨i=3∨i=4:=by omega
 rcases j with rfl|rfl|rfl|rfl|rfl
 .refine gA Z ?_;refine oB Z Z Z Z Z Z (fun h=>absurd h (by decide)) (fun _=>?_);refine zJ Z Z (fun h=>?_) fun h=>?_
  .have h:op=1:=by have:=zT h;omega
   refine gA Z ?_;refine xg ab Z Z Z Z Z Z Z Z Z ?_;refine gA Z (zL (.of_eq ?_));refine(congrArg pS ?_:pS _=pS _);subst h;decide
  .have h: ¬op=1:=by have:=zF h;omega
   refine gA Z ⟨by decide,fun k u=>(by rcases(by omega:k<0∨k=0) with d|rfl;exact b k d;omega),[],zW ⟨⟨_,rfl,.of_eq Z⟩,Y5 Z,ac,ac⟩⟩
 .refine gA Z ?_;refine oB Z Z Z Z Z Z (fun h=>absurd h (by decide)) (fun _=>?_);refine zJ Z Z (fun h=>?_) fun h=>?_
  .have h:op=2:=by have:=zT h;omega
   refine gA Z ?_;refine xg ab Z Z Z Z Z Z Z Z Z ?_;refine gA Z (zL (.of_eq ?_));refine(congrArg pS ?_:pS _=pS _);subst h;decide
  .have h: ¬op=2:=by have:=zF h;omega
   refine gA Z ⟨by decide,fun k u=>(by rcases(by omega:k<1∨k=1) with d|rfl;exact b k d;omega),[],zW ⟨⟨_,rfl,.of_eq Z⟩,Y5 Z,ac,ac⟩⟩
 .refine gA Z ?_;refine oB Z Z Z Z Z Z (fun h=>absurd h (by decide)) (fun _=>?_);refine zJ Z Z (fun h=>?_) fun h=>?_
  .have h:op=3:=by have:=zT h;omega
   refine gA Z ?_;refine xg ab Z Z Z Z Z Z Z Z Z ?_;refine gA Z (zL (.of_eq ?_));refine(congrArg pS ?_:pS _=pS _);subst h;decide
  .have h: ¬op=3:=by have:=zF h;omega
   refine gA Z ⟨by decide,fun k u=>(by rcases(by omega:k<2∨k=2) with d|rfl;exact b k d;omega),[],zW ⟨⟨_,rfl,.of_eq Z⟩,Y5 Z,ac,ac⟩⟩
 .refine gA Z ?_;refine oB Z Z Z Z Z Z (fun h=>absurd h (by decide)) (fun _=>?_);refine zJ Z Z (fun h=>?_) fun h=>?_
  .have h:op=4:=by have:=zT h;omega
   refine gA Z ?_;refine xg ab Z Z Z Z Z Z Z Z Z ?_;refine gA Z (zL (.of_eq ?_));refine(congrArg pS ?_:pS _=pS _);subst h;decide
  .have h: ¬op=4:=by have:=zF h;omega
   refine gA Z ⟨by decide,fun k u=>(by rcases(by omega:k<3∨k=3) with d|rfl;exact b k d;omega),[],zW ⟨⟨_,rfl,.of_eq Z⟩,Y5 Z,ac,ac⟩⟩
 .refine gA Z ?_;refine oB Z Z Z Z Z Z (fun _=>?_) (fun h=>absurd h (by decide));refine gA Z (zL (.of_eq ?_));have x:=b 0 (by decide);have y:=b 1 (by decide);have A:=b 2 (by decide);have B:=b 3 (by decide);rw[pF,be (by omega),be (by omega),be (by omega),be (by omega)];rfl
theorem FE(s:ak):(qi s).size<=2+4*s.size:=by
 have h:=ui s s.data.toList.length;simp only[ni,aaQ,ZI]at h;have e:(qi s).size=(34::s.data.toList.flatMap qB++ [34]).length:=by simp[qi,abY]
 have:s.data.toList.length=s.size:=by simp
 rw[e,Y8,ZI,ZH];omega
theorem oc(v:tK):(od v).size<=300:=by
 unfold od;split
 .rename_i d;unfold tU;split
  .rename_i b;have:=sL d b;have j:=Lib.itoa_length_le v.num (by omega) (by omega);have e:(⟨(Lib.itoa v.num).toArray⟩:ByteArray).size=(Lib.itoa v.num).length:=by simp[abY]
   omega
  .rename_i b;have j:=sK d b;split
   .omega
   .have:=FE v.sym;omega
 .decide
mutual
def Expr.ts:Expr->Nat
 | .mk _ v _ _ args=>v.size+400+Expr.lK args
def Expr.lK:List Expr->Nat
 | []=>0
 |e::r=>e.ts+Expr.lK r
end
theorem Expr.mo(e:Expr):e.ts=e.var.size+400+Expr.lK e.args:=by cases e;rfl
theorem Expr.tT: ∀(l:List Expr) (k:Nat),k<l.length->(l.getD k em).ts<=Expr.lK l
 |e::r,0,_=>by simp[Expr.lK]
 |e::r,k+1,h=>by
  have:=Expr.tT r k (by simpa using h);simp only[aav,Expr.lK];omega
 | [],k,h=>by simp at h
theorem Expr.wY: ∀(l:List Expr),l.length=2->(l.getD 0 em).ts+(l.getD 1 em).ts<=Expr.lK l
 | [a,b],_=>by simp[Expr.lK]
 | [],h=>by simp at h
 | [a],h=>by simp at h
 |a::b::c::r,h=>by simp at h
def sM:ak:=⟨#[45]⟩
def sO:ak:=⟨#[40]⟩
def sC:ak:=⟨#[41]⟩
def GU:ak:=⟨#[32]⟩
def oJ(w:WS):WS:=⟨w.fr,w.l,kw,w.br⟩
def qn(e:Expr):Bool:=ej e.var&&(cV e.val&&(li (e.op=0)&&li ((e.args.length:Int)=0)))
def r9(e:Expr):Bool:=li (e.var=⟨#[]⟩)&&(li (e.op=0)&&li ((e.args.length:Int)=0))
def mC(e:Expr):Bool:=li (e.var=⟨#[]⟩)&&(cV e.val&&li (bj e.op>0))
def aP(e:Expr):Expr:=e.args.getD 0 em
def lf(e:Expr):Expr:=e.args.getD 1 em
def pQ(e:Expr):Bool:=li (e.kind=2)&&li (e.val.kind=1)
def ow(a:Expr):Bool:=li (eC a<3)||(pQ a&&li (a.val.num>0))
def jP(w:WS)(e:Expr)(k:WS):WS:=
 if w.bad=kw then oJ w else if e.kind=1 then bb (aT w (qn e)) [e.var] else if e.kind=2 then nK (aT w (r9 e)) e.val else if e.kind=4 then k else oJ w
def kv(a0:Bool->WS->Expr->WS)(w:WS)(e:Expr):WS:=
 if w.bad=kw then oJ w else if e.op=6 then
  (if e.args.length=1 then a0 (ow (aP e)) (if(pQ (aP e)&&li ((aP e).val.num=0))=kw then bb (bb w [sM]) [sM] else bb w [sM]) (aP e) else oJ w)
 else if e.args.length=2 then a0 (li (eC (lf e)<=bj e.op)) (bb (a0 (li (eC (aP e)<bj e.op)) w (aP e)) [GU,pF e.op,GU]) (lf e) else oJ w
def cQ:Nat->WS->Expr->WS
 |0,w,_=>oJ w
 |1,w,e=>jP w e (oJ (aT w (mC e)))
 |m+2,w,e=>jP w e (kv (fun b w a=>if b=kw then bb (cQ m (bb w [sO]) a) [sC] else cQ (m+1) w a) (aT w (mC e)) e)
def qY(m:Nat)(b:Bool)(w:WS)(a:Expr):WS:=if b=kw then bb (cQ m (bb w [sO]) a) [sC] else cQ (m+1) w a
theorem aX(w:WS)(b:Bool):(aT w b).l=w.l:=rfl
theorem iD(w:WS):(oJ w).l=w.l:=rfl
theorem cA(s:ak):gZ [s]=s.size:=by simp[gZ]
theorem Dn(op:Int):(pF op).size<=3:=by
 unfold pF
 repeat' split
 all_goals decide
theorem aV(w:WS)(s:ak):(bb w [s]).l.length=w.l.length+s.size:=by rw[kR,cA]
theorem xv(w:WS)(v:tK):(nK w v).l.length<=w.l.length+300:=by
 have:=oc v;rw[nK,aV,aX];omega
theorem AN(w k:WS)(e:Expr)(h:k.l.length<=w.l.length+e.ts):(jP w e k).l.length<=w.l.length+e.ts:=by
 have:=e.mo;unfold jP
 repeat' split
 .rw[iD];omega
 .rw[aV,aX];omega
 .have:=xv (aT w (r9 e)) e.val;rw[aX]at this;omega
 .exact h
 .rw[iD];omega
theorem IS(a0:Bool->WS->Expr->WS)(d: ∀b w a,(a0 b w a).l.length<=w.l.length+(2+a.ts))(w:WS)(e:Expr):(kv a0 w e).l.length<=w.l.length+e.ts:=by
 have B:=e.mo;unfold kv;split
 .rw[iD];omega
 split
 .split
  .rename_i u;have y:=Expr.tT e.args 0 (by omega);have j:sM.size=1:=rfl;split
   .have:=d (ow (aP e)) (bb (bb w [sM]) [sM]) (aP e);rw[aV,aV]at this;simp only[aP]at this ⊢;omega
   .have:=d (ow (aP e)) (bb w [sM]) (aP e);rw[aV]at this;simp only[aP]at this ⊢;omega
  .rw[iD];omega
 .split
  .rename_i u;have y:=Expr.wY e.args u;have x:=d (li (eC (lf e)<=bj e.op)) (bb (a0 (li (eC (aP e)<bj e.op)) w (aP e)) [GU,pF e.op,GU]) (lf e);have D:=d (li (eC (aP e)<bj e.op)) w (aP e);have F:=Dn e.op;have j:GU.size=1:=rfl;rw[kR]at x;have A:gZ [GU,pF e.op,GU]=1+((pF e.op).size+1):=by simp[gZ,j]
   simp only[aP,lf] at*;omega
  .rw[iD];omega
theorem ei: ∀(n:Nat) (w:WS) (e:Expr),(cQ n w e).l.length<=w.l.length+e.ts
 |0,w,e=>by rw[cQ,iD];omega
 |1,w,e=>by rw[cQ];exact AN _ _ _ (by rw[iD,aX];omega)
 |m+2,w,e=>by
  rw[cQ];refine AN _ _ _ ?_
  have:=IS (fun d w a=>if d=kw then bb (cQ m (bb w [sO]) a) [sC] else cQ (m+1) w a) (fun b w a=>by
   split
   .have j:=ei m (bb w [sO]) a;have u:sO.size=1:=rfl;have x:sC.size=1:=rfl;rw[aV]at j ⊢;omega
   .have:=ei (m+1) w a
    omega) (aT w (mC e)) e
  rwa[aX]at this
theorem MX(m:Nat)(b:Bool)(w:WS)(a:Expr):(qY m b w a).l.length<=w.l.length+(2+a.ts):=by
 unfold qY;split
 .have d:=ei m (bb w [sO]) a;have j:sO.size=1:=rfl;have u:sC.size=1:=rfl;rw[aV]at d ⊢;omega
 .have:=ei (m+1) w a;omega
def PE(n:Nat):Prop:= ∀(d:Int) (w:WS) (e:Expr),d+1=n->w.l.length+e.ts<=1000000000->bW prog 222 [.ptr 0 0,ag e.c,pI d] w.O (.bQ []) (cQ n w e).H 3
theorem d225(n:Nat)(hn:n<=1000)(x:PE (n+1))(hB:PE n)(b:Bool)(d:Int)(hd:d=n)(w:WS)(e:Expr)(hb:w.l.length+e.ts+2<=1000000000):bW prog 263 [.ptr 0 0,ag e.c,pB b,pI d] w.O (.bQ []) (qY n b w e).H 3:=by
 refine aB ab func263 Z (by decide) ntmps263 Z (by simp) ?_;refine zJ Z Z (fun h=>?_) fun h=>?_
 .have h:b=lc:=by simpa using h
  rw[qY,be (by rw[h];simp)];refine gA Z (kf (x d w e (by omega) (by omega)) ?_);refine gA Z kM
 .have h:b=kw:=by simpa using h
  rw[qY,am h];have j:sO.size=1:=rfl;have u:sC.size=1:=rfl;have y:=ei n (bb w [sO]) e;have A:=aV w sO;refine gA Z (kX (d147 w [sO] (by simp) (by rw[cA,j];omega)) ?_);refine gA Z (kf (hB (d-1) (bb w [sO]) e (by omega) (by omega)) ?_);refine gA Z (kX (d147 (cQ n (bb w [sO]) e) [sC] (by simp) (by rw[cA,u];omega)) ?_);refine gA Z kM
theorem WO(d:Int)(hd:d<0)(w:WS)(e:Expr):bW prog 247 [.ptr 0 0,ag e.c,pI d] w.O (.bQ []) (oJ w).H 3:=by
 refine aB ab func247 Z (by decide) ntmps247 Z (by simp) ?_
 repeat' (first
  |((rename_i h;exact absurd hd (zF h)))
  |(refine gA Z (zI (fun _=>?_) (fun _=>?_)))
  |(refine gA Z (Mk (by first|exact .inr Z|exact .inl Z) Z Z Z Z Z (by first|exact .refl _|exact .kb _) (by first|exact .refl _|exact .kb _) Z Z Z Z (.refl _) Z Z)))
set_option maxHeartbeats 2000000 in
theorem d213(m:Nat)(hm:m<=900)(I:PE (m+1))(hB:PE m)(d:Int)(hd:d=m)(w:WS)(e:Expr)(hb:w.l.length+e.ts<=1000000000):bW prog 247 [.ptr 0 0,ag e.c,pI d] w.O (.bQ []) (kv (qY m) w e).H 3:=by
 refine bW.le (aa:=[.ptr 0 0,ag e.c,pI d]) (args:=[.ptr 0 0,ag e.c1,pI d]) ?_ ⟨.refl _,e.xd,.refl _,ac⟩;have e0:=e.mo;have G:sM.size=1:=rfl;have x:m<=1000:=by omega
 refine aB ab func247 Z (by decide) ntmps247 Z (by simp) ?_;refine zJ Z Z (fun J=>?_) fun J=>?_
 .have J:e.op=6:=zT J;refine zE Z Z (fun B=>?_) fun B=>?_
  .have B:w.bad=kw:=B;rw[kv,am B];refine gA Z kM
  have B: ¬w.bad=kw:=by rw[show w.bad=lc from B];simp
  refine zE Z Z (fun D=>?_) fun D=>?_
  .have D: ¬e.args.length=1:=by simp at D;omega
   rw[kv,be B,am J,be D];refine gA Z kM
  have D:e.args.length=1:=by simp at D;omega
  have hg:(aP e).ts<=_:=Expr.tT e.args 0 (by omega);have j:kv (qY m) w e=qY m (ow (aP e)) (if(pQ (aP e)&&li ((aP e).val.num=0))=kw then bb (bb w [sM]) [sM] else bb w [sM]) (aP e):=by rw[kv,be B,am J,am D]
  have b0:e.args.getD 0 em=aP e:=rfl;refine zJ Z Z (fun h3=>?_) fun h3=>?_
  .exact absurd (zT h3) (by omega)
  refine zE Z Z (fun h7=>?_) fun h7=>?_
  .exact absurd (zF h7) (by simp)
  have y:=aV w sM;refine zJ Z Z (fun hk=>?_) fun hk=>?_
  .have a0:(aP e).kind=2:=zT hk;refine gA Z (kX (d147 w [sM] (by simp) (by rw[cA,G];omega)) ?_);refine zE Z Z (fun hv=>?_) fun hv=>?_
   .have F: ¬(aP e).val.kind=1:=zF hv;have A:pQ (aP e)=lc:=by rw[pQ,decide_eq_false F,aaa]
    rw[A,aad,be (by simp)]at j;refine gA Z (n9 (JC (aP e)) ?_);refine zJ Z Z (fun u=>?_) fun u=>?_
    .have b:eC (aP e)<3:=zT u;rw[ow,decide_eq_true b,abF]at j;rw[j];refine gA Z (zx (d225 m x I hB kw d hd (bb w [sM]) (aP e) (by rw[y,G];omega)) ?_);refine gA Z kM
    .have b: ¬eC (aP e)<3:=zF u;refine zJ Z Z (fun S=>?_) fun S=>?_
     .exact absurd (zT S) F
     rw[ow,decide_eq_false b,aan,A,aad]at j;rw[j];refine gA Z (zx (d225 m x I hB lc d hd (bb w [sM]) (aP e) (by rw[y,G];omega)) ?_);refine gA Z kM
   .have F:(aP e).val.kind=1:=zT hv;have A:pQ (aP e)=kw:=by rw[pQ,decide_eq_true F,decide_eq_true a0];rfl
    rw[A,ZR]at j;refine zJ Z Z (fun h0=>?_) fun h0=>?_
    .have Y:(aP e).val.num=0:=zT h0;rw[am (decide_eq_true Y)]at j;refine gA Z (kX (d147 (bb w [sM]) [sM] (by simp) (by rw[cA,y,G];omega)) ?_);refine gA Z (n9 (JC (aP e)) ?_);refine zJ Z Z (fun u=>?_) fun u=>?_
     .have b:eC (aP e)<3:=zT u;rw[ow,decide_eq_true b,abF]at j;rw[j];refine gA Z (zx (d225 m x I hB kw d hd (bb (bb w [sM]) [sM]) (aP e) (by rw[aV,y,G];omega)) ?_);refine gA Z kM
     .have b: ¬eC (aP e)<3:=zF u;refine zE Z Z (fun S=>?_) fun S=>?_
      .exact absurd F (zF S)
      rw[ow,decide_eq_false b,aan,A,ZR]at j;rw[j];refine gA Z (zx (d225 m x I hB (li ((aP e).val.num>0)) d hd (bb (bb w [sM]) [sM]) (aP e) (by rw[aV,y,G];omega)) ?_);refine gA Z kM
    .have Y: ¬(aP e).val.num=0:=zF h0;rw[be (by simpa using Y)]at j;refine gA Z (n9 (JC (aP e)) ?_);refine zJ Z Z (fun u=>?_) fun u=>?_
     .have b:eC (aP e)<3:=zT u;rw[ow,decide_eq_true b,abF]at j;rw[j];refine gA Z (zx (d225 m x I hB kw d hd (bb w [sM]) (aP e) (by rw[y,G];omega)) ?_);refine gA Z kM
     .have b: ¬eC (aP e)<3:=zF u;refine zE Z Z (fun S=>?_) fun S=>?_
      .exact absurd F (zF S)
      rw[ow,decide_eq_false b,aan,A,ZR]at j;rw[j];refine gA Z (zx (d225 m x I hB (li ((aP e).val.num>0)) d hd (bb w [sM]) (aP e) (by rw[y,G];omega)) ?_);refine gA Z kM
  .have a0: ¬(aP e).kind=2:=zF hk;have A:pQ (aP e)=lc:=by rw[pQ,decide_eq_false a0];rfl
   rw[A,aad,be (by simp)]at j;refine gA Z (kX (d147 w [sM] (by simp) (by rw[cA,G];omega)) ?_);refine gA Z (n9 (JC (aP e)) ?_);refine zJ Z Z (fun u=>?_) fun u=>?_
   .have b:eC (aP e)<3:=zT u;rw[ow,decide_eq_true b,abF]at j;rw[j];refine gA Z (zx (d225 m x I hB kw d hd (bb w [sM]) (aP e) (by rw[y,G];omega)) ?_);refine gA Z kM
   .have b: ¬eC (aP e)<3:=zF u;rw[ow,decide_eq_false b,aan,A,aad]at j;rw[j];refine gA Z (zx (d225 m x I hB lc d hd (bb w [sM]) (aP e) (by rw[y,G];omega)) ?_);refine gA Z kM
 .have J: ¬e.op=6:=zF J;refine zE Z Z (fun B=>?_) fun B=>?_
  .have B:w.bad=kw:=B;rw[kv,am B];refine gA Z kM
  have B: ¬w.bad=kw:=by rw[show w.bad=lc from B];simp
  refine zE Z Z (fun D=>?_) fun D=>?_
  .have D: ¬e.args.length=2:=by simp at D;omega
   rw[kv,be B,be J,be D];refine gA Z kM
  have D:e.args.length=2:=by simp at D;omega
  have hg:(aP e).ts+(lf e).ts<=_:=Expr.wY e.args D;rw[kv,be B,be J,am D];refine zJ Z Z (fun h3=>?_) fun h3=>?_
  .exact absurd (zT h3) (by omega)
  refine zJ Z Z (fun h7=>?_) fun h7=>?_
  .exact absurd (zT h7) (by simp)
  refine gA Z (n9 (JC (aP e)) ?_);refine gA Z (n9 (QN e.op) ?_);refine gA Z (zx (d225 m x I hB (li (eC (aP e)<bj e.op)) d hd w (aP e) (by omega)) ?_);refine gA Z (zp (Yj e.op) ?_);have c0:=MX m (li (eC (aP e)<bj e.op)) w (aP e);have d0:=Dn e.op;have e2:GU.size=1:=rfl;have e3:gZ [GU,pF e.op,GU]=1+((pF e.op).size+1):=by simp[gZ,e2]
  refine gA Z (kX (d147 (qY m (li (eC (aP e)<bj e.op)) w (aP e)) [GU,pF e.op,GU] (by simp) (by rw[e3];omega)) ?_);refine gA Z (n9 (JC (lf e)) ?_);refine gA Z (n9 (QN e.op) ?_);refine gA Z (zx (d225 m x I hB (li (eC (lf e)<=bj e.op)) d hd (bb (qY m (li (eC (aP e)<bj e.op)) w (aP e)) [GU,pF e.op,GU]) (lf e) (by rw[kR,e3];omega)) ?_);refine gA Z kM
theorem d189(d:Int)(S:0<=d)(Y:d<=1000)(w:WS)(e:Expr)(hb:w.l.length+e.ts<=1000000000)(k:WS)(G:bW prog 247 [.ptr 0 0,ag e.c,pI (d-1)] (aT w (mC e)).O (.bQ []) k.H 3):bW prog 222 [.ptr 0 0,ag e.c,pI d] w.O (.bQ []) (jP w e k).H 3:=by
 have a0:=e.mo;refine aB ab func222 Z (by decide) ntmps222 Z (by simp) ?_;refine zE Z Z (fun I=>?_) fun I=>?_
 .have I:w.bad=kw:=I;rw[jP,am I];refine gA Z kM
 have A: ¬w.bad=kw:=by rw[show w.bad=lc from I];simp
 refine zJ Z Z (fun J=>?_) fun J=>?_
 .exact absurd (zT J) (by omega)
 refine zJ Z Z (fun B=>?_) fun B=>?_
 .have j:e.kind=1:=zT B;have y:jP w e k=bb (aT w (qn e)) [e.var]:=by rw[jP,be A,am j]
  rw[y];refine gA Z (zp (Gk e.var) ?_);refine zE Z Z (fun g0=>?_) fun g0=>?_
  .have b:qn e=lc:=by simp only[qn,cV, *];rfl
   rw[b];refine gA Z (kf (d146 w lc) ?_);refine gA Z (kX (d147 (aT w lc) [e.var] (by simp) (by rw[cA,aX];omega)) ?_);refine gA Z kM
  refine zE Z Z (fun g1=>?_) fun g1=>?_
  .have b:qn e=lc:=by simp only[qn,cV, *];rfl
   rw[b];refine gA Z (kf (d146 w lc) ?_);refine gA Z (kX (d147 (aT w lc) [e.var] (by simp) (by rw[cA,aX];omega)) ?_);refine gA Z kM
  refine zE Z Z (fun g2=>?_) fun g2=>?_
  .have b:qn e=lc:=by simp only[qn,cV, *];rfl
   rw[b];refine gA Z (kf (d146 w lc) ?_);refine gA Z (kX (d147 (aT w lc) [e.var] (by simp) (by rw[cA,aX];omega)) ?_);refine gA Z kM
  have b:qn e=li ((e.args.length:Int)=0):=by simp only[qn,cV, *];rfl
  rw[b];refine gA Z (kf (d146 w (li ((e.args.length:Int)=0))) ?_);refine gA Z (kX (d147 (aT w (li ((e.args.length:Int)=0))) [e.var] (by simp) (by rw[cA,aX];omega)) ?_);refine gA Z kM
 have j: ¬e.kind=1:=zF B;refine zJ Z Z (fun D=>?_) fun D=>?_
 .have u:e.kind=2:=zT D;have y:jP w e k=nK (aT w (r9 e)) e.val:=by rw[jP,be A,be j,am u]
  rw[y];have b0:=oc e.val;refine zE Z Z (fun g0=>?_) fun g0=>?_
  .have b:r9 e=lc:=by simp only[r9,cV, *];rfl
   rw[b];refine gA Z (kf (d146 w lc) ?_);refine gA Z (kf (d149 (aT w lc) e.val (by rw[aX];omega) (by omega)) ?_);refine gA Z kM
  refine zE Z Z (fun g1=>?_) fun g1=>?_
  .have b:r9 e=lc:=by simp only[r9,cV, *];rfl
   rw[b];refine gA Z (kf (d146 w lc) ?_);refine gA Z (kf (d149 (aT w lc) e.val (by rw[aX];omega) (by omega)) ?_);refine gA Z kM
  have b:r9 e=li ((e.args.length:Int)=0):=by simp only[r9,cV, *];rfl
  rw[b];refine gA Z (kf (d146 w (li ((e.args.length:Int)=0))) ?_);refine gA Z (kf (d149 (aT w (li ((e.args.length:Int)=0))) e.val (by rw[aX];omega) (by omega)) ?_);refine gA Z kM
 have u: ¬e.kind=2:=zF D;refine zJ Z Z (fun F=>?_) fun F=>?_
 .have x:e.kind=4:=zT F;have y:jP w e k=k:=by rw[jP,be A,be j,be u,am x]
  rw[y];refine zE Z Z (fun g0=>?_) fun g0=>?_
  .have b:mC e=lc:=by simp only[mC,cV, *];rfl
   rw[b]at G;refine gA Z (kf (d146 w lc) ?_);refine gA Z (kf (G) ?_);refine gA Z kM
  refine zE Z Z (fun g1=>?_) fun g1=>?_
  .have b:mC e=lc:=by simp only[mC,cV, *];rfl
   rw[b]at G;refine gA Z (kf (d146 w lc) ?_);refine gA Z (kf (G) ?_);refine gA Z kM
  refine gA Z (zp (QN e.op) ?_);have b:mC e=li (bj e.op>0):=by simp only[mC,cV, *];rfl
  rw[b]at G;refine gA Z (kf (d146 w (li (bj e.op>0))) ?_);refine gA Z (kf (G) ?_);refine gA Z kM
 have x: ¬e.kind=4:=zF F;rw[jP,be A,be j,be u,be x];refine gA Z kM
theorem pe0:PE 0:=fun d w e hd hb=>by
 refine aB ab func222 Z (by decide) ntmps222 Z (by simp) ?_;rw[cQ]
 repeat' (first
  |((rename_i h;exact absurd (by omega:d<0) (zF h)))
  |(refine gA Z (zI (fun _=>?_) (fun _=>?_)))
  |(refine gA Z (Mk (by first|exact .inr Z|exact .inl Z) Z Z Z Z Z (by first|exact .refl _|exact .kb _) (by first|exact .refl _|exact .kb _) Z Z Z Z (.refl _) Z Z)))
theorem FF: ∀n,n<=900->PE n
 |0,_=>pe0
 |1,_=>fun d w e hd hb=>d189 d (by omega) (by omega) w e hb _ (WO (d-1) (by omega) (aT w (mC e)) e)
 |m+2,h=>fun d w e hd hb=>d189 d (by omega) (by omega) w e (by omega) _ (d213 m (by omega) (FF (m+1) (by omega)) (FF m (by omega)) (d-1) (by omega) (aT w (mC e)) e (by rw[aX];omega))
theorem sx(w:WS)(e:Expr)(hb:w.l.length+e.ts<=900000000):bW prog 222 [.ptr 0 0,ag e.c,pI 16] w.O (.bQ []) (cQ 17 w e).H 3:=FF 17 (by omega) 16 w e (by omega) (by omega)
def wM:ak:=⟨#[44,32]⟩
def Kv:ak:=⟨#[95]⟩
def iU(i:Nat)(w:WS):WS:=if i=0 then w else bb w [wM]
def zs(t:Term):Bool:=ej t.var&&cV t.val
def zt(t:Term):Bool:=li (t.var=⟨#[]⟩)&&cV t.val
def lE(w:WS)(t:Term):WS:=
 if t.kind=1 then bb (aT w (zs t)) [t.var] else if t.kind=2 then nK (aT w (li (t.var=⟨#[]⟩))) t.val else if t.kind=3 then bb (aT w (zt t)) [Kv] else oJ w
def eG(l:List Term)(w:WS):Nat->WS
 |0=>w
 |i+1=>lE (iU i (eG l w i)) (l.getD i em)
def ky(w:WS)(a:Atom):WS:=bb (eG a.ad (bb (aT w (ey a.rel)) [a.rel,sO]) a.ad.length) [sC]
def Term.ts(t:Term):Nat:=t.var.size+310
def Atom.ts(a:Atom):Nat:=a.rel.size+10+(a.ad.map Term.ts).sum
theorem po(i:Nat)(w:WS):(iU i w).l.length<=w.l.length+2:=by
 have e:wM.size=2:=rfl;unfold iU;split
 .omega
 .rw[aV,e];omega
theorem Il(w:WS)(t:Term):(lE w t).l.length<=w.l.length+300+t.var.size:=by
 have e:Kv.size=1:=rfl;unfold lE
 repeat' split
 .rw[aV,aX];omega
 .have:=xv (aT w (li (t.var=⟨#[]⟩))) t.val;rw[aX]at this;omega
 .rw[aV,aX,e];omega
 .rw[iD];omega
theorem uZ: ∀(l:List Term) (i:Nat),i<l.length->((l.take i).map Term.ts).sum+(l.getD i em).ts<=(l.map Term.ts).sum
 | [],i,h=>by simp at h
 |s::r,0,_=>by simp
 |s::r,i+1,h=>by
  have:=uZ r i (by simpa using h);simp at this ⊢;omega
theorem GH: ∀(l:List Term) (i:Nat),((l.take i).map Term.ts).sum<=(l.map Term.ts).sum
 | [],i=>by simp
 |s::r,0=>by simp
 |s::r,i+1=>by have:=GH r i;simp at this ⊢;omega
theorem sQ(l:List Term)(w:WS): ∀i,i<=l.length->(eG l w i).l.length<=w.l.length+((l.take i).map Term.ts).sum
 |0,_=>by simp[eG]
 |i+1,h=>by
  have b:=sQ l w i (by omega);have d:=po i (eG l w i);have j:=Il (iU i (eG l w i)) (l.getD i em);have u:(l.getD i em).ts=(l.getD i em).var.size+310:=rfl;have x:((l.take (i+1)).map Term.ts).sum=((l.take i).map Term.ts).sum+(l.getD i em).ts:=by
   rw[ba (by omega),Ze,List.sum_append];simp
  rw[eG];omega
theorem Bj(w:WS)(a:Atom):(ky w a).l.length<=w.l.length+a.ts:=by
 have b:sO.size=1:=rfl;have d:sC.size=1:=rfl;have j:gZ [a.rel,sO]=a.rel.size+1:=by simp[gZ,b]
 have u:=sQ a.ad (bb (aT w (ey a.rel)) [a.rel,sO]) a.ad.length (Zc _);rw[kR,j,aX,aaQ]at u;rw[ky,aV,d];unfold Atom.ts;omega
theorem AM: ∀l:List Term,l.length<=(l.map Term.ts).sum
 | []=>by simp
 |t::r=>by have:=AM r;simp[Term.ts]at this ⊢;omega
set_option maxHeartbeats 1000000 in
theorem d104(w:WS)(a:Atom)(hb:w.l.length+a.ts<=900000000):bW prog 188 [.ptr 0 0,ag a.c] w.O (.bQ []) (ky w a).H 3:=by
 have J:sO.size=1:=rfl;have S:sC.size=1:=rfl;have A:wM.size=2:=rfl;have e5:Kv.size=1:=rfl;have I:gZ [a.rel,sO]=a.rel.size+1:=by simp[gZ,J]
 have f0:a.ts=a.rel.size+10+(a.ad.map Term.ts).sum:=rfl;have c0:=AM a.ad;have a0:(bb (aT w (ey a.rel)) [a.rel,sO]).l.length=w.l.length+(a.rel.size+1):=by rw[kR,I,aX]
 refine aB ab func188 Z (by decide) ntmps188 Z (by simp) ?_;refine gA Z (zp (X3 a.rel) ?_);refine gA Z (kf (d146 w (ey a.rel)) ?_);refine gA Z (kX (d147 (aT w (ey a.rel)) [a.rel,sO] (by simp) (by rw[I,aX];omega)) ?_);generalize hW:bb (aT w (ey a.rel)) [a.rel,sO]=w1 at*
 refine gA Z ?_;refine aw 0 a.ad.length (Zf _) (fun i=>⟨[(0,.ptr 0 0),(17,.iv (cZ 5 a.ad Term.c)),(18,pI a.ad.length),(19,pI i)],[(0,io ((eG a.ad w1 i).uS 0 6)),(6,io (.bS (eG a.ad w1 i).l 5))],7⟩) (fun _=>True) _ ac
  (XB (w:=w1) Z Z Z Z Z (.refl _) (.refl _) Z Z Z Z Z (bv (bv (bv (bv trivial))))) fun i hi _=>?_
 have b0:=sQ a.ad w1 i hi;have d0:=GH a.ad i;refine zE Z Z (fun u=>?_) fun u=>?_
 .have u:a.ad.length<=i:=zG u;have G:i=a.ad.length:=by omega
  subst G;refine gA Z (kX (d147 (eG a.ad w1 a.ad.length) [sC] (by simp) (by rw[cA,S];omega)) ?_);rw[ky,hW];refine gA Z kM
 have u:i<a.ad.length:=zN u;have e0:=uZ a.ad i u;have b:eG a.ad w1 (i+1)=lE (iU i (eG a.ad w1 i)) (a.ad.getD i em):=rfl;have ht:(a.ad.getD i em).ts=(a.ad.getD i em).var.size+310:=rfl;have i0:=oc (a.ad.getD i em).val;have Y:=po i (eG a.ad w1 i);generalize hT:eG a.ad w1 i=w2 at*
 refine zJ Z Z (fun B=>?_) fun B=>?_
 .have B: ¬i=0:=by have:=zT B;omega
  rw[iU,be B]at b;refine gA Z (kX (d147 w2 [wM] (by simp) (by rw[cA,A];omega)) ?_);refine zJ Z Z (fun k1=>?_) fun k1=>?_
  .have d:(a.ad.getD i em).kind=1:=zT k1;rw[lE,am d]at b;refine gA Z (zp (Gk (a.ad.getD i em).var) ?_);refine zE Z Z (fun g0=>?_) fun g0=>?_
   .have x:zs (a.ad.getD i em)=lc:=by have g:ej (a.ad.getD i em).var=lc:=g0;rw[zs,g];rfl
    rw[x]at b;refine gA Z (kf (d146 (bb w2 [wM]) lc) ?_);refine gA Z (kX (d147 (aT (bb w2 [wM]) lc) [(a.ad.getD i em).var] (by simp) (by rw[cA,aX];first|omega|(rw[aV,A];omega))) ?_);refine gA Z ⟨u,ac,_,tL (b.symm)⟩
   have x:zs (a.ad.getD i em)=cV (a.ad.getD i em).val:=by have g:ej (a.ad.getD i em).var=kw:=g0;rw[zs,g];rfl
   rw[x]at b;refine gA Z (kf (d146 (bb w2 [wM]) (cV (a.ad.getD i em).val)) ?_);refine gA Z (kX (d147 (aT (bb w2 [wM]) (cV (a.ad.getD i em).val)) [(a.ad.getD i em).var] (by simp) (by rw[cA,aX];first|omega|(rw[aV,A];omega))) ?_);refine gA Z ⟨u,ac,_,tL (b.symm)⟩
  have d: ¬(a.ad.getD i em).kind=1:=zF k1;refine zJ Z Z (fun D=>?_) fun D=>?_
  .have j:(a.ad.getD i em).kind=2:=zT D;rw[lE,be d,am j]at b;refine gA Z (kf (d146 (bb w2 [wM]) (li ((a.ad.getD i em).var=⟨#[]⟩))) ?_);refine gA Z (kf (d149 (aT (bb w2 [wM]) (li ((a.ad.getD i em).var=⟨#[]⟩))) (a.ad.getD i em).val (by rw[aX];first|omega|(rw[aV,A];omega)) (by omega)) ?_);refine gA Z ⟨u,ac,_,tL (b.symm)⟩
  have j: ¬(a.ad.getD i em).kind=2:=zF D;refine zJ Z Z (fun F=>?_) fun F=>?_
  .have y:(a.ad.getD i em).kind=3:=zT F;rw[lE,be d,be j,am y]at b;refine zE Z Z (fun g0=>?_) fun g0=>?_
   .have x:zt (a.ad.getD i em)=lc:=by have g:li ((a.ad.getD i em).var=⟨#[]⟩)=lc:=g0;rw[zt,g];rfl
    rw[x]at b;refine gA Z (kf (d146 (bb w2 [wM]) lc) ?_);refine gA Z (kX (d147 (aT (bb w2 [wM]) lc) [Kv] (by simp) (by rw[cA,aX];first|omega|(rw[aV,A];omega))) ?_);refine gA Z ⟨u,ac,_,tL (b.symm)⟩
   have x:zt (a.ad.getD i em)=cV (a.ad.getD i em).val:=by have g:li ((a.ad.getD i em).var=⟨#[]⟩)=kw:=g0;rw[zt,g];rfl
   rw[x]at b;refine gA Z (kf (d146 (bb w2 [wM]) (cV (a.ad.getD i em).val)) ?_);refine gA Z (kX (d147 (aT (bb w2 [wM]) (cV (a.ad.getD i em).val)) [Kv] (by simp) (by rw[cA,aX];first|omega|(rw[aV,A];omega))) ?_);refine gA Z ⟨u,ac,_,tL (b.symm)⟩
  have y: ¬(a.ad.getD i em).kind=3:=zF F;rw[lE,be d,be j,be y]at b;refine gA Z ⟨u,ac,_,tL (b.symm)⟩
 .have B:i=0:=by have:=zF B;omega
  rw[iU,am B]at b;refine zJ Z Z (fun k1=>?_) fun k1=>?_
  .have d:(a.ad.getD i em).kind=1:=zT k1;rw[lE,am d]at b;refine gA Z (zp (Gk (a.ad.getD i em).var) ?_);refine zE Z Z (fun g0=>?_) fun g0=>?_
   .have x:zs (a.ad.getD i em)=lc:=by have g:ej (a.ad.getD i em).var=lc:=g0;rw[zs,g];rfl
    rw[x]at b;refine gA Z (kf (d146 w2 lc) ?_);refine gA Z (kX (d147 (aT w2 lc) [(a.ad.getD i em).var] (by simp) (by rw[cA,aX];first|omega|(rw[aV,A];omega))) ?_);refine gA Z ⟨u,ac,_,tL (b.symm)⟩
   have x:zs (a.ad.getD i em)=cV (a.ad.getD i em).val:=by have g:ej (a.ad.getD i em).var=kw:=g0;rw[zs,g];rfl
   rw[x]at b;refine gA Z (kf (d146 w2 (cV (a.ad.getD i em).val)) ?_);refine gA Z (kX (d147 (aT w2 (cV (a.ad.getD i em).val)) [(a.ad.getD i em).var] (by simp) (by rw[cA,aX];first|omega|(rw[aV,A];omega))) ?_);refine gA Z ⟨u,ac,_,tL (b.symm)⟩
  have d: ¬(a.ad.getD i em).kind=1:=zF k1;refine zJ Z Z (fun D=>?_) fun D=>?_
  .have j:(a.ad.getD i em).kind=2:=zT D;rw[lE,be d,am j]at b;refine gA Z (kf (d146 w2 (li ((a.ad.getD i em).var=⟨#[]⟩))) ?_);refine gA Z (kf (d149 (aT w2 (li ((a.ad.getD i em).var=⟨#[]⟩))) (a.ad.getD i em).val (by rw[aX];first|omega|(rw[aV,A];omega)) (by omega)) ?_);refine gA Z ⟨u,ac,_,tL (b.symm)⟩
  have j: ¬(a.ad.getD i em).kind=2:=zF D;refine zJ Z Z (fun F=>?_) fun F=>?_
  .have y:(a.ad.getD i em).kind=3:=zT F;rw[lE,be d,be j,am y]at b;refine zE Z Z (fun g0=>?_) fun g0=>?_
   .have x:zt (a.ad.getD i em)=lc:=by have g:li ((a.ad.getD i em).var=⟨#[]⟩)=lc:=g0;rw[zt,g];rfl
    rw[x]at b;refine gA Z (kf (d146 w2 lc) ?_);refine gA Z (kX (d147 (aT w2 lc) [Kv] (by simp) (by rw[cA,aX];first|omega|(rw[aV,A];omega))) ?_);refine gA Z ⟨u,ac,_,tL (b.symm)⟩
   have x:zt (a.ad.getD i em)=cV (a.ad.getD i em).val:=by have g:li ((a.ad.getD i em).var=⟨#[]⟩)=kw:=g0;rw[zt,g];rfl
   rw[x]at b;refine gA Z (kf (d146 w2 (cV (a.ad.getD i em).val)) ?_);refine gA Z (kX (d147 (aT w2 (cV (a.ad.getD i em).val)) [Kv] (by simp) (by rw[cA,aX];first|omega|(rw[aV,A];omega))) ?_);refine gA Z ⟨u,ac,_,tL (b.symm)⟩
  have y: ¬(a.ad.getD i em).kind=3:=zF F;rw[lE,be d,be j,be y]at b;refine gA Z ⟨u,ac,_,tL (b.symm)⟩
end Go.Proofs.YtflegjieadkonaaGreatDoor
namespace Go.Proofs.YtflegjieadkonaaGreatDoor
open Go Go.Al
def xL:ak:=⟨#[110,111,116,32]⟩
def p5:ak:=⟨#[32,61,32]⟩
def p6:ak:=⟨#[32,123,32]⟩
def Fg:ak:=⟨#[32,58,32]⟩
def wL:ak:=⟨#[32,125]⟩
def qQ(op:Int):ak:=if op=1 then⟨#[32,61,32]⟩ else if op=2 then⟨#[32,33,61,32]⟩ else if op=3 then⟨#[32,60,32]⟩ else if op=4 then⟨#[32,60,61,32]⟩ else if op=5 then⟨#[32,62,32]⟩ else⟨#[32,62,61,32]⟩
def fF(f:Int):ak:=if f=1 then⟨#[99,111,117,110,116]⟩ else if f=2 then⟨#[115,117,109]⟩ else if f=3 then⟨#[109,105,110]⟩ else⟨#[109,97,120]⟩
def xm(w:WS)(n:Int):WS:=⟨w.fr,w.l,w.bad,w.br+n⟩
def dp(f:Lit->WS->WS)(l:List Lit)(w:WS):Nat->WS
 |0=>w
 |i+1=>if(dp f l w i).bad=kw then dp f l w i else f (l.getD i em) (iU i (dp f l w i))
def rS(w:WS)(a:eO):WS:=if a.func=1 then aT w (cY a.dZ) else bb (cQ 17 w a.dZ) [Fg]
def zb(f:Lit->WS->WS)(w:WS)(a:eO):WS:=
 if a.func<1∨5<=a.func∨16<=w.br∨a.body.length=0 then oJ w
 else bb (xm (dp f a.body (xm (rS (bb (aT w (ej a.var)) [a.var,p5,fF a.func,p6]) a) 1) a.body.length) (-1)) [wL]
def Ed(f:Lit->WS->WS)(l:Lit)(w:WS):WS:=
 if l.kind=2 then ky (bb w [xL]) l.atom else if l.kind=1 then ky w l.atom
 else if l.kind=3 then(if l.op<1∨7<=l.op then oJ (cQ 17 w l.left) else cQ 17 (bb (cQ 17 w l.left) [qQ l.op]) l.right)
 else if l.kind=4 then zb f w l.agg else oJ w
def eF:Nat->Lit->WS->WS
 |0,_,w=>w
 |n+1,l,w=>Ed (eF n) l (aT w (kI l))
theorem dq: ∀(b:List ak) (w:WS),(bb w b).br=w.br
 | [],w=>rfl
 |s::r,w=>dq r (BS w s)
theorem qs(w:WS)(b:Bool):(aT w b).br=w.br:=rfl
theorem QW(w:WS):(oJ w).br=w.br:=rfl
theorem z7(w:WS)(v:tK):(nK w v).br=w.br:=by rw[nK,dq];rfl
theorem Ee(w k:WS)(e:Expr)(h:k.br=w.br):(jP w e k).br=w.br:=by
 unfold jP
 repeat' split
 .rfl
 .rw[dq];rfl
 .rw[z7];rfl
 .exact h
 .rfl
theorem K1(a0:Bool->WS->Expr->WS)(d: ∀b w a,(a0 b w a).br=w.br)(w:WS)(e:Expr):(kv a0 w e).br=w.br:=by
 unfold kv
 repeat' split
 .rfl
 .rw[d,dq,dq]
 .rw[d,dq]
 .rfl
 .rw[d,dq,d]
 .rfl
theorem oE: ∀(n:Nat) (w:WS) (e:Expr),(cQ n w e).br=w.br
 |0,w,e=>rfl
 |1,w,e=>by rw[cQ];exact Ee _ _ _ Z
 |m+2,w,e=>by
  rw[cQ];refine Ee _ _ _ ?_;rw[K1 _ (fun b w a=>?_)]
  .rfl
  .split
   .rw[dq,oE m,dq]
   .exact oE (m+1) _ _
theorem rI(i:Nat)(w:WS):(iU i w).br=w.br:=by
 unfold iU;split
 .rfl
 .exact dq _ _
theorem J7(w:WS)(t:Term):(lE w t).br=w.br:=by
 unfold lE
 repeat' split
 .rw[dq];rfl
 .rw[z7];rfl
 .rw[dq];rfl
 .rfl
theorem Ac(l:List Term)(w:WS): ∀i,(eG l w i).br=w.br
 |0=>rfl
 |i+1=>by rw[eG,J7,rI,Ac l w i]
theorem E6(w:WS)(a:Atom):(ky w a).br=w.br:=by rw[ky,dq,Ac,dq];rfl
theorem oI(f:Lit->WS->WS)(hf: ∀l w,(f l w).br=w.br)(l:List Lit)(w:WS): ∀i,(dp f l w i).br=w.br
 |0=>rfl
 |i+1=>by
  rw[dp];split
  .exact oI f hf l w i
  .rw[hf,rI,oI f hf l w i]
theorem FL(w:WS)(a:eO):(rS w a).br=w.br:=by
 unfold rS;split
 .rfl
 .rw[dq,oE]
theorem Q5(f:Lit->WS->WS)(hf: ∀l w,(f l w).br=w.br)(w:WS)(a:eO):(zb f w a).br=w.br:=by
 unfold zb;split
 .rfl
 .rw[dq];show(dp _ _ _ _).br+ -1=_;rw[oI f hf];show(rS _ _).br+1+ -1=_;rw[FL,dq,qs];omega
theorem Qb(f:Lit->WS->WS)(hf: ∀l w,(f l w).br=w.br)(l:Lit)(w:WS):(Ed f l w).br=w.br:=by
 unfold Ed
 repeat' split
 .rw[E6,dq]
 .exact E6 _ _
 .rw[QW,oE]
 .rw[oE,dq,oE]
 .exact Q5 f hf _ _
 .rfl
theorem xc: ∀(n:Nat) (l:Lit) (w:WS),(eF n l w).br=w.br
 |0,_,_=>rfl
 |n+1,l,w=>by rw[eF,Qb (eF n) (xc n)];rfl
mutual
def Lit.ts:Lit->Nat
 | .mk _ a _ l r _ v o b _=>100+a.ts+l.ts+r.ts+v.size+o.ts+Lit.lK b
def Lit.lK:List Lit->Nat
 | []=>0
 |e::r=>e.ts+Lit.lK r
end
theorem Lit.mo(l:Lit):l.ts=100+l.atom.ts+l.left.ts+l.right.ts+l.a8.size+l.jT.ts+Lit.lK l.ar:=by cases l;rfl
theorem Lit.tP: ∀(l:List Lit) (i:Nat),i<l.length->Lit.lK (l.take i)+(l.getD i em).ts<=Lit.lK l
 | [],i,h=>by simp at h
 |s::r,0,_=>by simp[Lit.lK]
 |s::r,i+1,h=>by
  have:=Lit.tP r i (by simpa using h);simp only[aau,Lit.lK,aav];omega
theorem Lit.J2: ∀(l:List Lit) (i:Nat),Lit.lK (l.take i)<=Lit.lK l
 | [],i=>by simp
 |s::r,0=>by simp[Lit.lK]
 |s::r,i+1=>by have:=Lit.J2 r i;simp only[aau,Lit.lK];omega
theorem Lit.TC(l:Lit):100<=l.ts:=by rw[l.mo];omega
theorem yJ(op:Int):(qQ op).size<=4:=by
 unfold qQ
 repeat' split
 all_goals decide
theorem uA(op:Int):(fF op).size<=5:=by
 unfold fF
 repeat' split
 all_goals decide
def Q9(f:Lit->WS->WS):Prop:= ∀l w,(f l w).l.length+4<=w.l.length+l.ts
theorem rM(f:Lit->WS->WS)(hf:Q9 f)(l:List Lit)(w:WS): ∀i,i<=l.length->(dp f l w i).l.length<=w.l.length+Lit.lK (l.take i)
 |0,_=>by simp[dp,Lit.lK]
 |i+1,h=>by
  have d:=rM f hf l w i (by omega);have y:Lit.lK (l.take (i+1))=Lit.lK (l.take i)+(l.getD i em).ts:=by
   rw[ba (by omega)];have: ∀(a:List Lit) (b:Lit),Lit.lK (a++ [b])=Lit.lK a+b.ts:=by
    intro a b
    induction a with
    |nil=>simp[Lit.lK]
    |cons x r ih=>simp only[aaJ,Lit.lK,ih];omega
   exact this _ _
  rw[dp];split
  .omega
  .have j:=hf (l.getD i em) (iU i (dp f l w i));have u:=po i (dp f l w i);omega
theorem He(w:WS)(a:eO):(rS w a).l.length<=w.l.length+a.dZ.ts+3:=by
 have e:Fg.size=3:=rfl;unfold rS;split
 .rw[aX];omega
 .have:=ei 17 w a.dZ;rw[aV,e];omega
theorem AT(w:WS)(a:eO):(bb (aT w (ej a.var)) [a.var,p5,fF a.func,p6]).l.length<=w.l.length+a.var.size+11:=by
 have b:p5.size=3:=rfl;have d:p6.size=3:=rfl;have h:=uA a.func;have e:gZ [a.var,p5,fF a.func,p6]=a.var.size+(3+((fF a.func).size+3)):=by simp[gZ,b,d]
 rw[kR,aX,e];omega
theorem M8(f:Lit->WS->WS)(hf:Q9 f)(w:WS)(a:eO):(zb f w a).l.length<=w.l.length+a.var.size+a.dZ.ts+Lit.lK a.body+20:=by
 have e:wL.size=2:=rfl;unfold zb;split
 .rw[iD];omega
 .rw[aV,e];show(dp _ _ _ _).l.length+2<=_;have b:=rM f hf a.body (xm (rS (bb (aT w (ej a.var)) [a.var,p5,fF a.func,p6]) a) 1) a.body.length (Zc _);rw[aaQ]at b;have d:=He (bb (aT w (ej a.var)) [a.var,p5,fF a.func,p6]) a;have j:=AT w a;have u:(xm (rS (bb (aT w (ej a.var)) [a.var,p5,fF a.func,p6]) a) 1).l.length=(rS (bb (aT w (ej a.var)) [a.var,p5,fF a.func,p6]) a).l.length:=rfl;omega
theorem Lp(f:Lit->WS->WS)(hf:Q9 f)(l:Lit)(w:WS):(Ed f l w).l.length+4<=w.l.length+l.ts:=by
 have x:=l.mo;have e:xL.size=4:=rfl;unfold Ed
 repeat' split
 .have b:=Bj (bb w [xL]) l.atom;rw[aV,e]at b;omega
 .have b:=Bj w l.atom;omega
 .have b:=ei 17 w l.left;rw[iD];omega
 .have b:=ei 17 w l.left;have d:=ei 17 (bb (cQ 17 w l.left) [qQ l.op]) l.right;have j:=yJ l.op;rw[aV]at d;omega
 .have b:=M8 f hf w l.agg;have d:l.agg.var=l.a8:=rfl;have j:l.agg.dZ=l.jT:=rfl;have u:l.agg.body=l.ar:=rfl;rw[d,j,u]at b;omega
 .rw[iD];omega
theorem yj: ∀n,Q9 (eF n)
 |0=>fun l w=>by have:=l.TC;rw[eF];omega
 |n+1=>fun l w=>Lp (eF n) (yj n) l (aT w (kI l))
theorem Bf{f:Lit->WS->WS}{l:List Lit}{w:WS}{i:Nat}(h:(dp f l w i).bad=kw): ∀k,dp f l w (i+k)=dp f l w i
 |0=>rfl
 |k+1=>by
  have:=Bf h k;rw[<-aaI,dp,this,am h]
end Go.Proofs.YtflegjieadkonaaGreatDoor
namespace Go.Proofs.YtflegjieadkonaaGreatDoor
open Go Go.Al Go.Proofs.Tryz
def Nf(n:Nat):Prop:= ∀(l:Lit) (w:WS),l.size<=n->0<=w.br->w.br<=16->w.l.length+l.ts<=900000000->bW prog 190 [.ptr 0 0,ag l.c] w.O (.bQ []) (eF n l w).H 3
set_option maxHeartbeats 1000000 in
theorem d214(n:Nat)(D:Nf n)(w:WS)(b:List Lit)(hs:Lit.az b<=n)(G:0<=w.br)(I:w.br<=16)(hb:w.l.length+Lit.lK b+2<=900000000)(hn:n<=100000000):
  bW prog 248 [.ptr 0 0,.iv (lits b)] w.O (.bQ []) (dp (eF n) b w b.length).H 3:=by
 have F:wM.size=2:=rfl;have a0:=Lit.au b;refine aB ab func248 Z (by decide) ntmps248 Z (by simp) ?_;refine gA Z ?_;refine aw 0 b.length (Zf _) (fun i=>⟨[(0,.ptr 0 0),(6,.iv (lits b)),(7,pI b.length),(8,pI i)],[(0,io ((dp (eF n) b w i).uS 0 2)),(2,io (.bS (dp (eF n) b w i).l 5))],3⟩) (fun _=>True) _ ac
  (XB (w:=w) Z Z Z Z Z (.refl _) (.refl _) Z Z Z Z Z (bv (bv (bv (bv trivial))))) fun i S _=>?_
 have Y:=rM (eF n) (yj n) b w i S;have J:=oI (eF n) (xc n) b w i;have c0:=Lit.J2 b i;refine zE Z Z (fun j=>?_) fun j=>?_
 .have j:b.length<=i:=zG j;have B:i=b.length:=by omega
  subst B;refine gA Z kM
 have j:i<b.length:=zN j;have d0:=Lit.tP b i j;have b0:=Lit.aF b i j;have d:dp (eF n) b w (i+1)=if(dp (eF n) b w i).bad=kw then dp (eF n) b w i else eF n (b.getD i em) (iU i (dp (eF n) b w i)):=rfl;have u:=fun h=>Bf (f:=eF n) (l:=b) (w:=w) (i:=i) h (b.length-i);rw[Nat.add_sub_cancel' (Nat.le_of_lt j)]at u;have A:=po i (dp (eF n) b w i);have y:=rI i (dp (eF n) b w i);generalize dp (eF n) b w i=w2 at*
 refine zJ Z Z (fun g=>?_) fun g=>?_
 .have g:w2.bad=kw:=g;rw[u g];refine gA Z kM
 have g: ¬w2.bad=kw:=by
  have g:w2.bad=lc:=g;rw[g];decide
 rw[be g]at d;refine zJ Z Z (fun x=>?_) fun x=>?_
 .have x: ¬i=0:=by have:=zT x;omega
  rw[iU,be x]at d A y;refine gA Z (kX (d147 w2 [wM] (by simp) (by rw[cA,F];omega)) ?_);refine gA Z (kf (D (b.getD i em) (bb w2 [wM]) (by omega) (by omega) (by omega) (by omega)) ?_);refine gA Z ⟨j,ac,_,tL (d.symm)⟩
 .have x:i=0:=by have:=zF x;omega
  rw[iU,am x]at d A y;refine gA Z (kf (D (b.getD i em) w2 (by omega) (by omega) (by omega) (by omega)) ?_);refine gA Z ⟨j,ac,_,tL (d.symm)⟩
def eO.ts(a:eO):Nat:=a.var.size+a.dZ.ts+Lit.lK a.body
set_option maxHeartbeats 4000000 in
theorem d190(n:Nat)(S:Nf n)(w:WS)(a:eO)(hs:Lit.az a.body<=n)(a0:0<=w.br)(b0:w.br<=16)(hb:w.l.length+a.ts+30<=900000000)(hn:n<=100000000):
  bW prog 223 [.ptr 0 0,ag a.c] w.O (.bQ []) (zb (eF n) w a).H 3:=by
 refine bW.le (args:=[.ptr 0 0,ag a.c1]) ?_ ⟨.refl _,a.xd,ac⟩;have J:wL.size=2:=rfl;have Y:Fg.size=3:=rfl;have c0:=Lit.au a.body;have d0:a.ts=a.var.size+a.dZ.ts+Lit.lK a.body:=rfl;have hW: ¬(a.func<1∨5<=a.func∨16<=w.br∨a.body.length=0)->zb (eF n) w a=bb (xm (dp (eF n) a.body (xm (rS (bb (aT w (ej a.var)) [a.var,p5,fF a.func,p6]) a) 1) a.body.length) (-1)) [wL]:=fun h=>be h;have hB:a.func<1∨5<=a.func∨16<=w.br∨a.body.length=0->zb (eF n) w a=oJ w:=fun h=>am h;have hh:=AT w a;have x:=He (bb (aT w (ej a.var)) [a.var,p5,fF a.func,p6]) a;have j:=FL (bb (aT w (ej a.var)) [a.var,p5,fF a.func,p6]) a;rw[dq,qs]at j;have y:(xm (rS (bb (aT w (ej a.var)) [a.var,p5,fF a.func,p6]) a) 1).l.length=(rS (bb (aT w (ej a.var)) [a.var,p5,fF a.func,p6]) a).l.length:=rfl;have A:(xm (rS (bb (aT w (ej a.var)) [a.var,p5,fF a.func,p6]) a) 1).br=(rS (bb (aT w (ej a.var)) [a.var,p5,fF a.func,p6]) a).br+1:=rfl;have u:=rM (eF n) (yj n) a.body (xm (rS (bb (aT w (ej a.var)) [a.var,p5,fF a.func,p6]) a) 1) a.body.length (Zc _);rw[aaQ]at u;have B:=oI (eF n) (xc n) a.body (xm (rS (bb (aT w (ej a.var)) [a.var,p5,fF a.func,p6]) a) 1) a.body.length;have D:gZ [a.var,p5,fF a.func,p6]=a.var.size+(3+((fF a.func).size+3)):=by simp[gZ,p5,p6];rfl
 have F:=uA a.func;obtain⟨d,var,b,body⟩:=a;dsimp only at*
 refine aB ab func223 Z (by decide) ntmps223 Z (by simp) ?_;refine zE Z Z (fun g1=>?_) fun g1=>?_
 .rw[hB (.inl (zT g1))];refine gA Z kM
 refine zE Z Z (fun g2=>?_) fun g2=>?_
 .rw[hB (.inr (.inl (zT g2)))];refine gA Z kM
 refine zE Z Z (fun g3=>?_) fun g3=>?_
 .rw[hB (.inr (.inr (.inl (zT g3))))];refine gA Z kM
 refine zJ Z Z (fun g4=>?_) fun g4=>?_
 .rw[hB (.inr (.inr (.inr (acr.1 (zT g4)))))];refine gA Z kM
 have g1: ¬d<1:=zF g1;have g2: ¬d>=5:=zF g2;have g3: ¬w.br>=16:=zF g3;have g4: ¬body.length=0:=fun h=>zF g4 (acr.2 h);rw[hW (by rintro(h|h|h|h)<;>omega)];have hf:d=1∨d=2∨d=3∨d=4:=by omega
 clear hW hB;rcases hf with rfl|rfl|rfl|rfl
 .have e:fF 1=⟨#[99,111,117,110,116]⟩:=rfl;rw[e]at hh x j y A u B D F ⊢;refine gA Z (zp (Gk var) ?_);refine gA Z (kf (d146 w (ej var)) ?_);refine gA Z (Cp (d147 (aT w (ej var)) [var,p5,⟨#[99,111,117,110,116]⟩,p6] (by simp) (by rw[D,aX];omega)) Z Z Z Z Z Z Z Z Z Z Z Z Z Z Z Z (by(repeat' (first|exact ac|exact rfl|exact aK.refl _|exact aK.bk (by assumption)|apply ZU))<;>first|omega|(simp only[Zx];omega)|(simp;done)|(simp;omega)) Z (by(repeat' (first|exact ac|exact rfl|exact aK.refl _|exact aK.bk (by assumption)|apply ZU))<;>first|omega|(simp only[Zx];omega)|(simp;done)|(simp;omega)) ?_);generalize I:bb (aT w (ej var)) [var,p5,⟨#[99,111,117,110,116]⟩,p6]=w1 at*
  have G:rS w1 ⟨1,var,b,body⟩=aT w1 (cY b):=rfl;rw[G]at x j y A u B ⊢;refine zE Z Z (fun q=>?_) fun q=>?_
  .exact absurd (show kw=lc from q) (by decide)
  refine gA Z (zp (QO b) ?_);refine gA Z (kf (d146 w1 (cY b)) ?_);generalize aT w1 (cY b)=w2 at*
  refine gA Z (kf (d214 n S (xm w2 1) body hs (by omega) (by omega) (by omega) hn) ?_);generalize dp (eF n) body (xm w2 1) body.length=w3 at*
  refine gA Z (go_wp (d147 (xm w3 (-1)) [wL] (by simp) (by rw[cA,J];show w3.l.length+2<=_;omega)) Z Z Z Z Z Z Z Z Z Z Z Z ?_);refine gA Z kM
 .have e:fF 2=⟨#[115,117,109]⟩:=rfl;rw[e]at hh x j y A u B D F ⊢;refine gA Z (zp (Gk var) ?_);refine gA Z (kf (d146 w (ej var)) ?_);refine gA Z (Cp (d147 (aT w (ej var)) [var,p5,⟨#[115,117,109]⟩,p6] (by simp) (by rw[D,aX];omega)) Z Z Z Z Z Z Z Z Z Z Z Z Z Z Z Z (by(repeat' (first|exact ac|exact rfl|exact aK.refl _|exact aK.bk (by assumption)|apply ZU))<;>first|omega|(simp only[Zx];omega)|(simp;done)|(simp;omega)) Z (by(repeat' (first|exact ac|exact rfl|exact aK.refl _|exact aK.bk (by assumption)|apply ZU))<;>first|omega|(simp only[Zx];omega)|(simp;done)|(simp;omega)) ?_);generalize I:bb (aT w (ej var)) [var,p5,⟨#[115,117,109]⟩,p6]=w1 at*
  have G:rS w1 ⟨2,var,b,body⟩=bb (cQ 17 w1 b) [Fg]:=rfl;rw[G]at x j y A u B ⊢;refine zJ Z Z (fun q=>?_) fun q=>?_
  .exact absurd (show lc=kw from q) (by decide)
  have hx:=ei 17 w1 b;refine gA Z (kf (sx w1 b (by omega)) ?_);refine gA Z (kX (d147 (cQ 17 w1 b) [Fg] (by simp) (by rw[cA,Y];omega)) ?_);generalize bb (cQ 17 w1 b) [Fg]=w2 at*
  refine gA Z (kf (d214 n S (xm w2 1) body hs (by omega) (by omega) (by omega) hn) ?_);generalize dp (eF n) body (xm w2 1) body.length=w3 at*
  refine gA Z (go_wp (d147 (xm w3 (-1)) [wL] (by simp) (by rw[cA,J];show w3.l.length+2<=_;omega)) Z Z Z Z Z Z Z Z Z Z Z Z ?_);refine gA Z kM
 .have e:fF 3=⟨#[109,105,110]⟩:=rfl;rw[e]at hh x j y A u B D F ⊢;refine gA Z (zp (Gk var) ?_);refine gA Z (kf (d146 w (ej var)) ?_);refine gA Z (Cp (d147 (aT w (ej var)) [var,p5,⟨#[109,105,110]⟩,p6] (by simp) (by rw[D,aX];omega)) Z Z Z Z Z Z Z Z Z Z Z Z Z Z Z Z (by(repeat' (first|exact ac|exact rfl|exact aK.refl _|exact aK.bk (by assumption)|apply ZU))<;>first|omega|(simp only[Zx];omega)|(simp;done)|(simp;omega)) Z (by(repeat' (first|exact ac|exact rfl|exact aK.refl _|exact aK.bk (by assumption)|apply ZU))<;>first|omega|(simp only[Zx];omega)|(simp;done)|(simp;omega)) ?_);generalize I:bb (aT w (ej var)) [var,p5,⟨#[109,105,110]⟩,p6]=w1 at*
  have G:rS w1 ⟨3,var,b,body⟩=bb (cQ 17 w1 b) [Fg]:=rfl;rw[G]at x j y A u B ⊢;refine zJ Z Z (fun q=>?_) fun q=>?_
  .exact absurd (show lc=kw from q) (by decide)
  have hx:=ei 17 w1 b;refine gA Z (kf (sx w1 b (by omega)) ?_);refine gA Z (kX (d147 (cQ 17 w1 b) [Fg] (by simp) (by rw[cA,Y];omega)) ?_);generalize bb (cQ 17 w1 b) [Fg]=w2 at*
  refine gA Z (kf (d214 n S (xm w2 1) body hs (by omega) (by omega) (by omega) hn) ?_);generalize dp (eF n) body (xm w2 1) body.length=w3 at*
  refine gA Z (go_wp (d147 (xm w3 (-1)) [wL] (by simp) (by rw[cA,J];show w3.l.length+2<=_;omega)) Z Z Z Z Z Z Z Z Z Z Z Z ?_);refine gA Z kM
 .have e:fF 4=⟨#[109,97,120]⟩:=rfl;rw[e]at hh x j y A u B D F ⊢;refine gA Z (zp (Gk var) ?_);refine gA Z (kf (d146 w (ej var)) ?_);refine gA Z (Cp (d147 (aT w (ej var)) [var,p5,⟨#[109,97,120]⟩,p6] (by simp) (by rw[D,aX];omega)) Z Z Z Z Z Z Z Z Z Z Z Z Z Z Z Z (by(repeat' (first|exact ac|exact rfl|exact aK.refl _|exact aK.bk (by assumption)|apply ZU))<;>first|omega|(simp only[Zx];omega)|(simp;done)|(simp;omega)) Z (by(repeat' (first|exact ac|exact rfl|exact aK.refl _|exact aK.bk (by assumption)|apply ZU))<;>first|omega|(simp only[Zx];omega)|(simp;done)|(simp;omega)) ?_);generalize I:bb (aT w (ej var)) [var,p5,⟨#[109,97,120]⟩,p6]=w1 at*
  have G:rS w1 ⟨4,var,b,body⟩=bb (cQ 17 w1 b) [Fg]:=rfl;rw[G]at x j y A u B ⊢;refine zJ Z Z (fun q=>?_) fun q=>?_
  .exact absurd (show lc=kw from q) (by decide)
  have hx:=ei 17 w1 b;refine gA Z (kf (sx w1 b (by omega)) ?_);refine gA Z (kX (d147 (cQ 17 w1 b) [Fg] (by simp) (by rw[cA,Y];omega)) ?_);generalize bb (cQ 17 w1 b) [Fg]=w2 at*
  refine gA Z (kf (d214 n S (xm w2 1) body hs (by omega) (by omega) (by omega) hn) ?_);generalize dp (eF n) body (xm w2 1) body.length=w3 at*
  refine gA Z (go_wp (d147 (xm w3 (-1)) [wL] (by simp) (by rw[cA,J];show w3.l.length+2<=_;omega)) Z Z Z Z Z Z Z Z Z Z Z Z ?_);refine gA Z kM
set_option maxHeartbeats 4000000 in
theorem Jv(n:Nat)(ih:Nf n)(hn:n<=100000000):Nf (n+1):=by
 intro l w hs G I hb;have B:xL.size=4:=rfl;have y:=l.size_eq;have A:=l.mo;have x:l.agg.ts=l.a8.size+l.jT.ts+Lit.lK l.ar:=rfl;have F:eF (n+1) l w=Ed (eF n) l (aT w (kI l)):=rfl;rw[F];have J:(aT w (kI l)).l.length=w.l.length:=rfl;have S:=qs w (kI l);have hx:=ei 17 (aT w (kI l)) l.left;obtain⟨kind,atom,op,left,right,c7,a8,jT,ar,at_⟩:=l;dsimp only[Lit.atom,Lit.left,Lit.right,Lit.a8,Lit.jT,Lit.ar]at y A x hx;refine aB ab func190 Z (by decide) ntmps190 Z (by simp) ?_;refine gA Z (zp (Yv (.mk kind atom op left right c7 a8 jT ar at_)) ?_);refine gA Z (kf (d146 w (kI (.mk kind atom op left right c7 a8 jT ar at_))) ?_);generalize aT w (kI (.mk kind atom op left right c7 a8 jT ar at_))=w1 at*
 have D:Ed (eF n) (.mk kind atom op left right c7 a8 jT ar at_) w1=if kind=2 then ky (bb w1 [xL]) atom else if kind=1 then ky w1 atom
  else if kind=3 then(if op<1∨7<=op then oJ (cQ 17 w1 left) else cQ 17 (bb (cQ 17 w1 left) [qQ op]) right)
  else if kind=4 then zb (eF n) w1 (Lit.mk kind atom op left right c7 a8 jT ar at_).agg else oJ w1:=rfl
 rw[D];refine zJ Z Z (fun d=>?_) fun d=>?_
 .have d:kind=2:=zT d;rw[am d];refine gA Z (kX (d147 w1 [xL] (by simp) (by rw[cA,B];omega)) ?_);refine gA Z (kf (d104 (bb w1 [xL]) atom (by rw[aV,B];omega)) ?_);refine gA Z kM
 have d: ¬kind=2:=zF d;rw[be d];refine zJ Z Z (fun k1=>?_) fun k1=>?_
 .have k1:kind=1:=zT k1;rw[am k1];refine gA Z (kf (d104 w1 atom (by omega)) ?_);refine gA Z kM
 have k1: ¬kind=1:=zF k1;rw[be k1];refine zE Z Z (fun j=>?_) fun j=>?_
 .have j: ¬kind=3:=zF j;rw[be j];refine zJ Z Z (fun u=>?_) fun u=>?_
  .have u:kind=4:=zT u;rw[am u];refine gA Z (kf (d190 n ih w1 (Lit.mk kind atom op left right c7 a8 jT ar at_).agg (by show Lit.az ar<=n;omega) (by omega) (by omega) (by omega) hn) ?_);refine gA Z kM
  .have u: ¬kind=4:=zF u;rw[be u];refine gA Z kM
 have j:kind=3:=zT j;rw[am j];refine gA Z (kf (sx w1 left (by omega)) ?_);refine zE Z Z (fun g1=>?_) fun g1=>?_
 .rw[am (.inl (zT g1))];refine gA Z kM
 refine zJ Z Z (fun g2=>?_) fun g2=>?_
 .rw[am (.inr (zT g2))];refine gA Z kM
 have g1: ¬op<1:=zF g1;have g2: ¬op>=7:=zF g2;rw[be (by rintro(h|h)<;>omega)];generalize cQ 17 w1 left=w2 at*
 have Y:op=1∨op=2∨op=3∨op=4∨op=5∨op=6:=by omega
 clear D F;rcases Y with rfl|rfl|rfl|rfl|rfl|rfl
 .have e:qQ 1=⟨#[32,61,32]⟩:=rfl;have b:((⟨#[32,61,32]⟩:ak)).size=3:=rfl;rw[e];refine nV Z (by dsimp only[Lit.op];exact(by(repeat' (first|exact ac|exact rfl|exact aK.refl _|exact aK.bk (by assumption)|apply ZU))<;>first|omega|(simp only[Zx];omega)|(simp;done)|(simp;omega))) (go_wp (d147 w2 [⟨#[32,61,32]⟩] (by simp) (by rw[cA,b];omega)) Z Z Z Z Z Z Z Z Z Z Z Z ?_);refine gA Z (kf (sx (bb w2 [⟨#[32,61,32]⟩]) right (by rw[aV,b];omega)) ?_);refine gA Z kM
 .have e:qQ 2=⟨#[32,33,61,32]⟩:=rfl;have b:((⟨#[32,33,61,32]⟩:ak)).size=4:=rfl;rw[e];refine nV Z (by dsimp only[Lit.op];exact(by(repeat' (first|exact ac|exact rfl|exact aK.refl _|exact aK.bk (by assumption)|apply ZU))<;>first|omega|(simp only[Zx];omega)|(simp;done)|(simp;omega))) (go_wp (d147 w2 [⟨#[32,33,61,32]⟩] (by simp) (by rw[cA,b];omega)) Z Z Z Z Z Z Z Z Z Z Z Z ?_);refine gA Z (kf (sx (bb w2 [⟨#[32,33,61,32]⟩]) right (by rw[aV,b];omega)) ?_);refine gA Z kM
 .have e:qQ 3=⟨#[32,60,32]⟩:=rfl;have b:((⟨#[32,60,32]⟩:ak)).size=3:=rfl;rw[e];refine nV Z (by dsimp only[Lit.op];exact(by(repeat' (first|exact ac|exact rfl|exact aK.refl _|exact aK.bk (by assumption)|apply ZU))<;>first|omega|(simp only[Zx];omega)|(simp;done)|(simp;omega))) (go_wp (d147 w2 [⟨#[32,60,32]⟩] (by simp) (by rw[cA,b];omega)) Z Z Z Z Z Z Z Z Z Z Z Z ?_);refine gA Z (kf (sx (bb w2 [⟨#[32,60,32]⟩]) right (by rw[aV,b];omega)) ?_);refine gA Z kM
 .have e:qQ 4=⟨#[32,60,61,32]⟩:=rfl;have b:((⟨#[32,60,61,32]⟩:ak)).size=4:=rfl;rw[e];refine nV Z (by dsimp only[Lit.op];exact(by(repeat' (first|exact ac|exact rfl|exact aK.refl _|exact aK.bk (by assumption)|apply ZU))<;>first|omega|(simp only[Zx];omega)|(simp;done)|(simp;omega))) (go_wp (d147 w2 [⟨#[32,60,61,32]⟩] (by simp) (by rw[cA,b];omega)) Z Z Z Z Z Z Z Z Z Z Z Z ?_);refine gA Z (kf (sx (bb w2 [⟨#[32,60,61,32]⟩]) right (by rw[aV,b];omega)) ?_);refine gA Z kM
 .have e:qQ 5=⟨#[32,62,32]⟩:=rfl;have b:((⟨#[32,62,32]⟩:ak)).size=3:=rfl;rw[e];refine nV Z (by dsimp only[Lit.op];exact(by(repeat' (first|exact ac|exact rfl|exact aK.refl _|exact aK.bk (by assumption)|apply ZU))<;>first|omega|(simp only[Zx];omega)|(simp;done)|(simp;omega))) (go_wp (d147 w2 [⟨#[32,62,32]⟩] (by simp) (by rw[cA,b];omega)) Z Z Z Z Z Z Z Z Z Z Z Z ?_);refine gA Z (kf (sx (bb w2 [⟨#[32,62,32]⟩]) right (by rw[aV,b];omega)) ?_);refine gA Z kM
 .have e:qQ 6=⟨#[32,62,61,32]⟩:=rfl;have b:((⟨#[32,62,61,32]⟩:ak)).size=4:=rfl;rw[e];refine nV Z (by dsimp only[Lit.op];exact(by(repeat' (first|exact ac|exact rfl|exact aK.refl _|exact aK.bk (by assumption)|apply ZU))<;>first|omega|(simp only[Zx];omega)|(simp;done)|(simp;omega))) (go_wp (d147 w2 [⟨#[32,62,61,32]⟩] (by simp) (by rw[cA,b];omega)) Z Z Z Z Z Z Z Z Z Z Z Z ?_);refine gA Z (kf (sx (bb w2 [⟨#[32,62,61,32]⟩]) right (by rw[aV,b];omega)) ?_);refine gA Z kM
theorem Wr: ∀n,n<=100000001->Nf n
 |0,_=>fun l w b=>by have:=l.size_pos;omega
 |n+1,h=>Jv n (Wr n (by omega)) (by omega)
section
abbrev WS.o:WS:=⟨kw,[],lc,0⟩
section
variable {nt:Nat} {Q:AQ} {k:List KI} {s:AS}
def wN(s:AS)(i:Nat):AS:=match s with|⟨f,h,n⟩=>⟨f,(i,io (WS.o.uS i n))::(n,io (.bS [] 5))::h,n+1⟩
theorem HB{P:Program}{c:Code}{s':AS}(i:Nat)(hi:s.h.get i=io (.cells [.iv (.v (.pointer jp)),.iv (.v (.slice jp 0 0)),pB lc,pI 0] (io 247)))
  (hs:wN s i=s') (h:GO P nt (.code c::k) Q s'):GO P nt (.code c::k) Q s:=by
 subst hs;intro M N a w A;obtain⟨sf,Y,d⟩:=s;obtain⟨h1,S⟩:=A.1.Rj 5;have F:i<d:=A.1.used i _ hi;have G:i≠d:=fun e=>by omega
 have u:AH.get ((d,io (AO.bS [] 5))::Y) i=io (.cells [.iv (.v (.pointer jp)),.iv (.v (.slice jp 0 0)),pB lc,pI 0] (io 247)):=by
  rw[AH.ax,be G];exact hi
 obtain⟨x,T,e1,e2,e3,y,e5⟩:=S.obj i _ u;have hv: ∀(j:Nat) (p:PV),[PV.fE kw i,.sl d 0 0 1,pB lc,pI 0][j]? =io p->VR M N (· <d+1) p (x.getD j undef):=by
  intro j p b
  match j,b with
  |0,b=>
   cases b;have:=y 0 _ Z;generalize x.getD 0 undef=v at this ⊢;cases this with
   |iv _ _ h=>cases h with
    |v=>exact .fE kw i (aaL F)
  |1,b=>
   cases b;have:=y 1 _ Z;generalize x.getD 1 undef=v at this ⊢;cases this with
   |iv _ _ h=>cases h with
    |v=>exact .pW _ _ (aax _)
  |2,b=>exact y 2 p b
  |3,b=>exact y 3 p b
  |j+4,b=>cases b
 obtain⟨g1,g2⟩:=S.write (i:=i) (o0:= .cells [.iv (.v (.pointer jp)),.iv (.v (.slice jp 0 0)),pB lc,pI 0] (io 247)) u Z w (WS.o.uS i d) Z Z Z Z (fun _ _=>rfl) ⟨x,T,e1,e2,e3,hv,e5⟩;have B:Fits M N ⟨sf,(i,io (WS.o.uS i d))::(d,io (.bS [] 5))::Y,d+1⟩ nt a w:=
  ⟨g2,fun k=>(A.2.1 k).mono (.refl _) (.refl _ _) (fun i hi=>aaL hi),A.2.2⟩
 exact AW.then h B fun e a2 w2 M2 N2 s2 J D I=>⟨M2,N2,s2,(h1.trans g1).trans J,D,I⟩
end
def WS.told(w:WS):PV:= .bQ [pS (if w.bad=kw then⟨#[]⟩ else⟨w.l.toArray⟩),pI (if w.bad=kw then 50 else 0)]
theorem d105(w:WS):bW prog 189 [.ptr 0 0] w.O w.told [] 2:=by
 refine aB ab func189 Z (by decide) ntmps189 Z (by simp) ?_;refine zJ Z Z (fun g=>?_) fun g=>?_
 .have g:w.bad=kw:=g;unfold WS.told;rw[am g,am g];refine gA Z (zD [] Z (zW ac))
 .have g: ¬w.bad=kw:=by
   have g:w.bad=lc:=g;rw[g];decide
  unfold WS.told;rw[be g,be g];refine gA Z (zq [0,1] (d150 w) ?_);refine gA Z (zD [] Z (zW ac))
def Xi(a:Atom):PV:=(ky WS.o a).told
def XJ(l:Lit):PV:=(eF l.size l WS.o).told
theorem c61(a:Atom)(hb:a.ts<=900000000):Pure prog 157 [ag a.c] (Xi a):=by
 refine ae ab func157 Z (by decide) ntmps157 Z (by simp) Z ?_;refine gM 12 Z (HB 1 Z Z ?_);refine gA Z (kf (d104 WS.o a (by simpa using hb)) ?_);refine gA Z (zq [1,3] (d105 (ky WS.o a)) ?_);exact zU Z
theorem YP(l:Lit)(hb:l.ts<=900000000)(hs:l.size<=100000000):Pure prog 158 [ag l.c] (XJ l):=by
 refine ae ab func158 Z (by decide) ntmps158 Z (by simp) Z ?_;refine gM 12 Z (HB 1 Z Z ?_);refine gA Z (kf (Wr l.size (by omega) l WS.o (Zc _) (by decide) (by decide) (by simpa using hb)) ?_);refine gA Z (zq [1,3] (d105 (eF l.size l WS.o)) ?_);exact zU Z
end
def s9(d:Decl)(i k:Int):Int:=
 if(d.types.any fun x=>!li (x=1)&&!li (x=2))=kw∨ey d.name=lc then 1
 else if i>=64∨(d.types.length:Int)>8 then 66 else if k>0 then 60 else 0
theorem YQ(d:Decl)(i k:Int):Pure prog 123 [ag d.c,pI i,pI k] (pI (s9 d i k)):=by
 refine ae ab func123 Z (by decide) ntmps123 Z (by simp) Z ?_;refine gA Z (zq [] (d153 d.types) ?_);refine zE Z Z (fun g1=>?_) fun g1=>?_
 .rw[s9,am (.inl (by simpa using g1))];exact zU Z
 have g1: ¬(d.types.any fun x=>!li (x=1)&&!li (x=2))=kw:=by
  have g1:(d.types.any fun x=>!li (x=1)&&!li (x=2))=lc:=g1;rw[g1];decide
 refine gA Z (zp (X3 d.name) ?_);refine zJ Z Z (fun g2=>?_) fun g2=>?_
 .have g2:ey d.name=lc:=by simpa using g2
  rw[s9,am (.inr g2)];exact zU Z
 have g2: ¬ey d.name=lc:=by
  have g2:ey d.name=kw:=by simpa using g2
  rw[g2];decide
 rw[s9,be (by rintro(h|h);exact g1 h;exact g2 h)];refine zE Z Z (fun g3=>?_) fun g3=>?_
 .rw[am (.inl (by simpa using g3))];exact zU Z
 have g3: ¬i>=64:=zF g3;refine zJ Z Z (fun g4=>?_) fun g4=>?_
 .rw[am (.inr (zT g4))];exact zU Z
 have g4: ¬(d.types.length:Int)>8:=zF g4;rw[be (by rintro(h|h);exact g3 h;exact g4 h)];refine zJ Z Z (fun g5=>?_) fun g5=>?_
 .rw[am (zT g5)];exact zU Z
 .rw[be (zF g5)];exact zU Z
abbrev aN:=(KC.si .i64).K
def aN.z:aN:=(Zd,0)
def aN.c(s:aN):List IV:=[iS s.1,iI s.2]
def spE(s:aN):IV:= .agg s.c
def spZ:Value:= .agg #[.string Zd,.int .i64 0]
def dvP:PV->aN
 | .agg [.iv (.v (.string s)),.iv (.v (.int _ a))]=>(s,a)
 |_=>aN.z
abbrev UM:=List (aN×aN)
abbrev KM:=List (aN×Int)
abbrev rZ(m:UM):AO:= .map (.si .i64) spE aN.z spZ dvP m
abbrev upI(m:UM):IV:= .eI (.si .i64) spE aN.z spZ m
abbrev sk(m:KM):AO:= .map (.si .i64) A8 0 (.int .i64 0) Xw m
abbrev kdI(m:KM):IV:= .eI (.si .i64) A8 0 (.int .i64 0) m
structure Want where
 lit:Int
 at_:aN
 kind:Int
 has:Int
 deriving Inhabited
def Want.c(w:Want):List IV:=[iI w.lit,iS w.at_.1,iI w.at_.2,iI w.kind,iI w.has]
structure TS where
 up:UM
 ws:List Want
 kind:KM
abbrev TS.cell(r:ah)(u j n k:Nat):AO:= .cells [.iv (db r),.mp u,.sl j 0 n 5,.mp k]
abbrev TS.O(r:ah)(t:TS):List AO:=[TS.cell r 1 2 t.ws.length 3,rZ t.up,aE 5 t.ws Want.c,sk t.kind]
abbrev TS.K(r:ah)(t:TS):AH:=[(0,io (TS.cell r 1 2 t.ws.length 3)),(1,io (rZ t.up)),(2,io (aE 5 t.ws Want.c)),(3,io (sk t.kind))]
abbrev TS.H(r:ah)(t:TS):AH:=[(0,io (TS.cell r 1 4 t.ws.length 3)),(1,io (rZ t.up)),(4,io (aE 5 t.ws Want.c)),(3,io (sk t.kind))]
def bh(r:ah)(s:ak)(w:Int):aN:=(s,if bU .str (aC (aA r)) s 0>0 then-1 else w)
theorem d136(r:ah)(t:TS)(s:ak)(w:Int):bW prog 225 [.ptr 0 0,pS s,pI w] (t.O r) (ag (bh r s w).c) (t.K r) 4:=by
 refine aB ab func225 Z (by decide) ntmps225 Z (by simp) ?_;refine zJ Z Z (fun g=>?_) fun g=>?_
 .have e:bh r s w=(s, -1):=by unfold bh;rw[am (zT g)]
  rw[e];refine gA Z (zD [] Z (zW (zO (zC ⟨⟨_,rfl,.of_eq (bG _).symm⟩,Y5 Z,cM _,zC ac⟩))))
 .have e:bh r s w=(s,w):=by unfold bh;rw[be (zF g)]
  rw[e];refine gA Z (zD [] Z (zW (zO (zC ⟨⟨_,rfl,.of_eq (bG _).symm⟩,Y5 Z,cM _,zC ac⟩))))
def aQ:UM->aN->aN
 | [],v=>v
 |(x,y)::r,v=>if x=v then aQ r y else aQ r v
def iX:UM->Prop
 | []=>True
 |(x,y)::r=>x≠y∧(∀q∈r,q.1≠x)∧(∀q∈r,q.2≠x)∧iX r
def Ig:UM->aN->Nat
 | [],_=>0
 |(x,_)::r,v=>if x=v then r.length+1 else Ig r v
theorem JX: ∀(m:UM) (v:aN),Ig m v<=m.length
 | [],_=>Zc _
 |(x,y)::r,v=>by
  have:=JX r v;unfold Ig;split
  .simp
  .simp;omega
theorem ud: ∀(m:UM) (v:aN),eh (.si .i64) m v=lc->aQ m v=v
 | [],_,_=>rfl
 |(x,y)::r,v,h=>by
  unfold eh at h;unfold aQ;split at h
  .cases h
  .rename_i b;rw[be b];exact ud r v h
theorem Ps{m:UM}{v:aN}(h: ∀q∈m,q.1≠v):aQ m v=v:=by
 induction m with
 |nil=>rfl
 |cons a r ih=>
  obtain⟨x,y⟩:=a;unfold aQ;rw[be (h _ (Zo))];exact ih fun q b=>h q (Zn _ b)
theorem qh: ∀(m:UM) (v:aN),iX m->eh (.si .i64) m v=kw->aQ m (bU (.si .i64) m v aN.z)=aQ m v∧Ig m (bU (.si .i64) m v aN.z)<Ig m v
 | [],_,_,h=>nomatch h
 |(x,y)::r,v,ok,h=>by
  obtain⟨D,I,F,G⟩:=ok;by_cases j:x=v
  .subst j;have e:bU (.si .i64) ((x,y)::r) x aN.z=y:=am Z;rw[e];refine⟨?_,?_⟩
   .show(if x=y then aQ r y else aQ r y)=if x=x then aQ r y else aQ r x;rw[am Z];split<;>rfl
   .show(if x=y then r.length+1 else Ig r y)<if x=x then r.length+1 else Ig r x;rw[am Z,be D];have:=JX r y;omega
  .have e:bU (.si .i64) ((x,y)::r) v aN.z=bU (.si .i64) r v aN.z:=be j;have u:eh (.si .i64) r v=kw:=by
    unfold eh at h;rw[be j]at h;exact h
   rw[e];obtain⟨g1,g2⟩:=qh r v G u;have d:bU (.si .i64) r v aN.z≠x:=by
    have: ∀(m:UM),(∀q∈m,q.2≠x)->eh (.si .i64) m v=kw->bU (.si .i64) m v aN.z≠x:=by
     intro m
     induction m with
     |nil=>intro _ h;cases h
     |cons a r ih=>
      obtain⟨J,S⟩:=a;intro A h;unfold eh at h;unfold bU;split at h
      .rename_i b;rw[am b];exact A _ Zo
      .rename_i b;rw[be b];exact ih (fun q B=>A q (Zn _ B)) h
    exact this r F u
   refine⟨?_,?_⟩
   .show(if x=_ then aQ r y else aQ r _)=if x=v then aQ r y else aQ r v;rw[be (fun e=>d e.symm),be j];exact g1
   .show(if x=_ then r.length+1 else Ig r _)<if x=v then r.length+1 else Ig r v;rw[be (fun e=>d e.symm),be j];exact g2
theorem d52(r:ah)(t:TS)(v0:aN)(ok:iX t.up):bW prog 201 [.ptr 0 0,ag v0.c] (t.O r) (ag (aQ t.up v0).c) (t.K r) 4:=by
 refine aB ab func201 Z (by decide) ntmps201 Z (by simp) ?_;refine gA Z ?_
 refine oC (σ:={v:aN//aQ t.up v=aQ t.up v0}) (fun v=>⟨[(0,.ptr 0 0),(3,.ptr 4 0),(4,.ptr 5 0)],
  [(0,io (TS.cell r 1 2 t.ws.length 3)),(1,io (rZ t.up)),(2,io (aE 5 t.ws Want.c)),(3,io (sk t.kind)),(4,io (.cells [pS v.1.1,pI v.1.2])),(5,io (.cells [pS ⟨#[]⟩,pI 0]))],6⟩) (fun v=>Ig t.up v.1) ⟨v0,rfl⟩ []
  (zW (zO (zC ⟨⟨_,rfl,.of_eq (bG _).symm⟩,Y5 Z,cM _,zC ⟨⟨_,rfl,.of_eq Z⟩,Y5 Z,rfl,⟨_,rfl,.of_eq Z⟩,Y5 Z,rfl,ac⟩⟩))) fun v=>?_
 obtain⟨v,b⟩:=v;refine zJ Z Z (fun g=>?_) fun g=>?_
 .have h:eh (.si .i64) t.up v=lc:=by simpa using g
  have e:aQ t.up v0=v:=by rw[<-b];exact ud t.up v h
  refine gA Z (zD [] Z (zM ⟨.of_eq (congrArg (fun x:aN=>ag x.c) e.symm),rfl,ac⟩ (zO (zC ⟨⟨_,rfl,.of_eq (bG _).symm⟩,Y5 Z,cM _,zC ac⟩))))
 .have h:eh (.si .i64) t.up v=kw:=by simpa using g
  obtain⟨d,j⟩:=qh t.up v ok h;refine gA Z ⟨⟨bU (.si .i64) t.up v aN.z,d.trans b⟩,[],j,zW (zO (zC ⟨⟨_,rfl,.of_eq (bG _).symm⟩,Y5 Z,cM _,zC ⟨⟨_,rfl,.of_eq Z⟩,Y5 Z,rfl,⟨_,rfl,.of_eq Z⟩,Y5 Z,rfl,ac⟩⟩))⟩
def TB(r:ah)(t:TS):IV:= .mK [db r,upI t.up,cZ 5 t.ws Want.c,kdI t.kind]
theorem c52(r:ah)(t:TS)(v0:aN)(ok:iX t.up):Pure prog 201 [.iv (TB r t),ag v0.c] (ag (aQ t.up v0).c):=by
 refine ae ab func201 Z (by decide) ntmps201 Z (by simp) Z ?_;refine gA Z ?_
 refine oC (σ:={v:aN//aQ t.up v=aQ t.up v0}) (fun v=>⟨[(0,.iv (TB r t)),(3,.ptr 0 0),(4,.ptr 1 0)],
  [(0,io (.cells [pS v.1.1,pI v.1.2])),(1,io (.cells [pS ⟨#[]⟩,pI 0]))],2⟩) (fun v=>Ig t.up v.1) ⟨v0,rfl⟩ []
  (zW ⟨⟨_,rfl,.of_eq Z⟩,Y5 Z,rfl,⟨_,rfl,.of_eq Z⟩,Y5 Z,rfl,ac⟩) fun v=>?_
 obtain⟨v,b⟩:=v;refine zJ Z Z (fun g=>?_) fun g=>?_
 .have h:eh (.si .i64) t.up v=lc:=by simpa using g
  have e:aQ t.up v0=v:=by rw[<-b];exact ud t.up v h
  refine gA Z (zL (.of_eq ?_));exact congrArg (fun x:aN=>ag x.c) e.symm
 .have h:eh (.si .i64) t.up v=kw:=by simpa using g
  obtain⟨d,j⟩:=qh t.up v ok h;refine gA Z ⟨⟨bU (.si .i64) t.up v aN.z,d.trans b⟩,[],j,zW ⟨⟨_,rfl,.of_eq Z⟩,Y5 Z,rfl,⟨_,rfl,.of_eq Z⟩,Y5 Z,rfl,ac⟩⟩
def tN(t:TS)(w:Want):Int:=if w.has=0 then bU (.si .i64) t.kind (aQ t.up w.at_) 0 else w.has
def rY(t:TS)(lit:Int)(w:Want):Bool:=li (w.lit=lit)&&!li (tN t w=w.kind)
def nJ(t:TS)(lit:Int):Bool:=t.ws.any (rY t lit)
theorem YM(r:ah)(t:TS)(lit:Int)(ok:iX t.up)(hb:t.ws.length<=1000000000000):Pure prog 169 [.iv (TB r t),pI lit] (pB (nJ t lit)):=by
 refine ae ab func169 Z (by decide) ntmps169 Z (by simp) Z ?_;refine gA Z ?_;refine aw 0 t.ws.length (Zf _) (fun i=>⟨[(0,.iv (TB r t)),(1,pI lit),(11,.iv (cZ 5 t.ws Want.c)),(12,pI t.ws.length),(13,pI i)],[],0⟩) (fun i=>(t.ws.take i).any (rY t lit)=lc) [] Z
  (zW trivial) fun i A y=>?_
 refine zJ Z Z (fun b=>?_) fun b=>?_
 .have b:=ci b;have x:=aW y b;refine zJ Z Z (fun j=>?_) fun j=>?_
  .have j:(t.ws.getD i em).has=0:=zT j;refine gA Z (n9 (c52 r t (t.ws.getD i em).at_ ok) ?_);have u:tN t (t.ws.getD i em)=bU (.si .i64) t.kind (aQ t.up (t.ws.getD i em).at_) 0:=am j;refine zJ Z Z (fun k1=>?_) fun k1=>?_
   .have k1:(t.ws.getD i em).lit=lit:=zT k1;refine zJ Z Z (fun d=>?_) fun d=>?_
    .have d: ¬tN t (t.ws.getD i em)=(t.ws.getD i em).kind:=by rw[u];simpa using d
     have e:nJ t lit=kw:=ZZ.2 ⟨t.ws.getD i em,by rw[Y6,Za b];exact ZQ b,by rw[rY,decide_eq_true k1,decide_eq_false d];rfl⟩;refine gA Z (zL (.of_eq ?_));rw[e]
    .have d:tN t (t.ws.getD i em)=(t.ws.getD i em).kind:=by rw[u];simpa using d
     refine gA Z ⟨b,x.2 (by rw[rY,decide_eq_true d,abA,aaa]),[],zW ac⟩
   .have k1: ¬(t.ws.getD i em).lit=lit:=by simpa using k1
    refine gA Z ⟨b,x.2 (by rw[rY,decide_eq_false k1];rfl),[],zW ac⟩
  .have j: ¬(t.ws.getD i em).has=0:=zF j;have u:tN t (t.ws.getD i em)=(t.ws.getD i em).has:=be j;refine zJ Z Z (fun k1=>?_) fun k1=>?_
   .have k1:(t.ws.getD i em).lit=lit:=zT k1;refine zJ Z Z (fun d=>?_) fun d=>?_
    .have d: ¬tN t (t.ws.getD i em)=(t.ws.getD i em).kind:=by rw[u];simpa using d
     have e:nJ t lit=kw:=ZZ.2 ⟨t.ws.getD i em,by rw[Y6,Za b];exact ZQ b,by rw[rY,decide_eq_true k1,decide_eq_false d];rfl⟩;refine gA Z (zL (.of_eq ?_));rw[e]
    .have d:tN t (t.ws.getD i em)=(t.ws.getD i em).kind:=by rw[u];simpa using d
     refine gA Z ⟨b,x.2 (by rw[rY,decide_eq_true d,abA,aaa]),[],zW ac⟩
   .have k1: ¬(t.ws.getD i em).lit=lit:=by simpa using k1
    refine gA Z ⟨b,x.2 (by rw[rY,decide_eq_false k1];rfl),[],zW ac⟩
 .have b:=co b;rw[Zh b]at y;refine gA Z (zL (.of_eq ?_));rw[nJ,y]
section
section
variable (r:ah) (lit w:Int)
def kH(e:Expr):List Want:=if e.kind=1 then[⟨lit,bh r e.var w,1,0⟩] else if e.kind=2 then[⟨lit,aN.z,1,e.val.kind⟩] else[]
mutual
def gy:Expr->List Want
 | .mk k v val op args=>kH r lit w (.mk k v val op args)++(if k=4 then vZ args else[])
def vZ:List Expr->List Want
 | []=> []
 |e::s=>gy e++vZ s
end
theorem DW: ∀l:List Expr,vZ r lit w l=l.flatMap (gy r lit w)
 | []=>rfl
 |e::s=>by rw[vZ,ZX,DW s]
def je(e:Expr):List Want:=if e.kind=4 then e.args.flatMap (gy r lit w) else[]
theorem w8(e:Expr):gy r lit w e=kH r lit w e++je r lit w e:=by
 cases e;rw[gy,DW];rfl
end
abbrev TS.add(t:TS)(l:List Want):TS:=⟨t.up,t.ws++l,t.kind⟩
section
variable {nt:Nat} {Q:AQ} {k:List KI} {s:AS}
def tS(s:AS)(r:ah)(t:TS)(i u j m:Nat):AS:=match s with|⟨f,h,n⟩=>⟨f,(i,io (TS.cell r u n t.ws.length m))::(u,io (rZ t.up))::(n,io (aE 5 t.ws Want.c))::(m,io (sk t.kind))::(i,jp)::(u,jp)::(j,jp)::(m,jp)::h,n+1⟩
theorem V3(s:AS)(r:ah)(t:TS)(i u j m:Nat):tS s r t i u j m=⟨s.f,(i,io (TS.cell r u s.nx t.ws.length m))::(u,io (rZ t.up))::(s.nx,io (aE 5 t.ws Want.c))::(m,io (sk t.kind))::(i,jp)::(u,jp)::(j,jp)::(m,jp)::s.h,s.nx+1⟩:=by cases s;rfl
def tR(s:AS)(r:ah)(t:TS)(i u j m:Nat):AS:=match s with|⟨f,h,n⟩=>⟨f,(i,io (TS.cell r u j t.ws.length m))::(u,io (rZ t.up))::(j,io (aE 5 t.ws Want.c))::(m,io (sk t.kind))::(i,jp)::(u,jp)::(j,jp)::(m,jp)::h,n⟩
theorem V4(s:AS)(r:ah)(t:TS)(i u j m:Nat):tR s r t i u j m=⟨s.f,(i,io (TS.cell r u j t.ws.length m))::(u,io (rZ t.up))::(j,io (aE 5 t.ws Want.c))::(m,io (sk t.kind))::(i,jp)::(u,jp)::(j,jp)::(m,jp)::s.h,s.nx⟩:=by cases s;rfl
theorem J8{o:Oper}{c:Call}{g:FuncId}{args y:List PV}{r:ah}{t A:TS}{d:PV}{i u j m n:Nat}{es:List (List PV)}{s':AS}(hc:bW prog g (.ptr 0 0::args) (t.O r) d (A.H r) 5)(ho:o.op= .call c)(ha:bY s.f c=io (g,.ptr i 0::y))
  (hi:s.h.get i=io (TS.cell r u j n m)) (hu:s.h.get u=io (rZ t.up)) (hj:s.h.get j=io (.row 5 es)) (hm:s.h.get m=io (sk t.kind)) (hn:n=t.ws.length) (he:es=t.ws.map fun x=>(Want.c x).map .iv)
  (hlt:[i,u,j,m].all (fun x=>Zs x s.nx)=kw) (hnd:b4 [i,u,j,m]=kw) (has:y=args) (hlow:bq 0 args=kw) (hr:d.low 0=kw)
  (hp:putDst nt o d (tS s r A i u j m)=io s'):OT prog nt o s (fun t=>t=s'):=by
 subst has;subst hn;subst he;have b: ∀σ,ep σ y=y:=fun σ=>iY σ y hlow;refine nE ho ha hc (dC hnd) (fun j hj=>Y5 (ZA.1 hlt j hj)) ?_ ?_ ?_
 .simp only[Zr,Z0,hi,hu,hj,hm,bG];rfl
 .simp only[ep,b];rfl
 .rintro q B n0 ⟨rfl,rfl,rfl⟩;rw[PV.j5 _ _ hr];rw[V3]at hp;refine⟨s',?_,rfl⟩;rw[<-hp];simp only[TS.H,aO,s8,Z8,bG];rfl
theorem J3{o:Oper}{c:Call}{g:FuncId}{args y:List PV}{r:ah}{t:TS}{d:PV}{i u j m n:Nat}{es:List (List PV)}{s':AS}(hc:bW prog g (.ptr 0 0::args) (t.O r) d (t.K r) 4)(ho:o.op= .call c)(ha:bY s.f c=io (g,.ptr i 0::y))
  (hi:s.h.get i=io (TS.cell r u j n m)) (hu:s.h.get u=io (rZ t.up)) (hj:s.h.get j=io (.row 5 es)) (hm:s.h.get m=io (sk t.kind)) (hn:n=t.ws.length) (he:es=t.ws.map fun x=>(Want.c x).map .iv)
  (hlt:[i,u,j,m].all (fun x=>Zs x s.nx)=kw) (hnd:b4 [i,u,j,m]=kw) (has:y=args) (hlow:bq 0 args=kw) (hr:d.low 0=kw)
  (hp:putDst nt o d (tR s r t i u j m)=io s'):OT prog nt o s (fun t=>t=s'):=by
 subst has;subst hn;subst he;have b: ∀σ,ep σ y=y:=fun σ=>iY σ y hlow;refine nE ho ha hc (dC hnd) (fun j hj=>Y5 (ZA.1 hlt j hj)) ?_ ?_ ?_
 .simp only[Zr,Z0,hi,hu,hj,hm,bG];rfl
 .simp only[ep,b];rfl
 .rintro q A n0 ⟨rfl,rfl,rfl⟩;rw[PV.j5 _ _ hr];rw[V4]at hp;refine⟨s',?_,rfl⟩;rw[<-hp];simp only[TS.K,aO,s8,Z8,bG];rfl
theorem Es{all rest:List Oper}{o:Oper}{c:Call}{g:FuncId}{args d:List PV}{r:ah}{t y:TS}{b:PV}{i u j m n:Nat}{es:List (List PV)}{s':AS}(hc:bW prog g (.ptr 0 0::args) (t.O r) b (y.H r) 5)(ho:o.op= .call c)(hg:o.guard=jp)(ha:bY s.f c=io (g,.ptr i 0::d))
  (hi:s.h.get i=io (TS.cell r u j n m)) (hu:s.h.get u=io (rZ t.up)) (hj:s.h.get j=io (.row 5 es)) (hm:s.h.get m=io (sk t.kind)) (hn:n=t.ws.length) (he:es=t.ws.map fun x=>(Want.c x).map .iv)
  (hlt:[i,u,j,m].all (fun x=>Zs x s.nx)=kw) (hnd:b4 [i,u,j,m]=kw) (has:d=args) (hlow:bq 0 args=kw) (hr:b.low 0=kw)
  (hp:putDst nt o b (tS s r y i u j m)=io s') (h:GO prog nt (.ops all rest::k) Q s'):GO prog nt (.ops all (o::rest)::k) Q s:=
 dK hg (J8 hc ho ha hi hu hj hm hn he hlt hnd has hlow hr hp) fun t A=>by subst A;exact h
theorem Hy{all rest:List Oper}{o:Oper}{c:Call}{g:FuncId}{args d:List PV}{r:ah}{t y:TS}{b:PV}{i u j m n:Nat}{es:List (List PV)}{s':AS}(hc:bW prog g (.ptr 0 0::args) (t.O r) b (y.H r) 5)(h:GO prog nt (.ops all rest::k) Q s')(ho:o.op= .call c:=by exact rfl)(hg:o.guard=jp:=by exact rfl)(ha:bY s.f c=io (g,.ptr i 0::d):=by exact rfl)(hi:s.h.get i=io (TS.cell r u j n m):=by exact rfl)(hu:s.h.get u=io (rZ t.up):=by exact rfl)(hj:s.h.get j=io (.row 5 es):=by exact rfl)(hm:s.h.get m=io (sk t.kind):=by exact rfl)(hn:n=t.ws.length:=by first|rfl|(rw[Y8];rfl)|simp)(he:es=t.ws.map fun x=>(Want.c x).map .iv:=by first|rfl|(rw[Ze];rfl)|(simp only[Ze,Zj];rfl))(hlt:[i,u,j,m].all (fun x=>Zs x s.nx)=kw:=by exact rfl)(hnd:b4 [i,u,j,m]=kw:=by exact rfl)(has:d=args:=by exact rfl)(hlow:bq 0 args=kw:=by exact rfl)(hr:b.low 0=kw:=by exact rfl)(hp:putDst nt o b (tS s r y i u j m)=io s':=by exact rfl):GO prog nt (.ops all (o::rest)::k) Q s:=Es (hc:=hc) (ho:=ho) (hg:=hg) (ha:=ha) (hi:=hi) (hu:=hu) (hj:=hj) (hm:=hm) (hn:=hn) (he:=he) (hlt:=hlt) (hnd:=hnd) (has:=has) (hlow:=hlow) (hr:=hr) (hp:=hp) (h:=h)
theorem UC{all:List Oper}{todo pend:List (Nat×Oper)}{d:Nat}{A y:Prop}{o:Oper}{c:Call}{g:FuncId}{args B:List PV}{r:ah}{t:TS}{b:PV}{i u j m n:Nat}{es:List (List PV)}{s':AS}(hc:bW prog g (.ptr 0 0::args) (t.O r) b (t.K r) 4)
  (hrd:fw todo=[(d,o)]) (ho:o.op= .call c) (ha:bY s.f c=io (g,.ptr i 0::B))
  (hi:s.h.get i=io (TS.cell r u j n m)) (hu:s.h.get u=io (rZ t.up)) (hj:s.h.get j=io (.row 5 es)) (hm:s.h.get m=io (sk t.kind)) (hn:n=t.ws.length) (he:es=t.ws.map fun x=>(Want.c x).map .iv)
  (hlt:[i,u,j,m].all (fun x=>Zs x s.nx)=kw) (hnd:b4 [i,u,j,m]=kw) (has:B=args) (hlow:bq 0 args=kw) (hr:b.low 0=kw)
  (hp:putDst nt o b (tR s r t i u j m)=io s')
  (hg:cJ nt all s.f o=io kw) (hpb:jM all pend o=kw) (hE:pj todo [d]=kw)
  (hag:tJ pC nt all s todo pend=io A) (hCA:A) (hag2:eD pC nt all s' (bp pend o)=io y) (hC2:y)
  (h:GO prog nt (.cX all (todo.filter fun x=>!Zz x.1 d) (bp pend o)::k) Q s'):GO prog nt (.cX all todo pend::k) Q s:=
 yy ab hrd hg hpb hE hag hCA (J3 hc ho ha hi hu hj hm hn he hlt hnd has hlow hr hp) hag2 hC2 h
theorem qD{all:List Oper}{todo pend:List (Nat×Oper)}{d:Nat}{A y:Prop}{o:Oper}{c:Call}{g:FuncId}{args B:List PV}{r:ah}{t:TS}{b:PV}{i u j m n:Nat}{es:List (List PV)}{s':AS}(hc:bW prog g (.ptr 0 0::args) (t.O r) b (t.K r) 4)(h:GO prog nt (.cX all (todo.filter fun x=>!Zz x.1 d) (bp pend o)::k) Q s')(hrd:fw todo=[(d,o)]:=by exact rfl)(ho:o.op= .call c:=by exact rfl)(ha:bY s.f c=io (g,.ptr i 0::B):=by exact rfl)(hi:s.h.get i=io (TS.cell r u j n m):=by exact rfl)(hu:s.h.get u=io (rZ t.up):=by exact rfl)(hj:s.h.get j=io (.row 5 es):=by exact rfl)(hm:s.h.get m=io (sk t.kind):=by exact rfl)(hn:n=t.ws.length:=by first|rfl|(rw[Y8];rfl)|simp)(he:es=t.ws.map fun x=>(Want.c x).map .iv:=by first|rfl|(rw[Ze];rfl)|(simp only[Ze,Zj];rfl))(hlt:[i,u,j,m].all (fun x=>Zs x s.nx)=kw:=by exact rfl)(hnd:b4 [i,u,j,m]=kw:=by exact rfl)(has:B=args:=by exact rfl)(hlow:bq 0 args=kw:=by exact rfl)(hr:b.low 0=kw:=by exact rfl)(hp:putDst nt o b (tR s r t i u j m)=io s':=by exact rfl)(hg:cJ nt all s.f o=io kw:=by exact rfl)(hpb:jM all pend o=kw:=by exact rfl)(hE:pj todo [d]=kw:=by exact rfl)(hag:tJ pC nt all s todo pend=io A:=by exact rfl)(hCA:A:=by(repeat' (first|exact ac|exact rfl|exact aK.refl _|exact aK.bk (by assumption)|apply ZU))<;>first|omega|(simp only[Zx];omega)|(simp;done)|(simp;omega))(hag2:eD pC nt all s' (bp pend o)=io y:=by exact rfl)(hC2:y:=by(repeat' (first|exact ac|exact rfl|exact aK.refl _|exact aK.bk (by assumption)|apply ZU))<;>first|omega|(simp only[Zx];omega)|(simp;done)|(simp;omega)):GO prog nt (.cX all todo pend::k) Q s:=UC (hc:=hc) (hrd:=hrd) (ho:=ho) (ha:=ha) (hi:=hi) (hu:=hu) (hj:=hj) (hm:=hm) (hn:=hn) (he:=he) (hlt:=hlt) (hnd:=hnd) (has:=has) (hlow:=hlow) (hr:=hr) (hp:=hp) (hg:=hg) (hpb:=hpb) (hE:=hE) (hag:=hag) (hCA:=hCA) (hag2:=hag2) (hC2:=hC2) (h:=h)
theorem SP{l:List ResultVar}{r0:PV}{e:Exit}{r:ah}{d:TS}{b:PV}{j n:Nat}{es:List (List PV)}(he:e= .normal∨e= .ret)(hr:ly pC s l=io r0)(hi:s.h.get 0=io (TS.cell r 1 j n 3))(hu:s.h.get 1=io (rZ d.up))(hj:s.h.get j=io (.row 5 es))(hm:s.h.get 3=io (sk d.kind))
  (hn:n=d.ws.length) (hes:es=d.ws.map fun x=>(Want.c x).map .iv) (hlt:Zs j s.nx=kw) (hnd:b4 [0,1,j,3]=kw) (hns:aa2 4 s.nx=kw) (hrl:aK r0 b) (hlow:b.low 0=kw) (hlow5:b.low 5=kw):CN pC l 4 b (d.H r) 5 e s:=by
 subst hn;subst hes;refine fp [j] he hr ⟨rfl,Y5 hns,fun x u=>?_,⟨?_,hlow5,ac⟩,⟨⟨_,hi,.of_eq Z⟩,Y5 Z,rfl,⟨_,hu,.of_eq Z⟩,Y5 Z,ac,⟨_,hj,.of_eq (bG _).symm⟩,Y5 Z,cM _,⟨_,hm,.of_eq Z⟩,Y5 Z,ac,ac⟩,?_⟩
 .simp only[Zk]at u;subst u;exact Y5 hlt
 .rw[PV.j5 _ _ hlow];exact hrl
 .exact dC hnd
theorem zm{l:List ResultVar}{r0:PV}{e:Exit}{r:ah}{d:TS}{b:PV}{j n:Nat}{es:List (List PV)}(he:e= .normal∨e= .ret:=by first|exact .inr Z|exact .inl Z)(hr:ly pC s l=io r0:=by exact rfl)(hi:s.h.get 0=io (TS.cell r 1 j n 3):=by exact rfl)(hu:s.h.get 1=io (rZ d.up):=by exact rfl)(hj:s.h.get j=io (.row 5 es):=by exact rfl)(hm:s.h.get 3=io (sk d.kind):=by exact rfl)(hn:n=d.ws.length:=by first|rfl|(rw[Y8];rfl)|simp)(hes:es=d.ws.map fun x=>(Want.c x).map .iv:=by first|rfl|(rw[Ze];rfl)|(simp only[Ze,Zj];rfl))(hlt:Zs j s.nx=kw:=by exact rfl)(hnd:b4 [0,1,j,3]=kw:=by exact rfl)(hns:aa2 4 s.nx=kw:=by exact rfl)(hrl:aK r0 b:=by exact .refl _)(hlow:b.low 0=kw:=by exact rfl)(hlow5:b.low 5=kw:=by exact rfl):CN pC l 4 b (d.H r) 5 e s:=SP (he:=he) (hr:=hr) (hi:=hi) (hu:=hu) (hj:=hj) (hm:=hm) (hn:=hn) (hes:=hes) (hlt:=hlt) (hnd:=hnd) (hns:=hns) (hrl:=hrl) (hlow:=hlow) (hlow5:=hlow5)
theorem Rh{n0 i u j m n:Nat}{es:List (List PV)}{I:AF}{r:ah}{t b:TS}(hw:t=b)(hi:s.h.get i=io (TS.cell r u j n m))(hu:s.h.get u=io (rZ t.up))(hj:s.h.get j=io (.row 5 es))(hm:s.h.get m=io (sk t.kind))
  (hn:n=t.ws.length) (hes:es=t.ws.map fun x=>(Want.c x).map .iv) (hlt:Zs j s.nx=kw) (hnd:b4 [i,u,j,m]=kw) (h0:[i,u,m].all (fun x=>Zs x n0)=kw) (hns:aa2 n0 s.nx=kw) (hf:Gx (n0+1) (sg n0 [j]) s.f I):
  Wk n0 [j] s ⟨I,[(i,io (TS.cell r u n0 b.ws.length m)),(u,io (rZ b.up)),(n0,io (aE 5 b.ws Want.c)),(m,io (sk b.kind))],n0+1⟩:=by
 subst hw;subst hn;subst hes;simp only[List.all_cons,List.all_nil,Bool.and_true,Zw]at h0;have d:i<n0:=Y5 h0.1;have A:u<n0:=Y5 h0.2.1;have y:m<n0:=Y5 h0.2.2;have s0:sg n0 [j] i=i:=gE d;have B:sg n0 [j] u=u:=gE A;have D:sg n0 [j] m=m:=gE y;have J:Zs n0 n0=lc:=aaS.2 fun e=>absurd (Y5 e) (by omega);have F:sg n0 [j] n0=j:=by simp[sg,J]
 have c1:Zs u (n0+1)=kw:=ZO (by omega);have S:Zs m (n0+1)=kw:=ZO (by omega);have Y:Zs n0 (n0+1)=kw:=ZO (by omega);refine⟨rfl,Y5 hns,fun x G=>?_,hf,⟨⟨_,by rw[s0];exact hi,?_⟩,by show i<n0+1;omega,?_,⟨_,by rw[B];exact hu,.of_eq Z⟩,by show u<n0+1;omega,ac,⟨_,by rw[F];exact hj,.of_eq (bG _).symm⟩,aax _,cM _,⟨_,by rw[D];exact hm,.of_eq Z⟩,by show m<n0+1;omega,ac,ac⟩,?_⟩
 .simp only[Zk]at G;subst G;exact Y5 hlt
 .simp only[AO.dc,ep,PV.dc,B,D,F];exact .of_eq Z
 .simp[AO.low,bq,PV.low,c1,S,Y]
 .simp only[ew,s0,B,D,F];exact dC hnd
theorem sG{n0 i u j m n:Nat}{es:List (List PV)}{d:AF}{r:ah}{t b:TS}(hw:t=b)(hi:s.h.get i=io (TS.cell r u j n m):=by exact rfl)(hu:s.h.get u=io (rZ t.up):=by exact rfl)(hj:s.h.get j=io (.row 5 es):=by exact rfl)(hm:s.h.get m=io (sk t.kind):=by exact rfl)(hn:n=t.ws.length:=by first|rfl|(rw[Y8];rfl)|simp)(hes:es=t.ws.map fun x=>(Want.c x).map .iv:=by first|rfl|(rw[Ze];rfl)|(simp only[Ze,Zj];rfl))(hlt:Zs j s.nx=kw:=by exact rfl)(hnd:b4 [i,u,j,m]=kw:=by exact rfl)(h0:[i,u,m].all (fun x=>Zs x n0)=kw:=by exact rfl)(hns:aa2 n0 s.nx=kw:=by exact rfl)(hf:Gx (n0+1) (sg n0 [j]) s.f d:=by repeat' (first|exact ac|exact aK.refl _|exact rfl|apply ZU)):Wk n0 [j] s ⟨d,[(i,io (TS.cell r u n0 b.ws.length m)),(u,io (rZ b.up)),(n0,io (aE 5 b.ws Want.c)),(m,io (sk b.kind))],n0+1⟩:=Rh (hw:=hw) (hi:=hi) (hu:=hu) (hj:=hj) (hm:=hm) (hn:=hn) (hes:=hes) (hlt:=hlt) (hnd:=hnd) (h0:=h0) (hns:=hns) (hf:=hf)
end
theorem TS.add_add(t:TS)(a b:List Want):(t.add a).add b=t.add (a++b):=by simp[TS.add]
theorem TS.add_nil(t:TS):t.add []=t:=by simp[TS.add]
def Rc(r:ah)(n:Nat):Prop:= ∀(t:TS) (e:Expr) (lit w:Int),e.size<=n->t.ws.length+Expr.az e.args<=1000000000->bW prog 226 [.ptr 0 0,ag e.c,pI lit,pI w] (t.O r) (.bQ []) ((t.add (je r lit w e)).H r) 5
def Vc(r:ah)(n:Nat):Prop:= ∀(t:TS) (e:Expr) (lit w:Int),e.size<=n->t.ws.length+e.size<=1000000000->bW prog 199 [.ptr 0 0,ag e.c,pI lit,pI w] (t.O r) (.bQ []) ((t.add (gy r lit w e)).H r) 5
theorem d92(r:ah)(n:Nat)(u:Rc r n):Vc r n:=by
 intro t e lit w j hb;have x:=e.size_eq;rw[w8,<-TS.add_add];refine aB ab func199 Z (by decide) ntmps199 Z (by simp) ?_;refine zJ Z Z (fun k1=>?_) fun k1=>?_
 .have k1:e.kind=1:=zT k1;have d:kH r lit w e=[⟨lit,bh r e.var w,1,0⟩]:=am k1;rw[d];refine gA Z (qD (d136 r t e.var w) ?_);refine gA Z (Es (u (t.add [⟨lit,bh r e.var w,1,0⟩]) e lit w j (by show(t.ws++_).length+_<=_;rw[Y8,ZH];omega)) Z Z Z Z Z Z Z (by first|rfl|(rw[Y8];rfl)|simp) (by first|rfl|(rw[Ze];rfl)|(simp only[Ze,Zj];rfl)) Z Z Z Z Z Z ?_);refine gA Z zm
 have k1: ¬e.kind=1:=zF k1;refine zJ Z Z (fun b=>?_) fun b=>?_
 .have b:e.kind=2:=zT b;have d:kH r lit w e=[⟨lit,aN.z,1,e.val.kind⟩]:=by unfold kH;rw[be k1,am b]
  rw[d];refine gA Z (Es (u (t.add [⟨lit,aN.z,1,e.val.kind⟩]) e lit w j (by show(t.ws++_).length+_<=_;rw[Y8,ZH];omega)) Z Z Z Z Z Z Z (by first|rfl|(rw[Y8];rfl)|simp) (by first|rfl|(rw[Ze];rfl)|(simp only[Ze,Zj];rfl)) Z Z Z Z Z Z ?_);refine gA Z zm
 .have b: ¬e.kind=2:=zF b;have d:kH r lit w e=[]:=by unfold kH;rw[be k1,be b]
  rw[d,TS.add_nil];refine gA Z (Hy (u t e lit w j (by omega)) ?_);refine gA Z zm
theorem j7(r:ah)(lit w:Int): ∀e:Expr,(gy r lit w e).length<=e.size
 | .mk k v val op args=>by
  rw[gy,Expr.size,Y8];have b:(kH r lit w (.mk k v val op args)).length<=1:=by
   unfold kH
   repeat' split
   all_goals simp
  have d:(if k=4 then vZ r lit w args else[]).length<=Expr.az args:=by
   split
   .exact numRs_len args
   .simp
  omega
where
 numRs_len: ∀l:List Expr,(vZ r lit w l).length<=Expr.az l
 | []=>by simp[vZ]
 |e::s=>by
  have h1:=j7 r lit w e;have h2:=numRs_len s;rw[vZ,Expr.az,Y8];omega
theorem K8(r:ah)(lit w:Int)(l:List Expr)(i:Nat)(h:i<l.length):((l.take i).flatMap (gy r lit w)).length+(l.getD i em).size<=Expr.az l:=by
 have b: ∀l:List Expr,(l.flatMap (gy r lit w)).length<=Expr.az l:=by
  intro l
  induction l with
  |nil=>simp
  |cons e s ih=>
   have:=j7 r lit w e;rw[ZX,Y8,Expr.az];omega
 have j:=b (l.take i);have d: ∀(l:List Expr) (i:Nat),i<l.length->Expr.az (l.take i)+(l.getD i em).size<=Expr.az l:=by
  intro l
  induction l with
  |nil=>intro i h;simp at h
  |cons e s ih=>
   intro i h;cases i with
   |zero=>simp[Expr.az]
   |succ i=>
    have:=ih i (by simpa using h);simp only[aau,aav,Expr.az];omega
 have:=d l i h;omega
theorem d137(r:ah)(n:Nat)(y:Vc r n):Rc r (n+1):=by
 intro t e lit w F hb;have x:=e.size_eq;refine bW.le (args:=[.ptr 0 0,ag e.c1,pI lit,pI w]) ?_ ⟨.refl _,e.xd,.refl _,.refl _,ac⟩;have u:=Expr.au e.args;refine aB ab func226 Z (by decide) ntmps226 Z (by simp) ?_;refine zE Z Z (fun k=>?_) fun k=>?_
 .have k: ¬e.kind=4:=zF k;have d:je r lit w e=[]:=be k;rw[d,TS.add_nil];refine gA Z zm
 have k:e.kind=4:=zT k;have d:je r lit w e=e.args.flatMap (gy r lit w):=am k;rw[d];refine gA Z ?_
 refine aw 0 e.args.length (Zf _) (fun i=>⟨[(0,.ptr 0 0),(2,pI lit),(3,pI w),(14,.iv (cZ 7 e.args Expr.c)),(15,pI e.args.length),(16,pI i)],
  [(0,io (TS.cell r 1 5 (t.add ((e.args.take i).flatMap (gy r lit w))).ws.length 3)),(1,io (rZ (t.add ((e.args.take i).flatMap (gy r lit w))).up)),(5,io (aE 5 (t.add ((e.args.take i).flatMap (gy r lit w))).ws Want.c)),(3,io (sk (t.add ((e.args.take i).flatMap (gy r lit w))).kind))],6⟩) (fun _=>True) _ ac
  (Rh (t:=t) (TS.add_nil t).symm Z Z Z Z Z Z Z Z Z Z (bv (bv (bv (bv (bv (bv trivial))))))) fun i B _=>?_
 refine zJ Z Z (fun b=>?_) fun b=>?_
 .have b:=ci b;have j:=bE (f:=gy r lit w) b;have D:=K8 r lit w e.args i b;have A:=Expr.aF e.args i b;refine gA Z (Es (y (t.add ((e.args.take i).flatMap (gy r lit w))) (e.args.getD i em) lit w (by omega) (by show(t.ws++_).length+_<=_;rw[Y8];omega)) Z Z Z Z Z Z Z (by first|rfl|(rw[Y8];rfl)|simp) (by first|rfl|(rw[Ze];rfl)|(simp only[Ze,Zj];rfl)) Z Z Z Z Z Z ?_);refine gA Z ⟨b,ac,_,Rh ((by rw[TS.add_add,j])) Z Z Z Z (by first|rfl|(rw[Y8];rfl)|simp) (by first|rfl|(rw[Ze];rfl)|(simp only[Ze,Zj];rfl)) Z Z Z Z (bv (bv (bv (bv (bv (bv ac))))))⟩
 .have b:=co b;rw[Zh b];refine gA Z zm
end
theorem vp(r:ah): ∀n,Vc r n∧Rc r n
 |0=>by
  have b:Rc r 0:=fun t e lit w j=>by have:=e.size_pos;omega
  exact⟨d92 r 0 b,b⟩
 |n+1=>by
  have d:=d137 r n (vp r n).1;exact⟨d92 r (n+1) d,d⟩
theorem Mv(r:ah)(t:TS)(e:Expr)(lit w:Int)(hb:t.ws.length+e.size<=1000000000):bW prog 199 [.ptr 0 0,ag e.c,pI lit,pI w] (t.O r) (.bQ []) ((t.add (gy r lit w e)).H r) 5:=(vp r e.size).1 t e lit w (Zc _) hb
theorem SU(r:ah)(t:TS)(e:Expr)(lit w:Int)(hb:t.ws.length+e.size<=1000000000):bW prog 226 [.ptr 0 0,ag e.c,pI lit,pI w] (t.O r) (.bQ []) ((t.add (je r lit w e)).H r) 5:=(vp r e.size).2 t e lit w (Zc _) (by have:=e.size_eq;omega)
def typeAt(p:Prog)(a:Atom)(i:Nat):Int:=(iy p a.rel).types.getD i em
def nM(p:Prog)(a:Atom)(i:Nat):Bool:=li (i<(iy p a.rel).types.length)&&(li (typeAt p a i=1)||decide (typeAt p a i=2))
def mq(p:Prog)(r:ah)(a:Atom)(lit w:Int)(i:Nat):List Want:=
 if nM p a i=lc then[]
 else if(a.ad.getD i em).kind=1 then[⟨lit,bh r (a.ad.getD i em).var w,typeAt p a i,0⟩]
 else if(a.ad.getD i em).kind=2 then[⟨lit,aN.z,typeAt p a i,(a.ad.getD i em).val.kind⟩] else[]
def gC(p:Prog)(r:ah)(a:Atom)(lit w:Int):Nat->List Want
 |0=> []
 |i+1=>gC p r a lit w i++mq p r a lit w i
theorem Fp(p:Prog)(r:ah)(a:Atom)(lit w:Int)(i:Nat):(mq p r a lit w i).length<=1:=by
 unfold mq
 repeat' split
 all_goals simp
theorem pt(p:Prog)(r:ah)(a:Atom)(lit w:Int): ∀i,(gC p r a lit w i).length<=i
 |0=>Zc _
 |i+1=>by
  have b:=pt p r a lit w i;have d:=Fp p r a lit w i;rw[gC,Y8];omega
set_option maxHeartbeats 1000000 in
theorem d90(p:Prog)(r:ah)(t:TS)(a:Atom)(lit w:Int)(hb:t.ws.length+a.ad.length<=1000000000):bW prog 197 [.ptr 0 0,.iv (di p),ag a.c,pI lit,pI w] (t.O r) (.bQ []) ((t.add (gC p r a lit w a.ad.length)).H r) 5:=by
 refine aB ab func197 Z (by decide) ntmps197 Z (by simp) ?_;refine gA Z ?_
 refine aw 0 a.ad.length (Zf _) (fun i=>⟨[(0,.ptr 0 0),(3,pI lit),(4,pI w),(10,.iv (cZ 1 (iy p a.rel).types aY)),(19,.iv (cZ 5 a.ad Term.c)),(20,pI a.ad.length),(21,pI i)],
  [(0,io (TS.cell r 1 5 (t.add (gC p r a lit w i)).ws.length 3)),(1,io (rZ (t.add (gC p r a lit w i)).up)),(5,io (aE 5 (t.add (gC p r a lit w i)).ws Want.c)),(3,io (sk (t.add (gC p r a lit w i)).kind))],6⟩) (fun _=>True) _ ac
  (Rh (t:=t) (TS.add_nil t).symm Z Z Z Z Z Z Z Z Z Z (bv (bv (bv (bv (bv (bv (bv trivial)))))))) fun i A _=>?_
 refine zE Z Z (fun j=>?_) fun j=>?_
 .have j:=co j;have:i=a.ad.length:=by omega
  subst this;refine gA Z zm
 have j:=ci j;have B:=pt p r a lit w i;have b:t.add (gC p r a lit w (i+1))=(t.add (gC p r a lit w i)).add (mq p r a lit w i):=by rw[TS.add_add];rfl
 have y:(t.add (gC p r a lit w i)).ws.length<=t.ws.length+i:=by show(t.ws++_).length<=_;rw[Y8];omega
 generalize t.add (gC p r a lit w i)=t1 at*
 refine zE Z Z (fun g1=>?_) fun g1=>?_
 .have g1: ¬i<(iy p a.rel).types.length:=by have g:=zT (show li ((i:Int)>=((iy p a.rel).types.length:Int))=kw from g1);omega
  have u:nM p a i=lc:=by rw[nM,decide_eq_false g1];rfl
  have hW:mq p r a lit w i=[]:=am u;rw[hW,TS.add_nil]at b;refine gA Z ⟨j,ac,_,sG (b.symm)⟩
 have g1:i<(iy p a.rel).types.length:=by have g:=zF (show li ((i:Int)>=((iy p a.rel).types.length:Int))=lc from g1);omega
 refine zJ Z Z (fun g2=>?_) fun g2=>?_
 .have g2: ¬typeAt p a i=1:=by simpa[typeAt]using g2
  refine zJ Z Z (fun g3=>?_) fun g3=>?_
  .have g3: ¬typeAt p a i=2:=by simpa[typeAt]using g3
   have u:nM p a i=lc:=by rw[nM,decide_eq_true g1,decide_eq_false g2,decide_eq_false g3];rfl
   have hW:mq p r a lit w i=[]:=am u;rw[hW,TS.add_nil]at b;refine gA Z ⟨j,ac,_,sG (b.symm)⟩
  .have g3:typeAt p a i=2:=by simpa[typeAt]using g3
   have x:nM p a i=kw:=by rw[nM,decide_eq_true g1,decide_eq_true g3,abi];rfl
   have hW:mq p r a lit w i=if(a.ad.getD i em).kind=1 then[⟨lit,bh r (a.ad.getD i em).var w,typeAt p a i,0⟩]
    else if(a.ad.getD i em).kind=2 then[⟨lit,aN.z,typeAt p a i,(a.ad.getD i em).val.kind⟩] else[]:=by unfold mq;rw[x];exact be (by decide)
   rw[hW]at b;refine zJ Z Z (fun k1=>?_) fun k1=>?_
   .have k1:(a.ad.getD i em).kind=1:=zT k1;rw[am k1]at b;refine gA Z (qD (d136 r t1 (a.ad.getD i em).var w) ?_);refine gA Z ⟨j,ac,_,sG (b.symm)⟩
   have k1: ¬(a.ad.getD i em).kind=1:=zF k1;rw[be k1]at b;refine zJ Z Z (fun d=>?_) fun d=>?_
   .have d:(a.ad.getD i em).kind=2:=zT d;rw[am d]at b;refine gA Z ⟨j,ac,_,sG (b.symm)⟩
   .have d: ¬(a.ad.getD i em).kind=2:=zF d;rw[be d,TS.add_nil]at b;refine gA Z ⟨j,ac,_,sG (b.symm)⟩
 .have g2:typeAt p a i=1:=by simpa[typeAt]using g2
  have x:nM p a i=kw:=by rw[nM,decide_eq_true g1,decide_eq_true g2];rfl
  have hW:mq p r a lit w i=if(a.ad.getD i em).kind=1 then[⟨lit,bh r (a.ad.getD i em).var w,typeAt p a i,0⟩]
   else if(a.ad.getD i em).kind=2 then[⟨lit,aN.z,typeAt p a i,(a.ad.getD i em).val.kind⟩] else[]:=by unfold mq;rw[x];exact be (by decide)
  rw[hW]at b;refine zJ Z Z (fun k1=>?_) fun k1=>?_
  .have k1:(a.ad.getD i em).kind=1:=zT k1;rw[am k1]at b;refine gA Z (qD (d136 r t1 (a.ad.getD i em).var w) ?_);refine gA Z ⟨j,ac,_,sG (b.symm)⟩
  have k1: ¬(a.ad.getD i em).kind=1:=zF k1;rw[be k1]at b;refine zJ Z Z (fun d=>?_) fun d=>?_
  .have d:(a.ad.getD i em).kind=2:=zT d;rw[am d]at b;refine gA Z ⟨j,ac,_,sG (b.symm)⟩
  .have d: ¬(a.ad.getD i em).kind=2:=zF d;rw[be d,TS.add_nil]at b;refine gA Z ⟨j,ac,_,sG (b.symm)⟩
def sP(t:TS)(u v:aN):TS:=if u=v then t else⟨cH (.si .i64) t.up u v,t.ws,t.kind⟩
def lT(y:Expr):Int:=if y.kind=2 then y.val.kind else 1
def gk(r:ah)(lit w:Int)(t:TS)(x y:Expr):TS:=
 if y.kind=1 then sP t (aQ t.up (bh r x.var w)) (aQ t.up (bh r y.var w))
 else t.add (if x.kind=1 then[⟨lit,bh r x.var w,lT y,0⟩] else if x.kind=2 then[⟨lit,aN.z,lT y,x.val.kind⟩] else[⟨lit,aN.z,lT y,1⟩])
def jB(r:ah)(lit w:Int)(t:TS)(a b:Expr):TS:=
 if b.kind=1 then gk r lit w ((t.add (je r lit w a)).add (je r lit w b)) b a else gk r lit w ((t.add (je r lit w a)).add (je r lit w b)) a b
theorem O3{u v:aN}(h:(!(li (u.1=v.1)&&(li (u.2=v.2)&&kw)))=kw):u≠v:=by
 rintro rfl;simp at h
theorem O4{u v:aN}(h:(!(li (u.1=v.1)&&(li (u.2=v.2)&&kw)))=lc):u=v:=by
 simp at h;exact Prod.ext h.1 h.2
theorem uw(r:ah)(lit w:Int)(e:Expr):(je r lit w e).length<=e.size:=by
 have b:=j7 r lit w e;rw[w8,Y8]at b;omega
set_option maxHeartbeats 1000000 in
theorem d93(r:ah)(t:TS)(a b:Expr)(lit w:Int)(ok:iX t.up)(hb:t.ws.length+a.size+b.size<=1000000000):bW prog 200 [.ptr 0 0,ag a.c,ag b.c,pI lit,pI w] (t.O r) (.bQ []) ((jB r lit w t a b).H r) 5:=by
 have F:=uw r lit w a;have G:=uw r lit w b;have D:jB r lit w t a b=if b.kind=1 then gk r lit w ((t.add (je r lit w a)).add (je r lit w b)) b a else gk r lit w ((t.add (je r lit w a)).add (je r lit w b)) a b:=rfl;rw[D];have A:iX ((t.add (je r lit w a)).add (je r lit w b)).up:=ok;refine aB ab func200 Z (by decide) ntmps200 Z (by simp) ?_;refine gA Z (Hy (SU r t a lit w (by omega)) ?_);refine gA Z (Es (SU r (t.add (je r lit w a)) b lit w (by show(t.ws++_).length+_<=_;rw[Y8];omega)) Z Z Z Z Z Z Z (by first|rfl|(rw[Y8];rfl)|simp) (by first|rfl|(rw[Ze];rfl)|(simp only[Ze,Zj];rfl)) Z Z Z Z Z Z ?_);have I:((t.add (je r lit w a)).add (je r lit w b)).ws.length<=t.ws.length+a.size+b.size:=by
  show((t.ws++_)++_).length<=_;rw[Y8,Y8];omega
 generalize(t.add (je r lit w a)).add (je r lit w b)=t1 at*
 refine zJ Z Z (fun k1=>?_) fun k1=>?_
 .have k1:b.kind=1:=zT k1;rw[am k1];refine zJ Z Z (fun j=>?_) fun j=>?_
  .have j:a.kind=2:=zT j;have B: ¬a.kind=1:=by omega
   have hh:lT a=a.val.kind:=am j;have x:gk r lit w t1 b a=t1.add [⟨lit,bh r b.var w,lT a,0⟩]:=by unfold gk;rw[be B,am k1]
   rw[x,hh];refine zJ Z Z (fun u=>?_) fun u=>?_
   .exact absurd (zT u) B
   refine zE Z Z (fun d=>?_) fun d=>?_
   .exact absurd k1 (zF d)
   refine gA Z (qD (d136 r t1 b.var w) ?_);refine gA Z zm
  .have j: ¬a.kind=2:=zF j;refine zJ Z Z (fun u=>?_) fun u=>?_
   .have u:a.kind=1:=zT u;have x:gk r lit w t1 b a=sP t1 (aQ t1.up (bh r b.var w)) (aQ t1.up (bh r a.var w)):=am u;rw[x];refine gA Z (qD (d136 r t1 b.var w) ?_);refine gA Z (qD (d52 r t1 (bh r b.var w) A) ?_);refine gA Z (qD (d136 r t1 a.var w) ?_);refine gA Z (qD (d52 r t1 (bh r a.var w) A) ?_);refine zJ Z Z (fun d=>?_) fun d=>?_
    .have e:sP t1 (aQ t1.up (bh r b.var w)) (aQ t1.up (bh r a.var w))=⟨cH (.si .i64) t1.up (aQ t1.up (bh r b.var w)) (aQ t1.up (bh r a.var w)),t1.ws,t1.kind⟩:=be (O3 d);rw[e];refine nV Z (by repeat' (first|exact ac|exact rfl|exact agI (aN.c (aQ t1.up (bh r a.var w)))|exact aK.refl _|apply ZU)) (SP (by first|exact .inr Z|exact .inl Z) Z Z Z Z Z Z Z Z Z Z (.refl _) Z Z)
    .have e:sP t1 (aQ t1.up (bh r b.var w)) (aQ t1.up (bh r a.var w))=t1:=am (O4 d);rw[e];refine gA Z zm
   .have B: ¬a.kind=1:=zF u;have hh:lT a=1:=be j;have x:gk r lit w t1 b a=t1.add [⟨lit,bh r b.var w,lT a,0⟩]:=by unfold gk;rw[be B,am k1]
    rw[x,hh];refine zE Z Z (fun d=>?_) fun d=>?_
    .exact absurd k1 (zF d)
    refine gA Z (qD (d136 r t1 b.var w) ?_);refine gA Z zm
 have k1: ¬b.kind=1:=zF k1;rw[be k1];have x:gk r lit w t1 a b=t1.add (if a.kind=1 then[⟨lit,bh r a.var w,lT b,0⟩] else if a.kind=2 then[⟨lit,aN.z,lT b,a.val.kind⟩] else[⟨lit,aN.z,lT b,1⟩]):=be k1;rw[x];refine zJ Z Z (fun j=>?_) fun j=>?_
 .have j:b.kind=2:=zT j;have hh:lT b=b.val.kind:=am j;rw[hh];refine zJ Z Z (fun u=>?_) fun u=>?_
  .exact absurd (zT u) k1
  refine zJ Z Z (fun d=>?_) fun d=>?_
  .rw[am (zT d)];refine gA Z (qD (d136 r t1 a.var w) ?_);refine gA Z zm
  rw[be (zF d)];refine zJ Z Z (fun y=>?_) fun y=>?_
  .rw[am (zT y)];refine gA Z zm
  .rw[be (zF y)];refine gA Z zm
 .have j: ¬b.kind=2:=zF j;have hh:lT b=1:=be j;rw[hh];refine zJ Z Z (fun u=>?_) fun u=>?_
  .exact absurd (zT u) k1
  refine zJ Z Z (fun d=>?_) fun d=>?_
  .rw[am (zT d)];refine gA Z (qD (d136 r t1 a.var w) ?_);refine gA Z zm
  rw[be (zF d)];refine zJ Z Z (fun y=>?_) fun y=>?_
  .rw[am (zT y)];refine gA Z zm
  .rw[be (zF y)];refine gA Z zm
def pR(p:Prog)(r:ah)(lit w:Int)(t:TS)(l:Lit):TS:=
 if l.kind=1∨l.kind=2 then t.add (gC p r l.atom lit w l.atom.ad.length)
 else if l.kind=3 then(if l.op=1∨l.op=2 then jB r lit w t l.left l.right else(t.add (gy r lit w l.left)).add (gy r lit w l.right)) else t
theorem d91(p:Prog)(r:ah)(t:TS)(l:Lit)(lit w:Int)(ok:iX t.up)(hb:t.ws.length+l.size<=1000000000):bW prog 198 [.ptr 0 0,.iv (di p),ag l.c,pI lit,pI w] (t.O r) (.bQ []) ((pR p r lit w t l).H r) 5:=by
 have y:=l.size_eq;have A:=j7 r lit w l.left;refine aB ab func198 Z (by decide) ntmps198 Z (by simp) ?_;refine zE Z Z (fun k1=>?_) fun k1=>?_
 .have k1:l.kind=1:=by simpa using k1
  have b:pR p r lit w t l=t.add (gC p r l.atom lit w l.atom.ad.length):=am (.inl k1);rw[b];refine gA Z (Hy (d90 p r t l.atom lit w (by omega)) ?_);refine gA Z zm
 have k1: ¬l.kind=1:=zF k1;refine zJ Z Z (fun d=>?_) fun d=>?_
 .have d:l.kind=2:=zT d;have b:pR p r lit w t l=t.add (gC p r l.atom lit w l.atom.ad.length):=am (.inr d);rw[b];refine gA Z (Hy (d90 p r t l.atom lit w (by omega)) ?_);refine gA Z zm
 have d: ¬l.kind=2:=zF d;have b:pR p r lit w t l=if l.kind=3 then(if l.op=1∨l.op=2 then jB r lit w t l.left l.right else(t.add (gy r lit w l.left)).add (gy r lit w l.right)) else t:=be (by rintro(h|h);exact k1 h;exact d h);refine zJ Z Z (fun j=>?_) fun j=>?_
 .have j: ¬l.kind=3:=by simpa using j
  rw[be j]at b;rw[b];refine gA Z zm
 have j:l.kind=3:=by simpa using j
 rw[am j]at b;refine zE Z Z (fun u=>?_) fun u=>?_
 .have u:l.op=1:=by simpa using u
  rw[am (.inl u)]at b;rw[b];refine gA Z (Hy (d93 r t l.left l.right lit w ok (by omega)) ?_);refine gA Z zm
 have u: ¬l.op=1:=zF u;refine zJ Z Z (fun x=>?_) fun x=>?_
 .have x:l.op=2:=zT x;rw[am (.inr x)]at b;rw[b];refine gA Z (Hy (d93 r t l.left l.right lit w ok (by omega)) ?_);refine gA Z zm
 .have x: ¬l.op=2:=zF x;rw[be (by rintro(h|h);exact u h;exact x h)]at b;rw[b];refine gA Z (Hy (Mv r t l.left lit w (by omega)) ?_);refine gA Z (Es (Mv r (t.add (gy r lit w l.left)) l.right lit w (by show(t.ws++_).length+_<=_;rw[Y8];omega)) Z Z Z Z Z Z Z (by first|rfl|(rw[Y8];rfl)|simp) (by first|rfl|(rw[Ze];rfl)|(simp only[Ze,Zj];rfl)) Z Z Z Z Z Z ?_);refine gA Z zm
theorem mw: ∀(n:Nat) (m:UM) (v:aN),iX m->Ig m v<=n->eh (.si .i64) m (aQ m v)=lc
 |n,m,v,ok,hn=>by
  cases h:eh (.si .i64) m v with
  |false=>rw[ud m v h];exact h
  |true=>
   obtain⟨b,d⟩:=qh m v ok h;cases n with
   |zero=>omega
   |succ n=>rw[<-b];exact mw n m _ ok (by omega)
theorem ug: ∀(m:UM) (u v:aN),eh (.si .i64) m u=lc->cH (.si .i64) m u v=m++ [(u,v)]
 | [],_,_,_=>rfl
 |(x,y)::r,u,v,h=>by
  unfold eh at h;split at h
  .cases h
  .rename_i b;show(if x=u then _ else(x,y)::cH (.si .i64) r u v)=_;rw[be b,ug r u v h];rfl
theorem En{m:UM}{u:aN}(h:eh (.si .i64) m u=lc): ∀q∈m,q.1≠u:=by
 induction m with
 |nil=>intro q hq;cases hq
 |cons a r ih=>
  obtain⟨x,y⟩:=a;unfold eh at h;split at h
  .cases h
  .rename_i b;intro q hq;rcases Zq.1 hq with rfl|hq
   .exact b
   .exact ih h q hq
theorem Aa: ∀{m:UM} {u v:aN},iX m->(∀q∈m,q.1≠u)->(∀q∈m,q.1≠v)->u≠v->iX (m++ [(u,v)])
 | [],u,v,_,_,_,hne=>⟨hne,fun q hq=>(nomatch hq),fun q hq=>(nomatch hq),ac⟩
 |(x,y)::r,u,v,⟨o1,o2,o3,o4⟩,hu,hv,hne=>by
  refine⟨o1,fun q hq=>?_,fun q hq=>?_,Aa o4 (fun q hq=>hu q (Zn _ hq)) (fun q hq=>hv q (Zn _ hq)) hne⟩
  .rcases Zm.1 hq with hq|hq
   .exact o2 q hq
   .simp only[Zk]at hq;subst hq;exact fun e=>hu _ Zo e.symm
  .rcases Zm.1 hq with hq|hq
   .exact o3 q hq
   .simp only[Zk]at hq;subst hq;exact fun e=>hv _ Zo e.symm
theorem J5{t:TS}(ok:iX t.up)(a b:aN):iX (sP t (aQ t.up a) (aQ t.up b)).up:=by
 unfold sP;split
 .exact ok
 .rename_i d;have j:=mw _ t.up a ok (Zc _);have u:=mw _ t.up b ok (Zc _);show iX (cH _ _ _ _);rw[ug _ _ _ j];exact Aa ok (En j) (En u) d
theorem Bp(r:ah)(lit w:Int){t:TS}(ok:iX t.up)(x y:Expr):iX (gk r lit w t x y).up:=by
 unfold gk;split
 .exact J5 ok _ _
 .exact ok
theorem Fc(r:ah)(lit w:Int){t:TS}(ok:iX t.up)(a b:Expr):iX (jB r lit w t a b).up:=by
 unfold jB;split
 .exact Bp r lit w (t:=(t.add (je r lit w a)).add (je r lit w b)) ok _ _
 .exact Bp r lit w (t:=(t.add (je r lit w a)).add (je r lit w b)) ok _ _
theorem Ln(p:Prog)(r:ah)(lit w:Int){t:TS}(ok:iX t.up)(l:Lit):iX (pR p r lit w t l).up:=by
 unfold pR
 repeat' split
 .exact ok
 .exact Fc r lit w ok _ _
 .exact ok
 .exact ok
theorem J4(t:TS)(u v:aN):(sP t u v).ws=t.ws:=by unfold sP;split<;>rfl
theorem za(r:ah)(lit w:Int)(t:TS)(x y:Expr):(gk r lit w t x y).ws.length<=t.ws.length+1:=by
 unfold gk
 repeat' split
 .rw[J4];omega
 all_goals(show(t.ws++_).length<=_;rw[Y8,ZH];omega)
theorem Bn(r:ah)(lit w:Int)(t:TS)(a b:Expr):(jB r lit w t a b).ws.length<=t.ws.length+a.size+b.size+1:=by
 have d:=uw r lit w a;have j:=uw r lit w b;have u:((t.add (je r lit w a)).add (je r lit w b)).ws.length<=t.ws.length+a.size+b.size:=by
  show((t.ws++_)++_).length<=_;rw[Y8,Y8];omega
 unfold jB;split
 .exact Z1 (za _ _ _ _ _ _) (by omega)
 .exact Z1 (za _ _ _ _ _ _) (by omega)
theorem Hk(p:Prog)(r:ah)(lit w:Int)(t:TS)(l:Lit):(pR p r lit w t l).ws.length<=t.ws.length+l.size:=by
 have b:=l.size_eq;have d:=pt p r l.atom lit w l.atom.ad.length;have j:=Bn r lit w t l.left l.right;have u:=j7 r lit w l.left;have x:=j7 r lit w l.right;unfold pR
 repeat' split
 .show(t.ws++_).length<=_;rw[Y8];omega
 .omega
 .show((t.ws++_)++_).length<=_;rw[Y8,Y8];omega
 .omega
end Go.Proofs.YtflegjieadkonaaGreatDoor
