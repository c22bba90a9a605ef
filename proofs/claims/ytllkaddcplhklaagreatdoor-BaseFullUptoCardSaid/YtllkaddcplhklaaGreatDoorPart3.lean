/-
  What the proofs of the claims need: part 3 of 5.
-/
import Derived.Test.YtllkaddcplhklaaGreatDoorPart2
import Derived.Sort.EncStr
import Derived.Sort.Grow
import Derived.Sort.Walk0
import Derived.Shelf.Sort.Plain
import Derived.Shelf.Slices.In.SortNone
import Derived.Shelf.Slices.In.SortNone2
import Derived.WalkKit
import Derived.Lib.Builder
import Derived.Lib.UnsafeStr
import Derived.Laws.Externs
import Derived.Shelf.RegionOpenPlain
import Derived.KernelRfl
import Derived.Test.YtllkaddcplhklaaGreatDoorProg
import Derived.Laws.RangeString
import Derived.Shelf.LaysM
import Derived.Shelf.Strconv.Itoa3
import Derived.Lib.ItoaLen
import Derived.Test.YtllkaddcplhklaaGreatDoorRows
import Derived.ProofKit
import Derived.OpenShut
import Derived.Deep.DeepHandedRow
import Derived.Lib.LaidTab
import Derived.LaidSub
import Derived.MakeChecks
import Derived.Test.YtllkaddcplhklaaGreatDoorCards
import Derived.Test.YtllkaddcplhklaaGreatDoorTie
open And renaming intro→Oz
open Array renaming eq_empty_of_size_eq_zero→P2,getD_eq_getD_getElem?→Ot,getElem?_append_left→Pa,getElem?_eq_getElem→O2,getElem?_eq_some_iff→Pz,getElem?_modify→O8,getElem?_setIfInBounds→O0
open Bool renaming and_eq_true→Pk,and_false→QU,eq_false_iff→QQ,eq_iff_iff→PL,false_and→P6,false_eq_true→PX,false_or→Qg,not_eq_false'→Qe,not_eq_true'→Py,not_false→Q7,not_true→QC,or_eq_true→Qu,true_and→QP,true_or→Rn
open ByteArray renaming empty→OB,size→RI
open Classical renaming byContradiction→PN
open Int renaming ofNat_eq_zero→RS,toNat_natCast→OA
open List.Nodup renaming length_le_of_subset→PG
open List.Pairwise renaming nil→QS
open List renaming all_cons→Ru,all_eq_true→Pc,any_cons→RO,any_eq_false→Ps,any_eq_true→PI,append_assoc→OS,append_nil→Pt,cons_append→PO,ext_getElem?→Qy,filterMap_append→RB,filterMap_cons→RL,filter_eq_self→QY,find?_eq_none→Qq,findIdx?_eq_none_iff→Rp,findIdx?_eq_some_iff_getElem→Q5,flatMap_cons→PB,foldl_cons→Pl,getD_cons_succ→PK,getD_cons_zero→Ql,getD_eq_getElem?_getD→Ow,getElem?_eq_getElem→Ox,getElem?_eq_some_iff→Ov,getElem?_map→OC,getElem?_of_mem→Pj,getElem?_take→Ph,getElem_map→PQ,getElem_mem→Pg,le_antisymm→Rw,length_append→Oy,length_cons→O6,length_filter_le→PJ,length_map→O3,length_nil→P0,length_pos_iff→PD,length_singleton→Pu,length_take→PF,map_append→OM,map_cons→OU,map_map→PT,map_nil→Qo,mem_append→ON,mem_append_left→Pb,mem_append_right→P4,mem_cons→OG,mem_cons_of_mem→OF,mem_cons_self→OH,mem_filter→O5,mem_iff_getElem→Qh,mem_iff_getElem?→RC,mem_map→OZ,mem_of_getElem?→O9,mem_range→PA,mem_singleton→OI,nil_append→P9,nodup_append→PU,nodup_cons→O7,nodup_nil→Pe,not_lt→R0,not_mem_nil→Rf,pairwise_cons→Pd,pairwise_map→QA,perm_ext_iff_of_nodup→PZ,range→O4,sum_cons→PM,take_length→Qd,take_of_length_le→OP,take_succ_cons→PR
open Nat renaming add_assoc→P5,add_zero→Qf,beq→OW,ble→Qr,ble_eq_true_of_le→Pp,blt→OV,le_add_left→Q3,le_add_right→Rc,le_of_ble_eq_true→Oq,le_refl→OJ,le_succ→QH,le_trans→Pm,lt_or_ge→Pw,lt_succ_of_lt→PS,lt_succ_self→P7,min_le_right→RW,mul_one→Rj,sub_zero→Q6,zero_add→OY,zero_le→OL
open Option renaming bind_some→QG,getD_some→Px,map_eq_some_iff→OD,map_some→PC
open Option.some renaming inj→Pf,injEq→Ou
set_option maxRecDepth 100000
open Bool renaming false→jp,true→is
open Decidable renaming decide→kw
open Inhabited renaming default→ci
open Option renaming none→io,some→co
open Array renaming range→Rq
open Array renaming getElem?_map→QJ
open Nat renaming mul_le_mul_right→OX
open Nat renaming add_mul→Pv
open List renaming getElem?_append_right→OO
open Array renaming getElem?_append_right→QT
open Array renaming getElem?_toList→O1
namespace Go.Al
theorem bi{a b:PV}{c:Bool}{X:Prop}(h:X)(h1:a=b:=by rfl)(h2:c=true:=by rfl):an a b∧c=true∧X:=⟨by subst h1;exact fun _ _ _ _ h=>h,h2,h⟩
theorem bv{i n:Nat}(h:decide ((i:Int)<(n:Int))=true):i<n:=by simpa using h
theorem ce{i n:Nat}(h:decide ((i:Int)<(n:Int))=false):n≤i:=by simpa using h
end Go.Al
namespace Go.Proofs.YtllkaddcplhklaaGreatDoor
open Go Go.Al Go.Proofs.Tryz
def fq(may:Expr->Bool)(occ:List ak)(l:Lit):ak×Bool:=
 if¬l.kind=3∨ ¬l.op=1 then(OB,jp)
 else if l.left.kind=1∧du occ l.left.var=jp∧may l.right=is then(l.left.var,is)
 else if l.right.kind=1∧du occ l.right.var=jp∧may l.left=is then(l.right.var,is)
 else(OB,jp)
theorem bZ{occ:List ak}{s:ak}:du occ s=!kw (dt .str (aD occ) s 0=0):=by
 rw[bt];by_cases h:s∈occ
 .have:=s4.2 h;rw[bu.2 h];simp;omega
 .rw[ew.2 h,qb.2 h];rfl
def b6(occ:List ak)(e:Expr):Bool:=kw (e.kind=2)||(kw (e.kind=1)&&du occ e.var)
theorem lP{a b:Bool}(h:a=b):pB a=pB b:=by rw[h]
theorem d76(occ:List ak)(e:Expr)(hb:e.size<=1000000000000):bC prog 86 [ag e.c,.ptr 1 0] [cC (aD occ),.cells [.mp 0]] (pB (b6 occ e)) [(0,co (cC (aD occ))),(1,co (.cells [.mp 0]))] 2:=by
 have b:=bt occ e.var;have j:=bZ (occ:=occ) (s:=e.var);refine au ab func86 Z (by decide) ntmps86 Z (by simp) ?_
 repeat' (first
  |(refine gA Z (zI (fun _=>?_) (fun _=>?_)))
  |fail)
 all_goals first
  |(refine gA Z (aY [] (.inr Z) Z (zM ⟨.of_eq (lP (a:=is) ?_),rfl,ac⟩ (zC (zO ac))));simp_all [b6];done)
  |(refine gA Z (aY [] (.inr Z) Z (zM ⟨.of_eq (lP (a:=jp) ?_),rfl,ac⟩ (zC (zO ac))));simp_all [b6];done)
  |(refine gA Z (aY [] (.inr Z) Z (zM ⟨.of_eq (lP (a:=kw (dt .str (aD occ) e.var 0>0)) ?_),rfl,ac⟩ (zC (zO ac))));rw[b6,j,b];simp_all;by_cases u:oj occ e.var=0<;>simp[u]<;>omega)
theorem c77(a:fC):Pure prog 87 [ag a.c] (pB jp):=by
 refine ai ab func87 Z (by decide) ntmps87 Z (by simp) Z ?_;exact zU Z
theorem N7(a:fC):Pure prog 199 [ag a.c] (pB jp):=by
 refine ai ab func199 Z (by decide) ntmps199 Z (by simp) Z ?_;exact zU Z
def lR(out occ:List ak)(a:fC):Bool:=(a7 a).all fun x=>kw (x=a.var)||(!du out x||du occ x)
theorem d126(r:ax)(occ:List ak)(a:fC)(hb:a.size<=1000000000000):bC prog 198 [ag a.c,.ptr 1 0,.ptr 2 0] [cC (aD occ),.cells [.iv (cg r)],.cells [.mp 0]] (pB (lR (aC r) occ a)) [(0,co (cC (aD occ))),(1,co (.cells [.iv (cg r)])),(2,co (.cells [.mp 0]))] 3:=by
 refine au ab func198 Z (by decide) ntmps198 Z (by simp) ?_;refine gA Z (zq [] (d127 a hb) ?_);refine gA Z ?_;refine eU (aD (a7 a)) (fun vs=>⟨[(1,.ptr 1 0),(2,.ptr 2 0),(3,.ptr 3 0),(8,.ptr 5 0)],[(0,co (cC (aD occ))),(1,co (.cells [.iv (cg r)])),(2,co (.cells [.mp 0])),(3,co (ay a.c)),(5,co (.bF .str wH (aD (a7 a)) vs io))],6⟩) (fun vs=> ∀j∈vs,∀x,(aD (a7 a))[j]? =co x->(kw (x.1=a.var)||(!du (aC r) x.1||du occ x.1))=is) [] (by simp)
  (zW (zC ⟨⟨_,rfl,.of_eq Z⟩,Oq Z,rfl,⟨_,rfl,.of_eq Z⟩,Oq Z,rfl,zK (hI Z Z (.inl Z) Z trivial)⟩)) fun vs G=>?_
 refine fk Z ac (dm Z Z Z Z Z (by decide) (fun b=>?_) fun j x u A=>?_)
 .refine gA Z (zD [] Z (zM ⟨.of_eq (lP (a:=is) (Pc.2 fun t I=>all_keys (p:=fun t=>(kw (t=a.var)||(!du (aC r) t||du occ t))=is) b G t I).symm),rfl,ac⟩ (zC ⟨⟨_,rfl,.of_eq Z⟩,Oq Z,rfl,⟨_,rfl,.of_eq Z⟩,Oq Z,rfl,ac⟩)))
 .have more:(kw (x.1=a.var)||(!du (aC r) x.1||du occ x.1))=is-> ∀i∈j::vs,∀x,(aD (a7 a))[i]? =co x->(kw (x.1=a.var)||(!du (aC r) x.1||du occ x.1))=is:=fun h i hi y B=>by
   rcases OG.1 hi with rfl|hi
   .rw[u]at B;cases B;exact h
   .exact G i hi y B
  have C:=bZ (occ:=aC r) (s:=x.1);have D:=bZ (occ:=occ) (s:=x.1);have J:=bt (aC r) x.1;have R:=bt occ x.1;refine zJ Z Z (fun g1=>?_) fun g1=>?_
  .have g1:kw (x.1=a.var)=jp:=by simpa using g1
   refine zJ Z Z (fun g2=>?_) fun g2=>?_
   .have g2:du (aC r) x.1=is:=by
     have:=zT g2;rw[C];simp;omega
    refine zJ Z Z (fun g3=>?_) fun g3=>?_
    .have g3:du occ x.1=jp:=by rw[D,g3];rfl
     refine gA Z (zD [] Z (zM ⟨.of_eq (lP (a:=jp) (List.all_eq_false.2 ⟨x.1,rj u,by rw[g1,g2,g3];simp⟩).symm),rfl,ac⟩ (zC ⟨⟨_,rfl,.of_eq Z⟩,Oq Z,rfl,⟨_,rfl,.of_eq Z⟩,Oq Z,rfl,ac⟩)))
    .have g3:du occ x.1=is:=by rw[D,g3];rfl
     refine gA Z ⟨j,x,u,A,more (by rw[g3];simp),[],zW (zC ⟨⟨_,rfl,.of_eq Z⟩,Oq Z,rfl,⟨_,rfl,.of_eq Z⟩,Oq Z,rfl,zK (hI Z Z (.inr Z) Z ac)⟩)⟩
   .have g2:du (aC r) x.1=jp:=by
     have:=zF g2;rw[C];simp;omega
    refine gA Z ⟨j,x,u,A,more (by rw[g2];simp),[],zW (zC ⟨⟨_,rfl,.of_eq Z⟩,Oq Z,rfl,⟨_,rfl,.of_eq Z⟩,Oq Z,rfl,zK (hI Z Z (.inr Z) Z ac)⟩)⟩
  .have g1:kw (x.1=a.var)=is:=by simpa using g1
   refine gA Z ⟨j,x,u,A,more (by rw[g1];simp),[],zW (zC ⟨⟨_,rfl,.of_eq Z⟩,Oq Z,rfl,⟨_,rfl,.of_eq Z⟩,Oq Z,rfl,zK (hI Z Z (.inr Z) Z ac)⟩)⟩
def kL(may:Expr->Bool)(more:fC->Bool)(occ:List ak)(l:Lit):Option ak:=
 if(fq may occ l).2=is then co (fq may occ l).1 else if l.kind=4∧du occ l.bx=jp∧more l.agg=is then co l.bx else io
def bN(may:Expr->Bool)(more:fC->Bool)(occ:List ak):List Lit->Option ak
 | []=>io
 |l::r=>match kL may more occ l with
  |some v=>co v
  |none=>bN may more occ r
def cT(may:List ak->Expr->Bool)(more:List ak->fC->Bool)(body:List Lit):Nat->List ak->List ak
 |0,occ=>occ
 |n+1,occ=>match bN (may occ) (more occ) occ body with
  |some v=>cT may more body n (occ++ [v])
  |none=>occ
def bc(l:Lit):List ak:=if l.kind=1 then cB l.atom else[]
def bQ(may:List ak->Expr->Bool)(more:List ak->fC->Bool)(body:List Lit)(occ:List ak):List ak:=cT may more body (3*body.length+1) (occ++body.flatMap bc)
theorem dW{may:List ak->Expr->Bool}{more:List ak->fC->Bool}{body:List Lit}{n:Nat}{occ:List ak}{v:ak}(h:bN (may occ) (more occ) occ body=co v):cT may more body (n+1) occ=cT may more body n (occ++ [v]):=by
 simp only[cT,h]
theorem dX{may:List ak->Expr->Bool}{more:List ak->fC->Bool}{body:List Lit}{n:Nat}{occ:List ak}(h:bN (may occ) (more occ) occ body=io):cT may more body (n+1) occ=occ:=by
 simp only[cT,h]
theorem jR{may:Expr->Bool}{more:fC->Bool}{occ:List ak}: ∀{l m:List Lit},bN may more occ l=io->bN may more occ (l++m)=bN may more occ m
 | [],_,_=>rfl
 |x::r,m,h=>by
  simp only[bN]at h;split at h
  .cases h
  .rename_i h1;simp only[PO,bN,h1];exact jR h
theorem dp{may:Expr->Bool}{more:fC->Bool}{occ:List ak}{l:List Lit}{i:Nat}(h:bN may more occ (l.take i)=io)(hi:i<l.length)(b:kL may more occ (l.getD i ci)=io):bN may more occ (l.take (i+1))=io:=by
 rw[ch hi,jR h];simp only[bN,b]
theorem og{may:Expr->Bool}{more:fC->Bool}{occ:List ak}{l:List Lit}{i:Nat}{v:ak}(h:bN may more occ (l.take i)=io)(hi:i<l.length)(b:kL may more occ (l.getD i ci)=co v):bN may more occ l=co v:=by
 have e:l=l.take i++(l.getD i ci::l.drop (i+1)):=by
  rw[Ow,Ox hi,Px,List.getElem_cons_drop,List.take_append_drop]
 rw[e,jR h];simp only[bN,b]
theorem su{may:Expr->Bool}{more:fC->Bool}{occ:List ak}{l:Lit}{v:ak}(h:kL may more occ l=co v):v∈ [l.left.var,l.right.var,l.bx]∧v∉occ:=by
 unfold kL at h;split at h
 .rename_i h1;simp only[Ou]at h;subst h;unfold fq at h1 ⊢;split at h1
  .cases h1
  .rename_i u;rw[be u];split at h1
   .rename_i b;rw[am b];exact⟨by simp,ew.1 b.2.1⟩
   .rename_i b;rw[be b];split at h1
    .rename_i j;rw[am j];exact⟨by simp,ew.1 j.2.1⟩
    .cases h1
 .split at h
  .rename_i b;simp only[Ou]at h;subst h;exact⟨by simp,ew.1 b.2.1⟩
  .cases h
theorem jh{may:Expr->Bool}{more:fC->Bool}{occ:List ak}{v:ak}: ∀{l:List Lit},bN may more occ l=co v->v∈bz l∧v∉occ
 | [],h=>by cases h
 |x::r,h=>by
  simp only[bN]at h;split at h
  .rename_i w j;simp only[Ou]at h;subst h;obtain⟨h1,b⟩:=su j;exact⟨vc OH h1,b⟩
  .obtain⟨h1,b⟩:=jh h;refine⟨?_,b⟩;simp only[bz,PB,ON]at h1 ⊢;exact .inr h1
theorem eQ: ∀l:List Lit,(l.flatMap bc).length<=Lit.aE l
 | []=>by simp
 |e::r=>by
  have b:=eQ r;have j:(bc e).length<=e.size:=by
   have:=ij e.atom;have:=e.size_eq;unfold bc;split
   .omega
   .simp
  rw[PB,Oy];simp only[Lit.aE];omega
theorem M9(occ:List ak)(l:Lit)(hb:l.size<=100000000000):bC prog 136 [ag l.c,.b4 (.func 197) [.mp 0] [],.mp 0] [cC (aD occ)] (.bf [pS (fq (aV occ) occ l).1,pB (fq (aV occ) occ l).2]) [(0,co (cC (aD occ)))] 1:=by
 have y:=l.size_eq;have u:=bt occ l.left.var;have x:=bt occ l.right.var;refine au ab func136 Z (by decide) ntmps136 Z (by simp) ?_;refine zE Z Z (fun h1=>?_) fun h1=>?_
 .have h1: ¬l.kind=3:=by simpa using h1
  refine gA Z (zD [] Z (zM ⟨.of_eq (nE (a:=(OB,jp)) (by rw[fq,am (.inl h1)])),rfl,ac⟩ (zC ac)))
 have h1:l.kind=3:=by simpa using h1
 refine zJ Z Z (fun b=>?_) fun b=>?_
 .have b: ¬l.op=1:=by simpa using b
  refine gA Z (zD [] Z (zM ⟨.of_eq (nE (a:=(OB,jp)) (by rw[fq,am (.inr b)])),rfl,ac⟩ (zC ac)))
 have b:l.op=1:=by simpa using b
 have j:fq (aV occ) occ l=if l.left.kind=1∧du occ l.left.var=jp∧(aV occ) l.right=is then(l.left.var,is) else if l.right.kind=1∧du occ l.right.var=jp∧(aV occ) l.left=is then(l.right.var,is) else(OB,jp):=by
  rw[fq,be (by simp[h1,b])]
 repeat' (first
  |(refine gA Z (zI (fun _=>?_) (fun _=>?_)))
  |(refine gA Z (bJ [0] (d125 occ l.left (by omega)) Z Z Z Z Z Z Z Z ?_))
  |(refine gA Z (bJ [0] (d125 occ l.right (by omega)) Z Z Z Z Z Z Z Z ?_))
  |fail)
 all_goals first
  |(refine gA Z (aY [] (.inr Z) Z (zM ⟨.of_eq (nE (a:=(OB,jp)) ?_),rfl,ac⟩ (zC ac)));rw[j];simp only[bZ] at*;simp_all;done)
  |(refine gA Z (aY [] (.inr Z) Z (zM ⟨.of_eq (nE (a:=(l.left.var,is)) ?_),rfl,ac⟩ (zC ac)));rw[j];simp only[bZ] at*;simp_all;done)
  |(refine gA Z (aY [] (.inr Z) Z (zM ⟨.of_eq (nE (a:=(l.right.var,is)) ?_),rfl,ac⟩ (zC ac)));rw[j];simp only[bZ] at*;simp_all;done)
  |(exfalso;simp_all;done)
theorem NV(occ:List ak)(body:List Lit)(hb:occ.length+8*Lit.aE body<=100000000000):bC prog 85 [.iv (lits body),.mp 0,.b4 (.func 197) [.mp 0] [],.b4 (.func 199) [] []] [cC (aD occ)] (.bf []) [(0,co (cC (aD (bQ (fun occ=>aV occ) (fun occ=>fun _=>jp) body occ))))] 1:=by
 have f0:=Lit.aF body;have k0:=eQ body;have g0:=iP body;have j0:=oN (bz body) (occ++body.flatMap bc);refine au ab func85 Z (by decide) ntmps85 Z (by simp) ?_;refine gA Z ?_;refine aK 0 body.length (OL _) (fun i=>⟨[(0,.iv (lits body)),(1,.mp 0),(2,.b4 (.func 197) [.mp 0] []),(3,.b4 (.func 199) [] []),(14,.iv (lits body)),(15,pI body.length),(16,pI i)],[(0,co (cC (aD (occ++(body.take i).flatMap bc))))],1⟩) (fun _=>True) [] ac
  (zW (hM Z (by simp) Z trivial)) fun i hi _=>?_
 refine zJ Z Z (fun h1=>?_) fun h1=>?_
 .have h1:i<body.length:=by simpa using h1
  have hs:=bK (f:=bc) h1;have hn:=Lit.dw body i h1;have hv:=eQ (body.take i);have n0:=(body.getD i ci).size_eq;refine zJ Z Z (fun u=>?_) fun u=>?_
  .have u:(body.getD i ci).kind=1:=by simpa using u
   rw[show bc (body.getD i ci)=_ from am u]at hs;refine gA Z (zq [0] (d88 (occ++(body.take i).flatMap bc) (body.getD i ci).atom (by rw[Oy];omega)) ?_);refine gA Z ⟨h1,ac,[],zW (hM Z (by rw[hs,OS]) Z ac)⟩
  .have u: ¬(body.getD i ci).kind=1:=by simpa using u
   rw[show bc (body.getD i ci)=_ from be u,Pt]at hs;refine gA Z ⟨h1,ac,[],zW (hM Z (by rw[hs]) Z ac)⟩
 have h1:body.length<=i:=by simpa using h1
 have e0:body.take i=body:=OP h1;rw[e0];refine gA Z ?_;refine gi (σ:={x:List ak×Nat//bQ (fun occ=>aV occ) (fun occ=>fun _=>jp) body occ=cT (fun occ=>aV occ) (fun occ=>fun _=>jp) body (x.2+1) x.1∧cm (bz body) x.1<=x.2∧x.1.length+cm (bz body) x.1<=(occ++body.flatMap bc).length+cm (bz body) (occ++body.flatMap bc)})
  (fun x=>⟨[(0,.iv (lits body)),(1,.mp 0),(2,.b4 (.func 197) [.mp 0] []),(3,.b4 (.func 199) [] [])],[(0,co (cC (aD x.1.1)))],1⟩) (fun x=>cm (bz body) x.1.1)
  ⟨(occ++body.flatMap bc,3*body.length),rfl,by dsimp only;omega,OJ _⟩ [] (zW (zC trivial)) ?_
 rintro⟨⟨ok,f⟩,hx1,hx2,hx3⟩;dsimp only at hx1 hx2 hx3 ⊢;rw[Oy]at hx3;refine gA Z ?_;refine aK 0 body.length (OL _) (fun i=>⟨[(0,.iv (lits body)),(1,.mp 0),(2,.b4 (.func 197) [.mp 0] []),(3,.b4 (.func 199) [] []),(28,.iv (lits body)),(29,pI body.length),(30,pI i)],[(0,co (cC (aD ok)))],1⟩) (fun i=>bN ((fun occ=>aV occ) ok) ((fun occ=>fun _=>jp) ok) ok (body.take i)=io) [] Z
  (zW (zC trivial)) fun i hi C=>?_
 refine zJ Z Z (fun b=>?_) fun b=>?_
 .have b:i<body.length:=by simpa using b
  have m0:=Lit.bR body i b;have d0:=(body.getD i ci).jq;have j: ∀v,kL ((fun occ=>aV occ) ok) ((fun occ=>fun _=>jp) ok) ok (body.getD i ci)=co v->bQ (fun occ=>aV occ) (fun occ=>fun _=>jp) body occ=cT (fun occ=>aV occ) (fun occ=>fun _=>jp) body (f-1+1) (ok++ [v])∧cm (bz body) (ok++ [v])<=f-1∧
    (ok++ [v]).length+cm (bz body) (ok++ [v])<=(occ++body.flatMap bc).length+cm (bz body) (occ++body.flatMap bc)∧cm (bz body) (ok++ [v])<cm (bz body) ok:=by
   intro v hv;have Y:=og C b hv;obtain⟨g1,g2⟩:=jh Y;have i0:=oM g1 g2;have c0:cm (bz body) (ok++ [v])=cm (bz body) (fO ok v):=by
    unfold cm;congr 2
    funext x
    congr 1;rw[PL,bu,bu,db,ON,OI]
   have I:f-1+1=f:=by omega
   refine⟨?_,by omega,?_,by omega⟩
   .rw[hx1,dW Y,I]
   .rw[Oy,Oy,Pu];omega
  have a0:=bt ok (fq (aV ok) ok (body.getD i ci)).1;have J:=fz ok (fq (aV ok) ok (body.getD i ci)).1;have b0:=bt ok (body.getD i ci).bx;have R:=fz ok (body.getD i ci).bx;refine gA Z (zq [0] (M9 ok (body.getD i ci) (by omega)) ?_);refine zJ Z Z (fun B=>?_) fun B=>?_
  .obtain⟨g1,g2,g3,g4⟩:=j _ (am B);refine gA Z ⟨⟨(_,f-1),g1,g2,g3⟩,[],g4,zW (hM Z (by dsimp only;rw[cY];rfl) Z ac)⟩
  .refine zJ Z Z (fun y=>?_) fun y=>?_
   .have y:(body.getD i ci).kind=4:=by simpa using y
    refine zJ Z Z (fun A=>?_) fun A=>?_
    .have A:du ok (body.getD i ci).bx=jp:=by rw[bZ];simpa using A
     refine gA Z (zp (N7 (body.getD i ci).agg) ?_);refine zJ Z Z (fun G=>?_) fun G=>?_
     .obtain⟨g1,g2,g3,g4⟩:=j _ ((be (by rw[B];simp)).trans (am ⟨y,A,G⟩));refine gA Z ⟨⟨(_,f-1),g1,g2,g3⟩,[],g4,zW (hM Z (by dsimp only;rw[cY];rfl) Z ac)⟩
     .refine gA Z ?_;exact⟨b,dp C b ((be (by rw[B];simp)).trans (be (fun h=>nomatch (h.2.2.symm.trans G)))),[],zW (zC ac)⟩
    .have A:du ok (body.getD i ci).bx=is:=by rw[bZ];simpa using A
     refine gA Z ⟨b,dp C b ((be (by rw[B];simp)).trans (be (by rw[A];simp))),[],zW (zC ac)⟩
   .have y: ¬(body.getD i ci).kind=4:=by simpa using y
    refine gA Z ⟨b,dp C b ((be (by rw[B];simp)).trans (be (fun h=>y h.1))),[],zW (zC ac)⟩
 .have b:body.length<=i:=by simpa using b
  rw[OP b]at C;have D:bQ (fun occ=>aV occ) (fun occ=>fun _=>jp) body occ=ok:=by rw[hx1,dX C]
  refine gA Z (zD [] Z (zW (hM Z (by rw[D]) Z ac)))
theorem M8(occ:List ak)(l:Lit)(hb:l.size<=100000000000):bC prog 136 [ag l.c,.b4 (.func 86) [] [.ptr 1 0],.mp 0] [cC (aD occ),.cells [.mp 0]] (.bf [pS (fq (b6 occ) occ l).1,pB (fq (b6 occ) occ l).2]) [(0,co (cC (aD occ))),(1,co (.cells [.mp 0]))] 2:=by
 have y:=l.size_eq;have u:=bt occ l.left.var;have x:=bt occ l.right.var;refine au ab func136 Z (by decide) ntmps136 Z (by simp) ?_;refine zE Z Z (fun h1=>?_) fun h1=>?_
 .have h1: ¬l.kind=3:=by simpa using h1
  refine gA Z (zD [] Z (zM ⟨.of_eq (nE (a:=(OB,jp)) (by rw[fq,am (.inl h1)])),rfl,ac⟩ (zC (zO ac))))
 have h1:l.kind=3:=by simpa using h1
 refine zJ Z Z (fun b=>?_) fun b=>?_
 .have b: ¬l.op=1:=by simpa using b
  refine gA Z (zD [] Z (zM ⟨.of_eq (nE (a:=(OB,jp)) (by rw[fq,am (.inr b)])),rfl,ac⟩ (zC (zO ac))))
 have b:l.op=1:=by simpa using b
 have j:fq (b6 occ) occ l=if l.left.kind=1∧du occ l.left.var=jp∧(b6 occ) l.right=is then(l.left.var,is) else if l.right.kind=1∧du occ l.right.var=jp∧(b6 occ) l.left=is then(l.right.var,is) else(OB,jp):=by
  rw[fq,be (by simp[h1,b])]
 repeat' (first
  |(refine gA Z (zI (fun _=>?_) (fun _=>?_)))
  |(refine gA Z (bJ [0,1] (d76 occ l.left (by omega)) Z Z Z Z Z Z Z Z ?_))
  |(refine gA Z (bJ [0,1] (d76 occ l.right (by omega)) Z Z Z Z Z Z Z Z ?_))
  |fail)
 all_goals first
  |(refine gA Z (aY [] (.inr Z) Z (zM ⟨.of_eq (nE (a:=(OB,jp)) ?_),rfl,ac⟩ (zC (zO ac))));rw[j];simp only[bZ] at*;simp_all;done)
  |(refine gA Z (aY [] (.inr Z) Z (zM ⟨.of_eq (nE (a:=(l.left.var,is)) ?_),rfl,ac⟩ (zC (zO ac))));rw[j];simp only[bZ] at*;simp_all;done)
  |(refine gA Z (aY [] (.inr Z) Z (zM ⟨.of_eq (nE (a:=(l.right.var,is)) ?_),rfl,ac⟩ (zC (zO ac))));rw[j];simp only[bZ] at*;simp_all;done)
  |(exfalso;simp_all;done)
theorem NU(occ:List ak)(body:List Lit)(hb:occ.length+8*Lit.aE body<=100000000000):bC prog 85 [.iv (lits body),.mp 0,.b4 (.func 86) [] [.ptr 1 0],.b4 (.func 87) [] []] [cC (aD occ),.cells [.mp 0]] (.bf []) [(0,co (cC (aD (bQ (fun occ=>b6 occ) (fun occ=>fun _=>jp) body occ)))),(1,co (.cells [.mp 0]))] 2:=by
 have f0:=Lit.aF body;have k0:=eQ body;have g0:=iP body;have j0:=oN (bz body) (occ++body.flatMap bc);refine au ab func85 Z (by decide) ntmps85 Z (by simp) ?_;refine gA Z ?_;refine aK 0 body.length (OL _) (fun i=>⟨[(0,.iv (lits body)),(1,.mp 0),(2,.b4 (.func 86) [] [.ptr 1 0]),(3,.b4 (.func 87) [] []),(14,.iv (lits body)),(15,pI body.length),(16,pI i)],[(0,co (cC (aD (occ++(body.take i).flatMap bc)))),(1,co (.cells [.mp 0]))],2⟩) (fun _=>True) [] ac
  (zW (hM Z (by simp) Z (zO trivial))) fun i hi _=>?_
 refine zJ Z Z (fun h1=>?_) fun h1=>?_
 .have h1:i<body.length:=by simpa using h1
  have hs:=bK (f:=bc) h1;have hn:=Lit.dw body i h1;have hv:=eQ (body.take i);have n0:=(body.getD i ci).size_eq;refine zJ Z Z (fun u=>?_) fun u=>?_
  .have u:(body.getD i ci).kind=1:=by simpa using u
   rw[show bc (body.getD i ci)=_ from am u]at hs;refine gA Z (zq [0] (d88 (occ++(body.take i).flatMap bc) (body.getD i ci).atom (by rw[Oy];omega)) ?_);refine gA Z ⟨h1,ac,[],zW (hM Z (by rw[hs,OS]) Z (zO ac))⟩
  .have u: ¬(body.getD i ci).kind=1:=by simpa using u
   rw[show bc (body.getD i ci)=_ from be u,Pt]at hs;refine gA Z ⟨h1,ac,[],zW (hM Z (by rw[hs]) Z (zO ac))⟩
 have h1:body.length<=i:=by simpa using h1
 have e0:body.take i=body:=OP h1;rw[e0];refine gA Z ?_;refine gi (σ:={x:List ak×Nat//bQ (fun occ=>b6 occ) (fun occ=>fun _=>jp) body occ=cT (fun occ=>b6 occ) (fun occ=>fun _=>jp) body (x.2+1) x.1∧cm (bz body) x.1<=x.2∧x.1.length+cm (bz body) x.1<=(occ++body.flatMap bc).length+cm (bz body) (occ++body.flatMap bc)})
  (fun x=>⟨[(0,.iv (lits body)),(1,.mp 0),(2,.b4 (.func 86) [] [.ptr 1 0]),(3,.b4 (.func 87) [] [])],[(0,co (cC (aD x.1.1))),(1,co (.cells [.mp 0]))],2⟩) (fun x=>cm (bz body) x.1.1)
  ⟨(occ++body.flatMap bc,3*body.length),rfl,by dsimp only;omega,OJ _⟩ [] (zW (zC (zO trivial))) ?_
 rintro⟨⟨ok,f⟩,hx1,hx2,hx3⟩;dsimp only at hx1 hx2 hx3 ⊢;rw[Oy]at hx3;refine gA Z ?_;refine aK 0 body.length (OL _) (fun i=>⟨[(0,.iv (lits body)),(1,.mp 0),(2,.b4 (.func 86) [] [.ptr 1 0]),(3,.b4 (.func 87) [] []),(28,.iv (lits body)),(29,pI body.length),(30,pI i)],[(0,co (cC (aD ok))),(1,co (.cells [.mp 0]))],2⟩) (fun i=>bN ((fun occ=>b6 occ) ok) ((fun occ=>fun _=>jp) ok) ok (body.take i)=io) [] Z
  (zW (zC (zO trivial))) fun i hi C=>?_
 refine zJ Z Z (fun b=>?_) fun b=>?_
 .have b:i<body.length:=by simpa using b
  have m0:=Lit.bR body i b;have d0:=(body.getD i ci).jq;have j: ∀v,kL ((fun occ=>b6 occ) ok) ((fun occ=>fun _=>jp) ok) ok (body.getD i ci)=co v->bQ (fun occ=>b6 occ) (fun occ=>fun _=>jp) body occ=cT (fun occ=>b6 occ) (fun occ=>fun _=>jp) body (f-1+1) (ok++ [v])∧cm (bz body) (ok++ [v])<=f-1∧
    (ok++ [v]).length+cm (bz body) (ok++ [v])<=(occ++body.flatMap bc).length+cm (bz body) (occ++body.flatMap bc)∧cm (bz body) (ok++ [v])<cm (bz body) ok:=by
   intro v hv;have Y:=og C b hv;obtain⟨g1,g2⟩:=jh Y;have i0:=oM g1 g2;have c0:cm (bz body) (ok++ [v])=cm (bz body) (fO ok v):=by
    unfold cm;congr 2
    funext x
    congr 1;rw[PL,bu,bu,db,ON,OI]
   have I:f-1+1=f:=by omega
   refine⟨?_,by omega,?_,by omega⟩
   .rw[hx1,dW Y,I]
   .rw[Oy,Oy,Pu];omega
  have a0:=bt ok (fq (b6 ok) ok (body.getD i ci)).1;have J:=fz ok (fq (b6 ok) ok (body.getD i ci)).1;have b0:=bt ok (body.getD i ci).bx;have R:=fz ok (body.getD i ci).bx;refine gA Z (zq [0,1] (M8 ok (body.getD i ci) (by omega)) ?_);refine zJ Z Z (fun B=>?_) fun B=>?_
  .obtain⟨g1,g2,g3,g4⟩:=j _ (am B);refine gA Z ⟨⟨(_,f-1),g1,g2,g3⟩,[],g4,zW (hM Z (by dsimp only;rw[cY];rfl) Z (zO ac))⟩
  .refine zJ Z Z (fun y=>?_) fun y=>?_
   .have y:(body.getD i ci).kind=4:=by simpa using y
    refine zJ Z Z (fun A=>?_) fun A=>?_
    .have A:du ok (body.getD i ci).bx=jp:=by rw[bZ];simpa using A
     refine gA Z (zp (c77 (body.getD i ci).agg) ?_);refine zJ Z Z (fun G=>?_) fun G=>?_
     .obtain⟨g1,g2,g3,g4⟩:=j _ ((be (by rw[B];simp)).trans (am ⟨y,A,G⟩));refine gA Z ⟨⟨(_,f-1),g1,g2,g3⟩,[],g4,zW (hM Z (by dsimp only;rw[cY];rfl) Z (zO ac))⟩
     .refine gA Z ?_;exact⟨b,dp C b ((be (by rw[B];simp)).trans (be (fun h=>nomatch (h.2.2.symm.trans G)))),[],zW (zC (zO ac))⟩
    .have A:du ok (body.getD i ci).bx=is:=by rw[bZ];simpa using A
     refine gA Z ⟨b,dp C b ((be (by rw[B];simp)).trans (be (by rw[A];simp))),[],zW (zC (zO ac))⟩
   .have y: ¬(body.getD i ci).kind=4:=by simpa using y
    refine gA Z ⟨b,dp C b ((be (by rw[B];simp)).trans (be (fun h=>y h.1))),[],zW (zC (zO ac))⟩
 .have b:body.length<=i:=by simpa using b
  rw[OP b]at C;have D:bQ (fun occ=>b6 occ) (fun occ=>fun _=>jp) body occ=ok:=by rw[hx1,dX C]
  refine gA Z (zD [] Z (zW (hM Z (by rw[D]) Z (zO ac))))
theorem M7(r:ax)(occ:List ak)(l:Lit)(hb:l.size<=100000000000):bC prog 136 [ag l.c,.b4 (.func 197) [.mp 0] [],.mp 0] [cC (aD occ),.cells [.iv (cg r)],.cells [.mp 0]] (.bf [pS (fq (aV occ) occ l).1,pB (fq (aV occ) occ l).2]) [(0,co (cC (aD occ))),(1,co (.cells [.iv (cg r)])),(2,co (.cells [.mp 0]))] 3:=by
 have y:=l.size_eq;have u:=bt occ l.left.var;have x:=bt occ l.right.var;refine au ab func136 Z (by decide) ntmps136 Z (by simp) ?_;refine zE Z Z (fun h1=>?_) fun h1=>?_
 .have h1: ¬l.kind=3:=by simpa using h1
  refine gA Z (zD [] Z (zM ⟨.of_eq (nE (a:=(OB,jp)) (by rw[fq,am (.inl h1)])),rfl,ac⟩ (zC ⟨⟨_,rfl,.of_eq Z⟩,Oq Z,rfl,⟨_,rfl,.of_eq Z⟩,Oq Z,rfl,ac⟩)))
 have h1:l.kind=3:=by simpa using h1
 refine zJ Z Z (fun b=>?_) fun b=>?_
 .have b: ¬l.op=1:=by simpa using b
  refine gA Z (zD [] Z (zM ⟨.of_eq (nE (a:=(OB,jp)) (by rw[fq,am (.inr b)])),rfl,ac⟩ (zC ⟨⟨_,rfl,.of_eq Z⟩,Oq Z,rfl,⟨_,rfl,.of_eq Z⟩,Oq Z,rfl,ac⟩)))
 have b:l.op=1:=by simpa using b
 have j:fq (aV occ) occ l=if l.left.kind=1∧du occ l.left.var=jp∧(aV occ) l.right=is then(l.left.var,is) else if l.right.kind=1∧du occ l.right.var=jp∧(aV occ) l.left=is then(l.right.var,is) else(OB,jp):=by
  rw[fq,be (by simp[h1,b])]
 repeat' (first
  |(refine gA Z (zI (fun _=>?_) (fun _=>?_)))
  |(refine gA Z (bJ [0] (d125 occ l.left (by omega)) Z Z Z Z Z Z Z Z ?_))
  |(refine gA Z (bJ [0] (d125 occ l.right (by omega)) Z Z Z Z Z Z Z Z ?_))
  |fail)
 all_goals first
  |(refine gA Z (aY [] (.inr Z) Z (zM ⟨.of_eq (nE (a:=(OB,jp)) ?_),rfl,ac⟩ (zC ⟨⟨_,rfl,.of_eq Z⟩,Oq Z,rfl,⟨_,rfl,.of_eq Z⟩,Oq Z,rfl,ac⟩)));rw[j];simp only[bZ] at*;simp_all;done)
  |(refine gA Z (aY [] (.inr Z) Z (zM ⟨.of_eq (nE (a:=(l.left.var,is)) ?_),rfl,ac⟩ (zC ⟨⟨_,rfl,.of_eq Z⟩,Oq Z,rfl,⟨_,rfl,.of_eq Z⟩,Oq Z,rfl,ac⟩)));rw[j];simp only[bZ] at*;simp_all;done)
  |(refine gA Z (aY [] (.inr Z) Z (zM ⟨.of_eq (nE (a:=(l.right.var,is)) ?_),rfl,ac⟩ (zC ⟨⟨_,rfl,.of_eq Z⟩,Oq Z,rfl,⟨_,rfl,.of_eq Z⟩,Oq Z,rfl,ac⟩)));rw[j];simp only[bZ] at*;simp_all;done)
  |(exfalso;simp_all;done)
theorem NS(r:ax)(occ:List ak)(body:List Lit)(hb:occ.length+8*Lit.aE body<=100000000000):bC prog 85 [.iv (lits body),.mp 0,.b4 (.func 197) [.mp 0] [],.b4 (.func 198) [] [.ptr 1 0,.ptr 2 0]] [cC (aD occ),.cells [.iv (cg r)],.cells [.mp 0]] (.bf []) [(0,co (cC (aD (bQ (fun occ=>aV occ) (fun occ=>lR (aC r) occ) body occ)))),(1,co (.cells [.iv (cg r)])),(2,co (.cells [.mp 0]))] 3:=by
 have f0:=Lit.aF body;have k0:=eQ body;have g0:=iP body;have j0:=oN (bz body) (occ++body.flatMap bc);refine au ab func85 Z (by decide) ntmps85 Z (by simp) ?_;refine gA Z ?_;refine aK 0 body.length (OL _) (fun i=>⟨[(0,.iv (lits body)),(1,.mp 0),(2,.b4 (.func 197) [.mp 0] []),(3,.b4 (.func 198) [] [.ptr 1 0,.ptr 2 0]),(14,.iv (lits body)),(15,pI body.length),(16,pI i)],[(0,co (cC (aD (occ++(body.take i).flatMap bc)))),(1,co (.cells [.iv (cg r)])),(2,co (.cells [.mp 0]))],3⟩) (fun _=>True) [] ac
  (zW (hM Z (by simp) Z ⟨⟨_,rfl,.of_eq Z⟩,Oq Z,rfl,⟨_,rfl,.of_eq Z⟩,Oq Z,rfl,ac⟩)) fun i hi _=>?_
 refine zJ Z Z (fun h1=>?_) fun h1=>?_
 .have h1:i<body.length:=by simpa using h1
  have hs:=bK (f:=bc) h1;have hn:=Lit.dw body i h1;have hv:=eQ (body.take i);have n0:=(body.getD i ci).size_eq;refine zJ Z Z (fun u=>?_) fun u=>?_
  .have u:(body.getD i ci).kind=1:=by simpa using u
   rw[show bc (body.getD i ci)=_ from am u]at hs;refine gA Z (zq [0] (d88 (occ++(body.take i).flatMap bc) (body.getD i ci).atom (by rw[Oy];omega)) ?_);refine gA Z ⟨h1,ac,[],zW (hM Z (by rw[hs,OS]) Z ⟨⟨_,rfl,.of_eq Z⟩,Oq Z,rfl,⟨_,rfl,.of_eq Z⟩,Oq Z,rfl,ac⟩)⟩
  .have u: ¬(body.getD i ci).kind=1:=by simpa using u
   rw[show bc (body.getD i ci)=_ from be u,Pt]at hs;refine gA Z ⟨h1,ac,[],zW (hM Z (by rw[hs]) Z ⟨⟨_,rfl,.of_eq Z⟩,Oq Z,rfl,⟨_,rfl,.of_eq Z⟩,Oq Z,rfl,ac⟩)⟩
 have h1:body.length<=i:=by simpa using h1
 have e0:body.take i=body:=OP h1;rw[e0];refine gA Z ?_;refine gi (σ:={x:List ak×Nat//bQ (fun occ=>aV occ) (fun occ=>lR (aC r) occ) body occ=cT (fun occ=>aV occ) (fun occ=>lR (aC r) occ) body (x.2+1) x.1∧cm (bz body) x.1<=x.2∧x.1.length+cm (bz body) x.1<=(occ++body.flatMap bc).length+cm (bz body) (occ++body.flatMap bc)})
  (fun x=>⟨[(0,.iv (lits body)),(1,.mp 0),(2,.b4 (.func 197) [.mp 0] []),(3,.b4 (.func 198) [] [.ptr 1 0,.ptr 2 0])],[(0,co (cC (aD x.1.1))),(1,co (.cells [.iv (cg r)])),(2,co (.cells [.mp 0]))],3⟩) (fun x=>cm (bz body) x.1.1)
  ⟨(occ++body.flatMap bc,3*body.length),rfl,by dsimp only;omega,OJ _⟩ [] (zW (zC ⟨⟨_,rfl,.of_eq Z⟩,Oq Z,rfl,⟨_,rfl,.of_eq Z⟩,Oq Z,rfl,ac⟩)) ?_
 rintro⟨⟨ok,f⟩,hx1,hx2,hx3⟩;dsimp only at hx1 hx2 hx3 ⊢;rw[Oy]at hx3;refine gA Z ?_;refine aK 0 body.length (OL _) (fun i=>⟨[(0,.iv (lits body)),(1,.mp 0),(2,.b4 (.func 197) [.mp 0] []),(3,.b4 (.func 198) [] [.ptr 1 0,.ptr 2 0]),(28,.iv (lits body)),(29,pI body.length),(30,pI i)],[(0,co (cC (aD ok))),(1,co (.cells [.iv (cg r)])),(2,co (.cells [.mp 0]))],3⟩) (fun i=>bN ((fun occ=>aV occ) ok) ((fun occ=>lR (aC r) occ) ok) ok (body.take i)=io) [] Z
  (zW (zC ⟨⟨_,rfl,.of_eq Z⟩,Oq Z,rfl,⟨_,rfl,.of_eq Z⟩,Oq Z,rfl,ac⟩)) fun i hi C=>?_
 refine zJ Z Z (fun b=>?_) fun b=>?_
 .have b:i<body.length:=by simpa using b
  have m0:=Lit.bR body i b;have d0:=(body.getD i ci).jq;have j: ∀v,kL ((fun occ=>aV occ) ok) ((fun occ=>lR (aC r) occ) ok) ok (body.getD i ci)=co v->bQ (fun occ=>aV occ) (fun occ=>lR (aC r) occ) body occ=cT (fun occ=>aV occ) (fun occ=>lR (aC r) occ) body (f-1+1) (ok++ [v])∧cm (bz body) (ok++ [v])<=f-1∧
    (ok++ [v]).length+cm (bz body) (ok++ [v])<=(occ++body.flatMap bc).length+cm (bz body) (occ++body.flatMap bc)∧cm (bz body) (ok++ [v])<cm (bz body) ok:=by
   intro v hv;have Y:=og C b hv;obtain⟨g1,g2⟩:=jh Y;have i0:=oM g1 g2;have c0:cm (bz body) (ok++ [v])=cm (bz body) (fO ok v):=by
    unfold cm;congr 2
    funext x
    congr 1;rw[PL,bu,bu,db,ON,OI]
   have I:f-1+1=f:=by omega
   refine⟨?_,by omega,?_,by omega⟩
   .rw[hx1,dW Y,I]
   .rw[Oy,Oy,Pu];omega
  have a0:=bt ok (fq (aV ok) ok (body.getD i ci)).1;have J:=fz ok (fq (aV ok) ok (body.getD i ci)).1;have b0:=bt ok (body.getD i ci).bx;have R:=fz ok (body.getD i ci).bx;refine gA Z (zq [0,1,2] (M7 r ok (body.getD i ci) (by omega)) ?_);refine zJ Z Z (fun B=>?_) fun B=>?_
  .obtain⟨g1,g2,g3,g4⟩:=j _ (am B);refine gA Z ⟨⟨(_,f-1),g1,g2,g3⟩,[],g4,zW (hM Z (by dsimp only;rw[cY];rfl) Z ⟨⟨_,rfl,.of_eq Z⟩,Oq Z,rfl,⟨_,rfl,.of_eq Z⟩,Oq Z,rfl,ac⟩)⟩
  .refine zJ Z Z (fun y=>?_) fun y=>?_
   .have y:(body.getD i ci).kind=4:=by simpa using y
    refine zJ Z Z (fun A=>?_) fun A=>?_
    .have A:du ok (body.getD i ci).bx=jp:=by rw[bZ];simpa using A
     refine gA Z (zq [0,1,2] (d126 r ok (body.getD i ci).agg (by omega)) ?_);refine zJ Z Z (fun G=>?_) fun G=>?_
     .obtain⟨g1,g2,g3,g4⟩:=j _ ((be (by rw[B];simp)).trans (am ⟨y,A,G⟩));refine gA Z ⟨⟨(_,f-1),g1,g2,g3⟩,[],g4,zW (hM Z (by dsimp only;rw[cY];rfl) Z ⟨⟨_,rfl,.of_eq Z⟩,Oq Z,rfl,⟨_,rfl,.of_eq Z⟩,Oq Z,rfl,ac⟩)⟩
     .refine gA Z ?_;exact⟨b,dp C b ((be (by rw[B];simp)).trans (be (fun h=>nomatch (h.2.2.symm.trans G)))),[],zW (zC ⟨⟨_,rfl,.of_eq Z⟩,Oq Z,rfl,⟨_,rfl,.of_eq Z⟩,Oq Z,rfl,ac⟩)⟩
    .have A:du ok (body.getD i ci).bx=is:=by rw[bZ];simpa using A
     refine gA Z ⟨b,dp C b ((be (by rw[B];simp)).trans (be (by rw[A];simp))),[],zW (zC ⟨⟨_,rfl,.of_eq Z⟩,Oq Z,rfl,⟨_,rfl,.of_eq Z⟩,Oq Z,rfl,ac⟩)⟩
   .have y: ¬(body.getD i ci).kind=4:=by simpa using y
    refine gA Z ⟨b,dp C b ((be (by rw[B];simp)).trans (be (fun h=>y h.1))),[],zW (zC ⟨⟨_,rfl,.of_eq Z⟩,Oq Z,rfl,⟨_,rfl,.of_eq Z⟩,Oq Z,rfl,ac⟩)⟩
 .have b:body.length<=i:=by simpa using b
  rw[OP b]at C;have D:bQ (fun occ=>aV occ) (fun occ=>lR (aC r) occ) body occ=ok:=by rw[hx1,dX C]
  refine gA Z (zD [] Z (zW (hM Z (by rw[D]) Z ⟨⟨_,rfl,.of_eq Z⟩,Oq Z,rfl,⟨_,rfl,.of_eq Z⟩,Oq Z,rfl,ac⟩)))
theorem rh:dR .fg (cC (aD [])):=⟨id,fun M N U w j b=>⟨#[],0,b,⟨rfl,by simp[aD],by simp[aD],by simp,by simp⟩,eY M⟩⟩
def bI(r:ax):List ak:=bQ (fun b=>aV b) (fun b=>lR (aC r) b) r.body []
theorem M4(r:ax)(hb:8*Lit.aE r.body<=100000000000):bC prog 85 [.iv (lits r.body),.mp 0,.b4 (.func 197) [.mp 0] [],.b4 (.func 198) [] [.ptr 1 0,.ptr 2 0]] [.fg,.cells [.iv (cg r)],.cells [.mp 0]] (.bf []) [(0,co (cC (aD (bI r)))),(1,co (.cells [.iv (cg r)])),(2,co (.cells [.mp 0]))] 3:=
 bC.Jk (NS r [] r.body (by simp;omega)) ⟨rh,.refl _,.refl _,ac⟩
theorem d73(r:ax)(hb:8*r.size<=100000000000):bC prog 168 [.iv (cg r)] [] (.mp 0) [(0,co (cC (aD (bI r))))] 1:=by
 unfold ax.size at hb;refine au ab func168 Z (by decide) ntmps168 Z (by simp) ?_;refine gA Z (zd [1,0,2] (M4 r (by omega)) ?_);refine gA Z (zD [1] Z (zW (zC ac)))
def Lo(p:List ak->Prop)(q:PV)(h:AH)(n:Nat):Prop:= ∃ok,p ok∧q= .mp 0∧h=[(0,co (cC (aD ok)))]∧n=1
def D9(r:ax)(a:fC)(occ:List ak):Prop:=occ.Nodup∧ ∀x,x∈occ↔x∈a7 a∧x∈aC r
theorem uI{l m:List ak}(h:l.Nodup)(hs: ∀x∈l,x∈m):l.length<=m.length:=PG h hs
theorem jr(a:fC):(a7 a).length<=a.size:=by
 have h1:=jD a.body;have b:=fS a.iV;unfold a7 fC.size;rw[Oy];split
 .rw[P0];omega
 .omega
theorem Jv(a:fC)(hb:a.size<=100000000000):bC prog 162 [ag a.c1] [] (.mp 0) [(0,co (cC (aD (a7 a))))] 1:=bC.le (d127 a (by omega)) ⟨a.Hk,ac⟩
theorem d161(r:ax)(a:fC)(hb:16*a.size<=100000000000):Al.Fn prog 169 [.iv (cg r),ag a.c] [] (Lo fun ok=> ∃occ,D9 r a occ∧ok=bQ (fun occ=>aV occ) (fun _=>fun _=>jp) a.body occ):=by
 have e0:=jr a;have f0:Lit.aE a.body<=a.size:=by unfold fC.size;omega
 refine Al.Fn.le (args:=[.iv (cg r),ag a.c1]) ?_ ⟨.refl _,a.D2,ac⟩;refine od ab func169 Z (by decide) ntmps169 Z (by simp) ?_;refine gA Z (zq [] (Jv a (by omega)) ?_);refine gA Z ?_
 let b:List Nat->List ak:=fun vs=>(vs.reverse.filterMap fun j=>((aD (a7 a))[j]?).bind fun x=>if du (aC r) x.1 then co x.1 else io)
 refine eU (aD (a7 a)) (fun vs=>⟨[(0,.iv (cg r)),(3,.ptr 0 0),(5,.mp 1),(10,.ptr 3 0)],[(0,co (ay a.c1)),(1,co (cC (aD (b vs)))),(3,co (.bF .str wH (aD (a7 a)) vs io))],4⟩)
  (fun vs=>(b vs).Nodup∧ ∀x,x∈b vs↔x∈aC r∧ ∃j∈vs,∃y,(aD (a7 a))[j]? =co y∧y.1=x) [] ⟨Pe,by simp[b]⟩
  (zW (zK (K1 Z eY Z (hI Z Z (.inl Z) Z trivial)))) fun vs hJ=>?_
 obtain⟨B,C⟩:=hJ;have g0:(b vs).length<=(a7 a).length:=uI B fun x D=>by
  obtain⟨_,j,_,y,h2,rfl⟩:=(C x).1 D;exact rj h2
 refine fk Z ac (dm Z Z Z Z Z (by decide) (fun Y=>?_) fun j x D R=>?_)
 .have b0:D9 r a (b vs):=⟨B,fun x=>by
   rw[C];constructor
   .rintro⟨h1,j,h2,y,A,rfl⟩;exact⟨rj A,h1⟩
   .rintro⟨h1,h2⟩;refine⟨h2,?_⟩;obtain⟨y,hy,rfl⟩:=OZ.1 (((dL (a7 a)).2 x).2 h1);obtain⟨j,R⟩:=Pj hy
    exact⟨j,Y j (Ov.1 R).1,y,R,rfl⟩⟩
  refine gA Z (zq [1] (NV (b vs) a.body (by omega)) ?_);refine fk Z ac (ry [1] (.inr Z) Z ⟨_,⟨b vs,b0,rfl⟩,rfl,rfl,rfl⟩ (zW (zC ac)))
 .have h5:=bZ (occ:=aC r) (s:=x.1);have h7:=bt (aC r) x.1;have h8:=bt (b vs) x.1;have h9:=fz (b vs) x.1;have G:x.1∉b vs:=fun h=>by
   obtain⟨_,i,hi,y,h2,A⟩:=(C x.1).1 h;have d0:=(dL (a7 a)).1;have:i=j:=by
    have I:=(Ov.1 h2)
    have J:=(Ov.1 D)
    obtain⟨I,a0⟩:=I;obtain⟨J,c0⟩:=J;refine(List.getElem_inj (i:=i) (j:=j) (h₀:=by rw[O3];exact I) (h₁:=by rw[O3];exact J) d0).1 ?_;rw[PQ,PQ,a0,c0,A]
   exact R (this▸hi)
  have u:b (j::vs)=b vs++if du (aC r) x.1 then[x.1] else[]:=by
   simp only[b,List.reverse_cons,RB,RL,List.filterMap_nil,D,QG];congr 1;cases du (aC r) x.1<;>rfl
  have step:(b (j::vs)).Nodup∧ ∀z,z∈b (j::vs)↔z∈aC r∧ ∃i∈j::vs,∃y,(aD (a7 a))[i]? =co y∧y.1=z:=by
   rw[u];constructor
   .split
    .rw[PU];refine⟨B,O7.2 ⟨Rf,Pe⟩,fun p hp q hq e=>?_⟩;rw[OI]at hq;exact G ((e.trans hq)▸hp)
    .rw[Pt];exact B
   .intro z;rw[ON,C];constructor
    .rintro(⟨h1,i,h2,A⟩|h1)
     .exact⟨h1,i,OF _ h2,A⟩
     .split at h1
      .rename_i h2;rw[OI]at h1;exact⟨h1▸bu.1 h2,j,OH,x,D,h1.symm⟩
      .cases h1
    .rintro⟨h1,i,h2,y,A,h4⟩;rcases OG.1 h2 with rfl|h2
     .rw[D]at A;cases A;exact .inr (by rw[am (bu.2 (h4▸h1))];simp[h4])
     .exact .inl ⟨h1,i,h2,y,A,h4⟩
  refine zJ Z Z (fun g1=>?_) fun g1=>?_
  .have g1:du (aC r) x.1=is:=by
    have:=zT g1;rw[h5];simp;omega
   rw[g1,am Z]at u;refine gA Z ⟨j,x,D,R,step,[],zW (zK (hM Z (by rw[u,cY];rfl) Z (hI Z Z (.inr Z) Z ac)))⟩
  .have g1:du (aC r) x.1=jp:=by
    have:=zF g1;rw[h5];simp;omega
   rw[g1,be (by simp),Pt]at u;refine gA Z ⟨j,x,D,R,step,[],zW (zK (hM Z (by rw[u]) Z (hI Z Z (.inr Z) Z ac)))⟩
end Go.Proofs.YtllkaddcplhklaaGreatDoor
namespace Go.Proofs.YtllkaddcplhklaaGreatDoor
open Go Go.Al
def lI(s:ak):List UInt8:=s.data.toList
def KS(l:List UInt8):ak:=⟨l.toArray⟩
theorem rf(s:ak):KS (lI s)=s:=by simp[lI,KS]
theorem Gr(l:List UInt8):lI (KS l)=l:=by simp[lI,KS]
def c9(l:List (List UInt8)):List (List UInt8):=l.mergeSort fun x y=>kw (x<=y)
def de(l:List ak):List ak:=(c9 (l.map lI)).map KS
def fU:Prop:=
 (∀(b b0 a0:Nat) (j:List (List UInt8)) (w:World),Go.Sort.Holds encStr w b b0 j.toArray->b<w.heap.size->j.length<4611686018427387904->
  Calls Tryz.prog 84 #[.slice (co ⟨b,b0,io⟩) j.length a0] w fun e u=>
   e= .returned (.tuple #[])∧ ∃n os,u=Go.Sort.grow (Go.Sort.putRow encStr (Go.Sort.ahead w n) b b0 (j.mergeSort fun x y=>kw (x<=y)).toArray) os)∧
 (∀(p:Option Addr) (a0:Nat) (w:World),Calls Tryz.prog 84 #[.slice p 0 a0] w fun e u=>e= .returned (.tuple #[])∧u=w)
theorem iN(l:List ak):(de l).length=l.length:=by simp[de,c9]
theorem mE:de []=[]:=by simp[de,c9]
theorem pr(l:List ak):(de l).map lI=c9 (l.map lI):=by
 unfold de;rw[PT];have:lI ∘ KS=id:=by funext x;exact Gr x
 rw[this,List.map_id]
theorem xg{l:List ak}{k:Nat}{e:List PV}(h:(l.map fun x=>(cR x).map PV.iv)[k]? =co e): ∃s,l[k]? =co s∧e=[pS s]:=by
 rw[OC,OD]at h;obtain⟨s,h1,rfl⟩:=h;exact⟨s,h1,rfl⟩
theorem EY(hS:fU)(l:List ak)(hl:l.length<=1000000000000):bC Tryz.prog 84 [.sl 0 0 l.length 1] [aP 1 l cR] (.bf []) [(0,co (aP 1 (de l) cR))] 1:=by
 refine⟨bm Tryz.func84 Z (by decide),fun M N w vs hr J hv=>?_⟩;obtain⟨v,rfl⟩: ∃v,vs=[v]:=by
  cases vs with
  |nil=>cases J
  |cons v r=>cases r with
   |nil=>exact⟨v,rfl⟩
   |cons a b=>simp at J
 have B:=hv 0 _ Z;simp only[Ql]at B;have n0:=hr.obj 0 _ Z;cases l with
 |nil=>
  have e0:v= .slice io 0 0:=by
   generalize hq:PV.sl 0 0 ([]:List ak).length 1=q at B;cases B with
   |sl i off len sz a0 h h0 h1 hc he=>cases hq;simp at h0
   |lK i sz h=>rfl
   |_=>cases hq
  subst e0;refine(hS.2 io 0 w).mono ?_;rintro e w' ⟨rfl,rfl⟩;refine⟨_,M,N,.bf [],_,1,rfl,⟨rfl,rfl,rfl⟩,?_,?_,.bf [] #[] Z (by simp)⟩
  .rw[mE];exact .refl _ _ _ _ _
  .rw[mE];exact hr
 |cons s0 r=>
  generalize hL:s0::r=L at*
  have c0:0<L.length:=by rw[<-hL];simp
  obtain⟨a0,e0⟩: ∃a0,v= .slice (co ⟨N.az 0,0,io⟩) L.length a0:=by
   generalize hn:L.length=n at B c0;generalize hq:PV.sl 0 0 n 1=q at B;cases B with
   |sl i off len sz a0 h h0 h1 hc he=>cases hq;exact⟨a0,by simp⟩
   |lK i sz h=>cases hq;omega
   |_=>cases hq
  subst e0;rcases n0 with h0|⟨_,c,T,h1,h2,h3,h4,h5⟩
  .rw[<-hL]at h0;cases h0
  rw[O3]at h3;have g0:(aP 1 L cR).real=is:=by rw[<-hL];rfl
  have d0: ∀j s,L[j]? =co s->c.getD j undef= .string s:=fun j s I=>by
   have:=h5 j [pS s] 0 (pS s) (by rw[OC,I];rfl) Z;rw[Rj,Qf]at this;generalize c.getD j undef=y at this ⊢;cases this with
   |iv _ _ h=>cases h;rfl
  have m0:=hr.lt (i:=0) Z g0;have k0:(L.map lI).length=L.length:=by simp
  have hH:Go.Sort.Holds encStr w (N.az 0) 0 (L.map lI).toArray:=by
   intro j I;have i0:j<L.length:=by simpa using I
   have f0:j<c.size:=by omega
   have:=d0 j L[j] (Ox i0);rw[Ot,O2 f0,Px]at this;constructor
   .simp only[World.cell?,h1,OY,Option.isSome_none,PX,if_false];rw[O2 f0,this,getElem!_pos _ j I];simp[encStr,lI]
   .simp[World.frozen?,h1]
  have C:=hS.1 (N.az 0) 0 a0 (L.map lI) w hH m0 (by omega);rw[k0]at C;refine C.mono ?_;rintro e w' ⟨rfl,n,os,rfl⟩
  let R:=Go.Sort.putRow encStr (Go.Sort.ahead w n) (N.az 0) 0 ((L.map lI).mergeSort fun x y=>kw (x<=y)).toArray
  have Y:(c9 (L.map lI)).length=L.length:=by simp[c9]
  have A:Ext M N (· <1) (c5 0 [aP 1 L cR]) w M N (· <1) ((0,co (aP 1 (de L) cR))::c5 0 [aP 1 L cR]) R∧Rel M N (· <1) ((0,co (aP 1 (de L) cR))::c5 0 [aP 1 L cR]) R:=by
   refine hr.write (i:=0) (o0:=aP 1 L cR) Z g0 R (aP 1 (de L) cR) Z Z Z ?_ ?_ ?_ (Rc _ _)
   .show(Go.Sort.putRow _ _ _ _ _).heap.size=_;rw[Go.Sort.size_putRow];rfl
   .intro b hb;show((w.heap.modify (N.az 0) _))[b]? =_;rw[O8,be (fun e=>hb e.symm)]
   .refine .inr ⟨Nat.one_pos,Go.Sort.putCells encStr 0 (c9 (L.map lI)).toArray c,T,?_,?_,?_,?_,?_⟩
    .show((w.heap.modify (N.az 0) _))[N.az 0]? =_;rw[O8,am Z,h1];rfl
    .simp[Go.Sort.putCells,h2]
    .rw[O3,iN];simp[Go.Sort.putCells];omega
    .intro k e he;obtain⟨s,_,rfl⟩:=xg he;rfl
    .intro k e j p he hp;obtain⟨s,hs,rfl⟩:=xg he;have I:j=0:=by
      rcases j with _|j
      .rfl
      .simp at hp
     subst I;cases hp;have hk:k<L.length:=by
      have:=(Ov.1 hs).1;rwa[iN]at this
     have p0:(c9 (L.map lI))[k]? =co (lI s):=by
      rw[<-pr,OC,hs];rfl
     have j0:k<c.size:=by omega
     have b0:(Go.Sort.putCells encStr 0 (c9 (L.map lI)).toArray c).getD (k*1+0) undef= .string s:=by
      rw[Rj,Qf,Ot];simp only[Go.Sort.putCells,Array.getElem?_mapIdx];rw[O2 j0,PC,Px,am ⟨OL _,by simp[Y];omega⟩,Q6];rw[getElem!_pos _ k (by simp[Y];omega)];have h9:(c9 (L.map lI)).toArray[k]'(by simp[Y];omega)=lI s:=by
       rw[List.getElem_toArray];exact(Ov.1 p0).2
      rw[h9];simp[encStr,lI]
     rw[b0];exact .iv _ _ (.v _)
  have D:Rel M N (· <1) ((0,co (aP 1 (de L) cR))::c5 0 [aP 1 L cR]) (Go.Sort.grow R os):=A.2.more fun b hb=>by
   show(R.heap++os)[b]? =_;rw[Pa hb]
  have q0:R.heap.size=w.heap.size:=by
   show(Go.Sort.putRow _ _ _ _ _).heap.size=_;rw[Go.Sort.size_putRow];rfl
  have u: ∀i o,AH.get [(0,co (aP 1 (de L) cR))] i=co o->AH.get ((0,co (aP 1 (de L) cR))::c5 0 [aP 1 L cR]) i=co o:=by
   intro i o h;rw[AH.aw]at h ⊢;split at h
   .rename_i h6;rw[am h6];exact h
   .simp[AH.get]at h
  refine⟨_,M,N,.bf [],_,1,rfl,⟨rfl,rfl,rfl⟩,⟨A.1.os,A.1.tape,⟨A.1.output.out,A.1.output.drawn⟩,?_,?_,.refl _,fun b c h1 h2=>(nomatch (h1.symm.trans h2)),.refl _ _,fun _ h=>h,fun i o G=>A.1.fI i o (u i o G)⟩,?_,.bf [] #[] Z (by simp)⟩
  .show w.heap.size<=(Go.Sort.grow R os).heap.size;rw[Go.Sort.size_grow,q0];omega
  .intro b hb hn;have h7:=A.1.fL b hb hn;show(R.heap++os)[b]? =_;rw[Pa (by omega)];exact h7
  .exact⟨D.dZ,fun i o G=>D.used i o (u i o G),fun i o G=>D.dM i o (u i o G),fun i o G=>D.obj i o (u i o G),fun i j o p G I=>D.inj i j o p (u i o G) (u j p I)⟩
end Go.Proofs.YtllkaddcplhklaaGreatDoor
namespace Go.Proofs.YtllkaddcplhklaaGreatDoor
open Go Go.Al Go.Proofs.Tryz
theorem eH(l:List (List UInt8)):(c9 l).Perm l:=List.mergeSort_perm _ _
theorem gy(l:List (List UInt8)):(c9 l).Pairwise (fun x y=>kw (x<=y)=is):=
 List.pairwise_mergeSort (le:=fun x y=>kw (x<=y)) (fun a b c h1 j=>by simp only[decide_eq_true_eq] at*;exact List.le_trans h1 j)
  (fun a b=>by
   rcases List.le_total a b with h|h
   .simp[h]
   .simp[h]) l
theorem Bi{a b:List (List UInt8)}(h:a.Perm b)(ha:a.Pairwise (fun x y=>kw (x<=y)=is))(hb:b.Pairwise (fun x y=>kw (x<=y)=is)):a=b:=
 List.Perm.eq_of_pairwise (fun x y _ _ h1 j=>Rw (zT h1) (zT j)) ha hb h
theorem nK{a b:List ak}(h:a.Perm b):de a=de b:=by
 unfold de;rw[Bi (((eH _).trans (h.map lI)).trans (eH _).symm) (gy _) (gy _)]
theorem kf{x:ak}{l:List ak}:x∈de l↔x∈l:=by
 unfold de;rw[OZ];constructor
 .rintro⟨b,hb,rfl⟩;obtain⟨s,hs,rfl⟩:=OZ.1 ((eH _).mem_iff.1 hb);rwa[rf]
 .intro h;exact⟨lI x,(eH _).mem_iff.2 (OZ.2 ⟨x,h,rfl⟩),rf x⟩
def fK(m:NM)(vs:List Nat):List ak:=vs.reverse.filterMap fun j=>(m[j]?).map (·.1)
theorem jE(m:NM)(vs:List Nat)(j:Nat)(x:(KC.str).K×Int)(h:m[j]? =co x):fK m (j::vs)=fK m vs++ [x.1]:=by
 simp[fK,RB,h]
theorem sF(m:NM)(vs:List Nat):(fK m vs).length<=vs.length:=by
 unfold fK;have:=List.length_filterMap_le (fun j=>(m[j]?).map (·.1)) vs.reverse;rwa[List.length_reverse]at this
theorem wa(m:NM):(O4 m.length).filterMap (fun j=>(m[j]?).map (·.1))=m.map (·.1):=by
 apply Qy;intro k;have h:(O4 m.length).filterMap (fun j=>(m[j]?).map (·.1))=(O4 m.length).map (fun j=>(m.getD j (OB,0)).1):=by
  rw[show(fun j=>(m.getD j (OB,0)).1)=fun j=>(m.getD j (OB,0)).1 from rfl];have key: ∀l:List Nat,(∀j∈l,j<m.length)->l.filterMap (fun j=>(m[j]?).map (·.1))=l.map (fun j=>(m.getD j (OB,0)).1):=by
   intro l
   induction l with
   |nil=>simp
   |cons j r ih=>
    intro h;have b:=h j OH;rw[RL,Ox b,ih fun k hk=>h k (OF _ hk)];simp[b]
  exact key _ fun j b=>PA.1 b
 rw[h];by_cases hk:k<m.length
 .simp[hk]
 .simp[hk]
theorem iX(m:NM)(vs:List Nat)(hn:vs.Nodup)(hb: ∀j∈vs,j<m.length)(b: ∀j,j<m.length->j∈vs):(fK m vs).Perm (m.map (·.1)):=by
 rw[<-wa];unfold fK;apply List.Perm.filterMap;refine(List.reverse_perm _).trans ?_;rw[PZ hn List.nodup_range];intro j;rw[PA];exact⟨hb j,b j⟩
def eC(m:NM):List ak:=de (m.map (·.1))
theorem sk{vs:List Nat}{n:Nat}(h:vs.Nodup)(hb: ∀j∈vs,j<n):vs.length<=n:=by
 have:=PG h (l₂:=O4 n) fun j b=>PA.2 (hb j b);rwa[List.length_range]at this
theorem rX(σ:Nat->Nat)(l:List ak):(l.map fun x=>(cR x).map PV.iv).map (dy σ)=l.map fun x=>(cR x).map PV.iv:=by
 simp only[PT,cR,OU,Qo];rfl
theorem c51(hS:fU)(m:NM)(hm:m.length<=100000000):Pure prog 88 [.iv (xH m)] (.iv (strs (eC m))):=by
 refine ai ab func88 Z (by decide) ntmps88 Z (by simp) Z ?_;refine gA Z ?_;refine kY 3 1 Z ?_;refine eU m (fun vs=>⟨[(3,.sl 2 0 (fK m vs).length 1),(6,.ptr 0 0)],[(0,co (.bF .str wH m vs io)),(2,co (aP 1 (fK m vs) cR))],3⟩) (fun vs=>vs.Nodup∧ ∀j∈vs,j<m.length) [1] ⟨Pe,by simp⟩
  (zW (hI Z Z (.inl Z) Z (zS trivial))) fun vs C=>?_
 obtain⟨b,u⟩:=C;have I:=sk b u;have G:=sF m vs;refine fk Z ac (dm Z Z Z Z Z (by decide) (fun y=>?_) fun j x A B=>?_)
 .refine fk Z ac (bJ [2] (EY hS (fK m vs) (by omega)) Z Z Z Z Z (congrArg (fun o=> [co o]) (b5 _).symm) Z Z ?_);refine fk Z ac (dq (.inr Z) Z Z ((rX _ _).trans (by rw[eC,nK (iX m vs b u y)])) ?_);rw[eC,iN,<-(iX m vs b u y).length_eq]
 .have hk:=jE m vs j x A;refine gA Z ⟨j,x,A,B,⟨O7.2 ⟨B,b⟩,fun i D=>(OG.1 D).elim (fun h=>h▸(Ov.1 A).1) (u i)⟩,[4],zM ⟨.row (by rw[hk,Oy];rfl),rfl,bi ac⟩ (hI Z Z (.inr Z) Z (hR Z (by rw[hk,OM];rfl) Z ac))⟩
theorem G1{P:Program}{k:FuncId}{kc:KC}{V:Type}{e:V->IV}{z:V}{D:Value}{G:PV->V}{m:List (kc.K×V)}{y:IV}(h:Al.Pure P k [.iv (.dO kc e z D m)] (.iv y)):bC P k [.mp 0] [.map kc e z D G m] (.iv y) [] 1:=by
 refine⟨h.1,fun M N w vs R hl Y=>?_⟩;obtain⟨A,h1,I,h3,J⟩:=oX (n:=1) R (i:=0) Z;have B:Rel A N (· <0) (c5 0 []) w:=⟨I.dZ,fun i o u=>(nomatch u),fun i o u=>(nomatch u),fun i o u=>(nomatch u),fun i j o p u=>(nomatch u)⟩
 refine(h.2 A N w vs B hl fun j p C=>?_).mono ?_
 .cases j with
  |zero=>
   cases C;have:=J _ _ (Y 0 _ Z);generalize vs.getD 0 undef=x at this ⊢;cases this with
   |iv _ _ h=>exact .iv _ _ h
  |succ j=>cases C
 .rintro _ w' ⟨x,M',N',r,h',n',rfl,⟨rfl,rfl,rfl⟩,hx,hrr,hvr⟩;refine⟨x,M',N,.iv y,[],1,rfl,⟨rfl,rfl,rfl⟩,?_,⟨hrr.dZ,fun i o u=>(nomatch u),fun i o u=>(nomatch u),fun i o u=>(nomatch u),fun i j o p u=>(nomatch u)⟩,?_⟩
  .refine⟨hx.os,hx.tape,hx.output,hx.size,fun b hb hn=>hx.fL b hb fun i o u=>(nomatch u),h1.ot.trans hx.ot,fun b c g1 g2=>?_,.refl _ _,fun _ h=>h,fun i o u=>(nomatch u)⟩;cases g3:A b with
   |some c'=>exact h1.gq b c' g1 g3
   |none=>
    rcases hx.gq b c g3 g2 with g4|⟨i,o,g4,_⟩
    .exact .inl g4
    .exact nomatch g4
  .cases hvr with
   |iv _ _ h=>exact .iv _ _ h
theorem NY(hS:fU)(m:NM)(hm:m.length<=100000000):bC prog 88 [.mp 0] [cC m] (.iv (strs (eC m))) [] 1:=G1 (c51 hS m hm)
theorem qH: ∀{m:NM} (_:(m.map (·.1)).Nodup) (k:ak),jv .str m k=m.filter fun x=>!kw (x.1=k)
 | [],_,k=>rfl
 |(a,b)::r,h,k=>by
  rw[OU,O7]at h;by_cases hk:a=k
  .subst hk;have:r.filter (fun x=>!kw (x.1=a))=r:=QY.2 fun x j=>by
    have:x.1≠a:=fun e=>h.1 (e▸OZ.2 ⟨x,j,rfl⟩);simp[this]
   simp[jv,this]
  .have u:=qH h.2 k;simp[jv,hk,u]
theorem tP{m:NM}{p:(KC.str).K×Int->Bool}(h:(m.map (·.1)).Nodup):((m.filter p).map (·.1)).Nodup:=h.sublist ((List.filter_sublist).map _)
theorem mf: ∀(b:List ak) {m:NM} (_:(m.map (·.1)).Nodup),b.foldl (fun m k=>jv .str m k) m=m.filter fun x=>!du b x.1
 | [],m,h=>(QY.2 fun _ _=>rfl).symm
 |k::r,m,h=>by
  rw[Pl,qH h,mf r (tP h),List.filter_filter];congr 1
  funext x
  by_cases hk:x.1=k
  .simp[du,hk]
  .have: ¬k=x.1:=fun e=>hk e.symm
   simp[du,hk,this]
def kj(r:ax)(a:fC):NM:=(aD (a7 a)).filter fun x=>!du (aC r) x.1
theorem j7(l:List ak):(aD l).length<=l.length:=by
 have h:=dL l;have:=uI h.1 fun x b=>(h.2 x).1 b;rwa[O3]at this
theorem d79(r:ax)(a:fC)(hb:a.size<=100000000000):bC prog 157 [.iv (cg r),ag a.c] [] (.mp 0) [(0,co (cC (kj r a)))] 1:=by
 refine bC.le (args:=[.iv (cg r),ag a.c1]) ?_ ⟨.refl _,a.D2,ac⟩;have I:=jr a;have A:=(dL (a7 a)).1;refine au ab func157 Z (by decide) ntmps157 Z (by simp) ?_;refine gA Z (zq [] (Jv a (by omega)) ?_);refine gA Z ?_;refine eU (aD (aC r)) (fun vs=>⟨[(5,.mp 1),(13,.ptr 2 0)],[(1,co (cC ((fK (aD (aC r)) vs).foldl (fun m k=>jv .str m k) (aD (a7 a))))),(2,co (.bF .str wH (aD (aC r)) vs io))],3⟩)
  (fun vs=>vs.Nodup∧ ∀j∈vs,j<(aD (aC r)).length) [] ⟨Pe,by simp⟩
  (zW (zC (hI Z Z (.inl Z) Z trivial))) fun vs G=>?_
 obtain⟨b,u⟩:=G;refine fk Z ac (dm Z Z Z Z Z (by decide) (fun y=>?_) fun j x C D=>?_)
 .have B:(fK (aD (aC r)) vs).foldl (fun m k=>jv .str m k) (aD (a7 a))=kj r a:=by
   rw[mf _ A];unfold kj;congr 1
   funext x
   congr 1;rw[PL,bu,bu,(iX _ vs b u y).mem_iff];exact(dL (aC r)).2 x.1
  rw[B];refine gA Z (zD [1] Z (zW (zC ac)))
 .have hk:=jE (aD (aC r)) vs j x C;refine gA Z ⟨j,x,C,D,⟨O7.2 ⟨D,b⟩,fun i J=>(OG.1 J).elim (fun h=>h▸(Ov.1 C).1) (u i)⟩,[],zW (hM Z (by rw[hk,List.foldl_append];rfl) Z (hI Z Z (.inr Z) Z ac))⟩
theorem qI{may:List ak->Expr->Bool}{more:List ak->fC->Bool}{body:List Lit}: ∀(n:Nat) (occ:List ak),(cT may more body n occ).length<=occ.length+n
 |0,occ=>OJ _
 |n+1,occ=>by
  cases h:bN (may occ) (more occ) occ body with
  |none=>rw[dX h];omega
  |some v=>
   rw[dW h];have:=qI (may:=may) (more:=more) (body:=body) n (occ++ [v]);rw[Oy,Pu]at this;omega
theorem qL{may:List ak->Expr->Bool}{more:List ak->fC->Bool}{body:List Lit}(occ:List ak):(bQ may more body occ).length<=occ.length+4*Lit.aE body+1:=by
 have h1:=qI (may:=may) (more:=more) (body:=body) (3*body.length+1) (occ++body.flatMap bc);have b:=eQ body;have j:=Lit.aF body;rw[Oy]at h1;unfold bQ;omega
theorem yS(r:ax):(bI r).length<=4*Lit.aE r.body+1:=by
 have:=qL (may:=fun b=>aV b) (more:=fun b=>lR (aC r) b) (body:=r.body) [];rw[P0]at this;unfold bI;omega
def mZ(r:ax):List ak:=bQ (fun b=>b6 b) (fun _=>fun _=>jp) r.body []
theorem BG(r:ax):(mZ r).length<=4*Lit.aE r.body+1:=by
 have:=qL (may:=fun b=>b6 b) (more:=fun _=>fun _=>jp) (body:=r.body) [];rw[P0]at this;unfold mZ;omega
theorem M5(r:ax)(hb:8*Lit.aE r.body<=100000000000):bC prog 85 [.iv (lits r.body),.mp 0,.b4 (.func 86) [] [.ptr 1 0],.b4 (.func 87) [] []] [.fg,.cells [.mp 0]] (.bf []) [(0,co (cC (aD (mZ r)))),(1,co (.cells [.mp 0]))] 2:=
 bC.Jk (NU [] r.body (by simp;omega)) ⟨rh,.refl _,ac⟩
theorem c33(hS:fU)(r:ax)(hb:r.size<=10000000):Pure prog 68 [ag r.c] (.iv (strs (eC (aD (mZ r))))):=by
 have h1:=j7 (mZ r);have b:=BG r;have j:Lit.aE r.body<=r.size:=Q3 _ _;refine ai ab func68 Z (by decide) ntmps68 Z (by simp) Z ?_;refine gA Z ?_;refine gA Z (zq [1,2] (M5 r (by omega)) ?_);refine gA Z (zq [1] (NY hS (aD (mZ r)) (by omega)) ?_);exact zU Z
def vX(r:ax)(lit:Int):List ak:=if lit<0∨(r.body.length:Int)<=lit∨ ¬(aq r lit).kind=4 then[] else eC (kj r (aq r lit).agg)
theorem oh{P:Program}{k:FuncId}{args:List PV}{os:List AO}{r:PV}{h:AH}{n0:Nat}(hc:ik P k){n:Nat}(hn: ∃sz b,PV.iv (.ck sz n b)∈args)(hh:n<=maxLen->bC P k args os r h n0):bC P k args os r h n0:=Eu hc hn hh
def n4{α:Type}(p:α->Bool)(l:List α):Int:=match l.findIdx? p with
 |some i=>i
 |none=> -1
theorem fh{α:Type}{p:α->Bool}{l:List α}(h:l.any p=jp):n4 p l= -1:=by
 have:l.findIdx? p=io:=by
  rw[Rp];intro x b;have:=Ps.1 h x b;simpa using this
 rw[n4,this]
theorem gd{α:Type}[Inhabited α]{p:α->Bool}{l:List α}{i:Nat}(h:(l.take i).any p=jp)(hi:i<l.length)(hp:p (l.getD i ci)=is):n4 p l=i:=by
 have:l.findIdx? p=co i:=by
  rw[Q5];have b:l.getD i ci=l[i]:=by simp[hi]
  refine⟨hi,b▸hp,fun j u=>?_⟩;have:=Ps.1 h l[j] (RC.2 ⟨j,by rw[Ph,am u,Ox (by omega)]⟩);simpa using this
 rw[n4,this]
theorem gf{α:Type}(p:α->Bool)(l:List α):kw (n4 p l>=0)=l.any p:=by
 unfold n4;cases h:l.findIdx? p with
 |none=>
  have:=Rp.1 h;have:l.any p=jp:=Ps.2 fun x j=>by simp[this x j]
  rw[this];rfl
 |some i=>
  obtain⟨h1,b,_⟩:=Q5.1 h;rw[PI.2 ⟨_,Pg h1,b⟩];simp
theorem Ct{a b:Int}(h:a=b):pI a=pI b:=by rw[h]
theorem Od(x:Int):Pure prog 117 [pI x] (pB (!kw (x=1)&&!kw (x=2))):=by
 refine ai ab func117 Z (by decide) ntmps117 Z (by simp) Z ?_
 repeat' (first|(refine gA Z (zI (fun _=>?_) (fun _=>?_)))|(refine gA Z (zL (.of_eq ?_))))
 all_goals(refine(lP ?_:pB _=pB _);simp_all)
theorem Oc(t:Term):Pure prog 160 [ag t.c] (pB (kw (t.kind=3))):=by
 refine ai ab func160 Z (by decide) ntmps160 Z (by simp) Z ?_;exact zU Z
theorem Ob(t:Lit):Pure prog 161 [ag t.c] (pB (kw (t.kind=4))):=by
 refine ai ab func161 Z (by decide) ntmps161 Z (by simp) Z ?_;exact zU Z
def cD(v:c8):Int:=if v.kind=1 then(if v.sym=OB∧ -2147483647<=v.num∧v.num<=2147483647 then 0 else 20) else if v.kind=2 then(if v.num=0∧v.sym.size<=64 then 0 else 20) else 20
theorem Nc(v:c8):Pure prog 141 [ag v.c] (pI (cD v)):=by
 refine ai ab func141 Z (by decide) ntmps141 Z (by simp) Z ?_
 repeat' (first|(refine gA Z (zI (fun _=>?_) (fun _=>?_)))|(refine gA Z (zL (.of_eq ?_))))
 all_goals(refine(Ct ?_:pI _=pI _);have hE:(⟨#[]⟩:ByteArray)=OB:=rfl;simp_all [cD];try omega)
def Decl.z:Decl:=⟨OB,[],⟨0,0⟩⟩
def A2(d:Decl):IV:= .agg d.c
def EI:Value:= .agg #[.string OB,.slice io 0 0,.int .i64 0,.int .i64 0]
def intOf:List IV->Int
 | [.v (.int .i64 n)]=>n
 |_=>0
def NO:PV->Decl
 | .agg [.iv (.v (.string s)),.iv (.ck _ n el),.iv (.v (.int _ a)),.iv (.v (.int _ b))]=>⟨s,(O4 n).map fun k=>intOf (el k),⟨a,b⟩⟩
 |_=>Decl.z
abbrev DM:=List ((KC.str).K×Decl)
abbrev Js(m:DM):AO:= .map .str A2 Decl.z EI NO m
abbrev M3(m:DM):IV:= .dO .str A2 Decl.z EI m
theorem Jq(d:Decl):NO (ag d.c)=d:=by
 show(⟨d.name,(O4 d.types.length).map fun k=>intOf (iY (d.types.getD k ci)),⟨d.at_.line,d.at_.Fg⟩⟩:Decl)=d;have:(O4 d.types.length).map (fun k=>intOf (iY (d.types.getD k ci)))=d.types:=by
  apply Qy;intro k;by_cases hk:k<d.types.length
  .simp[hk,intOf,iY]
  .simp[hk]
 rw[this]
theorem EH: ∀M,IR M (A2 Decl.z) EI:=fun M=>by
 refine .agg _ _ Z fun j p b=>?_
 match j,b with
 |0,b=>cases b;exact .v _
 |1,b=>cases b;exact .fM _ _ _ _
 |2,b=>cases b;exact .v _
 |3,b=>cases b;exact .v _
 |j+4,b=>simp[Decl.c]at b
theorem Nu(l:List IV):an (ag l) (.iv (.agg l)):=by
 intro M N U x h;generalize b:ag l=q at h;cases h with
 |agg cs ys hl hr=>
  cases b;refine .iv _ _ (.agg _ _ (by simpa using hl) fun j p u=>?_);have:=hr j (.iv p) (by rw[OC,u];rfl);generalize ys.getD j undef=y at this ⊢;cases this with
  |iv _ _ h=>exact h
 |_=>cases b
theorem EJ(d:Decl):an (ag d.c) (.iv (A2 (NO (ag d.c)))):=by rw[Jq];exact Nu _
def iG(m:DM)(d:Decl):DM:=if cO .str m d.name=is then m else ct .str m d.name d
def mY(p:Prog):DM:=p.aQ.foldl iG []
abbrev cA(p:Prog):IV:=M3 (mY p)
theorem r7{V:Type}: ∀(m:List ((KC.str).K×V)) (k:ak) (v:V),(ct .str m k v).length<=m.length+1
 | [],_,_=>by simp[ct]
 |(a,b)::r,k,v=>by
  have:=r7 r k v;simp only[ct];split
  .simp
  .simp only[O6];omega
theorem d50(p:Prog)(hb:p.aQ.length<=1000000000000):bC prog 73 [ag p.c] [] (.mp 0) [(0,co (Js (mY p)))] 1:=by
 refine au ab func73 Z (by decide) ntmps73 Z (by simp) ?_;refine gA Z ?_;refine aK 0 p.aQ.length (OL _) (fun i=>⟨[(3,.mp 1),(13,.iv (bw 4 p.aQ Decl.c)),(14,pI p.aQ.length),(15,pI i)],[(1,co (Js ((p.aQ.take i).foldl iG [])))],2⟩) (fun _=>True) [] ac
  (zW (K1 Z EH Z trivial)) fun i u _=>?_
 refine zJ Z Z (fun h1=>?_) fun h1=>?_
 .have h1:i<p.aQ.length:=by simpa using h1
  have hs:=gF (g:=iG) (b:=[]) h1;refine zJ Z Z (fun j=>?_) fun j=>?_
  .have j:cO .str ((p.aQ.take i).foldl iG []) (p.aQ.getD i ci).name=jp:=by simpa using j
   rw[iG,be (by rw[j];simp)]at hs;refine fk Z ?_ ?_
   .repeat' (first|exact ac|exact rfl|exact EJ _|exact an.refl _|apply Oz)
    all_goals omega
   exact⟨h1,ac,[],zW (hM Z (by rw[hs,<-Jq (p.aQ.getD i ci)];rfl) Z ac)⟩
  .have j:cO .str ((p.aQ.take i).foldl iG []) (p.aQ.getD i ci).name=is:=by simpa using j
   rw[iG,am j]at hs;refine gA Z ⟨h1,ac,[],zW (hM Z (by rw[hs]) Z ac)⟩
 .have h1:p.aQ.length<=i:=by simpa using h1
  rw[OP h1];refine gA Z (zD [1] Z (zW (zC ac)))
def tt(p:Prog)(a:Atom):Bool:=!cO .str (mY p) a.rel
def ey(p:Prog)(s:ak):Decl:=dt .str (mY p) s Decl.z
def wz(p:Prog)(a:Atom):Bool:=!kw ((a.aj.length:Int)=((ey p a.rel).types.length:Int))
theorem d113(p:Prog)(a:Atom):bC prog 125 [ag a.c,.ptr 0 0] [.cells [.iv (cA p)]] (pB (tt p a)) [(0,co (.cells [.iv (cA p)]))] 1:=by
 refine au ab func125 Z (by decide) ntmps125 Z (by simp) ?_;refine gA Z (zD [] Z (zM ⟨.of_eq Z,rfl,ac⟩ (zO ac)))
theorem d115(p:Prog)(a:Atom):bC prog 127 [ag a.c,.ptr 0 0] [.cells [.iv (cA p)]] (pB (wz p a)) [(0,co (.cells [.iv (cA p)]))] 1:=by
 refine au ab func127 Z (by decide) ntmps127 Z (by simp) ?_;refine gA Z (zD [] Z (zM ⟨.of_eq Z,rfl,ac⟩ (zO ac)))
theorem i187(l:List Int):bC prog 152 [.iv (bw 1 l iY),.b4 (.func 117) [] []] [] (pI (n4 (fun x=>!kw (x=1)&&!kw (x=2)) l)) [] 0:=by
 refine oh (bm func152 Z (by decide)) ⟨_,_,OH⟩ fun j=>?_;simp only[maxLen]at j;refine au ab func152 Z (by decide) ntmps152 Z (by simp) ?_;refine gA Z ?_
 refine aK 0 l.length (OL _) (fun i=>⟨[(0,.iv (bw 1 l iY)),(1,.b4 (.func 117) [] []),(7,pI l.length),(8,pI i)],[],0⟩) (fun i=>(l.take i).any (fun x=>!kw (x=1)&&!kw (x=2))=jp) [] (by simp)
  (zW trivial) fun i y u=>?_
 refine zJ Z Z (fun h1=>?_) fun h1=>?_
 .have h1:i<l.length:=by simpa using h1
  refine gA Z (zp (Od (l.getD i ci)) ?_);refine zJ Z Z (fun b=>?_) fun b=>?_
  .have b:(fun x=>!kw (x=1)&&!kw (x=2)) (l.getD i ci)=is:=b;rw[gd u h1 b];refine gA Z (zD [] Z (zW ac))
  .have b:(fun x=>!kw (x=1)&&!kw (x=2)) (l.getD i ci)=jp:=b;refine gA Z ⟨h1,(cI u h1).2 b,[],zW ac⟩
 .have h1:l.length<=i:=by simpa using h1
  rw[fh (any_none u h1)];refine gA Z (zD [] Z (zW ac))
theorem d153(l:List Int):bC prog 116 [.iv (bw 1 l iY),.b4 (.func 117) [] []] [] (pB (l.any (fun x=>!kw (x=1)&&!kw (x=2)))) [] 0:=by
 refine au ab func116 Z (by decide) ntmps116 Z (by simp) ?_;refine gA Z (zq [] (i187 l) ?_);refine gA Z (zD [] Z (zM ⟨.of_eq (lP (gf _ l)),rfl,ac⟩ ac))
theorem i191(l:List Term):bC prog 194 [.iv (bw 5 l Term.c),.b4 (.func 160) [] []] [] (pI (n4 (fun x:Term=>kw (x.kind=3)) l)) [] 0:=by
 refine oh (bm func194 Z (by decide)) ⟨_,_,OH⟩ fun j=>?_;simp only[maxLen]at j;refine au ab func194 Z (by decide) ntmps194 Z (by simp) ?_;refine gA Z ?_
 refine aK 0 l.length (OL _) (fun i=>⟨[(0,.iv (bw 5 l Term.c)),(1,.b4 (.func 160) [] []),(7,pI l.length),(8,pI i)],[],0⟩) (fun i=>(l.take i).any (fun x:Term=>kw (x.kind=3))=jp) [] (by simp)
  (zW trivial) fun i y u=>?_
 refine zJ Z Z (fun h1=>?_) fun h1=>?_
 .have h1:i<l.length:=by simpa using h1
  refine gA Z (zp (Oc (l.getD i ci)) ?_);refine zJ Z Z (fun b=>?_) fun b=>?_
  .have b:(fun x:Term=>kw (x.kind=3)) (l.getD i ci)=is:=b;rw[gd u h1 b];refine gA Z (zD [] Z (zW ac))
  .have b:(fun x:Term=>kw (x.kind=3)) (l.getD i ci)=jp:=b;refine gA Z ⟨h1,(cI u h1).2 b,[],zW ac⟩
 .have h1:l.length<=i:=by simpa using h1
  rw[fh (any_none u h1)];refine gA Z (zD [] Z (zW ac))
theorem d157(l:List Term):bC prog 159 [.iv (bw 5 l Term.c),.b4 (.func 160) [] []] [] (pB (l.any (fun x:Term=>kw (x.kind=3)))) [] 0:=by
 refine au ab func159 Z (by decide) ntmps159 Z (by simp) ?_;refine gA Z (zq [] (i191 l) ?_);refine gA Z (zD [] Z (zM ⟨.of_eq (lP (gf _ l)),rfl,ac⟩ ac))
theorem i192(l:List Lit):bC prog 137 [.iv (bw 30 l Lit.c),.b4 (.func 161) [] []] [] (pI (n4 (fun x:Lit=>kw (x.kind=4)) l)) [] 0:=by
 refine oh (bm func137 Z (by decide)) ⟨_,_,OH⟩ fun j=>?_;simp only[maxLen]at j;refine au ab func137 Z (by decide) ntmps137 Z (by simp) ?_;refine gA Z ?_
 refine aK 0 l.length (OL _) (fun i=>⟨[(0,.iv (bw 30 l Lit.c)),(1,.b4 (.func 161) [] []),(7,pI l.length),(8,pI i)],[],0⟩) (fun i=>(l.take i).any (fun x:Lit=>kw (x.kind=4))=jp) [] (by simp)
  (zW trivial) fun i y u=>?_
 refine zJ Z Z (fun h1=>?_) fun h1=>?_
 .have h1:i<l.length:=by simpa using h1
  refine gA Z (zp (Ob (l.getD i ci)) ?_);refine zJ Z Z (fun b=>?_) fun b=>?_
  .have b:(fun x:Lit=>kw (x.kind=4)) (l.getD i ci)=is:=b;rw[gd u h1 b];refine gA Z (zD [] Z (zW ac))
  .have b:(fun x:Lit=>kw (x.kind=4)) (l.getD i ci)=jp:=b;refine gA Z ⟨h1,(cI u h1).2 b,[],zW ac⟩
 .have h1:l.length<=i:=by simpa using h1
  rw[fh (any_none u h1)];refine gA Z (zD [] Z (zW ac))
theorem d159(l:List Lit):bC prog 90 [.iv (bw 30 l Lit.c),.b4 (.func 161) [] []] [] (pB (l.any (fun x:Lit=>kw (x.kind=4)))) [] 0:=by
 refine au ab func90 Z (by decide) ntmps90 Z (by simp) ?_;refine gA Z (zq [] (i192 l) ?_);refine gA Z (zD [] Z (zM ⟨.of_eq (lP (gf _ l)),rfl,ac⟩ ac))
theorem MP(p:Prog)(l:List Atom):bC prog 158 [.iv (bw 2 l Atom.c),.b4 (.func 125) [] [.ptr 0 0]] [.cells [.iv (cA p)]] (pI (n4 (fun x:Atom=>tt p x) l)) [(0,co (.cells [.iv (cA p)]))] 1:=by
 refine oh (bm func158 Z (by decide)) ⟨_,_,OH⟩ fun j=>?_;simp only[maxLen]at j;refine au ab func158 Z (by decide) ntmps158 Z (by simp) ?_;refine gA Z ?_
 refine aK 0 l.length (OL _) (fun i=>⟨[(0,.iv (bw 2 l Atom.c)),(1,.b4 (.func 125) [] [.ptr 0 0]),(7,pI l.length),(8,pI i)],[(0,co (.cells [.iv (cA p)]))],1⟩) (fun i=>(l.take i).any (fun x:Atom=>tt p x)=jp) [] (by simp)
  (zW (zO trivial)) fun i y u=>?_
 refine zJ Z Z (fun h1=>?_) fun h1=>?_
 .have h1:i<l.length:=by simpa using h1
  refine gA Z (zq [0] (d113 p (l.getD i ci)) ?_);refine zJ Z Z (fun b=>?_) fun b=>?_
  .have b:(fun x:Atom=>tt p x) (l.getD i ci)=is:=b;rw[gd u h1 b];refine gA Z (zD [] Z (zW (zO ac)))
  .have b:(fun x:Atom=>tt p x) (l.getD i ci)=jp:=b;refine gA Z ⟨h1,(cI u h1).2 b,[],zW (zO ac)⟩
 .have h1:l.length<=i:=by simpa using h1
  rw[fh (any_none u h1)];refine gA Z (zD [] Z (zW (zO ac)))
theorem Nb(p:Prog)(l:List Atom):bC prog 123 [.iv (bw 2 l Atom.c),.b4 (.func 125) [] [.ptr 0 0]] [.cells [.iv (cA p)]] (pB (l.any (fun x:Atom=>tt p x))) [(0,co (.cells [.iv (cA p)]))] 1:=by
 refine au ab func123 Z (by decide) ntmps123 Z (by simp) ?_;refine gA Z (zq [0] (MP p l) ?_);refine gA Z (zD [] Z (zM ⟨.of_eq (lP (gf _ l)),rfl,ac⟩ (zO ac)))
theorem MO(p:Prog)(l:List Atom):bC prog 158 [.iv (bw 2 l Atom.c),.b4 (.func 127) [] [.ptr 0 0]] [.cells [.iv (cA p)]] (pI (n4 (fun x:Atom=>wz p x) l)) [(0,co (.cells [.iv (cA p)]))] 1:=by
 refine oh (bm func158 Z (by decide)) ⟨_,_,OH⟩ fun j=>?_;simp only[maxLen]at j;refine au ab func158 Z (by decide) ntmps158 Z (by simp) ?_;refine gA Z ?_
 refine aK 0 l.length (OL _) (fun i=>⟨[(0,.iv (bw 2 l Atom.c)),(1,.b4 (.func 127) [] [.ptr 0 0]),(7,pI l.length),(8,pI i)],[(0,co (.cells [.iv (cA p)]))],1⟩) (fun i=>(l.take i).any (fun x:Atom=>wz p x)=jp) [] (by simp)
  (zW (zO trivial)) fun i y u=>?_
 refine zJ Z Z (fun h1=>?_) fun h1=>?_
 .have h1:i<l.length:=by simpa using h1
  refine gA Z (zq [0] (d115 p (l.getD i ci)) ?_);refine zJ Z Z (fun b=>?_) fun b=>?_
  .have b:(fun x:Atom=>wz p x) (l.getD i ci)=is:=b;rw[gd u h1 b];refine gA Z (zD [] Z (zW (zO ac)))
  .have b:(fun x:Atom=>wz p x) (l.getD i ci)=jp:=b;refine gA Z ⟨h1,(cI u h1).2 b,[],zW (zO ac)⟩
 .have h1:l.length<=i:=by simpa using h1
  rw[fh (any_none u h1)];refine gA Z (zD [] Z (zW (zO ac)))
theorem Na(p:Prog)(l:List Atom):bC prog 123 [.iv (bw 2 l Atom.c),.b4 (.func 127) [] [.ptr 0 0]] [.cells [.iv (cA p)]] (pB (l.any (fun x:Atom=>wz p x))) [(0,co (.cells [.iv (cA p)]))] 1:=by
 refine au ab func123 Z (by decide) ntmps123 Z (by simp) ?_;refine gA Z (zq [0] (MO p l) ?_);refine gA Z (zD [] Z (zM ⟨.of_eq (lP (gf _ l)),rfl,ac⟩ (zO ac)))
def cv(l:Lit):List Atom:=if l.kind=1∨l.kind=2 then[l.atom] else[]
theorem nV: ∀l:List Lit,(l.flatMap cv).length<=l.length
 | []=>by simp
 |x::r=>by
  have h1:=nV r;have b:(cv x).length<=1:=by unfold cv;split<;>simp
  simp only[PB,Oy,O6];omega
def vY(r:ax)(lit:Int):List Lit:=if(aq r lit).kind=4 then(aq r lit).ar else[aq r lit]
def eA(r:ax)(lit:Int):List Atom:=if lit<0 then[r.head] else(vY r lit).flatMap cv
theorem Hh(r:ax)(lit:Int)(h:0<=lit):kD (.ck 30 ((lit+1).toNat-lit.toNat) (fun j=>(r.body.getD (lit.toNat+j) ci).c)) (lits [aq r lit]):=by
 have e:(lit+1).toNat-lit.toNat=1:=by omega
 rw[e]
 exact .ck Z (fun j b=>by
  have:j=0:=by omega
  subst this;rfl)
theorem Nf(r:ax)(lit:Int)(h1:lit<r.body.length)(hb:r.size<=1000000000000):Pure prog 124 [ag r.c,pI lit] (.iv (bw 2 (eA r lit) Atom.c)):=by
 have R:=Lit.aF r.body;have h0:Lit.aE r.body<=r.size:=Q3 _ _;refine ai ab func124 Z (by decide) ntmps124 Z (by simp) Z ?_;refine zJ Z Z (fun A=>?_) fun A=>?_
 .have A:lit<0:=by simpa using A
  refine gA Z (dq (by first|exact .inr Z|exact .inl Z) Z Z (by rw[eA,am A];rfl) (by rw[eA,am A];rfl))
 have A: ¬lit<0:=by simpa using A
 have hk:lit.toNat<r.body.length:=by omega
 have I:=Lit.bR r.body lit.toNat hk;have b0:=(aq r lit).size_eq;have c0:=Lit.aF (aq r lit).ar;have a0:(aq r lit).size<=Lit.aE r.body:=I;refine zJ Z Z (fun B=>?_) fun B=>?_
 .have B:(aq r lit).kind=4:=by simpa[aq]using B
  have y:eA r lit=(aq r lit).ar.flatMap cv:=by rw[eA,be A,vY,am B]
  refine gA Z ?_;refine kY 6 2 Z ?_;refine aK 0 ((aq r lit).ar).length (OL _) (fun i=>⟨[(6,.sl 2 0 ((((aq r lit).ar).take i).flatMap cv).length 2),(30,.iv (lits ((aq r lit).ar))),(31,pI ((aq r lit).ar).length),(32,pI i)],[(2,co (aP 2 ((((aq r lit).ar).take i).flatMap cv) Atom.c))],3⟩) (fun _=>True) [1] ac
   (zM (bi ⟨.iv (lW _),rfl,bi (bi trivial)⟩) (zS trivial)) fun i Y _=>?_
  have G:=nV (((aq r lit).ar).take i);have J:(((aq r lit).ar).take i).length<=((aq r lit).ar).length:=by rw[PF];exact RW _ _
  have D:((aq r lit).ar).length<=1000000000000:=by first|omega|(rw[Pu];omega)
  refine zJ Z Z (fun b=>?_) fun b=>?_
  .have b:i<((aq r lit).ar).length:=zN b;have hs:=bK (f:=cv) b;have j:((((aq r lit).ar).getD i ci).kind=1∨(((aq r lit).ar).getD i ci).kind=2)->(((aq r lit).ar).take (i+1)).flatMap cv=(((aq r lit).ar).take i).flatMap cv++ [(((aq r lit).ar).getD i ci).atom]:=fun h=>by rw[hs,cv,am h]
   have C: ¬((((aq r lit).ar).getD i ci).kind=1∨(((aq r lit).ar).getD i ci).kind=2)->(((aq r lit).ar).take (i+1)).flatMap cv=(((aq r lit).ar).take i).flatMap cv:=fun h=>by rw[hs,cv,be h,Pt]
   refine zJ Z Z (fun u=>?_) fun u=>?_
   .have u: ¬(((aq r lit).ar).getD i ci).kind=1:=by simpa using u
    refine zJ Z Z (fun x=>?_) fun x=>?_
    .have x:(((aq r lit).ar).getD i ci).kind=2:=by simpa using x
     have hs:=j (.inr x);refine gA Z ⟨b,ac,[5],zM ⟨.row (by rw[hs,Oy];rfl),rfl,bi (bi (bi ac))⟩ (hR Z (by rw[hs,OM];rfl) Z ac)⟩
    .have x: ¬(((aq r lit).ar).getD i ci).kind=2:=by simpa using x
     have hs:=C (fun h=>h.elim u x);refine gA Z ⟨b,ac,[2],zM ⟨.row (by rw[hs]),rfl,bi (bi (bi ac))⟩ (hR Z (by rw[hs]) Z ac)⟩
   .have u:(((aq r lit).ar).getD i ci).kind=1:=by simpa using u
    have hs:=j (.inl u);refine gA Z ⟨b,ac,[5],zM ⟨.row (by rw[hs,Oy];rfl),rfl,bi (bi (bi ac))⟩ (hR Z (by rw[hs,OM];rfl) Z ac)⟩
  .have b:((aq r lit).ar).length<=i:=zG b;rw[OP b] at*
   refine gA Z (dq (by first|exact .inr Z|exact .inl Z) Z Z (by rw[y]) (by rw[y]))
 .have B: ¬(aq r lit).kind=4:=by simpa[aq]using B
  have y:eA r lit=[aq r lit].flatMap cv:=by rw[eA,be A,vY,be B]
  refine gA Z ?_;refine kY 6 2 Z ?_;refine aK 0 ([aq r lit]).length (OL _) (fun i=>⟨[(6,.sl 2 0 ((([aq r lit]).take i).flatMap cv).length 2),(30,.iv (lits ([aq r lit]))),(31,pI ([aq r lit]).length),(32,pI i)],[(2,co (aP 2 ((([aq r lit]).take i).flatMap cv) Atom.c))],3⟩) (fun _=>True) [1] ac
   (zM (bi ⟨.iv (Hh r lit (by omega)),rfl,.of_eq (Ct (by simp only[Pu];omega)),rfl,bi trivial⟩) (zS trivial)) fun i Y _=>?_
  have G:=nV (([aq r lit]).take i);have J:(([aq r lit]).take i).length<=([aq r lit]).length:=by rw[PF];exact RW _ _
  have D:([aq r lit]).length<=1000000000000:=by first|omega|(rw[Pu];omega)
  refine zJ Z Z (fun b=>?_) fun b=>?_
  .have b:i<([aq r lit]).length:=zN b;have hs:=bK (f:=cv) b;have j:((([aq r lit]).getD i ci).kind=1∨(([aq r lit]).getD i ci).kind=2)->(([aq r lit]).take (i+1)).flatMap cv=(([aq r lit]).take i).flatMap cv++ [(([aq r lit]).getD i ci).atom]:=fun h=>by rw[hs,cv,am h]
   have C: ¬((([aq r lit]).getD i ci).kind=1∨(([aq r lit]).getD i ci).kind=2)->(([aq r lit]).take (i+1)).flatMap cv=(([aq r lit]).take i).flatMap cv:=fun h=>by rw[hs,cv,be h,Pt]
   refine zJ Z Z (fun u=>?_) fun u=>?_
   .have u: ¬(([aq r lit]).getD i ci).kind=1:=by simpa using u
    refine zJ Z Z (fun x=>?_) fun x=>?_
    .have x:(([aq r lit]).getD i ci).kind=2:=by simpa using x
     have hs:=j (.inr x);refine gA Z ⟨b,ac,[5],zM ⟨.row (by rw[hs,Oy];rfl),rfl,bi (bi (bi ac))⟩ (hR Z (by rw[hs,OM];rfl) Z ac)⟩
    .have x: ¬(([aq r lit]).getD i ci).kind=2:=by simpa using x
     have hs:=C (fun h=>h.elim u x);refine gA Z ⟨b,ac,[2],zM ⟨.row (by rw[hs]),rfl,bi (bi (bi ac))⟩ (hR Z (by rw[hs]) Z ac)⟩
   .have u:(([aq r lit]).getD i ci).kind=1:=by simpa using u
    have hs:=j (.inl u);refine gA Z ⟨b,ac,[5],zM ⟨.row (by rw[hs,Oy];rfl),rfl,bi (bi (bi ac))⟩ (hR Z (by rw[hs,OM];rfl) Z ac)⟩
  .have b:([aq r lit]).length<=i:=zG b;rw[OP b] at*
   refine gA Z (dq (by first|exact .inr Z|exact .inl Z) Z Z (by rw[y]) (by rw[y]))
theorem d110(p:Prog)(r:ax)(lit:Int)(h1:lit<r.body.length)(hb:r.size<=1000000000000):bC prog 122 [pI lit,.ptr 0 0,.ptr 1 0] [ay r.c,.cells [.iv (cA p)]] (pB ((eA r lit).any fun x=>tt p x)) [(0,co (ay r.c)),(1,co (.cells [.iv (cA p)]))] 2:=by
 refine au ab func122 Z (by decide) ntmps122 Z (by simp) ?_;refine gA Z (zp (Nf r lit h1 hb) ?_);refine gA Z (zq [1] (Nb p (eA r lit)) ?_);refine gA Z (zD [] Z (zW (zK (zO ac))))
theorem d114(p:Prog)(r:ax)(lit:Int)(h1:lit<r.body.length)(hb:r.size<=1000000000000):bC prog 126 [pI lit,.ptr 0 0,.ptr 1 0] [ay r.c,.cells [.iv (cA p)]] (pB ((eA r lit).any fun x=>wz p x)) [(0,co (ay r.c)),(1,co (.cells [.iv (cA p)]))] 2:=by
 refine au ab func126 Z (by decide) ntmps126 Z (by simp) ?_;refine gA Z (zp (Nf r lit h1 hb) ?_);refine gA Z (zq [1] (Na p (eA r lit)) ?_);refine gA Z (zD [] Z (zW (zK (zO ac))))
def kH(r:ax)(lit:Int):Bool:=if lit<0 then r.head.aj.any fun x=>kw (x.kind=3) else if(aq r lit).kind=4 then((aq r lit).ar.any fun x=>kw (x.kind=4))||du (a7 (aq r lit).agg) (aq r lit).bx else jp
theorem Oh(r:ax)(lit:Int)(h1:lit<r.body.length)(hb:r.size<=100000000):Pure prog 129 [ag r.c,pI lit] (pB (kH r lit)):=by
 have G:=Lit.aF r.body;have R:Lit.aE r.body<=r.size:=Q3 _ _;refine ai ab func129 Z (by decide) ntmps129 Z (by simp) Z ?_;refine zJ Z Z (fun b=>?_) fun b=>?_
 .have b:lit<0:=by simpa using b
  refine gA Z (zq [] (d157 r.head.aj) ?_);refine gA Z (zL (.of_eq ?_));rw[kH,am b];rfl
 have b: ¬lit<0:=by simpa using b
 have hk:lit.toNat<r.body.length:=by omega
 have B:=Lit.bR r.body lit.toNat hk;have C:=(aq r lit).jq;have I:(aq r lit).size<=Lit.aE r.body:=B;have D:=jr (aq r lit).agg;refine zJ Z Z (fun j=>?_) fun j=>?_
 .have j: ¬(aq r lit).kind=4:=by simpa[aq]using j
  refine gA Z (zL (.of_eq ?_));rw[kH,be b,be j]
 have j:(aq r lit).kind=4:=by simpa[aq]using j
 refine gA Z (bJ [] (bC.le (aa:=[.iv (tc (aq r lit).ar),.b4 (.func 161) [] []]) (d159 (aq r lit).ar) ⟨.iv (lW _),.refl _,ac⟩) Z Z Z Z Z Z Z Z ?_);refine zE Z Z (fun u=>?_) fun u=>?_
 .have u:((aq r lit).ar.any fun x=>kw (x.kind=4))=jp:=u;have A:=bt (a7 (aq r lit).agg) (aq r lit).bx;have y:=bZ (occ:=a7 (aq r lit).agg) (s:=(aq r lit).bx);refine gA Z (zd [] (d127 (aq r lit).agg (by omega)) ?_);refine gA Z (zL (.of_eq ?_));refine(lP ?_:pB (kw (dt .str (aD (a7 (aq r lit).agg)) (aq r lit).bx 0>0))=_);rw[kH,be b,am j,u,y,A,Qg];by_cases J:oj (a7 (aq r lit).agg) (aq r lit).bx=0<;>simp[J];omega
 .have u:((aq r lit).ar.any fun x=>kw (x.kind=4))=is:=u;refine gA Z (zL (.of_eq ?_));rw[kH,be b,am j,u];rfl
theorem d116(r:ax)(lit:Int)(h1:lit<r.body.length)(hb:r.size<=100000000):bC prog 128 [pI lit,.ptr 0 0] [ay r.c] (pB (kH r lit)) [(0,co (ay r.c))] 1:=by
 refine au ab func128 Z (by decide) ntmps128 Z (by simp) ?_;refine gA Z (zp (Oh r lit h1 hb) ?_);refine gA Z (zD [] Z (zW (zK ac)))
def pH(r:ax)(lit:Int):Pos:=if lit<0 then r.at_ else(aq r lit).at
theorem EZ(r:ax)(lit:Int)(h1:lit<r.body.length):Pure prog 133 [ag r.c,pI lit] (ag [iI (pH r lit).line,iI (pH r lit).Fg]):=by
 refine ai ab func133 Z (by decide) ntmps133 Z (by simp) Z ?_;refine zJ Z Z (fun b=>?_) fun b=>?_
 .have b:lit<0:=by simpa using b
  refine gA Z (zL (.of_eq ?_));rw[pH,am b];rfl
 have b: ¬lit<0:=by simpa using b
 refine gA Z (zL (.of_eq ?_));rw[pH,be b];rfl
def kQ(r:ax)(l:Lit):Nat:=if l.kind=4 then(kj r l.agg).length else 0
def C7(r:ax):Nat:=r.body.foldl (fun n l=>n+kQ r l) (aD (aC r)).length
theorem uM(r:ax)(l:Lit):kQ r l<=l.size:=by
 unfold kQ;split
 .have h1:(kj r l.agg).length<=(aD (a7 l.agg)).length:=PJ _ _;have b:=j7 (a7 l.agg);have j:=jr l.agg;have u:=l.jq;omega
 .omega
theorem w5(r:ax): ∀(l:List Lit) (n:Nat),l.foldl (fun n l=>n+kQ r l) n<=n+Lit.aE l
 | [],n=>by simp
 |x::t,n=>by
  have h1:=w5 r t (n+kQ r x);have b:=uM r x;simp only[Pl,Lit.aE];omega
theorem Oi(r:ax)(hb:r.size<=100000000):Pure prog 121 [.iv (cg r)] (pI (C7 r)):=by
 have y:=Lit.aF r.body;have G:Lit.aE r.body<=r.size:=Q3 _ _;have J:=vN r;have A:=j7 (aC r);refine ai ab func121 Z (by decide) ntmps121 Z (by simp) Z ?_;refine gA Z ?_;refine aK 0 r.body.length (OL _) (fun i=>⟨[(0,.iv (cg r)),(3,pI (((r.body.take i).foldl (fun n l=>n+kQ r l) (aD (aC r)).length:Nat))),(15,.iv (lits r.body)),(16,pI r.body.length),(17,pI i)],[],0⟩) (fun _=>True) [] ac
  (zW trivial) fun i I _=>?_
 have B:=w5 r (r.body.take i) (aD (aC r)).length;have C:=Lit.rR r.body i;refine zJ Z Z (fun h1=>?_) fun h1=>?_
 .have h1:i<r.body.length:=by simpa using h1
  have hs:=gF (g:=fun n l=>n+kQ r l) (b:=(aD (aC r)).length) h1;have D:=Lit.bR r.body i h1;have x:=(r.body.getD i ci).jq;have u:=uM r (r.body.getD i ci);refine zJ Z Z (fun j=>?_) fun j=>?_
  .have j:(r.body.getD i ci).kind=4:=by simpa using j
   rw[kQ,am j]at hs u;refine gA Z (zq [] (d79 r (r.body.getD i ci).agg (by omega)) ?_);refine gA Z ⟨h1,ac,[],zM (bi ⟨.of_eq (Ct (by rw[hs];rfl)),rfl,bi (bi (bi ac))⟩) ac⟩
  .have j: ¬(r.body.getD i ci).kind=4:=by simpa using j
   rw[kQ,be j]at hs;refine gA Z ⟨h1,ac,[],zM (bi ⟨.of_eq (Ct (by rw[hs];rfl)),rfl,bi (bi (bi ac))⟩) ac⟩
 .have h1:r.body.length<=i:=by simpa using h1
  refine gA Z (zL (.of_eq ?_));rw[OP h1];rfl
section
section
variable {may:List ak->Expr->Bool} {more:List ak->fC->Bool} {body:List Lit}
theorem qJ: ∀(n:Nat) (occ:List ak),cm (bz body) occ<n->bN (may (cT may more body n occ)) (more (cT may more body n occ)) (cT may more body n occ) body=io
 |0,occ,h=>by omega
 |n+1,occ,h=>by
  cases hv:bN (may occ) (more occ) occ body with
  |none=>rw[dX hv];exact hv
  |some v=>
   rw[dW hv];refine qJ n _ ?_;obtain⟨g1,g2⟩:=jh hv;have j:=oM g1 g2;have b:cm (bz body) (occ++ [v])=cm (bz body) (fO occ v):=by
    unfold cm;congr 2
    funext x
    congr 1;rw[PL,bu,bu,db,ON,OI]
   omega
theorem qM(occ:List ak):bN (may (bQ may more body occ)) (more (bQ may more body occ)) (bQ may more body occ) body=io:=by
 refine qJ _ _ ?_;have h1:=oN (bz body) (occ++body.flatMap bc);have b:=iP body;omega
theorem mj: ∀(n:Nat) (occ:List ak),∀x∈occ,x∈cT may more body n occ
 |0,occ,x,h=>h
 |n+1,occ,x,h=>by
  cases hv:bN (may occ) (more occ) occ body with
  |none=>rw[dX hv];exact h
  |some v=>rw[dW hv];exact mj n _ x (Pb _ h)
theorem l9{m1:Expr->Bool}{m2:fC->Bool}{occ:List ak}: ∀{l:List Lit},bN m1 m2 occ l=io-> ∀x∈l,kL m1 m2 occ x=io
 | [],_,x,hx=>by cases hx
 |y::r,h,x,hx=>by
  simp only[bN]at h;split at h
  .cases h
  .rename_i h1;rcases OG.1 hx with rfl|hx
   .exact h1
   .exact l9 h x hx
theorem qE{m1:Expr->Bool}{m2:fC->Bool}{occ:List ak}{v:ak}: ∀{l:List Lit},bN m1 m2 occ l=co v-> ∃x∈l,kL m1 m2 occ x=co v
 | [],h=>by cases h
 |y::r,h=>by
  simp only[bN]at h;split at h
  .rename_i w j;exact⟨y,OH,j.trans h⟩
  .obtain⟨x,u,b⟩:=qE h;exact⟨x,OF _ u,b⟩
variable (hmay: ∀a b:List ak,(∀x∈a,x∈b)-> ∀e,may a e=is->may b e=is) (hmore: ∀a b:List ak,(∀x∈a,x∈b)-> ∀e,more a e=is->more b e=is)
include hmay hmore
theorem Ak{occ C:List ak}(b: ∀x∈occ,x∈C){l:Lit}{v:ak}(h:kL (may occ) (more occ) occ l=co v)(hC:kL (may C) (more C) C l=io):v∈C:=by
 have hl: ∀y,y∉C->du C y=jp:=fun y I=>ew.2 I;have hnew:=(su h).2;refine PN fun D=>?_;unfold kL at h hC;by_cases j:(fq (may occ) occ l).2=is
 .rw[am j]at h;simp only[Ou]at h;have B:(fq (may C) C l).2=is:=by
   unfold fq at j h ⊢;split at j
   .cases j
   .rename_i G;rw[be G]at h ⊢;split at j
    .rename_i h1;rw[am h1]at h;have A:l.left.var=v:=h;rw[am ⟨h1.1,by rw[A];exact hl v D,hmay occ C b _ h1.2.2⟩]
    .rename_i h1;rw[be h1]at h;split at j
     .rename_i u;rw[am u]at h;have A:l.right.var=v:=h;split
      .rfl
      .rw[am ⟨u.1,by rw[A];exact hl v D,hmay occ C b _ u.2.2⟩]
     .cases j
  rw[am B]at hC;cases hC
 .rw[be j]at h;split at h
  .rename_i u;simp only[Ou]at h;split at hC
   .cases hC
   .rw[am ⟨u.1,by rw[h];exact hl v D,hmore occ C b _ u.2.2⟩]at hC;cases hC
  .cases h
theorem mh{C:List ak}(hC:bN (may C) (more C) C body=io): ∀(n:Nat) (occ:List ak),(∀x∈occ,x∈C)-> ∀x∈cT may more body n occ,x∈C
 |0,occ,h,x,hx=>h x hx
 |n+1,occ,h,x,hx=>by
  cases hv:bN (may occ) (more occ) occ body with
  |none=>rw[dX hv]at hx;exact h x hx
  |some v=>
   rw[dW hv]at hx;refine mh hC n _ (fun y hy=>?_) x hx;rcases ON.1 hy with hy|hy
   .exact h y hy
   .rw[OI]at hy;subst hy;obtain⟨l,hl,b⟩:=qE hv;exact Ak hmay hmore h b (l9 hC l hl)
theorem qK{j b:List ak}(h: ∀x∈j,x∈b): ∀x∈bQ may more body j,x∈bQ may more body b:=by
 refine mh hmay hmore (qM b) _ _ fun x hx=>?_;refine mj _ _ x ?_;rcases ON.1 hx with hx|hx
 .exact Pb _ (h x hx)
 .exact P4 _ hx
end
theorem pc(a b:List ak)(h: ∀x∈a,x∈b)(e:Expr)(hc:aV a e=is):aV b e=is:=by
 unfold aV at*
 rw[Pc] at*
 exact fun x j=>bu.2 (h x (bu.1 (hc x j)))
theorem xu(a b:List ak)(h: ∀x∈a,x∈b)(e:Expr)(hc:b6 a e=is):b6 b e=is:=by
 unfold b6 at*
 cases hk:kw (e.kind=2) with
 |true=>simp
 |false=>
  rw[hk,Qg,Pk]at hc;rw[Qg,Pk];exact⟨hc.1,bu.2 (h _ (bu.1 hc.2))⟩
def y0(r:ax)(a:fC):List ak:=((aD (a7 a)).map (·.1)).filter fun x=>du (aC r) x
def yK(r:ax)(a:fC):List ak:=bQ (fun b=>aV b) (fun _=>fun _=>jp) a.body (y0 r a)
theorem G6{r:ax}{a:fC}{occ:List ak}(h:D9 r a occ)(s:ak):du (bQ (fun occ=>aV occ) (fun _=>fun _=>jp) a.body occ) s=du (yK r a) s:=by
 have j: ∀x,x∈y0 r a↔x∈occ:=fun x=>by
  unfold y0;rw[O5,(dL (a7 a)).2 x,bu,h.2 x]
 rw[PL,bu,bu];exact⟨qK (more:=fun _=>fun _=>jp) pc (fun _ _ _ _ h=>h) (fun x b=>(j x).2 b) s,qK (more:=fun _=>fun _=>jp) pc (fun _ _ _ _ h=>h) (fun x b=>(j x).1 b) s⟩
def sx(r:ax)(m:NM):Bool:=m.any fun x=>!du (bI r) x.1
theorem lS{r:ax}{m:NM}(h: ∀j,j<m.length-> ∀x,m[j]? =co x->du (bI r) x.1=is):sx r m=jp:=by
 refine Ps.2 fun x u=>?_;obtain⟨j,b⟩:=Pj u;rw[h j (Ov.1 b).1 x b];simp
theorem nY{r:ax}{m:NM}{j:Nat}{x:(KC.str).K×Int}(h:m[j]? =co x)(b:du (bI r) x.1=jp):sx r m=is:=
 PI.2 ⟨x,O9 h,by rw[b];rfl⟩
def kn(r:ax)(a:fC):NM:=(aD (a7 a)).filter fun x=>!du ((kj r a).map (·.1)) x.1
def jP(r:ax)(lit:Int):Bool:=
 if lit<0 then sx r (aD (cB r.head))
 else if(aq r lit).kind=4 then(kj r (aq r lit).agg).any (fun x=>!du (yK r (aq r lit).agg) x.1)||sx r (bump (kn r (aq r lit).agg) (aq r lit).bx)
 else sx r (aD (cE (aq r lit)))
theorem NQ(a:Atom)(hb:a.aj.length<=100000000000):bC prog 135 [.mp 0,ag a.c] [.fg] (.bf []) [(0,co (cC (aD (cB a))))] 1:=
 bC.Jk (d88 [] a (by simp;omega)) ⟨rh,ac⟩
theorem NP(l:Lit)(hb:l.size<=100000000000):bC prog 156 [.mp 0,ag l.c] [.fg] (.bf []) [(0,co (cC (aD (cE l))))] 1:=
 bC.Jk (d89 l [] (by simp;omega)) ⟨rh,ac⟩
theorem uN(f:ak->Bool)(s:ak): ∀(m:NM),dt .str (m.filter fun x=>f x.1) s 0=if f s=is then dt .str m s 0 else 0
 | []=>by simp[dt]
 |(a,b)::r=>by
  have j:=uN f s r;cases hf:f a with
  |true=>
   rw[List.filter_cons_of_pos (by exact hf)];simp only[dt];split
   .rename_i h;subst h;rw[am hf]
   .exact j
  |false=>
   rw[List.filter_cons_of_neg (by simp[hf]),j];simp only[dt];split
   .rename_i h;split
    .rename_i u;subst u;rw[hf]at h;cases h
    .rfl
   .rfl
theorem Hf(r:ax)(a:fC)(s:ak):0<=dt .str (kn r a) s 0∧dt .str (kn r a) s 0<=oj (a7 a) s:=by
 have h1:=bt (a7 a) s;have b:=uN (fun x=>!du ((kj r a).map (·.1)) x) s (aD (a7 a));unfold kn;rw[b,h1];split<;>omega
set_option maxHeartbeats 2000000 in
theorem Of(r:ax)(lit:Int)(hl:lit<r.body.length)(hb:r.size<=10000000):Pure prog 132 [.iv (cg r),pI lit] (pB (jP r lit)):=by
 have s0:=Lit.aF r.body;have h0:Lit.aE r.body<=r.size:=Q3 _ _;have p0:r.head.aj.length<=r.size:=Rc _ _;have x0:=yS r;refine ai ab func132 Z (by decide) ntmps132 Z (by simp) Z ?_;refine gA Z (zq [] (d73 r (by omega)) ?_);refine zJ Z Z (fun D=>?_) fun D=>?_
 .have D:lit<0:=by simpa using D
  refine gA Z (zq [1] (NQ r.head (by omega)) ?_);refine gA Z ?_;have e0:(aD (cB r.head)).length<=1000000000000:=by have:=j7 (cB r.head);have:=ij r.head;omega
  refine eU (aD (cB r.head)) (fun vs=>⟨[(5,.mp 0),(76,.ptr 2 0)],[(0,co (cC (aD (bI r)))),(2,co (.bF .str wH (aD (cB r.head)) vs io))],3⟩) (fun vs=> ∀j∈vs,∀x,(aD (cB r.head))[j]? =co x->du (bI r) x.1=is) [] (by simp)
   (zW (zC (hI Z Z (.inl Z) Z trivial))) fun vs G=>?_
  refine fk Z ac (dm Z Z Z Z Z (by decide) (fun u=>?_) fun j x b B=>?_)
  .refine gA Z (zL (.of_eq ?_));refine(lP ?_:pB jp=_);rw[jP,am D,lS fun j B x b=>G j (u j B) x b]
  .have Y:=bt (bI r) x.1;have A:=bZ (occ:=bI r) (s:=x.1);refine zJ Z Z (fun g1=>?_) fun g1=>?_
   .have g1:du (bI r) x.1=jp:=by
     have:=zT g1;rw[A];simp;omega
    refine gA Z (zL (.of_eq ?_));refine(lP ?_:pB is=_);rw[jP,am D,nY b g1]
   .have g1:du (bI r) x.1=is:=by
     have:=zF g1;rw[A];simp;omega
    refine gA Z ?_
    exact⟨j,x,b,B,fun i hi y C=>by
     rcases OG.1 hi with rfl|hi
     .rw[b]at C;cases C;exact g1
     .exact G i hi y C,[],zW (zC (hI Z Z (.inr Z) Z ac))⟩
 have D: ¬lit<0:=by simpa using D
 have hk:lit.toNat<r.body.length:=by omega
 have o0:=Lit.bR r.body lit.toNat hk;have q0:=(aq r lit).jq;have v0:(aq r lit).size<=Lit.aE r.body:=o0;have r0:=jr (aq r lit).agg;have n0:=kR (aq r lit);refine zE Z Z (fun I=>?_) fun I=>?_
 .have I: ¬(aq r lit).kind=4:=by simpa[aq]using I
  refine gA Z (zq [1] (NP (aq r lit) (by omega)) ?_);refine gA Z ?_;have e0:(aD (cE (aq r lit))).length<=1000000000000:=by have:=j7 (cE (aq r lit));omega
  refine eU (aD (cE (aq r lit))) (fun vs=>⟨[(5,.mp 0),(76,.ptr 3 0)],[(0,co (cC (aD (bI r)))),(3,co (.bF .str wH (aD (cE (aq r lit))) vs io))],4⟩) (fun vs=> ∀j∈vs,∀x,(aD (cE (aq r lit)))[j]? =co x->du (bI r) x.1=is) [] (by simp)
   (zW (zC (hI Z Z (.inl Z) Z trivial))) fun vs G=>?_
  refine fk Z ac (dm Z Z Z Z Z (by decide) (fun u=>?_) fun j x b B=>?_)
  .refine gA Z (zL (.of_eq ?_));refine(lP ?_:pB jp=_);rw[jP,be D,be I,lS fun j B x b=>G j (u j B) x b]
  .have Y:=bt (bI r) x.1;have A:=bZ (occ:=bI r) (s:=x.1);refine zJ Z Z (fun g1=>?_) fun g1=>?_
   .have g1:du (bI r) x.1=jp:=by
     have:=zT g1;rw[A];simp;omega
    refine gA Z (zL (.of_eq ?_));refine(lP ?_:pB is=_);rw[jP,be D,be I,nY b g1]
   .have g1:du (bI r) x.1=is:=by
     have:=zF g1;rw[A];simp;omega
    refine gA Z ?_
    exact⟨j,x,b,B,fun i hi y C=>by
     rcases OG.1 hi with rfl|hi
     .rw[b]at C;cases C;exact g1
     .exact G i hi y C,[],zW (zC (hI Z Z (.inr Z) Z ac))⟩
 have I:(aq r lit).kind=4:=by simpa[aq]using I
 refine gA Z (oW [] (d161 r (aq r lit).agg (by omega)) Z Z Z Z Z Z Z fun q h' n' hR=>?_);obtain⟨ok,⟨occ,i0,hok⟩,rfl,rfl,rfl⟩:=hR;have a0: ∀s,du ok s=du (yK r (aq r lit).agg) s:=fun s=>by rw[hok];exact G6 i0 s
 refine⟨_,rfl,?_⟩;have z0:=j7 (a7 (aq r lit).agg);have w0:(kj r (aq r lit).agg).length<=(aD (a7 (aq r lit).agg)).length:=PJ _ _;have t0:(kn r (aq r lit).agg).length<=(aD (a7 (aq r lit).agg)).length:=PJ _ _;have j0:=(dL (a7 (aq r lit).agg)).1;refine gA Z (zq [] (d79 r (aq r lit).agg (by omega)) ?_);refine gA Z ?_;refine eU (kj r (aq r lit).agg) (fun vs=>⟨[(0,.iv (cg r)),(5,.mp 0),(7,.ptr 2 0),(8,.mp 3),(43,.ptr 5 0)],[(0,co (cC (aD (bI r)))),(2,co (ay (aq r lit).c)),(3,co (cC (aD ok))),(5,co (.bF .str wH (kj r (aq r lit).agg) vs io))],6⟩) (fun vs=> ∀j∈vs,∀x,(kj r (aq r lit).agg)[j]? =co x->du (yK r (aq r lit).agg) x.1=is) [] (by simp)
  (zW (zC (zK (zC (hI Z Z (.inl Z) Z trivial))))) fun vs G=>?_
 refine fk Z ac (dm Z Z Z Z Z (by decide) (fun u=>?_) fun j x b B=>?_);rotate_left
 .have Y:=bt ok x.1;have A:=bZ (occ:=ok) (s:=x.1);have J:=a0 x.1;refine zJ Z Z (fun g1=>?_) fun g1=>?_
  .have g1:du (yK r (aq r lit).agg) x.1=jp:=by
    have:=zT g1;rw[<-J,A];simp;omega
   refine gA Z (zL (.of_eq ?_));refine(lP ?_:pB is=_);rw[jP,be D,am I,PI.2 ⟨x,O9 b,by rw[g1];rfl⟩,Rn]
  .have g1:du (yK r (aq r lit).agg) x.1=is:=by
    have:=zF g1;rw[<-J,A];simp;omega
   refine gA Z ?_
   exact⟨j,x,b,B,fun i hi y C=>by
    rcases OG.1 hi with rfl|hi
    .rw[b]at C;cases C;exact g1
    .exact G i hi y C,[],zW (zC (zK (zC (hI Z Z (.inr Z) Z ac))))⟩
 have hA:(kj r (aq r lit).agg).any (fun x=>!du (yK r (aq r lit).agg) x.1)=jp:=Ps.2 fun x b=>by
  obtain⟨j,B⟩:=Pj b;rw[G j (u j (Ov.1 B).1) x B];simp
 refine gA Z (zq [] (d127 (aq r lit).agg (by omega)) ?_);refine gA Z (zq [] (d79 r (aq r lit).agg (by omega)) ?_);refine gA Z ?_;refine eU (kj r (aq r lit).agg) (fun vs=>⟨[(5,.mp 0),(6,.mp 6),(7,.ptr 2 0),(59,.ptr 8 0)],[(0,co (cC (aD (bI r)))),(2,co (ay (aq r lit).c)),(6,co (cC ((fK (kj r (aq r lit).agg) vs).foldl (fun m k=>jv .str m k) (aD (a7 (aq r lit).agg))))),(8,co (.bF .str wH (kj r (aq r lit).agg) vs io))],9⟩) (fun vs=>vs.Nodup∧ ∀j∈vs,j<(kj r (aq r lit).agg).length) [] ⟨Pe,by simp⟩
  (zW (zC (zK (zC (hI Z Z (.inl Z) Z trivial))))) fun b0 f0=>?_
 obtain⟨c0,d0⟩:=f0;refine fk Z ac (dm Z Z Z Z Z (by decide) (fun R=>?_) fun j x b B=>?_);rotate_left
 .have hk:=jE (kj r (aq r lit).agg) b0 j x b;refine gA Z ⟨j,x,b,B,⟨O7.2 ⟨B,c0⟩,fun i hi=>(OG.1 hi).elim (fun h=>h▸(Ov.1 b).1) (d0 i)⟩,[],zW (zC (zK (hM Z (by rw[hk,List.foldl_append];rfl) Z (hI Z Z (.inr Z) Z ac))))⟩
 have k0:(fK (kj r (aq r lit).agg) b0).foldl (fun m k=>jv .str m k) (aD (a7 (aq r lit).agg))=kn r (aq r lit).agg:=by
  rw[mf _ j0];unfold kn;congr 1
  funext x
  congr 1;rw[PL,bu,bu,(iX _ b0 c0 d0 R).mem_iff]
 rw[k0];have m0:=Hf r (aq r lit).agg (aq r lit).bx;have g0:=fz (a7 (aq r lit).agg) (aq r lit).bx;refine gA Z ?_;have e0:(bump (kn r (aq r lit).agg) (aq r lit).bx).length<=1000000000000:=by have:=r7 (kn r (aq r lit).agg) (aq r lit).bx (dt .str (kn r (aq r lit).agg) (aq r lit).bx 0+1);unfold bump;omega
 refine eU (bump (kn r (aq r lit).agg) (aq r lit).bx) (fun vs=>⟨[(5,.mp 0),(76,.ptr 9 0)],[(0,co (cC (aD (bI r)))),(9,co (.bF .str wH (bump (kn r (aq r lit).agg) (aq r lit).bx) vs io))],10⟩) (fun vs=> ∀j∈vs,∀x,(bump (kn r (aq r lit).agg) (aq r lit).bx)[j]? =co x->du (bI r) x.1=is) [] (by simp)
  (zW (zC (hI Z Z (.inl Z) Z trivial))) fun vs G=>?_
 refine fk Z ac (dm Z Z Z Z Z (by decide) (fun u=>?_) fun j x b B=>?_)
 .refine gA Z (zL (.of_eq ?_));refine(lP ?_:pB jp=_);rw[jP,be D,am I,hA,Qg,lS fun j B x b=>G j (u j B) x b]
 .have Y:=bt (bI r) x.1;have A:=bZ (occ:=bI r) (s:=x.1);refine zJ Z Z (fun g1=>?_) fun g1=>?_
  .have g1:du (bI r) x.1=jp:=by
    have:=zT g1;rw[A];simp;omega
   refine gA Z (zL (.of_eq ?_));refine(lP ?_:pB is=_);rw[jP,be D,am I,hA,Qg,nY b g1]
  .have g1:du (bI r) x.1=is:=by
    have:=zF g1;rw[A];simp;omega
   refine gA Z ?_
   exact⟨j,x,b,B,fun i hi y C=>by
    rcases OG.1 hi with rfl|hi
    .rw[b]at C;cases C;exact g1
    .exact G i hi y C,[],zW (zC (hI Z Z (.inr Z) Z ac))⟩
end
end Go.Proofs.YtllkaddcplhklaaGreatDoor
namespace Go.Proofs.YtllkaddcplhklaaGreatDoor
open Go Go.Al
def He(a b:ak):Prop:=lI a<lI b
theorem Jx(a b:ak):Op.bytesLess a.toList b.toList=is↔He a b:=by
 rw[ByteArray.toList_eq,ByteArray.toList_eq,bytesLess_eq,decide_eq_true_eq];rfl
theorem vq{a b:ak}(h:lI a=lI b):a=b:=by rw[<-rf a,<-rf b,h]
theorem uL{a b c:ak}(h:He a b)(k:He b c):He a c:=List.lt_trans h k
theorem kO(a:ak): ¬He a a:=List.lt_irrefl _
theorem Hd{a b:ak}(h: ¬a=b)(k: ¬He a b):He b a:=by
 refine PN fun j=>h (vq (Rw ?_ ?_))
 .exact R0.1 j
 .exact R0.1 k
abbrev vl(l:List ak):Prop:=l.Pairwise He
theorem sH: ∀{l:List ak} (_:vl l) (s:ak),vl (ins l s)
 | [],_,s=>List.pairwise_singleton _ _
 |x::r,h,s=>by
  obtain⟨h1,u⟩:=Pd.1 h;simp only[ins];split
  .exact h
  .rename_i j;split
   .rename_i b;have b:=(Jx x s).1 b;refine Pd.2 ⟨fun y hy=>?_,sH u s⟩;rcases kN.1 hy with hy|rfl
    .exact h1 y hy
    .exact b
   .rename_i b;have b:He s x:=Hd j fun h=>b ((Jx x s).2 h);refine Pd.2 ⟨fun y hy=>?_,h⟩;rcases OG.1 hy with rfl|hy
    .exact b
    .exact uL b (h1 y hy)
theorem ov{l:List ak}(h:vl l)(s:ak):vl (fO l s):=by rw[uc];exact sH h s
theorem lF: ∀{m l:List ak} (_:vl l),vl (mB l m)
 | [],_,h=>h
 |x::r,_,h=>lF (m:=r) (ov h x)
theorem nJ: ∀{a b:List ak},vl a->vl b->(∀x,x∈a↔x∈b)->a=b
 | [],[],_,_,_=>rfl
 | [],y::s,_,_,h=>by have:=(h y).2 OH;cases this
 |x::r,[],_,_,h=>by have:=(h x).1 OH;cases this
 |x::r,y::s,ha,hb,h=>by
  obtain⟨A,a2⟩:=Pd.1 ha;obtain⟨B,C⟩:=Pd.1 hb;have u:x=y:=by
   rcases OG.1 ((h x).1 OH) with h1|h1
   .exact h1
   .rcases OG.1 ((h y).2 OH) with h2|h2
    .exact h2.symm
    .exact absurd (uL (B x h1) (A y h2)) (kO _)
  subst u;rw[nJ a2 C fun z=>?_];constructor
  .intro j;rcases OG.1 ((h z).1 (OF _ j)) with rfl|h3
   .exact absurd (A z j) (kO _)
   .exact h3
  .intro j;rcases OG.1 ((h z).2 (OF _ j)) with rfl|h3
   .exact absurd (B z j) (kO _)
   .exact h3
theorem iD{l:List ak}(h:l.Nodup):vl (de l):=by
 have h1:=gy (l.map lI);rw[<-pr]at h1;have C:(de l).Nodup:=by
  have D:((de l).map lI).Perm (l.map lI):=by rw[pr];exact eH _
  have u:(l.map lI).Nodup:=List.Pairwise.map lI (fun a b j e=>j (vq e)) h;have:=D.nodup_iff.2 u;exact List.Pairwise.of_map lI (fun a b j e=>j (by rw[e])) this
 have x:(de l).Pairwise fun a b=>lI a<=lI b:=(QA.1 h1).imp fun{a b} j=>zT j;refine(List.Pairwise.and x C).imp fun{a b} j=>?_;obtain⟨y,A⟩:=j;exact PN fun B=>A (vq (Rw y (R0.1 B)))
theorem Gm{m:NM}{l:List ak}(hm:(m.map (·.1)).Nodup)(hl:vl l)(h: ∀x,x∈m.map (·.1)↔x∈l):eC m=l:=by
 refine nJ (iD hm) hl fun x=>?_;rw[eC,kf];exact h x
theorem CN{occ l:List ak}(hl:vl l)(h: ∀x,x∈occ↔x∈l):eC (aD occ)=l:=
 Gm (dL occ).1 hl fun x=>((dL occ).2 x).trans (h x)
theorem nh{x:ak}: ∀{l:List Term} {a:List ak},x∈l.foldl yr a↔x∈a∨x∈l.flatMap fun t=>if t.kind=1 then[t.var] else[]
 | [],a=>by simp
 |t::r,a=>by
  rw[Pl,nh,PB,ON];unfold yr;split
  .rw[db,OI,or_assoc]
  .simp
theorem vV{x:ak}{a:Atom}:x∈pd a↔x∈cB a:=by
 unfold pd cB;rw[nh];simp
def Ml(a:List ak×Bool)(l:Lit):List ak×Bool:=if(jJ l a.1).2=is then(fO a.1 (jJ l a.1).1,is) else a
def pA(body:List Lit)(k:List ak):List ak×Bool:=body.foldl Ml (k,jp)
def r8(body:List Lit):Nat->List ak->List ak
 |0,k=>k
 |n+1,k=>if(pA body k).2=is then r8 body n (pA body k).1 else(pA body k).1
theorem xt{body:List Lit}{n:Nat}{k:List ak}:r8 body (n+1) k=if(pA body k).2=is then r8 body n (pA body k).1 else(pA body k).1:=rfl
def jO(r:ax):List ak:=r8 r.body (3*r.body.length+1) (r.body.foldl BF [])
section
section
variable (stp:List ak->Lit->ak×Bool)
def gS(a:List ak×Bool)(l:Lit):List ak×Bool:=if(stp a.1 l).2=is then(fO a.1 (stp a.1 l).1,is) else a
def gR(body:List Lit)(k:List ak):List ak×Bool:=body.foldl (gS stp) (k,jp)
def gN(body:List Lit):Nat->List ak->List ak
 |0,k=>k
 |n+1,k=>if(gR stp body k).2=is then gN body n (gR stp body k).1 else(gR stp body k).1
variable {stp}
theorem AM: ∀(body:List Lit) (k:List ak),(body.foldl (gS stp) (k,is)).2=is
 | [],k=>rfl
 |l::r,k=>by
  rw[Pl];have: ∃b,gS stp (k,is) l=(b,is):=by
   unfold gS;split
   .exact⟨_,rfl⟩
   .exact⟨_,rfl⟩
  obtain⟨b,hk⟩:=this;rw[hk];exact AM r b
theorem x9: ∀{body:List Lit} {k:List ak},(body.foldl (gS stp) (k,jp)).2=jp->(body.foldl (gS stp) (k,jp)).1=k∧ ∀l∈body,(stp k l).2=jp
 | [],k,_=>⟨rfl,by simp⟩
 |l::r,k,h=>by
  rw[Pl]at h ⊢;cases hs:(stp k l).2 with
  |true=>
   have:gS stp (k,jp) l=(fO k (stp k l).1,is):=am hs;rw[this,AM]at h;cases h
  |false=>
   have:gS stp (k,jp) l=(k,jp):=be (by rw[hs];simp);rw[this]at h ⊢;obtain⟨h1,b⟩:=x9 h
   exact⟨h1,fun x hx=>by
    rcases OG.1 hx with rfl|hx
    .exact hs
    .exact b x hx⟩
theorem y6: ∀(body:List Lit) (a:List ak×Bool),∀x∈a.1,x∈(body.foldl (gS stp) a).1
 | [],a,x,h=>h
 |l::r,a,x,h=>by
  rw[Pl];refine y6 r _ x ?_;unfold gS;split
  .exact db.2 (.inl h)
  .exact h
theorem Es{body:List Lit}: ∀(n:Nat) (k:List ak),∀x∈k,x∈gN stp body n k
 |0,k,x,h=>h
 |n+1,k,x,h=>by
  unfold gN;split
  .exact Es n _ x (y6 body (k,jp) x h)
  .exact y6 body (k,jp) x h
theorem pW: ∀(body:List Lit) (a:List ak×Bool),vl a.1->vl (body.foldl (gS stp) a).1
 | [],a,h=>h
 |l::r,a,h=>by
  rw[Pl];refine pW r _ ?_;unfold gS;split
  .exact ov h _
  .exact h
theorem u0{body:List Lit}: ∀(n:Nat) (k:List ak),vl k->vl (gN stp body n k)
 |0,k,h=>h
 |n+1,k,h=>by
  unfold gN;split
  .exact u0 n _ (pW body (k,jp) h)
  .exact pW body (k,jp) h
variable (hnew: ∀(k:List ak) (l:Lit),(stp k l).2=is->(stp k l).1∈ [l.left.var,l.right.var,l.bx]∧(stp k l).1∉k)
include hnew
theorem AK{c:List ak}: ∀{body:List Lit} {a:List ak×Bool},(∀l∈body,∀v∈ [l.left.var,l.right.var,l.bx],v∈c)->
  cm c (body.foldl (gS stp) a).1<=cm c a.1∧((body.foldl (gS stp) a).2=is->a.2=is∨cm c (body.foldl (gS stp) a).1<cm c a.1)
 | [],a,_=>⟨OJ _,fun h=> .inl h⟩
 |l::r,a,hc=>by
  have h1:cm c (gS stp a l).1<=cm c a.1∧((gS stp a l).2=is->a.2=is∨cm c (gS stp a l).1<cm c a.1):=by
   unfold gS;split
   .rename_i h;obtain⟨g1,g2⟩:=hnew _ _ h;have:=oM (hc l OH _ g1) g2;exact⟨by dsimp only;omega,fun _=> .inr this⟩
   .exact⟨OJ _,fun h=> .inl h⟩
  obtain⟨g1,g2⟩:=AK (body:=r) (a:=gS stp a l) fun l hl=>hc l (OF _ hl);rw[Pl];refine⟨by omega,fun h=>?_⟩;rcases g2 h with g3|g3
  .rcases h1.2 g3 with g4|g4
   .exact .inl g4
   .exact .inr (by omega)
  .exact .inr (by omega)
theorem Er{body:List Lit}: ∀(n:Nat) (k:List ak),cm (bz body) k<n-> ∀l∈body,(stp (gN stp body n k) l).2=jp
 |0,k,h,_,_=>by omega
 |n+1,k,h,l,hl=>by
  unfold gN;cases hr:(gR stp body k).2 with
  |true=>
   rw[am Z];refine Er n _ ?_ l hl;obtain⟨_,g2⟩:=AK hnew (c:=bz body) (body:=body) (a:=(k,jp)) fun l hl v b=>vc hl b;rcases g2 hr with g3|g3
   .cases g3
   .unfold gR;dsimp only at g3;omega
  |false=>
   rw[be (by simp)];obtain⟨g1,g2⟩:=x9 hr;unfold gR;rw[g1];exact g2 l hl
end
theorem l5{m1:Expr->Bool}{m2:fC->Bool}{occ:List ak}: ∀{l:List Lit},(∀x∈l,kL m1 m2 occ x=io)->bN m1 m2 occ l=io
 | [],_=>rfl
 |y::r,h=>by
  simp only[bN,h y OH];exact l5 fun x b=>h x (OF _ b)
section
variable {stp:List ak->Lit->ak×Bool} {may:List ak->Expr->Bool} {more:List ak->fC->Bool} {body:List Lit}
variable (hE: ∀(k:List ak) (l:Lit),kL (may k) (more k) k l=if(stp k l).2=is then co (stp k l).1 else io)
variable (hmay: ∀a b:List ak,(∀x∈a,x∈b)-> ∀e,may a e=is->may b e=is) (hmore: ∀a b:List ak,(∀x∈a,x∈b)-> ∀e,more a e=is->more b e=is)
include hE
theorem Gt(k:List ak)(l:Lit)(h:(stp k l).2=is):(stp k l).1∈ [l.left.var,l.right.var,l.bx]∧(stp k l).1∉k:=by
 have:=hE k l;rw[am h]at this;exact su this
include hmay hmore
theorem Eo{C:List ak}(hC: ∀l∈body,kL (may C) (more C) C l=io): ∀(b:List Lit) (a:List ak×Bool),(∀l∈b,l∈body)->(∀x∈a.1,x∈C)-> ∀x∈(b.foldl (gS stp) a).1,x∈C
 | [],a,_,h,x,hx=>h x hx
 |l::r,a,hb,h,x,hx=>by
  rw[Pl]at hx;refine Eo hC r _ (fun l hl=>hb l (OF _ hl)) (fun y j=>?_) x hx;unfold gS at j;split at j
  .rename_i hs;rcases db.1 j with j|rfl
   .exact h y j
   .have:=hE a.1 l;rw[am hs]at this;exact Ak hmay hmore h this (hC l (hb l OH))
  .exact h y j
theorem Ep{C:List ak}(hC: ∀l∈body,kL (may C) (more C) C l=io): ∀(n:Nat) (k:List ak),(∀x∈k,x∈C)-> ∀x∈gN stp body n k,x∈C
 |0,k,h,x,hx=>h x hx
 |n+1,k,h,x,hx=>by
  unfold gN at hx;have b:=Eo hE hmay hmore hC body (k,jp) (fun _ h=>h) h;split at hx
  .exact Ep hC n _ b x hx
  .exact b x hx
theorem xa{k occ:List ak}(hk: ∀x,x∈k↔x∈occ++body.flatMap bc)(x:ak):x∈gN stp body (3*body.length+1) k↔x∈bQ may more body occ:=by
 constructor
 .refine Ep hE hmay hmore (C:=bQ may more body occ) (l9 (qM occ)) _ _ (fun y b=>?_) x;exact mj _ _ y ((hk y).1 b)
 .refine mh hmay hmore (C:=gN stp body (3*body.length+1) k) (l5 fun l hl=>?_) _ _ (fun y b=>Es _ _ y ((hk y).2 b)) x;have h1:=oN (bz body) k;have j:=iP body;rw[hE,Er (Gt hE) _ _ (by omega) l hl,be (by simp)]
end
theorem xN{x:ak}: ∀{l:List Lit} {a:List ak},x∈l.foldl BF a↔x∈a∨x∈l.flatMap bc
 | [],a=>by simp
 |t::r,a=>by
  rw[Pl,xN,PB,ON];by_cases hk:t.kind=1
  .rw[show BF a t=mB a (pd t.atom) from am hk,show bc t=cB t.atom from am hk,qy,vV,or_assoc]
  .rw[show BF a t=a from be hk,show bc t=[] from be hk];simp
theorem qs: ∀(l:List Lit) (a:List ak),vl a->vl (l.foldl BF a)
 | [],a,h=>h
 |t::r,a,h=>by
  rw[Pl];refine qs r _ ?_;unfold BF;split
  .exact lF h
  .exact h
theorem DN(k:List ak)(l:Lit):kL (b6 k) (fun _=>jp) k l=if(jJ l k).2=is then co (jJ l k).1 else io:=by
 unfold kL;rw[be (c:=l.kind=4∧_) (fun h=>Bool.noConfusion h.2.2)];have:(if(fq (b6 k) k l).2=is then co (fq (b6 k) k l).1 else io)=if(jJ l k).2=is then co (jJ l k).1 else io:=by
  unfold fq jJ b6;split
  .rfl
  .by_cases b:l.left.kind=1<;>by_cases a2:l.right.kind=1<;>by_cases a3:l.left.kind=2<;>by_cases a4:l.right.kind=2<;>cases a5:du k l.left.var<;>cases a6:du k l.right.var<;>simp_all
 exact this
theorem uB(body:List Lit): ∀(n:Nat) (k:List ak),r8 body n k=gN (fun k l=>jJ l k) body n k
 |0,k=>rfl
 |n+1,k=>by
  rw[xt,uB body n];rfl
theorem told_plain(r:ax):eC (aD (mZ r))=jO r:=by
 unfold jO;rw[uB];refine CN (u0 _ _ (qs _ _ QS)) fun x=>?_;exact(xa (may:=fun b=>b6 b) (more:=fun _=>fun _=>jp) DN xu (fun _ _ _ _ h=>h) (fun y=>by rw[xN];simp) x).symm
end
end Go.Proofs.YtllkaddcplhklaaGreatDoor
namespace Go.Proofs
open Go.Shelf
def Tryz.xT:Go.Shelf.Ren:=⟨fun|190=>84|125=>76|258=>134|128=>103|129=>104|302=>170|303=>171|304=>172|305=>173|306=>174|307=>175|308=>176|309=>177|310=>178|333=>200|329=>143|330=>144|334=>201|335=>202|336=>203|344=>211|n=>n,fun|31=>129|9=>9|3=>3|46=>147|0=>0|51=>175|53=>177|4=>4|183=>168|182=>167|131=>172|5=>5|218=>210|222=>214|228=>258|229=>259|n=>n,fun|n=>n⟩
theorem Tryz.Ar:Go.Proofs.Lays.n190 Tryz.prog Tryz.xT:={
 mixed:=by kernel_rfl
 f125:=Tryz.func76.trans (congrArg co (by kernel_rfl))
 f128:=Tryz.func103.trans (congrArg co (by kernel_rfl))
 f129:=Tryz.func104.trans (congrArg co (by kernel_rfl))
 f190:=Tryz.func84.trans (congrArg co (by kernel_rfl))
 f258:=Tryz.func134.trans (congrArg co (by kernel_rfl))
 f302:=Tryz.func170.trans (congrArg co (by kernel_rfl))
 f303:=Tryz.func171.trans (congrArg co (by kernel_rfl))
 f304:=Tryz.func172.trans (congrArg co (by kernel_rfl))
 f305:=Tryz.func173.trans (congrArg co (by kernel_rfl))
 f306:=Tryz.func174.trans (congrArg co (by kernel_rfl))
 f307:=Tryz.func175.trans (congrArg co (by kernel_rfl))
 f308:=Tryz.func176.trans (congrArg co (by kernel_rfl))
 f309:=Tryz.func177.trans (congrArg co (by kernel_rfl))
 f310:=Tryz.func178.trans (congrArg co (by kernel_rfl))
 f329:=Tryz.func143.trans (congrArg co (by kernel_rfl))
 f330:=Tryz.func144.trans (congrArg co (by kernel_rfl))
 f333:=Tryz.func200.trans (congrArg co (by kernel_rfl))
 f334:=Tryz.func201.trans (congrArg co (by kernel_rfl))
 f335:=Tryz.func202.trans (congrArg co (by kernel_rfl))
 f336:=Tryz.func203.trans (congrArg co (by kernel_rfl))
 f344:=Tryz.func211.trans (congrArg co (by kernel_rfl))
 t0:=Tryz.underlying0
 a0:=Tryz.isAgg0
 z0:=Tryz.sizeOf0
 v0:=Tryz.zeroValue0
 t3:=Tryz.underlying3
 a3:=Tryz.isAgg3
 z3:=Tryz.sizeOf3
 v3:=Tryz.zeroValue3
 t4:=Tryz.underlying4
 a4:=Tryz.isAgg4
 z4:=Tryz.sizeOf4
 v4:=Tryz.zeroValue4
 t5:=Tryz.underlying5
 a5:=Tryz.isAgg5
 z5:=Tryz.sizeOf5
 v5:=Tryz.zeroValue5
 t9:=Tryz.underlying9
 a9:=Tryz.isAgg9
 z9:=Tryz.sizeOf9
 v9:=Tryz.zeroValue9
 t31:=Tryz.underlying129
 a31:=Tryz.isAgg129
 z31:=Tryz.sizeOf129
 v31:=Tryz.zeroValue129
 t46:=Tryz.underlying147
 a46:=Tryz.isAgg147
 z46:=Tryz.sizeOf147
 v46:=Tryz.zeroValue147
 t51:=Tryz.underlying175
 a51:=Tryz.isAgg175
 z51:=Tryz.sizeOf175
 v51:=Tryz.zeroValue175
 t53:=Tryz.underlying177
 a53:=Tryz.isAgg177
 z53:=Tryz.sizeOf177
 v53:=Tryz.zeroValue177
 t131:=Tryz.underlying172
 a131:=Tryz.isAgg172
 z131:=Tryz.sizeOf172
 v131:=Tryz.zeroValue172
 t182:=Tryz.underlying167
 a182:=Tryz.isAgg167
 z182:=Tryz.sizeOf167
 v182:=Tryz.zeroValue167
 t183:=Tryz.underlying168
 a183:=Tryz.isAgg168
 z183:=Tryz.sizeOf168
 v183:=Tryz.zeroValue168
 t218:=Tryz.underlying210
 a218:=Tryz.isAgg210
 z218:=Tryz.sizeOf210
 v218:=Tryz.zeroValue210
 t222:=Tryz.underlying214
 a222:=Tryz.isAgg214
 z222:=Tryz.sizeOf214
 v222:=Tryz.zeroValue214
 t228:=Tryz.underlying258
 a228:=Tryz.isAgg258
 z228:=Tryz.sizeOf258
 v228:=Tryz.zeroValue258
 t229:=Tryz.underlying259
 a229:=Tryz.isAgg259
 z229:=Tryz.sizeOf259
 v229:=Tryz.zeroValue259}
theorem YtllkaddcplhklaaGreatDoor.I9:YtllkaddcplhklaaGreatDoor.fU:=
 ⟨fun u b0 a0 x w hH b j=>Any.slices_Sort_string Tryz.Ar u b0 a0 x w hH b j,fun p a0 w=>Any.slices_Sort_string_none Tryz.Ar p a0 w⟩
end Go.Proofs
namespace Go.Proofs.YtllkaddcplhklaaGreatDoor
open Go Go.Al
theorem fT{α:Type}[Inhabited α]{f:α->List IV}(h: ∀x,eB ((f x).map .iv)=is)(l:List α):allOnes ((O4 l.length).map fun k=>(f (l.getD k ci)).map PV.iv)=is:=by rw[vz];exact qO h l
def Prog.size(p:Prog):Nat:=p.aQ.length+(p.aQ.map fun d=>d.types.length).sum+p.rules.length+(p.rules.map ax.size).sum
theorem vu{α:Type}[Inhabited α](f:α->Nat): ∀(l:List α) (i:Nat),i<l.length->f (l.getD i ci)<=(l.map f).sum
 |x::r,0,_=>by simp
 |x::r,i+1,h=>by
  have:=vu f r i (by simpa using h);simp only[PK,OU,PM];omega
theorem xf{α:Type}(i sz n b:Nat)(l:List α)(f:α->List IV):(aP b l f).oq i sz n:=by
 intro k e j p u A;rw[OC,OD]at u;obtain⟨x,_,rfl⟩:=u;rw[OC,OD]at A;obtain⟨y,_,rfl⟩:=A;exact⟨y,rfl⟩
theorem NZ(r:ax)(hb:r.size<=10000000):Pure Tryz.prog 68 [ag r.c] (.iv (strs (jO r))):=told_plain r▸c33 I9 r hb
end Go.Proofs.YtllkaddcplhklaaGreatDoor
namespace Go.Proofs.YtllkaddcplhklaaGreatDoor
open Go.Proofs.Tryz
open Go
section
set_option maxHeartbeats 2000000
theorem Ay: ∃j,prog.info? 223=co j∧j.size=2:=by
 have h:(prog.info? 223).map (fun i=>i.size)=co 2:=by kernel_rfl
 rw[OD]at h;exact h
theorem Hj:liesAt prog prog.depth 225 (4/prog.cellsOf 225) 0 223 1=is:=by kernel_rfl
theorem HO(b:Nat)(w:World)(h0:w.cell? ⟨b,0,io⟩=co (.pointer (co ⟨b,0,io⟩))):
  Calls prog 213 #[.pointer (co ⟨b,0,io⟩)] w fun e x=>e= .returned (.tuple #[])∧x=w:=by
 obtain⟨j,u,_⟩:=Ay
 go_enter func213,ntmps213
 go_wp2
 rw[Lib.run_neq_ptr_same w _ underlying220 u]
 go_wp2
 go_end0
 exact⟨rfl,rfl⟩
theorem EX(b:Nat)(w:World)(h0:w.cell? ⟨b,0,io⟩=co (.pointer io))(u:w.shape? b=co (225,4))(A:w.frozen? ⟨b,0,io⟩=jp):
  Calls prog 213 #[.pointer (co ⟨b,0,io⟩)] w fun e B=>e= .returned (.tuple #[])∧B=w.setCell ⟨b,0,io⟩ (.pointer (co ⟨b,0,io⟩)):=by
 obtain⟨j,y,x⟩:=Ay
 go_enter func213,ntmps213
 go_wp2
 rw[Lib.run_to_unsafe w ⟨b,0,io⟩ underlying220 underlying291 y (by rw[x];decide) u (by show 0<4;decide)];simp only[Result.andThen];rw[Oper.upon_value]
 go_wp2
 rw[run_callFunc_extern func218 (by kernel_rfl) (by kernel_rfl) (by kernel_rfl) (e:=Extern.AbiNoEscape.same) (by kernel_rfl)];rw[Lib.run_noEscape];simp only[Result.andThen];rw[Oper.upon_value]
 go_wp2
 rw[Lib.run_from_unsafe w ⟨b,0,io⟩ underlying291 underlying220 y u Hj];simp only[Result.andThen];rw[Oper.upon_value]
 go_wp2
 go_end0
 exact⟨rfl,rfl⟩
theorem Lg:prog.cellsOf 5=1:=by kernel_rfl
theorem HR(b g cap:Nat)(p x y:Value)(u:Array Value)(l:List UInt8)(w:World)(D:w.heap[b]? =co (.cells #[p,.slice (co ⟨g,0,io⟩) l.length cap,x,y] 225 (0,0)))(hg:w.heap[g]? =co (.cells u 5 (0,0)))
  (hl:l.length<=u.size) (J:l.length<=cap) (G:cap<=maxLen) (B: ∀(j:Nat) (x:UInt8),l[j]? =co x->u.getD j undef= .int .u8 (x.toNat:Int)) (h0:l≠ []):
  Calls prog 189 #[.pointer (co ⟨b,0,io⟩)] w fun e w'=>e= .returned (.string ⟨l.toArray⟩)∧w'=w.drew.freeze ⟨g,0,io⟩ l.length:=by
 have b0:l.length≠0:=by simpa using h0
 have c1:w.drew.cell? ⟨b,1,io⟩=co (.slice (co ⟨g,0,io⟩) l.length cap):=by
  have:w.drew.heap[b]? =co (.cells #[p,.slice (co ⟨g,0,io⟩) l.length cap,x,y] 225 (0,0)):=D;rw[Lib.cell_of_heap this];rfl
 have Y:(Builtin.unsafeSliceData_ #[221] 281 #[.slice (co ⟨g,0,io⟩) l.length cap]).run prog w.drew= .ok (.pointer (co ⟨g,0,io⟩)) w.drew:=
  Lib.run_unsafeSliceData_row _ _ _ _ _ _ (by omega)
 have a0:(Builtin.unsafeString_ #[281,3] 9 #[.pointer (co ⟨g,0,io⟩),.int .i64 l.length]).run prog w.drew= .ok (.string ⟨l.toArray⟩) (w.drew.freeze ⟨g,0,io⟩ l.length):=by
  refine Lib.run_unsafeString_row w.drew 281 3 9 5 underlying281 Lg g u.size (by have A:w.drew.heap[g]? =co (.cells u 5 (0,0)):=hg;simp[World.shape?,A]) l h0 (by omega) (by unfold maxLen at G;omega) ?_;intro j x R;have C:j<u.size:=by have:=(Ov.1 R).1;omega
  have:=B j x R;rw[Ot,O2 C]at this;show w.drew.cell? _=_;have A:w.drew.heap[g]? =co (.cells u 5 (0,0)):=hg;rw[Al.dr,OY];simp only[World.cell?,A];simpa[C]using this
 have I:prog.follows .mixedOrders=is:=rfl
 go_enter func189,ntmps189
 go_wp2
 go_region_o
 all_goals(go_wp2;go_ret;exact⟨rfl,rfl⟩)
theorem Lh(b:Nat)(p x y:Value)(w:World)(j:w.heap[b]? =co (.cells #[p,.slice io 0 0,x,y] 225 (0,0))):
  Calls prog 189 #[.pointer (co ⟨b,0,io⟩)] w fun e C=>e= .returned (.string ⟨#[]⟩)∧C=w.drew:=by
 have B:(W:World)->(Builtin.unsafeString_ #[281,3] 9 #[.pointer io,.int .i64 0]).run prog W= .ok (.string .empty) W:=fun W=>Lib.run_unsafeString_none W _ _ _ io
 have c1:w.drew.cell? ⟨b,1,io⟩=co (.slice io 0 0):=by
  have:w.drew.heap[b]? =co (.cells #[p,.slice io 0 0,x,y] 225 (0,0)):=j;rw[Lib.cell_of_heap this];rfl
 have A:(Builtin.unsafeSliceData_ #[221] 281 #[.slice io 0 0]).run prog w.drew= .ok (.pointer io) w.drew:=rfl;have u:prog.follows .mixedOrders=is:=rfl
 go_enter func189,ntmps189
 go_wp2
 go_region_o
 all_goals(go_wp2;go_ret;exact⟨rfl,rfl⟩)
end
end Go.Proofs.YtllkaddcplhklaaGreatDoor
namespace Go.Proofs.YtllkaddcplhklaaGreatDoor
open Go Go.Al Go.Proofs.Tryz
def G5(c:Nat):Bool:=(kw (97<=c)&&kw (c<=122))||((kw (65<=c)&&kw (c<=90))||((kw (48<=c)&&kw (c<=57))||decide (c=95)))
def okB(b:UInt8):Bool:=G5 b.toNat
def hd(s:ak):Int:=((s.data.toList.getD 0 0).toNat:Int)
def rF(s:ak)(b hi:Int):Bool:=!kw (s=⟨#[]⟩)&&(kw (s.size<=32)&&(kw (b<=hd s)&&(kw (hd s<=hi)&&s.data.toList.all okB)))
theorem DF{c:Nat}(h:G5 c=is):c<128:=by
 simp only[G5,Qu,Pk,decide_eq_true_eq]at h;omega
theorem GA{s:ak}(h: ¬s=⟨#[]⟩):0<s.size:=by
 refine Nat.pos_of_ne_zero fun b=>h ?_;have:s.data= #[]:=P2 b;cases s;simp_all
theorem Oa(c:Nat):Pure prog 180 [.iv (.v (.int .i32 (c:Int)))] (pB (!G5 c)):=by
 refine ai ab func180 Z (by decide) ntmps180 Z (by simp) Z ?_
 repeat' (first|(refine gA Z (zI (fun _=>?_) (fun _=>?_)))|(refine gA Z (zL (.of_eq ?_))))
 all_goals(refine(lP ?_:pB _=pB _))
 all_goals(simp only[QC,Q7,decide_eq_true_eq,decide_eq_false_iff_not] at*;rw[PL];simp[G5];omega)
theorem EK{s:ak}{i:Nat}(h:i<s.size)(hb:okB (s.data.toList.getD i 0)=is):Utf8.decode s i=((s.data.toList.getD i 0).toNat,1):=by
 have b:(s[i]'h)=s.data.toList.getD i 0:=by
  have:i<s.data.toList.length:=by simpa using h
  rw[Ow,Ox this];simp;rfl
 have:=decode_ascii s i h (by rw[b];exact DF hb);rw[this,b]
theorem Ld{s:ak}{i:Nat}(h:i<s.size)(hb:okB (s.data.toList.getD i 0)=jp):G5 (Utf8.decode s i).1=jp:=by
 by_cases h1:(s.data.toList.getD i 0).toNat<128
 .have b:(s[i]'h)=s.data.toList.getD i 0:=by
   have:i<s.data.toList.length:=by simpa using h
   rw[Ow,Ox this];simp;rfl
  have:=decode_ascii s i h (by rw[b];exact h1);rw[this,b];exact hb
 .have b:(s.get! (i+0)).toNat=(s.data.toList.getD i 0).toNat:=by
   have:i<s.data.toList.length:=by simpa using h
   rw[Ow,Ox this];simp[ByteArray.get!,getElem!_pos,h]
  have:128<=(Utf8.decode s i).1:=by
   simp only[Utf8.decode,b,be h1]
   repeat' split
   all_goals(dsimp only[Utf8.runeError];(try simp only[Pk,decide_eq_true_eq] at*);omega)
  cases hk:G5 (Utf8.decode s i).1 with
  |false=>rfl
  |true=>have:=DF hk;omega
def A5(s:ak):Int:=n4 (fun b=>!okB b) s.data.toList
theorem d217(s:ak):bC prog 212 [pS s,.b4 (.func 180) [] [],pB is] [] (pI (A5 s)) [] 0:=by
 have A:s.data.toList.length=s.size:=by simp
 refine au ab func212 Z (by decide) ntmps212 Z (by simp) ?_;refine gA Z ?_;refine uY ab Z Z Z Z Z Z Z ?_;refine gA Z ?_;refine aK 0 s.size (OL _) (fun i=>⟨[(0,pS s),(1,.b4 (.func 180) [] []),(2,pB is),(10,.ptr 0 0)],[(0,co (.dJ s i))],1⟩) (fun i=>(s.data.toList.take i).any (fun b=>!okB b)=jp) [] (by simp)
  (zW ⟨⟨_,rfl,.of_eq Z⟩,Oq Z,ac,ac⟩) fun i B x=>?_
 refine gA Z ?_;refine kq Z Z Z Z Z Z (fun h1=>?_) (fun h1=>?_)
 .have j:s.data.toList.length<=i:=by omega
  rw[A5,fh (any_none x j)];refine gA Z (zD [] Z (zW ac))
 .have u:i<s.data.toList.length:=by omega
  have y:s.data.toList.getD i ci=s.data.toList.getD i 0:=rfl;refine gA Z (zp (Oa (Utf8.decode s i).1) ?_);refine zJ Z Z (fun j=>?_) fun j=>?_
  .have j:G5 (Utf8.decode s i).1=jp:=by simpa using j
   have hb:okB (s.data.toList.getD i 0)=jp:=by
    cases hk:okB (s.data.toList.getD i 0) with
    |false=>rfl
    |true=>
     rw[EK h1 hk]at j;exact absurd (hk.symm.trans j) (by simp)
   rw[A5,gd x u (by rw[y,hb];rfl)];refine gA Z (zD [] Z (zW ac))
  .have j:G5 (Utf8.decode s i).1=is:=by simpa using j
   have hb:okB (s.data.toList.getD i 0)=is:=by
    cases hk:okB (s.data.toList.getD i 0) with
    |true=>rfl
    |false=>exact absurd ((Ld h1 hk).symm.trans j) (by simp)
   have hd:=EK h1 hb;refine gA Z ⟨h1,(cI x u).2 (by rw[y,hb];rfl),[],zW ⟨⟨_,rfl,.of_eq (by rw[hd];rfl)⟩,Oq Z,ac,ac⟩⟩
theorem HY(l:List UInt8):(l.any fun b=>!okB b)=!l.all okB:=by
 induction l with
 |nil=>rfl
 |cons x r ih=>simp only[RO,Ru,ih];cases okB x<;>rfl
theorem d203(s:ak):bC prog 204 [pS s,.b4 (.func 180) [] []] [] (pI (A5 s)) [] 0:=by
 refine au ab func204 Z (by decide) ntmps204 Z (by simp) ?_;refine gA Z (zq [] (d217 s) ?_);refine gA Z (zD [] Z (zW ac))
theorem d180(s:ak):bC prog 179 [pS s,.b4 (.func 180) [] []] [] (pB (!s.data.toList.all okB)) [] 0:=by
 refine au ab func179 Z (by decide) ntmps179 Z (by simp) ?_;refine gA Z (zq [] (d203 s) ?_);refine gA Z (zD [] Z (zM ⟨.of_eq (lP ((gf _ _).trans (HY _))),rfl,ac⟩ ac))
theorem Nd(s:ak)(x hi:Int):Pure prog 138 [pS s,.iv (.v (.int .u8 x)),.iv (.v (.int .u8 hi))] (pB (rF s x hi)):=by
 refine ai ab func138 Z (by decide) ntmps138 Z (by simp) Z ?_;refine zE Z Z (fun h1=>?_) fun h1=>?_
 .have h1:s=⟨#[]⟩:=zT h1;refine gA Z (zL (.of_eq ?_));refine(lP ?_:pB _=pB _);subst h1;rfl
 have h1: ¬s=⟨#[]⟩:=zF h1;have y:=GA h1;refine zE Z Z (fun b=>?_) fun b=>?_
 .have b:32<s.size:=zN b;refine gA Z (zL (.of_eq ?_));refine(lP ?_:pB _=pB _);have: ¬s.size<=32:=by omega
  simp[rF,this]
 have b:s.size<=32:=by have:=zF b;omega
 refine zE Z Z (fun j=>?_) fun j=>?_
 .have j:hd s<x:=zT j;refine gA Z (zL (.of_eq ?_));refine(lP ?_:pB _=pB _);have: ¬x<=hd s:=by omega
  simp[rF,this]
 have j:x<=hd s:=by have: ¬hd s<x:=zF j;omega
 refine zJ Z Z (fun u=>?_) fun u=>?_
 .have u:hi<hd s:=zT u;refine gA Z (zL (.of_eq ?_));refine(lP ?_:pB _=pB _);have: ¬hd s<=hi:=by omega
  simp[rF,this]
 have u:hd s<=hi:=by have: ¬hd s>hi:=zF u;omega
 refine gA Z (zq [] (d180 s) ?_);refine gA Z (zL (.of_eq ?_));refine(lP ?_:pB _=pB _);simp[rF,h1,b,j,u]
def MG:List ak:=[⟨#[114,101,108,97,116,105,111,110]⟩,⟨#[110,111,116]⟩,⟨#[110,117,109]⟩,⟨#[115,121,109]⟩,⟨#[109,111,100]⟩,⟨#[99,111,117,110,116]⟩,⟨#[115,117,109]⟩,⟨#[109,105,110]⟩,⟨#[109,97,120]⟩]
def MH(s:ak):Bool:=MG.any fun x=>kw (s=x)
def gZ(s:ak):Bool:=!MH s&&rF s 97 122
def fb(s:ak):Bool:=rF s 65 90
theorem zj(s:ak):Pure prog 187 [pS s] (pB (fb s)):=by
 refine ai ab func187 Z (by decide) ntmps187 Z (by simp) Z ?_;refine gA Z (zp (Nd s 65 90) ?_);exact zU Z
theorem Nt(s:ak):Pure prog 93 [pS s] (pB (gZ s)):=by
 refine ai ab func93 Z (by decide) ntmps93 Z (by simp) Z ?_
 repeat' (first|(refine gA Z (zI (fun _=>?_) (fun _=>?_)))|(refine gA Z (zp (Nd s 97 122) ?_))|(refine gA Z (zL (.of_eq ?_))))
 all_goals(refine(lP ?_:pB _=pB _))
 all_goals(simp only[gZ,MH,MG,RO,List.any_nil, *];rfl)
theorem Oe(v:c8):Pure prog 140 [ag v.c] (pB (!kw (cD v=0))):=by
 refine ai ab func140 Z (by decide) ntmps140 Z (by simp) Z ?_;refine gA Z (zp (Nc v) ?_);exact zU Z
theorem i182(l:List c8):bC prog 181 [.iv (bw 3 l c8.c),.b4 (.func 140) [] []] [] (pI (n4 (fun x:c8=>!kw (cD x=0)) l)) [] 0:=by
 refine oh (bm func181 Z (by decide)) ⟨_,_,OH⟩ fun j=>?_;simp only[maxLen]at j;refine au ab func181 Z (by decide) ntmps181 Z (by simp) ?_;refine gA Z ?_
 refine aK 0 l.length (OL _) (fun i=>⟨[(0,.iv (bw 3 l c8.c)),(1,.b4 (.func 140) [] []),(7,pI l.length),(8,pI i)],[],0⟩) (fun i=>(l.take i).any (fun x:c8=>!kw (cD x=0))=jp) [] (by simp)
  (zW trivial) fun i y u=>?_
 refine zJ Z Z (fun h1=>?_) fun h1=>?_
 .have h1:i<l.length:=by simpa using h1
  refine gA Z (zp (Oe (l.getD i ci)) ?_);refine zJ Z Z (fun b=>?_) fun b=>?_
  .have b:(fun x:c8=>!kw (cD x=0)) (l.getD i ci)=is:=b;rw[gd u h1 b];refine gA Z (zD [] Z (zW ac))
  .have b:(fun x:c8=>!kw (cD x=0)) (l.getD i ci)=jp:=b;refine gA Z ⟨h1,(cI u h1).2 b,[],zW ac⟩
 .have h1:l.length<=i:=by simpa using h1
  rw[fh (any_none u h1)];refine gA Z (zD [] Z (zW ac))
theorem d141(l:List c8):bC prog 139 [.iv (bw 3 l c8.c),.b4 (.func 140) [] []] [] (pB (l.any (fun x:c8=>!kw (cD x=0)))) [] 0:=by
 refine au ab func139 Z (by decide) ntmps139 Z (by simp) ?_;refine gA Z (zq [] (i182 l) ?_);refine gA Z (zD [] Z (zM ⟨.of_eq (lP (gf _ l)),rfl,ac⟩ ac))
def jj(f:Fact):Bool:=gZ f.rel&&(kw (f.args.length<=8)&&f.args.all fun v=>kw (cD v=0))
theorem E6(l:List c8):(l.any fun x:c8=>!kw (cD x=0))=!l.all fun v=>kw (cD v=0):=by
 induction l with
 |nil=>rfl
 |cons x r ih=>simp only[RO,Ru,ih];cases kw (cD x=0)<;>rfl
theorem c98(l:List c8):Pure prog 94 [.iv (bw 3 l c8.c)] (pB (l.all fun v=>kw (cD v=0))):=by
 refine ai ab func94 Z (by decide) ntmps94 Z (by simp) Z ?_;refine gA Z (zq [] (d141 l) ?_);refine gA Z (zL (.of_eq ?_));refine(lP ?_:pB _=pB _);rw[E6,Bool.not_not]
theorem c55(f:Fact):Pure prog 74 [ag f.c] (pI (if jj f then 0 else 20)):=by
 refine ai ab func74 Z (by decide) ntmps74 Z (by simp) Z ?_
 repeat' (first|(refine gA Z (zI (fun _=>?_) (fun _=>?_)))|(refine gA Z (zp (Nt f.rel) ?_))|(refine gA Z (zp (c98 f.args) ?_))|(refine gA Z (zL (.of_eq ?_))))
 all_goals(refine(Ct ?_:pI _=pI _))
 all_goals(simp only[jj];simp_all)
 all_goals omega
section
theorem Rel.yL{M:Mem}{N:Nm}{U:Nat->Prop}{h u:AH}{w:World}(hr:Rel M N U h w)(e: ∀i,AH.get u i=h.get i):Rel M N U u w:=
 ⟨hr.dZ,fun i o b=>hr.used i o (by rw[<-e];exact b),fun i o b=>hr.dM i o (by rw[<-e];exact b),fun i o b=>hr.obj i o (by rw[<-e];exact b),fun i j o p b x=>hr.inj i j o p (by rw[<-e];exact b) (by rw[<-e];exact x)⟩
theorem Ext.yL{M j:Mem}{N u:Nm}{U x:Nat->Prop}{h0 h y:AH}{w A:World}(b:Ext M N U h0 w j u x h A)(e: ∀i,AH.get y i=h.get i):Ext M N U h0 w j u x y A:=
 ⟨b.os,b.tape,b.output,b.size,b.fL,b.ot,b.gq,b.nm,b.ule,fun i o B=>b.fI i o (by rw[<-e];exact B)⟩
structure WS where
 fr:Bool
 l:List UInt8
 bad:Bool
 br:Int
abbrev WS.ph(w:WS)(i j:Nat):AO:= .cells [.ei w.fr i,.sl j 0 w.l.length 1,pB w.bad,pI w.br] (co 225)
abbrev WS.c(w:WS):AO:=w.ph 0 1
abbrev WS.O(w:WS):List AO:=[w.c,.bh w.l 5]
abbrev WS.H(w:WS):AH:=[(0,co (w.ph 0 2)),(2,co (.bh w.l 5))]
theorem d204(w:WS):bC prog 213 [.ptr 0 0] w.O (.bf []) [(0,co ({w with fr:=jp}:WS).c),(1,co (.bh w.l 5))] 2:=by
 refine⟨bm func213 Z (by decide),fun M N wd vs J A hv=>?_⟩;obtain⟨v,rfl⟩: ∃v,vs=[v]:=by
  cases vs with
  |nil=>cases A
  |cons v r=>cases r with
   |nil=>exact⟨v,rfl⟩
   |cons a b=>simp at A
 have R:VR M N (· <2) (.ptr 0 0) v:=hv 0 _ Z;have Y:v= .pointer (co ⟨N.az 0,0,io⟩):=by cases R;rfl
 subst Y;have G:AH.get (c5 0 w.O) 0=co w.c:=rfl;obtain⟨c,T,h1,h2,h3,h4,h5⟩:=J.obj 0 _ G;have hT:=h5 225 Z;subst hT;have B:c.size=4:=h3.symm;have a0:N.az 0<wd.heap.size:=(Pz.1 h1).1;have I:c.getD 0 undef= .pointer (bif w.fr then io else co ⟨N.az 0,0,io⟩):=by
  have:=h4 0 _ Z;generalize c.getD 0 undef=x at this;cases this;rfl
 have u:wd.cell? ⟨N.az 0,0,io⟩=co (c.getD 0 undef):=by
  rw[Lib.cell_of_heap h1,Ot,O2 (by omega)];rfl
 rw[I]at u;show Calls prog 213 #[_] wd _;cases hfr:w.fr with
 |false=>
  rw[hfr]at u;refine(HO (N.az 0) wd u).mono ?_;rintro e w' ⟨rfl,rfl⟩;have hw:({w with fr:=jp}:WS)=w:=by cases w;simp_all
  rw[hw];exact⟨_,M,N,.bf [],_,2,rfl,⟨rfl,rfl,rfl⟩,.refl _ _ _ _ _,J,.bf [] #[] Z (by simp)⟩
 |true=>
  rw[hfr]at u;refine(EX (N.az 0) wd u (by simp[World.shape?,h1,B]) (Lib.frozen_of_heap h1 0)).mono ?_;rintro e w' ⟨rfl,rfl⟩;have C:(wd.setCell ⟨N.az 0,0,io⟩ (.pointer (co ⟨N.az 0,0,io⟩))).heap[N.az 0]? =co (.cells (c.setIfInBounds 0 (.pointer (co ⟨N.az 0,0,io⟩))) 225 (0,0)):=by
   simp[World.setCell,O8,h1]
  obtain⟨g1,g2⟩:=J.write (i:=0) (o0:=w.c) G Z (wd.setCell ⟨N.az 0,0,io⟩ (.pointer (co ⟨N.az 0,0,io⟩))) ({w with fr:=jp}:WS).c Z Z Z (by simp[World.setCell]) (fun b hb=>by
   simp only[World.setCell,O8]
   rw[be (fun e=>hb e.symm)]) ⟨_,225,C,by simpa using h2,by simp[B],fun j p D=>by
    match j,D with
    |0,D=>
     cases D;rw[Ot,O0];simp only[if_true,B];exact .ei jp 0 (by show 0<2;decide)
    |j+1,D=>
     have:=h4 (j+1) p (by exact D);rw[Ot,O0,be (by omega)];rw[Ot]at this
     exact this,h5⟩
  have y: ∀i,AH.get [(0,co ({w with fr:=jp}:WS).c),(1,co (.bh w.l 5))] i=AH.get ((0,co ({w with fr:=jp}:WS).c)::c5 0 w.O) i:=by
   intro i
   match i with
   |0=>rfl
   |1=>rfl
   |i+2=>rfl
  exact⟨_,M,N,.bf [],_,2,rfl,⟨rfl,rfl,rfl⟩,Ext.yL g1 y,Rel.yL g2 y,.bf [] #[] Z (by simp)⟩
theorem d150(w:WS):bC prog 189 [.ptr 0 0] w.O (pS ⟨w.l.toArray⟩) [] 2:=by
 refine⟨bm func189 Z (by decide),fun M N wd vs hr D hv=>?_⟩;obtain⟨v,rfl⟩: ∃v,vs=[v]:=by
  cases vs with
  |nil=>cases D
  |cons v r=>cases r with
   |nil=>exact⟨v,rfl⟩
   |cons a b=>simp at D
 have j0:VR M N (· <2) (.ptr 0 0) v:=hv 0 _ Z;have k0:v= .pointer (co ⟨N.az 0,0,io⟩):=by cases j0;rfl
 subst k0;have i0:AH.get (c5 0 w.O) 0=co w.c:=rfl;have G:AH.get (c5 0 w.O) 1=co (.bh w.l 5):=rfl;obtain⟨c,T,h1,h2,h3,h4,h5⟩:=hr.obj 0 _ i0;have hT:=h5 225 Z;subst hT;have e0:c.size=4:=h3.symm;have b0: ∀(x1:Value),c.getD 1 undef=x1-> ∃p x y,c= #[p,x1,x,y]:=by
  intro x1 B;refine⟨c.getD 0 undef,c.getD 2 undef,c.getD 3 undef,?_⟩;apply Array.ext
  .simpa using e0
  .intro i u m0
   match i,u with
   |0,u=>simp[Ot,u]
   |1,u=>rw[<-B];simp[Ot,u]
   |2,u=>simp[Ot,u]
   |3,u=>simp[Ot,u]
   |i+4,u=>omega
 have A:=h4 1 _ Z;have I:=hr.obj 1 _ G;show Calls prog 189 #[_] wd _;by_cases hl:w.l=[]
 .have B:c.getD 1 undef= .slice io 0 0:=by
   generalize c.getD 1 undef=x at A;rw[hl]at A;generalize J:PV.sl 1 0 ([]:List UInt8).length 1=q at A;cases A with
   |sl i off len sz a0 h h0 h1 hc he=>cases J;simp at h0
   |lK i sz h=>rfl
   |_=>cases J
  obtain⟨p,x,y,rfl⟩:=b0 _ B;refine(Lh (N.az 0) p x y wd h1).mono ?_;rintro e w' ⟨rfl,rfl⟩;refine⟨.string ⟨#[]⟩,M,N,pS ⟨w.l.toArray⟩,[],2,rfl,⟨rfl,rfl,rfl⟩,?_,?_,.iv _ _ (by rw[hl];exact .v _)⟩
  .have:=Ext.drew (M:=M) (N:=N) (U:=(· <w.O.length)) (h:=c5 0 w.O) (w:=wd);exact⟨this.os,this.tape,this.output,this.size,this.fL,this.ot,this.gq,this.nm,this.ule,fun i o u=>(nomatch u)⟩
  .exact⟨hr.drew.dZ,fun i o u=>(nomatch u),fun i o u=>(nomatch u),fun i o u=>(nomatch u),fun i j o p u=>(nomatch u)⟩
 .have Y:0<w.l.length:=PD.2 hl;obtain⟨a0,B,R,f0⟩: ∃a0,c.getD 1 undef= .slice (co ⟨N.az 1,0,io⟩) w.l.length a0∧w.l.length<=a0∧a0<=maxLen:=by
   generalize c.getD 1 undef=x at A;generalize hn:w.l.length=n at A Y;generalize J:PV.sl 1 0 n 1=q at A;cases A with
   |sl i off len sz a0 h h0 hl hc he=>cases J;exact⟨a0,by simp,hl,hc⟩
   |lK i sz h=>cases J;omega
   |_=>cases J
  rcases I with I|⟨d0,q1,q2,q3,q4⟩
  .exact absurd I hl
  obtain⟨p,x,y,rfl⟩:=b0 _ B;refine(HR (N.az 0) (N.az 1) a0 p x y d0 w.l wd h1 q1 q3 R f0 q4 hl).mono ?_;rintro e w' ⟨rfl,rfl⟩;have c0:(AO.bh w.l 5).real=is:=by cases hll:w.l with
   |nil=>exact absurd hll hl
   |cons=>rfl
  have hk: ∀b,b≠N.az 1->(wd.drew.freeze ⟨N.az 1,0,io⟩ w.l.length).heap[b]? =wd.heap[b]? :=by
   intro b hb;unfold World.freeze;split
   .rfl
   .show(wd.heap.modify _ _)[b]? =_;simp only[O8];rw[be (fun e=>hb e.symm)]
  have C:(wd.drew.freeze ⟨N.az 1,0,io⟩ w.l.length).os=wd.os∧(wd.drew.freeze ⟨N.az 1,0,io⟩ w.l.length).tape=wd.tape∧(wd.drew.freeze ⟨N.az 1,0,io⟩ w.l.length).output=wd.output∧(wd.drew.freeze ⟨N.az 1,0,io⟩ w.l.length).heap.size=wd.heap.size:=by
   unfold World.freeze;split
   .exact⟨rfl,rfl,rfl,rfl⟩
   .exact⟨rfl,rfl,rfl,by show(wd.heap.modify _ _).size=_;simp⟩
  refine⟨_,M,N,pS ⟨w.l.toArray⟩,[],2,rfl,⟨rfl,rfl,rfl⟩,?_,?_,.iv _ _ (.v _)⟩
  .exact⟨C.1,C.2.1,⟨C.2.2.1,by unfold World.freeze;split<;>exact QH _⟩,by rw[C.2.2.2];exact OJ _,fun b hb hn=>hk b fun e=>hn 1 _ G c0 e.symm,.refl _,fun b c h1 h2=>by simp[h1]at h2,.refl _ _,fun _ h=>h,fun i o u=>(nomatch u)⟩
  .refine⟨fun b d hb=>?_,fun i o u=>(nomatch u),fun i o u=>(nomatch u),fun i o u=>(nomatch u),fun i j o p u=>(nomatch u)⟩;have g0:b≠N.az 1:=fun e=>by
    have:=hr.dM 1 _ G c0;rw[<-e,hb]at this;cases this
   exact(hr.dZ b d hb).mono (hk b g0)
section
variable {nt:NT} {Q:AQ} {k:List KI} {s:AS}
def wS(s:AS)(b:WS)(i j:Nat):AS:=match s with|⟨f,h,n⟩=>⟨f,(i,co (b.ph i n))::(n,co (.bh b.l 5))::(i,io)::(j,io)::h,n+1⟩
theorem Lv(s:AS)(b:WS)(i j:Nat):wS s b i j=⟨s.f,(i,co (b.ph i s.nx))::(s.nx,co (.bh b.l 5))::(i,io)::(j,io)::s.h,s.nx+1⟩:=by cases s;rfl
def Lu(s:AS)(b:WS)(i j m:Nat):AS:=match s with|⟨f,h,n⟩=>⟨f,(i,co (b.ph i n))::(n,co (.bh b.l 5))::(i,io)::(j,io)::(m,io)::h,n+1⟩
theorem JB(s:AS)(b:WS)(i j m:Nat):Lu s b i j m=⟨s.f,(i,co (b.ph i s.nx))::(s.nx,co (.bh b.l 5))::(i,io)::(j,io)::(m,io)::s.h,s.nx+1⟩:=by cases s;rfl
theorem wJ{o:Oper}{c:Call}{g:FuncId}{args u:List PV}{w C:WS}{r:PV}{i j:Nat}{s':AS}(hc:bC prog g (.ptr 0 0::args) w.O r C.H 3)(ho:o.op= .call c)(ha:bM s.f c=co (g,.ptr i 0::u))
  (hi:s.h.get i=co (w.ph i j)) (hj:s.h.get j=co (.bh w.l 5)) (hlt:OV i s.nx=is) (hlj:OV j s.nx=is) (hne:OW i j=jp) (has:u=args) (hlow:bd 0 args=is) (hr:r.low 0=is)
  (hp:putDst nt o r (wS s C i j)=co s'):OT prog nt o s (fun t=>t=s'):=by
 have y:i≠j:=fun e=>by subst e;simp at hne
 have A:([i,j]:List Nat).Nodup:=by simp[y]
 have D: ∀x∈ [i,j],x<s.nx:=by
  intro x B;simp only[OG,Rf,or_false]at B;rcases B with rfl|rfl
  .exact Oq hlt
  .exact Oq hlj
 subst has;have b: ∀σ,dy σ u=u:=fun σ=>fY σ u hlow;refine ll ho ha hc A D ?_ ?_ ?_
 .simp only[OU,Qo,hi,hj];rfl
 .simp only[dy,b];rfl
 .rintro q G n0 ⟨rfl,rfl,rfl⟩;rw[PV.jA _ _ hr];rw[Lv]at hp;exact⟨s',hp,rfl⟩
theorem MT{all rest:List Oper}{o:Oper}{c:Call}{g:FuncId}{args b:List PV}{w u:WS}{r:PV}{i j:Nat}{s':AS}(hc:bC prog g (.ptr 0 0::args) w.O r u.H 3)(ho:o.op= .call c)(hg:o.guard=io)(ha:bM s.f c=co (g,.ptr i 0::b))
  (hi:s.h.get i=co (w.ph i j)) (hj:s.h.get j=co (.bh w.l 5)) (hlt:OV i s.nx=is) (hlj:OV j s.nx=is) (hne:OW i j=jp) (has:b=args) (hlow:bd 0 args=is) (hr:r.low 0=is)
  (hp:putDst nt o r (wS s u i j)=co s') (h:GO prog nt (.ops all rest::k) Q s'):GO prog nt (.ops all (o::rest)::k) Q s:=
 cM hg (wJ hc ho ha hi hj hlt hlj hne has hlow hr hp) fun t x=>by subst x;exact h
theorem gh{all rest:List Oper}{o:Oper}{c:Call}{g:FuncId}{args b:List PV}{w u:WS}{r:PV}{i j:Nat}{s':AS}(hc:bC prog g (.ptr 0 0::args) w.O r u.H 3)(h:GO prog nt (.ops all rest::k) Q s')(ho:o.op= .call c:=by exact rfl)(hg:o.guard=io:=by exact rfl)(ha:bM s.f c=co (g,.ptr i 0::b):=by exact rfl)(hi:s.h.get i=co (w.ph i j):=by exact rfl)(hj:s.h.get j=co (.bh w.l 5):=by exact rfl)(hlt:OV i s.nx=is:=by exact rfl)(hlj:OV j s.nx=is:=by exact rfl)(hne:OW i j=jp:=by exact rfl)(has:b=args:=by exact rfl)(hlow:bd 0 args=is:=by exact rfl)(hr:r.low 0=is:=by exact rfl)(hp:putDst nt o r (wS s u i j)=co s':=by exact rfl):GO prog nt (.ops all (o::rest)::k) Q s:=MT (hc:=hc) (ho:=ho) (hg:=hg) (ha:=ha) (hi:=hi) (hj:=hj) (hlt:=hlt) (hlj:=hlj) (hne:=hne) (has:=has) (hlow:=hlow) (hr:=hr) (hp:=hp) (h:=h)
theorem zn{o:Oper}{c:Call}{g:FuncId}{b:List ak}{w u:WS}{i j m n:Nat}{s':AS}(hc:bC prog g [.ptr 0 0,.sl 2 0 b.length 1] [w.c,.bh w.l 5,aP 1 b cR] (.bf []) [(0,co (u.ph 0 3)),(3,co (.bh u.l 5))] 4)(ho:o.op= .call c)(ha:bM s.f c=co (g,[.ptr i 0,.sl m 0 n 1]))
  (hi:s.h.get i=co (w.ph i j)) (hj:s.h.get j=co (.bh w.l 5)) (hm:s.h.get m=co (aP 1 b cR)) (hn:n=b.length) (hlt:OV i s.nx=is) (hlj:OV j s.nx=is) (hlm:OV m s.nx=is) (hnd:cx [i,j,m]=is)
  (hp:putDst nt o (.bf []) (Lu s u i j m)=co s'):OT prog nt o s (fun t=>t=s'):=by
 have A: ∀x∈ [i,j,m],x<s.nx:=by
  intro x y;simp only[OG,Rf,or_false]at y;rcases y with rfl|rfl|rfl
  .exact Oq hlt
  .exact Oq hlj
  .exact Oq hlm
 subst hn;refine ll ho ha hc (ff hnd) A ?_ Z ?_
 .simp only[OU,Qo,hi,hj,hm,b5];rfl
 .rintro q B n0 ⟨rfl,rfl,rfl⟩;rw[JB]at hp;exact⟨s',hp,rfl⟩
theorem go_wp{all rest:List Oper}{o:Oper}{c:Call}{g:FuncId}{b:List ak}{w u:WS}{i j m n:Nat}{s':AS}(hc:bC prog g [.ptr 0 0,.sl 2 0 b.length 1] [w.c,.bh w.l 5,aP 1 b cR] (.bf []) [(0,co (u.ph 0 3)),(3,co (.bh u.l 5))] 4)(ho:o.op= .call c)(hg:o.guard=io)(ha:bM s.f c=co (g,[.ptr i 0,.sl m 0 n 1]))
  (hi:s.h.get i=co (w.ph i j)) (hj:s.h.get j=co (.bh w.l 5)) (hm:s.h.get m=co (aP 1 b cR)) (hn:n=b.length) (hlt:OV i s.nx=is) (hlj:OV j s.nx=is) (hlm:OV m s.nx=is) (hnd:cx [i,j,m]=is)
  (hp:putDst nt o (.bf []) (Lu s u i j m)=co s')
  (h:GO prog nt (.ops all rest::k) Q s'):GO prog nt (.ops all (o::rest)::k) Q s:=
 cM hg (zn hc ho ha hi hj hm hn hlt hlj hlm hnd hp) fun t x=>by subst x;exact h
theorem ia{all rest:List Oper}{o:Oper}{c:Call}{g:FuncId}{b:List ak}{w u:WS}{i j m n:Nat}{s':AS}(hc:bC prog g [.ptr 0 0,.sl 2 0 b.length 1] [w.c,.bh w.l 5,aP 1 b cR] (.bf []) [(0,co (u.ph 0 3)),(3,co (.bh u.l 5))] 4)(h:GO prog nt (.ops all rest::k) Q s')(ho:o.op= .call c:=by exact rfl)(hg:o.guard=io:=by exact rfl)(ha:bM s.f c=co (g,[.ptr i 0,.sl m 0 n 1]):=by exact rfl)(hi:s.h.get i=co (w.ph i j):=by exact rfl)(hj:s.h.get j=co (.bh w.l 5):=by exact rfl)(hm:s.h.get m=co (aP 1 b cR):=by exact rfl)(hn:n=b.length:=by exact rfl)(hlt:OV i s.nx=is:=by exact rfl)(hlj:OV j s.nx=is:=by exact rfl)(hlm:OV m s.nx=is:=by exact rfl)(hnd:cx [i,j,m]=is:=by exact rfl)(hp:putDst nt o (.bf []) (Lu s u i j m)=co s':=by exact rfl):GO prog nt (.ops all (o::rest)::k) Q s:=go_wp (hc:=hc) (ho:=ho) (hg:=hg) (ha:=ha) (hi:=hi) (hj:=hj) (hm:=hm) (hn:=hn) (hlt:=hlt) (hlj:=hlj) (hlm:=hlm) (hnd:=hnd) (hp:=hp) (h:=h)
theorem wg{all:List Oper}{todo pend:List (Nat×Oper)}{u:Nat}{B A:Prop}{o:Oper}{c:Call}{g:FuncId}{b:List ak}{w y:WS}{i j m n:Nat}{s':AS}(hc:bC prog g [.ptr 0 0,.sl 2 0 b.length 1] [w.c,.bh w.l 5,aP 1 b cR] (.bf []) [(0,co (y.ph 0 3)),(3,co (.bh y.l 5))] 4)
  (hrd:eJ todo=[(u,o)]) (ho:o.op= .call c) (ha:bM s.f c=co (g,[.ptr i 0,.sl m 0 n 1]))
  (hi:s.h.get i=co (w.ph i j)) (hj:s.h.get j=co (.bh w.l 5)) (hm:s.h.get m=co (aP 1 b cR)) (hn:n=b.length) (hlt:OV i s.nx=is) (hlj:OV j s.nx=is) (hlm:OV m s.nx=is) (hnd:cx [i,j,m]=is)
  (hp:putDst nt o (.bf []) (Lu s y i j m)=co s')
  (hg:bV nt all s.f o=co is) (hpb:gW all pend o=is) (hE:mU todo [u]=is)
  (hag:mV nD nt all s todo pend=co B) (hCA:B) (hag2:dD nD nt all s' (aZ pend o)=co A) (hC2:A)
  (h:GO prog nt (.bU all (todo.filter fun x=>!OW x.1 u) (aZ pend o)::k) Q s'):GO prog nt (.bU all todo pend::k) Q s:=
 kZ ab hrd hg hpb hE hag hCA (zn hc ho ha hi hj hm hn hlt hlj hlm hnd hp) hag2 hC2 h
theorem MU{all:List Oper}{todo pend:List (Nat×Oper)}{b:Nat}{y u:Prop}{o:Oper}{c:Call}{g:FuncId}{args A:List PV}{w B:WS}{r:PV}{i j:Nat}{s':AS}(hc:bC prog g (.ptr 0 0::args) w.O r B.H 3)
  (hrd:eJ todo=[(b,o)]) (ho:o.op= .call c) (ha:bM s.f c=co (g,.ptr i 0::A))
  (hi:s.h.get i=co (w.ph i j)) (hj:s.h.get j=co (.bh w.l 5)) (hlt:OV i s.nx=is) (hlj:OV j s.nx=is) (hne:OW i j=jp) (has:A=args) (hlow:bd 0 args=is) (hr:r.low 0=is)
  (hp:putDst nt o r (wS s B i j)=co s')
  (hg:bV nt all s.f o=co is) (hpb:gW all pend o=is) (hE:mU todo [b]=is)
  (hag:mV nD nt all s todo pend=co y) (hCA:y) (hag2:dD nD nt all s' (aZ pend o)=co u) (hC2:u)
  (h:GO prog nt (.bU all (todo.filter fun x=>!OW x.1 b) (aZ pend o)::k) Q s'):GO prog nt (.bU all todo pend::k) Q s:=
 kZ ab hrd hg hpb hE hag hCA (wJ hc ho ha hi hj hlt hlj hne has hlow hr hp) hag2 hC2 h
theorem tT{all:List Oper}{todo pend:List (Nat×Oper)}{b:Nat}{y u:Prop}{o:Oper}{c:Call}{g:FuncId}{args A:List PV}{w B:WS}{r:PV}{i j:Nat}{s':AS}(hc:bC prog g (.ptr 0 0::args) w.O r B.H 3)(h:GO prog nt (.bU all (todo.filter fun x=>!OW x.1 b) (aZ pend o)::k) Q s')(hrd:eJ todo=[(b,o)]:=by exact rfl)(ho:o.op= .call c:=by exact rfl)(ha:bM s.f c=co (g,.ptr i 0::A):=by exact rfl)(hi:s.h.get i=co (w.ph i j):=by exact rfl)(hj:s.h.get j=co (.bh w.l 5):=by exact rfl)(hlt:OV i s.nx=is:=by exact rfl)(hlj:OV j s.nx=is:=by exact rfl)(hne:OW i j=jp:=by exact rfl)(has:A=args:=by exact rfl)(hlow:bd 0 args=is:=by exact rfl)(hr:r.low 0=is:=by exact rfl)(hp:putDst nt o r (wS s B i j)=co s':=by exact rfl)(hg:bV nt all s.f o=co is:=by exact rfl)(hpb:gW all pend o=is:=by exact rfl)(hE:mU todo [b]=is:=by exact rfl)(hag:mV nD nt all s todo pend=co y:=by exact rfl)(hCA:y:=by(repeat' (first|exact ac|exact rfl|exact an.refl _|exact an.bk (by assumption)|apply Oz))<;>first|omega|(simp only[OA];omega)|(simp;done)|(simp;omega))(hag2:dD nD nt all s' (aZ pend o)=co u:=by exact rfl)(hC2:u:=by(repeat' (first|exact ac|exact rfl|exact an.refl _|exact an.bk (by assumption)|apply Oz))<;>first|omega|(simp only[OA];omega)|(simp;done)|(simp;omega)):GO prog nt (.bU all todo pend::k) Q s:=MU (hc:=hc) (hrd:=hrd) (ho:=ho) (ha:=ha) (hi:=hi) (hj:=hj) (hlt:=hlt) (hlj:=hlj) (hne:=hne) (has:=has) (hlow:=hlow) (hr:=hr) (hp:=hp) (hg:=hg) (hpb:=hpb) (hE:=hE) (hag:=hag) (hCA:=hCA) (hag2:=hag2) (hC2:=hC2) (h:=h)
theorem EA{l:List ResultVar}{r r0 a b c d:PV}{e:Exit}{u:WS}{j n:Nat}(he:e= .normal∨e= .ret)(hr:iT nD s l=co r0)(hi:s.h.get 0=co (.cells [a,b,c,d] (co 225)))(ha:a= .ei u.fr 0)(hb:b= .sl j 0 n 1)(hn:n=u.l.length)(hc:an c (pB u.bad))(hd:an d (pI u.br))
  (hj:s.h.get j=co (.bh u.l 5)) (hlj:OV j s.nx=is) (hne:OW 0 j=jp) (hns:Qr 2 s.nx=is)
  (hrl:an r0 r) (hlow:r.low 0=is) (hlow3:r.low 3=is):zl nD l 2 r u.H 3 e s:=by
 subst ha;subst hb;subst hn;refine aY [j] he hr ⟨rfl,Oq hns,fun x y=>?_,⟨?_,hlow3,ac⟩,⟨⟨_,hi,.cells ⟨.refl _,.refl _,hc,hd,ac⟩⟩,Oq Z,rfl,⟨.bh u.l 5,hj,.of_eq Z⟩,Oq Z,ac,ac⟩,?_⟩
 .simp only[OI]at y;subst y;exact Oq hlj
 .rw[PV.jA _ _ hlow];exact hrl
 .have:(0:Nat)≠j:=fun e=>by subst e;simp at hne
  show([0,j]:List Nat).Nodup;simpa using this
theorem gJ{l:List ResultVar}{r r0 a b c d:PV}{e:Exit}{u:WS}{j n:Nat}(he:e= .normal∨e= .ret:=by first|exact .inr Z|exact .inl Z)(hr:iT nD s l=co r0:=by exact rfl)(hi:s.h.get 0=co (.cells [a,b,c,d] (co 225)):=by exact rfl)(ha:a= .ei u.fr 0:=by exact rfl)(hb:b= .sl j 0 n 1:=by exact rfl)(hn:n=u.l.length:=by exact rfl)(hc:an c (pB u.bad):=by first|exact .refl _|exact .kb _)(hd:an d (pI u.br):=by first|exact .refl _|exact .kb _)(hj:s.h.get j=co (.bh u.l 5):=by exact rfl)(hlj:OV j s.nx=is:=by exact rfl)(hne:OW 0 j=jp:=by exact rfl)(hns:Qr 2 s.nx=is:=by exact rfl)(hrl:an r0 r:=by exact .refl _)(hlow:r.low 0=is:=by exact rfl)(hlow3:r.low 3=is:=by exact rfl):zl nD l 2 r u.H 3 e s:=EA (he:=he) (hr:=hr) (hi:=hi) (ha:=ha) (hb:=hb) (hn:=hn) (hc:=hc) (hd:=hd) (hj:=hj) (hlj:=hlj) (hne:=hne) (hns:=hns) (hrl:=hrl) (hlow:=hlow) (hlow3:=hlow3)
theorem Nx{n0 j m:Nat}{C:AF}{w A:WS}{a b c d:PV}(hw:w=A)(hi:s.h.get 0=co (.cells [a,b,c,d] (co 225)))(ha:a= .ei w.fr 0)(hb:b= .sl j 0 m 1)(hm:m=w.l.length)(hc:an c (pB w.bad))(hd:an d (pI w.br))(hj:s.h.get j=co (.bh w.l 5))
  (hlj:OV j s.nx=is) (hne:OW 0 j=jp) (h0:OV 0 n0=is) (hns:Qr n0 s.nx=is) (hf:Cy (n0+1) (sg n0 [j]) s.f C):Wk n0 [j] s ⟨C,[(0,co (A.ph 0 n0)),(n0,co (.bh A.l 5))],n0+1⟩:=by
 subst hw;subst ha;subst hb;subst hm;have u:0<n0:=Oq h0;have s0:sg n0 [j] 0=0:=fj u;have D:OV n0 n0=jp:=QQ.2 fun e=>absurd (Oq e) (by omega);have G:OV 0 (n0+1)=is:=Pp (by omega);have I:OV n0 (n0+1)=is:=Pp (by omega);have y:sg n0 [j] n0=j:=by simp[sg,D]
 refine⟨rfl,Oq hns,fun x B=>?_,hf,⟨⟨_,by rw[s0];exact hi,?_⟩,PS u,?_,⟨.bh w.l 5,by rw[y];exact hj,.of_eq Z⟩,P7 _,ac,ac⟩,?_⟩
 .simp only[OI]at B;subst B;exact Oq hlj
 .simp only[AO.cq,dy,PV.cq,s0,y];exact .cells ⟨.refl _,.refl _,hc,hd,ac⟩
 .simp[AO.low,bd,PV.low,G,I]
 .have:(0:Nat)≠j:=fun e=>by subst e;simp at hne
  simp only[eh,s0,y];simpa using this
theorem ou{n0 j m:Nat}{x:AF}{w u:WS}{a b c d:PV}(hw:w=u)(hi:s.h.get 0=co (.cells [a,b,c,d] (co 225)):=by exact rfl)(ha:a= .ei w.fr 0:=by exact rfl)(hb:b= .sl j 0 m 1:=by exact rfl)(hm:m=w.l.length:=by exact rfl)(hc:an c (pB w.bad):=by first|exact .refl _|exact .kb _)(hd:an d (pI w.br):=by first|exact .refl _|exact .kb _)(hj:s.h.get j=co (.bh w.l 5):=by exact rfl)(hlj:OV j s.nx=is:=by exact rfl)(hne:OW 0 j=jp:=by exact rfl)(h0:OV 0 n0=is:=by exact rfl)(hns:Qr n0 s.nx=is:=by exact rfl)(hf:Cy (n0+1) (sg n0 [j]) s.f x:=by repeat' (first|exact ac|exact an.refl _|exact rfl|apply Oz)):Wk n0 [j] s ⟨x,[(0,co (u.ph 0 n0)),(n0,co (.bh u.l 5))],n0+1⟩:=Nx (hw:=hw) (hi:=hi) (ha:=ha) (hb:=hb) (hm:=hm) (hc:=hc) (hd:=hd) (hj:=hj) (hlj:=hlj) (hne:=hne) (h0:=h0) (hns:=hns) (hf:=hf)
end
end
def xn(w:WS)(s:ak):WS:=⟨jp,w.l++s.data.toList,w.bad,w.br⟩
theorem d183(w:WS)(s:ak)(hb:w.l.length+s.size<=140737488355328):bC prog 205 [.ptr 0 0,pS s] w.O (.bf [pI s.size,.iv (.v .nilIface)]) (xn w s).H 3:=by
 refine au ab func205 Z (by decide) ntmps205 Z (by simp) ?_;refine gA Z (zq [0,1] (d204 w) ?_);refine gA Z ?_;refine Hs ab Z Z Z Z Z Z Z Z Z Z Z Z Z Z Z Z hb ?_;refine gA Z gJ
def aO(w:WS)(b:Bool):WS:=⟨w.fr,w.l,w.bad||!b,w.br⟩
theorem G9(w:WS){b:Bool}(h:(!b)=jp):aO w b=w:=by cases w;simp_all [aO]
theorem Ha(w:WS){b:Bool}(h:(!b)=is):aO w b=⟨w.fr,w.l,is,w.br⟩:=by cases w;simp_all [aO]
theorem d146(w:WS)(b:Bool):bC prog 185 [.ptr 0 0,pB b] w.O (.bf []) (aO w b).H 3:=by
 refine au ab func185 Z (by decide) ntmps185 Z (by simp) ?_;refine zJ Z Z (fun h=>?_) fun h=>?_
 .rw[Ha w h];refine gA Z gJ
 .rw[G9 w h];refine gA Z gJ
def aS(w:WS)(b:List ak):WS:=b.foldl xn w
def eI(b:List ak):Nat:=(b.map RI).sum
theorem Dw(w:WS)(s:ak):(xn w s).l.length=w.l.length+s.size:=by simp[xn]
theorem gV: ∀(b:List ak) (w:WS),(aS w b).l.length=w.l.length+eI b
 | [],w=>by simp[aS,eI]
 |s::r,w=>by
  have:=gV r (xn w s);simp only[aS,Pl]at this ⊢;rw[this,Dw];simp[eI];omega
theorem rT: ∀(b:List ak) (i:Nat),i<b.length->eI (b.take i)+(b.getD i ci).size<=eI b
 | [],i,h=>by simp at h
 |s::r,0,_=>by simp[eI]
 |s::r,i+1,h=>by
  have:=rT r i (by simpa using h);simp[eI]at this ⊢;omega
theorem d147(w:WS)(j:List ak)(hl:j.length<=1000)(hb:w.l.length+eI j<=140737488355328):bC prog 186 [.ptr 0 0,.sl 2 0 j.length 1] [w.c,.bh w.l 5,aP 1 j cR] (.bf []) [(0,co ((aS w j).ph 0 3)),(3,co (.bh (aS w j).l 5))] 4:=by
 refine au ab func186 Z (by decide) ntmps186 Z (by simp) ?_;refine gA Z ?_;refine we 2 (fun k=>cR (j.getD k ci)) Z (dG Z) (by simp[AF.oq,PV.cF,mv]) ⟨(by simp[AO.oq,c7,PV.cF]),ac,xf _ _ _ _ _ _,ac⟩ ?_;refine aK 0 j.length (OL _) (fun i=>⟨[(0,.ptr 0 0),(6,.iv (strs j)),(7,pI j.length),(8,pI i)],[(0,co ((aS w (j.take i)).ph 0 3)),(3,co (.bh (aS w (j.take i)).l 5))],4⟩) (fun _=>True) [1] ac
  (zM (bi ⟨.ck Z (fun k _=>by rw[OY]),rfl,bi (bi trivial)⟩) ⟨⟨_,rfl,.of_eq Z⟩,Oq Z,rfl,⟨_,rfl,.of_eq Z⟩,Oq Z,ac,ac⟩) fun i x _=>?_
 refine zJ Z Z (fun h1=>?_) fun h1=>?_
 .have h1:i<j.length:=zN h1;have hs:aS w (j.take (i+1))=xn (aS w (j.take i)) (j.getD i ci):=gF (g:=xn) (b:=w) h1;have u:=gV (j.take i) w;have y:=rT j i h1;refine gA Z (gh (d183 (aS w (j.take i)) (j.getD i ci) (by omega)) ?_);refine gA Z ⟨h1,ac,[4],zW ⟨⟨_,rfl,.of_eq (by rw[hs];rfl)⟩,Oq Z,rfl,⟨_,rfl,.of_eq (by rw[hs];rfl)⟩,Oq Z,ac,ac⟩⟩
 .have h1:j.length<=i:=zG h1;rw[OP h1];refine gA Z (zD [3] Z (zW ⟨⟨_,rfl,.of_eq Z⟩,Oq Z,rfl,⟨_,rfl,.of_eq Z⟩,Oq Z,ac,ac⟩))
end Go.Proofs.YtllkaddcplhklaaGreatDoor
namespace Go.Proofs
open Go.Shelf
def Tryz.v7:Go.Shelf.Ren:=⟨fun|171=>219|243=>221|246=>222|283=>223|284=>224|285=>225|286=>226|129=>104|317=>227|318=>228|319=>229|320=>230|337=>231|338=>232|n=>n,fun|3=>3|9=>9|2=>2|4=>4|171=>295|0=>0|53=>177|37=>221|5=>5|173=>297|212=>300|51=>175|20=>20|213=>301|46=>147|232=>302|233=>303|n=>n,fun|17=>1|18=>2|19=>3|n=>n⟩
theorem Tryz.D3:Go.Proofs.LaysM.n171 Tryz.prog Tryz.v7:={
 mixed:=by kernel_rfl
 f129:=Tryz.func104.trans (congrArg co (by kernel_rfl))
 f171:=Tryz.func219.trans (congrArg co (by kernel_rfl))
 f243:=Tryz.func221.trans (congrArg co (by kernel_rfl))
 f246:=Tryz.func222.trans (congrArg co (by kernel_rfl))
 f283:=Tryz.func223.trans (congrArg co (by kernel_rfl))
 f284:=Tryz.func224.trans (congrArg co (by kernel_rfl))
 f285:=Tryz.func225.trans (congrArg co (by kernel_rfl))
 f286:=Tryz.func226.trans (congrArg co (by kernel_rfl))
 f317:=Tryz.func227.trans (congrArg co (by kernel_rfl))
 f318:=Tryz.func228.trans (congrArg co (by kernel_rfl))
 f319:=Tryz.func229.trans (congrArg co (by kernel_rfl))
 f320:=Tryz.func230.trans (congrArg co (by kernel_rfl))
 f337:=Tryz.func231.trans (congrArg co (by kernel_rfl))
 f338:=Tryz.func232.trans (congrArg co (by kernel_rfl))
 t0:=Tryz.underlying0
 a0:=Tryz.isAgg0
 z0:=Tryz.sizeOf0
 v0:=Tryz.zeroValue0
 t2:=Tryz.underlying2
 a2:=Tryz.isAgg2
 z2:=Tryz.sizeOf2
 v2:=Tryz.zeroValue2
 t3:=Tryz.underlying3
 a3:=Tryz.isAgg3
 z3:=Tryz.sizeOf3
 v3:=Tryz.zeroValue3
 t4:=Tryz.underlying4
 a4:=Tryz.isAgg4
 z4:=Tryz.sizeOf4
 v4:=Tryz.zeroValue4
 t5:=Tryz.underlying5
 a5:=Tryz.isAgg5
 z5:=Tryz.sizeOf5
 v5:=Tryz.zeroValue5
 t9:=Tryz.underlying9
 a9:=Tryz.isAgg9
 z9:=Tryz.sizeOf9
 v9:=Tryz.zeroValue9
 t20:=Tryz.underlying20
 a20:=Tryz.isAgg20
 z20:=Tryz.sizeOf20
 v20:=Tryz.zeroValue20
 t37:=Tryz.underlying221
 a37:=Tryz.isAgg221
 z37:=Tryz.sizeOf221
 v37:=Tryz.zeroValue221
 t46:=Tryz.underlying147
 a46:=Tryz.isAgg147
 z46:=Tryz.sizeOf147
 v46:=Tryz.zeroValue147
 t51:=Tryz.underlying175
 a51:=Tryz.isAgg175
 z51:=Tryz.sizeOf175
 v51:=Tryz.zeroValue175
 t53:=Tryz.underlying177
 a53:=Tryz.isAgg177
 z53:=Tryz.sizeOf177
 v53:=Tryz.zeroValue177
 t171:=Tryz.underlying295
 a171:=Tryz.isAgg295
 z171:=Tryz.sizeOf295
 v171:=Tryz.zeroValue295
 t173:=Tryz.underlying297
 a173:=Tryz.isAgg297
 z173:=Tryz.sizeOf297
 v173:=Tryz.zeroValue297
 t212:=Tryz.underlying300
 a212:=Tryz.isAgg300
 z212:=Tryz.sizeOf300
 v212:=Tryz.zeroValue300
 t213:=Tryz.underlying301
 a213:=Tryz.isAgg301
 z213:=Tryz.sizeOf301
 t232:=Tryz.underlying302
 a232:=Tryz.isAgg302
 z232:=Tryz.sizeOf302
 v232:=Tryz.zeroValue302
 t233:=Tryz.underlying303
 a233:=Tryz.isAgg303
 z233:=Tryz.sizeOf303
 v233:=Tryz.zeroValue303
 g17:=by kernel_rfl
 g18:=by kernel_rfl
 g19:=by kernel_rfl
 i0:=by kernel_rfl
 i2:=by kernel_rfl
 i3:=by kernel_rfl
 i4:=by kernel_rfl
 i5:=by kernel_rfl
 i9:=by kernel_rfl
 i20:=by kernel_rfl
 i37:=by kernel_rfl
 i46:=by kernel_rfl
 i51:=by kernel_rfl
 i53:=by kernel_rfl
 i171:=by kernel_rfl
 i173:=by kernel_rfl
 i212:=by kernel_rfl
 i232:=by kernel_rfl
 i233:=by kernel_rfl
 m17:=by kernel_rfl
 m18:=by kernel_rfl
 m19:=by kernel_rfl}
theorem YtllkaddcplhklaaGreatDoor.MN (n:Int) (h0: -9223372036854775808<=n) (h1:n<=9223372036854775807) (w:World) (b:Lib.TabIs Tryz.prog w "internal/strconv.uint64pow10" .u64 Lib.pow10Tab):
  Calls Tryz.prog 219 #[.int .i64 n] w fun e j=>e= .returned (.string ⟨(Lib.itoa n).toArray⟩)∧ ∃k os,j=Go.Sort.grow (w.drewN k) os:=Any.strconv_Itoa Tryz.D3 n h0 h1 w b
end Go.Proofs
namespace Go.Proofs.YtllkaddcplhklaaGreatDoor
open Go Go.Al Go.Proofs.Tryz
theorem NL:prog.globalNamed "internal/strconv.uint64pow10" =co 1:=by kernel_rfl
theorem pow_eq:nU=Lib.pow10Tab:=by decide
theorem Nz{M:Mem}{N:Nm}{U:Nat->Prop}{h:AH}{w:World}(hr:Rel M N U h w):Lib.TabIs prog w "internal/strconv.uint64pow10" .u64 Lib.pow10Tab:=by
 obtain⟨T,b,h1⟩:=hr.dZ 1 _ (M.HC 1 _ Z);show World.var? _ _ _=_;simp only[World.var?,NL,QG,h1,pow_eq]
theorem N5(n:Int)(h0: -9223372036854775808<=n)(h1:n<=9223372036854775807):Pure prog 219 [pI n] (pS ⟨(Lib.itoa n).toArray⟩):=by
 refine⟨bm func219 Z (by decide),fun M N w vs y x D=>?_⟩;obtain⟨v,rfl⟩: ∃v,vs=[v]:=by
  cases vs with
  |nil=>cases x
  |cons v r=>cases r with
   |nil=>exact⟨v,rfl⟩
   |cons a b=>simp at x
 have A:VR M N (· <0) (pI n) v:=D 0 _ Z;have B:v= .int .i64 n:=by
  cases A with
  |iv _ _ h=>cases h;rfl
 subst B;refine(MN n h0 h1 w (Nz y)).mono ?_;rintro e G ⟨rfl,k,os,rfl⟩;have hk: ∀b,b<w.heap.size->(Go.Sort.grow (w.drewN k) os).heap[b]? =w.heap[b]? :=fun b hb=>by
  show(w.heap++os)[b]? =_;rw[Pa hb]
 refine⟨_,M,N,pS ⟨(Lib.itoa n).toArray⟩,[],0,rfl,⟨rfl,rfl,rfl⟩,⟨rfl,rfl,⟨rfl,Rc _ _⟩,?_,fun b hb _=>hk b hb,.refl _,fun b c h1 C=>(nomatch (h1.symm.trans C)),.refl _ _,fun _ h=>h,fun i o u=>(nomatch u)⟩,⟨fun b c hb=>?_,fun i o u=>(nomatch u),fun i o u=>(nomatch u),fun i o u=>(nomatch u),fun i j o p u=>(nomatch u)⟩,.iv _ _ (.v _)⟩
 .show w.heap.size<=(w.heap++os).size;simp
 .exact(y.dZ b c hb).mono (hk b (y.dZ b c hb).lt)
def NK:ak:=⟨#[48,49,50,51,52,53,54,55,56,57,65,66,67,68,69,70]⟩
def Ls(c:UInt8):Int:=(c.toNat:Int).fdiv (2 ^ min (Int.toNat 4) IntKind.u8.bits)
def Lr(c:UInt8):Int:=IntKind.u8.wrap ((BitVec.ofInt IntKind.u8.bits (c.toNat:Int)&&&BitVec.ofInt IntKind.u8.bits 15).toNat:Int)
theorem K0(c:UInt8):0<=Ls c∧Ls c<16:=by
 have h:c.toNat<256:=c.toNat_lt;have e:Ls c=(c.toNat:Int)/16:=by
  unfold Ls;have:(2:Int) ^ min (Int.toNat 4) IntKind.u8.bits=16:=by decide
  rw[this];exact Int.fdiv_eq_ediv_of_nonneg _ (by decide)
 rw[e];omega
theorem KY: ∀c:UInt8,0<=Lr c∧Lr c<16:=by
 intro c;have h: ∀n:Fin 256,0<=Lr (UInt8.ofNat n.val)∧Lr (UInt8.ofNat n.val)<16:=by decide
 have:=h ⟨c.toNat,c.toNat_lt⟩;simpa using this
def MQ(n:Int):UInt8:=NK.data.toList.getD n.toNat 0
def qB(c:UInt8):List UInt8:=if c.toNat=34∨c.toNat=92 then[92,c] else if c.toNat=10 then[92,110] else if c.toNat<32∨126<c.toNat then[92,120,MQ (Ls c),MQ (Lr c)] else[c]
theorem KO(c:UInt8):(qB c).length<=4:=by
 unfold qB
 repeat' split
 all_goals simp
def pJ(s:ak)(i:Nat):List UInt8:=34::(s.data.toList.take i).flatMap qB
def pF(s:ak):ak:=⟨(34::s.data.toList.flatMap qB++ [34]).toArray⟩
theorem sa(s:ak): ∀i,(pJ s i).length<=1+4*i
 |0=>by simp[pJ]
 |i+1=>by
  have h:=sa s i;rcases Pw i s.data.toList.length with hi|hi
  .have:=KO (s.data.toList.getD i ci);simp only[pJ,O6]at h ⊢;rw[bK hi,Oy];omega
  .simp only[pJ,OP hi]at h;simp only[pJ,OP (by omega:s.data.toList.length<=i+1)];omega
theorem BH{s:ak}{i:Nat}(h:i<s.data.toList.length):pJ s (i+1)=pJ s i++qB (s.data.toList.getD i ci):=by
 simp only[pJ,bK h,PO]
theorem N4(s:ak)(hs:s.size<=1000):Pure prog 220 [pS s] (pS (pF s)):=by
 have hl:s.data.toList.length=s.size:=by simp
 refine ai ab func220 Z (by decide) ntmps220 Z (by simp) Z ?_;refine gA Z ?_;refine B6 ab Z Z Z Z Z Z Z Z Z Z Z (by omega) ?_;refine gA Z ?_;refine aK 0 s.data.toList.length (OL _) (fun i=>⟨[(3,.sl 1 0 (pJ s i).length 1),(8,.iv (.ck 1 s.data.toList.length fun k=>s9 (s.data.toList.getD k ci))),(9,pI s.data.toList.length),(10,pI i)],[(1,co (aP 1 (pJ s i) s9))],2⟩) (fun _=>True) [0] ac
  (zW (zS trivial)) fun i I _=>?_
 have J:=sa s i;refine zE Z Z (fun h1=>?_) fun h1=>?_
 .have h1:s.data.toList.length<=i:=zG h1;refine gA Z ?_;refine HB ab (pJ s i++ [34]) Z Z Z Z Z Z Z Z Z Z Z Z (by rw[OM];rfl) (by rw[Oy];rfl) ?_;refine gA Z (zL (.of_eq ?_));simp only[pJ,pF,OP h1];rfl
 have h1:i<s.data.toList.length:=zN h1;have b:=BH h1;have j:s.data.toList.getD (i:Int).toNat ci=s.data.toList.getD i ci:=rfl;generalize G:s.data.toList.getD i ci=c at b j;refine zJ Z Z (fun A=>?_) fun A=>?_
 .have A:c.toNat=34:=by have:=zT A;rw[j]at this;omega
  rw[qB,am (.inl A)]at b;refine gA Z ⟨h1,ac,[3],zM ⟨.row (by rw[b,Oy];rfl),rfl,bi (bi (bi ac))⟩ (hR Z (by rw[b,OM,<-G];rfl) Z ac)⟩
 have A: ¬c.toNat=34:=by have:=zF A;rw[j]at this;omega
 refine zJ Z Z (fun B=>?_) fun B=>?_
 .have B:c.toNat=92:=by have:=zT B;rw[j]at this;omega
  rw[qB,am (.inr B)]at b;refine gA Z ⟨h1,ac,[3],zM ⟨.row (by rw[b,Oy];rfl),rfl,bi (bi (bi ac))⟩ (hR Z (by rw[b,OM,<-G];rfl) Z ac)⟩
 have B: ¬c.toNat=92:=by have:=zF B;rw[j]at this;omega
 rw[qB,be (by omega)]at b;refine zJ Z Z (fun y=>?_) fun y=>?_
 .have y:c.toNat=10:=by have:=zT y;rw[j]at this;omega
  rw[am y]at b;refine gA Z ⟨h1,ac,[3],zM ⟨.row (by rw[b,Oy];rfl),rfl,bi (bi (bi ac))⟩ (hR Z (by rw[b,OM];rfl) Z ac)⟩
 have y: ¬c.toNat=10:=by have:=zF y;rw[j]at this;omega
 rw[be y]at b;have u:=K0 c;have x:=KY c;rw[<-G]at u x;simp only[Ls,Lr]at u x;refine zJ Z Z (fun C=>?_) fun C=>?_
 .have C:c.toNat<32:=by have:=zT C;rw[j]at this;omega
  rw[am (.inl C)]at b;refine fk Z (by(repeat' (first|exact ac|exact rfl|exact an.refl _|exact u|exact x|apply Oz))<;>first|omega|exact u.1|exact u.2|exact x.1|exact x.2|simp) ?_;exact⟨h1,ac,[3],zM ⟨.row (by rw[b,Oy];rfl),rfl,bi (bi (bi ac))⟩ (hR Z (by rw[b,OM,<-G];rfl) Z ac)⟩
 have C: ¬c.toNat<32:=by have:=zF C;rw[j]at this;omega
 refine zJ Z Z (fun D=>?_) fun D=>?_
 .have D:126<c.toNat:=by have:=zT D;rw[j]at this;omega
  rw[am (.inr D)]at b;refine fk Z (by(repeat' (first|exact ac|exact rfl|exact an.refl _|exact u|exact x|apply Oz))<;>first|omega|exact u.1|exact u.2|exact x.1|exact x.2|simp) ?_;exact⟨h1,ac,[3],zM ⟨.row (by rw[b,Oy];rfl),rfl,bi (bi (bi ac))⟩ (hR Z (by rw[b,OM,<-G];rfl) Z ac)⟩
 have D: ¬126<c.toNat:=by have:=zF D;rw[j]at this;omega
 rw[be (by omega)]at b;refine gA Z ⟨h1,ac,[3],zM ⟨.row (by rw[b,Oy];rfl),rfl,bi (bi (bi ac))⟩ (hR Z (by rw[b,OM,<-G];rfl) Z ac)⟩
def uh(v:c8):ak:=if v.kind=1 then⟨(Lib.itoa v.num).toArray⟩ else if gZ v.sym then v.sym else pF v.sym
theorem rN{v:c8}(h:cD v=0)(h1:v.kind=1): -2147483647<=v.num∧v.num<=2147483647:=by
 unfold cD at h;rw[am h1]at h;split at h
 .rename_i b;exact b.2
 .cases h
theorem rM{v:c8}(h:cD v=0)(h1: ¬v.kind=1):v.sym.size<=64:=by
 unfold cD at h;rw[be h1]at h;split at h
 .split at h
  .rename_i b;exact b.2
  .cases h
 .cases h
theorem N6(v:c8)(j:cD v=0):Pure prog 214 [ag v.c] (pS (uh v)):=by
 refine ai ab func214 Z (by decide) ntmps214 Z (by simp) Z ?_;refine zJ Z Z (fun h1=>?_) fun h1=>?_
 .have h1:v.kind=1:=by simpa using h1
  have:=rN j h1;refine gA Z (zp (N5 v.num (by omega) (by omega)) ?_);refine gA Z (zL (.of_eq ?_));rw[uh,am h1];rfl
 have h1: ¬v.kind=1:=by simpa using h1
 have hs:=rM j h1;refine gA Z (zp (Nt v.sym) ?_);refine zJ Z Z (fun b=>?_) fun b=>?_
 .have b:gZ v.sym=is:=b;refine gA Z (zL (.of_eq ?_));rw[uh,be h1,am b];rfl
 .have b:gZ v.sym=jp:=b;refine gA Z (zp (N4 v.sym (by omega)) ?_);refine gA Z (zL (.of_eq ?_));rw[uh,be h1,be (by rw[b];simp)];rfl
def qi(v:c8):ak:=if cD v=0 then uh v else⟨#[]⟩
theorem N9(v:c8):Pure prog 206 [ag v.c] (.bf [pS (qi v),pI (cD v)]):=by
 refine ai ab func206 Z (by decide) ntmps206 Z (by simp) Z ?_;refine gA Z (zp (Nc v) ?_);refine zJ Z Z (fun h1=>?_) fun h1=>?_
 .have h1: ¬cD v=0:=by simpa using h1
  refine gA Z (zL (.of_eq ?_));rw[qi,be h1];rfl
 .have h1:cD v=0:=by simpa using h1
  refine gA Z (zp (N6 v h1) ?_);refine gA Z (zL (.of_eq ?_));rw[qi,am h1,h1];rfl
def lG(w:WS)(v:c8):WS:=aS (aO w (kw (cD v=0))) [qi v]
theorem d149(w:WS)(v:c8)(hb:w.l.length<=1000000000000)(b:(qi v).size<=1000):bC prog 188 [.ptr 0 0,ag v.c] w.O (.bf []) (lG w v).H 3:=by
 refine au ab func188 Z (by decide) ntmps188 Z (by simp) ?_;refine gA Z (zp (N9 v) ?_);refine gA Z (MT (d146 ⟨_,_,_,_⟩ (kw (cD v=0))) Z Z Z Z Z Z Z Z Z Z Z Z ?_);refine gA Z (go_wp (d147 ⟨_,_,_,_⟩ [qi v] (by simp) (by simp[eI,aO];omega)) Z Z Z Z Z Z Z Z Z Z Z Z ?_);refine gA Z gJ
def cj(op:Int):Int:=if op=1∨op=2 then 1 else if op=3∨op=4∨op=5 then 2 else if op=6 then 3 else 0
theorem HP(op:Int):Pure prog 208 [pI op] (pI (cj op)):=by
 refine ai ab func208 Z (by decide) ntmps208 Z (by simp) Z ?_
 repeat' (first|(refine gA Z (zI (fun _=>?_) (fun _=>?_)))|(refine gA Z (zL (.of_eq ?_))))
 all_goals(refine(Ct ?_:pI _=pI _);simp only[QC,Q7,decide_eq_true_eq,decide_eq_false_iff_not] at*;simp_all [cj])
def dC(e:Expr):Int:=if e.kind=4 then cj e.op else 4
theorem Ck(e:Expr):Pure prog 216 [ag e.c] (pI (dC e)):=by
 refine ai ab func216 Z (by decide) ntmps216 Z (by simp) Z ?_
 repeat' (first|(refine gA Z (zI (fun _=>?_) (fun _=>?_)))|(refine gA Z (zp (HP e.op) ?_))|(refine gA Z (zL (.of_eq ?_))))
 all_goals(refine(Ct ?_:pI _=pI _);simp_all [dC])
def dE(v:c8):Bool:=kw (v.kind=0)&&(kw (v.num=0)&&(kw (v.sym=OB)&&is))
def iJ(e:Expr):Bool:=kw (e.kind=0)&&(kw (e.var=⟨#[]⟩)&&(dE e.val&&(kw (e.op=0)&&kw ((e.args.length:Int)=0))))
theorem HQ(e:Expr):Pure prog 207 [ag e.c] (pB (iJ e)):=by
 refine ai ab func207 Z (by decide) ntmps207 Z (by simp) Z ?_
 repeat' (first|(refine gA Z (zI (fun _=>?_) (fun _=>?_)))|(refine gA Z (zL (.of_eq ?_))))
 all_goals(refine(lP ?_:pB _=pB _))
 all_goals(simp only[iJ,dE, *];rfl)
def jQ(l:Lit):Bool:=
 (kw (l.kind=1)||decide (l.kind=2)||!(!kw (l.atom.rel=⟨#[]⟩)||decide ((l.atom.aj.length:Int)>0)))&&
 ((!(!kw (l.kind=3))||!(!kw (l.op=0)||(!iJ l.left||!iJ l.right)))&&
 (kw (l.kind=4)||(kw (l.dQ=0)&&(kw (l.bx=⟨#[]⟩)&&(iJ l.jw&&kw ((l.ar.length:Int)=0))))))
set_option maxHeartbeats 4000000 in
theorem N8(l:Lit):Pure prog 190 [ag l.c] (pB (jQ l)):=by
 refine ai ab func190 Z (by decide) ntmps190 Z (by simp) Z ?_
 repeat' (first|(refine gA Z (zI (fun _=>?_) (fun _=>?_)))|(refine gA Z (zp (HQ l.left) ?_))|(refine gA Z (zp (HQ l.right) ?_))|(refine gA Z (zp (HQ l.jw) ?_))|(refine gA Z (zL (.of_eq ?_))))
 all_goals(refine(lP ?_:pB _=pB _))
 all_goals(try simp only[QC,Q7] at*)
 all_goals(simp_all [jQ])
def lv(op:Int):ak:=if op=1 then⟨#[43]⟩ else if op=2 then⟨#[45]⟩ else if op=3 then⟨#[42]⟩ else if op=4 then⟨#[47]⟩ else⟨#[109,111,100]⟩
def sgL:ak:=⟨#[43,45,42,47]⟩
theorem N3(op:Int):Pure prog 217 [pI op] (pS (lv op)):=by
 refine ai ab func217 Z (by decide) ntmps217 Z (by simp) Z ?_;refine gA Z ?_;refine uY ab Z Z Z Z Z Z Z ?_;refine gA Z ?_;refine aK 0 4 (by decide) (fun i=>⟨[(0,pI op),(5,.ptr 0 0)],[(0,co (.dJ sgL i))],1⟩) (fun i=> ∀k:Nat,k<i-> ¬(k:Int)+1=op) [] (by simp)
  (zW ⟨⟨_,rfl,.of_eq Z⟩,Oq Z,ac,ac⟩) fun i B b=>?_
 have u:i=0∨i=1∨i=2∨i=3∨i=4:=by omega
 rcases u with rfl|rfl|rfl|rfl|rfl
 .refine gA Z ?_;refine kq Z Z Z Z Z Z (fun h=>absurd h (by decide)) (fun _=>?_);refine zJ Z Z (fun h=>?_) fun h=>?_
  .have h:op=1:=by have:=zT h;omega
   refine gA Z ?_;refine rr ab Z Z Z Z Z Z Z Z Z ?_;refine gA Z (zL (.of_eq ?_));refine(congrArg pS ?_:pS _=pS _);subst h;decide
  .have h: ¬op=1:=by have:=zF h;omega
   refine gA Z ⟨by decide,fun k hk=>(by rcases(by omega:k<0∨k=0) with j|rfl;exact b k j;omega),[],zW ⟨⟨_,rfl,.of_eq Z⟩,Oq Z,ac,ac⟩⟩
 .refine gA Z ?_;refine kq Z Z Z Z Z Z (fun h=>absurd h (by decide)) (fun _=>?_);refine zJ Z Z (fun h=>?_) fun h=>?_
  .have h:op=2:=by have:=zT h;omega
   refine gA Z ?_;refine rr ab Z Z Z Z Z Z Z Z Z ?_;refine gA Z (zL (.of_eq ?_));refine(congrArg pS ?_:pS _=pS _);subst h;decide
  .have h: ¬op=2:=by have:=zF h;omega
   refine gA Z ⟨by decide,fun k hk=>(by rcases(by omega:k<1∨k=1) with j|rfl;exact b k j;omega),[],zW ⟨⟨_,rfl,.of_eq Z⟩,Oq Z,ac,ac⟩⟩
 .refine gA Z ?_;refine kq Z Z Z Z Z Z (fun h=>absurd h (by decide)) (fun _=>?_);refine zJ Z Z (fun h=>?_) fun h=>?_
  .have h:op=3:=by have:=zT h;omega
   refine gA Z ?_;refine rr ab Z Z Z Z Z Z Z Z Z ?_;refine gA Z (zL (.of_eq ?_));refine(congrArg pS ?_:pS _=pS _);subst h;decide
  .have h: ¬op=3:=by have:=zF h;omega
   refine gA Z ⟨by decide,fun k hk=>(by rcases(by omega:k<2∨k=2) with j|rfl;exact b k j;omega),[],zW ⟨⟨_,rfl,.of_eq Z⟩,Oq Z,ac,ac⟩⟩
 .refine gA Z ?_;refine kq Z Z Z Z Z Z (fun h=>absurd h (by decide)) (fun _=>?_);refine zJ Z Z (fun h=>?_) fun h=>?_
  .have h:op=4:=by have:=zT h;omega
   refine gA Z ?_;refine rr ab Z Z Z Z Z Z Z Z Z ?_;refine gA Z (zL (.of_eq ?_));refine(congrArg pS ?_:pS _=pS _);subst h;decide
  .have h: ¬op=4:=by have:=zF h;omega
   refine gA Z ⟨by decide,fun k hk=>(by rcases(by omega:k<3∨k=3) with j|rfl;exact b k j;omega),[],zW ⟨⟨_,rfl,.of_eq Z⟩,Oq Z,ac,ac⟩⟩
 .refine gA Z ?_;refine kq Z Z Z Z Z Z (fun _=>?_) (fun h=>absurd h (by decide));refine gA Z (zL (.of_eq ?_));have h1:=b 0 (by decide);have x:=b 1 (by decide);have y:=b 2 (by decide);have A:=b 3 (by decide);rw[lv,be (by omega),be (by omega),be (by omega),be (by omega)];rfl
theorem yI(s:ak):(pF s).size<=2+4*s.size:=by
 have h:=sa s s.data.toList.length;simp only[pJ,Qd,O6]at h;have e:(pF s).size=(34::s.data.toList.flatMap qB++ [34]).length:=by simp[pF,RI]
 have:s.data.toList.length=s.size:=by simp
 rw[e,Oy,O6,Pu];omega
theorem po(v:c8):(qi v).size<=300:=by
 unfold qi;split
 .rename_i b;unfold uh;split
  .rename_i h1;have:=rN b h1;have j:=Lib.itoa_length_le v.num (by omega) (by omega);have e:(⟨(Lib.itoa v.num).toArray⟩:ByteArray).size=(Lib.itoa v.num).length:=by simp[RI]
   omega
  .rename_i h1;have j:=rM b h1;split
   .omega
   .have:=yI v.sym;omega
 .decide
mutual
def Expr.ts:Expr->Nat
 | .mk _ v _ _ args=>v.size+400+Expr.mQ args
def Expr.mQ:List Expr->Nat
 | []=>0
 |e::r=>e.ts+Expr.mQ r
end
theorem Expr.qh(e:Expr):e.ts=e.var.size+400+Expr.mQ e.args:=by cases e;rfl
theorem Expr.vp: ∀(l:List Expr) (k:Nat),k<l.length->(l.getD k ci).ts<=Expr.mQ l
 |e::r,0,_=>by simp[Expr.mQ]
 |e::r,k+1,h=>by
  have:=Expr.vp r k (by simpa using h);simp only[PK,Expr.mQ];omega
 | [],k,h=>by simp at h
theorem Expr.zx: ∀(l:List Expr),l.length=2->(l.getD 0 ci).ts+(l.getD 1 ci).ts<=Expr.mQ l
 | [a,b],_=>by simp[Expr.mQ]
 | [],h=>by simp at h
 | [a],h=>by simp at h
 |a::b::c::r,h=>by simp at h
def sM:ak:=⟨#[45]⟩
def sO:ak:=⟨#[40]⟩
def sC:ak:=⟨#[41]⟩
def zV:ak:=⟨#[32]⟩
def mu(w:WS):WS:=⟨w.fr,w.l,is,w.br⟩
def nf(e:Expr):Bool:=fb e.var&&(dE e.val&&(kw (e.op=0)&&kw ((e.args.length:Int)=0)))
def oH(e:Expr):Bool:=kw (e.var=⟨#[]⟩)&&(kw (e.op=0)&&kw ((e.args.length:Int)=0))
def qT(e:Expr):Bool:=kw (e.var=⟨#[]⟩)&&(dE e.val&&kw (cj e.op>0))
def bW(e:Expr):Expr:=e.args.getD 0 ci
def wB(e:Expr):Expr:=e.args.getD 1 ci
def vR(e:Expr):Bool:=kw (e.kind=2)&&kw (e.val.kind=1)
def lx(a:Expr):Bool:=kw (dC a<3)||(vR a&&kw (a.val.num>0))
def iW(w:WS)(e:Expr)(k:WS):WS:=
 if w.bad=is then mu w else if e.kind=1 then aS (aO w (nf e)) [e.var] else if e.kind=2 then lG (aO w (oH e)) e.val else if e.kind=4 then k else mu w
def j6(a0:Bool->WS->Expr->WS)(w:WS)(e:Expr):WS:=
 if w.bad=is then mu w else if e.op=6 then
  (if e.args.length=1 then a0 (lx (bW e)) (if(vR (bW e)&&kw ((bW e).val.num=0))=is then aS (aS w [sM]) [sM] else aS w [sM]) (bW e) else mu w)
 else if e.args.length=2 then a0 (kw (dC (wB e)<=cj e.op)) (aS (a0 (kw (dC (bW e)<cj e.op)) w (bW e)) [zV,lv e.op,zV]) (wB e) else mu w
def cH:Nat->WS->Expr->WS
 |0,w,_=>mu w
 |1,w,e=>iW w e (mu (aO w (qT e)))
 |m+2,w,e=>iW w e (j6 (fun b w a=>if b=is then aS (cH m (aS w [sO]) a) [sC] else cH (m+1) w a) (aO w (qT e)) e)
def tZ(m:Nat)(b:Bool)(w:WS)(a:Expr):WS:=if b=is then aS (cH m (aS w [sO]) a) [sC] else cH (m+1) w a
theorem aJ(w:WS)(b:Bool):(aO w b).l=w.l:=rfl
theorem fa(w:WS):(mu w).l=w.l:=rfl
theorem bD(s:ak):eI [s]=s.size:=by simp[eI]
theorem w6(op:Int):(lv op).size<=3:=by
 unfold lv
 repeat' split
 all_goals decide
theorem aH(w:WS)(s:ak):(aS w [s]).l.length=w.l.length+s.size:=by rw[gV,bD]
theorem rL(w:WS)(v:c8):(lG w v).l.length<=w.l.length+300:=by
 have:=po v;rw[lG,aH,aJ];omega
theorem uQ(w k:WS)(e:Expr)(h:k.l.length<=w.l.length+e.ts):(iW w e k).l.length<=w.l.length+e.ts:=by
 have:=e.qh;unfold iW
 repeat' split
 .rw[fa];omega
 .rw[aH,aJ];omega
 .have:=rL (aO w (oH e)) e.val;rw[aJ]at this;omega
 .exact h
 .rw[fa];omega
theorem BK(a0:Bool->WS->Expr->WS)(j: ∀b w a,(a0 b w a).l.length<=w.l.length+(2+a.ts))(w:WS)(e:Expr):(j6 a0 w e).l.length<=w.l.length+e.ts:=by
 have B:=e.qh;unfold j6;split
 .rw[fa];omega
 split
 .split
  .rename_i h1;have y:=Expr.vp e.args 0 (by omega);have u:sM.size=1:=rfl;split
   .have:=j (lx (bW e)) (aS (aS w [sM]) [sM]) (bW e);rw[aH,aH]at this;simp only[bW]at this ⊢;omega
   .have:=j (lx (bW e)) (aS w [sM]) (bW e);rw[aH]at this;simp only[bW]at this ⊢;omega
  .rw[fa];omega
 .split
  .rename_i h1;have y:=Expr.zx e.args h1;have x:=j (kw (dC (wB e)<=cj e.op)) (aS (a0 (kw (dC (bW e)<cj e.op)) w (bW e)) [zV,lv e.op,zV]) (wB e);have C:=j (kw (dC (bW e)<cj e.op)) w (bW e);have D:=w6 e.op;have u:zV.size=1:=rfl;rw[gV]at x;have A:eI [zV,lv e.op,zV]=1+((lv e.op).size+1):=by simp[eI,u]
   simp only[bW,wB] at*;omega
  .rw[fa];omega
theorem cZ: ∀(n:Nat) (w:WS) (e:Expr),(cH n w e).l.length<=w.l.length+e.ts
 |0,w,e=>by rw[cH,fa];omega
 |1,w,e=>by rw[cH];exact uQ _ _ _ (by rw[fa,aJ];omega)
 |m+2,w,e=>by
  rw[cH];refine uQ _ _ _ ?_
  have:=BK (fun j w a=>if j=is then aS (cH m (aS w [sO]) a) [sC] else cH (m+1) w a) (fun b w a=>by
   split
   .have h1:=cZ m (aS w [sO]) a;have u:sO.size=1:=rfl;have x:sC.size=1:=rfl;rw[aH]at h1 ⊢;omega
   .have:=cZ (m+1) w a
    omega) (aO w (qT e)) e
  rwa[aJ]at this
theorem E2(m:Nat)(b:Bool)(w:WS)(a:Expr):(tZ m b w a).l.length<=w.l.length+(2+a.ts):=by
 unfold tZ;split
 .have h1:=cZ m (aS w [sO]) a;have j:sO.size=1:=rfl;have u:sC.size=1:=rfl;rw[aH]at h1 ⊢;omega
 .have:=cZ (m+1) w a;omega
def PE(n:Nat):Prop:= ∀(d:Int) (w:WS) (e:Expr),d+1=n->w.l.length+e.ts<=1000000000->bC prog 191 [.ptr 0 0,ag e.c,pI d] w.O (.bf []) (cH n w e).H 3
theorem d225(n:Nat)(hn:n<=1000)(x:PE (n+1))(y:PE n)(b:Bool)(d:Int)(hd:d=n)(w:WS)(e:Expr)(hb:w.l.length+e.ts+2<=1000000000):bC prog 215 [.ptr 0 0,ag e.c,pB b,pI d] w.O (.bf []) (tZ n b w e).H 3:=by
 refine au ab func215 Z (by decide) ntmps215 Z (by simp) ?_;refine zJ Z Z (fun h=>?_) fun h=>?_
 .have h:b=jp:=by simpa using h
  rw[tZ,be (by rw[h];simp)];refine gA Z (gh (x d w e (by omega) (by omega)) ?_);refine gA Z gJ
 .have h:b=is:=by simpa using h
  rw[tZ,am h];have j:sO.size=1:=rfl;have u:sC.size=1:=rfl;have hl:=cZ n (aS w [sO]) e;have A:=aH w sO;refine gA Z (ia (d147 w [sO] (by simp) (by rw[bD,j];omega)) ?_);refine gA Z (gh (y (d-1) (aS w [sO]) e (by omega) (by omega)) ?_);refine gA Z (ia (d147 (cH n (aS w [sO]) e) [sC] (by simp) (by rw[bD,u];omega)) ?_);refine gA Z gJ
theorem M6(d:Int)(hd:d<0)(w:WS)(e:Expr):bC prog 209 [.ptr 0 0,ag e.c,pI d] w.O (.bf []) (mu w).H 3:=by
 refine au ab func209 Z (by decide) ntmps209 Z (by simp) ?_
 repeat' (first
  |((rename_i h;exact absurd hd (zF h)))
  |(refine gA Z (zI (fun _=>?_) (fun _=>?_)))
  |(refine gA Z (EA (by first|exact .inr Z|exact .inl Z) Z Z Z Z Z (by first|exact .refl _|exact .kb _) (by first|exact .refl _|exact .kb _) Z Z Z Z (.refl _) Z Z)))
set_option maxHeartbeats 2000000 in
theorem d213(m:Nat)(hm:m<=900)(G:PE (m+1))(I:PE m)(d:Int)(hd:d=m)(w:WS)(e:Expr)(hb:w.l.length+e.ts<=1000000000):bC prog 209 [.ptr 0 0,ag e.c,pI d] w.O (.bf []) (j6 (tZ m) w e).H 3:=by
 refine bC.le (aa:=[.ptr 0 0,ag e.c,pI d]) (args:=[.ptr 0 0,ag e.c1,pI d]) ?_ ⟨.refl _,e.D2,.refl _,ac⟩;have e0:=e.qh;have D:sM.size=1:=rfl;have x:m<=1000:=by omega
 refine au ab func209 Z (by decide) ntmps209 Z (by simp) ?_;refine zJ Z Z (fun J=>?_) fun J=>?_
 .have J:e.op=6:=zT J;refine zE Z Z (fun h1=>?_) fun h1=>?_
  .have h1:w.bad=is:=h1;rw[j6,am h1];refine gA Z gJ
  have h1: ¬w.bad=is:=by rw[show w.bad=jp from h1];simp
  refine zE Z Z (fun B=>?_) fun B=>?_
  .have B: ¬e.args.length=1:=by simp at B;omega
   rw[j6,be h1,am J,be B];refine gA Z gJ
  have B:e.args.length=1:=by simp at B;omega
  have hg:(bW e).ts<=_:=Expr.vp e.args 0 (by omega);have j:j6 (tZ m) w e=tZ m (lx (bW e)) (if(vR (bW e)&&kw ((bW e).val.num=0))=is then aS (aS w [sM]) [sM] else aS w [sM]) (bW e):=by rw[j6,be h1,am J,am B]
  have b0:e.args.getD 0 ci=bW e:=rfl;refine zJ Z Z (fun h3=>?_) fun h3=>?_
  .exact absurd (zT h3) (by omega)
  refine zE Z Z (fun h7=>?_) fun h7=>?_
  .exact absurd (zF h7) (by simp)
  have y:=aH w sM;refine zJ Z Z (fun hk=>?_) fun hk=>?_
  .have a0:(bW e).kind=2:=zT hk;refine gA Z (ia (d147 w [sM] (by simp) (by rw[bD,D];omega)) ?_);refine zE Z Z (fun hv=>?_) fun hv=>?_
   .have C: ¬(bW e).val.kind=1:=zF hv;have A:vR (bW e)=jp:=by rw[vR,decide_eq_false C,QU]
    rw[A,P6,be (by simp)]at j;refine gA Z (zm (Ck (bW e)) ?_);refine zJ Z Z (fun u=>?_) fun u=>?_
    .have b:dC (bW e)<3:=zT u;rw[lx,decide_eq_true b,Rn]at j;rw[j];refine gA Z (tT (d225 m x G I is d hd (aS w [sM]) (bW e) (by rw[y,D];omega)) ?_);refine gA Z gJ
    .have b: ¬dC (bW e)<3:=zF u;refine zJ Z Z (fun R=>?_) fun R=>?_
     .exact absurd (zT R) C
     rw[lx,decide_eq_false b,Qg,A,P6]at j;rw[j];refine gA Z (tT (d225 m x G I jp d hd (aS w [sM]) (bW e) (by rw[y,D];omega)) ?_);refine gA Z gJ
   .have C:(bW e).val.kind=1:=zT hv;have A:vR (bW e)=is:=by rw[vR,decide_eq_true C,decide_eq_true a0];rfl
    rw[A,QP]at j;refine zJ Z Z (fun h0=>?_) fun h0=>?_
    .have Y:(bW e).val.num=0:=zT h0;rw[am (decide_eq_true Y)]at j;refine gA Z (ia (d147 (aS w [sM]) [sM] (by simp) (by rw[bD,y,D];omega)) ?_);refine gA Z (zm (Ck (bW e)) ?_);refine zJ Z Z (fun u=>?_) fun u=>?_
     .have b:dC (bW e)<3:=zT u;rw[lx,decide_eq_true b,Rn]at j;rw[j];refine gA Z (tT (d225 m x G I is d hd (aS (aS w [sM]) [sM]) (bW e) (by rw[aH,y,D];omega)) ?_);refine gA Z gJ
     .have b: ¬dC (bW e)<3:=zF u;refine zE Z Z (fun R=>?_) fun R=>?_
      .exact absurd C (zF R)
      rw[lx,decide_eq_false b,Qg,A,QP]at j;rw[j];refine gA Z (tT (d225 m x G I (kw ((bW e).val.num>0)) d hd (aS (aS w [sM]) [sM]) (bW e) (by rw[aH,y,D];omega)) ?_);refine gA Z gJ
    .have Y: ¬(bW e).val.num=0:=zF h0;rw[be (by simpa using Y)]at j;refine gA Z (zm (Ck (bW e)) ?_);refine zJ Z Z (fun u=>?_) fun u=>?_
     .have b:dC (bW e)<3:=zT u;rw[lx,decide_eq_true b,Rn]at j;rw[j];refine gA Z (tT (d225 m x G I is d hd (aS w [sM]) (bW e) (by rw[y,D];omega)) ?_);refine gA Z gJ
     .have b: ¬dC (bW e)<3:=zF u;refine zE Z Z (fun R=>?_) fun R=>?_
      .exact absurd C (zF R)
      rw[lx,decide_eq_false b,Qg,A,QP]at j;rw[j];refine gA Z (tT (d225 m x G I (kw ((bW e).val.num>0)) d hd (aS w [sM]) (bW e) (by rw[y,D];omega)) ?_);refine gA Z gJ
  .have a0: ¬(bW e).kind=2:=zF hk;have A:vR (bW e)=jp:=by rw[vR,decide_eq_false a0];rfl
   rw[A,P6,be (by simp)]at j;refine gA Z (ia (d147 w [sM] (by simp) (by rw[bD,D];omega)) ?_);refine gA Z (zm (Ck (bW e)) ?_);refine zJ Z Z (fun u=>?_) fun u=>?_
   .have b:dC (bW e)<3:=zT u;rw[lx,decide_eq_true b,Rn]at j;rw[j];refine gA Z (tT (d225 m x G I is d hd (aS w [sM]) (bW e) (by rw[y,D];omega)) ?_);refine gA Z gJ
   .have b: ¬dC (bW e)<3:=zF u;rw[lx,decide_eq_false b,Qg,A,P6]at j;rw[j];refine gA Z (tT (d225 m x G I jp d hd (aS w [sM]) (bW e) (by rw[y,D];omega)) ?_);refine gA Z gJ
 .have J: ¬e.op=6:=zF J;refine zE Z Z (fun h1=>?_) fun h1=>?_
  .have h1:w.bad=is:=h1;rw[j6,am h1];refine gA Z gJ
  have h1: ¬w.bad=is:=by rw[show w.bad=jp from h1];simp
  refine zE Z Z (fun B=>?_) fun B=>?_
  .have B: ¬e.args.length=2:=by simp at B;omega
   rw[j6,be h1,be J,be B];refine gA Z gJ
  have B:e.args.length=2:=by simp at B;omega
  have hg:(bW e).ts+(wB e).ts<=_:=Expr.zx e.args B;rw[j6,be h1,be J,am B];refine zJ Z Z (fun h3=>?_) fun h3=>?_
  .exact absurd (zT h3) (by omega)
  refine zJ Z Z (fun h7=>?_) fun h7=>?_
  .exact absurd (zT h7) (by simp)
  refine gA Z (zm (Ck (bW e)) ?_);refine gA Z (zm (HP e.op) ?_);refine gA Z (tT (d225 m x G I (kw (dC (bW e)<cj e.op)) d hd w (bW e) (by omega)) ?_);refine gA Z (zp (N3 e.op) ?_);have c0:=E2 m (kw (dC (bW e)<cj e.op)) w (bW e);have d0:=w6 e.op;have e2:zV.size=1:=rfl;have e3:eI [zV,lv e.op,zV]=1+((lv e.op).size+1):=by simp[eI,e2]
  refine gA Z (ia (d147 (tZ m (kw (dC (bW e)<cj e.op)) w (bW e)) [zV,lv e.op,zV] (by simp) (by rw[e3];omega)) ?_);refine gA Z (zm (Ck (wB e)) ?_);refine gA Z (zm (HP e.op) ?_);refine gA Z (tT (d225 m x G I (kw (dC (wB e)<=cj e.op)) d hd (aS (tZ m (kw (dC (bW e)<cj e.op)) w (bW e)) [zV,lv e.op,zV]) (wB e) (by rw[gV,e3];omega)) ?_);refine gA Z gJ
theorem d189(d:Int)(I:0<=d)(J:d<=1000)(w:WS)(e:Expr)(hb:w.l.length+e.ts<=1000000000)(k:WS)(hk:bC prog 209 [.ptr 0 0,ag e.c,pI (d-1)] (aO w (qT e)).O (.bf []) k.H 3):bC prog 191 [.ptr 0 0,ag e.c,pI d] w.O (.bf []) (iW w e k).H 3:=by
 have R:=e.qh;refine au ab func191 Z (by decide) ntmps191 Z (by simp) ?_;refine zE Z Z (fun h1=>?_) fun h1=>?_
 .have h1:w.bad=is:=h1;rw[iW,am h1];refine gA Z gJ
 have A: ¬w.bad=is:=by rw[show w.bad=jp from h1];simp
 refine zJ Z Z (fun G=>?_) fun G=>?_
 .exact absurd (zT G) (by omega)
 refine zJ Z Z (fun B=>?_) fun B=>?_
 .have j:e.kind=1:=zT B;have y:iW w e k=aS (aO w (nf e)) [e.var]:=by rw[iW,be A,am j]
  rw[y];refine gA Z (zp (zj e.var) ?_);refine zE Z Z (fun g0=>?_) fun g0=>?_
  .have b:nf e=jp:=by simp only[nf,dE, *];rfl
   rw[b];refine gA Z (gh (d146 w jp) ?_);refine gA Z (ia (d147 (aO w jp) [e.var] (by simp) (by rw[bD,aJ];omega)) ?_);refine gA Z gJ
  refine zE Z Z (fun g1=>?_) fun g1=>?_
  .have b:nf e=jp:=by simp only[nf,dE, *];rfl
   rw[b];refine gA Z (gh (d146 w jp) ?_);refine gA Z (ia (d147 (aO w jp) [e.var] (by simp) (by rw[bD,aJ];omega)) ?_);refine gA Z gJ
  refine zE Z Z (fun g2=>?_) fun g2=>?_
  .have b:nf e=jp:=by simp only[nf,dE, *];rfl
   rw[b];refine gA Z (gh (d146 w jp) ?_);refine gA Z (ia (d147 (aO w jp) [e.var] (by simp) (by rw[bD,aJ];omega)) ?_);refine gA Z gJ
  have b:nf e=kw ((e.args.length:Int)=0):=by simp only[nf,dE, *];rfl
  rw[b];refine gA Z (gh (d146 w (kw ((e.args.length:Int)=0))) ?_);refine gA Z (ia (d147 (aO w (kw ((e.args.length:Int)=0))) [e.var] (by simp) (by rw[bD,aJ];omega)) ?_);refine gA Z gJ
 have j: ¬e.kind=1:=zF B;refine zJ Z Z (fun C=>?_) fun C=>?_
 .have u:e.kind=2:=zT C;have y:iW w e k=lG (aO w (oH e)) e.val:=by rw[iW,be A,be j,am u]
  rw[y];have Y:=po e.val;refine zE Z Z (fun g0=>?_) fun g0=>?_
  .have b:oH e=jp:=by simp only[oH,dE, *];rfl
   rw[b];refine gA Z (gh (d146 w jp) ?_);refine gA Z (gh (d149 (aO w jp) e.val (by rw[aJ];omega) (by omega)) ?_);refine gA Z gJ
  refine zE Z Z (fun g1=>?_) fun g1=>?_
  .have b:oH e=jp:=by simp only[oH,dE, *];rfl
   rw[b];refine gA Z (gh (d146 w jp) ?_);refine gA Z (gh (d149 (aO w jp) e.val (by rw[aJ];omega) (by omega)) ?_);refine gA Z gJ
  have b:oH e=kw ((e.args.length:Int)=0):=by simp only[oH,dE, *];rfl
  rw[b];refine gA Z (gh (d146 w (kw ((e.args.length:Int)=0))) ?_);refine gA Z (gh (d149 (aO w (kw ((e.args.length:Int)=0))) e.val (by rw[aJ];omega) (by omega)) ?_);refine gA Z gJ
 have u: ¬e.kind=2:=zF C;refine zJ Z Z (fun D=>?_) fun D=>?_
 .have x:e.kind=4:=zT D;have y:iW w e k=k:=by rw[iW,be A,be j,be u,am x]
  rw[y];refine zE Z Z (fun g0=>?_) fun g0=>?_
  .have b:qT e=jp:=by simp only[qT,dE, *];rfl
   rw[b]at hk;refine gA Z (gh (d146 w jp) ?_);refine gA Z (gh (hk) ?_);refine gA Z gJ
  refine zE Z Z (fun g1=>?_) fun g1=>?_
  .have b:qT e=jp:=by simp only[qT,dE, *];rfl
   rw[b]at hk;refine gA Z (gh (d146 w jp) ?_);refine gA Z (gh (hk) ?_);refine gA Z gJ
  refine gA Z (zp (HP e.op) ?_);have b:qT e=kw (cj e.op>0):=by simp only[qT,dE, *];rfl
  rw[b]at hk;refine gA Z (gh (d146 w (kw (cj e.op>0))) ?_);refine gA Z (gh (hk) ?_);refine gA Z gJ
 have x: ¬e.kind=4:=zF D;rw[iW,be A,be j,be u,be x];refine gA Z gJ
theorem pe0:PE 0:=fun d w e hd hb=>by
 refine au ab func191 Z (by decide) ntmps191 Z (by simp) ?_;rw[cH]
 repeat' (first
  |((rename_i h;exact absurd (by omega:d<0) (zF h)))
  |(refine gA Z (zI (fun _=>?_) (fun _=>?_)))
  |(refine gA Z (EA (by first|exact .inr Z|exact .inl Z) Z Z Z Z Z (by first|exact .refl _|exact .kb _) (by first|exact .refl _|exact .kb _) Z Z Z Z (.refl _) Z Z)))
theorem yJ: ∀n,n<=900->PE n
 |0,_=>pe0
 |1,_=>fun d w e hd hb=>d189 d (by omega) (by omega) w e hb _ (M6 (d-1) (by omega) (aO w (qT e)) e)
 |m+2,h=>fun d w e hd hb=>d189 d (by omega) (by omega) w e (by omega) _ (d213 m (by omega) (yJ (m+1) (by omega)) (yJ m (by omega)) (d-1) (by omega) (aO w (qT e)) e (by rw[aJ];omega))
theorem nu(w:WS)(e:Expr)(hb:w.l.length+e.ts<=900000000):bC prog 191 [.ptr 0 0,ag e.c,pI 16] w.O (.bf []) (cH 17 w e).H 3:=yJ 17 (by omega) 16 w e (by omega) (by omega)
def xc:ak:=⟨#[44,32]⟩
def Kt:ak:=⟨#[95]⟩
def gn(i:Nat)(w:WS):WS:=if i=0 then w else aS w [xc]
def vP(t:Term):Bool:=fb t.var&&dE t.val
def vQ(t:Term):Bool:=kw (t.var=⟨#[]⟩)&&dE t.val
def jy(w:WS)(t:Term):WS:=
 if t.kind=1 then aS (aO w (vP t)) [t.var] else if t.kind=2 then lG (aO w (kw (t.var=⟨#[]⟩))) t.val else if t.kind=3 then aS (aO w (vQ t)) [Kt] else mu w
def fm(l:List Term)(w:WS):Nat->WS
 |0=>w
 |i+1=>jy (gn i (fm l w i)) (l.getD i ci)
def jl(w:WS)(a:Atom):WS:=aS (fm a.aj (aS (aO w (gZ a.rel)) [a.rel,sO]) a.aj.length) [sC]
def Term.ts(t:Term):Nat:=t.var.size+310
def Atom.ts(a:Atom):Nat:=a.rel.size+10+(a.aj.map Term.ts).sum
theorem lh(i:Nat)(w:WS):(gn i w).l.length<=w.l.length+2:=by
 have e:xc.size=2:=rfl;unfold gn;split
 .omega
 .rw[aH,e];omega
theorem Bd(w:WS)(t:Term):(jy w t).l.length<=w.l.length+300+t.var.size:=by
 have e:Kt.size=1:=rfl;unfold jy
 repeat' split
 .rw[aH,aJ];omega
 .have:=rL (aO w (kw (t.var=⟨#[]⟩))) t.val;rw[aJ]at this;omega
 .rw[aH,aJ,e];omega
 .rw[fa];omega
theorem uj: ∀(l:List Term) (i:Nat),i<l.length->((l.take i).map Term.ts).sum+(l.getD i ci).ts<=(l.map Term.ts).sum
 | [],i,h=>by simp at h
 |s::r,0,_=>by simp
 |s::r,i+1,h=>by
  have:=uj r i (by simpa using h);simp at this ⊢;omega
theorem zy: ∀(l:List Term) (i:Nat),((l.take i).map Term.ts).sum<=(l.map Term.ts).sum
 | [],i=>by simp
 |s::r,0=>by simp
 |s::r,i+1=>by have:=zy r i;simp at this ⊢;omega
theorem nF(l:List Term)(w:WS): ∀i,i<=l.length->(fm l w i).l.length<=w.l.length+((l.take i).map Term.ts).sum
 |0,_=>by simp[fm]
 |i+1,h=>by
  have h1:=nF l w i (by omega);have b:=lh i (fm l w i);have j:=Bd (gn i (fm l w i)) (l.getD i ci);have u:(l.getD i ci).ts=(l.getD i ci).var.size+310:=rfl;have x:((l.take (i+1)).map Term.ts).sum=((l.take i).map Term.ts).sum+(l.getD i ci).ts:=by
   rw[ch (by omega),OM,List.sum_append];simp
  rw[fm];omega
theorem vh(w:WS)(a:Atom):(jl w a).l.length<=w.l.length+a.ts:=by
 have b:sO.size=1:=rfl;have j:sC.size=1:=rfl;have u:eI [a.rel,sO]=a.rel.size+1:=by simp[eI,b]
 have h1:=nF a.aj (aS (aO w (gZ a.rel)) [a.rel,sO]) a.aj.length (OJ _);rw[gV,u,aJ,Qd]at h1;rw[jl,aH,j];unfold Atom.ts;omega
theorem uP: ∀l:List Term,l.length<=(l.map Term.ts).sum
 | []=>by simp
 |t::r=>by have:=uP r;simp[Term.ts]at this ⊢;omega
set_option maxHeartbeats 1000000 in
theorem d104(w:WS)(a:Atom)(hb:w.l.length+a.ts<=900000000):bC prog 153 [.ptr 0 0,ag a.c] w.O (.bf []) (jl w a).H 3:=by
 have J:sO.size=1:=rfl;have R:sC.size=1:=rfl;have y:xc.size=2:=rfl;have e5:Kt.size=1:=rfl;have I:eI [a.rel,sO]=a.rel.size+1:=by simp[eI,J]
 have i0:a.ts=a.rel.size+10+(a.aj.map Term.ts).sum:=rfl;have d0:=uP a.aj;have b0:(aS (aO w (gZ a.rel)) [a.rel,sO]).l.length=w.l.length+(a.rel.size+1):=by rw[gV,I,aJ]
 refine au ab func153 Z (by decide) ntmps153 Z (by simp) ?_;refine gA Z (zp (Nt a.rel) ?_);refine gA Z (gh (d146 w (gZ a.rel)) ?_);refine gA Z (ia (d147 (aO w (gZ a.rel)) [a.rel,sO] (by simp) (by rw[I,aJ];omega)) ?_);generalize Y:aS (aO w (gZ a.rel)) [a.rel,sO]=w1 at*
 refine gA Z ?_;refine aK 0 a.aj.length (OL _) (fun i=>⟨[(0,.ptr 0 0),(17,.iv (bw 5 a.aj Term.c)),(18,pI a.aj.length),(19,pI i)],[(0,co ((fm a.aj w1 i).ph 0 6)),(6,co (.bh (fm a.aj w1 i).l 5))],7⟩) (fun _=>True) _ ac
  (Nx (w:=w1) Z Z Z Z Z (.refl _) (.refl _) Z Z Z Z Z (bi (bi (bi (bi trivial))))) fun i hi _=>?_
 have c0:=nF a.aj w1 i hi;have e0:=zy a.aj i;refine zE Z Z (fun h1=>?_) fun h1=>?_
 .have h1:a.aj.length<=i:=zG h1;have G:i=a.aj.length:=by omega
  subst G;refine gA Z (ia (d147 (fm a.aj w1 a.aj.length) [sC] (by simp) (by rw[bD,R];omega)) ?_);rw[jl,Y];refine gA Z gJ
 have h1:i<a.aj.length:=zN h1;have f0:=uj a.aj i h1;have hs:fm a.aj w1 (i+1)=jy (gn i (fm a.aj w1 i)) (a.aj.getD i ci):=rfl;have ht:(a.aj.getD i ci).ts=(a.aj.getD i ci).var.size+310:=rfl;have j0:=po (a.aj.getD i ci).val;have a0:=lh i (fm a.aj w1 i);generalize hT:fm a.aj w1 i=w2 at*
 refine zJ Z Z (fun A=>?_) fun A=>?_
 .have A: ¬i=0:=by have:=zT A;omega
  rw[gn,be A]at hs;refine gA Z (ia (d147 w2 [xc] (by simp) (by rw[bD,y];omega)) ?_);refine zJ Z Z (fun B=>?_) fun B=>?_
  .have b:(a.aj.getD i ci).kind=1:=zT B;rw[jy,am b]at hs;refine gA Z (zp (zj (a.aj.getD i ci).var) ?_);refine zE Z Z (fun g0=>?_) fun g0=>?_
   .have u:vP (a.aj.getD i ci)=jp:=by have g:fb (a.aj.getD i ci).var=jp:=g0;rw[vP,g];rfl
    rw[u]at hs;refine gA Z (gh (d146 (aS w2 [xc]) jp) ?_);refine gA Z (ia (d147 (aO (aS w2 [xc]) jp) [(a.aj.getD i ci).var] (by simp) (by rw[bD,aJ];first|omega|(rw[aH,y];omega))) ?_);refine gA Z ⟨h1,ac,_,ou (hs.symm)⟩
   have u:vP (a.aj.getD i ci)=dE (a.aj.getD i ci).val:=by have g:fb (a.aj.getD i ci).var=is:=g0;rw[vP,g];rfl
   rw[u]at hs;refine gA Z (gh (d146 (aS w2 [xc]) (dE (a.aj.getD i ci).val)) ?_);refine gA Z (ia (d147 (aO (aS w2 [xc]) (dE (a.aj.getD i ci).val)) [(a.aj.getD i ci).var] (by simp) (by rw[bD,aJ];first|omega|(rw[aH,y];omega))) ?_);refine gA Z ⟨h1,ac,_,ou (hs.symm)⟩
  have b: ¬(a.aj.getD i ci).kind=1:=zF B;refine zJ Z Z (fun C=>?_) fun C=>?_
  .have j:(a.aj.getD i ci).kind=2:=zT C;rw[jy,be b,am j]at hs;refine gA Z (gh (d146 (aS w2 [xc]) (kw ((a.aj.getD i ci).var=⟨#[]⟩))) ?_);refine gA Z (gh (d149 (aO (aS w2 [xc]) (kw ((a.aj.getD i ci).var=⟨#[]⟩))) (a.aj.getD i ci).val (by rw[aJ];first|omega|(rw[aH,y];omega)) (by omega)) ?_);refine gA Z ⟨h1,ac,_,ou (hs.symm)⟩
  have j: ¬(a.aj.getD i ci).kind=2:=zF C;refine zJ Z Z (fun D=>?_) fun D=>?_
  .have x:(a.aj.getD i ci).kind=3:=zT D;rw[jy,be b,be j,am x]at hs;refine zE Z Z (fun g0=>?_) fun g0=>?_
   .have u:vQ (a.aj.getD i ci)=jp:=by have g:kw ((a.aj.getD i ci).var=⟨#[]⟩)=jp:=g0;rw[vQ,g];rfl
    rw[u]at hs;refine gA Z (gh (d146 (aS w2 [xc]) jp) ?_);refine gA Z (ia (d147 (aO (aS w2 [xc]) jp) [Kt] (by simp) (by rw[bD,aJ];first|omega|(rw[aH,y];omega))) ?_);refine gA Z ⟨h1,ac,_,ou (hs.symm)⟩
   have u:vQ (a.aj.getD i ci)=dE (a.aj.getD i ci).val:=by have g:kw ((a.aj.getD i ci).var=⟨#[]⟩)=is:=g0;rw[vQ,g];rfl
   rw[u]at hs;refine gA Z (gh (d146 (aS w2 [xc]) (dE (a.aj.getD i ci).val)) ?_);refine gA Z (ia (d147 (aO (aS w2 [xc]) (dE (a.aj.getD i ci).val)) [Kt] (by simp) (by rw[bD,aJ];first|omega|(rw[aH,y];omega))) ?_);refine gA Z ⟨h1,ac,_,ou (hs.symm)⟩
  have x: ¬(a.aj.getD i ci).kind=3:=zF D;rw[jy,be b,be j,be x]at hs;refine gA Z ⟨h1,ac,_,ou (hs.symm)⟩
 .have A:i=0:=by have:=zF A;omega
  rw[gn,am A]at hs;refine zJ Z Z (fun B=>?_) fun B=>?_
  .have b:(a.aj.getD i ci).kind=1:=zT B;rw[jy,am b]at hs;refine gA Z (zp (zj (a.aj.getD i ci).var) ?_);refine zE Z Z (fun g0=>?_) fun g0=>?_
   .have u:vP (a.aj.getD i ci)=jp:=by have g:fb (a.aj.getD i ci).var=jp:=g0;rw[vP,g];rfl
    rw[u]at hs;refine gA Z (gh (d146 w2 jp) ?_);refine gA Z (ia (d147 (aO w2 jp) [(a.aj.getD i ci).var] (by simp) (by rw[bD,aJ];first|omega|(rw[aH,y];omega))) ?_);refine gA Z ⟨h1,ac,_,ou (hs.symm)⟩
   have u:vP (a.aj.getD i ci)=dE (a.aj.getD i ci).val:=by have g:fb (a.aj.getD i ci).var=is:=g0;rw[vP,g];rfl
   rw[u]at hs;refine gA Z (gh (d146 w2 (dE (a.aj.getD i ci).val)) ?_);refine gA Z (ia (d147 (aO w2 (dE (a.aj.getD i ci).val)) [(a.aj.getD i ci).var] (by simp) (by rw[bD,aJ];first|omega|(rw[aH,y];omega))) ?_);refine gA Z ⟨h1,ac,_,ou (hs.symm)⟩
  have b: ¬(a.aj.getD i ci).kind=1:=zF B;refine zJ Z Z (fun C=>?_) fun C=>?_
  .have j:(a.aj.getD i ci).kind=2:=zT C;rw[jy,be b,am j]at hs;refine gA Z (gh (d146 w2 (kw ((a.aj.getD i ci).var=⟨#[]⟩))) ?_);refine gA Z (gh (d149 (aO w2 (kw ((a.aj.getD i ci).var=⟨#[]⟩))) (a.aj.getD i ci).val (by rw[aJ];first|omega|(rw[aH,y];omega)) (by omega)) ?_);refine gA Z ⟨h1,ac,_,ou (hs.symm)⟩
  have j: ¬(a.aj.getD i ci).kind=2:=zF C;refine zJ Z Z (fun D=>?_) fun D=>?_
  .have x:(a.aj.getD i ci).kind=3:=zT D;rw[jy,be b,be j,am x]at hs;refine zE Z Z (fun g0=>?_) fun g0=>?_
   .have u:vQ (a.aj.getD i ci)=jp:=by have g:kw ((a.aj.getD i ci).var=⟨#[]⟩)=jp:=g0;rw[vQ,g];rfl
    rw[u]at hs;refine gA Z (gh (d146 w2 jp) ?_);refine gA Z (ia (d147 (aO w2 jp) [Kt] (by simp) (by rw[bD,aJ];first|omega|(rw[aH,y];omega))) ?_);refine gA Z ⟨h1,ac,_,ou (hs.symm)⟩
   have u:vQ (a.aj.getD i ci)=dE (a.aj.getD i ci).val:=by have g:kw ((a.aj.getD i ci).var=⟨#[]⟩)=is:=g0;rw[vQ,g];rfl
   rw[u]at hs;refine gA Z (gh (d146 w2 (dE (a.aj.getD i ci).val)) ?_);refine gA Z (ia (d147 (aO w2 (dE (a.aj.getD i ci).val)) [Kt] (by simp) (by rw[bD,aJ];first|omega|(rw[aH,y];omega))) ?_);refine gA Z ⟨h1,ac,_,ou (hs.symm)⟩
  have x: ¬(a.aj.getD i ci).kind=3:=zF D;rw[jy,be b,be j,be x]at hs;refine gA Z ⟨h1,ac,_,ou (hs.symm)⟩
end Go.Proofs.YtllkaddcplhklaaGreatDoor
namespace Go.Proofs.YtllkaddcplhklaaGreatDoor
open Go Go.Al
def yz:ak:=⟨#[110,111,116,32]⟩
def pt:ak:=⟨#[32,61,32]⟩
def px:ak:=⟨#[32,123,32]⟩
def Cs:ak:=⟨#[32,58,32]⟩
def xb:ak:=⟨#[32,125]⟩
def s5(op:Int):ak:=if op=1 then⟨#[32,61,32]⟩ else if op=2 then⟨#[32,33,61,32]⟩ else if op=3 then⟨#[32,60,32]⟩ else if op=4 then⟨#[32,60,61,32]⟩ else if op=5 then⟨#[32,62,32]⟩ else⟨#[32,62,61,32]⟩
def iz(f:Int):ak:=if f=1 then⟨#[99,111,117,110,116]⟩ else if f=2 then⟨#[115,117,109]⟩ else if f=3 then⟨#[109,105,110]⟩ else⟨#[109,97,120]⟩
def tD(w:WS)(n:Int):WS:=⟨w.fr,w.l,w.bad,w.br+n⟩
def cW(f:Lit->WS->WS)(l:List Lit)(w:WS):Nat->WS
 |0=>w
 |i+1=>if(cW f l w i).bad=is then cW f l w i else f (l.getD i ci) (gn i (cW f l w i))
def re(w:WS)(a:fC):WS:=if a.func=1 then aO w (iJ a.iV) else aS (cH 17 w a.iV) [Cs]
def wE(f:Lit->WS->WS)(w:WS)(a:fC):WS:=
 if a.func<1∨5<=a.func∨16<=w.br∨a.body.length=0 then mu w
 else aS (tD (cW f a.body (tD (re (aS (aO w (fb a.var)) [a.var,pt,iz a.func,px]) a) 1) a.body.length) (-1)) [xb]
def yR(f:Lit->WS->WS)(l:Lit)(w:WS):WS:=
 if l.kind=2 then jl (aS w [yz]) l.atom else if l.kind=1 then jl w l.atom
 else if l.kind=3 then(if l.op<1∨7<=l.op then mu (cH 17 w l.left) else cH 17 (aS (cH 17 w l.left) [s5 l.op]) l.right)
 else if l.kind=4 then wE f w l.agg else mu w
def dz:Nat->Lit->WS->WS
 |0,_,w=>w
 |n+1,l,w=>yR (dz n) l (aO w (jQ l))
theorem cL: ∀(b:List ak) (w:WS),(aS w b).br=w.br
 | [],w=>rfl
 |s::r,w=>cL r (xn w s)
theorem sv(w:WS)(b:Bool):(aO w b).br=w.br:=rfl
theorem HU(w:WS):(mu w).br=w.br:=rfl
theorem ue(w:WS)(v:c8):(lG w v).br=w.br:=by rw[lG,cL];rfl
theorem xR(w k:WS)(e:Expr)(h:k.br=w.br):(iW w e k).br=w.br:=by
 unfold iW
 repeat' split
 .rfl
 .rw[cL];rfl
 .rw[ue];rfl
 .exact h
 .rfl
theorem DC(a0:Bool->WS->Expr->WS)(j: ∀b w a,(a0 b w a).br=w.br)(w:WS)(e:Expr):(j6 a0 w e).br=w.br:=by
 unfold j6
 repeat' split
 .rfl
 .rw[j,cL,cL]
 .rw[j,cL]
 .rfl
 .rw[j,cL,j]
 .rfl
theorem kB: ∀(n:Nat) (w:WS) (e:Expr),(cH n w e).br=w.br
 |0,w,e=>rfl
 |1,w,e=>by rw[cH];exact xR _ _ _ Z
 |m+2,w,e=>by
  rw[cH];refine xR _ _ _ ?_;rw[DC _ (fun b w a=>?_)]
  .rfl
  .split
   .rw[cL,kB m,cL]
   .exact kB (m+1) _ _
theorem qa(i:Nat)(w:WS):(gn i w).br=w.br:=by
 unfold gn;split
 .rfl
 .exact cL _ _
theorem CQ(w:WS)(t:Term):(jy w t).br=w.br:=by
 unfold jy
 repeat' split
 .rw[cL];rfl
 .rw[ue];rfl
 .rw[cL];rfl
 .rfl
theorem ui(l:List Term)(w:WS): ∀i,(fm l w i).br=w.br
 |0=>rfl
 |i+1=>by rw[fm,CQ,qa,ui l w i]
theorem yk(w:WS)(a:Atom):(jl w a).br=w.br:=by rw[jl,cL,ui,cL];rfl
theorem mr(f:Lit->WS->WS)(hf: ∀l w,(f l w).br=w.br)(l:List Lit)(w:WS): ∀i,(cW f l w i).br=w.br
 |0=>rfl
 |i+1=>by
  rw[cW];split
  .exact mr f hf l w i
  .rw[hf,qa,mr f hf l w i]
theorem DG(w:WS)(a:fC):(re w a).br=w.br:=by
 unfold re;split
 .rfl
 .rw[cL,kB]
theorem H0(f:Lit->WS->WS)(hf: ∀l w,(f l w).br=w.br)(w:WS)(a:fC):(wE f w a).br=w.br:=by
 unfold wE;split
 .rfl
 .rw[cL];show(cW _ _ _ _).br+ -1=_;rw[mr f hf];show(re _ _).br+1+ -1=_;rw[DG,cL,sv];omega
theorem Hi(f:Lit->WS->WS)(hf: ∀l w,(f l w).br=w.br)(l:Lit)(w:WS):(yR f l w).br=w.br:=by
 unfold yR
 repeat' split
 .rw[yk,cL]
 .exact yk _ _
 .rw[HU,kB]
 .rw[kB,cL,kB]
 .exact H0 f hf _ _
 .rfl
theorem vZ: ∀(n:Nat) (l:Lit) (w:WS),(dz n l w).br=w.br
 |0,_,_=>rfl
 |n+1,l,w=>by rw[dz,Hi (dz n) (vZ n)];rfl
mutual
def Lit.ts:Lit->Nat
 | .mk _ a _ l r _ v o b _=>100+a.ts+l.ts+r.ts+v.size+o.ts+Lit.mQ b
def Lit.mQ:List Lit->Nat
 | []=>0
 |e::r=>e.ts+Lit.mQ r
end
theorem Lit.qh(l:Lit):l.ts=100+l.atom.ts+l.left.ts+l.right.ts+l.bx.size+l.jw.ts+Lit.mQ l.ar:=by cases l;rfl
theorem Lit.wO: ∀(l:List Lit) (i:Nat),i<l.length->Lit.mQ (l.take i)+(l.getD i ci).ts<=Lit.mQ l
 | [],i,h=>by simp at h
 |s::r,0,_=>by simp[Lit.mQ]
 |s::r,i+1,h=>by
  have:=Lit.wO r i (by simpa using h);simp only[PR,Lit.mQ,PK];omega
theorem Lit.CK: ∀(l:List Lit) (i:Nat),Lit.mQ (l.take i)<=Lit.mQ l
 | [],i=>by simp
 |s::r,0=>by simp[Lit.mQ]
 |s::r,i+1=>by have:=Lit.CK r i;simp only[PR,Lit.mQ];omega
theorem Lit.Kc(l:Lit):100<=l.ts:=by rw[l.qh];omega
theorem ER(op:Int):(s5 op).size<=4:=by
 unfold s5
 repeat' split
 all_goals decide
theorem ya(op:Int):(iz op).size<=5:=by
 unfold iz
 repeat' split
 all_goals decide
def H3(f:Lit->WS->WS):Prop:= ∀l w,(f l w).l.length+4<=w.l.length+l.ts
theorem mL(f:Lit->WS->WS)(hf:H3 f)(l:List Lit)(w:WS): ∀i,i<=l.length->(cW f l w i).l.length<=w.l.length+Lit.mQ (l.take i)
 |0,_=>by simp[cW,Lit.mQ]
 |i+1,h=>by
  have h1:=mL f hf l w i (by omega);have y:Lit.mQ (l.take (i+1))=Lit.mQ (l.take i)+(l.getD i ci).ts:=by
   rw[ch (by omega)];have: ∀(a:List Lit) (b:Lit),Lit.mQ (a++ [b])=Lit.mQ a+b.ts:=by
    intro a b
    induction a with
    |nil=>simp[Lit.mQ]
    |cons x r ih=>simp only[PO,Lit.mQ,ih];omega
   exact this _ _
  rw[cW];split
  .omega
  .have j:=hf (l.getD i ci) (gn i (cW f l w i));have u:=lh i (cW f l w i);omega
theorem Ai(w:WS)(a:fC):(re w a).l.length<=w.l.length+a.iV.ts+3:=by
 have e:Cs.size=3:=rfl;unfold re;split
 .rw[aJ];omega
 .have:=cZ 17 w a.iV;rw[aH,e];omega
theorem uV(w:WS)(a:fC):(aS (aO w (fb a.var)) [a.var,pt,iz a.func,px]).l.length<=w.l.length+a.var.size+11:=by
 have b:pt.size=3:=rfl;have j:px.size=3:=rfl;have h:=ya a.func;have e:eI [a.var,pt,iz a.func,px]=a.var.size+(3+((iz a.func).size+3)):=by simp[eI,b,j]
 rw[gV,aJ,e];omega
theorem E7(f:Lit->WS->WS)(hf:H3 f)(w:WS)(a:fC):(wE f w a).l.length<=w.l.length+a.var.size+a.iV.ts+Lit.mQ a.body+20:=by
 have e:xb.size=2:=rfl;unfold wE;split
 .rw[fa];omega
 .rw[aH,e];show(cW _ _ _ _).l.length+2<=_;have h1:=mL f hf a.body (tD (re (aS (aO w (fb a.var)) [a.var,pt,iz a.func,px]) a) 1) a.body.length (OJ _);rw[Qd]at h1;have b:=Ai (aS (aO w (fb a.var)) [a.var,pt,iz a.func,px]) a;have j:=uV w a;have u:(tD (re (aS (aO w (fb a.var)) [a.var,pt,iz a.func,px]) a) 1).l.length=(re (aS (aO w (fb a.var)) [a.var,pt,iz a.func,px]) a).l.length:=rfl;omega
theorem DZ(f:Lit->WS->WS)(hf:H3 f)(l:Lit)(w:WS):(yR f l w).l.length+4<=w.l.length+l.ts:=by
 have x:=l.qh;have e:yz.size=4:=rfl;unfold yR
 repeat' split
 .have h1:=vh (aS w [yz]) l.atom;rw[aH,e]at h1;omega
 .have h1:=vh w l.atom;omega
 .have h1:=cZ 17 w l.left;rw[fa];omega
 .have h1:=cZ 17 w l.left;have b:=cZ 17 (aS (cH 17 w l.left) [s5 l.op]) l.right;have j:=ER l.op;rw[aH]at b;omega
 .have h1:=E7 f hf w l.agg;have b:l.agg.var=l.bx:=rfl;have j:l.agg.iV=l.jw:=rfl;have u:l.agg.body=l.ar:=rfl;rw[b,j,u]at h1;omega
 .rw[fa];omega
theorem sA: ∀n,H3 (dz n)
 |0=>fun l w=>by have:=l.Kc;rw[dz];omega
 |n+1=>fun l w=>DZ (dz n) (sA n) l (aO w (jQ l))
theorem vf{f:Lit->WS->WS}{l:List Lit}{w:WS}{i:Nat}(h:(cW f l w i).bad=is): ∀k,cW f l w (i+k)=cW f l w i
 |0=>rfl
 |k+1=>by
  have:=vf h k;rw[<-P5,cW,this,am h]
end Go.Proofs.YtllkaddcplhklaaGreatDoor
namespace Go.Proofs.YtllkaddcplhklaaGreatDoor
open Go Go.Al Go.Proofs.Tryz
def Fa(n:Nat):Prop:= ∀(l:Lit) (w:WS),l.size<=n->0<=w.br->w.br<=16->w.l.length+l.ts<=900000000->bC prog 155 [.ptr 0 0,ag l.c] w.O (.bf []) (dz n l w).H 3
set_option maxHeartbeats 1000000 in
theorem d214(n:Nat)(C:Fa n)(w:WS)(b:List Lit)(hs:Lit.aE b<=n)(G:0<=w.br)(I:w.br<=16)(hb:w.l.length+Lit.mQ b+2<=900000000)(hn:n<=100000000):
  bC prog 210 [.ptr 0 0,.iv (lits b)] w.O (.bf []) (cW (dz n) b w b.length).H 3:=by
 have D:xc.size=2:=rfl;have a0:=Lit.aF b;refine au ab func210 Z (by decide) ntmps210 Z (by simp) ?_;refine gA Z ?_;refine aK 0 b.length (OL _) (fun i=>⟨[(0,.ptr 0 0),(6,.iv (lits b)),(7,pI b.length),(8,pI i)],[(0,co ((cW (dz n) b w i).ph 0 2)),(2,co (.bh (cW (dz n) b w i).l 5))],3⟩) (fun _=>True) _ ac
  (Nx (w:=w) Z Z Z Z Z (.refl _) (.refl _) Z Z Z Z Z (bi (bi (bi (bi trivial))))) fun i R _=>?_
 have Y:=mL (dz n) (sA n) b w i R;have J:=mr (dz n) (vZ n) b w i;have c0:=Lit.CK b i;refine zE Z Z (fun h1=>?_) fun h1=>?_
 .have h1:b.length<=i:=zG h1;have B:i=b.length:=by omega
  subst B;refine gA Z gJ
 have h1:i<b.length:=zN h1;have d0:=Lit.wO b i h1;have b0:=Lit.bR b i h1;have j:cW (dz n) b w (i+1)=if(cW (dz n) b w i).bad=is then cW (dz n) b w i else dz n (b.getD i ci) (gn i (cW (dz n) b w i)):=rfl;have u:=fun h=>vf (f:=dz n) (l:=b) (w:=w) (i:=i) h (b.length-i);rw[Nat.add_sub_cancel' (Nat.le_of_lt h1)]at u;have A:=lh i (cW (dz n) b w i);have y:=qa i (cW (dz n) b w i);generalize cW (dz n) b w i=w2 at*
 refine zJ Z Z (fun g=>?_) fun g=>?_
 .have g:w2.bad=is:=g;rw[u g];refine gA Z gJ
 have g: ¬w2.bad=is:=by
  have g:w2.bad=jp:=g;rw[g];decide
 rw[be g]at j;refine zJ Z Z (fun x=>?_) fun x=>?_
 .have x: ¬i=0:=by have:=zT x;omega
  rw[gn,be x]at j A y;refine gA Z (ia (d147 w2 [xc] (by simp) (by rw[bD,D];omega)) ?_);refine gA Z (gh (C (b.getD i ci) (aS w2 [xc]) (by omega) (by omega) (by omega) (by omega)) ?_);refine gA Z ⟨h1,ac,_,ou (j.symm)⟩
 .have x:i=0:=by have:=zF x;omega
  rw[gn,am x]at j A y;refine gA Z (gh (C (b.getD i ci) w2 (by omega) (by omega) (by omega) (by omega)) ?_);refine gA Z ⟨h1,ac,_,ou (j.symm)⟩
def fC.ts(a:fC):Nat:=a.var.size+a.iV.ts+Lit.mQ a.body
set_option maxHeartbeats 4000000 in
theorem d190(n:Nat)(ih:Fa n)(w:WS)(a:fC)(hs:Lit.aE a.body<=n)(a0:0<=w.br)(b0:w.br<=16)(hb:w.l.length+a.ts+30<=900000000)(hn:n<=100000000):
  bC prog 192 [.ptr 0 0,ag a.c] w.O (.bf []) (wE (dz n) w a).H 3:=by
 refine bC.le (args:=[.ptr 0 0,ag a.c1]) ?_ ⟨.refl _,a.D2,ac⟩;have Y:xb.size=2:=rfl;have e5:Cs.size=3:=rfl;have c0:=Lit.aF a.body;have d0:a.ts=a.var.size+a.iV.ts+Lit.mQ a.body:=rfl;have hW: ¬(a.func<1∨5<=a.func∨16<=w.br∨a.body.length=0)->wE (dz n) w a=aS (tD (cW (dz n) a.body (tD (re (aS (aO w (fb a.var)) [a.var,pt,iz a.func,px]) a) 1) a.body.length) (-1)) [xb]:=fun h=>be h;have R:a.func<1∨5<=a.func∨16<=w.br∨a.body.length=0->wE (dz n) w a=mu w:=fun h=>am h;have hh:=uV w a;have y:=Ai (aS (aO w (fb a.var)) [a.var,pt,iz a.func,px]) a;have u:=DG (aS (aO w (fb a.var)) [a.var,pt,iz a.func,px]) a;rw[cL,sv]at u;have A:(tD (re (aS (aO w (fb a.var)) [a.var,pt,iz a.func,px]) a) 1).l.length=(re (aS (aO w (fb a.var)) [a.var,pt,iz a.func,px]) a).l.length:=rfl;have B:(tD (re (aS (aO w (fb a.var)) [a.var,pt,iz a.func,px]) a) 1).br=(re (aS (aO w (fb a.var)) [a.var,pt,iz a.func,px]) a).br+1:=rfl;have x:=mL (dz n) (sA n) a.body (tD (re (aS (aO w (fb a.var)) [a.var,pt,iz a.func,px]) a) 1) a.body.length (OJ _);rw[Qd]at x;have C:=mr (dz n) (vZ n) a.body (tD (re (aS (aO w (fb a.var)) [a.var,pt,iz a.func,px]) a) 1) a.body.length;have D:eI [a.var,pt,iz a.func,px]=a.var.size+(3+((iz a.func).size+3)):=by simp[eI,pt,px];rfl
 have G:=ya a.func;obtain⟨j,var,b,body⟩:=a;dsimp only at*
 refine au ab func192 Z (by decide) ntmps192 Z (by simp) ?_;refine zE Z Z (fun g1=>?_) fun g1=>?_
 .rw[R (.inl (zT g1))];refine gA Z gJ
 refine zE Z Z (fun g2=>?_) fun g2=>?_
 .rw[R (.inr (.inl (zT g2)))];refine gA Z gJ
 refine zE Z Z (fun g3=>?_) fun g3=>?_
 .rw[R (.inr (.inr (.inl (zT g3))))];refine gA Z gJ
 refine zJ Z Z (fun g4=>?_) fun g4=>?_
 .rw[R (.inr (.inr (.inr (RS.1 (zT g4)))))];refine gA Z gJ
 have g1: ¬j<1:=zF g1;have g2: ¬j>=5:=zF g2;have g3: ¬w.br>=16:=zF g3;have g4: ¬body.length=0:=fun h=>zF g4 (RS.2 h);rw[hW (by rintro(h|h|h|h)<;>omega)];have hf:j=1∨j=2∨j=3∨j=4:=by omega
 clear hW R;rcases hf with rfl|rfl|rfl|rfl
 .have e:iz 1=⟨#[99,111,117,110,116]⟩:=rfl;rw[e]at hh y u A B x C D G ⊢;refine gA Z (zp (zj var) ?_);refine gA Z (gh (d146 w (fb var)) ?_);refine gA Z (wg (d147 (aO w (fb var)) [var,pt,⟨#[99,111,117,110,116]⟩,px] (by simp) (by rw[D,aJ];omega)) Z Z Z Z Z Z Z Z Z Z Z Z Z Z Z Z (by(repeat' (first|exact ac|exact rfl|exact an.refl _|exact an.bk (by assumption)|apply Oz))<;>first|omega|(simp only[OA];omega)|(simp;done)|(simp;omega)) Z (by(repeat' (first|exact ac|exact rfl|exact an.refl _|exact an.bk (by assumption)|apply Oz))<;>first|omega|(simp only[OA];omega)|(simp;done)|(simp;omega)) ?_);generalize J:aS (aO w (fb var)) [var,pt,⟨#[99,111,117,110,116]⟩,px]=w1 at*
  have I:re w1 ⟨1,var,b,body⟩=aO w1 (iJ b):=rfl;rw[I]at y u A B x C ⊢;refine zE Z Z (fun q=>?_) fun q=>?_
  .exact absurd (show is=jp from q) (by decide)
  refine gA Z (zp (HQ b) ?_);refine gA Z (gh (d146 w1 (iJ b)) ?_);generalize aO w1 (iJ b)=w2 at*
  refine gA Z (gh (d214 n ih (tD w2 1) body hs (by omega) (by omega) (by omega) hn) ?_);generalize cW (dz n) body (tD w2 1) body.length=w3 at*
  refine gA Z (go_wp (d147 (tD w3 (-1)) [xb] (by simp) (by rw[bD,Y];show w3.l.length+2<=_;omega)) Z Z Z Z Z Z Z Z Z Z Z Z ?_);refine gA Z gJ
 .have e:iz 2=⟨#[115,117,109]⟩:=rfl;rw[e]at hh y u A B x C D G ⊢;refine gA Z (zp (zj var) ?_);refine gA Z (gh (d146 w (fb var)) ?_);refine gA Z (wg (d147 (aO w (fb var)) [var,pt,⟨#[115,117,109]⟩,px] (by simp) (by rw[D,aJ];omega)) Z Z Z Z Z Z Z Z Z Z Z Z Z Z Z Z (by(repeat' (first|exact ac|exact rfl|exact an.refl _|exact an.bk (by assumption)|apply Oz))<;>first|omega|(simp only[OA];omega)|(simp;done)|(simp;omega)) Z (by(repeat' (first|exact ac|exact rfl|exact an.refl _|exact an.bk (by assumption)|apply Oz))<;>first|omega|(simp only[OA];omega)|(simp;done)|(simp;omega)) ?_);generalize J:aS (aO w (fb var)) [var,pt,⟨#[115,117,109]⟩,px]=w1 at*
  have I:re w1 ⟨2,var,b,body⟩=aS (cH 17 w1 b) [Cs]:=rfl;rw[I]at y u A B x C ⊢;refine zJ Z Z (fun q=>?_) fun q=>?_
  .exact absurd (show jp=is from q) (by decide)
  have hx:=cZ 17 w1 b;refine gA Z (gh (nu w1 b (by omega)) ?_);refine gA Z (ia (d147 (cH 17 w1 b) [Cs] (by simp) (by rw[bD,e5];omega)) ?_);generalize aS (cH 17 w1 b) [Cs]=w2 at*
  refine gA Z (gh (d214 n ih (tD w2 1) body hs (by omega) (by omega) (by omega) hn) ?_);generalize cW (dz n) body (tD w2 1) body.length=w3 at*
  refine gA Z (go_wp (d147 (tD w3 (-1)) [xb] (by simp) (by rw[bD,Y];show w3.l.length+2<=_;omega)) Z Z Z Z Z Z Z Z Z Z Z Z ?_);refine gA Z gJ
 .have e:iz 3=⟨#[109,105,110]⟩:=rfl;rw[e]at hh y u A B x C D G ⊢;refine gA Z (zp (zj var) ?_);refine gA Z (gh (d146 w (fb var)) ?_);refine gA Z (wg (d147 (aO w (fb var)) [var,pt,⟨#[109,105,110]⟩,px] (by simp) (by rw[D,aJ];omega)) Z Z Z Z Z Z Z Z Z Z Z Z Z Z Z Z (by(repeat' (first|exact ac|exact rfl|exact an.refl _|exact an.bk (by assumption)|apply Oz))<;>first|omega|(simp only[OA];omega)|(simp;done)|(simp;omega)) Z (by(repeat' (first|exact ac|exact rfl|exact an.refl _|exact an.bk (by assumption)|apply Oz))<;>first|omega|(simp only[OA];omega)|(simp;done)|(simp;omega)) ?_);generalize J:aS (aO w (fb var)) [var,pt,⟨#[109,105,110]⟩,px]=w1 at*
  have I:re w1 ⟨3,var,b,body⟩=aS (cH 17 w1 b) [Cs]:=rfl;rw[I]at y u A B x C ⊢;refine zJ Z Z (fun q=>?_) fun q=>?_
  .exact absurd (show jp=is from q) (by decide)
  have hx:=cZ 17 w1 b;refine gA Z (gh (nu w1 b (by omega)) ?_);refine gA Z (ia (d147 (cH 17 w1 b) [Cs] (by simp) (by rw[bD,e5];omega)) ?_);generalize aS (cH 17 w1 b) [Cs]=w2 at*
  refine gA Z (gh (d214 n ih (tD w2 1) body hs (by omega) (by omega) (by omega) hn) ?_);generalize cW (dz n) body (tD w2 1) body.length=w3 at*
  refine gA Z (go_wp (d147 (tD w3 (-1)) [xb] (by simp) (by rw[bD,Y];show w3.l.length+2<=_;omega)) Z Z Z Z Z Z Z Z Z Z Z Z ?_);refine gA Z gJ
 .have e:iz 4=⟨#[109,97,120]⟩:=rfl;rw[e]at hh y u A B x C D G ⊢;refine gA Z (zp (zj var) ?_);refine gA Z (gh (d146 w (fb var)) ?_);refine gA Z (wg (d147 (aO w (fb var)) [var,pt,⟨#[109,97,120]⟩,px] (by simp) (by rw[D,aJ];omega)) Z Z Z Z Z Z Z Z Z Z Z Z Z Z Z Z (by(repeat' (first|exact ac|exact rfl|exact an.refl _|exact an.bk (by assumption)|apply Oz))<;>first|omega|(simp only[OA];omega)|(simp;done)|(simp;omega)) Z (by(repeat' (first|exact ac|exact rfl|exact an.refl _|exact an.bk (by assumption)|apply Oz))<;>first|omega|(simp only[OA];omega)|(simp;done)|(simp;omega)) ?_);generalize J:aS (aO w (fb var)) [var,pt,⟨#[109,97,120]⟩,px]=w1 at*
  have I:re w1 ⟨4,var,b,body⟩=aS (cH 17 w1 b) [Cs]:=rfl;rw[I]at y u A B x C ⊢;refine zJ Z Z (fun q=>?_) fun q=>?_
  .exact absurd (show jp=is from q) (by decide)
  have hx:=cZ 17 w1 b;refine gA Z (gh (nu w1 b (by omega)) ?_);refine gA Z (ia (d147 (cH 17 w1 b) [Cs] (by simp) (by rw[bD,e5];omega)) ?_);generalize aS (cH 17 w1 b) [Cs]=w2 at*
  refine gA Z (gh (d214 n ih (tD w2 1) body hs (by omega) (by omega) (by omega) hn) ?_);generalize cW (dz n) body (tD w2 1) body.length=w3 at*
  refine gA Z (go_wp (d147 (tD w3 (-1)) [xb] (by simp) (by rw[bD,Y];show w3.l.length+2<=_;omega)) Z Z Z Z Z Z Z Z Z Z Z Z ?_);refine gA Z gJ
set_option maxHeartbeats 4000000 in
theorem Cg(n:Nat)(ih:Fa n)(hn:n<=100000000):Fa (n+1):=by
 intro l w hs J R hb;have D:yz.size=4:=rfl;have B:=l.size_eq;have C:=l.qh;have A:l.agg.ts=l.bx.size+l.jw.ts+Lit.mQ l.ar:=rfl;have I:dz (n+1) l w=yR (dz n) l (aO w (jQ l)):=rfl;rw[I];have Y:(aO w (jQ l)).l.length=w.l.length:=rfl;have a0:=sv w (jQ l);have hx:=cZ 17 (aO w (jQ l)) l.left;obtain⟨kind,atom,op,left,right,dQ,bx,jw,ar,at_⟩:=l;dsimp only[Lit.atom,Lit.left,Lit.right,Lit.bx,Lit.jw,Lit.ar]at B C A hx;refine au ab func155 Z (by decide) ntmps155 Z (by simp) ?_;refine gA Z (zp (N8 (.mk kind atom op left right dQ bx jw ar at_)) ?_);refine gA Z (gh (d146 w (jQ (.mk kind atom op left right dQ bx jw ar at_))) ?_);generalize aO w (jQ (.mk kind atom op left right dQ bx jw ar at_))=w1 at*
 have G:yR (dz n) (.mk kind atom op left right dQ bx jw ar at_) w1=if kind=2 then jl (aS w1 [yz]) atom else if kind=1 then jl w1 atom
  else if kind=3 then(if op<1∨7<=op then mu (cH 17 w1 left) else cH 17 (aS (cH 17 w1 left) [s5 op]) right)
  else if kind=4 then wE (dz n) w1 (Lit.mk kind atom op left right dQ bx jw ar at_).agg else mu w1:=rfl
 rw[G];refine zJ Z Z (fun u=>?_) fun u=>?_
 .have u:kind=2:=zT u;rw[am u];refine gA Z (ia (d147 w1 [yz] (by simp) (by rw[bD,D];omega)) ?_);refine gA Z (gh (d104 (aS w1 [yz]) atom (by rw[aH,D];omega)) ?_);refine gA Z gJ
 have u: ¬kind=2:=zF u;rw[be u];refine zJ Z Z (fun j=>?_) fun j=>?_
 .have j:kind=1:=zT j;rw[am j];refine gA Z (gh (d104 w1 atom (by omega)) ?_);refine gA Z gJ
 have j: ¬kind=1:=zF j;rw[be j];refine zE Z Z (fun x=>?_) fun x=>?_
 .have x: ¬kind=3:=zF x;rw[be x];refine zJ Z Z (fun y=>?_) fun y=>?_
  .have y:kind=4:=zT y;rw[am y];refine gA Z (gh (d190 n ih w1 (Lit.mk kind atom op left right dQ bx jw ar at_).agg (by show Lit.aE ar<=n;omega) (by omega) (by omega) (by omega) hn) ?_);refine gA Z gJ
  .have y: ¬kind=4:=zF y;rw[be y];refine gA Z gJ
 have x:kind=3:=zT x;rw[am x];refine gA Z (gh (nu w1 left (by omega)) ?_);refine zE Z Z (fun g1=>?_) fun g1=>?_
 .rw[am (.inl (zT g1))];refine gA Z gJ
 refine zJ Z Z (fun g2=>?_) fun g2=>?_
 .rw[am (.inr (zT g2))];refine gA Z gJ
 have g1: ¬op<1:=zF g1;have g2: ¬op>=7:=zF g2;rw[be (by rintro(h|h)<;>omega)];generalize cH 17 w1 left=w2 at*
 have ho:op=1∨op=2∨op=3∨op=4∨op=5∨op=6:=by omega
 clear G I;rcases ho with rfl|rfl|rfl|rfl|rfl|rfl
 .have e:s5 1=⟨#[32,61,32]⟩:=rfl;have b:((⟨#[32,61,32]⟩:ak)).size=3:=rfl;rw[e];refine fk Z (by dsimp only[Lit.op];exact(by(repeat' (first|exact ac|exact rfl|exact an.refl _|exact an.bk (by assumption)|apply Oz))<;>first|omega|(simp only[OA];omega)|(simp;done)|(simp;omega))) (go_wp (d147 w2 [⟨#[32,61,32]⟩] (by simp) (by rw[bD,b];omega)) Z Z Z Z Z Z Z Z Z Z Z Z ?_);refine gA Z (gh (nu (aS w2 [⟨#[32,61,32]⟩]) right (by rw[aH,b];omega)) ?_);refine gA Z gJ
 .have e:s5 2=⟨#[32,33,61,32]⟩:=rfl;have b:((⟨#[32,33,61,32]⟩:ak)).size=4:=rfl;rw[e];refine fk Z (by dsimp only[Lit.op];exact(by(repeat' (first|exact ac|exact rfl|exact an.refl _|exact an.bk (by assumption)|apply Oz))<;>first|omega|(simp only[OA];omega)|(simp;done)|(simp;omega))) (go_wp (d147 w2 [⟨#[32,33,61,32]⟩] (by simp) (by rw[bD,b];omega)) Z Z Z Z Z Z Z Z Z Z Z Z ?_);refine gA Z (gh (nu (aS w2 [⟨#[32,33,61,32]⟩]) right (by rw[aH,b];omega)) ?_);refine gA Z gJ
 .have e:s5 3=⟨#[32,60,32]⟩:=rfl;have b:((⟨#[32,60,32]⟩:ak)).size=3:=rfl;rw[e];refine fk Z (by dsimp only[Lit.op];exact(by(repeat' (first|exact ac|exact rfl|exact an.refl _|exact an.bk (by assumption)|apply Oz))<;>first|omega|(simp only[OA];omega)|(simp;done)|(simp;omega))) (go_wp (d147 w2 [⟨#[32,60,32]⟩] (by simp) (by rw[bD,b];omega)) Z Z Z Z Z Z Z Z Z Z Z Z ?_);refine gA Z (gh (nu (aS w2 [⟨#[32,60,32]⟩]) right (by rw[aH,b];omega)) ?_);refine gA Z gJ
 .have e:s5 4=⟨#[32,60,61,32]⟩:=rfl;have b:((⟨#[32,60,61,32]⟩:ak)).size=4:=rfl;rw[e];refine fk Z (by dsimp only[Lit.op];exact(by(repeat' (first|exact ac|exact rfl|exact an.refl _|exact an.bk (by assumption)|apply Oz))<;>first|omega|(simp only[OA];omega)|(simp;done)|(simp;omega))) (go_wp (d147 w2 [⟨#[32,60,61,32]⟩] (by simp) (by rw[bD,b];omega)) Z Z Z Z Z Z Z Z Z Z Z Z ?_);refine gA Z (gh (nu (aS w2 [⟨#[32,60,61,32]⟩]) right (by rw[aH,b];omega)) ?_);refine gA Z gJ
 .have e:s5 5=⟨#[32,62,32]⟩:=rfl;have b:((⟨#[32,62,32]⟩:ak)).size=3:=rfl;rw[e];refine fk Z (by dsimp only[Lit.op];exact(by(repeat' (first|exact ac|exact rfl|exact an.refl _|exact an.bk (by assumption)|apply Oz))<;>first|omega|(simp only[OA];omega)|(simp;done)|(simp;omega))) (go_wp (d147 w2 [⟨#[32,62,32]⟩] (by simp) (by rw[bD,b];omega)) Z Z Z Z Z Z Z Z Z Z Z Z ?_);refine gA Z (gh (nu (aS w2 [⟨#[32,62,32]⟩]) right (by rw[aH,b];omega)) ?_);refine gA Z gJ
 .have e:s5 6=⟨#[32,62,61,32]⟩:=rfl;have b:((⟨#[32,62,61,32]⟩:ak)).size=4:=rfl;rw[e];refine fk Z (by dsimp only[Lit.op];exact(by(repeat' (first|exact ac|exact rfl|exact an.refl _|exact an.bk (by assumption)|apply Oz))<;>first|omega|(simp only[OA];omega)|(simp;done)|(simp;omega))) (go_wp (d147 w2 [⟨#[32,62,61,32]⟩] (by simp) (by rw[bD,b];omega)) Z Z Z Z Z Z Z Z Z Z Z Z ?_);refine gA Z (gh (nu (aS w2 [⟨#[32,62,61,32]⟩]) right (by rw[aH,b];omega)) ?_);refine gA Z gJ
theorem ML: ∀n,n<=100000001->Fa n
 |0,_=>fun l w hs=>by have:=l.size_pos;omega
 |n+1,h=>Cg n (ML n (by omega)) (by omega)
section
abbrev WS.o:WS:=⟨is,[],jp,0⟩
section
variable {nt:NT} {Q:AQ} {k:List KI} {s:AS}
def wN(s:AS)(i:Nat):AS:=match s with|⟨f,h,n⟩=>⟨f,(i,co (WS.o.ph i n))::(n,co (.bh [] 5))::h,n+1⟩
theorem AG{P:Program}{c:Code}{s':AS}(i:Nat)(hi:s.h.get i=co (.cells [.iv (.v (.pointer io)),.iv (.v (.slice io 0 0)),pB jp,pI 0] (co 225)))
  (hs:wN s i=s') (h:GO P nt (.code c::k) Q s'):GO P nt (.code c::k) Q s:=by
 subst hs;intro M N a w B;obtain⟨sf,sh,u⟩:=s;obtain⟨h1,Y⟩:=B.1.H9 5;have G:i<u:=B.1.used i _ hi;have I:i≠u:=fun e=>by omega
 have x:AH.get ((u,co (AO.bh [] 5))::sh) i=co (.cells [.iv (.v (.pointer io)),.iv (.v (.slice io 0 0)),pB jp,pI 0] (co 225)):=by
  rw[AH.aw,be I];exact hi
 obtain⟨y,T,e1,e2,e3,A,e5⟩:=Y.obj i _ x;have hv: ∀(j:Nat) (p:PV),[PV.ei is i,.sl u 0 0 1,pB jp,pI 0][j]? =co p->VR M N (· <u+1) p (y.getD j undef):=by
  intro j p b
  match j,b with
  |0,b=>
   cases b;have:=A 0 _ Z;generalize y.getD 0 undef=v at this ⊢;cases this with
   |iv _ _ h=>cases h with
    |v=>exact .ei is i (PS G)
  |1,b=>
   cases b;have:=A 1 _ Z;generalize y.getD 1 undef=v at this ⊢;cases this with
   |iv _ _ h=>cases h with
    |v=>exact .lK _ _ (P7 _)
  |2,b=>exact A 2 p b
  |3,b=>exact A 3 p b
  |j+4,b=>cases b
 obtain⟨g1,g2⟩:=Y.write (i:=i) (o0:= .cells [.iv (.v (.pointer io)),.iv (.v (.slice io 0 0)),pB jp,pI 0] (co 225)) x Z w (WS.o.ph i u) Z Z Z Z (fun _ _=>rfl) ⟨y,T,e1,e2,e3,hv,e5⟩;have C:Fits M N ⟨sf,(i,co (WS.o.ph i u))::(u,co (.bh [] 5))::sh,u+1⟩ nt a w:=
  ⟨g2,fun k=>(B.2.1 k).mono (.refl _) (.refl _ _) (fun i hi=>PS hi),B.2.2⟩
 exact AW.then h C fun e a2 w2 M2 N2 s2 R D J=>⟨M2,N2,s2,(h1.trans g1).trans R,D,J⟩
end
def WS.told(w:WS):PV:= .bf [pS (if w.bad=is then⟨#[]⟩ else⟨w.l.toArray⟩),pI (if w.bad=is then 50 else 0)]
theorem d105(w:WS):bC prog 154 [.ptr 0 0] w.O w.told [] 2:=by
 refine au ab func154 Z (by decide) ntmps154 Z (by simp) ?_;refine zJ Z Z (fun g=>?_) fun g=>?_
 .have g:w.bad=is:=g;unfold WS.told;rw[am g,am g];refine gA Z (zD [] Z (zW ac))
 .have g: ¬w.bad=is:=by
   have g:w.bad=jp:=g;rw[g];decide
  unfold WS.told;rw[be g,be g];refine gA Z (zq [0,1] (d150 w) ?_);refine gA Z (zD [] Z (zW ac))
def Ni(a:Atom):PV:=(jl WS.o a).told
def NG(l:Lit):PV:=(dz l.size l WS.o).told
theorem c61(a:Atom)(hb:a.ts<=900000000):Pure prog 118 [ag a.c] (Ni a):=by
 refine ai ab func118 Z (by decide) ntmps118 Z (by simp) Z ?_;refine gM 12 Z (AG 1 Z Z ?_);refine gA Z (gh (d104 WS.o a (by simpa using hb)) ?_);refine gA Z (zq [1,3] (d105 (jl WS.o a)) ?_);exact zU Z
theorem Oj(l:Lit)(hb:l.ts<=900000000)(hs:l.size<=100000000):Pure prog 119 [ag l.c] (NG l):=by
 refine ai ab func119 Z (by decide) ntmps119 Z (by simp) Z ?_;refine gM 12 Z (AG 1 Z Z ?_);refine gA Z (gh (ML l.size (by omega) l WS.o (OJ _) (by decide) (by decide) (by simpa using hb)) ?_);refine gA Z (zq [1,3] (d105 (dz l.size l WS.o)) ?_);exact zU Z
end
def nR(d:Decl)(i k:Int):Int:=
 if(d.types.any fun x=>!kw (x=1)&&!kw (x=2))=is∨gZ d.name=jp then 1
 else if i>=64∨(d.types.length:Int)>8 then 66 else if k>0 then 60 else 0
theorem Ol(d:Decl)(i k:Int):Pure prog 82 [ag d.c,pI i,pI k] (pI (nR d i k)):=by
 refine ai ab func82 Z (by decide) ntmps82 Z (by simp) Z ?_;refine gA Z (zq [] (d153 d.types) ?_);refine zE Z Z (fun g1=>?_) fun g1=>?_
 .rw[nR,am (.inl (by simpa using g1))];exact zU Z
 have g1: ¬(d.types.any fun x=>!kw (x=1)&&!kw (x=2))=is:=by
  have g1:(d.types.any fun x=>!kw (x=1)&&!kw (x=2))=jp:=g1;rw[g1];decide
 refine gA Z (zp (Nt d.name) ?_);refine zJ Z Z (fun g2=>?_) fun g2=>?_
 .have g2:gZ d.name=jp:=by simpa using g2
  rw[nR,am (.inr g2)];exact zU Z
 have g2: ¬gZ d.name=jp:=by
  have g2:gZ d.name=is:=by simpa using g2
  rw[g2];decide
 rw[nR,be (by rintro(h|h);exact g1 h;exact g2 h)];refine zE Z Z (fun g3=>?_) fun g3=>?_
 .rw[am (.inl (by simpa using g3))];exact zU Z
 have g3: ¬i>=64:=zF g3;refine zJ Z Z (fun g4=>?_) fun g4=>?_
 .rw[am (.inr (zT g4))];exact zU Z
 have g4: ¬(d.types.length:Int)>8:=zF g4;rw[be (by rintro(h|h);exact g3 h;exact g4 h)];refine zJ Z Z (fun g5=>?_) fun g5=>?_
 .rw[am (zT g5)];exact zU Z
 .rw[be (zF g5)];exact zU Z
abbrev b3:=(KC.si .i64).K
def b3.z:b3:=(OB,0)
def b3.c(s:b3):List IV:=[iS s.1,iI s.2]
def spE(s:b3):IV:= .agg s.c
def spZ:Value:= .agg #[.string OB,.int .i64 0]
def dvP:PV->b3
 | .agg [.iv (.v (.string s)),.iv (.v (.int _ a))]=>(s,a)
 |_=>b3.z
abbrev UM:=List (b3×b3)
abbrev KM:=List (b3×Int)
abbrev mW(m:UM):AO:= .map (.si .i64) spE b3.z spZ dvP m
abbrev upI(m:UM):IV:= .dO (.si .i64) spE b3.z spZ m
abbrev nj(m:KM):AO:= .map (.si .i64) wH 0 (.int .i64 0) NN m
abbrev kdI(m:KM):IV:= .dO (.si .i64) wH 0 (.int .i64 0) m
structure Want where
 lit:Int
 at_:b3
 kind:Int
 has:Int
 deriving Inhabited
def Want.c(w:Want):List IV:=[iI w.lit,iS w.at_.1,iI w.at_.2,iI w.kind,iI w.has]
structure TS where
 up:UM
 ws:List Want
 kind:KM
abbrev TS.cell(r:ax)(u j n k:Nat):AO:= .cells [.iv (cg r),.mp u,.sl j 0 n 5,.mp k]
abbrev TS.O(r:ax)(t:TS):List AO:=[TS.cell r 1 2 t.ws.length 3,mW t.up,aP 5 t.ws Want.c,nj t.kind]
abbrev TS.K(r:ax)(t:TS):AH:=[(0,co (TS.cell r 1 2 t.ws.length 3)),(1,co (mW t.up)),(2,co (aP 5 t.ws Want.c)),(3,co (nj t.kind))]
abbrev TS.H(r:ax)(t:TS):AH:=[(0,co (TS.cell r 1 4 t.ws.length 3)),(1,co (mW t.up)),(4,co (aP 5 t.ws Want.c)),(3,co (nj t.kind))]
def dF(r:ax)(s:ak)(w:Int):b3:=(s,if dt .str (aD (aC r)) s 0>0 then-1 else w)
theorem d136(r:ax)(t:TS)(s:ak)(w:Int):bC prog 195 [.ptr 0 0,pS s,pI w] (t.O r) (ag (dF r s w).c) (t.K r) 4:=by
 refine au ab func195 Z (by decide) ntmps195 Z (by simp) ?_;refine zJ Z Z (fun g=>?_) fun g=>?_
 .have e:dF r s w=(s, -1):=by unfold dF;rw[am (zT g)]
  rw[e];refine gA Z (zD [] Z (zW (zO (zC ⟨⟨_,rfl,.of_eq (b5 _).symm⟩,Oq Z,dK _,zC ac⟩))))
 .have e:dF r s w=(s,w):=by unfold dF;rw[be (zF g)]
  rw[e];refine gA Z (zD [] Z (zW (zO (zC ⟨⟨_,rfl,.of_eq (b5 _).symm⟩,Oq Z,dK _,zC ac⟩))))
def bE:UM->b3->b3
 | [],v=>v
 |(x,y)::r,v=>if x=v then bE r y else bE r v
def gp:UM->Prop
 | []=>True
 |(x,y)::r=>x≠y∧(∀q∈r,q.1≠x)∧(∀q∈r,q.2≠x)∧gp r
def Ba:UM->b3->Nat
 | [],_=>0
 |(x,_)::r,v=>if x=v then r.length+1 else Ba r v
theorem CG: ∀(m:UM) (v:b3),Ba m v<=m.length
 | [],_=>OJ _
 |(x,y)::r,v=>by
  have:=CG r v;unfold Ba;split
  .simp
  .simp;omega
theorem oE: ∀(m:UM) (v:b3),cO (.si .i64) m v=jp->bE m v=v
 | [],_,_=>rfl
 |(x,y)::r,v,h=>by
  unfold cO at h;unfold bE;split at h
  .cases h
  .rename_i b;rw[be b];exact oE r v h
theorem lN: ∀(m:UM) (v:b3),gp m->cO (.si .i64) m v=is->bE m (dt (.si .i64) m v b3.z)=bE m v∧Ba m (dt (.si .i64) m v b3.z)<Ba m v
 | [],_,_,h=>nomatch h
 |(x,y)::r,v,ok,h=>by
  obtain⟨D,J,G,I⟩:=ok;by_cases u:x=v
  .subst u;have e:dt (.si .i64) ((x,y)::r) x b3.z=y:=am Z;rw[e];refine⟨?_,?_⟩
   .show(if x=y then bE r y else bE r y)=if x=x then bE r y else bE r x;rw[am Z];split<;>rfl
   .show(if x=y then r.length+1 else Ba r y)<if x=x then r.length+1 else Ba r x;rw[am Z,be D];have:=CG r y;omega
  .have e:dt (.si .i64) ((x,y)::r) v b3.z=dt (.si .i64) r v b3.z:=be u;have A:cO (.si .i64) r v=is:=by
    unfold cO at h;rw[be u]at h;exact h
   rw[e];obtain⟨g1,g2⟩:=lN r v I A;have j:dt (.si .i64) r v b3.z≠x:=by
    have: ∀(m:UM),(∀q∈m,q.2≠x)->cO (.si .i64) m v=is->dt (.si .i64) m v b3.z≠x:=by
     intro m
     induction m with
     |nil=>intro _ h;cases h
     |cons a r ih=>
      obtain⟨R,Y⟩:=a;intro B h;unfold cO at h;unfold dt;split at h
      .rename_i b;rw[am b];exact B _ OH
      .rename_i b;rw[be b];exact ih (fun q C=>B q (OF _ C)) h
    exact this r G A
   refine⟨?_,?_⟩
   .show(if x=_ then bE r y else bE r _)=if x=v then bE r y else bE r v;rw[be (fun e=>j e.symm),be u];exact g1
   .show(if x=_ then r.length+1 else Ba r _)<if x=v then r.length+1 else Ba r v;rw[be (fun e=>j e.symm),be u];exact g2
theorem d52(r:ax)(t:TS)(v0:b3)(ok:gp t.up):bC prog 167 [.ptr 0 0,ag v0.c] (t.O r) (ag (bE t.up v0).c) (t.K r) 4:=by
 refine au ab func167 Z (by decide) ntmps167 Z (by simp) ?_;refine gA Z ?_
 refine gi (σ:={v:b3//bE t.up v=bE t.up v0}) (fun v=>⟨[(0,.ptr 0 0),(3,.ptr 4 0),(4,.ptr 5 0)],
  [(0,co (TS.cell r 1 2 t.ws.length 3)),(1,co (mW t.up)),(2,co (aP 5 t.ws Want.c)),(3,co (nj t.kind)),(4,co (.cells [pS v.1.1,pI v.1.2])),(5,co (.cells [pS ⟨#[]⟩,pI 0]))],6⟩) (fun v=>Ba t.up v.1) ⟨v0,rfl⟩ []
  (zW (zO (zC ⟨⟨_,rfl,.of_eq (b5 _).symm⟩,Oq Z,dK _,zC ⟨⟨_,rfl,.of_eq Z⟩,Oq Z,rfl,⟨_,rfl,.of_eq Z⟩,Oq Z,rfl,ac⟩⟩))) fun v=>?_
 obtain⟨v,b⟩:=v;refine zJ Z Z (fun g=>?_) fun g=>?_
 .have h:cO (.si .i64) t.up v=jp:=by simpa using g
  have e:bE t.up v0=v:=by rw[<-b];exact oE t.up v h
  refine gA Z (zD [] Z (zM ⟨.of_eq (congrArg (fun x:b3=>ag x.c) e.symm),rfl,ac⟩ (zO (zC ⟨⟨_,rfl,.of_eq (b5 _).symm⟩,Oq Z,dK _,zC ac⟩))))
 .have h:cO (.si .i64) t.up v=is:=by simpa using g
  obtain⟨h1,j⟩:=lN t.up v ok h;refine gA Z ⟨⟨dt (.si .i64) t.up v b3.z,h1.trans b⟩,[],j,zW (zO (zC ⟨⟨_,rfl,.of_eq (b5 _).symm⟩,Oq Z,dK _,zC ⟨⟨_,rfl,.of_eq Z⟩,Oq Z,rfl,⟨_,rfl,.of_eq Z⟩,Oq Z,rfl,ac⟩⟩))⟩
def Kb(r:ax)(t:TS):IV:= .ju [cg r,upI t.up,bw 5 t.ws Want.c,kdI t.kind]
theorem c52(r:ax)(t:TS)(v0:b3)(ok:gp t.up):Pure prog 167 [.iv (Kb r t),ag v0.c] (ag (bE t.up v0).c):=by
 refine ai ab func167 Z (by decide) ntmps167 Z (by simp) Z ?_;refine gA Z ?_
 refine gi (σ:={v:b3//bE t.up v=bE t.up v0}) (fun v=>⟨[(0,.iv (Kb r t)),(3,.ptr 0 0),(4,.ptr 1 0)],
  [(0,co (.cells [pS v.1.1,pI v.1.2])),(1,co (.cells [pS ⟨#[]⟩,pI 0]))],2⟩) (fun v=>Ba t.up v.1) ⟨v0,rfl⟩ []
  (zW ⟨⟨_,rfl,.of_eq Z⟩,Oq Z,rfl,⟨_,rfl,.of_eq Z⟩,Oq Z,rfl,ac⟩) fun v=>?_
 obtain⟨v,b⟩:=v;refine zJ Z Z (fun g=>?_) fun g=>?_
 .have h:cO (.si .i64) t.up v=jp:=by simpa using g
  have e:bE t.up v0=v:=by rw[<-b];exact oE t.up v h
  refine gA Z (zL (.of_eq ?_));exact congrArg (fun x:b3=>ag x.c) e.symm
 .have h:cO (.si .i64) t.up v=is:=by simpa using g
  obtain⟨h1,j⟩:=lN t.up v ok h;refine gA Z ⟨⟨dt (.si .i64) t.up v b3.z,h1.trans b⟩,[],j,zW ⟨⟨_,rfl,.of_eq Z⟩,Oq Z,rfl,⟨_,rfl,.of_eq Z⟩,Oq Z,rfl,ac⟩⟩
def rJ(t:TS)(w:Want):Int:=if w.has=0 then dt (.si .i64) t.kind (bE t.up w.at_) 0 else w.has
def qe(t:TS)(lit:Int)(w:Want):Bool:=kw (w.lit=lit)&&!kw (rJ t w=w.kind)
def pj(t:TS)(lit:Int):Bool:=t.ws.any (qe t lit)
theorem Og(r:ax)(t:TS)(lit:Int)(ok:gp t.up)(hb:t.ws.length<=1000000000000):Pure prog 131 [.iv (Kb r t),pI lit] (pB (pj t lit)):=by
 refine ai ab func131 Z (by decide) ntmps131 Z (by simp) Z ?_;refine gA Z ?_;refine aK 0 t.ws.length (OL _) (fun i=>⟨[(0,.iv (Kb r t)),(1,pI lit),(11,.iv (bw 5 t.ws Want.c)),(12,pI t.ws.length),(13,pI i)],[],0⟩) (fun i=>(t.ws.take i).any (qe t lit)=jp) [] Z
  (zW trivial) fun i A y=>?_
 refine zJ Z Z (fun h1=>?_) fun h1=>?_
 .have h1:i<t.ws.length:=by simpa using h1
  have x:=cI y h1;refine zJ Z Z (fun u=>?_) fun u=>?_
  .have u:(t.ws.getD i ci).has=0:=zT u;refine gA Z (zm (c52 r t (t.ws.getD i ci).at_ ok) ?_);have hk:rJ t (t.ws.getD i ci)=dt (.si .i64) t.kind (bE t.up (t.ws.getD i ci).at_) 0:=am u;refine zJ Z Z (fun b=>?_) fun b=>?_
   .have b:(t.ws.getD i ci).lit=lit:=zT b;refine zJ Z Z (fun j=>?_) fun j=>?_
    .have j: ¬rJ t (t.ws.getD i ci)=(t.ws.getD i ci).kind:=by rw[hk];simpa using j
     have e:pj t lit=is:=PI.2 ⟨t.ws.getD i ci,by rw[Ow,Ox h1];exact Pg h1,by rw[qe,decide_eq_true b,decide_eq_false j];rfl⟩;refine gA Z (zL (.of_eq ?_));rw[e]
    .have j:rJ t (t.ws.getD i ci)=(t.ws.getD i ci).kind:=by rw[hk];simpa using j
     refine gA Z ⟨h1,x.2 (by rw[qe,decide_eq_true j,QC,QU]),[],zW ac⟩
   .have b: ¬(t.ws.getD i ci).lit=lit:=by simpa using b
    refine gA Z ⟨h1,x.2 (by rw[qe,decide_eq_false b];rfl),[],zW ac⟩
  .have u: ¬(t.ws.getD i ci).has=0:=zF u;have hk:rJ t (t.ws.getD i ci)=(t.ws.getD i ci).has:=be u;refine zJ Z Z (fun b=>?_) fun b=>?_
   .have b:(t.ws.getD i ci).lit=lit:=zT b;refine zJ Z Z (fun j=>?_) fun j=>?_
    .have j: ¬rJ t (t.ws.getD i ci)=(t.ws.getD i ci).kind:=by rw[hk];simpa using j
     have e:pj t lit=is:=PI.2 ⟨t.ws.getD i ci,by rw[Ow,Ox h1];exact Pg h1,by rw[qe,decide_eq_true b,decide_eq_false j];rfl⟩;refine gA Z (zL (.of_eq ?_));rw[e]
    .have j:rJ t (t.ws.getD i ci)=(t.ws.getD i ci).kind:=by rw[hk];simpa using j
     refine gA Z ⟨h1,x.2 (by rw[qe,decide_eq_true j,QC,QU]),[],zW ac⟩
   .have b: ¬(t.ws.getD i ci).lit=lit:=by simpa using b
    refine gA Z ⟨h1,x.2 (by rw[qe,decide_eq_false b];rfl),[],zW ac⟩
 .have h1:t.ws.length<=i:=by simpa using h1
  rw[OP h1]at y;refine gA Z (zL (.of_eq ?_));rw[pj,y]
section
section
variable (r:ax) (lit w:Int)
def kS(e:Expr):List Want:=if e.kind=1 then[⟨lit,dF r e.var w,1,0⟩] else if e.kind=2 then[⟨lit,b3.z,1,e.val.kind⟩] else[]
mutual
def fp:Expr->List Want
 | .mk k v val op args=>kS r lit w (.mk k v val op args)++(if k=4 then qt args else[])
def qt:List Expr->List Want
 | []=> []
 |e::s=>fp e++qt s
end
theorem xF: ∀l:List Expr,qt r lit w l=l.flatMap (fp r lit w)
 | []=>rfl
 |e::s=>by rw[qt,PB,xF s]
def gC(e:Expr):List Want:=if e.kind=4 then e.args.flatMap (fp r lit w) else[]
theorem Aj(e:Expr):fp r lit w e=kS r lit w e++gC r lit w e:=by
 cases e;rw[fp,xF];rfl
end
abbrev TS.add(t:TS)(l:List Want):TS:=⟨t.up,t.ws++l,t.kind⟩
section
variable {nt:NT} {Q:AQ} {k:List KI} {s:AS}
def tS(s:AS)(r:ax)(t:TS)(i u j m:Nat):AS:=match s with|⟨f,h,n⟩=>⟨f,(i,co (TS.cell r u n t.ws.length m))::(u,co (mW t.up))::(n,co (aP 5 t.ws Want.c))::(m,co (nj t.kind))::(i,io)::(u,io)::(j,io)::(m,io)::h,n+1⟩
theorem Mi(s:AS)(r:ax)(t:TS)(i u j m:Nat):tS s r t i u j m=⟨s.f,(i,co (TS.cell r u s.nx t.ws.length m))::(u,co (mW t.up))::(s.nx,co (aP 5 t.ws Want.c))::(m,co (nj t.kind))::(i,io)::(u,io)::(j,io)::(m,io)::s.h,s.nx+1⟩:=by cases s;rfl
def tR(s:AS)(r:ax)(t:TS)(i u j m:Nat):AS:=match s with|⟨f,h,n⟩=>⟨f,(i,co (TS.cell r u j t.ws.length m))::(u,co (mW t.up))::(j,co (aP 5 t.ws Want.c))::(m,co (nj t.kind))::(i,io)::(u,io)::(j,io)::(m,io)::h,n⟩
theorem Mj(s:AS)(r:ax)(t:TS)(i u j m:Nat):tR s r t i u j m=⟨s.f,(i,co (TS.cell r u j t.ws.length m))::(u,co (mW t.up))::(j,co (aP 5 t.ws Want.c))::(m,co (nj t.kind))::(i,io)::(u,io)::(j,io)::(m,io)::s.h,s.nx⟩:=by cases s;rfl
theorem CR{o:Oper}{c:Call}{g:FuncId}{args A:List PV}{r:ax}{t B:TS}{y:PV}{i u j m n:Nat}{es:List (List PV)}{s':AS}(hc:bC prog g (.ptr 0 0::args) (t.O r) y (B.H r) 5)(ho:o.op= .call c)(ha:bM s.f c=co (g,.ptr i 0::A))
  (hi:s.h.get i=co (TS.cell r u j n m)) (hu:s.h.get u=co (mW t.up)) (hj:s.h.get j=co (.row 5 es)) (hm:s.h.get m=co (nj t.kind)) (hn:n=t.ws.length) (he:es=t.ws.map fun x=>(Want.c x).map .iv)
  (hlt:[i,u,j,m].all (fun x=>OV x s.nx)=is) (hnd:cx [i,u,j,m]=is) (has:A=args) (hlow:bd 0 args=is) (hr:y.low 0=is)
  (hp:putDst nt o y (tS s r B i u j m)=co s'):OT prog nt o s (fun t=>t=s'):=by
 subst has;subst hn;subst he;have b: ∀σ,dy σ A=A:=fun σ=>fY σ A hlow;refine ll ho ha hc (ff hnd) (fun j hj=>Oq (Pc.1 hlt j hj)) ?_ ?_ ?_
 .simp only[OU,Qo,hi,hu,hj,hm,b5];rfl
 .simp only[dy,b];rfl
 .rintro q C n0 ⟨rfl,rfl,rfl⟩;rw[PV.jA _ _ hr];rw[Mi]at hp;refine⟨s',?_,rfl⟩;rw[<-hp];simp only[TS.H,aX,vE,PC,b5];rfl
theorem CL{o:Oper}{c:Call}{g:FuncId}{args A:List PV}{r:ax}{t:TS}{y:PV}{i u j m n:Nat}{es:List (List PV)}{s':AS}(hc:bC prog g (.ptr 0 0::args) (t.O r) y (t.K r) 4)(ho:o.op= .call c)(ha:bM s.f c=co (g,.ptr i 0::A))
  (hi:s.h.get i=co (TS.cell r u j n m)) (hu:s.h.get u=co (mW t.up)) (hj:s.h.get j=co (.row 5 es)) (hm:s.h.get m=co (nj t.kind)) (hn:n=t.ws.length) (he:es=t.ws.map fun x=>(Want.c x).map .iv)
  (hlt:[i,u,j,m].all (fun x=>OV x s.nx)=is) (hnd:cx [i,u,j,m]=is) (has:A=args) (hlow:bd 0 args=is) (hr:y.low 0=is)
  (hp:putDst nt o y (tR s r t i u j m)=co s'):OT prog nt o s (fun t=>t=s'):=by
 subst has;subst hn;subst he;have b: ∀σ,dy σ A=A:=fun σ=>fY σ A hlow;refine ll ho ha hc (ff hnd) (fun j hj=>Oq (Pc.1 hlt j hj)) ?_ ?_ ?_
 .simp only[OU,Qo,hi,hu,hj,hm,b5];rfl
 .simp only[dy,b];rfl
 .rintro q B n0 ⟨rfl,rfl,rfl⟩;rw[PV.jA _ _ hr];rw[Mj]at hp;refine⟨s',?_,rfl⟩;rw[<-hp];simp only[TS.K,aX,vE,PC,b5];rfl
theorem x4{all rest:List Oper}{o:Oper}{c:Call}{g:FuncId}{args y:List PV}{r:ax}{t A:TS}{b:PV}{i u j m n:Nat}{es:List (List PV)}{s':AS}(hc:bC prog g (.ptr 0 0::args) (t.O r) b (A.H r) 5)(ho:o.op= .call c)(hg:o.guard=io)(ha:bM s.f c=co (g,.ptr i 0::y))
  (hi:s.h.get i=co (TS.cell r u j n m)) (hu:s.h.get u=co (mW t.up)) (hj:s.h.get j=co (.row 5 es)) (hm:s.h.get m=co (nj t.kind)) (hn:n=t.ws.length) (he:es=t.ws.map fun x=>(Want.c x).map .iv)
  (hlt:[i,u,j,m].all (fun x=>OV x s.nx)=is) (hnd:cx [i,u,j,m]=is) (has:y=args) (hlow:bd 0 args=is) (hr:b.low 0=is)
  (hp:putDst nt o b (tS s r A i u j m)=co s') (h:GO prog nt (.ops all rest::k) Q s'):GO prog nt (.ops all (o::rest)::k) Q s:=
 cM hg (CR hc ho ha hi hu hj hm hn he hlt hnd has hlow hr hp) fun t B=>by subst B;exact h
theorem AE{all rest:List Oper}{o:Oper}{c:Call}{g:FuncId}{args y:List PV}{r:ax}{t A:TS}{b:PV}{i u j m n:Nat}{es:List (List PV)}{s':AS}(hc:bC prog g (.ptr 0 0::args) (t.O r) b (A.H r) 5)(h:GO prog nt (.ops all rest::k) Q s')(ho:o.op= .call c:=by exact rfl)(hg:o.guard=io:=by exact rfl)(ha:bM s.f c=co (g,.ptr i 0::y):=by exact rfl)(hi:s.h.get i=co (TS.cell r u j n m):=by exact rfl)(hu:s.h.get u=co (mW t.up):=by exact rfl)(hj:s.h.get j=co (.row 5 es):=by exact rfl)(hm:s.h.get m=co (nj t.kind):=by exact rfl)(hn:n=t.ws.length:=by first|rfl|(rw[Oy];rfl)|simp)(he:es=t.ws.map fun x=>(Want.c x).map .iv:=by first|rfl|(rw[OM];rfl)|(simp only[OM,OS];rfl))(hlt:[i,u,j,m].all (fun x=>OV x s.nx)=is:=by exact rfl)(hnd:cx [i,u,j,m]=is:=by exact rfl)(has:y=args:=by exact rfl)(hlow:bd 0 args=is:=by exact rfl)(hr:b.low 0=is:=by exact rfl)(hp:putDst nt o b (tS s r A i u j m)=co s':=by exact rfl):GO prog nt (.ops all (o::rest)::k) Q s:=x4 (hc:=hc) (ho:=ho) (hg:=hg) (ha:=ha) (hi:=hi) (hu:=hu) (hj:=hj) (hm:=hm) (hn:=hn) (he:=he) (hlt:=hlt) (hnd:=hnd) (has:=has) (hlow:=hlow) (hr:=hr) (hp:=hp) (h:=h)
theorem K5{all:List Oper}{todo pend:List (Nat×Oper)}{y:Nat}{B A:Prop}{o:Oper}{c:Call}{g:FuncId}{args C:List PV}{r:ax}{t:TS}{b:PV}{i u j m n:Nat}{es:List (List PV)}{s':AS}(hc:bC prog g (.ptr 0 0::args) (t.O r) b (t.K r) 4)
  (hrd:eJ todo=[(y,o)]) (ho:o.op= .call c) (ha:bM s.f c=co (g,.ptr i 0::C))
  (hi:s.h.get i=co (TS.cell r u j n m)) (hu:s.h.get u=co (mW t.up)) (hj:s.h.get j=co (.row 5 es)) (hm:s.h.get m=co (nj t.kind)) (hn:n=t.ws.length) (he:es=t.ws.map fun x=>(Want.c x).map .iv)
  (hlt:[i,u,j,m].all (fun x=>OV x s.nx)=is) (hnd:cx [i,u,j,m]=is) (has:C=args) (hlow:bd 0 args=is) (hr:b.low 0=is)
  (hp:putDst nt o b (tR s r t i u j m)=co s')
  (hg:bV nt all s.f o=co is) (hpb:gW all pend o=is) (hE:mU todo [y]=is)
  (hag:mV nD nt all s todo pend=co B) (hCA:B) (hag2:dD nD nt all s' (aZ pend o)=co A) (hC2:A)
  (h:GO prog nt (.bU all (todo.filter fun x=>!OW x.1 y) (aZ pend o)::k) Q s'):GO prog nt (.bU all todo pend::k) Q s:=
 kZ ab hrd hg hpb hE hag hCA (CL hc ho ha hi hu hj hm hn he hlt hnd has hlow hr hp) hag2 hC2 h
theorem lY{all:List Oper}{todo pend:List (Nat×Oper)}{y:Nat}{B A:Prop}{o:Oper}{c:Call}{g:FuncId}{args C:List PV}{r:ax}{t:TS}{b:PV}{i u j m n:Nat}{es:List (List PV)}{s':AS}(hc:bC prog g (.ptr 0 0::args) (t.O r) b (t.K r) 4)(h:GO prog nt (.bU all (todo.filter fun x=>!OW x.1 y) (aZ pend o)::k) Q s')(hrd:eJ todo=[(y,o)]:=by exact rfl)(ho:o.op= .call c:=by exact rfl)(ha:bM s.f c=co (g,.ptr i 0::C):=by exact rfl)(hi:s.h.get i=co (TS.cell r u j n m):=by exact rfl)(hu:s.h.get u=co (mW t.up):=by exact rfl)(hj:s.h.get j=co (.row 5 es):=by exact rfl)(hm:s.h.get m=co (nj t.kind):=by exact rfl)(hn:n=t.ws.length:=by first|rfl|(rw[Oy];rfl)|simp)(he:es=t.ws.map fun x=>(Want.c x).map .iv:=by first|rfl|(rw[OM];rfl)|(simp only[OM,OS];rfl))(hlt:[i,u,j,m].all (fun x=>OV x s.nx)=is:=by exact rfl)(hnd:cx [i,u,j,m]=is:=by exact rfl)(has:C=args:=by exact rfl)(hlow:bd 0 args=is:=by exact rfl)(hr:b.low 0=is:=by exact rfl)(hp:putDst nt o b (tR s r t i u j m)=co s':=by exact rfl)(hg:bV nt all s.f o=co is:=by exact rfl)(hpb:gW all pend o=is:=by exact rfl)(hE:mU todo [y]=is:=by exact rfl)(hag:mV nD nt all s todo pend=co B:=by exact rfl)(hCA:B:=by(repeat' (first|exact ac|exact rfl|exact an.refl _|exact an.bk (by assumption)|apply Oz))<;>first|omega|(simp only[OA];omega)|(simp;done)|(simp;omega))(hag2:dD nD nt all s' (aZ pend o)=co A:=by exact rfl)(hC2:A:=by(repeat' (first|exact ac|exact rfl|exact an.refl _|exact an.bk (by assumption)|apply Oz))<;>first|omega|(simp only[OA];omega)|(simp;done)|(simp;omega)):GO prog nt (.bU all todo pend::k) Q s:=K5 (hc:=hc) (hrd:=hrd) (ho:=ho) (ha:=ha) (hi:=hi) (hu:=hu) (hj:=hj) (hm:=hm) (hn:=hn) (he:=he) (hlt:=hlt) (hnd:=hnd) (has:=has) (hlow:=hlow) (hr:=hr) (hp:=hp) (hg:=hg) (hpb:=hpb) (hE:=hE) (hag:=hag) (hCA:=hCA) (hag2:=hag2) (hC2:=hC2) (h:=h)
theorem Jp{l:List ResultVar}{r0:PV}{e:Exit}{r:ax}{u:TS}{b:PV}{j n:Nat}{es:List (List PV)}(he:e= .normal∨e= .ret)(hr:iT nD s l=co r0)(hi:s.h.get 0=co (TS.cell r 1 j n 3))(hu:s.h.get 1=co (mW u.up))(hj:s.h.get j=co (.row 5 es))(hm:s.h.get 3=co (nj u.kind))
  (hn:n=u.ws.length) (hes:es=u.ws.map fun x=>(Want.c x).map .iv) (hlt:OV j s.nx=is) (hnd:cx [0,1,j,3]=is) (hns:Qr 4 s.nx=is) (hrl:an r0 b) (hlow:b.low 0=is) (hlow5:b.low 5=is):zl nD l 4 b (u.H r) 5 e s:=by
 subst hn;subst hes;refine aY [j] he hr ⟨rfl,Oq hns,fun x y=>?_,⟨?_,hlow5,ac⟩,⟨⟨_,hi,.of_eq Z⟩,Oq Z,rfl,⟨_,hu,.of_eq Z⟩,Oq Z,ac,⟨_,hj,.of_eq (b5 _).symm⟩,Oq Z,dK _,⟨_,hm,.of_eq Z⟩,Oq Z,ac,ac⟩,?_⟩
 .simp only[OI]at y;subst y;exact Oq hlt
 .rw[PV.jA _ _ hlow];exact hrl
 .exact ff hnd
theorem tI{l:List ResultVar}{r0:PV}{e:Exit}{r:ax}{u:TS}{b:PV}{j n:Nat}{es:List (List PV)}(he:e= .normal∨e= .ret:=by first|exact .inr Z|exact .inl Z)(hr:iT nD s l=co r0:=by exact rfl)(hi:s.h.get 0=co (TS.cell r 1 j n 3):=by exact rfl)(hu:s.h.get 1=co (mW u.up):=by exact rfl)(hj:s.h.get j=co (.row 5 es):=by exact rfl)(hm:s.h.get 3=co (nj u.kind):=by exact rfl)(hn:n=u.ws.length:=by first|rfl|(rw[Oy];rfl)|simp)(hes:es=u.ws.map fun x=>(Want.c x).map .iv:=by first|rfl|(rw[OM];rfl)|(simp only[OM,OS];rfl))(hlt:OV j s.nx=is:=by exact rfl)(hnd:cx [0,1,j,3]=is:=by exact rfl)(hns:Qr 4 s.nx=is:=by exact rfl)(hrl:an r0 b:=by exact .refl _)(hlow:b.low 0=is:=by exact rfl)(hlow5:b.low 5=is:=by exact rfl):zl nD l 4 b (u.H r) 5 e s:=Jp (he:=he) (hr:=hr) (hi:=hi) (hu:=hu) (hj:=hj) (hm:=hm) (hn:=hn) (hes:=hes) (hlt:=hlt) (hnd:=hnd) (hns:=hns) (hrl:=hrl) (hlow:=hlow) (hlow5:=hlow5)
theorem H7{n0 i u j m n:Nat}{es:List (List PV)}{J:AF}{r:ax}{t b:TS}(hw:t=b)(hi:s.h.get i=co (TS.cell r u j n m))(hu:s.h.get u=co (mW t.up))(hj:s.h.get j=co (.row 5 es))(hm:s.h.get m=co (nj t.kind))
  (hn:n=t.ws.length) (hes:es=t.ws.map fun x=>(Want.c x).map .iv) (hlt:OV j s.nx=is) (hnd:cx [i,u,j,m]=is) (h0:[i,u,m].all (fun x=>OV x n0)=is) (hns:Qr n0 s.nx=is) (hf:Cy (n0+1) (sg n0 [j]) s.f J):
  Wk n0 [j] s ⟨J,[(i,co (TS.cell r u n0 b.ws.length m)),(u,co (mW b.up)),(n0,co (aP 5 b.ws Want.c)),(m,co (nj b.kind))],n0+1⟩:=by
 subst hw;subst hn;subst hes;simp only[Ru,List.all_nil,Bool.and_true,Pk]at h0;have y:i<n0:=Oq h0.1;have B:u<n0:=Oq h0.2.1;have A:m<n0:=Oq h0.2.2;have s0:sg n0 [j] i=i:=fj y;have C:sg n0 [j] u=u:=fj B;have D:sg n0 [j] m=m:=fj A;have R:OV n0 n0=jp:=QQ.2 fun e=>absurd (Oq e) (by omega);have G:sg n0 [j] n0=j:=by simp[sg,R]
 have c1:OV u (n0+1)=is:=Pp (by omega);have Y:OV m (n0+1)=is:=Pp (by omega);have cn:OV n0 (n0+1)=is:=Pp (by omega);refine⟨rfl,Oq hns,fun x I=>?_,hf,⟨⟨_,by rw[s0];exact hi,?_⟩,by show i<n0+1;omega,?_,⟨_,by rw[C];exact hu,.of_eq Z⟩,by show u<n0+1;omega,ac,⟨_,by rw[G];exact hj,.of_eq (b5 _).symm⟩,P7 _,dK _,⟨_,by rw[D];exact hm,.of_eq Z⟩,by show m<n0+1;omega,ac,ac⟩,?_⟩
 .simp only[OI]at I;subst I;exact Oq hlt
 .simp only[AO.cq,dy,PV.cq,C,D,G];exact .of_eq Z
 .simp[AO.low,bd,PV.low,c1,Y,cn]
 .simp only[eh,s0,C,D,G];exact ff hnd
theorem nB{n0 i u j m n:Nat}{es:List (List PV)}{y:AF}{r:ax}{t b:TS}(hw:t=b)(hi:s.h.get i=co (TS.cell r u j n m):=by exact rfl)(hu:s.h.get u=co (mW t.up):=by exact rfl)(hj:s.h.get j=co (.row 5 es):=by exact rfl)(hm:s.h.get m=co (nj t.kind):=by exact rfl)(hn:n=t.ws.length:=by first|rfl|(rw[Oy];rfl)|simp)(hes:es=t.ws.map fun x=>(Want.c x).map .iv:=by first|rfl|(rw[OM];rfl)|(simp only[OM,OS];rfl))(hlt:OV j s.nx=is:=by exact rfl)(hnd:cx [i,u,j,m]=is:=by exact rfl)(h0:[i,u,m].all (fun x=>OV x n0)=is:=by exact rfl)(hns:Qr n0 s.nx=is:=by exact rfl)(hf:Cy (n0+1) (sg n0 [j]) s.f y:=by repeat' (first|exact ac|exact an.refl _|exact rfl|apply Oz)):Wk n0 [j] s ⟨y,[(i,co (TS.cell r u n0 b.ws.length m)),(u,co (mW b.up)),(n0,co (aP 5 b.ws Want.c)),(m,co (nj b.kind))],n0+1⟩:=H7 (hw:=hw) (hi:=hi) (hu:=hu) (hj:=hj) (hm:=hm) (hn:=hn) (hes:=hes) (hlt:=hlt) (hnd:=hnd) (h0:=h0) (hns:=hns) (hf:=hf)
end
theorem TS.add_add(t:TS)(a b:List Want):(t.add a).add b=t.add (a++b):=by simp[TS.add]
theorem TS.add_nil(t:TS):t.add []=t:=by simp[TS.add]
def H4(r:ax)(n:Nat):Prop:= ∀(t:TS) (e:Expr) (lit w:Int),e.size<=n->t.ws.length+Expr.aE e.args<=1000000000->bC prog 196 [.ptr 0 0,ag e.c,pI lit,pI w] (t.O r) (.bf []) ((t.add (gC r lit w e)).H r) 5
def Ln(r:ax)(n:Nat):Prop:= ∀(t:TS) (e:Expr) (lit w:Int),e.size<=n->t.ws.length+e.size<=1000000000->bC prog 165 [.ptr 0 0,ag e.c,pI lit,pI w] (t.O r) (.bf []) ((t.add (fp r lit w e)).H r) 5
theorem d92(r:ax)(n:Nat)(u:H4 r n):Ln r n:=by
 intro t e lit w hs hb;have x:=e.size_eq;rw[Aj,<-TS.add_add];refine au ab func165 Z (by decide) ntmps165 Z (by simp) ?_;refine zJ Z Z (fun b=>?_) fun b=>?_
 .have b:e.kind=1:=zT b;have hl:kS r lit w e=[⟨lit,dF r e.var w,1,0⟩]:=am b;rw[hl];refine gA Z (lY (d136 r t e.var w) ?_);refine gA Z (x4 (u (t.add [⟨lit,dF r e.var w,1,0⟩]) e lit w hs (by show(t.ws++_).length+_<=_;rw[Oy,Pu];omega)) Z Z Z Z Z Z Z (by first|rfl|(rw[Oy];rfl)|simp) (by first|rfl|(rw[OM];rfl)|(simp only[OM,OS];rfl)) Z Z Z Z Z Z ?_);refine gA Z tI
 have b: ¬e.kind=1:=zF b;refine zJ Z Z (fun j=>?_) fun j=>?_
 .have j:e.kind=2:=zT j;have hl:kS r lit w e=[⟨lit,b3.z,1,e.val.kind⟩]:=by unfold kS;rw[be b,am j]
  rw[hl];refine gA Z (x4 (u (t.add [⟨lit,b3.z,1,e.val.kind⟩]) e lit w hs (by show(t.ws++_).length+_<=_;rw[Oy,Pu];omega)) Z Z Z Z Z Z Z (by first|rfl|(rw[Oy];rfl)|simp) (by first|rfl|(rw[OM];rfl)|(simp only[OM,OS];rfl)) Z Z Z Z Z Z ?_);refine gA Z tI
 .have j: ¬e.kind=2:=zF j;have hl:kS r lit w e=[]:=by unfold kS;rw[be b,be j]
  rw[hl,TS.add_nil];refine gA Z (AE (u t e lit w hs (by omega)) ?_);refine gA Z tI
theorem fZ(r:ax)(lit w:Int): ∀e:Expr,(fp r lit w e).length<=e.size
 | .mk k v val op args=>by
  rw[fp,Expr.size,Oy];have h1:(kS r lit w (.mk k v val op args)).length<=1:=by
   unfold kS
   repeat' split
   all_goals simp
  have b:(if k=4 then qt r lit w args else[]).length<=Expr.aE args:=by
   split
   .exact numRs_len args
   .simp
  omega
where
 numRs_len: ∀l:List Expr,(qt r lit w l).length<=Expr.aE l
 | []=>by simp[qt]
 |e::s=>by
  have h1:=fZ r lit w e;have h2:=numRs_len s;rw[qt,Expr.aE,Oy];omega
theorem DH(r:ax)(lit w:Int)(l:List Expr)(i:Nat)(h:i<l.length):((l.take i).flatMap (fp r lit w)).length+(l.getD i ci).size<=Expr.aE l:=by
 have h1: ∀l:List Expr,(l.flatMap (fp r lit w)).length<=Expr.aE l:=by
  intro l
  induction l with
  |nil=>simp
  |cons e s ih=>
   have:=fZ r lit w e;rw[PB,Oy,Expr.aE];omega
 have j:=h1 (l.take i);have b: ∀(l:List Expr) (i:Nat),i<l.length->Expr.aE (l.take i)+(l.getD i ci).size<=Expr.aE l:=by
  intro l
  induction l with
  |nil=>intro i h;simp at h
  |cons e s ih=>
   intro i h;cases i with
   |zero=>simp[Expr.aE]
   |succ i=>
    have:=ih i (by simpa using h);simp only[PR,PK,Expr.aE];omega
 have:=b l i h;omega
theorem d137(r:ax)(n:Nat)(x:Ln r n):H4 r (n+1):=by
 intro t e lit w hs hb;have u:=e.size_eq;refine bC.le (args:=[.ptr 0 0,ag e.c1,pI lit,pI w]) ?_ ⟨.refl _,e.D2,.refl _,.refl _,ac⟩;have j:=Expr.aF e.args;refine au ab func196 Z (by decide) ntmps196 Z (by simp) ?_;refine zE Z Z (fun k=>?_) fun k=>?_
 .have k: ¬e.kind=4:=zF k;have hl:gC r lit w e=[]:=be k;rw[hl,TS.add_nil];refine gA Z tI
 have k:e.kind=4:=zT k;have hl:gC r lit w e=e.args.flatMap (fp r lit w):=am k;rw[hl];refine gA Z ?_
 refine aK 0 e.args.length (OL _) (fun i=>⟨[(0,.ptr 0 0),(2,pI lit),(3,pI w),(14,.iv (bw 7 e.args Expr.c)),(15,pI e.args.length),(16,pI i)],
  [(0,co (TS.cell r 1 5 (t.add ((e.args.take i).flatMap (fp r lit w))).ws.length 3)),(1,co (mW (t.add ((e.args.take i).flatMap (fp r lit w))).up)),(5,co (aP 5 (t.add ((e.args.take i).flatMap (fp r lit w))).ws Want.c)),(3,co (nj (t.add ((e.args.take i).flatMap (fp r lit w))).kind))],6⟩) (fun _=>True) _ ac
  (H7 (t:=t) (TS.add_nil t).symm Z Z Z Z Z Z Z Z Z Z (bi (bi (bi (bi (bi (bi trivial))))))) fun i A _=>?_
 refine zJ Z Z (fun h1=>?_) fun h1=>?_
 .have h1:i<e.args.length:=by simpa using h1
  have b:=bK (f:=fp r lit w) h1;have B:=DH r lit w e.args i h1;have y:=Expr.bR e.args i h1;refine gA Z (x4 (x (t.add ((e.args.take i).flatMap (fp r lit w))) (e.args.getD i ci) lit w (by omega) (by show(t.ws++_).length+_<=_;rw[Oy];omega)) Z Z Z Z Z Z Z (by first|rfl|(rw[Oy];rfl)|simp) (by first|rfl|(rw[OM];rfl)|(simp only[OM,OS];rfl)) Z Z Z Z Z Z ?_);refine gA Z ⟨h1,ac,_,H7 ((by rw[TS.add_add,b])) Z Z Z Z (by first|rfl|(rw[Oy];rfl)|simp) (by first|rfl|(rw[OM];rfl)|(simp only[OM,OS];rfl)) Z Z Z Z (bi (bi (bi (bi (bi (bi ac))))))⟩
 .have h1:e.args.length<=i:=by simpa using h1
  rw[OP h1];refine gA Z tI
end
theorem pL(r:ax): ∀n,Ln r n∧H4 r n
 |0=>by
  have b:H4 r 0:=fun t e lit w hs=>by have:=e.size_pos;omega
  exact⟨d92 r 0 b,b⟩
 |n+1=>by
  have h1:=d137 r n (pL r n).1;exact⟨d92 r (n+1) h1,h1⟩
theorem EL(r:ax)(t:TS)(e:Expr)(lit w:Int)(hb:t.ws.length+e.size<=1000000000):bC prog 165 [.ptr 0 0,ag e.c,pI lit,pI w] (t.O r) (.bf []) ((t.add (fp r lit w e)).H r) 5:=(pL r e.size).1 t e lit w (OJ _) hb
theorem Jt(r:ax)(t:TS)(e:Expr)(lit w:Int)(hb:t.ws.length+e.size<=1000000000):bC prog 196 [.ptr 0 0,ag e.c,pI lit,pI w] (t.O r) (.bf []) ((t.add (gC r lit w e)).H r) 5:=(pL r e.size).2 t e lit w (OJ _) (by have:=e.size_eq;omega)
def typeAt(p:Prog)(a:Atom)(i:Nat):Int:=(ey p a.rel).types.getD i ci
def kE(p:Prog)(a:Atom)(i:Nat):Bool:=kw (i<(ey p a.rel).types.length)&&(kw (typeAt p a i=1)||decide (typeAt p a i=2))
def jM(p:Prog)(r:ax)(a:Atom)(lit w:Int)(i:Nat):List Want:=
 if kE p a i=jp then[]
 else if(a.aj.getD i ci).kind=1 then[⟨lit,dF r (a.aj.getD i ci).var w,typeAt p a i,0⟩]
 else if(a.aj.getD i ci).kind=2 then[⟨lit,b3.z,typeAt p a i,(a.aj.getD i ci).val.kind⟩] else[]
def ft(p:Prog)(r:ax)(a:Atom)(lit w:Int):Nat->List Want
 |0=> []
 |i+1=>ft p r a lit w i++jM p r a lit w i
theorem yt(p:Prog)(r:ax)(a:Atom)(lit w:Int)(i:Nat):(jM p r a lit w i).length<=1:=by
 unfold jM
 repeat' split
 all_goals simp
theorem lq(p:Prog)(r:ax)(a:Atom)(lit w:Int): ∀i,(ft p r a lit w i).length<=i
 |0=>OJ _
 |i+1=>by
  have h1:=lq p r a lit w i;have b:=yt p r a lit w i;rw[ft,Oy];omega
set_option maxHeartbeats 1000000 in
theorem d90(p:Prog)(r:ax)(t:TS)(a:Atom)(lit w:Int)(hb:t.ws.length+a.aj.length<=1000000000):bC prog 163 [.ptr 0 0,.iv (cA p),ag a.c,pI lit,pI w] (t.O r) (.bf []) ((t.add (ft p r a lit w a.aj.length)).H r) 5:=by
 refine au ab func163 Z (by decide) ntmps163 Z (by simp) ?_;refine gA Z ?_
 refine aK 0 a.aj.length (OL _) (fun i=>⟨[(0,.ptr 0 0),(3,pI lit),(4,pI w),(10,.iv (bw 1 (ey p a.rel).types iY)),(19,.iv (bw 5 a.aj Term.c)),(20,pI a.aj.length),(21,pI i)],
  [(0,co (TS.cell r 1 5 (t.add (ft p r a lit w i)).ws.length 3)),(1,co (mW (t.add (ft p r a lit w i)).up)),(5,co (aP 5 (t.add (ft p r a lit w i)).ws Want.c)),(3,co (nj (t.add (ft p r a lit w i)).kind))],6⟩) (fun _=>True) _ ac
  (H7 (t:=t) (TS.add_nil t).symm Z Z Z Z Z Z Z Z Z Z (bi (bi (bi (bi (bi (bi (bi trivial)))))))) fun i B _=>?_
 refine zE Z Z (fun h1=>?_) fun h1=>?_
 .have h1:a.aj.length<=i:=by simpa using h1
  have:i=a.aj.length:=by omega
  subst this;refine gA Z tI
 have h1:i<a.aj.length:=by simpa using h1
 have hl:=lq p r a lit w i;have hs:t.add (ft p r a lit w (i+1))=(t.add (ft p r a lit w i)).add (jM p r a lit w i):=by rw[TS.add_add];rfl
 have A:(t.add (ft p r a lit w i)).ws.length<=t.ws.length+i:=by show(t.ws++_).length<=_;rw[Oy];omega
 generalize t.add (ft p r a lit w i)=t1 at*
 refine zE Z Z (fun g1=>?_) fun g1=>?_
 .have g1: ¬i<(ey p a.rel).types.length:=by have g:=zT (show kw ((i:Int)>=((ey p a.rel).types.length:Int))=is from g1);omega
  have x:kE p a i=jp:=by rw[kE,decide_eq_false g1];rfl
  have u:jM p r a lit w i=[]:=am x;rw[u,TS.add_nil]at hs;refine gA Z ⟨h1,ac,_,nB (hs.symm)⟩
 have g1:i<(ey p a.rel).types.length:=by have g:=zF (show kw ((i:Int)>=((ey p a.rel).types.length:Int))=jp from g1);omega
 refine zJ Z Z (fun g2=>?_) fun g2=>?_
 .have g2: ¬typeAt p a i=1:=by simpa[typeAt]using g2
  refine zJ Z Z (fun g3=>?_) fun g3=>?_
  .have g3: ¬typeAt p a i=2:=by simpa[typeAt]using g3
   have x:kE p a i=jp:=by rw[kE,decide_eq_true g1,decide_eq_false g2,decide_eq_false g3];rfl
   have u:jM p r a lit w i=[]:=am x;rw[u,TS.add_nil]at hs;refine gA Z ⟨h1,ac,_,nB (hs.symm)⟩
  .have g3:typeAt p a i=2:=by simpa[typeAt]using g3
   have y:kE p a i=is:=by rw[kE,decide_eq_true g1,decide_eq_true g3,Bool.or_true];rfl
   have u:jM p r a lit w i=if(a.aj.getD i ci).kind=1 then[⟨lit,dF r (a.aj.getD i ci).var w,typeAt p a i,0⟩]
    else if(a.aj.getD i ci).kind=2 then[⟨lit,b3.z,typeAt p a i,(a.aj.getD i ci).val.kind⟩] else[]:=by unfold jM;rw[y];exact be (by decide)
   rw[u]at hs;refine zJ Z Z (fun b=>?_) fun b=>?_
   .have b:(a.aj.getD i ci).kind=1:=zT b;rw[am b]at hs;refine gA Z (lY (d136 r t1 (a.aj.getD i ci).var w) ?_);refine gA Z ⟨h1,ac,_,nB (hs.symm)⟩
   have b: ¬(a.aj.getD i ci).kind=1:=zF b;rw[be b]at hs;refine zJ Z Z (fun j=>?_) fun j=>?_
   .have j:(a.aj.getD i ci).kind=2:=zT j;rw[am j]at hs;refine gA Z ⟨h1,ac,_,nB (hs.symm)⟩
   .have j: ¬(a.aj.getD i ci).kind=2:=zF j;rw[be j,TS.add_nil]at hs;refine gA Z ⟨h1,ac,_,nB (hs.symm)⟩
 .have g2:typeAt p a i=1:=by simpa[typeAt]using g2
  have y:kE p a i=is:=by rw[kE,decide_eq_true g1,decide_eq_true g2];rfl
  have u:jM p r a lit w i=if(a.aj.getD i ci).kind=1 then[⟨lit,dF r (a.aj.getD i ci).var w,typeAt p a i,0⟩]
   else if(a.aj.getD i ci).kind=2 then[⟨lit,b3.z,typeAt p a i,(a.aj.getD i ci).val.kind⟩] else[]:=by unfold jM;rw[y];exact be (by decide)
  rw[u]at hs;refine zJ Z Z (fun b=>?_) fun b=>?_
  .have b:(a.aj.getD i ci).kind=1:=zT b;rw[am b]at hs;refine gA Z (lY (d136 r t1 (a.aj.getD i ci).var w) ?_);refine gA Z ⟨h1,ac,_,nB (hs.symm)⟩
  have b: ¬(a.aj.getD i ci).kind=1:=zF b;rw[be b]at hs;refine zJ Z Z (fun j=>?_) fun j=>?_
  .have j:(a.aj.getD i ci).kind=2:=zT j;rw[am j]at hs;refine gA Z ⟨h1,ac,_,nB (hs.symm)⟩
  .have j: ¬(a.aj.getD i ci).kind=2:=zF j;rw[be j,TS.add_nil]at hs;refine gA Z ⟨h1,ac,_,nB (hs.symm)⟩
def tG(t:TS)(u v:b3):TS:=if u=v then t else⟨ct (.si .i64) t.up u v,t.ws,t.kind⟩
def qV(y:Expr):Int:=if y.kind=2 then y.val.kind else 1
def fu(r:ax)(lit w:Int)(t:TS)(x y:Expr):TS:=
 if y.kind=1 then tG t (bE t.up (dF r x.var w)) (bE t.up (dF r y.var w))
 else t.add (if x.kind=1 then[⟨lit,dF r x.var w,qV y,0⟩] else if x.kind=2 then[⟨lit,b3.z,qV y,x.val.kind⟩] else[⟨lit,b3.z,qV y,1⟩])
def gH(r:ax)(lit w:Int)(t:TS)(a b:Expr):TS:=
 if b.kind=1 then fu r lit w ((t.add (gC r lit w a)).add (gC r lit w b)) b a else fu r lit w ((t.add (gC r lit w a)).add (gC r lit w b)) a b
theorem Gy{u v:b3}(h:(!(kw (u.1=v.1)&&(kw (u.2=v.2)&&is)))=is):u≠v:=by
 rintro rfl;simp at h
theorem Gz{u v:b3}(h:(!(kw (u.1=v.1)&&(kw (u.2=v.2)&&is)))=jp):u=v:=by
 simp at h;exact Prod.ext h.1 h.2
theorem oR(r:ax)(lit w:Int)(e:Expr):(gC r lit w e).length<=e.size:=by
 have h1:=fZ r lit w e;rw[Aj,Oy]at h1;omega
set_option maxHeartbeats 1000000 in
theorem d93(r:ax)(t:TS)(a b:Expr)(lit w:Int)(ok:gp t.up)(hb:t.ws.length+a.size+b.size<=1000000000):bC prog 166 [.ptr 0 0,ag a.c,ag b.c,pI lit,pI w] (t.O r) (.bf []) ((gH r lit w t a b).H r) 5:=by
 have h1:=oR r lit w a;have I:=oR r lit w b;have G:gH r lit w t a b=if b.kind=1 then fu r lit w ((t.add (gC r lit w a)).add (gC r lit w b)) b a else fu r lit w ((t.add (gC r lit w a)).add (gC r lit w b)) a b:=rfl;rw[G];have C:gp ((t.add (gC r lit w a)).add (gC r lit w b)).up:=ok;refine au ab func166 Z (by decide) ntmps166 Z (by simp) ?_;refine gA Z (AE (Jt r t a lit w (by omega)) ?_);refine gA Z (x4 (Jt r (t.add (gC r lit w a)) b lit w (by show(t.ws++_).length+_<=_;rw[Oy];omega)) Z Z Z Z Z Z Z (by first|rfl|(rw[Oy];rfl)|simp) (by first|rfl|(rw[OM];rfl)|(simp only[OM,OS];rfl)) Z Z Z Z Z Z ?_);have hl:((t.add (gC r lit w a)).add (gC r lit w b)).ws.length<=t.ws.length+a.size+b.size:=by
  show((t.ws++_)++_).length<=_;rw[Oy,Oy];omega
 generalize(t.add (gC r lit w a)).add (gC r lit w b)=t1 at*
 refine zJ Z Z (fun x=>?_) fun x=>?_
 .have x:b.kind=1:=zT x;rw[am x];refine zJ Z Z (fun u=>?_) fun u=>?_
  .have u:a.kind=2:=zT u;have D: ¬a.kind=1:=by omega
   have hh:qV a=a.val.kind:=am u;have A:fu r lit w t1 b a=t1.add [⟨lit,dF r b.var w,qV a,0⟩]:=by unfold fu;rw[be D,am x]
   rw[A,hh];refine zJ Z Z (fun y=>?_) fun y=>?_
   .exact absurd (zT y) D
   refine zE Z Z (fun j=>?_) fun j=>?_
   .exact absurd x (zF j)
   refine gA Z (lY (d136 r t1 b.var w) ?_);refine gA Z tI
  .have u: ¬a.kind=2:=zF u;refine zJ Z Z (fun y=>?_) fun y=>?_
   .have y:a.kind=1:=zT y;have A:fu r lit w t1 b a=tG t1 (bE t1.up (dF r b.var w)) (bE t1.up (dF r a.var w)):=am y;rw[A];refine gA Z (lY (d136 r t1 b.var w) ?_);refine gA Z (lY (d52 r t1 (dF r b.var w) C) ?_);refine gA Z (lY (d136 r t1 a.var w) ?_);refine gA Z (lY (d52 r t1 (dF r a.var w) C) ?_);refine zJ Z Z (fun j=>?_) fun j=>?_
    .have e:tG t1 (bE t1.up (dF r b.var w)) (bE t1.up (dF r a.var w))=⟨ct (.si .i64) t1.up (bE t1.up (dF r b.var w)) (bE t1.up (dF r a.var w)),t1.ws,t1.kind⟩:=be (Gy j);rw[e];refine fk Z (by repeat' (first|exact ac|exact rfl|exact Nu (b3.c (bE t1.up (dF r a.var w)))|exact an.refl _|apply Oz)) (Jp (by first|exact .inr Z|exact .inl Z) Z Z Z Z Z Z Z Z Z Z (.refl _) Z Z)
    .have e:tG t1 (bE t1.up (dF r b.var w)) (bE t1.up (dF r a.var w))=t1:=am (Gz j);rw[e];refine gA Z tI
   .have D: ¬a.kind=1:=zF y;have hh:qV a=1:=be u;have A:fu r lit w t1 b a=t1.add [⟨lit,dF r b.var w,qV a,0⟩]:=by unfold fu;rw[be D,am x]
    rw[A,hh];refine zE Z Z (fun j=>?_) fun j=>?_
    .exact absurd x (zF j)
    refine gA Z (lY (d136 r t1 b.var w) ?_);refine gA Z tI
 have x: ¬b.kind=1:=zF x;rw[be x];have A:fu r lit w t1 a b=t1.add (if a.kind=1 then[⟨lit,dF r a.var w,qV b,0⟩] else if a.kind=2 then[⟨lit,b3.z,qV b,a.val.kind⟩] else[⟨lit,b3.z,qV b,1⟩]):=be x;rw[A];refine zJ Z Z (fun u=>?_) fun u=>?_
 .have u:b.kind=2:=zT u;have hh:qV b=b.val.kind:=am u;rw[hh];refine zJ Z Z (fun y=>?_) fun y=>?_
  .exact absurd (zT y) x
  refine zJ Z Z (fun j=>?_) fun j=>?_
  .rw[am (zT j)];refine gA Z (lY (d136 r t1 a.var w) ?_);refine gA Z tI
  rw[be (zF j)];refine zJ Z Z (fun B=>?_) fun B=>?_
  .rw[am (zT B)];refine gA Z tI
  .rw[be (zF B)];refine gA Z tI
 .have u: ¬b.kind=2:=zF u;have hh:qV b=1:=be u;rw[hh];refine zJ Z Z (fun y=>?_) fun y=>?_
  .exact absurd (zT y) x
  refine zJ Z Z (fun j=>?_) fun j=>?_
  .rw[am (zT j)];refine gA Z (lY (d136 r t1 a.var w) ?_);refine gA Z tI
  rw[be (zF j)];refine zJ Z Z (fun B=>?_) fun B=>?_
  .rw[am (zT B)];refine gA Z tI
  .rw[be (zF B)];refine gA Z tI
def mT(p:Prog)(r:ax)(lit w:Int)(t:TS)(l:Lit):TS:=
 if l.kind=1∨l.kind=2 then t.add (ft p r l.atom lit w l.atom.aj.length)
 else if l.kind=3 then(if l.op=1∨l.op=2 then gH r lit w t l.left l.right else(t.add (fp r lit w l.left)).add (fp r lit w l.right)) else t
theorem d91(p:Prog)(r:ax)(t:TS)(l:Lit)(lit w:Int)(ok:gp t.up)(hb:t.ws.length+l.size<=1000000000):bC prog 164 [.ptr 0 0,.iv (cA p),ag l.c,pI lit,pI w] (t.O r) (.bf []) ((mT p r lit w t l).H r) 5:=by
 have B:=l.size_eq;have C:=fZ r lit w l.left;refine au ab func164 Z (by decide) ntmps164 Z (by simp) ?_;refine zE Z Z (fun j=>?_) fun j=>?_
 .have j:l.kind=1:=by simpa using j
  have b:mT p r lit w t l=t.add (ft p r l.atom lit w l.atom.aj.length):=am (.inl j);rw[b];refine gA Z (AE (d90 p r t l.atom lit w (by omega)) ?_);refine gA Z tI
 have j: ¬l.kind=1:=zF j;refine zJ Z Z (fun u=>?_) fun u=>?_
 .have u:l.kind=2:=zT u;have b:mT p r lit w t l=t.add (ft p r l.atom lit w l.atom.aj.length):=am (.inr u);rw[b];refine gA Z (AE (d90 p r t l.atom lit w (by omega)) ?_);refine gA Z tI
 have u: ¬l.kind=2:=zF u;have b:mT p r lit w t l=if l.kind=3 then(if l.op=1∨l.op=2 then gH r lit w t l.left l.right else(t.add (fp r lit w l.left)).add (fp r lit w l.right)) else t:=be (by rintro(h|h);exact j h;exact u h);refine zJ Z Z (fun x=>?_) fun x=>?_
 .have x: ¬l.kind=3:=by simpa using x
  rw[be x]at b;rw[b];refine gA Z tI
 have x:l.kind=3:=by simpa using x
 rw[am x]at b;refine zE Z Z (fun y=>?_) fun y=>?_
 .have y:l.op=1:=by simpa using y
  rw[am (.inl y)]at b;rw[b];refine gA Z (AE (d93 r t l.left l.right lit w ok (by omega)) ?_);refine gA Z tI
 have y: ¬l.op=1:=zF y;refine zJ Z Z (fun A=>?_) fun A=>?_
 .have A:l.op=2:=zT A;rw[am (.inr A)]at b;rw[b];refine gA Z (AE (d93 r t l.left l.right lit w ok (by omega)) ?_);refine gA Z tI
 .have A: ¬l.op=2:=zF A;rw[be (by rintro(h|h);exact y h;exact A h)]at b;rw[b];refine gA Z (AE (EL r t l.left lit w (by omega)) ?_);refine gA Z (x4 (EL r (t.add (fp r lit w l.left)) l.right lit w (by show(t.ws++_).length+_<=_;rw[Oy];omega)) Z Z Z Z Z Z Z (by first|rfl|(rw[Oy];rfl)|simp) (by first|rfl|(rw[OM];rfl)|(simp only[OM,OS];rfl)) Z Z Z Z Z Z ?_);refine gA Z tI
theorem nN: ∀(n:Nat) (m:UM) (v:b3),gp m->Ba m v<=n->cO (.si .i64) m (bE m v)=jp
 |n,m,v,ok,hn=>by
  cases h:cO (.si .i64) m v with
  |false=>rw[oE m v h];exact h
  |true=>
   obtain⟨h1,b⟩:=lN m v ok h;cases n with
   |zero=>omega
   |succ n=>rw[<-h1];exact nN n m _ ok (by omega)
theorem xo: ∀(m:UM) (u v:b3),cO (.si .i64) m u=jp->ct (.si .i64) m u v=m++ [(u,v)]
 | [],_,_,_=>rfl
 |(x,y)::r,u,v,h=>by
  unfold cO at h;split at h
  .cases h
  .rename_i b;show(if x=u then _ else(x,y)::ct (.si .i64) r u v)=_;rw[be b,xo r u v h];rfl
theorem x3{m:UM}{u:b3}(h:cO (.si .i64) m u=jp): ∀q∈m,q.1≠u:=by
 induction m with
 |nil=>intro q hq;cases hq
 |cons a r ih=>
  obtain⟨x,y⟩:=a;unfold cO at h;split at h
  .cases h
  .rename_i b;intro q hq;rcases OG.1 hq with rfl|hq
   .exact b
   .exact ih h q hq
theorem ug: ∀{m:UM} {u v:b3},gp m->(∀q∈m,q.1≠u)->(∀q∈m,q.1≠v)->u≠v->gp (m++ [(u,v)])
 | [],u,v,_,_,_,hne=>⟨hne,fun q hq=>(nomatch hq),fun q hq=>(nomatch hq),ac⟩
 |(x,y)::r,u,v,⟨o1,o2,o3,o4⟩,hu,hv,hne=>by
  refine⟨o1,fun q hq=>?_,fun q hq=>?_,ug o4 (fun q hq=>hu q (OF _ hq)) (fun q hq=>hv q (OF _ hq)) hne⟩
  .rcases ON.1 hq with hq|hq
   .exact o2 q hq
   .simp only[OI]at hq;subst hq;exact fun e=>hu _ OH e.symm
  .rcases ON.1 hq with hq|hq
   .exact o3 q hq
   .simp only[OI]at hq;subst hq;exact fun e=>hv _ OH e.symm
theorem Kh{t:TS}(ok:gp t.up)(a b:b3):gp (tG t (bE t.up a) (bE t.up b)).up:=by
 unfold tG;split
 .exact ok
 .rename_i j;have h1:=nN _ t.up a ok (OJ _);have u:=nN _ t.up b ok (OJ _);show gp (ct _ _ _ _);rw[xo _ _ _ h1];exact ug ok (x3 h1) (x3 u) j
theorem vj(r:ax)(lit w:Int){t:TS}(ok:gp t.up)(x y:Expr):gp (fu r lit w t x y).up:=by
 unfold fu;split
 .exact Kh ok _ _
 .exact ok
theorem yn(r:ax)(lit w:Int){t:TS}(ok:gp t.up)(a b:Expr):gp (gH r lit w t a b).up:=by
 unfold gH;split
 .exact vj r lit w (t:=(t.add (gC r lit w a)).add (gC r lit w b)) ok _ _
 .exact vj r lit w (t:=(t.add (gC r lit w a)).add (gC r lit w b)) ok _ _
theorem DY(p:Prog)(r:ax)(lit w:Int){t:TS}(ok:gp t.up)(l:Lit):gp (mT p r lit w t l).up:=by
 unfold mT
 repeat' split
 .exact ok
 .exact yn r lit w ok _ _
 .exact ok
 .exact ok
theorem Kg(t:TS)(u v:b3):(tG t u v).ws=t.ws:=by unfold tG;split<;>rfl
theorem tn(r:ax)(lit w:Int)(t:TS)(x y:Expr):(fu r lit w t x y).ws.length<=t.ws.length+1:=by
 unfold fu
 repeat' split
 .rw[Kg];omega
 all_goals(show(t.ws++_).length<=_;rw[Oy,Pu];omega)
theorem vi(r:ax)(lit w:Int)(t:TS)(a b:Expr):(gH r lit w t a b).ws.length<=t.ws.length+a.size+b.size+1:=by
 have h1:=oR r lit w a;have j:=oR r lit w b;have u:((t.add (gC r lit w a)).add (gC r lit w b)).ws.length<=t.ws.length+a.size+b.size:=by
  show((t.ws++_)++_).length<=_;rw[Oy,Oy];omega
 unfold gH;split
 .exact Pm (tn _ _ _ _ _ _) (by omega)
 .exact Pm (tn _ _ _ _ _ _) (by omega)
theorem Ap(p:Prog)(r:ax)(lit w:Int)(t:TS)(l:Lit):(mT p r lit w t l).ws.length<=t.ws.length+l.size:=by
 have b:=l.size_eq;have h1:=lq p r l.atom lit w l.atom.aj.length;have j:=vi r lit w t l.left l.right;have u:=fZ r lit w l.left;have x:=fZ r lit w l.right;unfold mT
 repeat' split
 .show(t.ws++_).length<=_;rw[Oy];omega
 .omega
 .show((t.ws++_)++_).length<=_;rw[Oy,Oy];omega
 .omega
theorem ae{P:Program}{nt:NT}{Q:AQ}{k:List KI}{s t:AS}{c:Code}(L:List Nat)(h0:Wk s.nx L s t)(h:GO P nt (.code c::k) Q t):GO P nt (.code c::k) Q s:=by
 intro M N a w x;exact AW.then h (h0.fits x) fun e B C j u s' A b y=>⟨j,u,s',(h0.ext (.refl _ _ _ _ _)).trans A,b,y⟩
theorem Hb:dR .fg (mW []):=⟨id,fun M N U w j b=>⟨#[],0,b,⟨rfl,by simp,by simp,by simp,by simp⟩,.agg _ _ Z fun j p b=>by
 match j,b with
 |0,b=>cases b;exact .v _
 |1,b=>cases b;exact .v _
 |j+2,b=>simp[b3.c]at b⟩⟩
theorem Hc:dR .fg (nj []):=⟨id,fun M N U w j b=>⟨#[],0,b,⟨rfl,by simp,by simp,by simp,by simp⟩,eY M⟩⟩
def mP(s:ak):Expr:= .mk 1 s ⟨0,0,OB⟩ 0 []
abbrev Fl(s:ak):PV:= .agg [pI 1,pS s,pI 0,pI 0,pS OB,pI 0,.iv (.v (.slice io 0 0))]
theorem vn(s:ak):an (Fl s) (ag (mP s).c):= .agg ⟨.refl _,.refl _,.refl _,.refl _,.refl _,.refl _,.nil _ _,ac⟩
theorem jW(s:ak):(mP s).size=1:=rfl
def tF(r:ax)(i:Int)(t:TS)(f:Int)(v:ak)(o:Expr):TS:=
 if f=2 then(t.add (fp r i i o)).add (fp r i i (mP v)) else if f=1 then t.add (fp r i i (mP v)) else gH r i i t (mP v) o
def n3(p:Prog)(r:ax)(i:Int)(t:TS)(b:List Lit):Nat->TS
 |0=>t
 |k+1=>mT p r i i (n3 p r i t b k) (b.getD k ci)
def stepT(p:Prog)(r:ax)(i:Int)(t:TS)(l:Lit):TS:=
 if l.kind=4 then n3 p r i (tF r i t l.dQ l.bx l.jw) l.ar l.ar.length else mT p r i (-1) t l
def TS.o:TS:=⟨[],[],[]⟩
def dU(p:Prog)(r:ax):Nat->TS
 |0=>TS.o.add (ft p r r.head (-1) (-1) r.head.aj.length)
 |k+1=>stepT p r k (dU p r k) (r.body.getD k ci)
def cp(b:UM)(m:KM)(w:Want):KM:=if w.has=0∧dt (.si .i64) m (bE b w.at_) 0=0 then ct (.si .i64) m (bE b w.at_) w.kind else m
def lH(p:Prog)(r:ax):TS:=⟨(dU p r r.body.length).up,(dU p r r.body.length).ws,(dU p r r.body.length).ws.foldl (cp (dU p r r.body.length).up) []⟩
theorem CD(r:ax)(i:Int){t:TS}(ok:gp t.up)(f:Int)(v:ak)(o:Expr):gp (tF r i t f v o).up:=by
 unfold tF
 repeat' split
 .exact ok
 .exact ok
 .exact yn r i i ok _ _
theorem xY(p:Prog)(r:ax)(i:Int){t:TS}(ok:gp t.up)(b:List Lit): ∀k,gp (n3 p r i t b k).up
 |0=>ok
 |k+1=>DY p r i i (xY p r i ok b k) _
theorem Gu(p:Prog)(r:ax)(i:Int){t:TS}(ok:gp t.up)(l:Lit):gp (stepT p r i t l).up:=by
 unfold stepT;split
 .exact xY p r i (CD r i ok _ _ _) _ _
 .exact DY p r i (-1) ok l
theorem wx(p:Prog)(r:ax): ∀k,gp (dU p r k).up
 |0=>trivial
 |k+1=>Gu p r k (wx p r k) _
theorem tm(r:ax)(lit w:Int)(t:TS)(a b:Expr):(gH r lit w t a b).kind=t.kind:=by
 have h1: ∀(t:TS) u v,(tG t u v).kind=t.kind:=fun t u v=>by unfold tG;split<;>rfl
 have j: ∀(t:TS) x y,(fu r lit w t x y).kind=t.kind:=fun t x y=>by
  unfold fu;split
  .exact h1 _ _ _
  .rfl
 unfold gH;split<;>exact j _ _ _
theorem xQ(p:Prog)(r:ax)(lit w:Int)(t:TS)(l:Lit):(mT p r lit w t l).kind=t.kind:=by
 unfold mT
 repeat' split
 .rfl
 .exact tm r lit w t _ _
 .rfl
 .rfl
theorem Az(p:Prog)(r:ax)(i:Int)(t:TS)(b:List Lit): ∀k,(n3 p r i t b k).kind=t.kind
 |0=>rfl
 |k+1=>by rw[n3,xQ,Az p r i t b k]
theorem Bh(p:Prog)(r:ax)(i:Int)(t:TS)(l:Lit):(stepT p r i t l).kind=t.kind:=by
 unfold stepT;split
 .rw[Az];unfold tF
  repeat' split
  .rfl
  .rfl
  .exact tm r i i t _ _
 .exact xQ p r i (-1) t l
theorem ve(p:Prog)(r:ax): ∀k,(dU p r k).kind=[]
 |0=>rfl
 |k+1=>by rw[dU,Bh,ve p r k]
theorem zu(r:ax)(i:Int)(t:TS)(f:Int)(v:ak)(o:Expr):(tF r i t f v o).ws.length<=t.ws.length+o.size+2:=by
 have h1:=fZ r i i o;have b:=fZ r i i (mP v);have j:=vi r i i t (mP v) o;rw[jW]at b j;unfold tF
 repeat' split
 .show((t.ws++_)++_).length<=_;rw[Oy,Oy];omega
 .show(t.ws++_).length<=_;rw[Oy];omega
 .omega
theorem gP: ∀(l:List Lit) (i:Nat),i<l.length->Lit.aE (l.take i)+(l.getD i ci).size<=Lit.aE l
 | [],i,h=>by simp at h
 |s::r,0,_=>by simp[Lit.aE]
 |s::r,i+1,h=>by
  have:=gP r i (by simpa using h);simp only[PR,PK,Lit.aE];omega
theorem Lit.rS(l:List Lit)(i:Nat)(h:i<l.length):Lit.aE (l.take (i+1))=Lit.aE (l.take i)+(l.getD i ci).size:=by
 rw[ch h];have: ∀(a:List Lit) (b:Lit),Lit.aE (a++ [b])=Lit.aE a+b.size:=by
  intro a b
  induction a with
  |nil=>simp[Lit.aE]
  |cons x r ih=>simp only[PO,Lit.aE,ih];omega
 exact this _ _
theorem sI(p:Prog)(r:ax)(i:Int)(t:TS)(b:List Lit): ∀k,k<=b.length->(n3 p r i t b k).ws.length<=t.ws.length+Lit.aE (b.take k)
 |0,_=>by simp[n3,Lit.aE]
 |k+1,h=>by
  have h1:=sI p r i t b k (by omega);have j:=Ap p r i i (n3 p r i t b k) (b.getD k ci);rw[n3,Lit.rS b k (by omega)];omega
theorem C3(p:Prog)(r:ax)(i:Int)(t:TS)(l:Lit):(stepT p r i t l).ws.length<=t.ws.length+l.size:=by
 have b:=l.size_eq;unfold stepT;split
 .have h1:=sI p r i (tF r i t l.dQ l.bx l.jw) l.ar l.ar.length (OJ _);have j:=zu r i t l.dQ l.bx l.jw;rw[Qd]at h1;omega
 .exact Ap p r i (-1) t l
theorem ta(p:Prog)(r:ax): ∀k,k<=r.body.length->(dU p r k).ws.length<=r.head.aj.length+Lit.aE (r.body.take k)
 |0,_=>by
  have:=lq p r r.head (-1) (-1) r.head.aj.length;show([]++_).length<=_;simp only[P9];omega
 |k+1,h=>by
  have h1:=ta p r k (by omega);have b:=C3 p r k (dU p r k) (r.body.getD k ci);rw[dU,Lit.rS r.body k (by omega)];omega
theorem NX(r:ax)(b:UM)(j:KM)(W:IV)(v0:b3)(ok:gp b):bC prog 167 [.ptr 0 0,ag v0.c] [.cells [.iv (cg r),.mp 1,.iv W,.mp 2],mW b,nj j] (ag (bE b v0).c) [(0,co (.cells [.iv (cg r),.mp 1,.iv W,.mp 2])),(1,co (mW b)),(2,co (nj j))] 3:=by
 refine au ab func167 Z (by decide) ntmps167 Z (by simp) ?_;refine gA Z ?_
 refine gi (σ:={v:b3//bE b v=bE b v0}) (fun v=>⟨[(0,.ptr 0 0),(3,.ptr 3 0),(4,.ptr 4 0)],
  [(0,co (.cells [.iv (cg r),.mp 1,.iv W,.mp 2])),(1,co (mW b)),(2,co (nj j)),(3,co (.cells [pS v.1.1,pI v.1.2])),(4,co (.cells [pS ⟨#[]⟩,pI 0]))],5⟩) (fun v=>Ba b v.1) ⟨v0,rfl⟩ []
  (zW (zO (zC (zC ⟨⟨_,rfl,.of_eq Z⟩,Oq Z,rfl,⟨_,rfl,.of_eq Z⟩,Oq Z,rfl,ac⟩)))) fun v=>?_
 obtain⟨v,u⟩:=v;refine zJ Z Z (fun g=>?_) fun g=>?_
 .have h:cO (.si .i64) b v=jp:=by simpa using g
  have e:bE b v0=v:=by rw[<-u];exact oE b v h
  refine gA Z (zD [] Z (zM ⟨.of_eq (congrArg (fun x:b3=>ag x.c) e.symm),rfl,ac⟩ (zO (zC (zC ac)))))
 .have h:cO (.si .i64) b v=is:=by simpa using g
  obtain⟨h1,y⟩:=lN b v ok h;refine gA Z ⟨⟨dt (.si .i64) b v b3.z,h1.trans u⟩,[],y,zW (zO (zC (zC ⟨⟨_,rfl,.of_eq Z⟩,Oq Z,rfl,⟨_,rfl,.of_eq Z⟩,Oq Z,rfl,ac⟩)))⟩
set_option maxHeartbeats 2000000 in
theorem c49(p:Prog)(r:ax)(hb:r.size<=100000000):Pure prog 130 [.iv (cA p),.iv (cg r)] (.iv (Kb r (lH p r))):=by
 unfold ax.size at hb;have Y:=Lit.aF r.body;have g0:r.body.length<=Lit.aE r.body:=Y;refine ai ab func130 Z (by decide) ntmps130 Z (by simp) Z ?_;refine gM 14 Z (oU 2 2 5 Z Z ?_);refine ae [] (t:=⟨[(0,.iv (cA p)),(1,.iv (cg r)),(5,.ptr 2 0)],[(2,co (TS.cell r 0 3 TS.o.ws.length 1)),(0,co (mW TS.o.up)),(3,co (aP 5 TS.o.ws Want.c)),(1,co (nj TS.o.kind))],4⟩)
  (zW ⟨⟨_,rfl,.of_eq Z⟩,Oq Z,rfl,⟨_,rfl,Hb⟩,Oq Z,ac,⟨_,rfl,.of_eq Z⟩,Oq Z,dK _,⟨_,rfl,Hc⟩,Oq Z,ac,ac⟩) ?_
 refine gA Z (x4 (d90 p r TS.o r.head (-1) (-1) (by show 0+_<=_;omega)) Z Z Z Z Z Z Z (by first|rfl|(rw[Oy];rfl)|simp) (by first|rfl|(rw[OM];rfl)|(simp only[OM,OS];rfl)) Z Z Z Z Z Z ?_);refine gA Z ?_
 refine aK 0 r.body.length (OL _) (fun i=>⟨[(0,.iv (cA p)),(1,.iv (cg r)),(5,.ptr 2 0),(31,.iv (lits r.body)),(32,pI r.body.length),(33,pI i)],
  [(2,co (TS.cell r 0 5 (dU p r i).ws.length 1)),(0,co (mW (dU p r i).up)),(5,co (aP 5 (dU p r i).ws Want.c)),(1,co (nj (dU p r i).kind))],6⟩) (fun _=>True) _ ac
  (H7 (t:=dU p r 0) Z Z Z Z Z Z Z Z Z Z Z (bi (bi (bi (bi (bi (bi trivial))))))) fun i hi _=>?_
 have d0:=ta p r i hi;have hok:=wx p r i;refine zJ Z Z (fun h1=>?_) fun h1=>?_
 .have h1:i<r.body.length:=by simpa using h1
  have j0:=gP r.body i h1;have hs:dU p r (i+1)=stepT p r i (dU p r i) (r.body.getD i ci):=rfl;generalize dU p r i=t1 at*
  have k0:=(r.body.getD i ci).size_eq;refine zJ Z Z (fun B=>?_) fun B=>?_
  .have B: ¬(r.body.getD i ci).kind=4:=by have g:(!kw ((r.body.getD i ci).kind=4))=is:=B;simpa only[Py,decide_eq_false_iff_not]using g
   have hS:stepT p r i t1 (r.body.getD i ci)=mT p r i (-1) t1 (r.body.getD i ci):=be B;rw[hS]at hs;refine gA Z (AE (d91 p r t1 (r.body.getD i ci) i (-1) hok (by omega)) ?_);refine gA Z ⟨h1,ac,_,nB (hs.symm)⟩
  have B:(r.body.getD i ci).kind=4:=by have g:(!kw ((r.body.getD i ci).kind=4))=jp:=B;simpa only[Qe,decide_eq_true_eq]using g
  have hS:stepT p r i t1 (r.body.getD i ci)=n3 p r i (tF r i t1 (r.body.getD i ci).dQ (r.body.getD i ci).bx (r.body.getD i ci).jw) (r.body.getD i ci).ar (r.body.getD i ci).ar.length:=am B;rw[hS]at hs;have J:tF r i t1 (r.body.getD i ci).dQ (r.body.getD i ci).bx (r.body.getD i ci).jw=if(r.body.getD i ci).dQ=2 then(t1.add (fp r i i (r.body.getD i ci).jw)).add (fp r i i (mP (r.body.getD i ci).bx)) else if(r.body.getD i ci).dQ=1 then t1.add (fp r i i (mP (r.body.getD i ci).bx)) else gH r i i t1 (mP (r.body.getD i ci).bx) (r.body.getD i ci).jw:=rfl;have A:=CD r i hok (r.body.getD i ci).dQ (r.body.getD i ci).bx (r.body.getD i ci).jw;have f0:=zu r i t1 (r.body.getD i ci).dQ (r.body.getD i ci).bx (r.body.getD i ci).jw;have a0:=Lit.aF (r.body.getD i ci).ar;have m0:=jW (r.body.getD i ci).bx;have i0:=fZ r i i (r.body.getD i ci).jw;generalize tF r i t1 (r.body.getD i ci).dQ (r.body.getD i ci).bx (r.body.getD i ci).jw=V at*
  refine zJ Z Z (fun f2=>?_) fun f2=>?_
  .have f2:(r.body.getD i ci).dQ=2:=zT f2;have I:V=(t1.add (fp r i i (r.body.getD i ci).jw)).add (fp r i i (mP (r.body.getD i ci).bx)):=by rw[J,am f2]
   refine gA Z (AE (EL r t1 (r.body.getD i ci).jw i i (by omega)) ?_);refine gA Z (x4 (bC.le (aa:=[.ptr 0 0,Fl (r.body.getD i ci).bx,pI i,pI i]) (EL r (t1.add (fp r i i (r.body.getD i ci).jw)) (mP (r.body.getD i ci).bx) i i (by show(t1.ws++_).length+_<=_;rw[Oy,jW];omega)) ⟨.refl _,vn _,.refl _,.refl _,ac⟩) Z Z Z Z Z Z Z (by first|rfl|(rw[Oy];rfl)|simp) (by first|rfl|(rw[OM];rfl)|(simp only[OM,OS];rfl)) Z Z Z Z Z Z ?_);refine gA Z ?_;refine aK 0 (r.body.getD i ci).ar.length (OL _) (fun k=>⟨[(0,.iv (cA p)),(1,.iv (cg r)),(5,.ptr 2 0),(6,pI i),(31,.iv (lits r.body)),(32,pI r.body.length),(33,pI i),(79,.iv (lits (r.body.getD i ci).ar)),(80,pI (r.body.getD i ci).ar.length),(81,pI k)],[(2,co (TS.cell r 0 10 (n3 p r i V (r.body.getD i ci).ar k).ws.length 1)),(0,co (mW (n3 p r i V (r.body.getD i ci).ar k).up)),(10,co (aP 5 (n3 p r i V (r.body.getD i ci).ar k).ws Want.c)),(1,co (nj (n3 p r i V (r.body.getD i ci).ar k).kind))],11⟩) (fun _=>True) _ ac
    (H7 I.symm Z Z Z Z Z Z Z Z Z Z (bi (bi (bi (bi (bi (bi (bi ⟨.iv (lW _),rfl,bi (bi trivial)⟩)))))))) fun k hk _=>?_
   have C:=sI p r i V (r.body.getD i ci).ar k hk;have u:=xY p r i A (r.body.getD i ci).ar k;have D:n3 p r i V (r.body.getD i ci).ar (k+1)=mT p r i i (n3 p r i V (r.body.getD i ci).ar k) ((r.body.getD i ci).ar.getD k ci):=rfl;refine zJ Z Z (fun j=>?_) fun j=>?_
   .have j:k<(r.body.getD i ci).ar.length:=zN j;have G:=gP (r.body.getD i ci).ar k j;refine gA Z (AE (d91 p r (n3 p r i V (r.body.getD i ci).ar k) ((r.body.getD i ci).ar.getD k ci) i i u (by omega)) ?_);refine gA Z ⟨j,ac,_,nB (rfl)⟩
   .have j:(r.body.getD i ci).ar.length<=k:=zG j;have x:k=(r.body.getD i ci).ar.length:=by omega
    subst x;refine gA Z ⟨h1,ac,_,nB (hs.symm)⟩
  have f2: ¬(r.body.getD i ci).dQ=2:=zF f2;rw[be f2]at J;refine zJ Z Z (fun f1=>?_) fun f1=>?_
  .have f1:(r.body.getD i ci).dQ=1:=zT f1;have I:V=t1.add (fp r i i (mP (r.body.getD i ci).bx)):=by rw[J,am f1]
   refine gA Z (AE (bC.le (aa:=[.ptr 0 0,Fl (r.body.getD i ci).bx,pI i,pI i]) (EL r t1 (mP (r.body.getD i ci).bx) i i (by rw[jW];omega)) ⟨.refl _,vn _,.refl _,.refl _,ac⟩) ?_);refine gA Z ?_;refine aK 0 (r.body.getD i ci).ar.length (OL _) (fun k=>⟨[(0,.iv (cA p)),(1,.iv (cg r)),(5,.ptr 2 0),(6,pI i),(31,.iv (lits r.body)),(32,pI r.body.length),(33,pI i),(79,.iv (lits (r.body.getD i ci).ar)),(80,pI (r.body.getD i ci).ar.length),(81,pI k)],[(2,co (TS.cell r 0 9 (n3 p r i V (r.body.getD i ci).ar k).ws.length 1)),(0,co (mW (n3 p r i V (r.body.getD i ci).ar k).up)),(9,co (aP 5 (n3 p r i V (r.body.getD i ci).ar k).ws Want.c)),(1,co (nj (n3 p r i V (r.body.getD i ci).ar k).kind))],10⟩) (fun _=>True) _ ac
    (H7 I.symm Z Z Z Z Z Z Z Z Z Z (bi (bi (bi (bi (bi (bi (bi ⟨.iv (lW _),rfl,bi (bi trivial)⟩)))))))) fun k hk _=>?_
   have C:=sI p r i V (r.body.getD i ci).ar k hk;have u:=xY p r i A (r.body.getD i ci).ar k;have D:n3 p r i V (r.body.getD i ci).ar (k+1)=mT p r i i (n3 p r i V (r.body.getD i ci).ar k) ((r.body.getD i ci).ar.getD k ci):=rfl;refine zJ Z Z (fun j=>?_) fun j=>?_
   .have j:k<(r.body.getD i ci).ar.length:=zN j;have G:=gP (r.body.getD i ci).ar k j;refine gA Z (AE (d91 p r (n3 p r i V (r.body.getD i ci).ar k) ((r.body.getD i ci).ar.getD k ci) i i u (by omega)) ?_);refine gA Z ⟨j,ac,_,nB (rfl)⟩
   .have j:(r.body.getD i ci).ar.length<=k:=zG j;have x:k=(r.body.getD i ci).ar.length:=by omega
    subst x;refine gA Z ⟨h1,ac,_,nB (hs.symm)⟩
  .have f1: ¬(r.body.getD i ci).dQ=1:=zF f1;have I:V=gH r i i t1 (mP (r.body.getD i ci).bx) (r.body.getD i ci).jw:=by rw[J,be f1]
   refine gA Z (AE (bC.le (aa:=[.ptr 0 0,Fl (r.body.getD i ci).bx,ag (r.body.getD i ci).jw.c,pI i,pI i]) (d93 r t1 (mP (r.body.getD i ci).bx) (r.body.getD i ci).jw i i hok (by rw[jW];omega)) ⟨.refl _,vn _,.refl _,.refl _,.refl _,ac⟩) ?_);refine gA Z ?_;refine aK 0 (r.body.getD i ci).ar.length (OL _) (fun k=>⟨[(0,.iv (cA p)),(1,.iv (cg r)),(5,.ptr 2 0),(6,pI i),(31,.iv (lits r.body)),(32,pI r.body.length),(33,pI i),(79,.iv (lits (r.body.getD i ci).ar)),(80,pI (r.body.getD i ci).ar.length),(81,pI k)],[(2,co (TS.cell r 0 9 (n3 p r i V (r.body.getD i ci).ar k).ws.length 1)),(0,co (mW (n3 p r i V (r.body.getD i ci).ar k).up)),(9,co (aP 5 (n3 p r i V (r.body.getD i ci).ar k).ws Want.c)),(1,co (nj (n3 p r i V (r.body.getD i ci).ar k).kind))],10⟩) (fun _=>True) _ ac
    (H7 I.symm Z Z Z Z Z Z Z Z Z Z (bi (bi (bi (bi (bi (bi (bi ⟨.iv (lW _),rfl,bi (bi trivial)⟩)))))))) fun k hk _=>?_
   have C:=sI p r i V (r.body.getD i ci).ar k hk;have u:=xY p r i A (r.body.getD i ci).ar k;have D:n3 p r i V (r.body.getD i ci).ar (k+1)=mT p r i i (n3 p r i V (r.body.getD i ci).ar k) ((r.body.getD i ci).ar.getD k ci):=rfl;refine zJ Z Z (fun j=>?_) fun j=>?_
   .have j:k<(r.body.getD i ci).ar.length:=zN j;have G:=gP (r.body.getD i ci).ar k j;refine gA Z (AE (d91 p r (n3 p r i V (r.body.getD i ci).ar k) ((r.body.getD i ci).ar.getD k ci) i i u (by omega)) ?_);refine gA Z ⟨j,ac,_,nB (rfl)⟩
   .have j:(r.body.getD i ci).ar.length<=k:=zG j;have x:k=(r.body.getD i ci).ar.length:=by omega
    subst x;refine gA Z ⟨h1,ac,_,nB (hs.symm)⟩
 .have h1:r.body.length<=i:=by simpa using h1
  have b0:i=r.body.length:=by omega
  subst b0;have hT:lH p r=⟨(dU p r r.body.length).up,(dU p r r.body.length).ws,(dU p r r.body.length).ws.foldl (cp (dU p r r.body.length).up) []⟩:=rfl;rw[hT];rw[Qd]at d0;have c0:(dU p r r.body.length).kind=[]:=ve p r _;generalize dU p r r.body.length=t1 at*
  have R:t1.kind=(t1.ws.take 0).foldl (cp t1.up) []:=c0;refine gA Z ?_;refine we 5 (fun k=>Want.c (t1.ws.getD k ci)) Z (dG Z) (by simp[AF.oq,PV.cF,mv]) ⟨(by simp[AO.oq,c7,PV.cF]),ac,xf _ _ _ _ _ _,ac,ac⟩ ?_
  refine aK 0 t1.ws.length (OL _) (fun i=>⟨[(5,.ptr 2 0),(96,.iv (bw 5 t1.ws Want.c)),(97,pI t1.ws.length),(98,pI i)],
   [(2,co (.cells [.iv (cg r),.mp 0,.iv (bw 5 t1.ws Want.c),.mp 1])),(0,co (mW t1.up)),(1,co (nj ((t1.ws.take i).foldl (cp t1.up) [])))],6⟩) (fun _=>True) [] ac
   (zM (bi ⟨.ck Z (fun k _=>by rw[OY]),rfl,bi (bi trivial)⟩) ⟨⟨_,rfl,.cells ⟨.refl _,.refl _,.ck Z (fun k _=>by rw[OY]),.refl _,ac⟩⟩,Oq Z,rfl,zC (hM Z R Z trivial)⟩) fun i hi _=>?_
  refine zJ Z Z (fun j=>?_) fun j=>?_
  .have j:i<t1.ws.length:=zN j;have y:=gF (g:=cp t1.up) (b:=[]) j;refine gA Z (zq [2,0,1] (NX r t1.up ((t1.ws.take i).foldl (cp t1.up) []) (bw 5 t1.ws Want.c) (t1.ws.getD i ci).at_ hok) ?_);refine zJ Z Z (fun g1=>?_) fun g1=>?_
   .have g1:(t1.ws.getD i ci).has=0:=zT g1;refine zJ Z Z (fun g2=>?_) fun g2=>?_
    .have g2:dt (.si .i64) ((t1.ws.take i).foldl (cp t1.up) []) (bE t1.up (t1.ws.getD i ci).at_) 0=0:=zT g2;have hk:cp t1.up ((t1.ws.take i).foldl (cp t1.up) []) (t1.ws.getD i ci)=ct (.si .i64) ((t1.ws.take i).foldl (cp t1.up) []) (bE t1.up (t1.ws.getD i ci).at_) (t1.ws.getD i ci).kind:=am ⟨g1,g2⟩;rw[hk]at y;refine gA Z ⟨j,ac,[],zW (zO (zC (hM Z (by first|exact y.symm|(rw[y];rfl)) Z ac)))⟩
    .have g2: ¬dt (.si .i64) ((t1.ws.take i).foldl (cp t1.up) []) (bE t1.up (t1.ws.getD i ci).at_) 0=0:=zF g2;have hk:cp t1.up ((t1.ws.take i).foldl (cp t1.up) []) (t1.ws.getD i ci)=(t1.ws.take i).foldl (cp t1.up) []:=be fun h=>g2 h.2;rw[hk]at y;refine gA Z ⟨j,ac,[],zW (zO (zC (hM Z (by first|exact y.symm|(rw[y];rfl)) Z ac)))⟩
   .have g1: ¬(t1.ws.getD i ci).has=0:=zF g1;have hk:cp t1.up ((t1.ws.take i).foldl (cp t1.up) []) (t1.ws.getD i ci)=(t1.ws.take i).foldl (cp t1.up) []:=be fun h=>g1 h.1;rw[hk]at y;refine gA Z ⟨j,ac,[],zW (zO (zC (hM Z (by first|exact y.symm|(rw[y];rfl)) Z ac)))⟩
  .have j:t1.ws.length<=i:=zG j;have e0:t1.ws.take i=t1.ws:=OP j;refine fk Z ac (lg (.inr Z) Z (.map 0 Z (.map 1 Z (.cells 2 _ Z (show _=List.map PV.iv [cg r,upI t1.up,bw 5 t1.ws Want.c,kdI (t1.ws.foldl (cp t1.up) [])] by rw[e0];rfl) (.done (.of_eq Z))))))
def rB(a:Atom):Bool:=(jl WS.o a).bad
def pQ(l:Lit):Bool:=(dz l.size l WS.o).bad
def rI(l:Lit):Bool:=kw (l.kind=4)&&kw ((l.ar.length:Int)>12)
def gv(n:Nat):List Int:=(O4 (n+1)).map fun k:Nat=>(k:Int)-1
theorem pP(n:Nat):(gv n).length=n+1:=by simp[gv]
theorem uO(n k:Nat)(h:k<n+1):(gv n).getD k ci=(k:Int)-1:=by simp[gv,h]
def y8(f:Int->Bool)(n:Nat):Option Int:=(gv n).find? f
abbrev fi:=Int×Pos
def fi.c(d:fi):List IV:=[iI d.1,iI d.2.line,iI d.2.Fg]
def lU(r:ax)(e:Int)(f:Int->Bool)(k:fi):fi:=match y8 f r.body.length with
 |some lit=>(e,pH r lit)
 |none=>k
def vW(p:Prog)(r:ax):fi:=
 lU r 61 (fun lit=>(eA r lit).any fun x=>tt p x)<|lU r 62 (fun lit=>(eA r lit).any fun x=>wz p x)<|lU r 65 (kH r)<|lU r 63 (pj (lH p r))<|lU r 64 (jP r) (0,⟨0,0⟩)
def ur(p:Prog)(r:ax)(n:Int):fi:=
 if rB r.head=is then(1,r.at_) else match r.body.find? pQ with
 |some l=>(1,l.at)
 |none=>if n>256∨(r.body.length:Int)>12 then(66,r.at_) else if(C7 r:Int)>24 then(66,r.at_) else match r.body.find? rI with
  |some l=>(66,l.at)
  |none=>vW p r
def ax.fit(r:ax):Prop:=r.size<=10000000∧r.head.ts<=900000000∧ ∀l∈r.body,l.ts<=900000000
theorem ky{α:Type}{p:α->Bool}{l:List α}(h:l.any p=jp):l.find? p=io:=by
 rw[Qq];intro x b;have:=Ps.1 h x b;simpa using this
theorem ma{α:Type}[Inhabited α]{p:α->Bool}{l:List α}{i:Nat}(h:(l.take i).any p=jp)(hi:i<l.length)(hp:p (l.getD i ci)=is):l.find? p=co (l.getD i ci):=by
 have b:l.getD i ci=l[i]:=by simp[hi]
 rw[b]at hp ⊢;rw[List.find?_eq_some_iff_getElem];refine⟨hp,i,hi,rfl,fun j u=>?_⟩;have:=Ps.1 h l[j] (RC.2 ⟨j,by rw[Ph,am u,Ox (by omega)]⟩);simpa using this
def hP(p:Prog)(r:ax):List (List PV):=[[pI 61,.b4 (.func 122) [] [.ptr 1 0,.ptr 0 0]],[pI 62,.b4 (.func 126) [] [.ptr 1 0,.ptr 0 0]],[pI 65,.b4 (.func 128) [] [.ptr 1 0]],[pI 63,.b4 (.func 131) [.iv (Kb r (lH p r))] []],[pI 64,.b4 (.func 132) [.iv (cg r)] []]]
theorem b7(p:Prog)(r:ax)(n:Nat)(h:OV 1 n=is):(AO.row 2 (hP p r)).low n:=by
 have b:OV 0 n=is:=Pp (by have:=Oq h;omega);intro k e hk
 match k,hk with
 |0,hk=>cases hk;simp[bd,PV.low,h,b]
 |1,hk=>cases hk;simp[bd,PV.low,h,b]
 |2,hk=>cases hk;simp[bd,PV.low,h,b]
 |3,hk=>cases hk;simp[bd,PV.low,h,b]
 |4,hk=>cases hk;simp[bd,PV.low,h,b]
 |k+5,hk=>simp[hP]at hk
theorem lT{r:ax}{e:Int}{f:Int->Bool}{k:fi}{i:Nat}(b:((gv r.body.length).take i).any f=jp)(hi:i<r.body.length+1)(h:f ((i:Int)-1)=is):lU r e f k=(e,pH r ((i:Int)-1)):=by
 have h1:=uO r.body.length i hi;have:=ma b (by rw[pP];exact hi) (by rw[h1];exact h);rw[h1]at this;rw[lU,y8,this]
theorem ki{r:ax}{e:Int}{f:Int->Bool}{k:fi}{i:Nat}(b:((gv r.body.length).take i).any f=jp)(hi:r.body.length+1<=i):lU r e f k=k:=by
 rw[OP (by rw[pP];exact hi)]at b;rw[lU,y8,ky b]
theorem kh{r:ax}{f:Int->Bool}{i:Nat}(b:((gv r.body.length).take i).any f=jp)(hi:i<r.body.length+1)(h:f ((i:Int)-1)=jp):((gv r.body.length).take (i+1)).any f=jp:=by
 refine(cI b (by rw[pP];exact hi)).2 ?_;rw[uO _ _ hi];exact h
set_option maxHeartbeats 4000000 in
theorem c65(p:Prog)(r:ax)(n:Int)(hb:r.fit):Pure prog 83 [.iv (cA p),ag r.c,pI n] (ag (ur p r n).c):=by
 obtain⟨hb,G,I⟩:=hb;have b0:r.size=r.head.aj.length+Lit.aE r.body:=rfl;have R:=Lit.aF r.body;refine ai ab func83 Z (by decide) ntmps83 Z (by simp) Z ?_;refine gA Z (zp (c61 r.head G) ?_);refine zJ Z Z (fun g1=>?_) fun g1=>?_
 .have g1:rB r.head=is:=by
   cases h:rB r.head with
   |true=>rfl
   |false=>
    have h:(jl WS.o r.head).bad=jp:=h;rw[h]at g1;simp at g1
  rw[ur,am g1];exact zU Z
 have g1: ¬rB r.head=is:=by
  intro h;have h:(jl WS.o r.head).bad=is:=h;rw[h]at g1;simp at g1
 rw[ur,be g1];refine gA Z ?_;refine aK 0 r.body.length (OL _) (fun i=>⟨[(2,pI n),(3,.ptr 0 0),(4,.ptr 1 0),(6,.ptr 2 0),(32,.iv (lits r.body)),(33,pI r.body.length),(34,pI i)],[(0,co (.cells [.iv (cA p)])),(1,co (ay r.c)),(2,co (.cells [pI 0,pI 0,pI 0]))],3⟩) (fun i=>(r.body.take i).any pQ=jp) [] (by simp)
  (zW ⟨⟨_,rfl,.of_eq Z⟩,Oq Z,rfl,⟨_,rfl,.of_eq Z⟩,Oq Z,rfl,⟨_,rfl,.of_eq Z⟩,Oq Z,rfl,ac⟩) fun i Y u=>?_
 refine zJ Z Z (fun h1=>?_) fun h1=>?_
 .have h1:i<r.body.length:=zN h1;have D:=cI u h1;have hm:r.body.getD i ci∈r.body:=by rw[Ow,Ox h1];exact Pg h1
  have a0:=Lit.bR r.body i h1;refine gA Z (aB (Oj (r.body.getD i ci) (I _ hm) (by omega)) Z Z Z Z Z Z ?_);refine zJ Z Z (fun A=>?_) fun A=>?_
  .have A:pQ (r.body.getD i ci)=is:=by
    cases h:pQ (r.body.getD i ci) with
    |true=>rfl
    |false=>
     have h:(dz (r.body.getD i ci).size (r.body.getD i ci) WS.o).bad=jp:=h;have g:(!kw ((if(dz (r.body.getD i ci).size (r.body.getD i ci) WS.o).bad=is then(50:Int) else 0)=0))=is:=A;rw[h]at g;simp at g
   rw[ma u h1 A];exact zU Z
  .have A:pQ (r.body.getD i ci)=jp:=by
    cases h:pQ (r.body.getD i ci) with
    |false=>rfl
    |true=>
     have h:(dz (r.body.getD i ci).size (r.body.getD i ci) WS.o).bad=is:=h;have g:(!kw ((if(dz (r.body.getD i ci).size (r.body.getD i ci) WS.o).bad=is then(50:Int) else 0)=0))=jp:=A;rw[h]at g;simp at g
   refine gA Z ⟨h1,D.2 A,[],zW ⟨⟨_,rfl,.of_eq Z⟩,Oq Z,rfl,⟨_,rfl,.of_eq Z⟩,Oq Z,rfl,⟨_,rfl,.of_eq Z⟩,Oq Z,rfl,ac⟩⟩
 have h1:r.body.length<=i:=zG h1;rw[OP h1]at u;rw[ky u];refine zE Z Z (fun g2=>?_) fun g2=>?_
 .have g2:n>256:=by simpa using g2
  rw[am (.inl g2)];exact zU Z
 have g2: ¬n>256:=zF g2;refine zJ Z Z (fun g3=>?_) fun g3=>?_
 .rw[am (.inr (zT g3))];exact zU Z
 have g3: ¬(r.body.length:Int)>12:=zF g3;rw[be (by rintro(h|h);exact g2 h;exact g3 h)];refine gA Z (zp (c48 r (by omega)) ?_);refine gA Z (zp (Oi r (by omega)) ?_);refine zJ Z Z (fun g4=>?_) fun g4=>?_
 .rw[am (zT g4)];exact zU Z
 have g4: ¬(C7 r:Int)>24:=zF g4;rw[be g4];refine gA Z ?_;refine aK 0 r.body.length (OL _) (fun i=>⟨[(3,.ptr 0 0),(4,.ptr 1 0),(6,.ptr 2 0),(13,.iv (cg r)),(69,.iv (lits r.body)),(70,pI r.body.length),(71,pI i)],[(0,co (.cells [.iv (cA p)])),(1,co (ay r.c)),(2,co (.cells [pI 0,pI 0,pI 0]))],3⟩) (fun i=>(r.body.take i).any rI=jp) [] (by simp)
  (zW ⟨⟨_,rfl,.of_eq Z⟩,Oq Z,rfl,⟨_,rfl,.of_eq Z⟩,Oq Z,rfl,⟨_,rfl,.of_eq Z⟩,Oq Z,rfl,ac⟩) fun i Y u=>?_
 refine zJ Z Z (fun A=>?_) fun A=>?_
 .have A:i<r.body.length:=zN A;have D:=cI u A;refine zJ Z Z (fun B=>?_) fun B=>?_
  .have B:(r.body.getD i ci).kind=4:=zT B;refine zJ Z Z (fun C=>?_) fun C=>?_
   .have C:rI (r.body.getD i ci)=is:=by rw[rI,decide_eq_true B];exact C
    rw[ma u A C];exact zU Z
   .have C:rI (r.body.getD i ci)=jp:=by rw[rI,decide_eq_true B];exact C
    refine gA Z ⟨A,D.2 C,[],zW ⟨⟨_,rfl,.of_eq Z⟩,Oq Z,rfl,⟨_,rfl,.of_eq Z⟩,Oq Z,rfl,⟨_,rfl,.of_eq Z⟩,Oq Z,rfl,ac⟩⟩
  .have B: ¬(r.body.getD i ci).kind=4:=zF (by have g:kw ((r.body.getD i ci).kind=4)=jp:=B;exact g);refine gA Z ⟨A,D.2 (by rw[rI,decide_eq_false B];rfl),[],zW ⟨⟨_,rfl,.of_eq Z⟩,Oq Z,rfl,⟨_,rfl,.of_eq Z⟩,Oq Z,rfl,⟨_,rfl,.of_eq Z⟩,Oq Z,rfl,ac⟩⟩
 have A:r.body.length<=i:=zG A;rw[OP A]at u;rw[ky u];refine gA Z (zp (c49 p r (by omega)) ?_);refine gA Z ?_;refine ae [] (t:=⟨[(3,.ptr 0 0),(4,.ptr 1 0),(6,.ptr 2 0),(104,.sl 3 0 5 2),(105,pI 5),(106,pI 0)],[(0,co (.cells [.iv (cA p)])),(1,co (ay r.c)),(2,co (.cells [pI 0,pI 0,pI 0])),(3,co (.row 2 (hP p r)))],4⟩)
  (zW (zO (zO (zO ⟨⟨_,rfl,.of_eq Z⟩,Oq Z,b7 p r _ Z,ac⟩)))) ?_
 have J:(lH p r).ws.length<=1000000000000:=by have:=ta p r r.body.length (OJ _);rw[Qd]at this;show(dU p r r.body.length).ws.length<=_;omega
 rw[vW];refine n9 (n:=6) ?_;refine zE Z Z (fun q=>?_) fun q=>?_
 .exact absurd (show is=jp from q) (by decide)
 refine gA Z ?_;refine aK 0 (r.body.length+1) (OL _) (fun k=>⟨[(3,.ptr 0 0),(4,.ptr 1 0),(6,.ptr 2 0),(18,.ptr 4 0),(19,pI ((k:Int)-1)),(104,.sl 3 0 5 2),(105,pI 5),(106,pI 0)],[(0,co (.cells [.iv (cA p)])),(1,co (ay r.c)),(2,co (.cells [pI 0,pI 0,pI 0])),(3,co (.row 2 (hP p r))),(4,co (.cells [pI 61,.b4 (.func 122) [] [.ptr 1 0,.ptr 0 0]]))],5⟩) (fun k=>((gv r.body.length).take k).any (fun lit=>(eA r lit).any fun x=>tt p x)=jp) [] Z
  (zW (zO (zO (zO ⟨⟨_,rfl,.of_eq Z⟩,Oq Z,b7 p r _ Z,(zO trivial)⟩)))) fun k hk u=>?_
 refine zJ Z Z (fun j=>?_) fun j=>?_
 .have j:(k:Int)-1<r.body.length:=zT j;have b:k<r.body.length+1:=by omega
  refine gA Z (zq [1,0] (d110 p r ((k:Int)-1) (by omega) (by omega)) ?_);refine zJ Z Z (fun y=>?_) fun y=>?_
  .rw[lT u b y];refine gA Z (zm (EZ r ((k:Int)-1) j) ?_);exact zU Z
  .refine gA Z ?_;exact⟨b,kh u b y,[],zM (bi (bi (bi (bi ⟨.of_eq (Ct (by omega)),rfl,bi (bi (bi ac))⟩)))) (zO (zO (zO ⟨⟨_,rfl,.of_eq Z⟩,Oq Z,b7 p r _ Z,(zO ac)⟩)))⟩
 have j: ¬(k:Int)-1<r.body.length:=zF j;rw[ki u (by omega)];clear u hk j;refine zE Z Z (fun q=>?_) fun q=>?_
 .exact absurd (show is=jp from q) (by decide)
 refine gA Z ?_;refine aK 0 (r.body.length+1) (OL _) (fun k=>⟨[(3,.ptr 0 0),(4,.ptr 1 0),(6,.ptr 2 0),(18,.ptr 5 0),(19,pI ((k:Int)-1)),(104,.sl 3 0 5 2),(105,pI 5),(106,pI 1)],[(0,co (.cells [.iv (cA p)])),(1,co (ay r.c)),(2,co (.cells [pI 0,pI 0,pI 0])),(3,co (.row 2 (hP p r))),(5,co (.cells [pI 62,.b4 (.func 126) [] [.ptr 1 0,.ptr 0 0]]))],6⟩) (fun k=>((gv r.body.length).take k).any (fun lit=>(eA r lit).any fun x=>wz p x)=jp) [] Z
  (zW (zO (zO (zO ⟨⟨_,rfl,.of_eq Z⟩,Oq Z,b7 p r _ Z,(zO trivial)⟩)))) fun k hk u=>?_
 refine zJ Z Z (fun j=>?_) fun j=>?_
 .have j:(k:Int)-1<r.body.length:=zT j;have b:k<r.body.length+1:=by omega
  refine gA Z (zq [1,0] (d114 p r ((k:Int)-1) (by omega) (by omega)) ?_);refine zJ Z Z (fun y=>?_) fun y=>?_
  .rw[lT u b y];refine gA Z (zm (EZ r ((k:Int)-1) j) ?_);exact zU Z
  .refine gA Z ?_;exact⟨b,kh u b y,[],zM (bi (bi (bi (bi ⟨.of_eq (Ct (by omega)),rfl,bi (bi (bi ac))⟩)))) (zO (zO (zO ⟨⟨_,rfl,.of_eq Z⟩,Oq Z,b7 p r _ Z,(zO ac)⟩)))⟩
 have j: ¬(k:Int)-1<r.body.length:=zF j;rw[ki u (by omega)];clear u hk j;refine zE Z Z (fun q=>?_) fun q=>?_
 .exact absurd (show is=jp from q) (by decide)
 refine gA Z ?_;refine aK 0 (r.body.length+1) (OL _) (fun k=>⟨[(3,.ptr 0 0),(4,.ptr 1 0),(6,.ptr 2 0),(18,.ptr 6 0),(19,pI ((k:Int)-1)),(104,.sl 3 0 5 2),(105,pI 5),(106,pI 2)],[(0,co (.cells [.iv (cA p)])),(1,co (ay r.c)),(2,co (.cells [pI 0,pI 0,pI 0])),(3,co (.row 2 (hP p r))),(6,co (.cells [pI 65,.b4 (.func 128) [] [.ptr 1 0]]))],7⟩) (fun k=>((gv r.body.length).take k).any (kH r)=jp) [] Z
  (zW (zO (zO (zO ⟨⟨_,rfl,.of_eq Z⟩,Oq Z,b7 p r _ Z,(zO trivial)⟩)))) fun k hk u=>?_
 refine zJ Z Z (fun j=>?_) fun j=>?_
 .have j:(k:Int)-1<r.body.length:=zT j;have b:k<r.body.length+1:=by omega
  refine gA Z (zq [1] (d116 r ((k:Int)-1) (by omega) (by omega)) ?_);refine zJ Z Z (fun y=>?_) fun y=>?_
  .rw[lT u b y];refine gA Z (zm (EZ r ((k:Int)-1) j) ?_);exact zU Z
  .refine gA Z ?_;exact⟨b,kh u b y,[],zM (bi (bi (bi (bi ⟨.of_eq (Ct (by omega)),rfl,bi (bi (bi ac))⟩)))) (zO (zO (zO ⟨⟨_,rfl,.of_eq Z⟩,Oq Z,b7 p r _ Z,(zO ac)⟩)))⟩
 have j: ¬(k:Int)-1<r.body.length:=zF j;rw[ki u (by omega)];clear u hk j;refine zE Z Z (fun q=>?_) fun q=>?_
 .exact absurd (show is=jp from q) (by decide)
 refine gA Z ?_;refine aK 0 (r.body.length+1) (OL _) (fun k=>⟨[(3,.ptr 0 0),(4,.ptr 1 0),(6,.ptr 2 0),(18,.ptr 7 0),(19,pI ((k:Int)-1)),(104,.sl 3 0 5 2),(105,pI 5),(106,pI 3)],[(0,co (.cells [.iv (cA p)])),(1,co (ay r.c)),(2,co (.cells [pI 0,pI 0,pI 0])),(3,co (.row 2 (hP p r))),(7,co (.cells [pI 63,.b4 (.func 131) [.iv (Kb r (lH p r))] []]))],8⟩) (fun k=>((gv r.body.length).take k).any (pj (lH p r))=jp) [] Z
  (zW (zO (zO (zO ⟨⟨_,rfl,.of_eq Z⟩,Oq Z,b7 p r _ Z,(zO trivial)⟩)))) fun k hk u=>?_
 refine zJ Z Z (fun j=>?_) fun j=>?_
 .have j:(k:Int)-1<r.body.length:=zT j;have b:k<r.body.length+1:=by omega
  refine gA Z (aB (Og r (lH p r) ((k:Int)-1) (wx p r _) J) Z Z Z Z Z Z ?_);refine zJ Z Z (fun y=>?_) fun y=>?_
  .rw[lT u b y];refine gA Z (zm (EZ r ((k:Int)-1) j) ?_);exact zU Z
  .refine gA Z ?_;exact⟨b,kh u b y,[],zM (bi (bi (bi (bi ⟨.of_eq (Ct (by omega)),rfl,bi (bi (bi ac))⟩)))) (zO (zO (zO ⟨⟨_,rfl,.of_eq Z⟩,Oq Z,b7 p r _ Z,(zO ac)⟩)))⟩
 have j: ¬(k:Int)-1<r.body.length:=zF j;rw[ki u (by omega)];clear u hk j;refine zE Z Z (fun q=>?_) fun q=>?_
 .exact absurd (show is=jp from q) (by decide)
 refine gA Z ?_;refine aK 0 (r.body.length+1) (OL _) (fun k=>⟨[(3,.ptr 0 0),(4,.ptr 1 0),(6,.ptr 2 0),(18,.ptr 8 0),(19,pI ((k:Int)-1)),(104,.sl 3 0 5 2),(105,pI 5),(106,pI 4)],[(0,co (.cells [.iv (cA p)])),(1,co (ay r.c)),(2,co (.cells [pI 0,pI 0,pI 0])),(3,co (.row 2 (hP p r))),(8,co (.cells [pI 64,.b4 (.func 132) [.iv (cg r)] []]))],9⟩) (fun k=>((gv r.body.length).take k).any (jP r)=jp) [] Z
  (zW (zO (zO (zO ⟨⟨_,rfl,.of_eq Z⟩,Oq Z,b7 p r _ Z,(zO trivial)⟩)))) fun k hk u=>?_
 refine zJ Z Z (fun j=>?_) fun j=>?_
 .have j:(k:Int)-1<r.body.length:=zT j;have b:k<r.body.length+1:=by omega
  refine gA Z (zp (Of r ((k:Int)-1) (by omega) (by omega)) ?_);refine zJ Z Z (fun y=>?_) fun y=>?_
  .rw[lT u b y];refine gA Z (zm (EZ r ((k:Int)-1) j) ?_);exact zU Z
  .refine gA Z ?_;exact⟨b,kh u b y,[],zM (bi (bi (bi (bi ⟨.of_eq (Ct (by omega)),rfl,bi (bi (bi ac))⟩)))) (zO (zO (zO ⟨⟨_,rfl,.of_eq Z⟩,Oq Z,b7 p r _ Z,(zO ac)⟩)))⟩
 have j: ¬(k:Int)-1<r.body.length:=zF j;rw[ki u (by omega)];clear u hk j;refine zJ Z Z (fun q=>?_) fun q=>?_
 .exact absurd (show jp=is from q) (by decide)
 exact zU Z
end Go.Proofs.YtllkaddcplhklaaGreatDoor
namespace Go.Proofs.YtllkaddcplhklaaGreatDoor
open Go Go.Al
section
section
variable {H:Type}
abbrev bk(d:DataW H):Nat:=Rows.uptoBulk d
theorem Li(d:DataW H):1<=bk d:=by
 cases d with
 |lit l=>cases l<;>simp[bk,Rows.uptoBulk]
 |nil=>simp[bk,Rows.uptoBulk]
 |ptr d=>simp[bk,Rows.uptoBulk]
 |slice elems spare=>simp[bk,Rows.uptoBulk]
 |agg parts=>simp[bk,Rows.uptoBulk]
 |iface t d=>simp[bk,Rows.uptoBulk]
 |map entries=>simp[bk,Rows.uptoBulk]
 |held h=>simp[bk,Rows.uptoBulk]
theorem _root_.Go.Al.QL.sum{α:Type}{Q:α->DataW H->Prop}{l:List α}{d:DataW H}(h:QL Q l d){f:α->Nat}{c:Nat}(hf: ∀x e,Q x e->f x<=c*bk e):(l.map f).sum<=c*bk d:=by
 obtain⟨b,hd,j,u⟩:=h;have key: ∀(l:List α) (b:List (DataW H)),l.length=b.length->(∀(i:Nat) (x:α) (e:DataW H),l[i]? =co x->b[i]? =co e->Q x e)->(l.map f).sum<=c*Rows.uptoBulkAll b:=by
  intro l
  induction l with
  |nil=>intro b _ _;simp
  |cons x r ih=>
   intro b hl u;cases b with
   |nil=>simp at hl
   |cons e b=>
    have h1:=hf x e (u 0 x e Z Z);have B:=ih b (by simpa using hl) fun i x e A y=>u (i+1) x e (by simpa using A) (by simpa using y);simp only[OU,PM,Rows.uptoBulkAll,Nat.mul_add];simp only[bk]at h1;omega
 have h1:=key l b j u;rcases hd with⟨rfl,rfl⟩|⟨sp,rfl⟩
 .simp[Rows.uptoBulkAll]at h1;omega
 .refine Pm h1 (Nat.mul_le_mul_left c ?_);simp only[bk,Rows.uptoBulk];omega
theorem wQ{α:Type}: ∀l:List α,(l.map fun _=>1).sum=l.length
 | []=>rfl
 |x::r=>by simp only[OU,PM,O6,wQ r];omega
theorem _root_.Go.Al.QL.len{α:Type}{Q:α->DataW H->Prop}{l:List α}{d:DataW H}(h:QL Q l d):l.length<=bk d:=by
 have:=h.sum (f:=fun _=>1) (c:=1) fun x e _=>by have:=Li e;omega
 have e:=wQ l;omega
theorem _root_.Go.Al.QL.all{α:Type}{Q:α->DataW H->Prop}{l:List α}{d:DataW H}(h:QL Q l d): ∀x∈l,∃e,Q x e∧bk e<=bk d:=by
 intro x C;obtain⟨b,hd,u,B⟩:=h;obtain⟨i,A,rfl⟩:=Qh.1 C;have j:i<b.length:=by omega
 refine⟨b[i],B i _ _ (Ox A) (Ox j),?_⟩;have key: ∀(b:List (DataW H)),∀e∈b,bk e<=Rows.uptoBulkAll b:=by
  intro b
  induction b with
  |nil=>intro e he;cases he
  |cons y r ih=>
   intro e he;simp only[Rows.uptoBulkAll];rcases OG.1 he with rfl|he
   .simp only[bk];omega
   .have:=ih e he;omega
 have h1:=key b b[i] (Pg j);rcases hd with⟨rfl,rfl⟩|⟨sp,rfl⟩
 .simp at j
 .refine Pm h1 ?_;simp only[bk,Rows.uptoBulk];omega
end
section
variable {H:Type} {enc:TypeId×Value->H} {W:World} {hT:vk W} {sp:Nat->Bool} {held:Bool}
def Pos.c(p:Pos):List IV:=[iI p.line,iI p.Fg]
end
end
end Go.Proofs.YtllkaddcplhklaaGreatDoor
namespace Go.Proofs.YtllkaddcplhklaaGreatDoor
open Go Go.Al Go.Proofs.Tryz Go.ChangeShapes Go.WideShapes Go.RowKit
theorem own:ownKnob prog.godebug=io:=by kernel_rfl
theorem MV:prog.globalNamed "internal/strconv.uint64pow10" =co 1:=by kernel_rfl
theorem En:(prog.globals[1]?).map (·.type)=co 300:=by kernel_rfl
theorem EV:prog.cellsOf 300=20:=by kernel_rfl
theorem EW:prog.cellsOf 177=1:=by kernel_rfl
theorem CH:prog.underlying 300=co (.array 20 177):=by kernel_rfl
theorem CI:prog.underlying 177=co (.int .u64):=by kernel_rfl
abbrev D5:List (String×DataW Unit):=[("math/bits.deBruijn32tab",Rows.laid_math_bits_deBruijn32tab),("math/bits.deBruijn64tab",Rows.laid_math_bits_deBruijn64tab),("internal/strconv.uint64pow10",Rows.laid_internal_strconv_uint64pow10)]
theorem CU{W:World}(h:laidMetH prog D5 W):vk W:=by
 have u:=laidMetH.filter (fun x=>x.1== "internal/strconv.uint64pow10") h;have A:laidMet prog [("internal/strconv.uint64pow10",Lib.tabData .u64 nU)] W:=by
  rw[show D5.filter (fun x=>x.1== "internal/strconv.uint64pow10")=[("internal/strconv.uint64pow10",Lib.tabData .u64 nU)] by kernel_rfl]at u;rwa[MakeChecks.laidMetH_plain _ _ _ (by kernel_rfl)]at u
 have j:Lib.TabIs prog W "internal/strconv.uint64pow10" .u64 nU:=Lib.tabIs_of_head (rest:=[]) MV En CH CI EW EV A;intro b c hb;unfold Lib.TabIs World.var? at j;rw[MV]at j
 match b with
 |0=>exact nomatch hb
 |1=>
  have B:(nU.map fun z=>Value.int .u64 z).toArray=c:=Pf hb;rw[B]at j;simp only[QG]at j;split at j
  .rename_i C T y e;exact⟨T,y,by rw[e,Pf j]⟩
  .cases j
 |b+2=>exact nomatch hb
theorem kids:Kids prog (· <prog.types.size):=kids_rows (by kernel_rfl) (by kernel_rfl)
theorem full: ∀{t e},t<prog.types.size->prog.underlying t=co (.slice e)->0<prog.cellsOf e:=fun{t e}=>slices_full_of prog (by kernel_rfl) t e
theorem vI{H:Type}{enc:TypeId×Value->H}{W:World}(hT:vk W){k:FuncId}{f:Func}{s:ChangeSpec}{args:List PV}{vs:List Value}{B gs:List (DataW H)}{u:List MemPlace}
  (hp:Al.Pure prog k args (pB is)) (D:args.length=vs.length) (hv: ∀(j:Nat) (p:PV),args[j]? =co p->VR (Mem.re W hT) NF (· <0) p (vs.getD j undef))
  (G: ∀t∈f.params.toList,t<prog.types.size) (A:s.vars=[]) (y:f.resultTypes= #[4])
  (hW:DataW.Whole enc prog f.params.toList s.vars jp W vs.toArray.toList B gs u)
  (I:(s.fn H (B++gs)).results=[.lit (.bool is)]) (J:(s.fn H (B++gs)).args=B) (R:(s.fn H (B++gs)).vars=[]):
  Calls prog k vs.toArray W fun e W'=> ∃v,e= .returned v∧s.post enc prog f jp is jp jp W vs.toArray v W':=by
 refine(hp.2 (Mem.re W hT) NF W vs (GR W hT) D hv).mono ?_;rintro e W' ⟨x,M',N',r,h',n',rfl,⟨rfl,rfl,rfl⟩,hx,hr,hvr⟩;have Y:x= .bool is:=by
  cases hvr with
  |iv _ _ h=>cases h;rfl
 subst Y;refine⟨_,rfl,vJ kids full G A hW hx.os hx.output.out (fun b hb=>hx.fL b hb fun i o hi=>(nomatch hi)) (fun b sp hd=>?_) J R ?_⟩
 .rw[I,y];exact trodAll_cons_mk (shut_bool underlying4 _) trodAll_mk0
 .intro j t r h1 C;rw[y]at h1 C
  match j,h1,C with
  |0,h1,C=>
   cases h1;cases C;exact okWide_bool_mk underlying4 _
  |j+1,h1,C=>simp at h1
theorem bound{H:Type}{l:List (DataW H)}(hk:Rows.uptoSmall H l=is):Rows.uptoBulkAll l<=1048576:=of_decide_eq_true hk
def D4(b:Nat)(cs:Array Value)(h:Array Obj):Array Obj:=h.modify b fun
 | .cells _ t frozen=> .cells cs t frozen
 |o=>o
noncomputable def pT(os:Os):World:=
 {World.holding prog os ⟨#[], #[],[]⟩ with
  heap:=D4 3 #[.int .u8 0,.int .u8 1,.int .u8 56,.int .u8 2,.int .u8 57,.int .u8 49,.int .u8 28,.int .u8 3,.int .u8 61,.int .u8 58,.int .u8 42,.int .u8 50,.int .u8 38,.int .u8 29,.int .u8 17,.int .u8 4,.int .u8 62,.int .u8 47,.int .u8 59,.int .u8 36,.int .u8 45,.int .u8 43,.int .u8 51,.int .u8 22,.int .u8 53,.int .u8 39,.int .u8 33,.int .u8 30,.int .u8 24,.int .u8 18,.int .u8 12,.int .u8 5,.int .u8 63,.int .u8 55,.int .u8 48,.int .u8 27,.int .u8 60,.int .u8 41,.int .u8 37,.int .u8 16,.int .u8 46,.int .u8 35,.int .u8 44,.int .u8 21,.int .u8 52,.int .u8 32,.int .u8 23,.int .u8 11,.int .u8 54,.int .u8 26,.int .u8 40,.int .u8 15,.int .u8 34,.int .u8 20,.int .u8 31,.int .u8 10,.int .u8 25,.int .u8 14,.int .u8 19,.int .u8 9,.int .u8 13,.int .u8 8,.int .u8 7,.int .u8 6] (D4 2 #[.int .u8 0,.int .u8 1,.int .u8 28,.int .u8 2,.int .u8 29,.int .u8 14,.int .u8 24,.int .u8 3,.int .u8 30,.int .u8 22,.int .u8 20,.int .u8 15,.int .u8 25,.int .u8 17,.int .u8 4,.int .u8 8,.int .u8 31,.int .u8 27,.int .u8 13,.int .u8 23,.int .u8 21,.int .u8 19,.int .u8 16,.int .u8 7,.int .u8 26,.int .u8 12,.int .u8 18,.int .u8 6,.int .u8 11,.int .u8 5,.int .u8 10,.int .u8 9] (D4 1 (nU.map fun z=>Value.int .u64 z).toArray (World.holding prog os ⟨#[], #[],[]⟩).heap))}
end Go.Proofs.YtllkaddcplhklaaGreatDoor
namespace Go.Proofs.YtllkaddcplhklaaGreatDoor
open Go Go.Al Go.Proofs.Tryz
def fi.z:fi:=(0,⟨0,0⟩)
theorem d64(d e:fi):bC prog 64 [ag d.c,.ptr 0 0] [ay e.c] (pB jp) [(0,co (ay d.c))] 1:=by
 refine au ab func64 Z (by decide) ntmps64 Z (by simp) ?_;refine gA Z (zD [] Z (zW (zO ac)))
def fe(p:Prog)(i:Nat):List ak:=(p.aQ.take i).map Decl.name
def fw(p:Prog)(i:Nat):Int:=nR (p.aQ.getD i ci) i (dt .str (aD (fe p i)) (p.aQ.getD i ci).name 0)
def nQ(p:Prog):Nat->List fi
 |0=> []
 |i+1=>nQ p i++(if fw p i=0 then[] else[(fw p i,(p.aQ.getD i ci).at_)])
def rW(p:Prog)(i:Nat):fi:=ur p (p.rules.getD i ci) ((i:Int)+1)
def oD(p:Prog):Nat->List fi
 |0=> []
 |i+1=>oD p i++(if(rW p i).1=0 then[] else[rW p i])
def jI(p:Prog):List fi:=nQ p p.aQ.length++oD p p.rules.length
def dP(p:Prog):fi:=(jI p).headD fi.z
theorem xj(p:Prog)(i:Nat): ∀k,∃t,nQ p (i+k)=nQ p i++t
 |0=>⟨[],by simp⟩
 |k+1=>by
  obtain⟨t,h⟩:=xj p i k;exact⟨_,by rw[<-P5,nQ,h,OS]⟩
theorem xd(p:Prog)(i:Nat): ∀k,∃t,oD p (i+k)=oD p i++t
 |0=>⟨[],by simp⟩
 |k+1=>by
  obtain⟨t,h⟩:=xd p i k;exact⟨_,by rw[<-P5,oD,h,OS]⟩
theorem Ci{p:Prog}{i:Nat}(j:nQ p i=[])(hi:i<p.aQ.length)(h: ¬fw p i=0):dP p=(fw p i,(p.aQ.getD i ci).at_):=by
 obtain⟨t,b⟩:=xj p (i+1) (p.aQ.length-(i+1));have e:i+1+(p.aQ.length-(i+1))=p.aQ.length:=by omega
 rw[e,nQ,j,be h]at b;rw[dP,jI,b];rfl
theorem Ch{p:Prog}{i:Nat}(h0:nQ p p.aQ.length=[])(j:oD p i=[])(hi:i<p.rules.length)(h: ¬(rW p i).1=0):dP p=rW p i:=by
 obtain⟨t,b⟩:=xd p (i+1) (p.rules.length-(i+1));have e:i+1+(p.rules.length-(i+1))=p.rules.length:=by omega
 rw[e,oD,j,be h]at b;rw[dP,jI,b,h0];rfl
theorem EU{p:Prog}(h0:nQ p p.aQ.length=[])(h1:oD p p.rules.length=[]):dP p=fi.z:=by
 rw[dP,jI,h0,h1];rfl
theorem vG{p:Prog}{i:Nat}(h:i<p.aQ.length):aD (fe p (i+1))=bump (aD (fe p i)) (p.aQ.getD i ci).name:=by
 rw[fe,ch h,OM];exact cY _ _
theorem yH(p:Prog)(i:Nat)(s:ak):0<=dt .str (aD (fe p i)) s 0∧dt .str (aD (fe p i)) s 0<=i:=by
 have h:=fz (fe p i) s;have b:(fe p i).length<=i:=by simp[fe];omega
 rw[bt];omega
def Prog.fit(p:Prog):Prop:=p.aQ.length<=1000000000∧p.rules.length<=1000000000∧ ∀r∈p.rules,r.fit
theorem NW(p:Prog)(hb:p.fit):bC prog 63 [ag p.c,.b4 (.func 64) [] [.ptr 0 0]] [ay fi.z.c] (.bf []) [(0,co (ay (dP p).c))] 1:=by
 obtain⟨A,B,y⟩:=hb;refine au ab func63 Z (by decide) ntmps63 Z (by simp) ?_;refine gA Z ?_;refine aK 0 p.aQ.length (OL _) (fun i=>⟨[(1,.b4 (.func 64) [] [.ptr 0 0]),(2,.ptr 1 0),(4,.mp 2),(13,.iv (bw 4 p.aQ Decl.c)),(14,pI p.aQ.length),(15,pI i)],[(0,co (ay fi.z.c)),(1,co (ay p.c)),(2,co (cC (aD (fe p i))))],3⟩) (fun i=>nQ p i=[]) [] Z
  (zW ⟨⟨_,rfl,.of_eq Z⟩,Oq Z,rfl,⟨_,rfl,.of_eq Z⟩,Oq Z,rfl,K1 Z eY Z trivial⟩) fun i C u=>?_
 refine zJ Z Z (fun h1=>?_) fun h1=>?_
 .have h1:i<p.aQ.length:=zN h1;have hl:=yH p i (p.aQ.getD i ci).name;have G:=vG h1;refine gA Z (zp (Ol (p.aQ.getD i ci) i (dt .str (aD (fe p i)) (p.aQ.getD i ci).name 0)) ?_);refine zJ Z Z (fun g=>?_) fun g=>?_
  .have g: ¬fw p i=0:=by
    have g:(!kw (fw p i=0))=is:=g;simpa only[Py,decide_eq_false_iff_not]using g
   rw[Ci u h1 g];refine gA Z (zq [0] (d64 (fw p i,(p.aQ.getD i ci).at_) fi.z) ?_);refine zE Z Z (fun q=>?_) fun q=>?_
   .exact absurd (show is=jp from q) (by decide)
   refine gA Z (zD [] Z (zW (zO ac)))
  .have g:fw p i=0:=by
    have g:(!kw (fw p i=0))=jp:=g;simpa only[Qe,decide_eq_true_eq]using g
   refine gA Z ⟨h1,by rw[nQ,u,am g];rfl,[],zW (zO (zO (hM Z (by rw[G];rfl) Z trivial)))⟩
 have h1:p.aQ.length<=i:=zG h1;have j:i=p.aQ.length:=by omega
 subst j;refine gA Z (zq [] (d50 p (by omega)) ?_);refine gA Z ?_;refine Hv 3 Z ?_;refine aK 0 p.rules.length (OL _) (fun i=>⟨[(1,.b4 (.func 64) [] [.ptr 0 0]),(2,.ptr 1 0),(8,.iv (cA p)),(47,.iv (bw 5 p.rules ax.c)),(48,pI p.rules.length),(49,pI i)],[(0,co (ay fi.z.c)),(1,co (ay p.c))],4⟩) (fun i=>oD p i=[]) [] Z
  (zW (zO (zO trivial))) fun i C x=>?_
 refine zJ Z Z (fun b=>?_) fun b=>?_
 .have b:i<p.rules.length:=zN b;have D:p.rules.getD i ci∈p.rules:=by rw[Ow,Ox b];exact Pg b
  refine gA Z (aB (c65 p (p.rules.getD i ci) ((i:Int)+1) (y _ D)) Z Z Z Z Z Z ?_);refine zJ Z Z (fun g=>?_) fun g=>?_
  .have g: ¬(rW p i).1=0:=by
    have g:(!kw ((rW p i).1=0))=is:=g;simpa only[Py,decide_eq_false_iff_not]using g
   rw[Ch u x b g];refine gA Z (zq [0] (d64 (rW p i) fi.z) ?_);refine zE Z Z (fun q=>?_) fun q=>?_
   .exact absurd (show is=jp from q) (by decide)
   refine gA Z (zD [] Z (zW (zO ac)))
  .have g:(rW p i).1=0:=by
    have g:(!kw ((rW p i).1=0))=jp:=g;simpa only[Qe,decide_eq_true_eq]using g
   refine gA Z ⟨b,by rw[oD,x,am g];rfl,[],zW (zO (zO trivial))⟩
 have b:p.rules.length<=i:=zG b;have j:i=p.rules.length:=by omega
 subst j;rw[EU u x];refine gA Z (zD [] Z (zW (zO ac)))
theorem c24(p:Prog)(hb:p.fit):Pure prog 39 [ag p.c] (ag (dP p).c):=by
 refine ai ab func39 Z (by decide) ntmps39 Z (by simp) Z ?_;refine gA Z (zq [2] (NW p hb) ?_);exact zU Z
end Go.Proofs.YtllkaddcplhklaaGreatDoor
namespace Go.Proofs.YtllkaddcplhklaaGreatDoor
open Go Go.Al Go.Proofs.Tryz Go.ChangeShapes Go.WideShapes Go.RowKit
theorem jN:prog.closure 3=[3,7,8,23,38,39,64,63,82,116,152,117,93,138,179,204,212,180,73,83,118,153,185,186,205,213,218,187,188,206,141,214,219,221,222,223,224,104,227,228,225,226,229,230,231,232,220,154,189,119,155,190,207,191,208,209,216,215,217,192,210,120,135,156,193,121,157,162,122,124,125,123,158,126,127,128,129,159,194,160,90,137,161,130,163,195,164,166,196,165,167,131,132,168,197,198,85,136,169,199,133,62,40,65,66,84,76,103,134,170,176,203,171,200,172,143,144,173,201,202,211,174,175,177,178,67,41,68,86,87,88,69,89,70,91,24,42,43,44,71,72,92,9,10,25,45,74,94,139,181,140,46,48,47,26,49,27,50,75,95,96,142,97,98,145,146,182,99,100,101,102,51,34,60,79,114,61,80,81,115,151,59,19,33,54,55,78,105,113,150,184,58,57,56,35,22,37,13,11,12,28,29,14,30]:=by kernel_rfl
theorem s6:joinedFacts prog 3 f3 (Rows.OpenSpec.upto Rows.baseFullSpec).bare Rows.baseFullUptoRow=is:=by
 have h1:prog.inPlace 3=Rows.baseFullUptoRow.inPlace:=by unfold Program.inPlace;rw[jN];kernel_rfl
 have b:prog.unfollowed 3=is:=by unfold Program.unfollowed;rw[jN];kernel_rfl
 have j:prog.varsNamed 3=Rows.baseFullUptoRow.named:=by unfold Program.varsNamed;rw[jN];kernel_rfl
 have u:prog.recurses 3=is:=by unfold Program.recurses;rw[b];rfl
 unfold joinedFacts;rw[h1,b,j,u];show(_:Bool)=is
 kernel_rfl
end Go.Proofs.YtllkaddcplhklaaGreatDoor
