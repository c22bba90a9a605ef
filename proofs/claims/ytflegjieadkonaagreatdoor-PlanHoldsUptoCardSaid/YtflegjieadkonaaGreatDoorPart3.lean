/-
  What the proofs of the claims need: part 3 of 6.
-/
import Derived.Test.YtflegjieadkonaaGreatDoorPart2
import Derived.Sort.EncStr
import Derived.Sort.Grow
import Derived.Sort.Walk0
import Derived.Shelf.Sort.Plain
import Derived.Shelf.Slices.In.SortNone
import Derived.Shelf.Slices.In.SortNone2
import Derived.WalkKit
import Derived.Lib.Builder
import Derived.Lib.UnsafeStr
import Derived.Laws.Externs
import Derived.Shelf.RegionOpenPlain
import Derived.KernelRfl
import Derived.Test.YtflegjieadkonaaGreatDoorProg
import Derived.Laws.RangeString
import Derived.Shelf.LaysM
import Derived.Shelf.Strconv.Itoa3
import Derived.Lib.ItoaLen
import Derived.Test.YtflegjieadkonaaGreatDoorRows
open And renaming intro→Rm
open Array renaming getD_eq_getD_getElem?→Qt,getElem?_append_left→RB,getElem?_eq_getElem→Rs,getElem?_eq_some_iff→RO,getElem?_modify→Ru,getElem?_setIfInBounds→Rj
open Bool renaming and_eq_true→Q5,and_false→Sd,eq_false_iff→S8,eq_iff_iff→RS,false_and→Si,false_eq_true→SK,false_or→R4,not_eq_false'→Sx,not_eq_true'→Rw,not_false→Tu,not_true→S5,or_eq_true→R9,or_true→SG,true_and→RV,true_or→Tm
open ByteArray renaming empty→Qz,size→TX
open Classical renaming byContradiction→R7
open Int renaming ofNat_eq_zero→T4,toNat_natCast→QW
open List.Nodup renaming length_le_of_subset→Sf
open List.Pairwise renaming nil→Tl
open List renaming all_eq_false→S9,all_eq_true→Q7,any_eq_false→RD,any_eq_true→RR,append_assoc→QU,append_nil→Ro,cons_append→Se,filterMap_append→TQ,filterMap_cons→T1,filter_eq_self→T2,filter_sublist→Ts,find?_eq_none→Sk,findIdx?_eq_none_iff→Tw,findIdx?_eq_some_iff_getElem→Ti,flatMap_cons→Rl,foldl_append→Sp,foldl_cons→Rc,getD_cons_succ→Sg,getD_eq_getElem?_getD→Qx,getElem?_eq_getElem→Qy,getElem?_eq_some_iff→Qw,getElem?_map→QC,getElem?_of_mem→RE,getElem?_take→Rt,getElem_inj→Tp,getElem_map→Tq,getElem_mem→Rz,le_antisymm→TH,length_append→Qv,length_cons→Rf,length_filter_le→RP,length_map→Rv,length_nil→R0,length_pos_iff→SD,length_singleton→Rp,length_take→RW,map_append→QO,map_cons→Q4,map_nil→RL,mem_append→QK,mem_append_left→Q8,mem_append_right→RA,mem_cons→QY,mem_cons_of_mem→QR,mem_cons_self→Q3,mem_filter→Rn,mem_iff_getElem→RG,mem_iff_getElem?→S7,mem_map→RH,mem_of_getElem?→Rk,mem_range→R3,mem_singleton→QJ,nil_append→Sa,nodup_append→Sh,nodup_cons→RT,nodup_nil→RF,not_lt→Ub,not_mem_nil→To,pairwise_cons→R8,range→Rh,sum_cons→Sz,take_append_drop→S6,take_length→Sv,take_of_length_le→QM,take_succ_cons→RY
open Nat renaming add_assoc→Sm,add_zero→S2,beq→Q6,ble→SE,ble_eq_true_of_le→Ry,blt→QZ,le_add_left→Tf,le_of_ble_eq_true→Qs,le_refl→QH,le_succ→Tr,le_trans→Rr,lt_or_ge→RN,lt_succ_of_lt→Sb,lt_succ_self→RX,min_le_right→T8,mul_one→TB,sub_zero→TL,zero_add→Q9,zero_le→QN
open Option renaming bind_some→TG,getD_some→R2,map_eq_some_iff→QF,map_some→RZ
open Option.some renaming injEq→Qu
set_option maxRecDepth 100000
open Bool renaming false→lc,true→kw
open Decidable renaming decide→li
open Inhabited renaming default→co
open Option renaming none→jp,some→io
open Array renaming range→Tz
open Array renaming getElem?_map→S3
open Nat renaming mul_le_mul_right→Rb
open Nat renaming add_mul→RJ
open List renaming getElem?_append_right→QX
open Array renaming getElem?_toList→RI
namespace Go.Proofs.YtflegjieadkonaaGreatDoor
open Go Go.Al Go.Proofs.Tryz
def fo(may:Expr->Bool)(occ:List ae)(l:Lit):ae×Bool:=
 if¬l.kind=3∨ ¬l.op=1 then(Qz,lc)
 else if l.left.kind=1∧aJ occ l.left.var=lc∧may l.right=kw then(l.left.var,kw)
 else if l.right.kind=1∧aJ occ l.right.var=lc∧may l.left=kw then(l.right.var,kw)
 else(Qz,lc)
theorem bO{occ:List ae}{s:ae}:aJ occ s=!li (bG .str (aq occ) s 0=0):=by
 rw[bf];by_cases h:s∈occ
 .have:=uz.2 h;rw[aI.2 h];simp;omega
 .rw[bN.2 h,ry.2 h];rfl
def cm(occ:List ae)(e:Expr):Bool:=li (e.kind=2)||(li (e.kind=1)&&aJ occ e.var)
theorem mF{a b:Bool}(h:a=b):pB a=pB b:=by rw[h]
theorem d76(occ:List ae)(e:Expr)(hb:e.size<=1000000000000):bL prog 127 [ag e.c,.ptr 1 0] [bI (aq occ),.cells [.mp 0]] (pB (cm occ e)) [(0,io (bI (aq occ))),(1,io (.cells [.mp 0]))] 2:=by
 have b:=bf occ e.var;have d:=bO (occ:=occ) (s:=e.var);refine aw ab func127 D (by decide) ntmps127 D (by simp) ?_
 repeat' (first
  |(refine gA D (zI (fun _=>?_) (fun _=>?_)))
  |fail)
 all_goals first
  |(refine gA D (en [] (.inr D) D (zM ⟨.of_eq (mF (a:=kw) ?_),rfl,ac⟩ (zC (zO ac))));simp_all [cm];done)
  |(refine gA D (en [] (.inr D) D (zM ⟨.of_eq (mF (a:=lc) ?_),rfl,ac⟩ (zC (zO ac))));simp_all [cm];done)
  |(refine gA D (en [] (.inr D) D (zM ⟨.of_eq (mF (a:=li (bG .str (aq occ) e.var 0>0)) ?_),rfl,ac⟩ (zC (zO ac))));rw[cm,d,b];simp_all;by_cases j:oq occ e.var=0<;>simp[j]<;>omega)
theorem c77(a:eM):Pure prog 128 [ag a.c] (pB lc):=by
 refine ar ab func128 D (by decide) ntmps128 D (by simp) D ?_;exact zU D
theorem P4(a:eM):Pure prog 229 [ag a.c] (pB lc):=by
 refine ar ab func229 D (by decide) ntmps229 D (by simp) D ?_;exact zU D
def iT(out occ:List ae)(a:eM):Bool:=(aR a).all fun x=>li (x=a.var)||(!aJ out x||aJ occ x)
theorem d126(r:ai)(occ:List ae)(a:eM)(hb:a.size<=1000000000000):bL prog 228 [ag a.c,.ptr 1 0,.ptr 2 0] [bI (aq occ),.cells [.iv (cv r)],.cells [.mp 0]] (pB (iT (ax r) occ a)) [(0,io (bI (aq occ))),(1,io (.cells [.iv (cv r)])),(2,io (.cells [.mp 0]))] 3:=by
 refine aw ab func228 D (by decide) ntmps228 D (by simp) ?_;refine gA D (zq [] (d127 a hb) ?_);refine gA D ?_;refine fZ (aq (aR a)) (fun u=>⟨[(1,.ptr 1 0),(2,.ptr 2 0),(3,.ptr 3 0),(8,.ptr 5 0)],[(0,io (bI (aq occ))),(1,io (.cells [.iv (cv r)])),(2,io (.cells [.mp 0])),(3,io (au a.c)),(5,io (.bQ .str wo (aq (aR a)) u jp))],6⟩) (fun u=> ∀j∈u,∀x,(aq (aR a))[j]? =io x->(li (x.1=a.var)||(!aJ (ax r) x.1||aJ occ x.1))=kw) [] (by simp)
  (zW (zC ⟨⟨_,rfl,.of_eq D⟩,Qs D,rfl,⟨_,rfl,.of_eq D⟩,Qs D,rfl,zK (hI D D (.inl D) D trivial)⟩)) fun u I=>?_
 refine mu D ac (ei D D D D D (by decide) (fun b=>?_) fun j x d A=>?_)
 .refine gA D (zD [] D (zM ⟨.of_eq (mF (a:=kw) (Q7.2 fun t J=>all_keys (p:=fun t=>(li (t=a.var)||(!aJ (ax r) t||aJ occ t))=kw) b I t J).symm),rfl,ac⟩ (zC ⟨⟨_,rfl,.of_eq D⟩,Qs D,rfl,⟨_,rfl,.of_eq D⟩,Qs D,rfl,ac⟩)))
 .have more:(li (x.1=a.var)||(!aJ (ax r) x.1||aJ occ x.1))=kw-> ∀i∈j::u,∀x,(aq (aR a))[i]? =io x->(li (x.1=a.var)||(!aJ (ax r) x.1||aJ occ x.1))=kw:=fun h i hi y B=>by
   rcases QY.1 hi with rfl|hi
   .rw[d]at B;cases B;exact h
   .exact I i hi y B
  have F:=bO (occ:=ax r) (s:=x.1);have G:=bO (occ:=occ) (s:=x.1);have S:=bf (ax r) x.1;have Y:=bf occ x.1;refine zJ D D (fun g1=>?_) fun g1=>?_
  .have g1:li (x.1=a.var)=lc:=by simpa using g1
   refine zJ D D (fun g2=>?_) fun g2=>?_
   .have g2:aJ (ax r) x.1=kw:=by
     have:=zT g2;rw[F];simp;omega
    refine zJ D D (fun g3=>?_) fun g3=>?_
    .have g3:aJ occ x.1=lc:=by rw[G,g3];rfl
     refine gA D (zD [] D (zM ⟨.of_eq (mF (a:=lc) (S9.2 ⟨x.1,qh d,by rw[g1,g2,g3];simp⟩).symm),rfl,ac⟩ (zC ⟨⟨_,rfl,.of_eq D⟩,Qs D,rfl,⟨_,rfl,.of_eq D⟩,Qs D,rfl,ac⟩)))
    .have g3:aJ occ x.1=kw:=by rw[G,g3];rfl
     refine gA D ⟨j,x,d,A,more (by rw[g3];simp),[],zW (zC ⟨⟨_,rfl,.of_eq D⟩,Qs D,rfl,⟨_,rfl,.of_eq D⟩,Qs D,rfl,zK (hI D D (.inr D) D ac)⟩)⟩
   .have g2:aJ (ax r) x.1=lc:=by
     have:=zF g2;rw[F];simp;omega
    refine gA D ⟨j,x,d,A,more (by rw[g2];simp),[],zW (zC ⟨⟨_,rfl,.of_eq D⟩,Qs D,rfl,⟨_,rfl,.of_eq D⟩,Qs D,rfl,zK (hI D D (.inr D) D ac)⟩)⟩
  .have g1:li (x.1=a.var)=kw:=by simpa using g1
   refine gA D ⟨j,x,d,A,more (by rw[g1];simp),[],zW (zC ⟨⟨_,rfl,.of_eq D⟩,Qs D,rfl,⟨_,rfl,.of_eq D⟩,Qs D,rfl,zK (hI D D (.inr D) D ac)⟩)⟩
def kY(may:Expr->Bool)(more:eM->Bool)(occ:List ae)(l:Lit):Option ae:=
 if(fo may occ l).2=kw then io (fo may occ l).1 else if l.kind=4∧aJ occ l.ba=lc∧more l.agg=kw then io l.ba else jp
def bS(may:Expr->Bool)(more:eM->Bool)(occ:List ae):List Lit->Option ae
 | []=>jp
 |l::r=>match kY may more occ l with
  |some v=>io v
  |none=>bS may more occ r
def c8(may:List ae->Expr->Bool)(more:List ae->eM->Bool)(body:List Lit):Nat->List ae->List ae
 |0,occ=>occ
 |n+1,occ=>match bS (may occ) (more occ) occ body with
  |some v=>c8 may more body n (occ++ [v])
  |none=>occ
def bj(l:Lit):List ae:=if l.kind=1 then bA l.atom else[]
def bX(may:List ae->Expr->Bool)(more:List ae->eM->Bool)(body:List Lit)(occ:List ae):List ae:=c8 may more body (3*body.length+1) (occ++body.flatMap bj)
theorem ep{may:List ae->Expr->Bool}{more:List ae->eM->Bool}{body:List Lit}{n:Nat}{occ:List ae}{v:ae}(h:bS (may occ) (more occ) occ body=io v):c8 may more body (n+1) occ=c8 may more body n (occ++ [v]):=by
 simp only[c8,h]
theorem ew{may:List ae->Expr->Bool}{more:List ae->eM->Bool}{body:List Lit}{n:Nat}{occ:List ae}(h:bS (may occ) (more occ) occ body=jp):c8 may more body (n+1) occ=occ:=by
 simp only[c8,h]
theorem kN{may:Expr->Bool}{more:eM->Bool}{occ:List ae}: ∀{l m:List Lit},bS may more occ l=jp->bS may more occ (l++m)=bS may more occ m
 | [],_,_=>rfl
 |x::r,m,h=>by
  simp only[bS]at h;split at h
  .cases h
  .rename_i b;simp only[Se,bS,b];exact kN h
theorem dD{may:Expr->Bool}{more:eM->Bool}{occ:List ae}{l:List Lit}{i:Nat}(h:bS may more occ (l.take i)=jp)(hi:i<l.length)(b:kY may more occ (l.getD i co)=jp):bS may more occ (l.take (i+1))=jp:=by
 rw[cC hi,kN h];simp only[bS,b]
theorem po{may:Expr->Bool}{more:eM->Bool}{occ:List ae}{l:List Lit}{i:Nat}{v:ae}(h:bS may more occ (l.take i)=jp)(hi:i<l.length)(b:kY may more occ (l.getD i co)=io v):bS may more occ l=io v:=by
 have e:l=l.take i++(l.getD i co::l.drop (i+1)):=by
  rw[Qx,Qy hi,R2,List.getElem_cons_drop,S6]
 rw[e,kN h];simp only[bS,b]
theorem tZ{may:Expr->Bool}{more:eM->Bool}{occ:List ae}{l:Lit}{v:ae}(h:kY may more occ l=io v):v∈ [l.left.var,l.right.var,l.ba]∧v∉occ:=by
 unfold kY at h;split at h
 .rename_i b;simp only[Qu]at h;subst h;unfold fo at b ⊢;split at b
  .cases b
  .rename_i u;rw[be u];split at b
   .rename_i d;rw[am d];exact⟨by simp,bN.1 d.2.1⟩
   .rename_i d;rw[be d];split at b
    .rename_i j;rw[am j];exact⟨by simp,bN.1 j.2.1⟩
    .cases b
 .split at h
  .rename_i d;simp only[Qu]at h;subst h;exact⟨by simp,bN.1 d.2.1⟩
  .cases h
theorem jR{may:Expr->Bool}{more:eM->Bool}{occ:List ae}{v:ae}: ∀{l:List Lit},bS may more occ l=io v->v∈bH l∧v∉occ
 | [],h=>by cases h
 |x::r,h=>by
  simp only[bS]at h;split at h
  .rename_i w j;simp only[Qu]at h;subst h;obtain⟨b,d⟩:=tZ j;exact⟨wz Q3 b,d⟩
  .obtain⟨b,d⟩:=jR h;refine⟨?_,d⟩;simp only[bH,Rl,QK]at b ⊢;exact .inr b
theorem fa: ∀l:List Lit,(l.flatMap bj).length<=Lit.az l
 | []=>by simp
 |e::r=>by
  have b:=fa r;have d:(bj e).length<=e.size:=by
   have:=fu e.atom;have:=e.size_eq;unfold bj;split
   .omega
   .simp
  rw[Rl,Qv];simp only[Lit.az];omega
theorem OX(occ:List ae)(l:Lit)(hb:l.size<=100000000000):bL prog 172 [ag l.c,.cK (.func 227) [.mp 0] [],.mp 0] [bI (aq occ)] (.bB [pS (fo (aQ occ) occ l).1,pB (fo (aQ occ) occ l).2]) [(0,io (bI (aq occ)))] 1:=by
 have y:=l.size_eq;have u:=bf occ l.left.var;have x:=bf occ l.right.var;refine aw ab func172 D (by decide) ntmps172 D (by simp) ?_;refine zE D D (fun b=>?_) fun b=>?_
 .have b: ¬l.kind=3:=by simpa using b
  refine gA D (zD [] D (zM ⟨.of_eq (oN (a:=(Qz,lc)) (by rw[fo,am (.inl b)])),rfl,ac⟩ (zC ac)))
 have b:l.kind=3:=by simpa using b
 refine zJ D D (fun d=>?_) fun d=>?_
 .have d: ¬l.op=1:=by simpa using d
  refine gA D (zD [] D (zM ⟨.of_eq (oN (a:=(Qz,lc)) (by rw[fo,am (.inr d)])),rfl,ac⟩ (zC ac)))
 have d:l.op=1:=by simpa using d
 have j:fo (aQ occ) occ l=if l.left.kind=1∧aJ occ l.left.var=lc∧(aQ occ) l.right=kw then(l.left.var,kw) else if l.right.kind=1∧aJ occ l.right.var=lc∧(aQ occ) l.left=kw then(l.right.var,kw) else(Qz,lc):=by
  rw[fo,be (by simp[b,d])]
 repeat' (first
  |(refine gA D (zI (fun _=>?_) (fun _=>?_)))
  |(refine gA D (bc [0] (d125 occ l.left (by omega)) D D D D D D D D ?_))
  |(refine gA D (bc [0] (d125 occ l.right (by omega)) D D D D D D D D ?_))
  |fail)
 all_goals first
  |(refine gA D (en [] (.inr D) D (zM ⟨.of_eq (oN (a:=(Qz,lc)) ?_),rfl,ac⟩ (zC ac)));rw[j];simp only[bO] at*;simp_all;done)
  |(refine gA D (en [] (.inr D) D (zM ⟨.of_eq (oN (a:=(l.left.var,kw)) ?_),rfl,ac⟩ (zC ac)));rw[j];simp only[bO] at*;simp_all;done)
  |(refine gA D (en [] (.inr D) D (zM ⟨.of_eq (oN (a:=(l.right.var,kw)) ?_),rfl,ac⟩ (zC ac)));rw[j];simp only[bO] at*;simp_all;done)
  |(exfalso;simp_all;done)
theorem PO(occ:List ae)(body:List Lit)(hb:occ.length+8*Lit.az body<=100000000000):bL prog 126 [.iv (lits body),.mp 0,.cK (.func 227) [.mp 0] [],.cK (.func 229) [] []] [bI (aq occ)] (.bB []) [(0,io (bI (aq (bX (fun occ=>aQ occ) (fun occ=>fun _=>lc) body occ))))] 1:=by
 have f0:=Lit.aA body;have k0:=fa body;have g0:=jr body;have j0:=p6 (bH body) (occ++body.flatMap bj);refine aw ab func126 D (by decide) ntmps126 D (by simp) ?_;refine gA D ?_;refine aD 0 body.length (QN _) (fun i=>⟨[(0,.iv (lits body)),(1,.mp 0),(2,.cK (.func 227) [.mp 0] []),(3,.cK (.func 229) [] []),(14,.iv (lits body)),(15,pI body.length),(16,pI i)],[(0,io (bI (aq (occ++(body.take i).flatMap bj))))],1⟩) (fun _=>True) [] ac
  (zW (hM D (by simp) D trivial)) fun i hi _=>?_
 refine zJ D D (fun j=>?_) fun j=>?_
 .have j:=bv j;have I:=bn (f:=bj) j;have hn:=Lit.b4 body i j;have hv:=fa (body.take i);have n0:=(body.getD i co).size_eq;refine zJ D D (fun u=>?_) fun u=>?_
  .have u:(body.getD i co).kind=1:=by simpa using u
   rw[show bj (body.getD i co)=_ from am u]at I;refine gA D (zq [0] (d88 (occ++(body.take i).flatMap bj) (body.getD i co).atom (by rw[Qv];omega)) ?_);refine gA D ⟨j,ac,[],zW (hM D (by rw[I,QU]) D ac)⟩
  .have u: ¬(body.getD i co).kind=1:=by simpa using u
   rw[show bj (body.getD i co)=_ from be u,Ro]at I;refine gA D ⟨j,ac,[],zW (hM D (by rw[I]) D ac)⟩
 have j:=ci j;have e0:body.take i=body:=QM j;rw[e0];refine gA D ?_;refine mZ (σ:={x:List ae×Nat//bX (fun occ=>aQ occ) (fun occ=>fun _=>lc) body occ=c8 (fun occ=>aQ occ) (fun occ=>fun _=>lc) body (x.2+1) x.1∧cA (bH body) x.1<=x.2∧x.1.length+cA (bH body) x.1<=(occ++body.flatMap bj).length+cA (bH body) (occ++body.flatMap bj)})
  (fun x=>⟨[(0,.iv (lits body)),(1,.mp 0),(2,.cK (.func 227) [.mp 0] []),(3,.cK (.func 229) [] [])],[(0,io (bI (aq x.1.1)))],1⟩) (fun x=>cA (bH body) x.1.1)
  ⟨(occ++body.flatMap bj,3*body.length),rfl,by dsimp only;omega,QH _⟩ [] (zW (zC trivial)) ?_
 rintro⟨⟨ok,f⟩,hx1,hx2,hx3⟩;dsimp only at hx1 hx2 hx3 ⊢;rw[Qv]at hx3;refine gA D ?_;refine aD 0 body.length (QN _) (fun i=>⟨[(0,.iv (lits body)),(1,.mp 0),(2,.cK (.func 227) [.mp 0] []),(3,.cK (.func 229) [] []),(28,.iv (lits body)),(29,pI body.length),(30,pI i)],[(0,io (bI (aq ok)))],1⟩) (fun i=>bS ((fun occ=>aQ occ) ok) ((fun occ=>fun _=>lc) ok) ok (body.take i)=jp) [] D
  (zW (zC trivial)) fun i hi F=>?_
 refine zJ D D (fun b=>?_) fun b=>?_
 .have b:=bv b;have m0:=Lit.aV body i b;have d0:=(body.getD i co).j1;have d: ∀v,kY ((fun occ=>aQ occ) ok) ((fun occ=>fun _=>lc) ok) ok (body.getD i co)=io v->bX (fun occ=>aQ occ) (fun occ=>fun _=>lc) body occ=c8 (fun occ=>aQ occ) (fun occ=>fun _=>lc) body (f-1+1) (ok++ [v])∧cA (bH body) (ok++ [v])<=f-1∧
    (ok++ [v]).length+cA (bH body) (ok++ [v])<=(occ++body.flatMap bj).length+cA (bH body) (occ++body.flatMap bj)∧cA (bH body) (ok++ [v])<cA (bH body) ok:=by
   intro v hv;have hf:=po F b hv;obtain⟨g1,g2⟩:=jR hf;have i0:=p5 g1 g2;have c0:cA (bH body) (ok++ [v])=cA (bH body) (dt ok v):=by
    unfold cA;congr 2
    funext x
    congr 1;rw[RS,aI,aI,cT,QK,QJ]
   have S:f-1+1=f:=by omega
   refine⟨?_,by omega,?_,by omega⟩
   .rw[hx1,ep hf,S]
   .rw[Qv,Qv,Rp];omega
  have a0:=bf ok (fo (aQ ok) ok (body.getD i co)).1;have Y:=dE ok (fo (aQ ok) ok (body.getD i co)).1;have b0:=bf ok (body.getD i co).ba;have Z:=dE ok (body.getD i co).ba;refine gA D (zq [0] (OX ok (body.getD i co) (by omega)) ?_);refine zJ D D (fun B=>?_) fun B=>?_
  .obtain⟨g1,g2,g3,g4⟩:=d _ (am B);refine gA D ⟨⟨(_,f-1),g1,g2,g3⟩,[],g4,zW (hM D (by dsimp only;rw[bZ];rfl) D ac)⟩
  .refine zJ D D (fun y=>?_) fun y=>?_
   .have y:(body.getD i co).kind=4:=by simpa using y
    refine zJ D D (fun A=>?_) fun A=>?_
    .have A:aJ ok (body.getD i co).ba=lc:=by rw[bO];simpa using A
     refine gA D (zp (P4 (body.getD i co).agg) ?_);refine zJ D D (fun J=>?_) fun J=>?_
     .obtain⟨g1,g2,g3,g4⟩:=d _ ((be (by rw[B];simp)).trans (am ⟨y,A,J⟩));refine gA D ⟨⟨(_,f-1),g1,g2,g3⟩,[],g4,zW (hM D (by dsimp only;rw[bZ];rfl) D ac)⟩
     .refine gA D ?_;exact⟨b,dD F b ((be (by rw[B];simp)).trans (be (fun h=>nomatch (h.2.2.symm.trans J)))),[],zW (zC ac)⟩
    .have A:aJ ok (body.getD i co).ba=kw:=by rw[bO];simpa using A
     refine gA D ⟨b,dD F b ((be (by rw[B];simp)).trans (be (by rw[A];simp))),[],zW (zC ac)⟩
   .have y: ¬(body.getD i co).kind=4:=by simpa using y
    refine gA D ⟨b,dD F b ((be (by rw[B];simp)).trans (be (fun h=>y h.1))),[],zW (zC ac)⟩
 .have b:=ci b;rw[QM b]at F;have G:bX (fun occ=>aQ occ) (fun occ=>fun _=>lc) body occ=ok:=by rw[hx1,ew F]
  refine gA D (zD [] D (zW (hM D (by rw[G]) D ac)))
theorem OW(occ:List ae)(l:Lit)(hb:l.size<=100000000000):bL prog 172 [ag l.c,.cK (.func 127) [] [.ptr 1 0],.mp 0] [bI (aq occ),.cells [.mp 0]] (.bB [pS (fo (cm occ) occ l).1,pB (fo (cm occ) occ l).2]) [(0,io (bI (aq occ))),(1,io (.cells [.mp 0]))] 2:=by
 have y:=l.size_eq;have u:=bf occ l.left.var;have x:=bf occ l.right.var;refine aw ab func172 D (by decide) ntmps172 D (by simp) ?_;refine zE D D (fun b=>?_) fun b=>?_
 .have b: ¬l.kind=3:=by simpa using b
  refine gA D (zD [] D (zM ⟨.of_eq (oN (a:=(Qz,lc)) (by rw[fo,am (.inl b)])),rfl,ac⟩ (zC (zO ac))))
 have b:l.kind=3:=by simpa using b
 refine zJ D D (fun d=>?_) fun d=>?_
 .have d: ¬l.op=1:=by simpa using d
  refine gA D (zD [] D (zM ⟨.of_eq (oN (a:=(Qz,lc)) (by rw[fo,am (.inr d)])),rfl,ac⟩ (zC (zO ac))))
 have d:l.op=1:=by simpa using d
 have j:fo (cm occ) occ l=if l.left.kind=1∧aJ occ l.left.var=lc∧(cm occ) l.right=kw then(l.left.var,kw) else if l.right.kind=1∧aJ occ l.right.var=lc∧(cm occ) l.left=kw then(l.right.var,kw) else(Qz,lc):=by
  rw[fo,be (by simp[b,d])]
 repeat' (first
  |(refine gA D (zI (fun _=>?_) (fun _=>?_)))
  |(refine gA D (bc [0,1] (d76 occ l.left (by omega)) D D D D D D D D ?_))
  |(refine gA D (bc [0,1] (d76 occ l.right (by omega)) D D D D D D D D ?_))
  |fail)
 all_goals first
  |(refine gA D (en [] (.inr D) D (zM ⟨.of_eq (oN (a:=(Qz,lc)) ?_),rfl,ac⟩ (zC (zO ac))));rw[j];simp only[bO] at*;simp_all;done)
  |(refine gA D (en [] (.inr D) D (zM ⟨.of_eq (oN (a:=(l.left.var,kw)) ?_),rfl,ac⟩ (zC (zO ac))));rw[j];simp only[bO] at*;simp_all;done)
  |(refine gA D (en [] (.inr D) D (zM ⟨.of_eq (oN (a:=(l.right.var,kw)) ?_),rfl,ac⟩ (zC (zO ac))));rw[j];simp only[bO] at*;simp_all;done)
  |(exfalso;simp_all;done)
theorem PN(occ:List ae)(body:List Lit)(hb:occ.length+8*Lit.az body<=100000000000):bL prog 126 [.iv (lits body),.mp 0,.cK (.func 127) [] [.ptr 1 0],.cK (.func 128) [] []] [bI (aq occ),.cells [.mp 0]] (.bB []) [(0,io (bI (aq (bX (fun occ=>cm occ) (fun occ=>fun _=>lc) body occ)))),(1,io (.cells [.mp 0]))] 2:=by
 have f0:=Lit.aA body;have k0:=fa body;have g0:=jr body;have j0:=p6 (bH body) (occ++body.flatMap bj);refine aw ab func126 D (by decide) ntmps126 D (by simp) ?_;refine gA D ?_;refine aD 0 body.length (QN _) (fun i=>⟨[(0,.iv (lits body)),(1,.mp 0),(2,.cK (.func 127) [] [.ptr 1 0]),(3,.cK (.func 128) [] []),(14,.iv (lits body)),(15,pI body.length),(16,pI i)],[(0,io (bI (aq (occ++(body.take i).flatMap bj)))),(1,io (.cells [.mp 0]))],2⟩) (fun _=>True) [] ac
  (zW (hM D (by simp) D (zO trivial))) fun i hi _=>?_
 refine zJ D D (fun j=>?_) fun j=>?_
 .have j:=bv j;have I:=bn (f:=bj) j;have hn:=Lit.b4 body i j;have hv:=fa (body.take i);have n0:=(body.getD i co).size_eq;refine zJ D D (fun u=>?_) fun u=>?_
  .have u:(body.getD i co).kind=1:=by simpa using u
   rw[show bj (body.getD i co)=_ from am u]at I;refine gA D (zq [0] (d88 (occ++(body.take i).flatMap bj) (body.getD i co).atom (by rw[Qv];omega)) ?_);refine gA D ⟨j,ac,[],zW (hM D (by rw[I,QU]) D (zO ac))⟩
  .have u: ¬(body.getD i co).kind=1:=by simpa using u
   rw[show bj (body.getD i co)=_ from be u,Ro]at I;refine gA D ⟨j,ac,[],zW (hM D (by rw[I]) D (zO ac))⟩
 have j:=ci j;have e0:body.take i=body:=QM j;rw[e0];refine gA D ?_;refine mZ (σ:={x:List ae×Nat//bX (fun occ=>cm occ) (fun occ=>fun _=>lc) body occ=c8 (fun occ=>cm occ) (fun occ=>fun _=>lc) body (x.2+1) x.1∧cA (bH body) x.1<=x.2∧x.1.length+cA (bH body) x.1<=(occ++body.flatMap bj).length+cA (bH body) (occ++body.flatMap bj)})
  (fun x=>⟨[(0,.iv (lits body)),(1,.mp 0),(2,.cK (.func 127) [] [.ptr 1 0]),(3,.cK (.func 128) [] [])],[(0,io (bI (aq x.1.1))),(1,io (.cells [.mp 0]))],2⟩) (fun x=>cA (bH body) x.1.1)
  ⟨(occ++body.flatMap bj,3*body.length),rfl,by dsimp only;omega,QH _⟩ [] (zW (zC (zO trivial))) ?_
 rintro⟨⟨ok,f⟩,hx1,hx2,hx3⟩;dsimp only at hx1 hx2 hx3 ⊢;rw[Qv]at hx3;refine gA D ?_;refine aD 0 body.length (QN _) (fun i=>⟨[(0,.iv (lits body)),(1,.mp 0),(2,.cK (.func 127) [] [.ptr 1 0]),(3,.cK (.func 128) [] []),(28,.iv (lits body)),(29,pI body.length),(30,pI i)],[(0,io (bI (aq ok))),(1,io (.cells [.mp 0]))],2⟩) (fun i=>bS ((fun occ=>cm occ) ok) ((fun occ=>fun _=>lc) ok) ok (body.take i)=jp) [] D
  (zW (zC (zO trivial))) fun i hi F=>?_
 refine zJ D D (fun b=>?_) fun b=>?_
 .have b:=bv b;have m0:=Lit.aV body i b;have d0:=(body.getD i co).j1;have d: ∀v,kY ((fun occ=>cm occ) ok) ((fun occ=>fun _=>lc) ok) ok (body.getD i co)=io v->bX (fun occ=>cm occ) (fun occ=>fun _=>lc) body occ=c8 (fun occ=>cm occ) (fun occ=>fun _=>lc) body (f-1+1) (ok++ [v])∧cA (bH body) (ok++ [v])<=f-1∧
    (ok++ [v]).length+cA (bH body) (ok++ [v])<=(occ++body.flatMap bj).length+cA (bH body) (occ++body.flatMap bj)∧cA (bH body) (ok++ [v])<cA (bH body) ok:=by
   intro v hv;have hf:=po F b hv;obtain⟨g1,g2⟩:=jR hf;have i0:=p5 g1 g2;have c0:cA (bH body) (ok++ [v])=cA (bH body) (dt ok v):=by
    unfold cA;congr 2
    funext x
    congr 1;rw[RS,aI,aI,cT,QK,QJ]
   have S:f-1+1=f:=by omega
   refine⟨?_,by omega,?_,by omega⟩
   .rw[hx1,ep hf,S]
   .rw[Qv,Qv,Rp];omega
  have a0:=bf ok (fo (cm ok) ok (body.getD i co)).1;have Y:=dE ok (fo (cm ok) ok (body.getD i co)).1;have b0:=bf ok (body.getD i co).ba;have Z:=dE ok (body.getD i co).ba;refine gA D (zq [0,1] (OW ok (body.getD i co) (by omega)) ?_);refine zJ D D (fun B=>?_) fun B=>?_
  .obtain⟨g1,g2,g3,g4⟩:=d _ (am B);refine gA D ⟨⟨(_,f-1),g1,g2,g3⟩,[],g4,zW (hM D (by dsimp only;rw[bZ];rfl) D (zO ac))⟩
  .refine zJ D D (fun y=>?_) fun y=>?_
   .have y:(body.getD i co).kind=4:=by simpa using y
    refine zJ D D (fun A=>?_) fun A=>?_
    .have A:aJ ok (body.getD i co).ba=lc:=by rw[bO];simpa using A
     refine gA D (zp (c77 (body.getD i co).agg) ?_);refine zJ D D (fun J=>?_) fun J=>?_
     .obtain⟨g1,g2,g3,g4⟩:=d _ ((be (by rw[B];simp)).trans (am ⟨y,A,J⟩));refine gA D ⟨⟨(_,f-1),g1,g2,g3⟩,[],g4,zW (hM D (by dsimp only;rw[bZ];rfl) D (zO ac))⟩
     .refine gA D ?_;exact⟨b,dD F b ((be (by rw[B];simp)).trans (be (fun h=>nomatch (h.2.2.symm.trans J)))),[],zW (zC (zO ac))⟩
    .have A:aJ ok (body.getD i co).ba=kw:=by rw[bO];simpa using A
     refine gA D ⟨b,dD F b ((be (by rw[B];simp)).trans (be (by rw[A];simp))),[],zW (zC (zO ac))⟩
   .have y: ¬(body.getD i co).kind=4:=by simpa using y
    refine gA D ⟨b,dD F b ((be (by rw[B];simp)).trans (be (fun h=>y h.1))),[],zW (zC (zO ac))⟩
 .have b:=ci b;rw[QM b]at F;have G:bX (fun occ=>cm occ) (fun occ=>fun _=>lc) body occ=ok:=by rw[hx1,ew F]
  refine gA D (zD [] D (zW (hM D (by rw[G]) D (zO ac))))
theorem OV(r:ai)(occ:List ae)(l:Lit)(hb:l.size<=100000000000):bL prog 172 [ag l.c,.cK (.func 227) [.mp 0] [],.mp 0] [bI (aq occ),.cells [.iv (cv r)],.cells [.mp 0]] (.bB [pS (fo (aQ occ) occ l).1,pB (fo (aQ occ) occ l).2]) [(0,io (bI (aq occ))),(1,io (.cells [.iv (cv r)])),(2,io (.cells [.mp 0]))] 3:=by
 have y:=l.size_eq;have u:=bf occ l.left.var;have x:=bf occ l.right.var;refine aw ab func172 D (by decide) ntmps172 D (by simp) ?_;refine zE D D (fun b=>?_) fun b=>?_
 .have b: ¬l.kind=3:=by simpa using b
  refine gA D (zD [] D (zM ⟨.of_eq (oN (a:=(Qz,lc)) (by rw[fo,am (.inl b)])),rfl,ac⟩ (zC ⟨⟨_,rfl,.of_eq D⟩,Qs D,rfl,⟨_,rfl,.of_eq D⟩,Qs D,rfl,ac⟩)))
 have b:l.kind=3:=by simpa using b
 refine zJ D D (fun d=>?_) fun d=>?_
 .have d: ¬l.op=1:=by simpa using d
  refine gA D (zD [] D (zM ⟨.of_eq (oN (a:=(Qz,lc)) (by rw[fo,am (.inr d)])),rfl,ac⟩ (zC ⟨⟨_,rfl,.of_eq D⟩,Qs D,rfl,⟨_,rfl,.of_eq D⟩,Qs D,rfl,ac⟩)))
 have d:l.op=1:=by simpa using d
 have j:fo (aQ occ) occ l=if l.left.kind=1∧aJ occ l.left.var=lc∧(aQ occ) l.right=kw then(l.left.var,kw) else if l.right.kind=1∧aJ occ l.right.var=lc∧(aQ occ) l.left=kw then(l.right.var,kw) else(Qz,lc):=by
  rw[fo,be (by simp[b,d])]
 repeat' (first
  |(refine gA D (zI (fun _=>?_) (fun _=>?_)))
  |(refine gA D (bc [0] (d125 occ l.left (by omega)) D D D D D D D D ?_))
  |(refine gA D (bc [0] (d125 occ l.right (by omega)) D D D D D D D D ?_))
  |fail)
 all_goals first
  |(refine gA D (en [] (.inr D) D (zM ⟨.of_eq (oN (a:=(Qz,lc)) ?_),rfl,ac⟩ (zC ⟨⟨_,rfl,.of_eq D⟩,Qs D,rfl,⟨_,rfl,.of_eq D⟩,Qs D,rfl,ac⟩)));rw[j];simp only[bO] at*;simp_all;done)
  |(refine gA D (en [] (.inr D) D (zM ⟨.of_eq (oN (a:=(l.left.var,kw)) ?_),rfl,ac⟩ (zC ⟨⟨_,rfl,.of_eq D⟩,Qs D,rfl,⟨_,rfl,.of_eq D⟩,Qs D,rfl,ac⟩)));rw[j];simp only[bO] at*;simp_all;done)
  |(refine gA D (en [] (.inr D) D (zM ⟨.of_eq (oN (a:=(l.right.var,kw)) ?_),rfl,ac⟩ (zC ⟨⟨_,rfl,.of_eq D⟩,Qs D,rfl,⟨_,rfl,.of_eq D⟩,Qs D,rfl,ac⟩)));rw[j];simp only[bO] at*;simp_all;done)
  |(exfalso;simp_all;done)
theorem PM(r:ai)(occ:List ae)(body:List Lit)(hb:occ.length+8*Lit.az body<=100000000000):bL prog 126 [.iv (lits body),.mp 0,.cK (.func 227) [.mp 0] [],.cK (.func 228) [] [.ptr 1 0,.ptr 2 0]] [bI (aq occ),.cells [.iv (cv r)],.cells [.mp 0]] (.bB []) [(0,io (bI (aq (bX (fun occ=>aQ occ) (fun occ=>iT (ax r) occ) body occ)))),(1,io (.cells [.iv (cv r)])),(2,io (.cells [.mp 0]))] 3:=by
 have f0:=Lit.aA body;have k0:=fa body;have g0:=jr body;have j0:=p6 (bH body) (occ++body.flatMap bj);refine aw ab func126 D (by decide) ntmps126 D (by simp) ?_;refine gA D ?_;refine aD 0 body.length (QN _) (fun i=>⟨[(0,.iv (lits body)),(1,.mp 0),(2,.cK (.func 227) [.mp 0] []),(3,.cK (.func 228) [] [.ptr 1 0,.ptr 2 0]),(14,.iv (lits body)),(15,pI body.length),(16,pI i)],[(0,io (bI (aq (occ++(body.take i).flatMap bj)))),(1,io (.cells [.iv (cv r)])),(2,io (.cells [.mp 0]))],3⟩) (fun _=>True) [] ac
  (zW (hM D (by simp) D ⟨⟨_,rfl,.of_eq D⟩,Qs D,rfl,⟨_,rfl,.of_eq D⟩,Qs D,rfl,ac⟩)) fun i hi _=>?_
 refine zJ D D (fun j=>?_) fun j=>?_
 .have j:=bv j;have I:=bn (f:=bj) j;have hn:=Lit.b4 body i j;have hv:=fa (body.take i);have n0:=(body.getD i co).size_eq;refine zJ D D (fun u=>?_) fun u=>?_
  .have u:(body.getD i co).kind=1:=by simpa using u
   rw[show bj (body.getD i co)=_ from am u]at I;refine gA D (zq [0] (d88 (occ++(body.take i).flatMap bj) (body.getD i co).atom (by rw[Qv];omega)) ?_);refine gA D ⟨j,ac,[],zW (hM D (by rw[I,QU]) D ⟨⟨_,rfl,.of_eq D⟩,Qs D,rfl,⟨_,rfl,.of_eq D⟩,Qs D,rfl,ac⟩)⟩
  .have u: ¬(body.getD i co).kind=1:=by simpa using u
   rw[show bj (body.getD i co)=_ from be u,Ro]at I;refine gA D ⟨j,ac,[],zW (hM D (by rw[I]) D ⟨⟨_,rfl,.of_eq D⟩,Qs D,rfl,⟨_,rfl,.of_eq D⟩,Qs D,rfl,ac⟩)⟩
 have j:=ci j;have e0:body.take i=body:=QM j;rw[e0];refine gA D ?_;refine mZ (σ:={x:List ae×Nat//bX (fun occ=>aQ occ) (fun occ=>iT (ax r) occ) body occ=c8 (fun occ=>aQ occ) (fun occ=>iT (ax r) occ) body (x.2+1) x.1∧cA (bH body) x.1<=x.2∧x.1.length+cA (bH body) x.1<=(occ++body.flatMap bj).length+cA (bH body) (occ++body.flatMap bj)})
  (fun x=>⟨[(0,.iv (lits body)),(1,.mp 0),(2,.cK (.func 227) [.mp 0] []),(3,.cK (.func 228) [] [.ptr 1 0,.ptr 2 0])],[(0,io (bI (aq x.1.1))),(1,io (.cells [.iv (cv r)])),(2,io (.cells [.mp 0]))],3⟩) (fun x=>cA (bH body) x.1.1)
  ⟨(occ++body.flatMap bj,3*body.length),rfl,by dsimp only;omega,QH _⟩ [] (zW (zC ⟨⟨_,rfl,.of_eq D⟩,Qs D,rfl,⟨_,rfl,.of_eq D⟩,Qs D,rfl,ac⟩)) ?_
 rintro⟨⟨ok,f⟩,hx1,hx2,hx3⟩;dsimp only at hx1 hx2 hx3 ⊢;rw[Qv]at hx3;refine gA D ?_;refine aD 0 body.length (QN _) (fun i=>⟨[(0,.iv (lits body)),(1,.mp 0),(2,.cK (.func 227) [.mp 0] []),(3,.cK (.func 228) [] [.ptr 1 0,.ptr 2 0]),(28,.iv (lits body)),(29,pI body.length),(30,pI i)],[(0,io (bI (aq ok))),(1,io (.cells [.iv (cv r)])),(2,io (.cells [.mp 0]))],3⟩) (fun i=>bS ((fun occ=>aQ occ) ok) ((fun occ=>iT (ax r) occ) ok) ok (body.take i)=jp) [] D
  (zW (zC ⟨⟨_,rfl,.of_eq D⟩,Qs D,rfl,⟨_,rfl,.of_eq D⟩,Qs D,rfl,ac⟩)) fun i hi F=>?_
 refine zJ D D (fun b=>?_) fun b=>?_
 .have b:=bv b;have m0:=Lit.aV body i b;have d0:=(body.getD i co).j1;have d: ∀v,kY ((fun occ=>aQ occ) ok) ((fun occ=>iT (ax r) occ) ok) ok (body.getD i co)=io v->bX (fun occ=>aQ occ) (fun occ=>iT (ax r) occ) body occ=c8 (fun occ=>aQ occ) (fun occ=>iT (ax r) occ) body (f-1+1) (ok++ [v])∧cA (bH body) (ok++ [v])<=f-1∧
    (ok++ [v]).length+cA (bH body) (ok++ [v])<=(occ++body.flatMap bj).length+cA (bH body) (occ++body.flatMap bj)∧cA (bH body) (ok++ [v])<cA (bH body) ok:=by
   intro v hv;have hf:=po F b hv;obtain⟨g1,g2⟩:=jR hf;have i0:=p5 g1 g2;have c0:cA (bH body) (ok++ [v])=cA (bH body) (dt ok v):=by
    unfold cA;congr 2
    funext x
    congr 1;rw[RS,aI,aI,cT,QK,QJ]
   have S:f-1+1=f:=by omega
   refine⟨?_,by omega,?_,by omega⟩
   .rw[hx1,ep hf,S]
   .rw[Qv,Qv,Rp];omega
  have a0:=bf ok (fo (aQ ok) ok (body.getD i co)).1;have Y:=dE ok (fo (aQ ok) ok (body.getD i co)).1;have b0:=bf ok (body.getD i co).ba;have Z:=dE ok (body.getD i co).ba;refine gA D (zq [0,1,2] (OV r ok (body.getD i co) (by omega)) ?_);refine zJ D D (fun B=>?_) fun B=>?_
  .obtain⟨g1,g2,g3,g4⟩:=d _ (am B);refine gA D ⟨⟨(_,f-1),g1,g2,g3⟩,[],g4,zW (hM D (by dsimp only;rw[bZ];rfl) D ⟨⟨_,rfl,.of_eq D⟩,Qs D,rfl,⟨_,rfl,.of_eq D⟩,Qs D,rfl,ac⟩)⟩
  .refine zJ D D (fun y=>?_) fun y=>?_
   .have y:(body.getD i co).kind=4:=by simpa using y
    refine zJ D D (fun A=>?_) fun A=>?_
    .have A:aJ ok (body.getD i co).ba=lc:=by rw[bO];simpa using A
     refine gA D (zq [0,1,2] (d126 r ok (body.getD i co).agg (by omega)) ?_);refine zJ D D (fun J=>?_) fun J=>?_
     .obtain⟨g1,g2,g3,g4⟩:=d _ ((be (by rw[B];simp)).trans (am ⟨y,A,J⟩));refine gA D ⟨⟨(_,f-1),g1,g2,g3⟩,[],g4,zW (hM D (by dsimp only;rw[bZ];rfl) D ⟨⟨_,rfl,.of_eq D⟩,Qs D,rfl,⟨_,rfl,.of_eq D⟩,Qs D,rfl,ac⟩)⟩
     .refine gA D ?_;exact⟨b,dD F b ((be (by rw[B];simp)).trans (be (fun h=>nomatch (h.2.2.symm.trans J)))),[],zW (zC ⟨⟨_,rfl,.of_eq D⟩,Qs D,rfl,⟨_,rfl,.of_eq D⟩,Qs D,rfl,ac⟩)⟩
    .have A:aJ ok (body.getD i co).ba=kw:=by rw[bO];simpa using A
     refine gA D ⟨b,dD F b ((be (by rw[B];simp)).trans (be (by rw[A];simp))),[],zW (zC ⟨⟨_,rfl,.of_eq D⟩,Qs D,rfl,⟨_,rfl,.of_eq D⟩,Qs D,rfl,ac⟩)⟩
   .have y: ¬(body.getD i co).kind=4:=by simpa using y
    refine gA D ⟨b,dD F b ((be (by rw[B];simp)).trans (be (fun h=>y h.1))),[],zW (zC ⟨⟨_,rfl,.of_eq D⟩,Qs D,rfl,⟨_,rfl,.of_eq D⟩,Qs D,rfl,ac⟩)⟩
 .have b:=ci b;rw[QM b]at F;have G:bX (fun occ=>aQ occ) (fun occ=>iT (ax r) occ) body occ=ok:=by rw[hx1,ew F]
  refine gA D (zD [] D (zW (hM D (by rw[G]) D ⟨⟨_,rfl,.of_eq D⟩,Qs D,rfl,⟨_,rfl,.of_eq D⟩,Qs D,rfl,ac⟩)))
theorem sL:eJ .fg (bI (aq [])):=⟨id,fun M N U w j b=>⟨#[],0,b,⟨rfl,by simp[aq],by simp[aq],by simp,by simp⟩,fk M⟩⟩
def bq(r:ai):List ae:=bX (fun b=>aQ b) (fun b=>iT (ax r) b) r.body []
theorem OQ(r:ai)(hb:8*Lit.az r.body<=100000000000):bL prog 126 [.iv (lits r.body),.mp 0,.cK (.func 227) [.mp 0] [],.cK (.func 228) [] [.ptr 1 0,.ptr 2 0]] [.fg,.cells [.iv (cv r)],.cells [.mp 0]] (.bB []) [(0,io (bI (aq (bq r)))),(1,io (.cells [.iv (cv r)])),(2,io (.cells [.mp 0]))] 3:=
 bL.Lh (PM r [] r.body (by simp;omega)) ⟨sL,.refl _,.refl _,ac⟩
theorem d73(r:ai)(hb:8*r.size<=100000000000):bL prog 202 [.iv (cv r)] [] (.mp 0) [(0,io (bI (aq (bq r))))] 1:=by
 unfold ai.size at hb;refine aw ab func202 D (by decide) ntmps202 D (by simp) ?_;refine gA D (zd [1,0,2] (OQ r (by omega)) ?_);refine gA D (zD [1] D (zW (zC ac)))
def Nl(p:List ae->Prop)(q:PV)(h:AH)(n:Nat):Prop:= ∃ok,p ok∧q= .mp 0∧h=[(0,io (bI (aq ok)))]∧n=1
def FO(r:ai)(a:eM)(occ:List ae):Prop:=occ.Nodup∧ ∀x,x∈occ↔x∈aR a∧x∈ax r
theorem nU{l m:List ae}(h:l.Nodup)(hs: ∀x∈l,x∈m):l.length<=m.length:=Sf h hs
theorem j3(a:eM):(aR a).length<=a.size:=by
 have b:=kn a.body;have d:=gm a.gZ;unfold aR eM.size;rw[Qv];split
 .rw[R0];omega
 .omega
theorem Lr(a:eM)(hb:a.size<=100000000000):bL prog 196 [ag a.c1] [] (.mp 0) [(0,io (bI (aq (aR a))))] 1:=bL.le (d127 a (by omega)) ⟨a.PC,ac⟩
theorem d161(r:ai)(a:eM)(hb:16*a.size<=100000000000):Al.Fn prog 203 [.iv (cv r),ag a.c] [] (Nl fun ok=> ∃occ,FO r a occ∧ok=bX (fun occ=>aQ occ) (fun _=>fun _=>lc) a.body occ):=by
 have e0:=j3 a;have f0:Lit.az a.body<=a.size:=by unfold eM.size;omega
 refine Al.Fn.le (args:=[.iv (cv r),ag a.c1]) ?_ ⟨.refl _,a.Bb,ac⟩;refine uu ab func203 D (by decide) ntmps203 D (by simp) ?_;refine gA D (zq [] (Lr a (by omega)) ?_);refine gA D ?_
 let b:List Nat->List ae:=fun d=>(d.reverse.filterMap fun j=>((aq (aR a))[j]?).bind fun x=>if aJ (ax r) x.1 then io x.1 else jp)
 refine fZ (aq (aR a)) (fun d=>⟨[(0,.iv (cv r)),(3,.ptr 0 0),(5,.mp 1),(10,.ptr 3 0)],[(0,io (au a.c1)),(1,io (bI (aq (b d)))),(3,io (.bQ .str wo (aq (aR a)) d jp))],4⟩)
  (fun d=>(b d).Nodup∧ ∀x,x∈b d↔x∈ax r∧ ∃j∈d,∃y,(aq (aR a))[j]? =io y∧y.1=x) [] ⟨RF,by simp[b]⟩
  (zW (zK (DV D fk D (hI D D (.inl D) D trivial)))) fun d hJ=>?_
 obtain⟨B,F⟩:=hJ;have g0:(b d).length<=(aR a).length:=nU B fun x G=>by
  obtain⟨_,j,_,y,h2,rfl⟩:=(F x).1 G;exact qh h2
 refine mu D ac (ei D D D D D (by decide) (fun Z=>?_) fun j x G Y=>?_)
 .have b0:FO r a (b d):=⟨B,fun x=>by
   rw[F];constructor
   .rintro⟨h1,j,h2,y,A,rfl⟩;exact⟨qh A,h1⟩
   .rintro⟨h1,h2⟩;refine⟨h2,?_⟩;obtain⟨y,hy,rfl⟩:=RH.1 (((cS (aR a)).2 x).2 h1);obtain⟨j,Y⟩:=RE hy
    exact⟨j,Z j (Qw.1 Y).1,y,Y,rfl⟩⟩
  refine gA D (zq [1] (PO (b d) a.body (by omega)) ?_);refine mu D ac (CD [1] (.inr D) D ⟨_,⟨b d,b0,rfl⟩,rfl,rfl,rfl⟩ (zW (zC ac)))
 .have h5:=bO (occ:=ax r) (s:=x.1);have h7:=bf (ax r) x.1;have h8:=bf (b d) x.1;have h9:=dE (b d) x.1;have I:x.1∉b d:=fun h=>by
   obtain⟨_,i,hi,y,h2,A⟩:=(F x.1).1 h;have d0:=(cS (aR a)).1;have:i=j:=by
    have J:=(Qw.1 h2)
    have S:=(Qw.1 G)
    obtain⟨J,a0⟩:=J;obtain⟨S,c0⟩:=S;refine(Tp (i:=i) (j:=j) (h₀:=by rw[Rv];exact J) (h₁:=by rw[Rv];exact S) d0).1 ?_;rw[Tq,Tq,a0,c0,A]
   exact Y (this▸hi)
  have u:b (j::d)=b d++if aJ (ax r) x.1 then[x.1] else[]:=by
   simp only[b,List.reverse_cons,TQ,T1,List.filterMap_nil,G,TG];congr 1;cases aJ (ax r) x.1<;>rfl
  have step:(b (j::d)).Nodup∧ ∀z,z∈b (j::d)↔z∈ax r∧ ∃i∈j::d,∃y,(aq (aR a))[i]? =io y∧y.1=z:=by
   rw[u];constructor
   .split
    .rw[Sh];refine⟨B,RT.2 ⟨To,RF⟩,fun p hp q hq e=>?_⟩;rw[QJ]at hq;exact I ((e.trans hq)▸hp)
    .rw[Ro];exact B
   .intro z;rw[QK,F];constructor
    .rintro(⟨h1,i,h2,A⟩|h1)
     .exact⟨h1,i,QR _ h2,A⟩
     .split at h1
      .rename_i h2;rw[QJ]at h1;exact⟨h1▸aI.1 h2,j,Q3,x,G,h1.symm⟩
      .cases h1
    .rintro⟨h1,i,h2,y,A,h4⟩;rcases QY.1 h2 with rfl|h2
     .rw[G]at A;cases A;exact .inr (by rw[am (aI.2 (h4▸h1))];simp[h4])
     .exact .inl ⟨h1,i,h2,y,A,h4⟩
  refine zJ D D (fun g1=>?_) fun g1=>?_
  .have g1:aJ (ax r) x.1=kw:=by
    have:=zT g1;rw[h5];simp;omega
   rw[g1,am D]at u;refine gA D ⟨j,x,G,Y,step,[],zW (zK (hM D (by rw[u,bZ];rfl) D (hI D D (.inr D) D ac)))⟩
  .have g1:aJ (ax r) x.1=lc:=by
    have:=zF g1;rw[h5];simp;omega
   rw[g1,be (by simp),Ro]at u;refine gA D ⟨j,x,G,Y,step,[],zW (zK (hM D (by rw[u]) D (hI D D (.inr D) D ac)))⟩
end Go.Proofs.YtflegjieadkonaaGreatDoor
namespace Go.Proofs.YtflegjieadkonaaGreatDoor
open Go Go.Al
def mA(s:ae):List UInt8:=s.data.toList
def ME(l:List UInt8):ae:=⟨l.toArray⟩
theorem sK(s:ae):ME (mA s)=s:=by simp[mA,ME]
theorem It(l:List UInt8):mA (ME l)=l:=by simp[mA,ME]
def dx(l:List (List UInt8)):List (List UInt8):=l.mergeSort fun x y=>li (x<=y)
def dA(l:List ae):List ae:=(dx (l.map mA)).map ME
def gX:Prop:=
 (∀(b b0 a0:Nat) (d:List (List UInt8)) (w:World),Go.Sort.Holds encStr w b b0 d.toArray->b<w.heap.size->d.length<4611686018427387904->
  Calls Tryz.prog 91 #[.slice (io ⟨b,b0,jp⟩) d.length a0] w fun e j=>
   e= .returned (.tuple #[])∧ ∃n os,j=Go.Sort.grow (Go.Sort.putRow encStr (Go.Sort.ahead w n) b b0 (d.mergeSort fun x y=>li (x<=y)).toArray) os)∧
 (∀(p:Option Addr) (a0:Nat) (w:World),Calls Tryz.prog 91 #[.slice p 0 a0] w fun e j=>e= .returned (.tuple #[])∧j=w)
theorem jk(l:List ae):(dA l).length=l.length:=by simp[dA,dx]
theorem nS:dA []=[]:=by simp[dA,dx]
theorem qK(l:List ae):(dA l).map mA=dx (l.map mA):=by
 unfold dA;rw[List.map_map];have:mA ∘ ME=id:=by funext x;exact It x
 rw[this,List.map_id]
theorem yM{l:List ae}{k:Nat}{e:List PV}(h:(l.map fun x=>(bR x).map PV.iv)[k]? =io e): ∃s,l[k]? =io s∧e=[pS s]:=by
 rw[QC,QF]at h;obtain⟨s,b,rfl⟩:=h;exact⟨s,b,rfl⟩
theorem GR(hS:gX)(l:List ae)(hl:l.length<=1000000000000):bL Tryz.prog 91 [.sl 0 0 l.length 1] [aW 1 l bR] (.bB []) [(0,io (aW 1 (dA l) bR))] 1:=by
 refine⟨bY Tryz.func91 D (by decide),fun M N w vs hr J hv=>?_⟩;obtain⟨v,rfl⟩: ∃v,vs=[v]:=by
  cases vs with
  |nil=>cases J
  |cons v r=>cases r with
   |nil=>exact⟨v,rfl⟩
   |cons a b=>simp at J
 have u:=hv 0 _ D;simp only[List.getD_cons_zero]at u;have n0:=hr.obj 0 _ D;cases l with
 |nil=>
  have e0:v= .slice jp 0 0:=by
   generalize hq:PV.sl 0 0 ([]:List ae).length 1=q at u;cases u with
   |sl i off len sz a0 h h0 Y hc he=>cases hq;simp at h0
   |mE i sz h=>rfl
   |_=>cases hq
  subst e0;refine(hS.2 jp 0 w).mono ?_;rintro e w' ⟨rfl,rfl⟩;refine⟨_,M,N,.bB [],_,1,rfl,⟨rfl,rfl,rfl⟩,?_,?_,.bB [] #[] D (by simp)⟩
  .rw[nS];exact .refl _ _ _ _ _
  .rw[nS];exact hr
 |cons s0 r=>
  generalize hL:s0::r=L at*
  have c0:0<L.length:=by rw[<-hL];simp
  obtain⟨a0,e0⟩: ∃a0,v= .slice (io ⟨N.aB 0,0,jp⟩) L.length a0:=by
   generalize hn:L.length=n at u c0;generalize hq:PV.sl 0 0 n 1=q at u;cases u with
   |sl i off len sz a0 h h0 Y hc he=>cases hq;exact⟨a0,by simp⟩
   |mE i sz h=>cases hq;omega
   |_=>cases hq
  subst e0;rcases n0 with h0|⟨_,c,T,Y,h2,h3,h4,h5⟩
  .rw[<-hL]at h0;cases h0
  rw[Rv]at h3;have g0:(aW 1 L bR).real=kw:=by rw[<-hL];rfl
  have d0: ∀j s,L[j]? =io s->c.getD j undef= .string s:=fun j s I=>by
   have:=h5 j [pS s] 0 (pS s) (by rw[QC,I];rfl) D;rw[TB,S2]at this;generalize c.getD j undef=y at this ⊢;cases this with
   |iv _ _ h=>cases h;rfl
  have m0:=hr.lt (i:=0) D g0;have k0:(L.map mA).length=L.length:=by simp
  have hH:Go.Sort.Holds encStr w (N.aB 0) 0 (L.map mA).toArray:=by
   intro j I;have i0:j<L.length:=by simpa using I
   have f0:j<c.size:=by omega
   have:=d0 j L[j] (Qy i0);rw[Qt,Rs f0,R2]at this;constructor
   .simp only[World.cell?,Y,Q9,Option.isSome_none,SK,if_false];rw[Rs f0,this,getElem!_pos _ j I];simp[encStr,mA]
   .simp[World.frozen?,Y]
  have B:=hS.1 (N.aB 0) 0 a0 (L.map mA) w hH m0 (by omega);rw[k0]at B;refine B.mono ?_;rintro e w' ⟨rfl,n,os,rfl⟩
  let S:=Go.Sort.putRow encStr (Go.Sort.ahead w n) (N.aB 0) 0 ((L.map mA).mergeSort fun x y=>li (x<=y)).toArray
  have Z:(dx (L.map mA)).length=L.length:=by simp[dx]
  have A:Ext M N (· <1) (dQ 0 [aW 1 L bR]) w M N (· <1) ((0,io (aW 1 (dA L) bR))::dQ 0 [aW 1 L bR]) S∧Rel M N (· <1) ((0,io (aW 1 (dA L) bR))::dQ 0 [aW 1 L bR]) S:=by
   refine hr.write (i:=0) (o0:=aW 1 L bR) D g0 S (aW 1 (dA L) bR) D D D ?_ ?_ ?_
   .show(Go.Sort.putRow _ _ _ _ _).heap.size=_;rw[Go.Sort.size_putRow];rfl
   .intro b hb;show((w.heap.modify (N.aB 0) _))[b]? =_;rw[Ru,be (fun e=>hb e.symm)]
   .refine .inr ⟨Nat.one_pos,Go.Sort.putCells encStr 0 (dx (L.map mA)).toArray c,T,?_,?_,?_,?_,?_⟩
    .show((w.heap.modify (N.aB 0) _))[N.aB 0]? =_;rw[Ru,am D,Y];rfl
    .simp[Go.Sort.putCells,h2]
    .rw[Rv,jk];simp[Go.Sort.putCells];omega
    .intro k e he;obtain⟨s,_,rfl⟩:=yM he;rfl
    .intro k e j p he hp;obtain⟨s,hs,rfl⟩:=yM he;have I:j=0:=by
      rcases j with _|j
      .rfl
      .simp at hp
     subst I;cases hp;have hk:k<L.length:=by
      have:=(Qw.1 hs).1;rwa[jk]at this
     have p0:(dx (L.map mA))[k]? =io (mA s):=by
      rw[<-qK,QC,hs];rfl
     have j0:k<c.size:=by omega
     have b0:(Go.Sort.putCells encStr 0 (dx (L.map mA)).toArray c).getD (k*1+0) undef= .string s:=by
      rw[TB,S2,Qt];simp only[Go.Sort.putCells,Array.getElem?_mapIdx];rw[Rs j0,RZ,R2,am ⟨QN _,by simp[Z];omega⟩,TL];rw[getElem!_pos _ k (by simp[Z];omega)];have h9:(dx (L.map mA)).toArray[k]'(by simp[Z];omega)=mA s:=by
       rw[List.getElem_toArray];exact(Qw.1 p0).2
      rw[h9];simp[encStr,mA]
     rw[b0];exact .iv _ _ (.v _)
  have F:Rel M N (· <1) ((0,io (aW 1 (dA L) bR))::dQ 0 [aW 1 L bR]) (Go.Sort.grow S os):=A.2.more fun b hb=>by
   show(S.heap++os)[b]? =_;rw[RB hb]
  have q0:S.heap.size=w.heap.size:=by
   show(Go.Sort.putRow _ _ _ _ _).heap.size=_;rw[Go.Sort.size_putRow];rfl
  have d: ∀i o,AH.get [(0,io (aW 1 (dA L) bR))] i=io o->AH.get ((0,io (aW 1 (dA L) bR))::dQ 0 [aW 1 L bR]) i=io o:=by
   intro i o h;rw[AH.ay]at h ⊢;split at h
   .rename_i h6;rw[am h6];exact h
   .simp[AH.get]at h
  refine⟨_,M,N,.bB [],_,1,rfl,⟨rfl,rfl,rfl⟩,⟨A.1.os,A.1.tape,A.1.output,?_,?_,.refl _,fun b c Y h2=>(nomatch (Y.symm.trans h2)),.refl _ _,fun _ h=>h,fun i o G=>A.1.fV i o (d i o G)⟩,?_,.bB [] #[] D (by simp)⟩
  .show w.heap.size<=(Go.Sort.grow S os).heap.size;rw[Go.Sort.size_grow,q0];omega
  .intro b hb hn;have h7:=A.1.fG b hb hn;show(S.heap++os)[b]? =_;rw[RB (by omega)];exact h7
  .exact⟨F.dT,fun i o G=>F.used i o (d i o G),fun i o G=>F.dW i o (d i o G),fun i o G=>F.obj i o (d i o G),fun i j o p G I=>F.inj i j o p (d i o G) (d j p I)⟩
end Go.Proofs.YtflegjieadkonaaGreatDoor
namespace Go.Proofs.YtflegjieadkonaaGreatDoor
open Go Go.Al Go.Proofs.Tryz
theorem eT(l:List (List UInt8)):(dx l).Perm l:=List.mergeSort_perm _ _
theorem gY(l:List (List UInt8)):(dx l).Pairwise (fun x y=>li (x<=y)=kw):=
 List.pairwise_mergeSort (le:=fun x y=>li (x<=y)) (fun a b c d j=>by simp only[decide_eq_true_eq] at*;exact List.le_trans d j)
  (fun a b=>by
   rcases List.le_total a b with h|h
   .simp[h]
   .simp[h]) l
theorem Dj{a b:List (List UInt8)}(h:a.Perm b)(ha:a.Pairwise (fun x y=>li (x<=y)=kw))(hb:b.Pairwise (fun x y=>li (x<=y)=kw)):a=b:=
 List.Perm.eq_of_pairwise (fun x y _ _ d j=>TH (zT d) (zT j)) ha hb h
theorem oS{a b:List ae}(h:a.Perm b):dA a=dA b:=by
 unfold dA;rw[Dj (((eT _).trans (h.map mA)).trans (eT _).symm) (gY _) (gY _)]
theorem jn{x:ae}{l:List ae}:x∈dA l↔x∈l:=by
 unfold dA;rw[RH];constructor
 .rintro⟨b,hb,rfl⟩;obtain⟨s,d,rfl⟩:=RH.1 ((eT _).mem_iff.1 hb);rwa[sK]
 .intro h;exact⟨mA x,(eT _).mem_iff.2 (RH.2 ⟨x,h,rfl⟩),sK x⟩
def fY(m:NM)(vs:List Nat):List ae:=vs.reverse.filterMap fun j=>(m[j]?).map (·.1)
theorem ko(m:NM)(vs:List Nat)(j:Nat)(x:(KC.str).K×Int)(h:m[j]? =io x):fY m (j::vs)=fY m vs++ [x.1]:=by
 simp[fY,TQ,h]
theorem ud(m:NM)(vs:List Nat):(fY m vs).length<=vs.length:=by
 unfold fY;have:=List.length_filterMap_le (fun j=>(m[j]?).map (·.1)) vs.reverse;rwa[List.length_reverse]at this
theorem xC(m:NM):(Rh m.length).filterMap (fun j=>(m[j]?).map (·.1))=m.map (·.1):=by
 apply List.ext_getElem?;intro k;have h:(Rh m.length).filterMap (fun j=>(m[j]?).map (·.1))=(Rh m.length).map (fun j=>(m.getD j (Qz,0)).1):=by
  rw[show(fun j=>(m.getD j (Qz,0)).1)=fun j=>(m.getD j (Qz,0)).1 from rfl];have key: ∀l:List Nat,(∀j∈l,j<m.length)->l.filterMap (fun j=>(m[j]?).map (·.1))=l.map (fun j=>(m.getD j (Qz,0)).1):=by
   intro l
   induction l with
   |nil=>simp
   |cons j r ih=>
    intro h;have b:=h j Q3;rw[T1,Qy b,ih fun k d=>h k (QR _ d)];simp[b]
  exact key _ fun j b=>R3.1 b
 rw[h];by_cases d:k<m.length
 .simp[d]
 .simp[d]
theorem jH(m:NM)(vs:List Nat)(hn:vs.Nodup)(hb: ∀j∈vs,j<m.length)(b: ∀j,j<m.length->j∈vs):(fY m vs).Perm (m.map (·.1)):=by
 rw[<-xC];unfold fY;apply List.Perm.filterMap;refine(List.reverse_perm _).trans ?_;rw[List.perm_ext_iff_of_nodup hn List.nodup_range];intro j;rw[R3];exact⟨hb j,b j⟩
def dX(m:NM):List ae:=dA (m.map (·.1))
theorem tW{vs:List Nat}{n:Nat}(h:vs.Nodup)(hb: ∀j∈vs,j<n):vs.length<=n:=by
 have:=Sf h (l₂:=Rh n) fun j b=>R3.2 (hb j b);rwa[List.length_range]at this
theorem tB(σ:Nat->Nat)(l:List ae):(l.map fun x=>(bR x).map PV.iv).map (dL σ)=l.map fun x=>(bR x).map PV.iv:=by
 simp only[List.map_map,bR,Q4,RL];rfl
theorem c51(I:gX)(m:NM)(hm:m.length<=100000000):Pure prog 112 [.iv (yf m)] (.iv (strs (dX m))):=by
 refine ar ab func112 D (by decide) ntmps112 D (by simp) D ?_;refine gA D ?_;refine nX 3 1 D ?_;refine fZ m (fun b=>⟨[(3,.sl 2 0 (fY m b).length 1),(6,.ptr 0 0)],[(0,io (.bQ .str wo m b jp)),(2,io (aW 1 (fY m b) bR))],3⟩) (fun b=>b.Nodup∧ ∀j∈b,j<m.length) [1] ⟨RF,by simp⟩
  (zW (hI D D (.inl D) D (zS trivial))) fun b G=>?_
 obtain⟨d,u⟩:=G;have Y:=tW d u;have S:=ud m b;refine mu D ac (ei D D D D D (by decide) (fun y=>?_) fun j x A B=>?_)
 .refine mu D ac (bc [2] (GR I (fY m b) (by omega)) D D D D D (congrArg (fun o=> [io o]) (bD _).symm) D D ?_);refine mu D ac (fS (.inr D) D D ((tB _ _).trans (by rw[dX,oS (jH m b d u y)])) ?_);rw[dX,jk,<-(jH m b d u y).length_eq]
 .have F:=ko m b j x A;refine gA D ⟨j,x,A,B,⟨RT.2 ⟨B,d⟩,fun i J=>(QY.1 J).elim (fun h=>h▸(Qw.1 A).1) (u i)⟩,[4],zM ⟨.row (by rw[F,Qv];rfl),rfl,bi ac⟩ (hI D D (.inr D) D (hR D (by rw[F,QO];rfl) D ac))⟩
theorem I3{P:Program}{k:FuncId}{kc:KC}{V:Type}{e:V->IV}{z:V}{I:Value}{J:PV->V}{m:List (kc.K×V)}{y:IV}(h:Al.Pure P k [.iv (.du kc e z I m)] (.iv y)):bL P k [.mp 0] [.map kc e z I J m] (.iv y) [] 1:=by
 refine⟨h.1,fun M N w G hr Z hv=>?_⟩;obtain⟨u,B,S,h3,Y⟩:=ni (n:=1) hr (i:=0) D;have A:Rel u N (· <0) (dQ 0 []) w:=⟨S.dT,fun i o d=>(nomatch d),fun i o d=>(nomatch d),fun i o d=>(nomatch d),fun i j o p d=>(nomatch d)⟩
 refine(h.2 u N w G A Z fun j p F=>?_).mono ?_
 .cases j with
  |zero=>
   cases F;have:=Y _ _ (hv 0 _ D);generalize G.getD 0 undef=x at this ⊢;cases this with
   |iv _ _ h=>exact .iv _ _ h
  |succ j=>cases F
 .rintro _ w' ⟨x,M',N',r,h',n',rfl,⟨rfl,rfl,rfl⟩,hx,hrr,hvr⟩;refine⟨x,M',N,.iv y,[],1,rfl,⟨rfl,rfl,rfl⟩,?_,⟨hrr.dT,fun i o d=>(nomatch d),fun i o d=>(nomatch d),fun i o d=>(nomatch d),fun i j o p d=>(nomatch d)⟩,?_⟩
  .refine⟨hx.os,hx.tape,hx.output,hx.size,fun b hb hn=>hx.fG b hb fun i o d=>(nomatch d),B.pb.trans hx.pb,fun b c g1 g2=>?_,.refl _ _,fun _ h=>h,fun i o d=>(nomatch d)⟩;cases g3:u b with
   |some c'=>exact B.gK b c' g1 g3
   |none=>
    rcases hx.gK b c g3 g2 with g4|⟨i,o,g4,_⟩
    .exact .inl g4
    .exact nomatch g4
  .cases hvr with
   |iv _ _ h=>exact .iv _ _ h
theorem PY(b:gX)(m:NM)(hm:m.length<=100000000):bL prog 112 [.mp 0] [bI m] (.iv (strs (dX m))) [] 1:=I3 (c51 b m hm)
theorem r5: ∀{m:NM} (_:(m.map (·.1)).Nodup) (k:ae),mC .str m k=m.filter fun x=>!li (x.1=k)
 | [],_,k=>rfl
 |(a,b)::r,h,k=>by
  rw[Q4,RT]at h;by_cases d:a=k
  .subst d;have:r.filter (fun x=>!li (x.1=a))=r:=T2.2 fun x j=>by
    have:x.1≠a:=fun e=>h.1 (e▸RH.2 ⟨x,j,rfl⟩);simp[this]
   simp[mC,this]
  .have u:=r5 h.2 k;simp[mC,d,u]
theorem ve{m:NM}{p:(KC.str).K×Int->Bool}(h:(m.map (·.1)).Nodup):((m.filter p).map (·.1)).Nodup:=h.sublist ((Ts).map _)
theorem nC: ∀(ks:List ae) {m:NM} (_:(m.map (·.1)).Nodup),ks.foldl (fun m k=>mC .str m k) m=m.filter fun x=>!aJ ks x.1
 | [],m,h=>(T2.2 fun _ _=>rfl).symm
 |k::r,m,h=>by
  rw[Rc,r5 h,nC r (ve h),List.filter_filter];congr 1
  funext x
  by_cases b:x.1=k
  .simp[aJ,b]
  .have: ¬k=x.1:=fun e=>b e.symm
   simp[aJ,b,this]
def lh(r:ai)(a:eM):NM:=(aq (aR a)).filter fun x=>!aJ (ax r) x.1
theorem jD(l:List ae):(aq l).length<=l.length:=by
 have h:=cS l;have:=nU h.1 fun x b=>(h.2 x).1 b;rwa[Rv]at this
theorem d79(r:ai)(a:eM)(hb:a.size<=100000000000):bL prog 191 [.iv (cv r),ag a.c] [] (.mp 0) [(0,io (bI (lh r a)))] 1:=by
 refine bL.le (args:=[.iv (cv r),ag a.c1]) ?_ ⟨.refl _,a.Bb,ac⟩;have J:=j3 a;have A:=(cS (aR a)).1;refine aw ab func191 D (by decide) ntmps191 D (by simp) ?_;refine gA D (zq [] (Lr a (by omega)) ?_);refine gA D ?_;refine fZ (aq (ax r)) (fun b=>⟨[(5,.mp 1),(13,.ptr 2 0)],[(1,io (bI ((fY (aq (ax r)) b).foldl (fun m k=>mC .str m k) (aq (aR a))))),(2,io (.bQ .str wo (aq (ax r)) b jp))],3⟩)
  (fun b=>b.Nodup∧ ∀j∈b,j<(aq (ax r)).length) [] ⟨RF,by simp⟩
  (zW (zC (hI D D (.inl D) D trivial))) fun b I=>?_
 obtain⟨d,u⟩:=I;refine mu D ac (ei D D D D D (by decide) (fun y=>?_) fun j x F G=>?_)
 .have B:(fY (aq (ax r)) b).foldl (fun m k=>mC .str m k) (aq (aR a))=lh r a:=by
   rw[nC _ A];unfold lh;congr 1
   funext x
   congr 1;rw[RS,aI,aI,(jH _ b d u y).mem_iff];exact(cS (ax r)).2 x.1
  rw[B];refine gA D (zD [1] D (zW (zC ac)))
 .have Y:=ko (aq (ax r)) b j x F;refine gA D ⟨j,x,F,G,⟨RT.2 ⟨G,d⟩,fun i S=>(QY.1 S).elim (fun h=>h▸(Qw.1 F).1) (u i)⟩,[],zW (hM D (by rw[Y,Sp];rfl) D (hI D D (.inr D) D ac))⟩
theorem r6{may:List ae->Expr->Bool}{more:List ae->eM->Bool}{body:List Lit}: ∀(n:Nat) (occ:List ae),(c8 may more body n occ).length<=occ.length+n
 |0,occ=>QH _
 |n+1,occ=>by
  cases h:bS (may occ) (more occ) occ body with
  |none=>rw[ew h];omega
  |some v=>
   rw[ep h];have:=r6 (may:=may) (more:=more) (body:=body) n (occ++ [v]);rw[Qv,Rp]at this;omega
theorem r9{may:List ae->Expr->Bool}{more:List ae->eM->Bool}{body:List Lit}(occ:List ae):(bX may more body occ).length<=occ.length+4*Lit.az body+1:=by
 have b:=r6 (may:=may) (more:=more) (body:=body) (3*body.length+1) (occ++body.flatMap bj);have d:=fa body;have j:=Lit.aA body;rw[Qv]at b;unfold bX;omega
theorem Ba(r:ai):(bq r).length<=4*Lit.az r.body+1:=by
 have:=r9 (may:=fun b=>aQ b) (more:=fun b=>iT (ax r) b) (body:=r.body) [];rw[R0]at this;unfold bq;omega
def ox(r:ai):List ae:=bX (fun b=>cm b) (fun _=>fun _=>lc) r.body []
theorem Dz(r:ai):(ox r).length<=4*Lit.az r.body+1:=by
 have:=r9 (may:=fun b=>cm b) (more:=fun _=>fun _=>lc) (body:=r.body) [];rw[R0]at this;unfold ox;omega
theorem OS(r:ai)(hb:8*Lit.az r.body<=100000000000):bL prog 126 [.iv (lits r.body),.mp 0,.cK (.func 127) [] [.ptr 1 0],.cK (.func 128) [] []] [.fg,.cells [.mp 0]] (.bB []) [(0,io (bI (aq (ox r)))),(1,io (.cells [.mp 0]))] 2:=
 bL.Lh (PN [] r.body (by simp;omega)) ⟨sL,.refl _,ac⟩
theorem c29(b:gX)(r:ai)(hb:r.size<=10000000):Pure prog 80 [ag r.c] (.iv (strs (dX (aq (ax r))))):=by
 have d:=jD (ax r);have j:=pX r;refine ar ab func80 D (by decide) ntmps80 D (by simp) D ?_;refine gA D (zp (c48 r (by omega)) ?_);refine gA D (zp (c51 b (aq (ax r)) (by omega)) ?_);exact zU D
theorem c33(b:gX)(r:ai)(hb:r.size<=10000000):Pure prog 98 [ag r.c] (.iv (strs (dX (aq (ox r))))):=by
 have d:=jD (ox r);have j:=Dz r;have u:Lit.az r.body<=r.size:=Tf _ _;refine ar ab func98 D (by decide) ntmps98 D (by simp) D ?_;refine gA D ?_;refine gA D (zq [1,2] (OS r (by omega)) ?_);refine gA D (zq [1] (PY b (aq (ox r)) (by omega)) ?_);exact zU D
def xx(r:ai)(lit:Int):List ae:=if lit<0∨(r.body.length:Int)<=lit∨ ¬(aj r lit).kind=4 then[] else dX (lh r (aj r lit).agg)
theorem ru{P:Program}{k:FuncId}{args:List PV}{os:List AO}{r:PV}{h:AH}{n0:Nat}(hc:lG P k){n:Nat}(hn: ∃sz b,PV.iv (.c5 sz n b)∈args)(hh:n<=maxLen->bL P k args os r h n0):bL P k args os r h n0:=Gl hc hn hh
def qj{α:Type}(p:α->Bool)(l:List α):Int:=match l.findIdx? p with
 |some i=>i
 |none=> -1
theorem gl{α:Type}{p:α->Bool}{l:List α}(h:l.any p=lc):qj p l= -1:=by
 have:l.findIdx? p=jp:=by
  rw[Tw];intro x b;have:=RD.1 h x b;simpa using this
 rw[qj,this]
theorem iB{α:Type}[Inhabited α]{p:α->Bool}{l:List α}{i:Nat}(h:(l.take i).any p=lc)(hi:i<l.length)(hp:p (l.getD i co)=kw):qj p l=i:=by
 have:l.findIdx? p=io i:=by
  rw[Ti];have b:l.getD i co=l[i]:=by simp[hi]
  refine⟨hi,b▸hp,fun j d=>?_⟩;have:=RD.1 h l[j] (S7.2 ⟨j,by rw[Rt,am d,Qy (by omega)]⟩);simpa using this
 rw[qj,this]
theorem iC{α:Type}(p:α->Bool)(l:List α):li (qj p l>=0)=l.any p:=by
 unfold qj;cases h:l.findIdx? p with
 |none=>
  have:=Tw.1 h;have:l.any p=lc:=RD.2 fun x j=>by simp[this x j]
  rw[this];rfl
 |some i=>
  obtain⟨b,d,_⟩:=Ti.1 h;rw[RR.2 ⟨_,Rz b,d⟩];simp
theorem Ff{a b:Int}(h:a=b):pI a=pI b:=by rw[h]
theorem Qa(x:Int):Pure prog 155 [pI x] (pB (!li (x=1)&&!li (x=2))):=by
 refine ar ab func155 D (by decide) ntmps155 D (by simp) D ?_
 repeat' (first|(refine gA D (zI (fun _=>?_) (fun _=>?_)))|(refine gA D (zL (.of_eq ?_))))
 all_goals(refine(mF ?_:pB _=pB _);simp_all)
theorem P9(t:Term):Pure prog 194 [ag t.c] (pB (li (t.kind=3))):=by
 refine ar ab func194 D (by decide) ntmps194 D (by simp) D ?_;exact zU D
theorem P8(t:Lit):Pure prog 195 [ag t.c] (pB (li (t.kind=4))):=by
 refine ar ab func195 D (by decide) ntmps195 D (by simp) D ?_;exact zU D
def eS(v:sB):Int:=if v.kind=1 then(if v.sym=Qz∧ -2147483647<=v.num∧v.num<=2147483647 then 0 else 20) else if v.kind=2 then(if v.num=0∧v.sym.size<=64 then 0 else 20) else 20
theorem Qb(v:sB):Pure prog 261 [ag v.c] (pI (eS v)):=by
 refine ar ab func261 D (by decide) ntmps261 D (by simp) D ?_
 repeat' (first|(refine gA D (zI (fun _=>?_) (fun _=>?_)))|(refine gA D (zL (.of_eq ?_))))
 all_goals(refine(Ff ?_:pI _=pI _);have hE:(⟨#[]⟩:ByteArray)=Qz:=rfl;simp_all [eS];try omega)
def Decl.z:Decl:=⟨Qz,[],⟨0,0⟩⟩
def CL(d:Decl):IV:= .agg d.c
def Gx:Value:= .agg #[.string Qz,.slice jp 0 0,.int .i64 0,.int .i64 0]
def intOf:List IV->Int
 | [.v (.int .i64 n)]=>n
 |_=>0
def PI:PV->Decl
 | .agg [.iv (.v (.string s)),.iv (.c5 _ n el),.iv (.v (.int _ a)),.iv (.v (.int _ b))]=>⟨s,(Rh n).map fun k=>intOf (el k),⟨a,b⟩⟩
 |_=>Decl.z
abbrev DM:=List ((KC.str).K×Decl)
abbrev Lo(m:DM):AO:= .map .str CL Decl.z Gx PI m
abbrev OP(m:DM):IV:= .du .str CL Decl.z Gx m
theorem Ln(d:Decl):PI (ag d.c)=d:=by
 show(⟨d.name,(Rh d.types.length).map fun k=>intOf (cR (d.types.getD k co)),⟨d.at_.line,d.at_.yg⟩⟩:Decl)=d;have:(Rh d.types.length).map (fun k=>intOf (cR (d.types.getD k co)))=d.types:=by
  apply List.ext_getElem?;intro k;by_cases b:k<d.types.length
  .simp[b,intOf,cR]
  .simp[b]
 rw[this]
theorem Gw: ∀M,IR M (CL Decl.z) Gx:=fun M=>by
 refine .agg _ _ D fun j p b=>?_
 match j,b with
 |0,b=>cases b;exact .v _
 |1,b=>cases b;exact .iA _ _ _ _
 |2,b=>cases b;exact .v _
 |3,b=>cases b;exact .v _
 |j+4,b=>simp[Decl.c]at b
theorem agI(l:List IV):aC (ag l) (.iv (.agg l)):=by
 intro M N U x h;generalize b:ag l=q at h;cases h with
 |agg cs ys hl hr=>
  cases b;refine .iv _ _ (.agg _ _ (by simpa using hl) fun j p d=>?_);have:=hr j (.iv p) (by rw[QC,d];rfl);generalize ys.getD j undef=y at this ⊢;cases this with
  |iv _ _ h=>exact h
 |_=>cases b
theorem Gy(d:Decl):aC (ag d.c) (.iv (CL (PI (ag d.c)))):=by rw[Ln];exact agI _
def jb(m:DM)(d:Decl):DM:=if eH .str m d.name=kw then m else cj .str m d.name d
def B3(p:Prog):DM:=p.aZ.foldl jb []
abbrev cF(p:Prog):IV:=OP (B3 p)
theorem tJ{V:Type}: ∀(m:List ((KC.str).K×V)) (k:ae) (v:V),(cj .str m k v).length<=m.length+1
 | [],_,_=>by simp[cj]
 |(a,b)::r,k,v=>by
  have:=tJ r k v;simp only[cj];split
  .simp
  .simp only[Rf];omega
theorem d50(p:Prog)(hb:p.aZ.length<=1000000000000):bL prog 124 [ag p.c] [] (.mp 0) [(0,io (Lo (B3 p)))] 1:=by
 refine aw ab func124 D (by decide) ntmps124 D (by simp) ?_;refine gA D ?_;refine aD 0 p.aZ.length (QN _) (fun i=>⟨[(3,.mp 1),(13,.iv (de 4 p.aZ Decl.c)),(14,pI p.aZ.length),(15,pI i)],[(1,io (Lo ((p.aZ.take i).foldl jb [])))],2⟩) (fun _=>True) [] ac
  (zW (DV D Gw D trivial)) fun i x _=>?_
 refine zJ D D (fun d=>?_) fun d=>?_
 .have d:=bv d;have u:=dz (g:=jb) (b:=[]) d;refine zJ D D (fun j=>?_) fun j=>?_
  .have j:eH .str ((p.aZ.take i).foldl jb []) (p.aZ.getD i co).name=lc:=by simpa using j
   rw[jb,be (by rw[j];simp)]at u;refine mu D ?_ ?_
   .repeat' (first|exact ac|exact rfl|exact Gy _|exact aC.refl _|apply Rm)
    all_goals omega
   exact⟨d,ac,[],zW (hM D (by rw[u,<-Ln (p.aZ.getD i co)];rfl) D ac)⟩
  .have j:eH .str ((p.aZ.take i).foldl jb []) (p.aZ.getD i co).name=kw:=by simpa using j
   rw[jb,am j]at u;refine gA D ⟨d,ac,[],zW (hM D (by rw[u]) D ac)⟩
 .have d:=ci d;rw[QM d];refine gA D (zD [1] D (zW (zC ac)))
def uX(p:Prog)(a:Atom):Bool:=!eH .str (B3 p) a.rel
def l3(p:Prog)(s:ae):Decl:=bG .str (B3 p) s Decl.z
def x7(p:Prog)(a:Atom):Bool:=!li ((a.ad.length:Int)=((l3 p a.rel).types.length:Int))
theorem d113(p:Prog)(a:Atom):bL prog 163 [ag a.c,.ptr 0 0] [.cells [.iv (cF p)]] (pB (uX p a)) [(0,io (.cells [.iv (cF p)]))] 1:=by
 refine aw ab func163 D (by decide) ntmps163 D (by simp) ?_;refine gA D (zD [] D (zM ⟨.of_eq D,rfl,ac⟩ (zO ac)))
theorem d115(p:Prog)(a:Atom):bL prog 165 [ag a.c,.ptr 0 0] [.cells [.iv (cF p)]] (pB (x7 p a)) [(0,io (.cells [.iv (cF p)]))] 1:=by
 refine aw ab func165 D (by decide) ntmps165 D (by simp) ?_;refine gA D (zD [] D (zM ⟨.of_eq D,rfl,ac⟩ (zO ac)))
theorem i187(l:List Int):bL prog 186 [.iv (de 1 l cR),.cK (.func 155) [] []] [] (pI (qj (fun x=>!li (x=1)&&!li (x=2)) l)) [] 0:=by
 refine ru (bY func186 D (by decide)) ⟨_,_,Q3⟩ fun j=>?_;simp only[maxLen]at j;refine aw ab func186 D (by decide) ntmps186 D (by simp) ?_;refine gA D ?_
 refine aD 0 l.length (QN _) (fun i=>⟨[(0,.iv (de 1 l cR)),(1,.cK (.func 155) [] []),(7,pI l.length),(8,pI i)],[],0⟩) (fun i=>(l.take i).any (fun x=>!li (x=1)&&!li (x=2))=lc) [] (by simp)
  (zW trivial) fun i y u=>?_
 refine zJ D D (fun b=>?_) fun b=>?_
 .have b:=bv b;refine gA D (zp (Qa (l.getD i co)) ?_);refine zJ D D (fun d=>?_) fun d=>?_
  .have d:(fun x=>!li (x=1)&&!li (x=2)) (l.getD i co)=kw:=d;rw[iB u b d];refine gA D (zD [] D (zW ac))
  .have d:(fun x=>!li (x=1)&&!li (x=2)) (l.getD i co)=lc:=d;refine gA D ⟨b,(cP u b).2 d,[],zW ac⟩
 .have b:=ci b;rw[gl (any_none u b)];refine gA D (zD [] D (zW ac))
theorem d153(l:List Int):bL prog 154 [.iv (de 1 l cR),.cK (.func 155) [] []] [] (pB (l.any (fun x=>!li (x=1)&&!li (x=2)))) [] 0:=by
 refine aw ab func154 D (by decide) ntmps154 D (by simp) ?_;refine gA D (zq [] (i187 l) ?_);refine gA D (zD [] D (zM ⟨.of_eq (mF (iC _ l)),rfl,ac⟩ ac))
theorem i191(l:List Term):bL prog 224 [.iv (de 5 l Term.c),.cK (.func 194) [] []] [] (pI (qj (fun x:Term=>li (x.kind=3)) l)) [] 0:=by
 refine ru (bY func224 D (by decide)) ⟨_,_,Q3⟩ fun j=>?_;simp only[maxLen]at j;refine aw ab func224 D (by decide) ntmps224 D (by simp) ?_;refine gA D ?_
 refine aD 0 l.length (QN _) (fun i=>⟨[(0,.iv (de 5 l Term.c)),(1,.cK (.func 194) [] []),(7,pI l.length),(8,pI i)],[],0⟩) (fun i=>(l.take i).any (fun x:Term=>li (x.kind=3))=lc) [] (by simp)
  (zW trivial) fun i y u=>?_
 refine zJ D D (fun b=>?_) fun b=>?_
 .have b:=bv b;refine gA D (zp (P9 (l.getD i co)) ?_);refine zJ D D (fun d=>?_) fun d=>?_
  .have d:(fun x:Term=>li (x.kind=3)) (l.getD i co)=kw:=d;rw[iB u b d];refine gA D (zD [] D (zW ac))
  .have d:(fun x:Term=>li (x.kind=3)) (l.getD i co)=lc:=d;refine gA D ⟨b,(cP u b).2 d,[],zW ac⟩
 .have b:=ci b;rw[gl (any_none u b)];refine gA D (zD [] D (zW ac))
theorem d157(l:List Term):bL prog 193 [.iv (de 5 l Term.c),.cK (.func 194) [] []] [] (pB (l.any (fun x:Term=>li (x.kind=3)))) [] 0:=by
 refine aw ab func193 D (by decide) ntmps193 D (by simp) ?_;refine gA D (zq [] (i191 l) ?_);refine gA D (zD [] D (zM ⟨.of_eq (mF (iC _ l)),rfl,ac⟩ ac))
theorem i192(l:List Lit):bL prog 130 [.iv (de 30 l Lit.c),.cK (.func 195) [] []] [] (pI (qj (fun x:Lit=>li (x.kind=4)) l)) [] 0:=by
 refine ru (bY func130 D (by decide)) ⟨_,_,Q3⟩ fun j=>?_;simp only[maxLen]at j;refine aw ab func130 D (by decide) ntmps130 D (by simp) ?_;refine gA D ?_
 refine aD 0 l.length (QN _) (fun i=>⟨[(0,.iv (de 30 l Lit.c)),(1,.cK (.func 195) [] []),(7,pI l.length),(8,pI i)],[],0⟩) (fun i=>(l.take i).any (fun x:Lit=>li (x.kind=4))=lc) [] (by simp)
  (zW trivial) fun i y u=>?_
 refine zJ D D (fun b=>?_) fun b=>?_
 .have b:=bv b;refine gA D (zp (P8 (l.getD i co)) ?_);refine zJ D D (fun d=>?_) fun d=>?_
  .have d:(fun x:Lit=>li (x.kind=4)) (l.getD i co)=kw:=d;rw[iB u b d];refine gA D (zD [] D (zW ac))
  .have d:(fun x:Lit=>li (x.kind=4)) (l.getD i co)=lc:=d;refine gA D ⟨b,(cP u b).2 d,[],zW ac⟩
 .have b:=ci b;rw[gl (any_none u b)];refine gA D (zD [] D (zW ac))
theorem d159(l:List Lit):bL prog 101 [.iv (de 30 l Lit.c),.cK (.func 195) [] []] [] (pB (l.any (fun x:Lit=>li (x.kind=4)))) [] 0:=by
 refine aw ab func101 D (by decide) ntmps101 D (by simp) ?_;refine gA D (zq [] (i192 l) ?_);refine gA D (zD [] D (zM ⟨.of_eq (mF (iC _ l)),rfl,ac⟩ ac))
theorem OD(p:Prog)(l:List Atom):bL prog 192 [.iv (de 2 l Atom.c),.cK (.func 163) [] [.ptr 0 0]] [.cells [.iv (cF p)]] (pI (qj (fun x:Atom=>uX p x) l)) [(0,io (.cells [.iv (cF p)]))] 1:=by
 refine ru (bY func192 D (by decide)) ⟨_,_,Q3⟩ fun j=>?_;simp only[maxLen]at j;refine aw ab func192 D (by decide) ntmps192 D (by simp) ?_;refine gA D ?_
 refine aD 0 l.length (QN _) (fun i=>⟨[(0,.iv (de 2 l Atom.c)),(1,.cK (.func 163) [] [.ptr 0 0]),(7,pI l.length),(8,pI i)],[(0,io (.cells [.iv (cF p)]))],1⟩) (fun i=>(l.take i).any (fun x:Atom=>uX p x)=lc) [] (by simp)
  (zW (zO trivial)) fun i y u=>?_
 refine zJ D D (fun b=>?_) fun b=>?_
 .have b:=bv b;refine gA D (zq [0] (d113 p (l.getD i co)) ?_);refine zJ D D (fun d=>?_) fun d=>?_
  .have d:(fun x:Atom=>uX p x) (l.getD i co)=kw:=d;rw[iB u b d];refine gA D (zD [] D (zW (zO ac)))
  .have d:(fun x:Atom=>uX p x) (l.getD i co)=lc:=d;refine gA D ⟨b,(cP u b).2 d,[],zW (zO ac)⟩
 .have b:=ci b;rw[gl (any_none u b)];refine gA D (zD [] D (zW (zO ac)))
theorem OZ(p:Prog)(l:List Atom):bL prog 161 [.iv (de 2 l Atom.c),.cK (.func 163) [] [.ptr 0 0]] [.cells [.iv (cF p)]] (pB (l.any (fun x:Atom=>uX p x))) [(0,io (.cells [.iv (cF p)]))] 1:=by
 refine aw ab func161 D (by decide) ntmps161 D (by simp) ?_;refine gA D (zq [0] (OD p l) ?_);refine gA D (zD [] D (zM ⟨.of_eq (mF (iC _ l)),rfl,ac⟩ (zO ac)))
theorem OC(p:Prog)(l:List Atom):bL prog 192 [.iv (de 2 l Atom.c),.cK (.func 165) [] [.ptr 0 0]] [.cells [.iv (cF p)]] (pI (qj (fun x:Atom=>x7 p x) l)) [(0,io (.cells [.iv (cF p)]))] 1:=by
 refine ru (bY func192 D (by decide)) ⟨_,_,Q3⟩ fun j=>?_;simp only[maxLen]at j;refine aw ab func192 D (by decide) ntmps192 D (by simp) ?_;refine gA D ?_
 refine aD 0 l.length (QN _) (fun i=>⟨[(0,.iv (de 2 l Atom.c)),(1,.cK (.func 165) [] [.ptr 0 0]),(7,pI l.length),(8,pI i)],[(0,io (.cells [.iv (cF p)]))],1⟩) (fun i=>(l.take i).any (fun x:Atom=>x7 p x)=lc) [] (by simp)
  (zW (zO trivial)) fun i y u=>?_
 refine zJ D D (fun b=>?_) fun b=>?_
 .have b:=bv b;refine gA D (zq [0] (d115 p (l.getD i co)) ?_);refine zJ D D (fun d=>?_) fun d=>?_
  .have d:(fun x:Atom=>x7 p x) (l.getD i co)=kw:=d;rw[iB u b d];refine gA D (zD [] D (zW (zO ac)))
  .have d:(fun x:Atom=>x7 p x) (l.getD i co)=lc:=d;refine gA D ⟨b,(cP u b).2 d,[],zW (zO ac)⟩
 .have b:=ci b;rw[gl (any_none u b)];refine gA D (zD [] D (zW (zO ac)))
theorem OY(p:Prog)(l:List Atom):bL prog 161 [.iv (de 2 l Atom.c),.cK (.func 165) [] [.ptr 0 0]] [.cells [.iv (cF p)]] (pB (l.any (fun x:Atom=>x7 p x))) [(0,io (.cells [.iv (cF p)]))] 1:=by
 refine aw ab func161 D (by decide) ntmps161 D (by simp) ?_;refine gA D (zq [0] (OC p l) ?_);refine gA D (zD [] D (zM ⟨.of_eq (mF (iC _ l)),rfl,ac⟩ (zO ac)))
def cD(l:Lit):List Atom:=if l.kind=1∨l.kind=2 then[l.atom] else[]
theorem o7: ∀l:List Lit,(l.flatMap cD).length<=l.length
 | []=>by simp
 |x::r=>by
  have b:=o7 r;have d:(cD x).length<=1:=by unfold cD;split<;>simp
  simp only[Rl,Qv,Rf];omega
def xy(r:ai)(lit:Int):List Lit:=if(aj r lit).kind=4 then(aj r lit).an else[aj r lit]
def eI(r:ai)(lit:Int):List Atom:=if lit<0 then[r.head] else(xy r lit).flatMap cD
theorem Jh(r:ai)(lit:Int)(h:0<=lit):lE (.c5 30 ((lit+1).toNat-lit.toNat) (fun j=>(r.body.getD (lit.toNat+j) co).c)) (lits [aj r lit]):=by
 have e:(lit+1).toNat-lit.toNat=1:=by omega
 rw[e]
 exact .c5 D (fun j b=>by
  have:j=0:=by omega
  subst this;rfl)
theorem O2(r:ai)(lit:Int)(h1:lit<r.body.length)(hb:r.size<=1000000000000):Pure prog 162 [ag r.c,pI lit] (.iv (de 2 (eI r lit) Atom.c)):=by
 have Y:=Lit.aA r.body;have h0:Lit.az r.body<=r.size:=Tf _ _;refine ar ab func162 D (by decide) ntmps162 D (by simp) D ?_;refine zJ D D (fun A=>?_) fun A=>?_
 .have A:lit<0:=by simpa using A
  refine gA D (fS (by first|exact .inr D|exact .inl D) D D (by rw[eI,am A];rfl) (by rw[eI,am A];rfl))
 have A: ¬lit<0:=by simpa using A
 have hk:lit.toNat<r.body.length:=by omega
 have J:=Lit.aV r.body lit.toNat hk;have b0:=(aj r lit).size_eq;have c0:=Lit.aA (aj r lit).an;have a0:(aj r lit).size<=Lit.az r.body:=J;refine zJ D D (fun B=>?_) fun B=>?_
 .have B:(aj r lit).kind=4:=by simpa[aj]using B
  have y:eI r lit=(aj r lit).an.flatMap cD:=by rw[eI,be A,xy,am B]
  refine gA D ?_;refine nX 6 2 D ?_;refine aD 0 ((aj r lit).an).length (QN _) (fun i=>⟨[(6,.sl 2 0 ((((aj r lit).an).take i).flatMap cD).length 2),(30,.iv (lits ((aj r lit).an))),(31,pI ((aj r lit).an).length),(32,pI i)],[(2,io (aW 2 ((((aj r lit).an).take i).flatMap cD) Atom.c))],3⟩) (fun _=>True) [1] ac
   (zM (bi ⟨.iv (mX _),rfl,bi (bi trivial)⟩) (zS trivial)) fun i Z _=>?_
  have I:=o7 (((aj r lit).an).take i);have S:(((aj r lit).an).take i).length<=((aj r lit).an).length:=by rw[RW];exact T8 _ _
  have G:((aj r lit).an).length<=1000000000000:=by first|omega|(rw[Rp];omega)
  refine zJ D D (fun d=>?_) fun d=>?_
  .have d:i<((aj r lit).an).length:=zN d;have b:=bn (f:=cD) d;have j:((((aj r lit).an).getD i co).kind=1∨(((aj r lit).an).getD i co).kind=2)->(((aj r lit).an).take (i+1)).flatMap cD=(((aj r lit).an).take i).flatMap cD++ [(((aj r lit).an).getD i co).atom]:=fun h=>by rw[b,cD,am h]
   have F: ¬((((aj r lit).an).getD i co).kind=1∨(((aj r lit).an).getD i co).kind=2)->(((aj r lit).an).take (i+1)).flatMap cD=(((aj r lit).an).take i).flatMap cD:=fun h=>by rw[b,cD,be h,Ro]
   refine zJ D D (fun u=>?_) fun u=>?_
   .have u: ¬(((aj r lit).an).getD i co).kind=1:=by simpa using u
    refine zJ D D (fun x=>?_) fun x=>?_
    .have x:(((aj r lit).an).getD i co).kind=2:=by simpa using x
     have b:=j (.inr x);refine gA D ⟨d,ac,[5],zM ⟨.row (by rw[b,Qv];rfl),rfl,bi (bi (bi ac))⟩ (hR D (by rw[b,QO];rfl) D ac)⟩
    .have x: ¬(((aj r lit).an).getD i co).kind=2:=by simpa using x
     have b:=F (fun h=>h.elim u x);refine gA D ⟨d,ac,[2],zM ⟨.row (by rw[b]),rfl,bi (bi (bi ac))⟩ (hR D (by rw[b]) D ac)⟩
   .have u:(((aj r lit).an).getD i co).kind=1:=by simpa using u
    have b:=j (.inl u);refine gA D ⟨d,ac,[5],zM ⟨.row (by rw[b,Qv];rfl),rfl,bi (bi (bi ac))⟩ (hR D (by rw[b,QO];rfl) D ac)⟩
  .have d:((aj r lit).an).length<=i:=zG d;rw[QM d] at*
   refine gA D (fS (by first|exact .inr D|exact .inl D) D D (by rw[y]) (by rw[y]))
 .have B: ¬(aj r lit).kind=4:=by simpa[aj]using B
  have y:eI r lit=[aj r lit].flatMap cD:=by rw[eI,be A,xy,be B]
  refine gA D ?_;refine nX 6 2 D ?_;refine aD 0 ([aj r lit]).length (QN _) (fun i=>⟨[(6,.sl 2 0 ((([aj r lit]).take i).flatMap cD).length 2),(30,.iv (lits ([aj r lit]))),(31,pI ([aj r lit]).length),(32,pI i)],[(2,io (aW 2 ((([aj r lit]).take i).flatMap cD) Atom.c))],3⟩) (fun _=>True) [1] ac
   (zM (bi ⟨.iv (Jh r lit (by omega)),rfl,.of_eq (Ff (by simp only[Rp];omega)),rfl,bi trivial⟩) (zS trivial)) fun i Z _=>?_
  have I:=o7 (([aj r lit]).take i);have S:(([aj r lit]).take i).length<=([aj r lit]).length:=by rw[RW];exact T8 _ _
  have G:([aj r lit]).length<=1000000000000:=by first|omega|(rw[Rp];omega)
  refine zJ D D (fun d=>?_) fun d=>?_
  .have d:i<([aj r lit]).length:=zN d;have b:=bn (f:=cD) d;have j:((([aj r lit]).getD i co).kind=1∨(([aj r lit]).getD i co).kind=2)->(([aj r lit]).take (i+1)).flatMap cD=(([aj r lit]).take i).flatMap cD++ [(([aj r lit]).getD i co).atom]:=fun h=>by rw[b,cD,am h]
   have F: ¬((([aj r lit]).getD i co).kind=1∨(([aj r lit]).getD i co).kind=2)->(([aj r lit]).take (i+1)).flatMap cD=(([aj r lit]).take i).flatMap cD:=fun h=>by rw[b,cD,be h,Ro]
   refine zJ D D (fun u=>?_) fun u=>?_
   .have u: ¬(([aj r lit]).getD i co).kind=1:=by simpa using u
    refine zJ D D (fun x=>?_) fun x=>?_
    .have x:(([aj r lit]).getD i co).kind=2:=by simpa using x
     have b:=j (.inr x);refine gA D ⟨d,ac,[5],zM ⟨.row (by rw[b,Qv];rfl),rfl,bi (bi (bi ac))⟩ (hR D (by rw[b,QO];rfl) D ac)⟩
    .have x: ¬(([aj r lit]).getD i co).kind=2:=by simpa using x
     have b:=F (fun h=>h.elim u x);refine gA D ⟨d,ac,[2],zM ⟨.row (by rw[b]),rfl,bi (bi (bi ac))⟩ (hR D (by rw[b]) D ac)⟩
   .have u:(([aj r lit]).getD i co).kind=1:=by simpa using u
    have b:=j (.inl u);refine gA D ⟨d,ac,[5],zM ⟨.row (by rw[b,Qv];rfl),rfl,bi (bi (bi ac))⟩ (hR D (by rw[b,QO];rfl) D ac)⟩
  .have d:([aj r lit]).length<=i:=zG d;rw[QM d] at*
   refine gA D (fS (by first|exact .inr D|exact .inl D) D D (by rw[y]) (by rw[y]))
theorem d110(p:Prog)(r:ai)(lit:Int)(h1:lit<r.body.length)(hb:r.size<=1000000000000):bL prog 160 [pI lit,.ptr 0 0,.ptr 1 0] [au r.c,.cells [.iv (cF p)]] (pB ((eI r lit).any fun x=>uX p x)) [(0,io (au r.c)),(1,io (.cells [.iv (cF p)]))] 2:=by
 refine aw ab func160 D (by decide) ntmps160 D (by simp) ?_;refine gA D (zp (O2 r lit h1 hb) ?_);refine gA D (zq [1] (OZ p (eI r lit)) ?_);refine gA D (zD [] D (zW (zK (zO ac))))
theorem d114(p:Prog)(r:ai)(lit:Int)(h1:lit<r.body.length)(hb:r.size<=1000000000000):bL prog 164 [pI lit,.ptr 0 0,.ptr 1 0] [au r.c,.cells [.iv (cF p)]] (pB ((eI r lit).any fun x=>x7 p x)) [(0,io (au r.c)),(1,io (.cells [.iv (cF p)]))] 2:=by
 refine aw ab func164 D (by decide) ntmps164 D (by simp) ?_;refine gA D (zp (O2 r lit h1 hb) ?_);refine gA D (zq [1] (OY p (eI r lit)) ?_);refine gA D (zD [] D (zW (zK (zO ac))))
def kH(r:ai)(lit:Int):Bool:=if lit<0 then r.head.ad.any fun x=>li (x.kind=3) else if(aj r lit).kind=4 then((aj r lit).an.any fun x=>li (x.kind=4))||aJ (aR (aj r lit).agg) (aj r lit).ba else lc
theorem Qe(r:ai)(lit:Int)(h1:lit<r.body.length)(hb:r.size<=100000000):Pure prog 167 [ag r.c,pI lit] (pB (kH r lit)):=by
 have G:=Lit.aA r.body;have Y:Lit.az r.body<=r.size:=Tf _ _;refine ar ab func167 D (by decide) ntmps167 D (by simp) D ?_;refine zJ D D (fun b=>?_) fun b=>?_
 .have b:lit<0:=by simpa using b
  refine gA D (zq [] (d157 r.head.ad) ?_);refine gA D (zL (.of_eq ?_));rw[kH,am b];rfl
 have b: ¬lit<0:=by simpa using b
 have I:lit.toNat<r.body.length:=by omega
 have A:=Lit.aV r.body lit.toNat I;have B:=(aj r lit).j1;have J:(aj r lit).size<=Lit.az r.body:=A;have F:=j3 (aj r lit).agg;refine zJ D D (fun d=>?_) fun d=>?_
 .have d: ¬(aj r lit).kind=4:=by simpa[aj]using d
  refine gA D (zL (.of_eq ?_));rw[kH,be b,be d]
 have d:(aj r lit).kind=4:=by simpa[aj]using d
 refine gA D (bc [] (bL.le (aa:=[.iv (Aj (aj r lit).an),.cK (.func 195) [] []]) (d159 (aj r lit).an) ⟨.iv (mX _),.refl _,ac⟩) D D D D D D D D ?_);refine zE D D (fun j=>?_) fun j=>?_
 .have j:((aj r lit).an.any fun x=>li (x.kind=4))=lc:=j;have y:=bf (aR (aj r lit).agg) (aj r lit).ba;have u:=bO (occ:=aR (aj r lit).agg) (s:=(aj r lit).ba);refine gA D (zd [] (d127 (aj r lit).agg (by omega)) ?_);refine gA D (zL (.of_eq ?_));refine(mF ?_:pB (li (bG .str (aq (aR (aj r lit).agg)) (aj r lit).ba 0>0))=_);rw[kH,be b,am d,j,u,y,R4];by_cases S:oq (aR (aj r lit).agg) (aj r lit).ba=0<;>simp[S];omega
 .have j:((aj r lit).an.any fun x=>li (x.kind=4))=kw:=j;refine gA D (zL (.of_eq ?_));rw[kH,be b,am d,j];rfl
theorem d116(r:ai)(lit:Int)(h1:lit<r.body.length)(hb:r.size<=100000000):bL prog 166 [pI lit,.ptr 0 0] [au r.c] (pB (kH r lit)) [(0,io (au r.c))] 1:=by
 refine aw ab func166 D (by decide) ntmps166 D (by simp) ?_;refine gA D (zp (Qe r lit h1 hb) ?_);refine gA D (zD [] D (zW (zK ac)))
def qS(r:ai)(lit:Int):Pos:=if lit<0 then r.at_ else(aj r lit).at
theorem GS(r:ai)(lit:Int)(h1:lit<r.body.length):Pure prog 171 [ag r.c,pI lit] (ag [iI (qS r lit).line,iI (qS r lit).yg]):=by
 refine ar ab func171 D (by decide) ntmps171 D (by simp) D ?_;refine zJ D D (fun b=>?_) fun b=>?_
 .have b:lit<0:=by simpa using b
  refine gA D (zL (.of_eq ?_));rw[qS,am b];rfl
 have b: ¬lit<0:=by simpa using b
 refine gA D (zL (.of_eq ?_));rw[qS,be b];rfl
def lO(r:ai)(l:Lit):Nat:=if l.kind=4 then(lh r l.agg).length else 0
def EO(r:ai):Nat:=r.body.foldl (fun n l=>n+lO r l) (aq (ax r)).length
theorem vP(r:ai)(l:Lit):lO r l<=l.size:=by
 unfold lO;split
 .have b:(lh r l.agg).length<=(aq (aR l.agg)).length:=RP _ _;have d:=jD (aR l.agg);have j:=j3 l.agg;have u:=l.j1;omega
 .omega
theorem yD(r:ai): ∀(l:List Lit) (n:Nat),l.foldl (fun n l=>n+lO r l) n<=n+Lit.az l
 | [],n=>by simp
 |x::t,n=>by
  have b:=yD r t (n+lO r x);have d:=vP r x;simp only[Rc,Lit.az];omega
theorem Qf(r:ai)(hb:r.size<=100000000):Pure prog 159 [.iv (cv r)] (pI (EO r)):=by
 have A:=Lit.aA r.body;have J:Lit.az r.body<=r.size:=Tf _ _;have Y:=pX r;have B:=jD (ax r);refine ar ab func159 D (by decide) ntmps159 D (by simp) D ?_;refine gA D ?_;refine aD 0 r.body.length (QN _) (fun i=>⟨[(0,.iv (cv r)),(3,pI (((r.body.take i).foldl (fun n l=>n+lO r l) (aq (ax r)).length:Nat))),(15,.iv (lits r.body)),(16,pI r.body.length),(17,pI i)],[],0⟩) (fun _=>True) [] ac
  (zW trivial) fun i S _=>?_
 have F:=yD r (r.body.take i) (aq (ax r)).length;have G:=Lit.tr r.body i;refine zJ D D (fun d=>?_) fun d=>?_
 .have d:=bv d;have u:=dz (g:=fun n l=>n+lO r l) (b:=(aq (ax r)).length) d;have I:=Lit.aV r.body i d;have y:=(r.body.getD i co).j1;have x:=vP r (r.body.getD i co);refine zJ D D (fun j=>?_) fun j=>?_
  .have j:(r.body.getD i co).kind=4:=by simpa using j
   rw[lO,am j]at u x;refine gA D (zq [] (d79 r (r.body.getD i co).agg (by omega)) ?_);refine gA D ⟨d,ac,[],zM (bi ⟨.of_eq (Ff (by rw[u];rfl)),rfl,bi (bi (bi ac))⟩) ac⟩
  .have j: ¬(r.body.getD i co).kind=4:=by simpa using j
   rw[lO,be j]at u;refine gA D ⟨d,ac,[],zM (bi ⟨.of_eq (Ff (by rw[u];rfl)),rfl,bi (bi (bi ac))⟩) ac⟩
 .have d:=ci d;refine gA D (zL (.of_eq ?_));rw[QM d];rfl
section
section
variable {may:List ae->Expr->Bool} {more:List ae->eM->Bool} {body:List Lit}
theorem r7: ∀(n:Nat) (occ:List ae),cA (bH body) occ<n->bS (may (c8 may more body n occ)) (more (c8 may more body n occ)) (c8 may more body n occ) body=jp
 |0,occ,h=>by omega
 |n+1,occ,h=>by
  cases hv:bS (may occ) (more occ) occ body with
  |none=>rw[ew hv];exact hv
  |some v=>
   rw[ep hv];refine r7 n _ ?_;obtain⟨g1,g2⟩:=jR hv;have d:=p5 g1 g2;have b:cA (bH body) (occ++ [v])=cA (bH body) (dt occ v):=by
    unfold cA;congr 2
    funext x
    congr 1;rw[RS,aI,aI,cT,QK,QJ]
   omega
theorem sa(occ:List ae):bS (may (bX may more body occ)) (more (bX may more body occ)) (bX may more body occ) body=jp:=by
 refine r7 _ _ ?_;have b:=p6 (bH body) (occ++body.flatMap bj);have d:=jr body;omega
theorem nE: ∀(n:Nat) (occ:List ae),∀x∈occ,x∈c8 may more body n occ
 |0,occ,x,h=>h
 |n+1,occ,x,h=>by
  cases hv:bS (may occ) (more occ) occ body with
  |none=>rw[ew hv];exact h
  |some v=>rw[ep hv];exact nE n _ x (Q8 _ h)
theorem np{m1:Expr->Bool}{m2:eM->Bool}{occ:List ae}: ∀{l:List Lit},bS m1 m2 occ l=jp-> ∀x∈l,kY m1 m2 occ x=jp
 | [],_,x,hx=>by cases hx
 |y::r,h,x,hx=>by
  simp only[bS]at h;split at h
  .cases h
  .rename_i b;rcases QY.1 hx with rfl|hx
   .exact b
   .exact np h x hx
theorem rX{m1:Expr->Bool}{m2:eM->Bool}{occ:List ae}{v:ae}: ∀{l:List Lit},bS m1 m2 occ l=io v-> ∃x∈l,kY m1 m2 occ x=io v
 | [],h=>by cases h
 |y::r,h=>by
  simp only[bS]at h;split at h
  .rename_i w d;exact⟨y,Q3,d.trans h⟩
  .obtain⟨x,j,b⟩:=rX h;exact⟨x,QR _ j,b⟩
variable (hmay: ∀a b:List ae,(∀x∈a,x∈b)-> ∀e,may a e=kw->may b e=kw) (hmore: ∀a b:List ae,(∀x∈a,x∈b)-> ∀e,more a e=kw->more b e=kw)
include hmay hmore
theorem Cd{occ C:List ae}(b: ∀x∈occ,x∈C){l:Lit}{v:ae}(h:kY (may occ) (more occ) occ l=io v)(hC:kY (may C) (more C) C l=jp):v∈C:=by
 have F: ∀y,y∉C->aJ C y=lc:=fun y J=>bN.2 J;have hnew:=(tZ h).2;refine R7 fun G=>?_;unfold kY at h hC;by_cases d:(fo (may occ) occ l).2=kw
 .rw[am d]at h;simp only[Qu]at h;have B:(fo (may C) C l).2=kw:=by
   unfold fo at d h ⊢;split at d
   .cases d
   .rename_i I;rw[be I]at h ⊢;split at d
    .rename_i u;rw[am u]at h;have A:l.left.var=v:=h;rw[am ⟨u.1,by rw[A];exact F v G,hmay occ C b _ u.2.2⟩]
    .rename_i u;rw[be u]at h;split at d
     .rename_i j;rw[am j]at h;have A:l.right.var=v:=h;split
      .rfl
      .rw[am ⟨j.1,by rw[A];exact F v G,hmay occ C b _ j.2.2⟩]
     .cases d
  rw[am B]at hC;cases hC
 .rw[be d]at h;split at h
  .rename_i j;simp only[Qu]at h;split at hC
   .cases hC
   .rw[am ⟨j.1,by rw[h];exact F v G,hmore occ C b _ j.2.2⟩]at hC;cases hC
  .cases h
theorem kB{C:List ae}(hC:bS (may C) (more C) C body=jp): ∀(n:Nat) (occ:List ae),(∀x∈occ,x∈C)-> ∀x∈c8 may more body n occ,x∈C
 |0,occ,h,x,hx=>h x hx
 |n+1,occ,h,x,hx=>by
  cases hv:bS (may occ) (more occ) occ body with
  |none=>rw[ew hv]at hx;exact h x hx
  |some v=>
   rw[ep hv]at hx;refine kB hC n _ (fun y hy=>?_) x hx;rcases QK.1 hy with hy|hy
   .exact h y hy
   .rw[QJ]at hy;subst hy;obtain⟨l,d,b⟩:=rX hv;exact Cd hmay hmore h b (np hC l d)
theorem r8{d b:List ae}(h: ∀x∈d,x∈b): ∀x∈bX may more body d,x∈bX may more body b:=by
 refine kB hmay hmore (sa b) _ _ fun x hx=>?_;refine nE _ _ x ?_;rcases QK.1 hx with hx|hx
 .exact Q8 _ (h x hx)
 .exact RA _ hx
end
theorem l4(a b:List ae)(h: ∀x∈a,x∈b)(e:Expr)(hc:aQ a e=kw):aQ b e=kw:=by
 unfold aQ at*
 rw[Q7] at*
 exact fun x d=>aI.2 (h x (aI.1 (hc x d)))
theorem yX(a b:List ae)(h: ∀x∈a,x∈b)(e:Expr)(hc:cm a e=kw):cm b e=kw:=by
 unfold cm at*
 cases hk:li (e.kind=2) with
 |true=>simp
 |false=>
  rw[hk,R4,Q5]at hc;rw[R4,Q5];exact⟨hc.1,aI.2 (h _ (aI.1 hc.2))⟩
theorem A6(out:List ae)(a b:List ae)(h: ∀x∈a,x∈b)(e:eM)(hc:iT out a e=kw):iT out b e=kw:=by
 unfold iT at*
 rw[Q7] at*
 intro x d;have:=hc x d;rw[R9,R9] at*
 rcases this with h1|h1|h1
 .exact .inl h1
 .exact .inr (.inl h1)
 .exact .inr (.inr (aI.2 (h _ (aI.1 h1))))
def Bf(r:ai)(a:eM):List ae:=((aq (aR a)).map (·.1)).filter fun x=>aJ (ax r) x
def A2(r:ai)(a:eM):List ae:=bX (fun b=>aQ b) (fun _=>fun _=>lc) a.body (Bf r a)
theorem I7{r:ai}{a:eM}{occ:List ae}(h:FO r a occ)(s:ae):aJ (bX (fun occ=>aQ occ) (fun _=>fun _=>lc) a.body occ) s=aJ (A2 r a) s:=by
 have d: ∀x,x∈Bf r a↔x∈occ:=fun x=>by
  unfold Bf;rw[Rn,(cS (aR a)).2 x,aI,h.2 x]
 rw[RS,aI,aI];exact⟨r8 (more:=fun _=>fun _=>lc) l4 (fun _ _ _ _ h=>h) (fun x b=>(d x).2 b) s,r8 (more:=fun _=>fun _=>lc) l4 (fun _ _ _ _ h=>h) (fun x b=>(d x).1 b) s⟩
def pd(r:ai)(m:NM):Bool:=m.any fun x=>!aJ (bq r) x.1
theorem mT{r:ai}{m:NM}(h: ∀j,j<m.length-> ∀x,m[j]? =io x->aJ (bq r) x.1=kw):pd r m=lc:=by
 refine RD.2 fun x d=>?_;obtain⟨j,b⟩:=RE d;rw[h j (Qw.1 b).1 x b];simp
theorem pc{r:ai}{m:NM}{j:Nat}{x:(KC.str).K×Int}(h:m[j]? =io x)(b:aJ (bq r) x.1=lc):pd r m=kw:=
 RR.2 ⟨x,Rk h,by rw[b];rfl⟩
def kq(r:ai)(a:eM):NM:=(aq (aR a)).filter fun x=>!aJ ((lh r a).map (·.1)) x.1
def gz(r:ai)(lit:Int):Bool:=
 if lit<0 then pd r (aq (bA r.head))
 else if(aj r lit).kind=4 then(lh r (aj r lit).agg).any (fun x=>!aJ (A2 r (aj r lit).agg) x.1)||pd r (bump (kq r (aj r lit).agg) (aj r lit).ba)
 else pd r (aq (bb (aj r lit)))
theorem PK(a:Atom)(hb:a.ad.length<=100000000000):bL prog 135 [.mp 0,ag a.c] [.fg] (.bB []) [(0,io (bI (aq (bA a))))] 1:=
 bL.Lh (d88 [] a (by simp;omega)) ⟨sL,ac⟩
theorem PJ(l:Lit)(hb:l.size<=100000000000):bL prog 136 [.mp 0,ag l.c] [.fg] (.bB []) [(0,io (bI (aq (bb l))))] 1:=
 bL.Lh (d89 l [] (by simp;omega)) ⟨sL,ac⟩
theorem vQ(f:ae->Bool)(s:ae): ∀(m:NM),bG .str (m.filter fun x=>f x.1) s 0=if f s=kw then bG .str m s 0 else 0
 | []=>by simp[bG]
 |(a,b)::r=>by
  have d:=vQ f s r;cases hf:f a with
  |true=>
   rw[List.filter_cons_of_pos (by exact hf)];simp only[bG];split
   .rename_i h;subst h;rw[am hf]
   .exact d
  |false=>
   rw[List.filter_cons_of_neg (by simp[hf]),d];simp only[bG];split
   .rename_i h;split
    .rename_i j;subst j;rw[hf]at h;cases h
    .rfl
   .rfl
theorem Jg(r:ai)(a:eM)(s:ae):0<=bG .str (kq r a) s 0∧bG .str (kq r a) s 0<=oq (aR a) s:=by
 have b:=bf (aR a) s;have d:=vQ (fun x=>!aJ ((lh r a).map (·.1)) x) s (aq (aR a));unfold kq;rw[d,b];split<;>omega
set_option maxHeartbeats 2000000 in
theorem Qc(r:ai)(lit:Int)(hl:lit<r.body.length)(hb:r.size<=10000000):Pure prog 170 [.iv (cv r),pI lit] (pB (gz r lit)):=by
 have t0:=Lit.aA r.body;have h0:Lit.az r.body<=r.size:=Tf _ _;have q0:r.head.ad.length<=r.size:=Nat.le_add_right _ _;have a1:=Ba r;refine ar ab func170 D (by decide) ntmps170 D (by simp) D ?_;refine gA D (zq [] (d73 r (by omega)) ?_);refine zJ D D (fun G=>?_) fun G=>?_
 .have G:lit<0:=by simpa using G
  refine gA D (zq [1] (PK r.head (by omega)) ?_);refine gA D ?_;have e0:(aq (bA r.head)).length<=1000000000000:=by have:=jD (bA r.head);have:=fu r.head;omega
  refine fZ (aq (bA r.head)) (fun d=>⟨[(5,.mp 0),(76,.ptr 2 0)],[(0,io (bI (aq (bq r)))),(2,io (.bQ .str wo (aq (bA r.head)) d jp))],3⟩) (fun d=> ∀j∈d,∀x,(aq (bA r.head))[j]? =io x->aJ (bq r) x.1=kw) [] (by simp)
   (zW (zC (hI D D (.inl D) D trivial))) fun d I=>?_
  refine mu D ac (ei D D D D D (by decide) (fun u=>?_) fun j x b B=>?_)
  .refine gA D (zL (.of_eq ?_));refine(mF ?_:pB lc=_);rw[gz,am G,mT fun j B x b=>I j (u j B) x b]
  .have Z:=bf (bq r) x.1;have A:=bO (occ:=bq r) (s:=x.1);refine zJ D D (fun g1=>?_) fun g1=>?_
   .have g1:aJ (bq r) x.1=lc:=by
     have:=zT g1;rw[A];simp;omega
    refine gA D (zL (.of_eq ?_));refine(mF ?_:pB kw=_);rw[gz,am G,pc b g1]
   .have g1:aJ (bq r) x.1=kw:=by
     have:=zF g1;rw[A];simp;omega
    refine gA D ?_
    exact⟨j,x,b,B,fun i hi y F=>by
     rcases QY.1 hi with rfl|hi
     .rw[b]at F;cases F;exact g1
     .exact I i hi y F,[],zW (zC (hI D D (.inr D) D ac))⟩
 have G: ¬lit<0:=by simpa using G
 have hk:lit.toNat<r.body.length:=by omega
 have p0:=Lit.aV r.body lit.toNat hk;have r0:=(aj r lit).j1;have w0:(aj r lit).size<=Lit.az r.body:=p0;have s0:=j3 (aj r lit).agg;have n0:=lP (aj r lit);refine zE D D (fun J=>?_) fun J=>?_
 .have J: ¬(aj r lit).kind=4:=by simpa[aj]using J
  refine gA D (zq [1] (PJ (aj r lit) (by omega)) ?_);refine gA D ?_;have e0:(aq (bb (aj r lit))).length<=1000000000000:=by have:=jD (bb (aj r lit));omega
  refine fZ (aq (bb (aj r lit))) (fun d=>⟨[(5,.mp 0),(76,.ptr 3 0)],[(0,io (bI (aq (bq r)))),(3,io (.bQ .str wo (aq (bb (aj r lit))) d jp))],4⟩) (fun d=> ∀j∈d,∀x,(aq (bb (aj r lit)))[j]? =io x->aJ (bq r) x.1=kw) [] (by simp)
   (zW (zC (hI D D (.inl D) D trivial))) fun d I=>?_
  refine mu D ac (ei D D D D D (by decide) (fun u=>?_) fun j x b B=>?_)
  .refine gA D (zL (.of_eq ?_));refine(mF ?_:pB lc=_);rw[gz,be G,be J,mT fun j B x b=>I j (u j B) x b]
  .have Z:=bf (bq r) x.1;have A:=bO (occ:=bq r) (s:=x.1);refine zJ D D (fun g1=>?_) fun g1=>?_
   .have g1:aJ (bq r) x.1=lc:=by
     have:=zT g1;rw[A];simp;omega
    refine gA D (zL (.of_eq ?_));refine(mF ?_:pB kw=_);rw[gz,be G,be J,pc b g1]
   .have g1:aJ (bq r) x.1=kw:=by
     have:=zF g1;rw[A];simp;omega
    refine gA D ?_
    exact⟨j,x,b,B,fun i hi y F=>by
     rcases QY.1 hi with rfl|hi
     .rw[b]at F;cases F;exact g1
     .exact I i hi y F,[],zW (zC (hI D D (.inr D) D ac))⟩
 have J:(aj r lit).kind=4:=by simpa[aj]using J
 refine gA D (Cy [] (d161 r (aj r lit).agg (by omega)) D D D D D D D fun q h' n' hR=>?_);obtain⟨ok,⟨occ,i0,o0⟩,rfl,rfl,rfl⟩:=hR;have a0: ∀s,aJ ok s=aJ (A2 r (aj r lit).agg) s:=fun s=>by rw[o0];exact I7 i0 s
 refine⟨_,rfl,?_⟩;have b1:=jD (aR (aj r lit).agg);have x0:(lh r (aj r lit).agg).length<=(aq (aR (aj r lit).agg)).length:=RP _ _;have v0:(kq r (aj r lit).agg).length<=(aq (aR (aj r lit).agg)).length:=RP _ _;have j0:=(cS (aR (aj r lit).agg)).1;refine gA D (zq [] (d79 r (aj r lit).agg (by omega)) ?_);refine gA D ?_;refine fZ (lh r (aj r lit).agg) (fun d=>⟨[(0,.iv (cv r)),(5,.mp 0),(7,.ptr 2 0),(8,.mp 3),(43,.ptr 5 0)],[(0,io (bI (aq (bq r)))),(2,io (au (aj r lit).c)),(3,io (bI (aq ok))),(5,io (.bQ .str wo (lh r (aj r lit).agg) d jp))],6⟩) (fun d=> ∀j∈d,∀x,(lh r (aj r lit).agg)[j]? =io x->aJ (A2 r (aj r lit).agg) x.1=kw) [] (by simp)
  (zW (zC (zK (zC (hI D D (.inl D) D trivial))))) fun d I=>?_
 refine mu D ac (ei D D D D D (by decide) (fun u=>?_) fun j x b B=>?_);rotate_left
 .have Z:=bf ok x.1;have A:=bO (occ:=ok) (s:=x.1);have S:=a0 x.1;refine zJ D D (fun g1=>?_) fun g1=>?_
  .have g1:aJ (A2 r (aj r lit).agg) x.1=lc:=by
    have:=zT g1;rw[<-S,A];simp;omega
   refine gA D (zL (.of_eq ?_));refine(mF ?_:pB kw=_);rw[gz,be G,am J,RR.2 ⟨x,Rk b,by rw[g1];rfl⟩,Tm]
  .have g1:aJ (A2 r (aj r lit).agg) x.1=kw:=by
    have:=zF g1;rw[<-S,A];simp;omega
   refine gA D ?_
   exact⟨j,x,b,B,fun i hi y F=>by
    rcases QY.1 hi with rfl|hi
    .rw[b]at F;cases F;exact g1
    .exact I i hi y F,[],zW (zC (zK (zC (hI D D (.inr D) D ac))))⟩
 have hA:(lh r (aj r lit).agg).any (fun x=>!aJ (A2 r (aj r lit).agg) x.1)=lc:=RD.2 fun x b=>by
  obtain⟨j,B⟩:=RE b;rw[I j (u j (Qw.1 B).1) x B];simp
 refine gA D (zq [] (d127 (aj r lit).agg (by omega)) ?_);refine gA D (zq [] (d79 r (aj r lit).agg (by omega)) ?_);refine gA D ?_;refine fZ (lh r (aj r lit).agg) (fun d=>⟨[(5,.mp 0),(6,.mp 6),(7,.ptr 2 0),(59,.ptr 8 0)],[(0,io (bI (aq (bq r)))),(2,io (au (aj r lit).c)),(6,io (bI ((fY (lh r (aj r lit).agg) d).foldl (fun m k=>mC .str m k) (aq (aR (aj r lit).agg))))),(8,io (.bQ .str wo (lh r (aj r lit).agg) d jp))],9⟩) (fun d=>d.Nodup∧ ∀j∈d,j<(lh r (aj r lit).agg).length) [] ⟨RF,by simp⟩
  (zW (zC (zK (zC (hI D D (.inl D) D trivial))))) fun b0 f0=>?_
 obtain⟨c0,d0⟩:=f0;refine mu D ac (ei D D D D D (by decide) (fun Y=>?_) fun j x b B=>?_);rotate_left
 .have hk:=ko (lh r (aj r lit).agg) b0 j x b;refine gA D ⟨j,x,b,B,⟨RT.2 ⟨B,c0⟩,fun i hi=>(QY.1 hi).elim (fun h=>h▸(Qw.1 b).1) (d0 i)⟩,[],zW (zC (zK (hM D (by rw[hk,Sp];rfl) D (hI D D (.inr D) D ac))))⟩
 have k0:(fY (lh r (aj r lit).agg) b0).foldl (fun m k=>mC .str m k) (aq (aR (aj r lit).agg))=kq r (aj r lit).agg:=by
  rw[nC _ j0];unfold kq;congr 1
  funext x
  congr 1;rw[RS,aI,aI,(jH _ b0 c0 d0 Y).mem_iff]
 rw[k0];have m0:=Jg r (aj r lit).agg (aj r lit).ba;have g0:=dE (aR (aj r lit).agg) (aj r lit).ba;refine gA D ?_;have e0:(bump (kq r (aj r lit).agg) (aj r lit).ba).length<=1000000000000:=by have:=tJ (kq r (aj r lit).agg) (aj r lit).ba (bG .str (kq r (aj r lit).agg) (aj r lit).ba 0+1);unfold bump;omega
 refine fZ (bump (kq r (aj r lit).agg) (aj r lit).ba) (fun d=>⟨[(5,.mp 0),(76,.ptr 9 0)],[(0,io (bI (aq (bq r)))),(9,io (.bQ .str wo (bump (kq r (aj r lit).agg) (aj r lit).ba) d jp))],10⟩) (fun d=> ∀j∈d,∀x,(bump (kq r (aj r lit).agg) (aj r lit).ba)[j]? =io x->aJ (bq r) x.1=kw) [] (by simp)
  (zW (zC (hI D D (.inl D) D trivial))) fun d I=>?_
 refine mu D ac (ei D D D D D (by decide) (fun u=>?_) fun j x b B=>?_)
 .refine gA D (zL (.of_eq ?_));refine(mF ?_:pB lc=_);rw[gz,be G,am J,hA,R4,mT fun j B x b=>I j (u j B) x b]
 .have Z:=bf (bq r) x.1;have A:=bO (occ:=bq r) (s:=x.1);refine zJ D D (fun g1=>?_) fun g1=>?_
  .have g1:aJ (bq r) x.1=lc:=by
    have:=zT g1;rw[A];simp;omega
   refine gA D (zL (.of_eq ?_));refine(mF ?_:pB kw=_);rw[gz,be G,am J,hA,R4,pc b g1]
  .have g1:aJ (bq r) x.1=kw:=by
    have:=zF g1;rw[A];simp;omega
   refine gA D ?_
   exact⟨j,x,b,B,fun i hi y F=>by
    rcases QY.1 hi with rfl|hi
    .rw[b]at F;cases F;exact g1
    .exact I i hi y F,[],zW (zC (hI D D (.inr D) D ac))⟩
end
end Go.Proofs.YtflegjieadkonaaGreatDoor
namespace Go.Proofs.YtflegjieadkonaaGreatDoor
open Go Go.Al
def Hi(a b:ae):Prop:=mA a<mA b
theorem Lu(a b:ae):Op.bytesLess a.toList b.toList=kw↔Hi a b:=by
 rw[ByteArray.toList_eq,ByteArray.toList_eq,bytesLess_eq,decide_eq_true_eq];rfl
theorem wV{a b:ae}(h:mA a=mA b):a=b:=by rw[<-sK a,<-sK b,h]
theorem vO{a b c:ae}(h:Hi a b)(k:Hi b c):Hi a c:=List.lt_trans h k
theorem jE(a:ae): ¬Hi a a:=List.lt_irrefl _
theorem Jf{a b:ae}(h: ¬a=b)(k: ¬Hi a b):Hi b a:=by
 refine R7 fun d=>h (wV (TH ?_ ?_))
 .exact Ub.1 d
 .exact Ub.1 k
abbrev qA(l:List ae):Prop:=l.Pairwise Hi
theorem ue: ∀{l:List ae} (_:qA l) (s:ae),qA (ins l s)
 | [],_,s=>List.pairwise_singleton _ _
 |x::r,h,s=>by
  obtain⟨j,u⟩:=R8.1 h;simp only[ins];split
  .exact h
  .rename_i d;split
   .rename_i b;have b:=(Lu x s).1 b;refine R8.2 ⟨fun y hy=>?_,ue u s⟩;rcases xu.1 hy with hy|rfl
    .exact j y hy
    .exact b
   .rename_i b;have b:Hi s x:=Jf d fun h=>b ((Lu x s).2 h);refine R8.2 ⟨fun y hy=>?_,h⟩;rcases QY.1 hy with rfl|hy
    .exact b
    .exact vO b (j y hy)
theorem iV{l:List ae}(h:qA l)(s:ae):qA (dt l s):=by rw[vk];exact ue h s
theorem gn: ∀{m l:List ae} (_:qA l),qA (bV l m)
 | [],_,h=>h
 |x::r,_,h=>gn (m:=r) (iV h x)
theorem lJ: ∀{a b:List ae},qA a->qA b->(∀x,x∈a↔x∈b)->a=b
 | [],[],_,_,_=>rfl
 | [],y::s,_,_,h=>by have:=(h y).2 Q3;cases this
 |x::r,[],_,_,h=>by have:=(h x).1 Q3;cases this
 |x::r,y::s,ha,hb,h=>by
  obtain⟨u,a2⟩:=R8.1 ha;obtain⟨A,B⟩:=R8.1 hb;have j:x=y:=by
   rcases QY.1 ((h x).1 Q3) with h1|h1
   .exact h1
   .rcases QY.1 ((h y).2 Q3) with h2|h2
    .exact h2.symm
    .exact absurd (vO (A x h1) (u y h2)) (jE _)
  subst j;rw[lJ a2 B fun z=>?_];constructor
  .intro d;rcases QY.1 ((h z).1 (QR _ d)) with rfl|h3
   .exact absurd (u z d) (jE _)
   .exact h3
  .intro d;rcases QY.1 ((h z).2 (QR _ d)) with rfl|h3
   .exact absurd (A z d) (jE _)
   .exact h3
theorem gq{l:List ae}(h:l.Nodup):qA (dA l):=by
 have u:=gY (l.map mA);rw[<-qK]at u;have F:(dA l).Nodup:=by
  have G:((dA l).map mA).Perm (l.map mA):=by rw[qK];exact eT _
  have j:(l.map mA).Nodup:=List.Pairwise.map mA (fun a b d e=>d (wV e)) h;have:=G.nodup_iff.2 j;exact List.Pairwise.of_map mA (fun a b d e=>d (by rw[e])) this
 have x:(dA l).Pairwise fun a b=>mA a<=mA b:=(List.pairwise_map.1 u).imp fun{a b} d=>zT d;refine(List.Pairwise.and x F).imp fun{a b} d=>?_;obtain⟨y,A⟩:=d;exact R7 fun B=>A (wV (TH y (Ub.1 B)))
theorem Ir{m:NM}{l:List ae}(hm:(m.map (·.1)).Nodup)(b:qA l)(h: ∀x,x∈m.map (·.1)↔x∈l):dX m=l:=by
 refine lJ (gq hm) b fun x=>?_;rw[dX,jn];exact h x
theorem yp{occ l:List ae}(b:qA l)(h: ∀x,x∈occ↔x∈l):dX (aq occ)=l:=
 Ir (cS occ).1 b fun x=>((cS occ).2 x).trans (h x)
theorem oA{x:ae}: ∀{l:List Term} {a:List ae},x∈l.foldl iL a↔x∈a∨x∈l.flatMap fun t=>if t.kind=1 then[t.var] else[]
 | [],a=>by simp
 |t::r,a=>by
  rw[Rc,oA,Rl,QK];unfold iL;split
  .rw[cT,QJ,or_assoc]
  .simp
theorem c6{x:ae}{a:Atom}:x∈aU a↔x∈bA a:=by
 unfold aU bA;rw[oA];simp
mutual
theorem bF{x:ae}: ∀{e:Expr},x∈bx e↔x∈aP e
 | .mk k v _ _ args=>by
  simp only[bx,aP];split
  .rw[cT];simp
  .split
   .rw[oB];simp
   .rfl
theorem oB{x:ae}: ∀{l:List Expr} {a:List ae},x∈eF a l↔x∈a∨x∈fN l
 | [],a=>by simp[eF,fN]
 |e::r,a=>by
  simp only[eF,fN];rw[oB,ff,bF,QK,or_assoc]
end
theorem kM{x:ae}{l:Lit}:x∈b6 l↔x∈bb l:=by
 unfold b6 bb;split
 .exact c6
 .split
  .rw[ff,bF,bF,QK]
  .rfl
theorem ld{x:ae}{a:eM}:x∈nV a↔x∈aR a:=by
 unfold nV aR;have key: ∀(l:List Lit) (b:List ae),x∈l.foldl plF b↔x∈b∨x∈l.flatMap bb:=by
  intro l
  induction l with
  |nil=>simp
  |cons y r ih=>
   intro b;rw[Rc,ih,Rl,QK,ff,kM,or_assoc]
 rw[key,QK];split
 .rfl
 .rw[bF]
theorem hP{x:ae}{r:ai}:x∈outer r↔x∈ax r:=by
 unfold outer ax;have key: ∀(l:List Lit) (b:List ae),x∈l.foldl qU b↔x∈b∨x∈l.flatMap cM:=by
  intro l
  induction l with
  |nil=>simp
  |cons y r ih=>
   intro b;rw[Rc,ih,Rl,QK];by_cases d:y.kind=4
   .rw[y2 d,show cM y=bb y++ [y.ba] by unfold cM;rw[am d],cT,ff,kM,QK,QJ];simp only[or_assoc]
   .rw[y3 d,show cM y=bb y by unfold cM;rw[be d,Ro],ff,kM,or_assoc]
 rw[key,QK,c6]
theorem mw(a:Atom):qA (aU a):=by
 have key: ∀(l:List Term) (b:List ae),qA b->qA (l.foldl iL b):=by
  intro l
  induction l with
  |nil=>exact fun _ h=>h
  |cons t r ih=>
   intro b h;rw[Rc];refine ih _ ?_;unfold iL;split
   .exact iV h _
   .exact h
 exact key _ _ Tl
theorem pW(r:ai):qA (outer r):=by
 have key: ∀(l:List Lit) (b:List ae),qA b->qA (l.foldl qU b):=by
  intro l
  induction l with
  |nil=>exact fun _ h=>h
  |cons t r ih=>
   intro b h;rw[Rc];refine ih _ ?_;unfold qU;split
   .exact iV (gn h) _
   .exact gn h
 exact key _ _ (mw _)
theorem Az(r:ai):dX (aq (ax r))=outer r:=yp (pW r) fun _=>hP.symm
theorem vY{a b:List ae}(h: ∀x,x∈a↔x∈b)(x:ae):aJ a x=aJ b x:=by
 rw[RS,aI,aI];exact h x
def Of(a:List ae×Bool)(l:Lit):List ae×Bool:=if(kA l a.1).2=kw then(dt a.1 (kA l a.1).1,kw) else a
def qM(body:List Lit)(k:List ae):List ae×Bool:=body.foldl Of (k,lc)
def tK(body:List Lit):Nat->List ae->List ae
 |0,k=>k
 |n+1,k=>if(qM body k).2=kw then tK body n (qM body k).1 else(qM body k).1
theorem yW{body:List Lit}{n:Nat}{k:List ae}:tK body (n+1) k=if(qM body k).2=kw then tK body n (qM body k).1 else(qM body k).1:=rfl
def kJ(r:ai):List ae:=tK r.body (3*r.body.length+1) (r.body.foldl Dy [])
section
section
variable (stp:List ae->Lit->ae×Bool)
def gS(a:List ae×Bool)(l:Lit):List ae×Bool:=if(stp a.1 l).2=kw then(dt a.1 (stp a.1 l).1,kw) else a
def gR(body:List Lit)(k:List ae):List ae×Bool:=body.foldl (gS stp) (k,lc)
def gN(body:List Lit):Nat->List ae->List ae
 |0,k=>k
 |n+1,k=>if(gR stp body k).2=kw then gN body n (gR stp body k).1 else(gR stp body k).1
variable {stp}
theorem CC: ∀(body:List Lit) (k:List ae),(body.foldl (gS stp) (k,kw)).2=kw
 | [],k=>rfl
 |l::r,k=>by
  rw[Rc];have: ∃b,gS stp (k,kw) l=(b,kw):=by
   unfold gS;split
   .exact⟨_,rfl⟩
   .exact⟨_,rfl⟩
  obtain⟨b,d⟩:=this;rw[d];exact CC r b
theorem zx: ∀{body:List Lit} {k:List ae},(body.foldl (gS stp) (k,lc)).2=lc->(body.foldl (gS stp) (k,lc)).1=k∧ ∀l∈body,(stp k l).2=lc
 | [],k,_=>⟨rfl,by simp⟩
 |l::r,k,h=>by
  rw[Rc]at h ⊢;cases hs:(stp k l).2 with
  |true=>
   have:gS stp (k,lc) l=(dt k (stp k l).1,kw):=am hs;rw[this,CC]at h;cases h
  |false=>
   have:gS stp (k,lc) l=(k,lc):=be (by rw[hs];simp);rw[this]at h ⊢;obtain⟨b,d⟩:=zx h
   exact⟨b,fun x hx=>by
    rcases QY.1 hx with rfl|hx
    .exact hs
    .exact d x hx⟩
theorem Bk: ∀(body:List Lit) (a:List ae×Bool),∀x∈a.1,x∈(body.foldl (gS stp) a).1
 | [],a,x,h=>h
 |l::r,a,x,h=>by
  rw[Rc];refine Bk r _ x ?_;unfold gS;split
  .exact cT.2 (.inl h)
  .exact h
theorem Gi{body:List Lit}: ∀(n:Nat) (k:List ae),∀x∈k,x∈gN stp body n k
 |0,k,x,h=>h
 |n+1,k,x,h=>by
  unfold gN;split
  .exact Gi n _ x (Bk body (k,lc) x h)
  .exact Bk body (k,lc) x h
theorem rm: ∀(body:List Lit) (a:List ae×Bool),qA a.1->qA (body.foldl (gS stp) a).1
 | [],a,h=>h
 |l::r,a,h=>by
  rw[Rc];refine rm r _ ?_;unfold gS;split
  .exact iV h _
  .exact h
theorem wc{body:List Lit}: ∀(n:Nat) (k:List ae),qA k->qA (gN stp body n k)
 |0,k,h=>h
 |n+1,k,h=>by
  unfold gN;split
  .exact wc n _ (rm body (k,lc) h)
  .exact rm body (k,lc) h
variable (hnew: ∀(k:List ae) (l:Lit),(stp k l).2=kw->(stp k l).1∈ [l.left.var,l.right.var,l.ba]∧(stp k l).1∉k)
include hnew
theorem CB{c:List ae}: ∀{body:List Lit} {a:List ae×Bool},(∀l∈body,∀v∈ [l.left.var,l.right.var,l.ba],v∈c)->
  cA c (body.foldl (gS stp) a).1<=cA c a.1∧((body.foldl (gS stp) a).2=kw->a.2=kw∨cA c (body.foldl (gS stp) a).1<cA c a.1)
 | [],a,_=>⟨QH _,fun h=> .inl h⟩
 |l::r,a,hc=>by
  have b:cA c (gS stp a l).1<=cA c a.1∧((gS stp a l).2=kw->a.2=kw∨cA c (gS stp a l).1<cA c a.1):=by
   unfold gS;split
   .rename_i h;obtain⟨g1,g2⟩:=hnew _ _ h;have:=p5 (hc l Q3 _ g1) g2;exact⟨by dsimp only;omega,fun _=> .inr this⟩
   .exact⟨QH _,fun h=> .inl h⟩
  obtain⟨g1,g2⟩:=CB (body:=r) (a:=gS stp a l) fun l d=>hc l (QR _ d);rw[Rc];refine⟨by omega,fun h=>?_⟩;rcases g2 h with g3|g3
  .rcases b.2 g3 with g4|g4
   .exact .inl g4
   .exact .inr (by omega)
  .exact .inr (by omega)
theorem Gh{body:List Lit}: ∀(n:Nat) (k:List ae),cA (bH body) k<n-> ∀l∈body,(stp (gN stp body n k) l).2=lc
 |0,k,h,_,_=>by omega
 |n+1,k,h,l,b=>by
  unfold gN;cases hr:(gR stp body k).2 with
  |true=>
   rw[am D];refine Gh n _ ?_ l b;obtain⟨_,g2⟩:=CB hnew (c:=bH body) (body:=body) (a:=(k,lc)) fun l b v d=>wz b d;rcases g2 hr with g3|g3
   .cases g3
   .unfold gR;dsimp only at g3;omega
  |false=>
   rw[be (by simp)];obtain⟨g1,g2⟩:=zx hr;unfold gR;rw[g1];exact g2 l b
end
theorem jQ{m1:Expr->Bool}{m2:eM->Bool}{occ:List ae}: ∀{l:List Lit},(∀x∈l,kY m1 m2 occ x=jp)->bS m1 m2 occ l=jp
 | [],_=>rfl
 |y::r,h=>by
  simp only[bS,h y Q3];exact jQ fun x b=>h x (QR _ b)
section
variable {stp:List ae->Lit->ae×Bool} {may:List ae->Expr->Bool} {more:List ae->eM->Bool} {body:List Lit}
variable (hE: ∀(k:List ae) (l:Lit),kY (may k) (more k) k l=if(stp k l).2=kw then io (stp k l).1 else jp)
variable (hmay: ∀a b:List ae,(∀x∈a,x∈b)-> ∀e,may a e=kw->may b e=kw) (hmore: ∀a b:List ae,(∀x∈a,x∈b)-> ∀e,more a e=kw->more b e=kw)
include hE
theorem Iw(k:List ae)(l:Lit)(h:(stp k l).2=kw):(stp k l).1∈ [l.left.var,l.right.var,l.ba]∧(stp k l).1∉k:=by
 have:=hE k l;rw[am h]at this;exact tZ this
include hmay hmore
theorem Gf{C:List ae}(hC: ∀l∈body,kY (may C) (more C) C l=jp): ∀(b:List Lit) (a:List ae×Bool),(∀l∈b,l∈body)->(∀x∈a.1,x∈C)-> ∀x∈(b.foldl (gS stp) a).1,x∈C
 | [],a,_,h,x,hx=>h x hx
 |l::r,a,hb,h,x,hx=>by
  rw[Rc]at hx;refine Gf hC r _ (fun l j=>hb l (QR _ j)) (fun y d=>?_) x hx;unfold gS at d;split at d
  .rename_i u;rcases cT.1 d with d|rfl
   .exact h y d
   .have:=hE a.1 l;rw[am u]at this;exact Cd hmay hmore h this (hC l (hb l Q3))
  .exact h y d
theorem Gg{C:List ae}(hC: ∀l∈body,kY (may C) (more C) C l=jp): ∀(n:Nat) (k:List ae),(∀x∈k,x∈C)-> ∀x∈gN stp body n k,x∈C
 |0,k,h,x,hx=>h x hx
 |n+1,k,h,x,hx=>by
  unfold gN at hx;have b:=Gf hE hmay hmore hC body (k,lc) (fun _ h=>h) h;split at hx
  .exact Gg hC n _ b x hx
  .exact b x hx
theorem yI{k occ:List ae}(d: ∀x,x∈k↔x∈occ++body.flatMap bj)(x:ae):x∈gN stp body (3*body.length+1) k↔x∈bX may more body occ:=by
 constructor
 .refine Gg hE hmay hmore (C:=bX may more body occ) (np (sa occ)) _ _ (fun y b=>?_) x;exact nE _ _ y ((d y).1 b)
 .refine kB hmay hmore (C:=gN stp body (3*body.length+1) k) (jQ fun l j=>?_) _ _ (fun y b=>Gi _ _ y ((d y).2 b)) x;have u:=p6 (bH body) k;have A:=jr body;rw[hE,Gh (Iw hE) _ _ (by omega) l j,be (by simp)]
end
theorem za{x:ae}: ∀{l:List Lit} {a:List ae},x∈l.foldl Dy a↔x∈a∨x∈l.flatMap bj
 | [],a=>by simp
 |t::r,a=>by
  rw[Rc,za,Rl,QK];by_cases b:t.kind=1
  .rw[show Dy a t=bV a (aU t.atom) from am b,show bj t=bA t.atom from am b,ff,c6,or_assoc]
  .rw[show Dy a t=a from be b,show bj t=[] from be b];simp
theorem rO: ∀(l:List Lit) (a:List ae),qA a->qA (l.foldl Dy a)
 | [],a,h=>h
 |t::r,a,h=>by
  rw[Rc];refine rO r _ ?_;unfold Dy;split
  .exact gn h
  .exact h
theorem Fw(k:List ae)(l:Lit):kY (cm k) (fun _=>lc) k l=if(kA l k).2=kw then io (kA l k).1 else jp:=by
 unfold kY;rw[be (c:=l.kind=4∧_) (fun h=>Bool.noConfusion h.2.2)];have:(if(fo (cm k) k l).2=kw then io (fo (cm k) k l).1 else jp)=if(kA l k).2=kw then io (kA l k).1 else jp:=by
  unfold fo kA cm;split
  .rfl
  .by_cases b:l.left.kind=1<;>by_cases a2:l.right.kind=1<;>by_cases a3:l.left.kind=2<;>by_cases a4:l.right.kind=2<;>cases a5:aJ k l.left.var<;>cases a6:aJ k l.right.var<;>simp_all
 exact this
theorem vG(body:List Lit): ∀(n:Nat) (k:List ae),tK body n k=gN (fun k l=>kA l k) body n k
 |0,k=>rfl
 |n+1,k=>by
  rw[yW,vG body n];rfl
theorem told_plain(r:ai):dX (aq (ox r))=kJ r:=by
 unfold kJ;rw[vG];refine yp (wc _ _ (rO _ _ Tl)) fun x=>?_;exact(yI (may:=fun b=>cm b) (more:=fun _=>fun _=>lc) Fw yX (fun _ _ _ _ h=>h) (fun y=>by rw[za];simp) x).symm
end
end Go.Proofs.YtflegjieadkonaaGreatDoor
namespace Go.Proofs
open Go.Shelf
def Tryz.zi:Go.Shelf.Ren:=⟨fun|190=>91|125=>122|258=>121|128=>152|129=>153|302=>143|303=>144|304=>145|305=>146|306=>147|307=>148|308=>149|309=>150|310=>151|333=>180|329=>181|330=>182|334=>183|335=>184|336=>185|344=>213|n=>n,fun|31=>53|9=>9|3=>3|46=>179|0=>0|51=>203|53=>205|4=>4|183=>196|182=>195|131=>50|5=>5|218=>233|222=>237|228=>280|229=>281|n=>n,fun|n=>n⟩
theorem Tryz.Ck:Go.Proofs.Lays.n190 Tryz.prog Tryz.zi:={
 mixed:=by kernel_rfl
 f125:=Tryz.func122.trans (congrArg io (by kernel_rfl))
 f128:=Tryz.func152.trans (congrArg io (by kernel_rfl))
 f129:=Tryz.func153.trans (congrArg io (by kernel_rfl))
 f190:=Tryz.func91.trans (congrArg io (by kernel_rfl))
 f258:=Tryz.func121.trans (congrArg io (by kernel_rfl))
 f302:=Tryz.func143.trans (congrArg io (by kernel_rfl))
 f303:=Tryz.func144.trans (congrArg io (by kernel_rfl))
 f304:=Tryz.func145.trans (congrArg io (by kernel_rfl))
 f305:=Tryz.func146.trans (congrArg io (by kernel_rfl))
 f306:=Tryz.func147.trans (congrArg io (by kernel_rfl))
 f307:=Tryz.func148.trans (congrArg io (by kernel_rfl))
 f308:=Tryz.func149.trans (congrArg io (by kernel_rfl))
 f309:=Tryz.func150.trans (congrArg io (by kernel_rfl))
 f310:=Tryz.func151.trans (congrArg io (by kernel_rfl))
 f329:=Tryz.func181.trans (congrArg io (by kernel_rfl))
 f330:=Tryz.func182.trans (congrArg io (by kernel_rfl))
 f333:=Tryz.func180.trans (congrArg io (by kernel_rfl))
 f334:=Tryz.func183.trans (congrArg io (by kernel_rfl))
 f335:=Tryz.func184.trans (congrArg io (by kernel_rfl))
 f336:=Tryz.func185.trans (congrArg io (by kernel_rfl))
 f344:=Tryz.func213.trans (congrArg io (by kernel_rfl))
 t0:=Tryz.underlying0
 a0:=Tryz.isAgg0
 z0:=Tryz.sizeOf0
 v0:=Tryz.zeroValue0
 t3:=Tryz.underlying3
 a3:=Tryz.isAgg3
 z3:=Tryz.sizeOf3
 v3:=Tryz.zeroValue3
 t4:=Tryz.underlying4
 a4:=Tryz.isAgg4
 z4:=Tryz.sizeOf4
 v4:=Tryz.zeroValue4
 t5:=Tryz.underlying5
 a5:=Tryz.isAgg5
 z5:=Tryz.sizeOf5
 v5:=Tryz.zeroValue5
 t9:=Tryz.underlying9
 a9:=Tryz.isAgg9
 z9:=Tryz.sizeOf9
 v9:=Tryz.zeroValue9
 t31:=Tryz.underlying53
 a31:=Tryz.isAgg53
 z31:=Tryz.sizeOf53
 v31:=Tryz.zeroValue53
 t46:=Tryz.underlying179
 a46:=Tryz.isAgg179
 z46:=Tryz.sizeOf179
 v46:=Tryz.zeroValue179
 t51:=Tryz.underlying203
 a51:=Tryz.isAgg203
 z51:=Tryz.sizeOf203
 v51:=Tryz.zeroValue203
 t53:=Tryz.underlying205
 a53:=Tryz.isAgg205
 z53:=Tryz.sizeOf205
 v53:=Tryz.zeroValue205
 t131:=Tryz.underlying50
 a131:=Tryz.isAgg50
 z131:=Tryz.sizeOf50
 v131:=Tryz.zeroValue50
 t182:=Tryz.underlying195
 a182:=Tryz.isAgg195
 z182:=Tryz.sizeOf195
 v182:=Tryz.zeroValue195
 t183:=Tryz.underlying196
 a183:=Tryz.isAgg196
 z183:=Tryz.sizeOf196
 v183:=Tryz.zeroValue196
 t218:=Tryz.underlying233
 a218:=Tryz.isAgg233
 z218:=Tryz.sizeOf233
 v218:=Tryz.zeroValue233
 t222:=Tryz.underlying237
 a222:=Tryz.isAgg237
 z222:=Tryz.sizeOf237
 v222:=Tryz.zeroValue237
 t228:=Tryz.underlying280
 a228:=Tryz.isAgg280
 z228:=Tryz.sizeOf280
 v228:=Tryz.zeroValue280
 t229:=Tryz.underlying281
 a229:=Tryz.isAgg281
 z229:=Tryz.sizeOf281
 v229:=Tryz.zeroValue281}
theorem YtflegjieadkonaaGreatDoor.EM:YtflegjieadkonaaGreatDoor.gX:=
 ⟨fun j b0 a0 x w u b d=>Any.slices_Sort_string Tryz.Ck j b0 a0 x w u b d,fun p a0 w=>Any.slices_Sort_string_none Tryz.Ck p a0 w⟩
end Go.Proofs
namespace Go.Proofs.YtflegjieadkonaaGreatDoor
open Go Go.Al
theorem ec{α:Type}[Inhabited α]{f:α->List IV}(h: ∀x,gd ((f x).map .iv)=kw)(l:List α):allOnes ((Rh l.length).map fun k=>(f (l.getD k co)).map PV.iv)=kw:=by rw[nR];exact sc h l
def Prog.size(p:Prog):Nat:=p.aZ.length+(p.aZ.map fun d=>d.types.length).sum+p.rules.length+(p.rules.map ai.size).sum
theorem tE{α:Type}(i sz n b:Nat)(l:List α)(f:α->List IV):(aW b l f).tP i sz n:=by
 intro k e j p d u;rw[QC,QF]at d;obtain⟨x,_,rfl⟩:=d;rw[QC,QF]at u;obtain⟨y,_,rfl⟩:=u;exact⟨y,rfl⟩
theorem M9(r:ai)(hb:r.size<=10000000):Pure Tryz.prog 80 [ag r.c] (.iv (strs (outer r))):=Az r▸c29 EM r hb
theorem PZ(r:ai)(hb:r.size<=10000000):Pure Tryz.prog 98 [ag r.c] (.iv (strs (kJ r))):=told_plain r▸c33 EM r hb
end Go.Proofs.YtflegjieadkonaaGreatDoor
namespace Go.Proofs.YtflegjieadkonaaGreatDoor
open Go.Proofs.Tryz
open Go
section
set_option maxHeartbeats 2000000
theorem Cq: ∃j,prog.info? 245=io j∧j.size=2:=by
 have h:(prog.info? 245).map (fun i=>i.size)=io 2:=by kernel_rfl
 rw[QF]at h;exact h
theorem Jj:liesAt prog prog.depth 247 (4/prog.cellsOf 247) 0 245 1=kw:=by kernel_rfl
theorem JJ(b:Nat)(w:World)(h0:w.cell? ⟨b,0,jp⟩=io (.pointer (io ⟨b,0,jp⟩))):
  Calls prog 260 #[.pointer (io ⟨b,0,jp⟩)] w fun e u=>e= .returned (.tuple #[])∧u=w:=by
 obtain⟨j,d,_⟩:=Cq
 go_enter func260,ntmps260
 go_wp2
 rw[Lib.run_neq_ptr_same w _ underlying242 d]
 go_wp2
 go_end0
 exact⟨rfl,rfl⟩
theorem GP(b:Nat)(w:World)(h0:w.cell? ⟨b,0,jp⟩=io (.pointer jp))(d:w.shape? b=io (247,4))(y:w.frozen? ⟨b,0,jp⟩=lc):
  Calls prog 260 #[.pointer (io ⟨b,0,jp⟩)] w fun e A=>e= .returned (.tuple #[])∧A=w.setCell ⟨b,0,jp⟩ (.pointer (io ⟨b,0,jp⟩)):=by
 obtain⟨j,x,u⟩:=Cq
 go_enter func260,ntmps260
 go_wp2
 rw[Lib.run_to_unsafe w ⟨b,0,jp⟩ underlying242 underlying327 x (by rw[u];decide) d (by show 0<4;decide)];simp only[Result.andThen];rw[Oper.upon_value]
 go_wp2
 rw[run_callFunc_extern func272 (by kernel_rfl) (by kernel_rfl) (by kernel_rfl) (e:=Extern.AbiNoEscape.same) (by kernel_rfl)];rw[Lib.run_noEscape];simp only[Result.andThen];rw[Oper.upon_value]
 go_wp2
 rw[Lib.run_from_unsafe w ⟨b,0,jp⟩ underlying327 underlying242 x d Jj];simp only[Result.andThen];rw[Oper.upon_value]
 go_wp2
 go_end0
 exact⟨rfl,rfl⟩
theorem M8:prog.cellsOf 5=1:=by kernel_rfl
theorem JN(b g cap:Nat)(p x y:Value)(d:Array Value)(l:List UInt8)(w:World)(F:w.heap[b]? =io (.cells #[p,.slice (io ⟨g,0,jp⟩) l.length cap,x,y] 247 (0,0)))(hg:w.heap[g]? =io (.cells d 5 (0,0)))
  (hl:l.length<=d.size) (J:l.length<=cap) (G:cap<=maxLen) (A: ∀(j:Nat) (x:UInt8),l[j]? =io x->d.getD j undef= .int .u8 (x.toNat:Int)) (h0:l≠ []):
  Calls prog 220 #[.pointer (io ⟨b,0,jp⟩)] w fun e w'=>e= .returned (.string ⟨l.toArray⟩)∧w'=w.drew.freeze ⟨g,0,jp⟩ l.length:=by
 have a0:l.length≠0:=by simpa using h0
 have c1:w.drew.cell? ⟨b,1,jp⟩=io (.slice (io ⟨g,0,jp⟩) l.length cap):=by
  have:w.drew.heap[b]? =io (.cells #[p,.slice (io ⟨g,0,jp⟩) l.length cap,x,y] 247 (0,0)):=F;rw[Lib.cell_of_heap this];rfl
 have Y:(Builtin.unsafeSliceData_ #[243] 306 #[.slice (io ⟨g,0,jp⟩) l.length cap]).run prog w.drew= .ok (.pointer (io ⟨g,0,jp⟩)) w.drew:=
  Lib.run_unsafeSliceData_row _ _ _ _ _ _ (by omega)
 have Z:(Builtin.unsafeString_ #[306,3] 9 #[.pointer (io ⟨g,0,jp⟩),.int .i64 l.length]).run prog w.drew= .ok (.string ⟨l.toArray⟩) (w.drew.freeze ⟨g,0,jp⟩ l.length):=by
  refine Lib.run_unsafeString_row w.drew 306 3 9 5 underlying306 M8 g d.size (by have u:w.drew.heap[g]? =io (.cells d 5 (0,0)):=hg;simp[World.shape?,u]) l h0 (by omega) (by unfold maxLen at G;omega) ?_;intro j x S;have B:j<d.size:=by have:=(Qw.1 S).1;omega
  have:=A j x S;rw[Qt,Rs B]at this;show w.drew.cell? _=_;have u:w.drew.heap[g]? =io (.cells d 5 (0,0)):=hg;rw[Al.fv,Q9];simp only[World.cell?,u];simpa[B]using this
 have I:prog.follows .mixedOrders=kw:=rfl
 go_enter func220,ntmps220
 go_wp2
 go_region_o
 all_goals(go_wp2;go_ret;exact⟨rfl,rfl⟩)
theorem Na(b:Nat)(p x y:Value)(w:World)(d:w.heap[b]? =io (.cells #[p,.slice jp 0 0,x,y] 247 (0,0))):
  Calls prog 220 #[.pointer (io ⟨b,0,jp⟩)] w fun e B=>e= .returned (.string ⟨#[]⟩)∧B=w.drew:=by
 have A:(W:World)->(Builtin.unsafeString_ #[306,3] 9 #[.pointer jp,.int .i64 0]).run prog W= .ok (.string .empty) W:=fun W=>Lib.run_unsafeString_none W _ _ _ jp
 have c1:w.drew.cell? ⟨b,1,jp⟩=io (.slice jp 0 0):=by
  have:w.drew.heap[b]? =io (.cells #[p,.slice jp 0 0,x,y] 247 (0,0)):=d;rw[Lib.cell_of_heap this];rfl
 have u:(Builtin.unsafeSliceData_ #[243] 306 #[.slice jp 0 0]).run prog w.drew= .ok (.pointer jp) w.drew:=rfl;have j:prog.follows .mixedOrders=kw:=rfl
 go_enter func220,ntmps220
 go_wp2
 go_region_o
 all_goals(go_wp2;go_ret;exact⟨rfl,rfl⟩)
end
end Go.Proofs.YtflegjieadkonaaGreatDoor
namespace Go.Proofs.YtflegjieadkonaaGreatDoor
open Go Go.Al Go.Proofs.Tryz
def I6(c:Nat):Bool:=(li (97<=c)&&li (c<=122))||((li (65<=c)&&li (c<=90))||((li (48<=c)&&li (c<=57))||decide (c=95)))
def okB(b:UInt8):Bool:=I6 b.toNat
def hd(s:ae):Int:=((s.data.toList.getD 0 0).toNat:Int)
def s8(s:ae)(b hi:Int):Bool:=!li (s=⟨#[]⟩)&&(li (s.size<=32)&&(li (b<=hd s)&&(li (hd s<=hi)&&s.data.toList.all okB)))
theorem Fo{c:Nat}(h:I6 c=kw):c<128:=by
 simp only[I6,R9,Q5,decide_eq_true_eq]at h;omega
theorem IB{s:ae}(h: ¬s=⟨#[]⟩):0<s.size:=by
 refine Nat.pos_of_ne_zero fun b=>h ?_;have:s.data= #[]:=Array.eq_empty_of_size_eq_zero b;cases s;simp_all
theorem P7(c:Nat):Pure prog 215 [.iv (.v (.int .i32 (c:Int)))] (pB (!I6 c)):=by
 refine ar ab func215 D (by decide) ntmps215 D (by simp) D ?_
 repeat' (first|(refine gA D (zI (fun _=>?_) (fun _=>?_)))|(refine gA D (zL (.of_eq ?_))))
 all_goals(refine(mF ?_:pB _=pB _))
 all_goals(simp only[S5,Tu,decide_eq_true_eq,decide_eq_false_iff_not] at*;rw[RS];simp[I6];omega)
theorem Gz{s:ae}{i:Nat}(h:i<s.size)(hb:okB (s.data.toList.getD i 0)=kw):Utf8.decode s i=((s.data.toList.getD i 0).toNat,1):=by
 have b:(s[i]'h)=s.data.toList.getD i 0:=by
  have:i<s.data.toList.length:=by simpa using h
  rw[Qx,Qy this];simp;rfl
 have:=decode_ascii s i h (by rw[b];exact Fo hb);rw[this,b]
theorem M6{s:ae}{i:Nat}(h:i<s.size)(hb:okB (s.data.toList.getD i 0)=lc):I6 (Utf8.decode s i).1=lc:=by
 by_cases d:(s.data.toList.getD i 0).toNat<128
 .have b:(s[i]'h)=s.data.toList.getD i 0:=by
   have:i<s.data.toList.length:=by simpa using h
   rw[Qx,Qy this];simp;rfl
  have:=decode_ascii s i h (by rw[b];exact d);rw[this,b];exact hb
 .have b:(s.get! (i+0)).toNat=(s.data.toList.getD i 0).toNat:=by
   have:i<s.data.toList.length:=by simpa using h
   rw[Qx,Qy this];simp[ByteArray.get!,getElem!_pos,h]
  have:128<=(Utf8.decode s i).1:=by
   simp only[Utf8.decode,b,be d]
   repeat' split
   all_goals(dsimp only[Utf8.runeError];(try simp only[Q5,decide_eq_true_eq] at*);omega)
  cases hk:I6 (Utf8.decode s i).1 with
  |false=>rfl
  |true=>have:=Fo hk;omega
def CV(s:ae):Int:=qj (fun b=>!okB b) s.data.toList
theorem d217(s:ae):bL prog 259 [pS s,.cK (.func 215) [] [],pB kw] [] (pI (CV s)) [] 0:=by
 have A:s.data.toList.length=s.size:=by simp
 refine aw ab func259 D (by decide) ntmps259 D (by simp) ?_;refine gA D ?_;refine wa ab D D D D D D D ?_;refine gA D ?_;refine aD 0 s.size (QN _) (fun i=>⟨[(0,pS s),(1,.cK (.func 215) [] []),(2,pB kw),(10,.ptr 0 0)],[(0,io (.dJ s i))],1⟩) (fun i=>(s.data.toList.take i).any (fun b=>!okB b)=lc) [] (by simp)
  (zW ⟨⟨_,rfl,.of_eq D⟩,Qs D,ac,ac⟩) fun i B x=>?_
 refine gA D ?_;refine lk D D D D D D (fun j=>?_) (fun j=>?_)
 .have d:s.data.toList.length<=i:=by omega
  rw[CV,gl (any_none x d)];refine gA D (zD [] D (zW ac))
 .have u:i<s.data.toList.length:=by omega
  have y:s.data.toList.getD i co=s.data.toList.getD i 0:=rfl;refine gA D (zp (P7 (Utf8.decode s i).1) ?_);refine zJ D D (fun d=>?_) fun d=>?_
  .have d:I6 (Utf8.decode s i).1=lc:=by simpa using d
   have hb:okB (s.data.toList.getD i 0)=lc:=by
    cases hk:okB (s.data.toList.getD i 0) with
    |false=>rfl
    |true=>
     rw[Gz j hk]at d;exact absurd (hk.symm.trans d) (by simp)
   rw[CV,iB x u (by rw[y,hb];rfl)];refine gA D (zD [] D (zW ac))
  .have d:I6 (Utf8.decode s i).1=kw:=by simpa using d
   have hb:okB (s.data.toList.getD i 0)=kw:=by
    cases hk:okB (s.data.toList.getD i 0) with
    |true=>rfl
    |false=>exact absurd ((M6 j hk).symm.trans d) (by simp)
   have hd:=Gz j hb;refine gA D ⟨j,(cP x u).2 (by rw[y,hb];rfl),[],zW ⟨⟨_,rfl,.of_eq (by rw[hd];rfl)⟩,Qs D,ac,ac⟩⟩
theorem JU(l:List UInt8):(l.any fun b=>!okB b)=!l.all okB:=by
 induction l with
 |nil=>rfl
 |cons x r ih=>simp only[List.any_cons,List.all_cons,ih];cases okB x<;>rfl
theorem d203(s:ae):bL prog 242 [pS s,.cK (.func 215) [] []] [] (pI (CV s)) [] 0:=by
 refine aw ab func242 D (by decide) ntmps242 D (by simp) ?_;refine gA D (zq [] (d217 s) ?_);refine gA D (zD [] D (zW ac))
theorem d180(s:ae):bL prog 214 [pS s,.cK (.func 215) [] []] [] (pB (!s.data.toList.all okB)) [] 0:=by
 refine aw ab func214 D (by decide) ntmps214 D (by simp) ?_;refine gA D (zq [] (d203 s) ?_);refine gA D (zD [] D (zM ⟨.of_eq (mF ((iC _ _).trans (JU _))),rfl,ac⟩ ac))
theorem O0(s:ae)(x hi:Int):Pure prog 187 [pS s,.iv (.v (.int .u8 x)),.iv (.v (.int .u8 hi))] (pB (s8 s x hi)):=by
 refine ar ab func187 D (by decide) ntmps187 D (by simp) D ?_;refine zE D D (fun b=>?_) fun b=>?_
 .have b:s=⟨#[]⟩:=zT b;refine gA D (zL (.of_eq ?_));refine(mF ?_:pB _=pB _);subst b;rfl
 have b: ¬s=⟨#[]⟩:=zF b;have y:=IB b;refine zE D D (fun d=>?_) fun d=>?_
 .have d:32<s.size:=zN d;refine gA D (zL (.of_eq ?_));refine(mF ?_:pB _=pB _);have: ¬s.size<=32:=by omega
  simp[s8,this]
 have d:s.size<=32:=by have:=zF d;omega
 refine zE D D (fun j=>?_) fun j=>?_
 .have j:hd s<x:=zT j;refine gA D (zL (.of_eq ?_));refine(mF ?_:pB _=pB _);have: ¬x<=hd s:=by omega
  simp[s8,this]
 have j:x<=hd s:=by have: ¬hd s<x:=zF j;omega
 refine zJ D D (fun u=>?_) fun u=>?_
 .have u:hi<hd s:=zT u;refine gA D (zL (.of_eq ?_));refine(mF ?_:pB _=pB _);have: ¬hd s<=hi:=by omega
  simp[s8,this]
 have u:hd s<=hi:=by have: ¬hd s>hi:=zF u;omega
 refine gA D (zq [] (d180 s) ?_);refine gA D (zL (.of_eq ?_));refine(mF ?_:pB _=pB _);simp[s8,b,d,j,u]
def On:List ae:=[⟨#[114,101,108,97,116,105,111,110]⟩,⟨#[110,111,116]⟩,⟨#[110,117,109]⟩,⟨#[115,121,109]⟩,⟨#[109,111,100]⟩,⟨#[99,111,117,110,116]⟩,⟨#[115,117,109]⟩,⟨#[109,105,110]⟩,⟨#[109,97,120]⟩]
def Oo(s:ae):Bool:=On.any fun x=>li (s=x)
def iy(s:ae):Bool:=!Oo s&&s8 s 97 122
def ef(s:ae):Bool:=s8 s 65 90
theorem Bv(s:ae):Pure prog 218 [pS s] (pB (ef s)):=by
 refine ar ab func218 D (by decide) ntmps218 D (by simp) D ?_;refine gA D (zp (O0 s 65 90) ?_);exact zU D
theorem PT(s:ae):Pure prog 156 [pS s] (pB (iy s)):=by
 refine ar ab func156 D (by decide) ntmps156 D (by simp) D ?_
 repeat' (first|(refine gA D (zI (fun _=>?_) (fun _=>?_)))|(refine gA D (zp (O0 s 97 122) ?_))|(refine gA D (zL (.of_eq ?_))))
 all_goals(refine(mF ?_:pB _=pB _))
 all_goals(simp only[iy,Oo,On,List.any_cons,List.any_nil, *];rfl)
section
theorem Rel.A3{M:Mem}{N:Nm}{U:Nat->Prop}{h d:AH}{w:World}(hr:Rel M N U h w)(e: ∀i,AH.get d i=h.get i):Rel M N U d w:=
 ⟨hr.dT,fun i o b=>hr.used i o (by rw[<-e];exact b),fun i o b=>hr.dW i o (by rw[<-e];exact b),fun i o b=>hr.obj i o (by rw[<-e];exact b),fun i j o p b u=>hr.inj i j o p (by rw[<-e];exact b) (by rw[<-e];exact u)⟩
theorem Ext.A3{M d:Mem}{N j:Nm}{U u:Nat->Prop}{h0 h x:AH}{w y:World}(b:Ext M N U h0 w d j u h y)(e: ∀i,AH.get x i=h.get i):Ext M N U h0 w d j u x y:=
 ⟨b.os,b.tape,b.output,b.size,b.fG,b.pb,b.gK,b.nm,b.ule,fun i o A=>b.fV i o (by rw[<-e];exact A)⟩
structure WS where
 fr:Bool
 l:List UInt8
 bad:Bool
 br:Int
abbrev WS.qz(w:WS)(i j:Nat):AO:= .cells [.dV w.fr i,.sl j 0 w.l.length 1,pB w.bad,pI w.br] (io 247)
abbrev WS.c(w:WS):AO:=w.qz 0 1
abbrev WS.O(w:WS):List AO:=[w.c,.bu w.l 5]
abbrev WS.H(w:WS):AH:=[(0,io (w.qz 0 2)),(2,io (.bu w.l 5))]
theorem d204(w:WS):bL prog 260 [.ptr 0 0] w.O (.bB []) [(0,io ({w with fr:=lc}:WS).c),(1,io (.bu w.l 5))] 2:=by
 refine⟨bY func260 D (by decide),fun M N wd vs S y hv=>?_⟩;obtain⟨v,rfl⟩: ∃v,vs=[v]:=by
  cases vs with
  |nil=>cases y
  |cons v r=>cases r with
   |nil=>exact⟨v,rfl⟩
   |cons a b=>simp at y
 have Y:VR M N (· <2) (.ptr 0 0) v:=hv 0 _ D;have Z:v= .pointer (io ⟨N.aB 0,0,jp⟩):=by cases Y;rfl
 subst Z;have I:AH.get (dQ 0 w.O) 0=io w.c:=rfl;obtain⟨c,T,F,h2,h3,h4,h5⟩:=S.obj 0 _ I;have hT:=h5 247 D;subst hT;have A:c.size=4:=h3.symm;have a0:N.aB 0<wd.heap.size:=(RO.1 F).1;have J:c.getD 0 undef= .pointer (bif w.fr then jp else io ⟨N.aB 0,0,jp⟩):=by
  have:=h4 0 _ D;generalize c.getD 0 undef=x at this;cases this;rfl
 have d:wd.cell? ⟨N.aB 0,0,jp⟩=io (c.getD 0 undef):=by
  rw[Lib.cell_of_heap F,Qt,Rs (by omega)];rfl
 rw[J]at d;show Calls prog 260 #[_] wd _;cases hfr:w.fr with
 |false=>
  rw[hfr]at d;refine(JJ (N.aB 0) wd d).mono ?_;rintro e w' ⟨rfl,rfl⟩;have hw:({w with fr:=lc}:WS)=w:=by cases w;simp_all
  rw[hw];exact⟨_,M,N,.bB [],_,2,rfl,⟨rfl,rfl,rfl⟩,.refl _ _ _ _ _,S,.bB [] #[] D (by simp)⟩
 |true=>
  rw[hfr]at d;refine(GP (N.aB 0) wd d (by simp[World.shape?,F,A]) (Lib.frozen_of_heap F 0)).mono ?_;rintro e w' ⟨rfl,rfl⟩;have B:(wd.setCell ⟨N.aB 0,0,jp⟩ (.pointer (io ⟨N.aB 0,0,jp⟩))).heap[N.aB 0]? =io (.cells (c.setIfInBounds 0 (.pointer (io ⟨N.aB 0,0,jp⟩))) 247 (0,0)):=by
   simp[World.setCell,Ru,F]
  obtain⟨g1,g2⟩:=S.write (i:=0) (o0:=w.c) I D (wd.setCell ⟨N.aB 0,0,jp⟩ (.pointer (io ⟨N.aB 0,0,jp⟩))) ({w with fr:=lc}:WS).c D D D (by simp[World.setCell]) (fun b hb=>by
   simp only[World.setCell,Ru]
   rw[be (fun e=>hb e.symm)]) ⟨_,247,B,by simpa using h2,by simp[A],fun j p G=>by
    match j,G with
    |0,G=>
     cases G;rw[Qt,Rj];simp only[if_true,A];exact .dV lc 0 (by show 0<2;decide)
    |j+1,G=>
     have:=h4 (j+1) p (by exact G);rw[Qt,Rj,be (by omega)];rw[Qt]at this
     exact this,h5⟩
  have u: ∀i,AH.get [(0,io ({w with fr:=lc}:WS).c),(1,io (.bu w.l 5))] i=AH.get ((0,io ({w with fr:=lc}:WS).c)::dQ 0 w.O) i:=by
   intro i
   match i with
   |0=>rfl
   |1=>rfl
   |i+2=>rfl
  exact⟨_,M,N,.bB [],_,2,rfl,⟨rfl,rfl,rfl⟩,Ext.A3 g1 u,Rel.A3 g2 u,.bB [] #[] D (by simp)⟩
theorem d150(w:WS):bL prog 220 [.ptr 0 0] w.O (pS ⟨w.l.toArray⟩) [] 2:=by
 refine⟨bY func220 D (by decide),fun M N wd vs hr I hv=>?_⟩;obtain⟨v,rfl⟩: ∃v,vs=[v]:=by
  cases vs with
  |nil=>cases I
  |cons v r=>cases r with
   |nil=>exact⟨v,rfl⟩
   |cons a b=>simp at I
 have m0:VR M N (· <2) (.ptr 0 0) v:=hv 0 _ D;have n0:v= .pointer (io ⟨N.aB 0,0,jp⟩):=by cases m0;rfl
 subst n0;have k0:AH.get (dQ 0 w.O) 0=io w.c:=rfl;have J:AH.get (dQ 0 w.O) 1=io (.bu w.l 5):=rfl;obtain⟨c,T,Z,h2,h3,h4,h5⟩:=hr.obj 0 _ k0;have hT:=h5 247 D;subst hT;have g0:c.size=4:=h3.symm;have d0: ∀(x1:Value),c.getD 1 undef=x1-> ∃p x y,c= #[p,x1,x,y]:=by
  intro x1 B;refine⟨c.getD 0 undef,c.getD 2 undef,c.getD 3 undef,?_⟩;apply Array.ext
  .simpa using g0
  .intro i u o0
   match i,u with
   |0,u=>simp[Qt,u]
   |1,u=>rw[<-B];simp[Qt,u]
   |2,u=>simp[Qt,u]
   |3,u=>simp[Qt,u]
   |i+4,u=>omega
 have A:=h4 1 _ D;have S:=hr.obj 1 _ J;show Calls prog 220 #[_] wd _;by_cases G:w.l=[]
 .have B:c.getD 1 undef= .slice jp 0 0:=by
   generalize c.getD 1 undef=x at A;rw[G]at A;generalize Y:PV.sl 1 0 ([]:List UInt8).length 1=q at A;cases A with
   |sl i off len sz a0 h h0 Z hc he=>cases Y;simp at h0
   |mE i sz h=>rfl
   |_=>cases Y
  obtain⟨p,x,y,rfl⟩:=d0 _ B;refine(Na (N.aB 0) p x y wd Z).mono ?_;rintro e w' ⟨rfl,rfl⟩;refine⟨.string ⟨#[]⟩,M,N,pS ⟨w.l.toArray⟩,[],2,rfl,⟨rfl,rfl,rfl⟩,?_,?_,.iv _ _ (by rw[G];exact .v _)⟩
  .have:=Ext.drew (M:=M) (N:=N) (U:=(· <w.O.length)) (h:=dQ 0 w.O) (w:=wd);exact⟨this.os,this.tape,this.output,this.size,this.fG,this.pb,this.gK,this.nm,this.ule,fun i o u=>(nomatch u)⟩
  .exact⟨hr.drew.dT,fun i o u=>(nomatch u),fun i o u=>(nomatch u),fun i o u=>(nomatch u),fun i j o p u=>(nomatch u)⟩
 .have c0:0<w.l.length:=SD.2 G;obtain⟨a0,B,b0,i0⟩: ∃a0,c.getD 1 undef= .slice (io ⟨N.aB 1,0,jp⟩) w.l.length a0∧w.l.length<=a0∧a0<=maxLen:=by
   generalize c.getD 1 undef=x at A;generalize hn:w.l.length=n at A c0;generalize Y:PV.sl 1 0 n 1=q at A;cases A with
   |sl i off len sz a0 h h0 G hc he=>cases Y;exact⟨a0,by simp,G,hc⟩
   |mE i sz h=>cases Y;omega
   |_=>cases Y
  rcases S with S|⟨f0,q1,q2,q3,q4⟩
  .exact absurd S G
  obtain⟨p,x,y,rfl⟩:=d0 _ B;refine(JN (N.aB 0) (N.aB 1) a0 p x y f0 w.l wd Z q1 q3 b0 i0 q4 G).mono ?_;rintro e w' ⟨rfl,rfl⟩;have e0:(AO.bu w.l 5).real=kw:=by cases hll:w.l with
   |nil=>exact absurd hll G
   |cons=>rfl
  have hk: ∀b,b≠N.aB 1->(wd.drew.freeze ⟨N.aB 1,0,jp⟩ w.l.length).heap[b]? =wd.heap[b]? :=by
   intro b hb;unfold World.freeze;split
   .rfl
   .show(wd.heap.modify _ _)[b]? =_;simp only[Ru];rw[be (fun e=>hb e.symm)]
  have F:(wd.drew.freeze ⟨N.aB 1,0,jp⟩ w.l.length).os=wd.os∧(wd.drew.freeze ⟨N.aB 1,0,jp⟩ w.l.length).tape=wd.tape∧(wd.drew.freeze ⟨N.aB 1,0,jp⟩ w.l.length).output=wd.output∧(wd.drew.freeze ⟨N.aB 1,0,jp⟩ w.l.length).heap.size=wd.heap.size:=by
   unfold World.freeze;split
   .exact⟨rfl,rfl,rfl,rfl⟩
   .exact⟨rfl,rfl,rfl,by show(wd.heap.modify _ _).size=_;simp⟩
  refine⟨_,M,N,pS ⟨w.l.toArray⟩,[],2,rfl,⟨rfl,rfl,rfl⟩,?_,?_,.iv _ _ (.v _)⟩
  .exact⟨F.1,F.2.1,F.2.2.1,by rw[F.2.2.2];exact QH _,fun b hb hn=>hk b fun e=>hn 1 _ J e0 e.symm,.refl _,fun b c Z h2=>by simp[Z]at h2,.refl _ _,fun _ h=>h,fun i o u=>(nomatch u)⟩
  .refine⟨fun b d hb=>?_,fun i o u=>(nomatch u),fun i o u=>(nomatch u),fun i o u=>(nomatch u),fun i j o p u=>(nomatch u)⟩;have j0:b≠N.aB 1:=fun e=>by
    have:=hr.dW 1 _ J e0;rw[<-e,hb]at this;cases this
   exact(hr.dT b d hb).mono (hk b j0)
section
variable {nt:Nat} {Q:AQ} {k:List KI} {s:AS}
def wS(s:AS)(b:WS)(i j:Nat):AS:=match s with|⟨f,h,n⟩=>⟨f,(i,io (b.qz i n))::(n,io (.bu b.l 5))::(i,jp)::(j,jp)::h,n+1⟩
theorem Ny(s:AS)(b:WS)(i j:Nat):wS s b i j=⟨s.f,(i,io (b.qz i s.nx))::(s.nx,io (.bu b.l 5))::(i,jp)::(j,jp)::s.h,s.nx+1⟩:=by cases s;rfl
def Nx(s:AS)(b:WS)(i j m:Nat):AS:=match s with|⟨f,h,n⟩=>⟨f,(i,io (b.qz i n))::(n,io (.bu b.l 5))::(i,jp)::(j,jp)::(m,jp)::h,n+1⟩
theorem Ly(s:AS)(b:WS)(i j m:Nat):Nx s b i j m=⟨s.f,(i,io (b.qz i s.nx))::(s.nx,io (.bu b.l 5))::(i,jp)::(j,jp)::(m,jp)::s.h,s.nx+1⟩:=by cases s;rfl
theorem yj{o:Oper}{c:Call}{g:FuncId}{args d:List PV}{w B:WS}{r:PV}{i j:Nat}{s':AS}(hc:bL prog g (.ptr 0 0::args) w.O r B.H 3)(ho:o.op= .call c)(ha:bK s.f c=io (g,.ptr i 0::d))
  (hi:s.h.get i=io (w.qz i j)) (hj:s.h.get j=io (.bu w.l 5)) (hlt:QZ i s.nx=kw) (hlj:QZ j s.nx=kw) (hne:Q6 i j=lc) (has:d=args) (hlow:bp 0 args=kw) (hr:r.low 0=kw)
  (hp:putDst nt o r (wS s B i j)=io s'):OT prog nt o s (fun t=>t=s'):=by
 have u:i≠j:=fun e=>by subst e;simp at hne
 have y:([i,j]:List Nat).Nodup:=by simp[u]
 have F: ∀x∈ [i,j],x<s.nx:=by
  intro x A;simp only[QY,To,or_false]at A;rcases A with rfl|rfl
  .exact Qs hlt
  .exact Qs hlj
 subst has;have b: ∀σ,dL σ d=d:=fun σ=>gu σ d hlow;refine me ho ha hc y F ?_ ?_ ?_
 .simp only[Q4,RL,hi,hj];rfl
 .simp only[dL,b];rfl
 .rintro q G n0 ⟨rfl,rfl,rfl⟩;rw[PV.ja _ _ hr];rw[Ny]at hp;exact⟨s',hp,rfl⟩
theorem OG{all rest:List Oper}{o:Oper}{c:Call}{g:FuncId}{args b:List PV}{w d:WS}{r:PV}{i j:Nat}{s':AS}(hc:bL prog g (.ptr 0 0::args) w.O r d.H 3)(ho:o.op= .call c)(hg:o.guard=jp)(ha:bK s.f c=io (g,.ptr i 0::b))
  (hi:s.h.get i=io (w.qz i j)) (hj:s.h.get j=io (.bu w.l 5)) (hlt:QZ i s.nx=kw) (hlj:QZ j s.nx=kw) (hne:Q6 i j=lc) (has:b=args) (hlow:bp 0 args=kw) (hr:r.low 0=kw)
  (hp:putDst nt o r (wS s d i j)=io s') (h:GO prog nt (.ops all rest::k) Q s'):GO prog nt (.ops all (o::rest)::k) Q s:=
 dp hg (yj hc ho ha hi hj hlt hlj hne has hlow hr hp) fun t u=>by subst u;exact h
theorem gC{all rest:List Oper}{o:Oper}{c:Call}{g:FuncId}{args b:List PV}{w d:WS}{r:PV}{i j:Nat}{s':AS}(hc:bL prog g (.ptr 0 0::args) w.O r d.H 3)(h:GO prog nt (.ops all rest::k) Q s')(ho:o.op= .call c:=by exact rfl)(hg:o.guard=jp:=by exact rfl)(ha:bK s.f c=io (g,.ptr i 0::b):=by exact rfl)(hi:s.h.get i=io (w.qz i j):=by exact rfl)(hj:s.h.get j=io (.bu w.l 5):=by exact rfl)(hlt:QZ i s.nx=kw:=by exact rfl)(hlj:QZ j s.nx=kw:=by exact rfl)(hne:Q6 i j=lc:=by exact rfl)(has:b=args:=by exact rfl)(hlow:bp 0 args=kw:=by exact rfl)(hr:r.low 0=kw:=by exact rfl)(hp:putDst nt o r (wS s d i j)=io s':=by exact rfl):GO prog nt (.ops all (o::rest)::k) Q s:=OG (hc:=hc) (ho:=ho) (hg:=hg) (ha:=ha) (hi:=hi) (hj:=hj) (hlt:=hlt) (hlj:=hlj) (hne:=hne) (has:=has) (hlow:=hlow) (hr:=hr) (hp:=hp) (h:=h)
theorem BC{o:Oper}{c:Call}{g:FuncId}{b:List ae}{w d:WS}{i j m n:Nat}{s':AS}(hc:bL prog g [.ptr 0 0,.sl 2 0 b.length 1] [w.c,.bu w.l 5,aW 1 b bR] (.bB []) [(0,io (d.qz 0 3)),(3,io (.bu d.l 5))] 4)(ho:o.op= .call c)(ha:bK s.f c=io (g,[.ptr i 0,.sl m 0 n 1]))
  (hi:s.h.get i=io (w.qz i j)) (hj:s.h.get j=io (.bu w.l 5)) (hm:s.h.get m=io (aW 1 b bR)) (hn:n=b.length) (hlt:QZ i s.nx=kw) (hlj:QZ j s.nx=kw) (hlm:QZ m s.nx=kw) (hnd:cL [i,j,m]=kw)
  (hp:putDst nt o (.bB []) (Nx s d i j m)=io s'):OT prog nt o s (fun t=>t=s'):=by
 have y: ∀x∈ [i,j,m],x<s.nx:=by
  intro x u;simp only[QY,To,or_false]at u;rcases u with rfl|rfl|rfl
  .exact Qs hlt
  .exact Qs hlj
  .exact Qs hlm
 subst hn;refine me ho ha hc (fA hnd) y ?_ D ?_
 .simp only[Q4,RL,hi,hj,hm,bD];rfl
 .rintro q A n0 ⟨rfl,rfl,rfl⟩;rw[Ly]at hp;exact⟨s',hp,rfl⟩
theorem go_wp{all rest:List Oper}{o:Oper}{c:Call}{g:FuncId}{b:List ae}{w d:WS}{i j m n:Nat}{s':AS}(hc:bL prog g [.ptr 0 0,.sl 2 0 b.length 1] [w.c,.bu w.l 5,aW 1 b bR] (.bB []) [(0,io (d.qz 0 3)),(3,io (.bu d.l 5))] 4)(ho:o.op= .call c)(hg:o.guard=jp)(ha:bK s.f c=io (g,[.ptr i 0,.sl m 0 n 1]))
  (hi:s.h.get i=io (w.qz i j)) (hj:s.h.get j=io (.bu w.l 5)) (hm:s.h.get m=io (aW 1 b bR)) (hn:n=b.length) (hlt:QZ i s.nx=kw) (hlj:QZ j s.nx=kw) (hlm:QZ m s.nx=kw) (hnd:cL [i,j,m]=kw)
  (hp:putDst nt o (.bB []) (Nx s d i j m)=io s')
  (h:GO prog nt (.ops all rest::k) Q s'):GO prog nt (.ops all (o::rest)::k) Q s:=
 dp hg (BC hc ho ha hi hj hm hn hlt hlj hlm hnd hp) fun t u=>by subst u;exact h
theorem iD{all rest:List Oper}{o:Oper}{c:Call}{g:FuncId}{b:List ae}{w d:WS}{i j m n:Nat}{s':AS}(hc:bL prog g [.ptr 0 0,.sl 2 0 b.length 1] [w.c,.bu w.l 5,aW 1 b bR] (.bB []) [(0,io (d.qz 0 3)),(3,io (.bu d.l 5))] 4)(h:GO prog nt (.ops all rest::k) Q s')(ho:o.op= .call c:=by exact rfl)(hg:o.guard=jp:=by exact rfl)(ha:bK s.f c=io (g,[.ptr i 0,.sl m 0 n 1]):=by exact rfl)(hi:s.h.get i=io (w.qz i j):=by exact rfl)(hj:s.h.get j=io (.bu w.l 5):=by exact rfl)(hm:s.h.get m=io (aW 1 b bR):=by exact rfl)(hn:n=b.length:=by exact rfl)(hlt:QZ i s.nx=kw:=by exact rfl)(hlj:QZ j s.nx=kw:=by exact rfl)(hlm:QZ m s.nx=kw:=by exact rfl)(hnd:cL [i,j,m]=kw:=by exact rfl)(hp:putDst nt o (.bB []) (Nx s d i j m)=io s':=by exact rfl):GO prog nt (.ops all (o::rest)::k) Q s:=go_wp (hc:=hc) (ho:=ho) (hg:=hg) (ha:=ha) (hi:=hi) (hj:=hj) (hm:=hm) (hn:=hn) (hlt:=hlt) (hlj:=hlj) (hlm:=hlm) (hnd:=hnd) (hp:=hp) (h:=h)
theorem xG{all:List Oper}{todo pend:List (Nat×Oper)}{d:Nat}{A y:Prop}{o:Oper}{c:Call}{g:FuncId}{b:List ae}{w u:WS}{i j m n:Nat}{s':AS}(hc:bL prog g [.ptr 0 0,.sl 2 0 b.length 1] [w.c,.bu w.l 5,aW 1 b bR] (.bB []) [(0,io (u.qz 0 3)),(3,io (.bu u.l 5))] 4)
  (hrd:eG todo=[(d,o)]) (ho:o.op= .call c) (ha:bK s.f c=io (g,[.ptr i 0,.sl m 0 n 1]))
  (hi:s.h.get i=io (w.qz i j)) (hj:s.h.get j=io (.bu w.l 5)) (hm:s.h.get m=io (aW 1 b bR)) (hn:n=b.length) (hlt:QZ i s.nx=kw) (hlj:QZ j s.nx=kw) (hlm:QZ m s.nx=kw) (hnd:cL [i,j,m]=kw)
  (hp:putDst nt o (.bB []) (Nx s u i j m)=io s')
  (hg:cf nt all s.f o=io kw) (hpb:gT all pend o=kw) (hE:nA todo [d]=kw)
  (hag:rB nP nt all s todo pend=io A) (hCA:A) (hag2:dH nP nt all s' (a8 pend o)=io y) (hC2:y)
  (h:GO prog nt (.ct all (todo.filter fun x=>!Q6 x.1 d) (a8 pend o)::k) Q s'):GO prog nt (.ct all todo pend::k) Q s:=
 rk ab hrd hg hpb hE hag hCA (BC hc ho ha hi hj hm hn hlt hlj hlm hnd hp) hag2 hC2 h
theorem OH{all:List Oper}{todo pend:List (Nat×Oper)}{b:Nat}{u d:Prop}{o:Oper}{c:Call}{g:FuncId}{args y:List PV}{w A:WS}{r:PV}{i j:Nat}{s':AS}(hc:bL prog g (.ptr 0 0::args) w.O r A.H 3)
  (hrd:eG todo=[(b,o)]) (ho:o.op= .call c) (ha:bK s.f c=io (g,.ptr i 0::y))
  (hi:s.h.get i=io (w.qz i j)) (hj:s.h.get j=io (.bu w.l 5)) (hlt:QZ i s.nx=kw) (hlj:QZ j s.nx=kw) (hne:Q6 i j=lc) (has:y=args) (hlow:bp 0 args=kw) (hr:r.low 0=kw)
  (hp:putDst nt o r (wS s A i j)=io s')
  (hg:cf nt all s.f o=io kw) (hpb:gT all pend o=kw) (hE:nA todo [b]=kw)
  (hag:rB nP nt all s todo pend=io u) (hCA:u) (hag2:dH nP nt all s' (a8 pend o)=io d) (hC2:d)
  (h:GO prog nt (.ct all (todo.filter fun x=>!Q6 x.1 b) (a8 pend o)::k) Q s'):GO prog nt (.ct all todo pend::k) Q s:=
 rk ab hrd hg hpb hE hag hCA (yj hc ho ha hi hj hlt hlj hne has hlow hr hp) hag2 hC2 h
theorem vg{all:List Oper}{todo pend:List (Nat×Oper)}{b:Nat}{u d:Prop}{o:Oper}{c:Call}{g:FuncId}{args y:List PV}{w A:WS}{r:PV}{i j:Nat}{s':AS}(hc:bL prog g (.ptr 0 0::args) w.O r A.H 3)(h:GO prog nt (.ct all (todo.filter fun x=>!Q6 x.1 b) (a8 pend o)::k) Q s')(hrd:eG todo=[(b,o)]:=by exact rfl)(ho:o.op= .call c:=by exact rfl)(ha:bK s.f c=io (g,.ptr i 0::y):=by exact rfl)(hi:s.h.get i=io (w.qz i j):=by exact rfl)(hj:s.h.get j=io (.bu w.l 5):=by exact rfl)(hlt:QZ i s.nx=kw:=by exact rfl)(hlj:QZ j s.nx=kw:=by exact rfl)(hne:Q6 i j=lc:=by exact rfl)(has:y=args:=by exact rfl)(hlow:bp 0 args=kw:=by exact rfl)(hr:r.low 0=kw:=by exact rfl)(hp:putDst nt o r (wS s A i j)=io s':=by exact rfl)(hg:cf nt all s.f o=io kw:=by exact rfl)(hpb:gT all pend o=kw:=by exact rfl)(hE:nA todo [b]=kw:=by exact rfl)(hag:rB nP nt all s todo pend=io u:=by exact rfl)(hCA:u:=by(repeat' (first|exact ac|exact rfl|exact aC.refl _|exact aC.bk (by assumption)|apply Rm))<;>first|omega|(simp only[QW];omega)|(simp;done)|(simp;omega))(hag2:dH nP nt all s' (a8 pend o)=io d:=by exact rfl)(hC2:d:=by(repeat' (first|exact ac|exact rfl|exact aC.refl _|exact aC.bk (by assumption)|apply Rm))<;>first|omega|(simp only[QW];omega)|(simp;done)|(simp;omega)):GO prog nt (.ct all todo pend::k) Q s:=OH (hc:=hc) (hrd:=hrd) (ho:=ho) (ha:=ha) (hi:=hi) (hj:=hj) (hlt:=hlt) (hlj:=hlj) (hne:=hne) (has:=has) (hlow:=hlow) (hr:=hr) (hp:=hp) (hg:=hg) (hpb:=hpb) (hE:=hE) (hag:=hag) (hCA:=hCA) (hag2:=hag2) (hC2:=hC2) (h:=h)
theorem Gp{l:List ResultVar}{r A a b c d:PV}{e:Exit}{u:WS}{j n:Nat}(he:e= .normal∨e= .ret)(hr:jw nP s l=io A)(hi:s.h.get 0=io (.cells [a,b,c,d] (io 247)))(ha:a= .dV u.fr 0)(hb:b= .sl j 0 n 1)(hn:n=u.l.length)(hc:aC c (pB u.bad))(hd:aC d (pI u.br))
  (hj:s.h.get j=io (.bu u.l 5)) (hlj:QZ j s.nx=kw) (hne:Q6 0 j=lc) (hns:SE 2 s.nx=kw)
  (hrl:aC A r) (hlow:r.low 0=kw) (hlow3:r.low 3=kw):BA nP l 2 r u.H 3 e s:=by
 subst ha;subst hb;subst hn;refine en [j] he hr ⟨rfl,Qs hns,fun x y=>?_,⟨?_,hlow3,ac⟩,⟨⟨_,hi,.cells ⟨.refl _,.refl _,hc,hd,ac⟩⟩,Qs D,rfl,⟨.bu u.l 5,hj,.of_eq D⟩,Qs D,ac,ac⟩,?_⟩
 .simp only[QJ]at y;subst y;exact Qs hlj
 .rw[PV.ja _ _ hlow];exact hrl
 .have:(0:Nat)≠j:=fun e=>by subst e;simp at hne
  show([0,j]:List Nat).Nodup;simpa using this
theorem ie{l:List ResultVar}{r x a b c d:PV}{e:Exit}{u:WS}{j n:Nat}(he:e= .normal∨e= .ret:=by first|exact .inr D|exact .inl D)(hr:jw nP s l=io x:=by exact rfl)(hi:s.h.get 0=io (.cells [a,b,c,d] (io 247)):=by exact rfl)(ha:a= .dV u.fr 0:=by exact rfl)(hb:b= .sl j 0 n 1:=by exact rfl)(hn:n=u.l.length:=by exact rfl)(hc:aC c (pB u.bad):=by first|exact .refl _|exact .kb _)(hd:aC d (pI u.br):=by first|exact .refl _|exact .kb _)(hj:s.h.get j=io (.bu u.l 5):=by exact rfl)(hlj:QZ j s.nx=kw:=by exact rfl)(hne:Q6 0 j=lc:=by exact rfl)(hns:SE 2 s.nx=kw:=by exact rfl)(hrl:aC x r:=by exact .refl _)(hlow:r.low 0=kw:=by exact rfl)(hlow3:r.low 3=kw:=by exact rfl):BA nP l 2 r u.H 3 e s:=Gp (he:=he) (hr:=hr) (hi:=hi) (ha:=ha) (hb:=hb) (hn:=hn) (hc:=hc) (hd:=hd) (hj:=hj) (hlj:=hlj) (hne:=hne) (hns:=hns) (hrl:=hrl) (hlow:=hlow) (hlow3:=hlow3)
theorem Ps{n0 j m:Nat}{F:AF}{w A:WS}{a b c d:PV}(hw:w=A)(hi:s.h.get 0=io (.cells [a,b,c,d] (io 247)))(ha:a= .dV w.fr 0)(hb:b= .sl j 0 m 1)(hm:m=w.l.length)(hc:aC c (pB w.bad))(hd:aC d (pI w.br))(hj:s.h.get j=io (.bu w.l 5))
  (hlj:QZ j s.nx=kw) (hne:Q6 0 j=lc) (h0:QZ 0 n0=kw) (hns:SE n0 s.nx=kw) (hf:En (n0+1) (sg n0 [j]) s.f F):Wk n0 [j] s ⟨F,[(0,io (A.qz 0 n0)),(n0,io (.bu A.l 5))],n0+1⟩:=by
 subst hw;subst ha;subst hb;subst hm;have u:0<n0:=Qs h0;have s0:sg n0 [j] 0=0:=fC u;have G:QZ n0 n0=lc:=S8.2 fun e=>absurd (Qs e) (by omega);have I:QZ 0 (n0+1)=kw:=Ry (by omega);have J:QZ n0 (n0+1)=kw:=Ry (by omega);have y:sg n0 [j] n0=j:=by simp[sg,G]
 refine⟨rfl,Qs hns,fun x B=>?_,hf,⟨⟨_,by rw[s0];exact hi,?_⟩,Sb u,?_,⟨.bu w.l 5,by rw[y];exact hj,.of_eq D⟩,RX _,ac,ac⟩,?_⟩
 .simp only[QJ]at B;subst B;exact Qs hlj
 .simp only[AO.cx,dL,PV.cx,s0,y];exact .cells ⟨.refl _,.refl _,hc,hd,ac⟩
 .simp[AO.low,bp,PV.low,I,J]
 .have:(0:Nat)≠j:=fun e=>by subst e;simp at hne
  simp only[eB,s0,y];simpa using this
theorem pF{n0 j m:Nat}{x:AF}{w u:WS}{a b c d:PV}(hw:w=u)(hi:s.h.get 0=io (.cells [a,b,c,d] (io 247)):=by exact rfl)(ha:a= .dV w.fr 0:=by exact rfl)(hb:b= .sl j 0 m 1:=by exact rfl)(hm:m=w.l.length:=by exact rfl)(hc:aC c (pB w.bad):=by first|exact .refl _|exact .kb _)(hd:aC d (pI w.br):=by first|exact .refl _|exact .kb _)(hj:s.h.get j=io (.bu w.l 5):=by exact rfl)(hlj:QZ j s.nx=kw:=by exact rfl)(hne:Q6 0 j=lc:=by exact rfl)(h0:QZ 0 n0=kw:=by exact rfl)(hns:SE n0 s.nx=kw:=by exact rfl)(hf:En (n0+1) (sg n0 [j]) s.f x:=by repeat' (first|exact ac|exact aC.refl _|exact rfl|apply Rm)):Wk n0 [j] s ⟨x,[(0,io (u.qz 0 n0)),(n0,io (.bu u.l 5))],n0+1⟩:=Ps (hw:=hw) (hi:=hi) (ha:=ha) (hb:=hb) (hm:=hm) (hc:=hc) (hd:=hd) (hj:=hj) (hlj:=hlj) (hne:=hne) (h0:=h0) (hns:=hns) (hf:=hf)
end
end
def xj(w:WS)(s:ae):WS:=⟨lc,w.l++s.data.toList,w.bad,w.br⟩
theorem d183(w:WS)(s:ae)(hb:w.l.length+s.size<=140737488355328):bL prog 243 [.ptr 0 0,pS s] w.O (.bB [pI s.size,.iv (.v .nilIface)]) (xj w s).H 3:=by
 refine aw ab func243 D (by decide) ntmps243 D (by simp) ?_;refine gA D (zq [0,1] (d204 w) ?_);refine gA D ?_;refine Jm ab D D D D D D D D D D D D D D D D hb ?_;refine gA D ie
def aH(w:WS)(b:Bool):WS:=⟨w.fr,w.l,w.bad||!b,w.br⟩
theorem Jb(w:WS){b:Bool}(h:(!b)=lc):aH w b=w:=by cases w;simp_all [aH]
theorem Jc(w:WS){b:Bool}(h:(!b)=kw):aH w b=⟨w.fr,w.l,kw,w.br⟩:=by cases w;simp_all [aH]
theorem d146(w:WS)(b:Bool):bL prog 216 [.ptr 0 0,pB b] w.O (.bB []) (aH w b).H 3:=by
 refine aw ab func216 D (by decide) ntmps216 D (by simp) ?_;refine zJ D D (fun h=>?_) fun h=>?_
 .rw[Jc w h];refine gA D ie
 .rw[Jb w h];refine gA D ie
def aN(w:WS)(b:List ae):WS:=b.foldl xj w
def eU(b:List ae):Nat:=(b.map TX).sum
theorem Fb(w:WS)(s:ae):(xj w s).l.length=w.l.length+s.size:=by simp[xj]
theorem ix: ∀(b:List ae) (w:WS),(aN w b).l.length=w.l.length+eU b
 | [],w=>by simp[aN,eU]
 |s::r,w=>by
  have:=ix r (xj w s);simp only[aN,Rc]at this ⊢;rw[this,Fb];simp[eU];omega
theorem tw: ∀(b:List ae) (i:Nat),i<b.length->eU (b.take i)+(b.getD i co).size<=eU b
 | [],i,h=>by simp at h
 |s::r,0,_=>by simp[eU]
 |s::r,i+1,h=>by
  have:=tw r i (by simpa using h);simp[eU]at this ⊢;omega
theorem d147(w:WS)(d:List ae)(A:d.length<=1000)(hb:w.l.length+eU d<=140737488355328):bL prog 217 [.ptr 0 0,.sl 2 0 d.length 1] [w.c,.bu w.l 5,aW 1 d bR] (.bB []) [(0,io ((aN w d).qz 0 3)),(3,io (.bu (aN w d).l 5))] 4:=by
 refine aw ab func217 D (by decide) ntmps217 D (by simp) ?_;refine gA D ?_;refine xF 2 (fun k=>bR (d.getD k co)) D (fQ D) (by simp[AF.tP,PV.cU,nJ]) ⟨(by simp[AO.tP,gB,PV.cU]),ac,tE _ _ _ _ _ _,ac⟩ ?_;refine aD 0 d.length (QN _) (fun i=>⟨[(0,.ptr 0 0),(6,.iv (strs d)),(7,pI d.length),(8,pI i)],[(0,io ((aN w (d.take i)).qz 0 3)),(3,io (.bu (aN w (d.take i)).l 5))],4⟩) (fun _=>True) [1] ac
  (zM (bi ⟨.c5 D (fun k _=>by rw[Q9]),rfl,bi (bi trivial)⟩) ⟨⟨_,rfl,.of_eq D⟩,Qs D,rfl,⟨_,rfl,.of_eq D⟩,Qs D,ac,ac⟩) fun i y _=>?_
 refine zJ D D (fun j=>?_) fun j=>?_
 .have j:i<d.length:=zN j;have u:aN w (d.take (i+1))=xj (aN w (d.take i)) (d.getD i co):=dz (g:=xj) (b:=w) j;have x:=ix (d.take i) w;have B:=tw d i j;refine gA D (gC (d183 (aN w (d.take i)) (d.getD i co) (by omega)) ?_);refine gA D ⟨j,ac,[4],zW ⟨⟨_,rfl,.of_eq (by rw[u];rfl)⟩,Qs D,rfl,⟨_,rfl,.of_eq (by rw[u];rfl)⟩,Qs D,ac,ac⟩⟩
 .have j:d.length<=i:=zG j;rw[QM j];refine gA D (zD [3] D (zW ⟨⟨_,rfl,.of_eq D⟩,Qs D,rfl,⟨_,rfl,.of_eq D⟩,Qs D,ac,ac⟩))
end Go.Proofs.YtflegjieadkonaaGreatDoor
namespace Go.Proofs
open Go.Shelf
def Tryz.xA:Go.Shelf.Ren:=⟨fun|171=>273|243=>285|246=>297|283=>302|284=>303|285=>304|286=>305|129=>153|317=>307|318=>308|319=>309|320=>310|337=>311|338=>312|n=>n,fun|3=>3|9=>9|2=>2|4=>4|171=>337|0=>0|53=>205|37=>243|5=>5|173=>339|212=>343|51=>203|20=>20|213=>344|46=>179|232=>345|233=>346|n=>n,fun|17=>0|18=>1|19=>2|n=>n⟩
theorem Tryz.FJ:Go.Proofs.LaysM.n171 Tryz.prog Tryz.xA:={
 mixed:=by kernel_rfl
 f129:=Tryz.func153.trans (congrArg io (by kernel_rfl))
 f171:=Tryz.func273.trans (congrArg io (by kernel_rfl))
 f243:=Tryz.func285.trans (congrArg io (by kernel_rfl))
 f246:=Tryz.func297.trans (congrArg io (by kernel_rfl))
 f283:=Tryz.func302.trans (congrArg io (by kernel_rfl))
 f284:=Tryz.func303.trans (congrArg io (by kernel_rfl))
 f285:=Tryz.func304.trans (congrArg io (by kernel_rfl))
 f286:=Tryz.func305.trans (congrArg io (by kernel_rfl))
 f317:=Tryz.func307.trans (congrArg io (by kernel_rfl))
 f318:=Tryz.func308.trans (congrArg io (by kernel_rfl))
 f319:=Tryz.func309.trans (congrArg io (by kernel_rfl))
 f320:=Tryz.func310.trans (congrArg io (by kernel_rfl))
 f337:=Tryz.func311.trans (congrArg io (by kernel_rfl))
 f338:=Tryz.func312.trans (congrArg io (by kernel_rfl))
 t0:=Tryz.underlying0
 a0:=Tryz.isAgg0
 z0:=Tryz.sizeOf0
 v0:=Tryz.zeroValue0
 t2:=Tryz.underlying2
 a2:=Tryz.isAgg2
 z2:=Tryz.sizeOf2
 v2:=Tryz.zeroValue2
 t3:=Tryz.underlying3
 a3:=Tryz.isAgg3
 z3:=Tryz.sizeOf3
 v3:=Tryz.zeroValue3
 t4:=Tryz.underlying4
 a4:=Tryz.isAgg4
 z4:=Tryz.sizeOf4
 v4:=Tryz.zeroValue4
 t5:=Tryz.underlying5
 a5:=Tryz.isAgg5
 z5:=Tryz.sizeOf5
 v5:=Tryz.zeroValue5
 t9:=Tryz.underlying9
 a9:=Tryz.isAgg9
 z9:=Tryz.sizeOf9
 v9:=Tryz.zeroValue9
 t20:=Tryz.underlying20
 a20:=Tryz.isAgg20
 z20:=Tryz.sizeOf20
 v20:=Tryz.zeroValue20
 t37:=Tryz.underlying243
 a37:=Tryz.isAgg243
 z37:=Tryz.sizeOf243
 v37:=Tryz.zeroValue243
 t46:=Tryz.underlying179
 a46:=Tryz.isAgg179
 z46:=Tryz.sizeOf179
 v46:=Tryz.zeroValue179
 t51:=Tryz.underlying203
 a51:=Tryz.isAgg203
 z51:=Tryz.sizeOf203
 v51:=Tryz.zeroValue203
 t53:=Tryz.underlying205
 a53:=Tryz.isAgg205
 z53:=Tryz.sizeOf205
 v53:=Tryz.zeroValue205
 t171:=Tryz.underlying337
 a171:=Tryz.isAgg337
 z171:=Tryz.sizeOf337
 v171:=Tryz.zeroValue337
 t173:=Tryz.underlying339
 a173:=Tryz.isAgg339
 z173:=Tryz.sizeOf339
 v173:=Tryz.zeroValue339
 t212:=Tryz.underlying343
 a212:=Tryz.isAgg343
 z212:=Tryz.sizeOf343
 v212:=Tryz.zeroValue343
 t213:=Tryz.underlying344
 a213:=Tryz.isAgg344
 z213:=Tryz.sizeOf344
 t232:=Tryz.underlying345
 a232:=Tryz.isAgg345
 z232:=Tryz.sizeOf345
 v232:=Tryz.zeroValue345
 t233:=Tryz.underlying346
 a233:=Tryz.isAgg346
 z233:=Tryz.sizeOf346
 v233:=Tryz.zeroValue346
 g17:=by kernel_rfl
 g18:=by kernel_rfl
 g19:=by kernel_rfl
 i0:=by kernel_rfl
 i2:=by kernel_rfl
 i3:=by kernel_rfl
 i4:=by kernel_rfl
 i5:=by kernel_rfl
 i9:=by kernel_rfl
 i20:=by kernel_rfl
 i37:=by kernel_rfl
 i46:=by kernel_rfl
 i51:=by kernel_rfl
 i53:=by kernel_rfl
 i171:=by kernel_rfl
 i173:=by kernel_rfl
 i212:=by kernel_rfl
 i232:=by kernel_rfl
 i233:=by kernel_rfl
 m17:=by kernel_rfl
 m18:=by kernel_rfl
 m19:=by kernel_rfl}
theorem YtflegjieadkonaaGreatDoor.OB (n:Int) (h0: -9223372036854775808<=n) (h1:n<=9223372036854775807) (w:World) (b:Lib.TabIs Tryz.prog w "internal/strconv.uint64pow10" .u64 Lib.pow10Tab):
  Calls Tryz.prog 273 #[.int .i64 n] w fun e d=>e= .returned (.string ⟨(Lib.itoa n).toArray⟩)∧ ∃k os,d=Go.Sort.grow (w.drewN k) os:=Any.strconv_Itoa Tryz.FJ n h0 h1 w b
end Go.Proofs
namespace Go.Proofs.YtflegjieadkonaaGreatDoor
open Go Go.Al Go.Proofs.Tryz
theorem PF:prog.globalNamed "internal/strconv.uint64pow10" =io 0:=by kernel_rfl
theorem pow_eq:o6=Lib.pow10Tab:=by decide
theorem Pu{M:Mem}{N:Nm}{U:Nat->Prop}{h:AH}{w:World}(hr:Rel M N U h w):Lib.TabIs prog w "internal/strconv.uint64pow10" .u64 Lib.pow10Tab:=by
 obtain⟨T,d,b⟩:=hr.dT 0 _ (M.Ju 0 _ D);show World.var? _ _ _=_;simp only[World.var?,PF,TG,b,pow_eq]
theorem P2(n:Int)(h0: -9223372036854775808<=n)(h1:n<=9223372036854775807):Pure prog 273 [pI n] (pS ⟨(Lib.itoa n).toArray⟩):=by
 refine⟨bY func273 D (by decide),fun M N w F x u I=>?_⟩;obtain⟨v,rfl⟩: ∃v,F=[v]:=by
  cases F with
  |nil=>cases u
  |cons v r=>cases r with
   |nil=>exact⟨v,rfl⟩
   |cons a b=>simp at u
 have y:VR M N (· <0) (pI n) v:=I 0 _ D;have A:v= .int .i64 n:=by
  cases y with
  |iv _ _ h=>cases h;rfl
 subst A;refine(OB n h0 h1 w (Pu x)).mono ?_;rintro e J ⟨rfl,k,os,rfl⟩;have B: ∀b,b<w.heap.size->(Go.Sort.grow (w.drewN k) os).heap[b]? =w.heap[b]? :=fun b hb=>by
  show(w.heap++os)[b]? =_;rw[RB hb]
 refine⟨_,M,N,pS ⟨(Lib.itoa n).toArray⟩,[],0,rfl,⟨rfl,rfl,rfl⟩,⟨rfl,rfl,rfl,?_,fun b hb _=>B b hb,.refl _,fun b c h1 G=>(nomatch (h1.symm.trans G)),.refl _ _,fun _ h=>h,fun i o d=>(nomatch d)⟩,⟨fun b c hb=>?_,fun i o d=>(nomatch d),fun i o d=>(nomatch d),fun i o d=>(nomatch d),fun i j o p d=>(nomatch d)⟩,.iv _ _ (.v _)⟩
 .show w.heap.size<=(w.heap++os).size;simp
 .exact(x.dT b c hb).mono (B b (x.dT b c hb).lt)
def PD:ae:=⟨#[48,49,50,51,52,53,54,55,56,57,65,66,67,68,69,70]⟩
def Nt(c:UInt8):Int:=(c.toNat:Int).fdiv (2 ^ min (Int.toNat 4) IntKind.u8.bits)
def Ns(c:UInt8):Int:=IntKind.u8.wrap ((BitVec.ofInt IntKind.u8.bits (c.toNat:Int)&&&BitVec.ofInt IntKind.u8.bits 15).toNat:Int)
theorem MQ(c:UInt8):0<=Nt c∧Nt c<16:=by
 have h:c.toNat<256:=c.toNat_lt;have e:Nt c=(c.toNat:Int)/16:=by
  unfold Nt;have:(2:Int) ^ min (Int.toNat 4) IntKind.u8.bits=16:=by decide
  rw[this];exact Int.fdiv_eq_ediv_of_nonneg _ (by decide)
 rw[e];omega
theorem MN: ∀c:UInt8,0<=Ns c∧Ns c<16:=by
 intro c;have h: ∀n:Fin 256,0<=Ns (UInt8.ofNat n.val)∧Ns (UInt8.ofNat n.val)<16:=by decide
 have:=h ⟨c.toNat,c.toNat_lt⟩;simpa using this
def OE(n:Int):UInt8:=PD.data.toList.getD n.toNat 0
def qB(c:UInt8):List UInt8:=if c.toNat=34∨c.toNat=92 then[92,c] else if c.toNat=10 then[92,110] else if c.toNat<32∨126<c.toNat then[92,120,OE (Nt c),OE (Ns c)] else[c]
theorem Mw(c:UInt8):(qB c).length<=4:=by
 unfold qB
 repeat' split
 all_goals simp
def qT(s:ae)(i:Nat):List UInt8:=34::(s.data.toList.take i).flatMap qB
def qQ(s:ae):ae:=⟨(34::s.data.toList.flatMap qB++ [34]).toArray⟩
theorem tL(s:ae): ∀i,(qT s i).length<=1+4*i
 |0=>by simp[qT]
 |i+1=>by
  have h:=tL s i;rcases RN i s.data.toList.length with hi|hi
  .have:=Mw (s.data.toList.getD i co);simp only[qT,Rf]at h ⊢;rw[bn hi,Qv];omega
  .simp only[qT,QM hi]at h;simp only[qT,QM (by omega:s.data.toList.length<=i+1)];omega
theorem DA{s:ae}{i:Nat}(h:i<s.data.toList.length):qT s (i+1)=qT s i++qB (s.data.toList.getD i co):=by
 simp only[qT,bn h,Se]
theorem P1(s:ae)(hs:s.size<=1000):Pure prog 274 [pS s] (pS (qQ s)):=by
 have S:s.data.toList.length=s.size:=by simp
 refine ar ab func274 D (by decide) ntmps274 D (by simp) D ?_;refine gA D ?_;refine DX ab D D D D D D D D D D D (by omega) ?_;refine gA D ?_;refine aD 0 s.data.toList.length (QN _) (fun i=>⟨[(3,.sl 1 0 (qT s i).length 1),(8,.iv (.c5 1 s.data.toList.length fun k=>uF (s.data.toList.getD k co))),(9,pI s.data.toList.length),(10,pI i)],[(1,io (aW 1 (qT s i) uF))],2⟩) (fun _=>True) [0] ac
  (zW (zS trivial)) fun i J _=>?_
 have Y:=tL s i;refine zE D D (fun x=>?_) fun x=>?_
 .have x:s.data.toList.length<=i:=zG x;refine gA D ?_;refine Jr ab (qT s i++ [34]) D D D D D D D D D D D D (by rw[QO];rfl) (by rw[Qv];rfl) ?_;refine gA D (zL (.of_eq ?_));simp only[qT,qQ,QM x];rfl
 have x:i<s.data.toList.length:=zN x;have b:=DA x;have d:s.data.toList.getD (i:Int).toNat co=s.data.toList.getD i co:=rfl;generalize I:s.data.toList.getD i co=c at b d;refine zJ D D (fun A=>?_) fun A=>?_
 .have A:c.toNat=34:=by have:=zT A;rw[d]at this;omega
  rw[qB,am (.inl A)]at b;refine gA D ⟨x,ac,[3],zM ⟨.row (by rw[b,Qv];rfl),rfl,bi (bi (bi ac))⟩ (hR D (by rw[b,QO,<-I];rfl) D ac)⟩
 have A: ¬c.toNat=34:=by have:=zF A;rw[d]at this;omega
 refine zJ D D (fun B=>?_) fun B=>?_
 .have B:c.toNat=92:=by have:=zT B;rw[d]at this;omega
  rw[qB,am (.inr B)]at b;refine gA D ⟨x,ac,[3],zM ⟨.row (by rw[b,Qv];rfl),rfl,bi (bi (bi ac))⟩ (hR D (by rw[b,QO,<-I];rfl) D ac)⟩
 have B: ¬c.toNat=92:=by have:=zF B;rw[d]at this;omega
 rw[qB,be (by omega)]at b;refine zJ D D (fun y=>?_) fun y=>?_
 .have y:c.toNat=10:=by have:=zT y;rw[d]at this;omega
  rw[am y]at b;refine gA D ⟨x,ac,[3],zM ⟨.row (by rw[b,Qv];rfl),rfl,bi (bi (bi ac))⟩ (hR D (by rw[b,QO];rfl) D ac)⟩
 have y: ¬c.toNat=10:=by have:=zF y;rw[d]at this;omega
 rw[be y]at b;have j:=MQ c;have u:=MN c;rw[<-I]at j u;simp only[Nt,Ns]at j u;refine zJ D D (fun F=>?_) fun F=>?_
 .have F:c.toNat<32:=by have:=zT F;rw[d]at this;omega
  rw[am (.inl F)]at b;refine mu D (by(repeat' (first|exact ac|exact rfl|exact aC.refl _|exact j|exact u|apply Rm))<;>first|omega|exact j.1|exact j.2|exact u.1|exact u.2|simp) ?_;exact⟨x,ac,[3],zM ⟨.row (by rw[b,Qv];rfl),rfl,bi (bi (bi ac))⟩ (hR D (by rw[b,QO,<-I];rfl) D ac)⟩
 have F: ¬c.toNat<32:=by have:=zF F;rw[d]at this;omega
 refine zJ D D (fun G=>?_) fun G=>?_
 .have G:126<c.toNat:=by have:=zT G;rw[d]at this;omega
  rw[am (.inr G)]at b;refine mu D (by(repeat' (first|exact ac|exact rfl|exact aC.refl _|exact j|exact u|apply Rm))<;>first|omega|exact j.1|exact j.2|exact u.1|exact u.2|simp) ?_;exact⟨x,ac,[3],zM ⟨.row (by rw[b,Qv];rfl),rfl,bi (bi (bi ac))⟩ (hR D (by rw[b,QO,<-I];rfl) D ac)⟩
 have G: ¬126<c.toNat:=by have:=zF G;rw[d]at this;omega
 rw[be (by omega)]at b;refine gA D ⟨x,ac,[3],zM ⟨.row (by rw[b,Qv];rfl),rfl,bi (bi (bi ac))⟩ (hR D (by rw[b,QO,<-I];rfl) D ac)⟩
def vp(v:sB):ae:=if v.kind=1 then⟨(Lib.itoa v.num).toArray⟩ else if iy v.sym then v.sym else qQ v.sym
theorem tk{v:sB}(h:eS v=0)(h1:v.kind=1): -2147483647<=v.num∧v.num<=2147483647:=by
 unfold eS at h;rw[am h1]at h;split at h
 .rename_i b;exact b.2
 .cases h
theorem tj{v:sB}(h:eS v=0)(h1: ¬v.kind=1):v.sym.size<=64:=by
 unfold eS at h;rw[be h1]at h;split at h
 .split at h
  .rename_i b;exact b.2
  .cases h
 .cases h
theorem P3(v:sB)(j:eS v=0):Pure prog 262 [ag v.c] (pS (vp v)):=by
 refine ar ab func262 D (by decide) ntmps262 D (by simp) D ?_;refine zJ D D (fun b=>?_) fun b=>?_
 .have b:v.kind=1:=by simpa using b
  have:=tk j b;refine gA D (zp (P2 v.num (by omega) (by omega)) ?_);refine gA D (zL (.of_eq ?_));rw[vp,am b];rfl
 have b: ¬v.kind=1:=by simpa using b
 have u:=tj j b;refine gA D (zp (PT v.sym) ?_);refine zJ D D (fun d=>?_) fun d=>?_
 .have d:iy v.sym=kw:=d;refine gA D (zL (.of_eq ?_));rw[vp,be b,am d];rfl
 .have d:iy v.sym=lc:=d;refine gA D (zp (P1 v.sym (by omega)) ?_);refine gA D (zL (.of_eq ?_));rw[vp,be b,be (by rw[d];simp)];rfl
def pH(v:sB):ae:=if eS v=0 then vp v else⟨#[]⟩
theorem P6(v:sB):Pure prog 244 [ag v.c] (.bB [pS (pH v),pI (eS v)]):=by
 refine ar ab func244 D (by decide) ntmps244 D (by simp) D ?_;refine gA D (zp (Qb v) ?_);refine zJ D D (fun b=>?_) fun b=>?_
 .have b: ¬eS v=0:=by simpa using b
  refine gA D (zL (.of_eq ?_));rw[pH,be b];rfl
 .have b:eS v=0:=by simpa using b
  refine gA D (zp (P3 v b) ?_);refine gA D (zL (.of_eq ?_));rw[pH,am b,b];rfl
def kE(w:WS)(v:sB):WS:=aN (aH w (li (eS v=0))) [pH v]
theorem d149(w:WS)(v:sB)(hb:w.l.length<=1000000000000)(b:(pH v).size<=1000):bL prog 219 [.ptr 0 0,ag v.c] w.O (.bB []) (kE w v).H 3:=by
 refine aw ab func219 D (by decide) ntmps219 D (by simp) ?_;refine gA D (zp (P6 v) ?_);refine gA D (OG (d146 ⟨_,_,_,_⟩ (li (eS v=0))) D D D D D D D D D D D D ?_);refine gA D (go_wp (d147 ⟨_,_,_,_⟩ [pH v] (by simp) (by simp[eU,aH];omega)) D D D D D D D D D D D D ?_);refine gA D ie
def aS(op:Int):Int:=if op=1∨op=2 then 1 else if op=3∨op=4∨op=5 then 2 else if op=6 then 3 else 0
theorem JL(op:Int):Pure prog 246 [pI op] (pI (aS op)):=by
 refine ar ab func246 D (by decide) ntmps246 D (by simp) D ?_
 repeat' (first|(refine gA D (zI (fun _=>?_) (fun _=>?_)))|(refine gA D (zL (.of_eq ?_))))
 all_goals(refine(Ff ?_:pI _=pI _);simp only[S5,Tu,decide_eq_true_eq,decide_eq_false_iff_not] at*;simp_all [aS])
def dq(e:Expr):Int:=if e.kind=4 then aS e.op else 4
theorem Ec(e:Expr):Pure prog 264 [ag e.c] (pI (dq e)):=by
 refine ar ab func264 D (by decide) ntmps264 D (by simp) D ?_
 repeat' (first|(refine gA D (zI (fun _=>?_) (fun _=>?_)))|(refine gA D (zp (JL e.op) ?_))|(refine gA D (zL (.of_eq ?_))))
 all_goals(refine(Ff ?_:pI _=pI _);simp_all [dq])
def cZ(v:sB):Bool:=li (v.kind=0)&&(li (v.num=0)&&(li (v.sym=Qz)&&kw))
def cy(e:Expr):Bool:=li (e.kind=0)&&(li (e.var=⟨#[]⟩)&&(cZ e.val&&(li (e.op=0)&&li ((e.args.length:Int)=0))))
theorem JM(e:Expr):Pure prog 245 [ag e.c] (pB (cy e)):=by
 refine ar ab func245 D (by decide) ntmps245 D (by simp) D ?_
 repeat' (first|(refine gA D (zI (fun _=>?_) (fun _=>?_)))|(refine gA D (zL (.of_eq ?_))))
 all_goals(refine(mF ?_:pB _=pB _))
 all_goals(simp only[cy,cZ, *];rfl)
def hQ(l:Lit):Bool:=
 (li (l.kind=1)||decide (l.kind=2)||!(!li (l.atom.rel=⟨#[]⟩)||decide ((l.atom.ad.length:Int)>0)))&&
 ((!(!li (l.kind=3))||!(!li (l.op=0)||(!cy l.left||!cy l.right)))&&
 (li (l.kind=4)||(li (l.cH=0)&&(li (l.ba=⟨#[]⟩)&&(cy l.iJ&&li ((l.an.length:Int)=0))))))
set_option maxHeartbeats 4000000 in
theorem P5(l:Lit):Pure prog 221 [ag l.c] (pB (hQ l)):=by
 refine ar ab func221 D (by decide) ntmps221 D (by simp) D ?_
 repeat' (first|(refine gA D (zI (fun _=>?_) (fun _=>?_)))|(refine gA D (zp (JM l.left) ?_))|(refine gA D (zp (JM l.right) ?_))|(refine gA D (zp (JM l.iJ) ?_))|(refine gA D (zL (.of_eq ?_))))
 all_goals(refine(mF ?_:pB _=pB _))
 all_goals(try simp only[S5,Tu] at*)
 all_goals(simp_all [hQ])
def mo(op:Int):ae:=if op=1 then⟨#[43]⟩ else if op=2 then⟨#[45]⟩ else if op=3 then⟨#[42]⟩ else if op=4 then⟨#[47]⟩ else⟨#[109,111,100]⟩
def sgL:ae:=⟨#[43,45,42,47]⟩
theorem P0(op:Int):Pure prog 265 [pI op] (pS (mo op)):=by
 refine ar ab func265 D (by decide) ntmps265 D (by simp) D ?_;refine gA D ?_;refine wa ab D D D D D D D ?_;refine gA D ?_;refine aD 0 4 (by decide) (fun i=>⟨[(0,pI op),(5,.ptr 0 0)],[(0,io (.dJ sgL i))],1⟩) (fun i=> ∀k:Nat,k<i-> ¬(k:Int)+1=op) [] (by simp)
  (zW ⟨⟨_,rfl,.of_eq D⟩,Qs D,ac,ac⟩) fun i F b=>?_
 have j:i=0∨i=1∨i=2∨i=3∨i=4:=by omega
 rcases j with rfl|rfl|rfl|rfl|rfl
 .refine gA D ?_;refine lk D D D D D D (fun h=>absurd h (by decide)) (fun _=>?_);refine zJ D D (fun h=>?_) fun h=>?_
  .have h:op=1:=by have:=zT h;omega
   refine gA D ?_;refine sR ab D D D D D D D D D ?_;refine gA D (zL (.of_eq ?_));refine(congrArg pS ?_:pS _=pS _);subst h;decide
  .have h: ¬op=1:=by have:=zF h;omega
   refine gA D ⟨by decide,fun k u=>(by rcases(by omega:k<0∨k=0) with d|rfl;exact b k d;omega),[],zW ⟨⟨_,rfl,.of_eq D⟩,Qs D,ac,ac⟩⟩
 .refine gA D ?_;refine lk D D D D D D (fun h=>absurd h (by decide)) (fun _=>?_);refine zJ D D (fun h=>?_) fun h=>?_
  .have h:op=2:=by have:=zT h;omega
   refine gA D ?_;refine sR ab D D D D D D D D D ?_;refine gA D (zL (.of_eq ?_));refine(congrArg pS ?_:pS _=pS _);subst h;decide
  .have h: ¬op=2:=by have:=zF h;omega
   refine gA D ⟨by decide,fun k u=>(by rcases(by omega:k<1∨k=1) with d|rfl;exact b k d;omega),[],zW ⟨⟨_,rfl,.of_eq D⟩,Qs D,ac,ac⟩⟩
 .refine gA D ?_;refine lk D D D D D D (fun h=>absurd h (by decide)) (fun _=>?_);refine zJ D D (fun h=>?_) fun h=>?_
  .have h:op=3:=by have:=zT h;omega
   refine gA D ?_;refine sR ab D D D D D D D D D ?_;refine gA D (zL (.of_eq ?_));refine(congrArg pS ?_:pS _=pS _);subst h;decide
  .have h: ¬op=3:=by have:=zF h;omega
   refine gA D ⟨by decide,fun k u=>(by rcases(by omega:k<2∨k=2) with d|rfl;exact b k d;omega),[],zW ⟨⟨_,rfl,.of_eq D⟩,Qs D,ac,ac⟩⟩
 .refine gA D ?_;refine lk D D D D D D (fun h=>absurd h (by decide)) (fun _=>?_);refine zJ D D (fun h=>?_) fun h=>?_
  .have h:op=4:=by have:=zT h;omega
   refine gA D ?_;refine sR ab D D D D D D D D D ?_;refine gA D (zL (.of_eq ?_));refine(congrArg pS ?_:pS _=pS _);subst h;decide
  .have h: ¬op=4:=by have:=zF h;omega
   refine gA D ⟨by decide,fun k u=>(by rcases(by omega:k<3∨k=3) with d|rfl;exact b k d;omega),[],zW ⟨⟨_,rfl,.of_eq D⟩,Qs D,ac,ac⟩⟩
 .refine gA D ?_;refine lk D D D D D D (fun _=>?_) (fun h=>absurd h (by decide));refine gA D (zL (.of_eq ?_));have x:=b 0 (by decide);have y:=b 1 (by decide);have A:=b 2 (by decide);have B:=b 3 (by decide);rw[mo,be (by omega),be (by omega),be (by omega),be (by omega)];rfl
theorem AZ(s:ae):(qQ s).size<=2+4*s.size:=by
 have h:=tL s s.data.toList.length;simp only[qT,Sv,Rf]at h;have e:(qQ s).size=(34::s.data.toList.flatMap qB++ [34]).length:=by simp[qQ,TX]
 have:s.data.toList.length=s.size:=by simp
 rw[e,Qv,Rf,Rp];omega
theorem qI(v:sB):(pH v).size<=300:=by
 unfold pH;split
 .rename_i d;unfold vp;split
  .rename_i b;have:=tk d b;have j:=Lib.itoa_length_le v.num (by omega) (by omega);have e:(⟨(Lib.itoa v.num).toArray⟩:ByteArray).size=(Lib.itoa v.num).length:=by simp[TX]
   omega
  .rename_i b;have j:=tj d b;split
   .omega
   .have:=AZ v.sym;omega
 .decide
mutual
def Expr.ts:Expr->Nat
 | .mk _ v _ _ args=>v.size+400+Expr.mh args
def Expr.mh:List Expr->Nat
 | []=>0
 |e::r=>e.ts+Expr.mh r
end
theorem Expr.rG(e:Expr):e.ts=e.var.size+400+Expr.mh e.args:=by cases e;rfl
theorem Expr.wU: ∀(l:List Expr) (k:Nat),k<l.length->(l.getD k co).ts<=Expr.mh l
 |e::r,0,_=>by simp[Expr.mh]
 |e::r,k+1,h=>by
  have:=Expr.wU r k (by simpa using h);simp only[Sg,Expr.mh];omega
 | [],k,h=>by simp at h
theorem Expr.BK: ∀(l:List Expr),l.length=2->(l.getD 0 co).ts+(l.getD 1 co).ts<=Expr.mh l
 | [a,b],_=>by simp[Expr.mh]
 | [],h=>by simp at h
 | [a],h=>by simp at h
 |a::b::c::r,h=>by simp at h
def sM:ae:=⟨#[45]⟩
def sO:ae:=⟨#[40]⟩
def sC:ae:=⟨#[41]⟩
def BV:ae:=⟨#[32]⟩
def lC(w:WS):WS:=⟨w.fr,w.l,kw,w.br⟩
def mQ(e:Expr):Bool:=ef e.var&&(cZ e.val&&(li (e.op=0)&&li ((e.args.length:Int)=0)))
def oz(e:Expr):Bool:=li (e.var=⟨#[]⟩)&&(li (e.op=0)&&li ((e.args.length:Int)=0))
def jC(e:Expr):Bool:=li (e.var=⟨#[]⟩)&&(cZ e.val&&li (aS e.op>0))
def bz(e:Expr):Expr:=e.args.getD 0 co
def qu(e:Expr):Expr:=e.args.getD 1 co
def sr(e:Expr):Bool:=li (e.kind=2)&&li (e.val.kind=1)
def k9(a:Expr):Bool:=li (dq a<3)||(sr a&&li (a.val.num>0))
def gk(w:WS)(e:Expr)(k:WS):WS:=
 if w.bad=kw then lC w else if e.kind=1 then aN (aH w (mQ e)) [e.var] else if e.kind=2 then kE (aH w (oz e)) e.val else if e.kind=4 then k else lC w
def gU(a0:Bool->WS->Expr->WS)(w:WS)(e:Expr):WS:=
 if w.bad=kw then lC w else if e.op=6 then
  (if e.args.length=1 then a0 (k9 (bz e)) (if(sr (bz e)&&li ((bz e).val.num=0))=kw then aN (aN w [sM]) [sM] else aN w [sM]) (bz e) else lC w)
 else if e.args.length=2 then a0 (li (dq (qu e)<=aS e.op)) (aN (a0 (li (dq (bz e)<aS e.op)) w (bz e)) [BV,mo e.op,BV]) (qu e) else lC w
def bW:Nat->WS->Expr->WS
 |0,w,_=>lC w
 |1,w,e=>gk w e (lC (aH w (jC e)))
 |m+2,w,e=>gk w e (gU (fun b w a=>if b=kw then aN (bW m (aN w [sO]) a) [sC] else bW (m+1) w a) (aH w (jC e)) e)
def nI(m:Nat)(b:Bool)(w:WS)(a:Expr):WS:=if b=kw then aN (bW m (aN w [sO]) a) [sC] else bW (m+1) w a
theorem aK(w:WS)(b:Bool):(aH w b).l=w.l:=rfl
theorem ft(w:WS):(lC w).l=w.l:=rfl
theorem bJ(s:ae):eU [s]=s.size:=by simp[eU]
theorem yE(op:Int):(mo op).size<=3:=by
 unfold mo
 repeat' split
 all_goals decide
theorem aG(w:WS)(s:ae):(aN w [s]).l.length=w.l.length+s.size:=by rw[ix,bJ]
theorem th(w:WS)(v:sB):(kE w v).l.length<=w.l.length+300:=by
 have:=qI v;rw[kE,aG,aK];omega
theorem vU(w k:WS)(e:Expr)(h:k.l.length<=w.l.length+e.ts):(gk w e k).l.length<=w.l.length+e.ts:=by
 have:=e.rG;unfold gk
 repeat' split
 .rw[ft];omega
 .rw[aG,aK];omega
 .have:=th (aH w (oz e)) e.val;rw[aK]at this;omega
 .exact h
 .rw[ft];omega
theorem DE(a0:Bool->WS->Expr->WS)(d: ∀b w a,(a0 b w a).l.length<=w.l.length+(2+a.ts))(w:WS)(e:Expr):(gU a0 w e).l.length<=w.l.length+e.ts:=by
 have B:=e.rG;unfold gU;split
 .rw[ft];omega
 split
 .split
  .rename_i u;have y:=Expr.wU e.args 0 (by omega);have j:sM.size=1:=rfl;split
   .have:=d (k9 (bz e)) (aN (aN w [sM]) [sM]) (bz e);rw[aG,aG]at this;simp only[bz]at this ⊢;omega
   .have:=d (k9 (bz e)) (aN w [sM]) (bz e);rw[aG]at this;simp only[bz]at this ⊢;omega
  .rw[ft];omega
 .split
  .rename_i u;have y:=Expr.BK e.args u;have x:=d (li (dq (qu e)<=aS e.op)) (aN (a0 (li (dq (bz e)<aS e.op)) w (bz e)) [BV,mo e.op,BV]) (qu e);have F:=d (li (dq (bz e)<aS e.op)) w (bz e);have G:=yE e.op;have j:BV.size=1:=rfl;rw[ix]at x;have A:eU [BV,mo e.op,BV]=1+((mo e.op).size+1):=by simp[eU,j]
   simp only[bz,qu] at*;omega
  .rw[ft];omega
theorem dc: ∀(n:Nat) (w:WS) (e:Expr),(bW n w e).l.length<=w.l.length+e.ts
 |0,w,e=>by rw[bW,ft];omega
 |1,w,e=>by rw[bW];exact vU _ _ _ (by rw[ft,aK];omega)
 |m+2,w,e=>by
  rw[bW];refine vU _ _ _ ?_
  have:=DE (fun d w a=>if d=kw then aN (bW m (aN w [sO]) a) [sC] else bW (m+1) w a) (fun b w a=>by
   split
   .have j:=dc m (aN w [sO]) a;have u:sO.size=1:=rfl;have x:sC.size=1:=rfl;rw[aG]at j ⊢;omega
   .have:=dc (m+1) w a
    omega) (aH w (jC e)) e
  rwa[aK]at this
theorem G4(m:Nat)(b:Bool)(w:WS)(a:Expr):(nI m b w a).l.length<=w.l.length+(2+a.ts):=by
 unfold nI;split
 .have d:=dc m (aN w [sO]) a;have j:sO.size=1:=rfl;have u:sC.size=1:=rfl;rw[aG]at d ⊢;omega
 .have:=dc (m+1) w a;omega
def PE(n:Nat):Prop:= ∀(d:Int) (w:WS) (e:Expr),d+1=n->w.l.length+e.ts<=1000000000->bL prog 222 [.ptr 0 0,ag e.c,pI d] w.O (.bB []) (bW n w e).H 3
theorem d225(n:Nat)(hn:n<=1000)(x:PE (n+1))(hB:PE n)(b:Bool)(d:Int)(hd:d=n)(w:WS)(e:Expr)(hb:w.l.length+e.ts+2<=1000000000):bL prog 263 [.ptr 0 0,ag e.c,pB b,pI d] w.O (.bB []) (nI n b w e).H 3:=by
 refine aw ab func263 D (by decide) ntmps263 D (by simp) ?_;refine zJ D D (fun h=>?_) fun h=>?_
 .have h:b=lc:=by simpa using h
  rw[nI,be (by rw[h];simp)];refine gA D (gC (x d w e (by omega) (by omega)) ?_);refine gA D ie
 .have h:b=kw:=by simpa using h
  rw[nI,am h];have j:sO.size=1:=rfl;have u:sC.size=1:=rfl;have y:=dc n (aN w [sO]) e;have A:=aG w sO;refine gA D (iD (d147 w [sO] (by simp) (by rw[bJ,j];omega)) ?_);refine gA D (gC (hB (d-1) (aN w [sO]) e (by omega) (by omega)) ?_);refine gA D (iD (d147 (bW n (aN w [sO]) e) [sC] (by simp) (by rw[bJ,u];omega)) ?_);refine gA D ie
theorem OU(d:Int)(hd:d<0)(w:WS)(e:Expr):bL prog 247 [.ptr 0 0,ag e.c,pI d] w.O (.bB []) (lC w).H 3:=by
 refine aw ab func247 D (by decide) ntmps247 D (by simp) ?_
 repeat' (first
  |((rename_i h;exact absurd hd (zF h)))
  |(refine gA D (zI (fun _=>?_) (fun _=>?_)))
  |(refine gA D (Gp (by first|exact .inr D|exact .inl D) D D D D D (by first|exact .refl _|exact .kb _) (by first|exact .refl _|exact .kb _) D D D D (.refl _) D D)))
set_option maxHeartbeats 2000000 in
theorem d213(m:Nat)(hm:m<=900)(J:PE (m+1))(hB:PE m)(d:Int)(hd:d=m)(w:WS)(e:Expr)(hb:w.l.length+e.ts<=1000000000):bL prog 247 [.ptr 0 0,ag e.c,pI d] w.O (.bB []) (gU (nI m) w e).H 3:=by
 refine bL.le (aa:=[.ptr 0 0,ag e.c,pI d]) (args:=[.ptr 0 0,ag e.c1,pI d]) ?_ ⟨.refl _,e.Bb,.refl _,ac⟩;have e0:=e.rG;have I:sM.size=1:=rfl;have x:m<=1000:=by omega
 refine aw ab func247 D (by decide) ntmps247 D (by simp) ?_;refine zJ D D (fun S=>?_) fun S=>?_
 .have S:e.op=6:=zT S;refine zE D D (fun B=>?_) fun B=>?_
  .have B:w.bad=kw:=B;rw[gU,am B];refine gA D ie
  have B: ¬w.bad=kw:=by rw[show w.bad=lc from B];simp
  refine zE D D (fun F=>?_) fun F=>?_
  .have F: ¬e.args.length=1:=by simp at F;omega
   rw[gU,be B,am S,be F];refine gA D ie
  have F:e.args.length=1:=by simp at F;omega
  have hg:(bz e).ts<=_:=Expr.wU e.args 0 (by omega);have j:gU (nI m) w e=nI m (k9 (bz e)) (if(sr (bz e)&&li ((bz e).val.num=0))=kw then aN (aN w [sM]) [sM] else aN w [sM]) (bz e):=by rw[gU,be B,am S,am F]
  have b0:e.args.getD 0 co=bz e:=rfl;refine zJ D D (fun h3=>?_) fun h3=>?_
  .exact absurd (zT h3) (by omega)
  refine zE D D (fun h7=>?_) fun h7=>?_
  .exact absurd (zF h7) (by simp)
  have y:=aG w sM;refine zJ D D (fun hk=>?_) fun hk=>?_
  .have a0:(bz e).kind=2:=zT hk;refine gA D (iD (d147 w [sM] (by simp) (by rw[bJ,I];omega)) ?_);refine zE D D (fun hv=>?_) fun hv=>?_
   .have G: ¬(bz e).val.kind=1:=zF hv;have A:sr (bz e)=lc:=by rw[sr,decide_eq_false G,Sd]
    rw[A,Si,be (by simp)]at j;refine gA D (Au (Ec (bz e)) ?_);refine zJ D D (fun u=>?_) fun u=>?_
    .have b:dq (bz e)<3:=zT u;rw[k9,decide_eq_true b,Tm]at j;rw[j];refine gA D (vg (d225 m x J hB kw d hd (aN w [sM]) (bz e) (by rw[y,I];omega)) ?_);refine gA D ie
    .have b: ¬dq (bz e)<3:=zF u;refine zJ D D (fun Y=>?_) fun Y=>?_
     .exact absurd (zT Y) G
     rw[k9,decide_eq_false b,R4,A,Si]at j;rw[j];refine gA D (vg (d225 m x J hB lc d hd (aN w [sM]) (bz e) (by rw[y,I];omega)) ?_);refine gA D ie
   .have G:(bz e).val.kind=1:=zT hv;have A:sr (bz e)=kw:=by rw[sr,decide_eq_true G,decide_eq_true a0];rfl
    rw[A,RV]at j;refine zJ D D (fun h0=>?_) fun h0=>?_
    .have Z:(bz e).val.num=0:=zT h0;rw[am (decide_eq_true Z)]at j;refine gA D (iD (d147 (aN w [sM]) [sM] (by simp) (by rw[bJ,y,I];omega)) ?_);refine gA D (Au (Ec (bz e)) ?_);refine zJ D D (fun u=>?_) fun u=>?_
     .have b:dq (bz e)<3:=zT u;rw[k9,decide_eq_true b,Tm]at j;rw[j];refine gA D (vg (d225 m x J hB kw d hd (aN (aN w [sM]) [sM]) (bz e) (by rw[aG,y,I];omega)) ?_);refine gA D ie
     .have b: ¬dq (bz e)<3:=zF u;refine zE D D (fun Y=>?_) fun Y=>?_
      .exact absurd G (zF Y)
      rw[k9,decide_eq_false b,R4,A,RV]at j;rw[j];refine gA D (vg (d225 m x J hB (li ((bz e).val.num>0)) d hd (aN (aN w [sM]) [sM]) (bz e) (by rw[aG,y,I];omega)) ?_);refine gA D ie
    .have Z: ¬(bz e).val.num=0:=zF h0;rw[be (by simpa using Z)]at j;refine gA D (Au (Ec (bz e)) ?_);refine zJ D D (fun u=>?_) fun u=>?_
     .have b:dq (bz e)<3:=zT u;rw[k9,decide_eq_true b,Tm]at j;rw[j];refine gA D (vg (d225 m x J hB kw d hd (aN w [sM]) (bz e) (by rw[y,I];omega)) ?_);refine gA D ie
     .have b: ¬dq (bz e)<3:=zF u;refine zE D D (fun Y=>?_) fun Y=>?_
      .exact absurd G (zF Y)
      rw[k9,decide_eq_false b,R4,A,RV]at j;rw[j];refine gA D (vg (d225 m x J hB (li ((bz e).val.num>0)) d hd (aN w [sM]) (bz e) (by rw[y,I];omega)) ?_);refine gA D ie
  .have a0: ¬(bz e).kind=2:=zF hk;have A:sr (bz e)=lc:=by rw[sr,decide_eq_false a0];rfl
   rw[A,Si,be (by simp)]at j;refine gA D (iD (d147 w [sM] (by simp) (by rw[bJ,I];omega)) ?_);refine gA D (Au (Ec (bz e)) ?_);refine zJ D D (fun u=>?_) fun u=>?_
   .have b:dq (bz e)<3:=zT u;rw[k9,decide_eq_true b,Tm]at j;rw[j];refine gA D (vg (d225 m x J hB kw d hd (aN w [sM]) (bz e) (by rw[y,I];omega)) ?_);refine gA D ie
   .have b: ¬dq (bz e)<3:=zF u;rw[k9,decide_eq_false b,R4,A,Si]at j;rw[j];refine gA D (vg (d225 m x J hB lc d hd (aN w [sM]) (bz e) (by rw[y,I];omega)) ?_);refine gA D ie
 .have S: ¬e.op=6:=zF S;refine zE D D (fun B=>?_) fun B=>?_
  .have B:w.bad=kw:=B;rw[gU,am B];refine gA D ie
  have B: ¬w.bad=kw:=by rw[show w.bad=lc from B];simp
  refine zE D D (fun F=>?_) fun F=>?_
  .have F: ¬e.args.length=2:=by simp at F;omega
   rw[gU,be B,be S,be F];refine gA D ie
  have F:e.args.length=2:=by simp at F;omega
  have hg:(bz e).ts+(qu e).ts<=_:=Expr.BK e.args F;rw[gU,be B,be S,am F];refine zJ D D (fun h3=>?_) fun h3=>?_
  .exact absurd (zT h3) (by omega)
  refine zJ D D (fun h7=>?_) fun h7=>?_
  .exact absurd (zT h7) (by simp)
  refine gA D (Au (Ec (bz e)) ?_);refine gA D (Au (JL e.op) ?_);refine gA D (vg (d225 m x J hB (li (dq (bz e)<aS e.op)) d hd w (bz e) (by omega)) ?_);refine gA D (zp (P0 e.op) ?_);have c0:=G4 m (li (dq (bz e)<aS e.op)) w (bz e);have d0:=yE e.op;have e2:BV.size=1:=rfl;have e3:eU [BV,mo e.op,BV]=1+((mo e.op).size+1):=by simp[eU,e2]
  refine gA D (iD (d147 (nI m (li (dq (bz e)<aS e.op)) w (bz e)) [BV,mo e.op,BV] (by simp) (by rw[e3];omega)) ?_);refine gA D (Au (Ec (qu e)) ?_);refine gA D (Au (JL e.op) ?_);refine gA D (vg (d225 m x J hB (li (dq (qu e)<=aS e.op)) d hd (aN (nI m (li (dq (bz e)<aS e.op)) w (bz e)) [BV,mo e.op,BV]) (qu e) (by rw[ix,e3];omega)) ?_);refine gA D ie
theorem d189(d:Int)(Y:0<=d)(Z:d<=1000)(w:WS)(e:Expr)(hb:w.l.length+e.ts<=1000000000)(k:WS)(I:bL prog 247 [.ptr 0 0,ag e.c,pI (d-1)] (aH w (jC e)).O (.bB []) k.H 3):bL prog 222 [.ptr 0 0,ag e.c,pI d] w.O (.bB []) (gk w e k).H 3:=by
 have a0:=e.rG;refine aw ab func222 D (by decide) ntmps222 D (by simp) ?_;refine zE D D (fun J=>?_) fun J=>?_
 .have J:w.bad=kw:=J;rw[gk,am J];refine gA D ie
 have A: ¬w.bad=kw:=by rw[show w.bad=lc from J];simp
 refine zJ D D (fun S=>?_) fun S=>?_
 .exact absurd (zT S) (by omega)
 refine zJ D D (fun B=>?_) fun B=>?_
 .have j:e.kind=1:=zT B;have y:gk w e k=aN (aH w (mQ e)) [e.var]:=by rw[gk,be A,am j]
  rw[y];refine gA D (zp (Bv e.var) ?_);refine zE D D (fun g0=>?_) fun g0=>?_
  .have b:mQ e=lc:=by simp only[mQ,cZ, *];rfl
   rw[b];refine gA D (gC (d146 w lc) ?_);refine gA D (iD (d147 (aH w lc) [e.var] (by simp) (by rw[bJ,aK];omega)) ?_);refine gA D ie
  refine zE D D (fun g1=>?_) fun g1=>?_
  .have b:mQ e=lc:=by simp only[mQ,cZ, *];rfl
   rw[b];refine gA D (gC (d146 w lc) ?_);refine gA D (iD (d147 (aH w lc) [e.var] (by simp) (by rw[bJ,aK];omega)) ?_);refine gA D ie
  refine zE D D (fun g2=>?_) fun g2=>?_
  .have b:mQ e=lc:=by simp only[mQ,cZ, *];rfl
   rw[b];refine gA D (gC (d146 w lc) ?_);refine gA D (iD (d147 (aH w lc) [e.var] (by simp) (by rw[bJ,aK];omega)) ?_);refine gA D ie
  have b:mQ e=li ((e.args.length:Int)=0):=by simp only[mQ,cZ, *];rfl
  rw[b];refine gA D (gC (d146 w (li ((e.args.length:Int)=0))) ?_);refine gA D (iD (d147 (aH w (li ((e.args.length:Int)=0))) [e.var] (by simp) (by rw[bJ,aK];omega)) ?_);refine gA D ie
 have j: ¬e.kind=1:=zF B;refine zJ D D (fun F=>?_) fun F=>?_
 .have u:e.kind=2:=zT F;have y:gk w e k=kE (aH w (oz e)) e.val:=by rw[gk,be A,be j,am u]
  rw[y];have b0:=qI e.val;refine zE D D (fun g0=>?_) fun g0=>?_
  .have b:oz e=lc:=by simp only[oz,cZ, *];rfl
   rw[b];refine gA D (gC (d146 w lc) ?_);refine gA D (gC (d149 (aH w lc) e.val (by rw[aK];omega) (by omega)) ?_);refine gA D ie
  refine zE D D (fun g1=>?_) fun g1=>?_
  .have b:oz e=lc:=by simp only[oz,cZ, *];rfl
   rw[b];refine gA D (gC (d146 w lc) ?_);refine gA D (gC (d149 (aH w lc) e.val (by rw[aK];omega) (by omega)) ?_);refine gA D ie
  have b:oz e=li ((e.args.length:Int)=0):=by simp only[oz,cZ, *];rfl
  rw[b];refine gA D (gC (d146 w (li ((e.args.length:Int)=0))) ?_);refine gA D (gC (d149 (aH w (li ((e.args.length:Int)=0))) e.val (by rw[aK];omega) (by omega)) ?_);refine gA D ie
 have u: ¬e.kind=2:=zF F;refine zJ D D (fun G=>?_) fun G=>?_
 .have x:e.kind=4:=zT G;have y:gk w e k=k:=by rw[gk,be A,be j,be u,am x]
  rw[y];refine zE D D (fun g0=>?_) fun g0=>?_
  .have b:jC e=lc:=by simp only[jC,cZ, *];rfl
   rw[b]at I;refine gA D (gC (d146 w lc) ?_);refine gA D (gC (I) ?_);refine gA D ie
  refine zE D D (fun g1=>?_) fun g1=>?_
  .have b:jC e=lc:=by simp only[jC,cZ, *];rfl
   rw[b]at I;refine gA D (gC (d146 w lc) ?_);refine gA D (gC (I) ?_);refine gA D ie
  refine gA D (zp (JL e.op) ?_);have b:jC e=li (aS e.op>0):=by simp only[jC,cZ, *];rfl
  rw[b]at I;refine gA D (gC (d146 w (li (aS e.op>0))) ?_);refine gA D (gC (I) ?_);refine gA D ie
 have x: ¬e.kind=4:=zF G;rw[gk,be A,be j,be u,be x];refine gA D ie
theorem pe0:PE 0:=fun d w e hd hb=>by
 refine aw ab func222 D (by decide) ntmps222 D (by simp) ?_;rw[bW]
 repeat' (first
  |((rename_i h;exact absurd (by omega:d<0) (zF h)))
  |(refine gA D (zI (fun _=>?_) (fun _=>?_)))
  |(refine gA D (Gp (by first|exact .inr D|exact .inl D) D D D D D (by first|exact .refl _|exact .kb _) (by first|exact .refl _|exact .kb _) D D D D (.refl _) D D)))
theorem A0: ∀n,n<=900->PE n
 |0,_=>pe0
 |1,_=>fun d w e hd hb=>d189 d (by omega) (by omega) w e hb _ (OU (d-1) (by omega) (aH w (jC e)) e)
 |m+2,h=>fun d w e hd hb=>d189 d (by omega) (by omega) w e (by omega) _ (d213 m (by omega) (A0 (m+1) (by omega)) (A0 m (by omega)) (d-1) (by omega) (aH w (jC e)) e (by rw[aK];omega))
theorem oH(w:WS)(e:Expr)(hb:w.l.length+e.ts<=900000000):bL prog 222 [.ptr 0 0,ag e.c,pI 16] w.O (.bB []) (bW 17 w e).H 3:=A0 17 (by omega) 16 w e (by omega) (by omega)
def xb:ae:=⟨#[44,32]⟩
def K9:ae:=⟨#[95]⟩
def fH(i:Nat)(w:WS):WS:=if i=0 then w else aN w [xb]
def vc(t:Term):Bool:=ef t.var&&cZ t.val
def vd(t:Term):Bool:=li (t.var=⟨#[]⟩)&&cZ t.val
def iR(w:WS)(t:Term):WS:=
 if t.kind=1 then aN (aH w (vc t)) [t.var] else if t.kind=2 then kE (aH w (li (t.var=⟨#[]⟩))) t.val else if t.kind=3 then aN (aH w (vd t)) [K9] else lC w
def eh(l:List Term)(w:WS):Nat->WS
 |0=>w
 |i+1=>iR (fH i (eh l w i)) (l.getD i co)
def iH(w:WS)(a:Atom):WS:=aN (eh a.ad (aN (aH w (iy a.rel)) [a.rel,sO]) a.ad.length) [sC]
def Term.ts(t:Term):Nat:=t.var.size+310
def Atom.ts(a:Atom):Nat:=a.rel.size+10+(a.ad.map Term.ts).sum
theorem l5(i:Nat)(w:WS):(fH i w).l.length<=w.l.length+2:=by
 have e:xb.size=2:=rfl;unfold fH;split
 .omega
 .rw[aG,e];omega
theorem Da(w:WS)(t:Term):(iR w t).l.length<=w.l.length+300+t.var.size:=by
 have e:K9.size=1:=rfl;unfold iR
 repeat' split
 .rw[aG,aK];omega
 .have:=th (aH w (li (t.var=⟨#[]⟩))) t.val;rw[aK]at this;omega
 .rw[aG,aK,e];omega
 .rw[ft];omega
theorem vu: ∀(l:List Term) (i:Nat),i<l.length->((l.take i).map Term.ts).sum+(l.getD i co).ts<=(l.map Term.ts).sum
 | [],i,h=>by simp at h
 |s::r,0,_=>by simp
 |s::r,i+1,h=>by
  have:=vu r i (by simpa using h);simp at this ⊢;omega
theorem BP: ∀(l:List Term) (i:Nat),((l.take i).map Term.ts).sum<=(l.map Term.ts).sum
 | [],i=>by simp
 |s::r,0=>by simp
 |s::r,i+1=>by have:=BP r i;simp at this ⊢;omega
theorem oO(l:List Term)(w:WS): ∀i,i<=l.length->(eh l w i).l.length<=w.l.length+((l.take i).map Term.ts).sum
 |0,_=>by simp[eh]
 |i+1,h=>by
  have b:=oO l w i (by omega);have d:=l5 i (eh l w i);have j:=Da (fH i (eh l w i)) (l.getD i co);have u:(l.getD i co).ts=(l.getD i co).var.size+310:=rfl;have x:((l.take (i+1)).map Term.ts).sum=((l.take i).map Term.ts).sum+(l.getD i co).ts:=by
   rw[cC (by omega),QO,List.sum_append];simp
  rw[eh];omega
theorem wG(w:WS)(a:Atom):(iH w a).l.length<=w.l.length+a.ts:=by
 have b:sO.size=1:=rfl;have d:sC.size=1:=rfl;have j:eU [a.rel,sO]=a.rel.size+1:=by simp[eU,b]
 have u:=oO a.ad (aN (aH w (iy a.rel)) [a.rel,sO]) a.ad.length (QH _);rw[ix,j,aK,Sv]at u;rw[iH,aG,d];unfold Atom.ts;omega
theorem vT: ∀l:List Term,l.length<=(l.map Term.ts).sum
 | []=>by simp
 |t::r=>by have:=vT r;simp[Term.ts]at this ⊢;omega
set_option maxHeartbeats 1000000 in
theorem d104(w:WS)(a:Atom)(hb:w.l.length+a.ts<=900000000):bL prog 188 [.ptr 0 0,ag a.c] w.O (.bB []) (iH w a).H 3:=by
 have Y:sO.size=1:=rfl;have Z:sC.size=1:=rfl;have A:xb.size=2:=rfl;have e5:K9.size=1:=rfl;have S:eU [a.rel,sO]=a.rel.size+1:=by simp[eU,Y]
 have i0:a.ts=a.rel.size+10+(a.ad.map Term.ts).sum:=rfl;have d0:=vT a.ad;have b0:(aN (aH w (iy a.rel)) [a.rel,sO]).l.length=w.l.length+(a.rel.size+1):=by rw[ix,S,aK]
 refine aw ab func188 D (by decide) ntmps188 D (by simp) ?_;refine gA D (zp (PT a.rel) ?_);refine gA D (gC (d146 w (iy a.rel)) ?_);refine gA D (iD (d147 (aH w (iy a.rel)) [a.rel,sO] (by simp) (by rw[S,aK];omega)) ?_);generalize hW:aN (aH w (iy a.rel)) [a.rel,sO]=w1 at*
 refine gA D ?_;refine aD 0 a.ad.length (QN _) (fun i=>⟨[(0,.ptr 0 0),(17,.iv (de 5 a.ad Term.c)),(18,pI a.ad.length),(19,pI i)],[(0,io ((eh a.ad w1 i).qz 0 6)),(6,io (.bu (eh a.ad w1 i).l 5))],7⟩) (fun _=>True) _ ac
  (Ps (w:=w1) D D D D D (.refl _) (.refl _) D D D D D (bi (bi (bi (bi trivial))))) fun i hi _=>?_
 have c0:=oO a.ad w1 i hi;have e0:=BP a.ad i;refine zE D D (fun u=>?_) fun u=>?_
 .have u:a.ad.length<=i:=zG u;have J:i=a.ad.length:=by omega
  subst J;refine gA D (iD (d147 (eh a.ad w1 a.ad.length) [sC] (by simp) (by rw[bJ,Z];omega)) ?_);rw[iH,hW];refine gA D ie
 have u:i<a.ad.length:=zN u;have f0:=vu a.ad i u;have b:eh a.ad w1 (i+1)=iR (fH i (eh a.ad w1 i)) (a.ad.getD i co):=rfl;have ht:(a.ad.getD i co).ts=(a.ad.getD i co).var.size+310:=rfl;have j0:=qI (a.ad.getD i co).val;have a0:=l5 i (eh a.ad w1 i);generalize hT:eh a.ad w1 i=w2 at*
 refine zJ D D (fun B=>?_) fun B=>?_
 .have B: ¬i=0:=by have:=zT B;omega
  rw[fH,be B]at b;refine gA D (iD (d147 w2 [xb] (by simp) (by rw[bJ,A];omega)) ?_);refine zJ D D (fun F=>?_) fun F=>?_
  .have d:(a.ad.getD i co).kind=1:=zT F;rw[iR,am d]at b;refine gA D (zp (Bv (a.ad.getD i co).var) ?_);refine zE D D (fun g0=>?_) fun g0=>?_
   .have x:vc (a.ad.getD i co)=lc:=by have g:ef (a.ad.getD i co).var=lc:=g0;rw[vc,g];rfl
    rw[x]at b;refine gA D (gC (d146 (aN w2 [xb]) lc) ?_);refine gA D (iD (d147 (aH (aN w2 [xb]) lc) [(a.ad.getD i co).var] (by simp) (by rw[bJ,aK];first|omega|(rw[aG,A];omega))) ?_);refine gA D ⟨u,ac,_,pF (b.symm)⟩
   have x:vc (a.ad.getD i co)=cZ (a.ad.getD i co).val:=by have g:ef (a.ad.getD i co).var=kw:=g0;rw[vc,g];rfl
   rw[x]at b;refine gA D (gC (d146 (aN w2 [xb]) (cZ (a.ad.getD i co).val)) ?_);refine gA D (iD (d147 (aH (aN w2 [xb]) (cZ (a.ad.getD i co).val)) [(a.ad.getD i co).var] (by simp) (by rw[bJ,aK];first|omega|(rw[aG,A];omega))) ?_);refine gA D ⟨u,ac,_,pF (b.symm)⟩
  have d: ¬(a.ad.getD i co).kind=1:=zF F;refine zJ D D (fun G=>?_) fun G=>?_
  .have j:(a.ad.getD i co).kind=2:=zT G;rw[iR,be d,am j]at b;refine gA D (gC (d146 (aN w2 [xb]) (li ((a.ad.getD i co).var=⟨#[]⟩))) ?_);refine gA D (gC (d149 (aH (aN w2 [xb]) (li ((a.ad.getD i co).var=⟨#[]⟩))) (a.ad.getD i co).val (by rw[aK];first|omega|(rw[aG,A];omega)) (by omega)) ?_);refine gA D ⟨u,ac,_,pF (b.symm)⟩
  have j: ¬(a.ad.getD i co).kind=2:=zF G;refine zJ D D (fun I=>?_) fun I=>?_
  .have y:(a.ad.getD i co).kind=3:=zT I;rw[iR,be d,be j,am y]at b;refine zE D D (fun g0=>?_) fun g0=>?_
   .have x:vd (a.ad.getD i co)=lc:=by have g:li ((a.ad.getD i co).var=⟨#[]⟩)=lc:=g0;rw[vd,g];rfl
    rw[x]at b;refine gA D (gC (d146 (aN w2 [xb]) lc) ?_);refine gA D (iD (d147 (aH (aN w2 [xb]) lc) [K9] (by simp) (by rw[bJ,aK];first|omega|(rw[aG,A];omega))) ?_);refine gA D ⟨u,ac,_,pF (b.symm)⟩
   have x:vd (a.ad.getD i co)=cZ (a.ad.getD i co).val:=by have g:li ((a.ad.getD i co).var=⟨#[]⟩)=kw:=g0;rw[vd,g];rfl
   rw[x]at b;refine gA D (gC (d146 (aN w2 [xb]) (cZ (a.ad.getD i co).val)) ?_);refine gA D (iD (d147 (aH (aN w2 [xb]) (cZ (a.ad.getD i co).val)) [K9] (by simp) (by rw[bJ,aK];first|omega|(rw[aG,A];omega))) ?_);refine gA D ⟨u,ac,_,pF (b.symm)⟩
  have y: ¬(a.ad.getD i co).kind=3:=zF I;rw[iR,be d,be j,be y]at b;refine gA D ⟨u,ac,_,pF (b.symm)⟩
 .have B:i=0:=by have:=zF B;omega
  rw[fH,am B]at b;refine zJ D D (fun F=>?_) fun F=>?_
  .have d:(a.ad.getD i co).kind=1:=zT F;rw[iR,am d]at b;refine gA D (zp (Bv (a.ad.getD i co).var) ?_);refine zE D D (fun g0=>?_) fun g0=>?_
   .have x:vc (a.ad.getD i co)=lc:=by have g:ef (a.ad.getD i co).var=lc:=g0;rw[vc,g];rfl
    rw[x]at b;refine gA D (gC (d146 w2 lc) ?_);refine gA D (iD (d147 (aH w2 lc) [(a.ad.getD i co).var] (by simp) (by rw[bJ,aK];first|omega|(rw[aG,A];omega))) ?_);refine gA D ⟨u,ac,_,pF (b.symm)⟩
   have x:vc (a.ad.getD i co)=cZ (a.ad.getD i co).val:=by have g:ef (a.ad.getD i co).var=kw:=g0;rw[vc,g];rfl
   rw[x]at b;refine gA D (gC (d146 w2 (cZ (a.ad.getD i co).val)) ?_);refine gA D (iD (d147 (aH w2 (cZ (a.ad.getD i co).val)) [(a.ad.getD i co).var] (by simp) (by rw[bJ,aK];first|omega|(rw[aG,A];omega))) ?_);refine gA D ⟨u,ac,_,pF (b.symm)⟩
  have d: ¬(a.ad.getD i co).kind=1:=zF F;refine zJ D D (fun G=>?_) fun G=>?_
  .have j:(a.ad.getD i co).kind=2:=zT G;rw[iR,be d,am j]at b;refine gA D (gC (d146 w2 (li ((a.ad.getD i co).var=⟨#[]⟩))) ?_);refine gA D (gC (d149 (aH w2 (li ((a.ad.getD i co).var=⟨#[]⟩))) (a.ad.getD i co).val (by rw[aK];first|omega|(rw[aG,A];omega)) (by omega)) ?_);refine gA D ⟨u,ac,_,pF (b.symm)⟩
  have j: ¬(a.ad.getD i co).kind=2:=zF G;refine zJ D D (fun I=>?_) fun I=>?_
  .have y:(a.ad.getD i co).kind=3:=zT I;rw[iR,be d,be j,am y]at b;refine zE D D (fun g0=>?_) fun g0=>?_
   .have x:vd (a.ad.getD i co)=lc:=by have g:li ((a.ad.getD i co).var=⟨#[]⟩)=lc:=g0;rw[vd,g];rfl
    rw[x]at b;refine gA D (gC (d146 w2 lc) ?_);refine gA D (iD (d147 (aH w2 lc) [K9] (by simp) (by rw[bJ,aK];first|omega|(rw[aG,A];omega))) ?_);refine gA D ⟨u,ac,_,pF (b.symm)⟩
   have x:vd (a.ad.getD i co)=cZ (a.ad.getD i co).val:=by have g:li ((a.ad.getD i co).var=⟨#[]⟩)=kw:=g0;rw[vd,g];rfl
   rw[x]at b;refine gA D (gC (d146 w2 (cZ (a.ad.getD i co).val)) ?_);refine gA D (iD (d147 (aH w2 (cZ (a.ad.getD i co).val)) [K9] (by simp) (by rw[bJ,aK];first|omega|(rw[aG,A];omega))) ?_);refine gA D ⟨u,ac,_,pF (b.symm)⟩
  have y: ¬(a.ad.getD i co).kind=3:=zF I;rw[iR,be d,be j,be y]at b;refine gA D ⟨u,ac,_,pF (b.symm)⟩
end Go.Proofs.YtflegjieadkonaaGreatDoor
namespace Go.Proofs.YtflegjieadkonaaGreatDoor
open Go Go.Al
def yJ:ae:=⟨#[110,111,116,32]⟩
def pD:ae:=⟨#[32,61,32]⟩
def pE:ae:=⟨#[32,123,32]⟩
def Dt:ae:=⟨#[32,58,32]⟩
def w9:ae:=⟨#[32,125]⟩
def sy(op:Int):ae:=if op=1 then⟨#[32,61,32]⟩ else if op=2 then⟨#[32,33,61,32]⟩ else if op=3 then⟨#[32,60,32]⟩ else if op=4 then⟨#[32,60,61,32]⟩ else if op=5 then⟨#[32,62,32]⟩ else⟨#[32,62,61,32]⟩
def gL(f:Int):ae:=if f=1 then⟨#[99,111,117,110,116]⟩ else if f=2 then⟨#[115,117,109]⟩ else if f=3 then⟨#[109,105,110]⟩ else⟨#[109,97,120]⟩
def sY(w:WS)(n:Int):WS:=⟨w.fr,w.l,w.bad,w.br+n⟩
def cG(f:Lit->WS->WS)(l:List Lit)(w:WS):Nat->WS
 |0=>w
 |i+1=>if(cG f l w i).bad=kw then cG f l w i else f (l.getD i co) (fH i (cG f l w i))
def oh(w:WS)(a:eM):WS:=if a.func=1 then aH w (cy a.gZ) else aN (bW 17 w a.gZ) [Dt]
def uV(f:Lit->WS->WS)(w:WS)(a:eM):WS:=
 if a.func<1∨5<=a.func∨16<=w.br∨a.body.length=0 then lC w
 else aN (sY (cG f a.body (sY (oh (aN (aH w (ef a.var)) [a.var,pD,gL a.func,pE]) a) 1) a.body.length) (-1)) [w9]
def xz(f:Lit->WS->WS)(l:Lit)(w:WS):WS:=
 if l.kind=2 then iH (aN w [yJ]) l.atom else if l.kind=1 then iH w l.atom
 else if l.kind=3 then(if l.op<1∨7<=l.op then lC (bW 17 w l.left) else bW 17 (aN (bW 17 w l.left) [sy l.op]) l.right)
 else if l.kind=4 then uV f w l.agg else lC w
def db:Nat->Lit->WS->WS
 |0,_,w=>w
 |n+1,l,w=>xz (db n) l (aH w (hQ l))
theorem cI: ∀(b:List ae) (w:WS),(aN w b).br=w.br
 | [],w=>rfl
 |s::r,w=>cI r (xj w s)
theorem mS(w:WS)(b:Bool):(aH w b).br=w.br:=rfl
theorem JR(w:WS):(lC w).br=w.br:=rfl
theorem vm(w:WS)(v:sB):(kE w v).br=w.br:=by rw[kE,cI];rfl
theorem zg(w k:WS)(e:Expr)(h:k.br=w.br):(gk w e k).br=w.br:=by
 unfold gk
 repeat' split
 .rfl
 .rw[cI];rfl
 .rw[vm];rfl
 .exact h
 .rfl
theorem Fl(a0:Bool->WS->Expr->WS)(d: ∀b w a,(a0 b w a).br=w.br)(w:WS)(e:Expr):(gU a0 w e).br=w.br:=by
 unfold gU
 repeat' split
 .rfl
 .rw[d,cI,cI]
 .rw[d,cI]
 .rfl
 .rw[d,cI,d]
 .rfl
theorem lu: ∀(n:Nat) (w:WS) (e:Expr),(bW n w e).br=w.br
 |0,w,e=>rfl
 |1,w,e=>by rw[bW];exact zg _ _ _ D
 |m+2,w,e=>by
  rw[bW];refine zg _ _ _ ?_;rw[Fl _ (fun b w a=>?_)]
  .rfl
  .split
   .rw[cI,lu m,cI]
   .exact lu (m+1) _ _
theorem n7(i:Nat)(w:WS):(fH i w).br=w.br:=by
 unfold fH;split
 .rfl
 .exact cI _ _
theorem Ez(w:WS)(t:Term):(iR w t).br=w.br:=by
 unfold iR
 repeat' split
 .rw[cI];rfl
 .rw[vm];rfl
 .rw[cI];rfl
 .rfl
theorem vq(l:List Term)(w:WS): ∀i,(eh l w i).br=w.br
 |0=>rfl
 |i+1=>by rw[eh,Ez,n7,vq l w i]
theorem Ao(w:WS)(a:Atom):(iH w a).br=w.br:=by rw[iH,cI,vq,cI];rfl
theorem lz(f:Lit->WS->WS)(hf: ∀l w,(f l w).br=w.br)(l:List Lit)(w:WS): ∀i,(cG f l w i).br=w.br
 |0=>rfl
 |i+1=>by
  rw[cG];split
  .exact lz f hf l w i
  .rw[hf,n7,lz f hf l w i]
theorem A4(w:WS)(a:eM):(oh w a).br=w.br:=by
 unfold oh;split
 .rfl
 .rw[cI,lu]
theorem JY(f:Lit->WS->WS)(hf: ∀l w,(f l w).br=w.br)(w:WS)(a:eM):(uV f w a).br=w.br:=by
 unfold uV;split
 .rfl
 .rw[cI];show(cG _ _ _ _).br+ -1=_;rw[lz f hf];show(oh _ _).br+1+ -1=_;rw[A4,cI,mS];omega
theorem Ji(f:Lit->WS->WS)(hf: ∀l w,(f l w).br=w.br)(l:Lit)(w:WS):(xz f l w).br=w.br:=by
 unfold xz
 repeat' split
 .rw[Ao,cI]
 .exact Ao _ _
 .rw[JR,lu]
 .rw[lu,cI,lu]
 .exact JY f hf _ _
 .rfl
theorem sP: ∀(n:Nat) (l:Lit) (w:WS),(db n l w).br=w.br
 |0,_,_=>rfl
 |n+1,l,w=>by rw[db,Ji (db n) (sP n)];rfl
mutual
def Lit.ts:Lit->Nat
 | .mk _ a _ l r _ v o b _=>100+a.ts+l.ts+r.ts+v.size+o.ts+Lit.mh b
def Lit.mh:List Lit->Nat
 | []=>0
 |e::r=>e.ts+Lit.mh r
end
theorem Lit.rG(l:Lit):l.ts=100+l.atom.ts+l.left.ts+l.right.ts+l.ba.size+l.iJ.ts+Lit.mh l.an:=by cases l;rfl
theorem Lit.yo: ∀(l:List Lit) (i:Nat),i<l.length->Lit.mh (l.take i)+(l.getD i co).ts<=Lit.mh l
 | [],i,h=>by simp at h
 |s::r,0,_=>by simp[Lit.mh]
 |s::r,i+1,h=>by
  have:=Lit.yo r i (by simpa using h);simp only[RY,Lit.mh,Sg];omega
theorem Lit.Ex: ∀(l:List Lit) (i:Nat),Lit.mh (l.take i)<=Lit.mh l
 | [],i=>by simp
 |s::r,0=>by simp[Lit.mh]
 |s::r,i+1=>by have:=Lit.Ex r i;simp only[RY,Lit.mh];omega
theorem Lit.L3(l:Lit):100<=l.ts:=by rw[l.rG];omega
theorem GI(op:Int):(sy op).size<=4:=by
 unfold sy
 repeat' split
 all_goals decide
theorem zy(op:Int):(gL op).size<=5:=by
 unfold gL
 repeat' split
 all_goals decide
def J1(f:Lit->WS->WS):Prop:= ∀l w,(f l w).l.length+4<=w.l.length+l.ts
theorem n9(f:Lit->WS->WS)(hf:J1 f)(l:List Lit)(w:WS): ∀i,i<=l.length->(cG f l w i).l.length<=w.l.length+Lit.mh (l.take i)
 |0,_=>by simp[cG,Lit.mh]
 |i+1,h=>by
  have d:=n9 f hf l w i (by omega);have y:Lit.mh (l.take (i+1))=Lit.mh (l.take i)+(l.getD i co).ts:=by
   rw[cC (by omega)];have: ∀(a:List Lit) (b:Lit),Lit.mh (a++ [b])=Lit.mh a+b.ts:=by
    intro a b
    induction a with
    |nil=>simp[Lit.mh]
    |cons x r ih=>simp only[Se,Lit.mh,ih];omega
   exact this _ _
  rw[cG];split
  .omega
  .have j:=hf (l.getD i co) (fH i (cG f l w i));have u:=l5 i (cG f l w i);omega
theorem Cb(w:WS)(a:eM):(oh w a).l.length<=w.l.length+a.gZ.ts+3:=by
 have e:Dt.size=3:=rfl;unfold oh;split
 .rw[aK];omega
 .have:=dc 17 w a.gZ;rw[aG,e];omega
theorem v7(w:WS)(a:eM):(aN (aH w (ef a.var)) [a.var,pD,gL a.func,pE]).l.length<=w.l.length+a.var.size+11:=by
 have b:pD.size=3:=rfl;have d:pE.size=3:=rfl;have h:=zy a.func;have e:eU [a.var,pD,gL a.func,pE]=a.var.size+(3+((gL a.func).size+3)):=by simp[eU,b,d]
 rw[ix,aK,e];omega
theorem G9(f:Lit->WS->WS)(hf:J1 f)(w:WS)(a:eM):(uV f w a).l.length<=w.l.length+a.var.size+a.gZ.ts+Lit.mh a.body+20:=by
 have e:w9.size=2:=rfl;unfold uV;split
 .rw[ft];omega
 .rw[aG,e];show(cG _ _ _ _).l.length+2<=_;have b:=n9 f hf a.body (sY (oh (aN (aH w (ef a.var)) [a.var,pD,gL a.func,pE]) a) 1) a.body.length (QH _);rw[Sv]at b;have d:=Cb (aN (aH w (ef a.var)) [a.var,pD,gL a.func,pE]) a;have j:=v7 w a;have u:(sY (oh (aN (aH w (ef a.var)) [a.var,pD,gL a.func,pE]) a) 1).l.length=(oh (aN (aH w (ef a.var)) [a.var,pD,gL a.func,pE]) a).l.length:=rfl;omega
theorem FG(f:Lit->WS->WS)(hf:J1 f)(l:Lit)(w:WS):(xz f l w).l.length+4<=w.l.length+l.ts:=by
 have x:=l.rG;have e:yJ.size=4:=rfl;unfold xz
 repeat' split
 .have b:=wG (aN w [yJ]) l.atom;rw[aG,e]at b;omega
 .have b:=wG w l.atom;omega
 .have b:=dc 17 w l.left;rw[ft];omega
 .have b:=dc 17 w l.left;have d:=dc 17 (aN (bW 17 w l.left) [sy l.op]) l.right;have j:=GI l.op;rw[aG]at d;omega
 .have b:=G9 f hf w l.agg;have d:l.agg.var=l.ba:=rfl;have j:l.agg.gZ=l.iJ:=rfl;have u:l.agg.body=l.an:=rfl;rw[d,j,u]at b;omega
 .rw[ft];omega
theorem uc: ∀n,J1 (db n)
 |0=>fun l w=>by have:=l.L3;rw[db];omega
 |n+1=>fun l w=>FG (db n) (uc n) l (aH w (hQ l))
theorem wD{f:Lit->WS->WS}{l:List Lit}{w:WS}{i:Nat}(h:(cG f l w i).bad=kw): ∀k,cG f l w (i+k)=cG f l w i
 |0=>rfl
 |k+1=>by
  have:=wD h k;rw[<-Sm,cG,this,am h]
end Go.Proofs.YtflegjieadkonaaGreatDoor
namespace Go.Proofs.YtflegjieadkonaaGreatDoor
open Go Go.Al Go.Proofs.Tryz
def Hc(n:Nat):Prop:= ∀(l:Lit) (w:WS),l.size<=n->0<=w.br->w.br<=16->w.l.length+l.ts<=900000000->bL prog 190 [.ptr 0 0,ag l.c] w.O (.bB []) (db n l w).H 3
set_option maxHeartbeats 1000000 in
theorem d214(n:Nat)(F:Hc n)(w:WS)(b:List Lit)(hs:Lit.az b<=n)(I:0<=w.br)(J:w.br<=16)(hb:w.l.length+Lit.mh b+2<=900000000)(hn:n<=100000000):
  bL prog 248 [.ptr 0 0,.iv (lits b)] w.O (.bB []) (cG (db n) b w b.length).H 3:=by
 have G:xb.size=2:=rfl;have a0:=Lit.aA b;refine aw ab func248 D (by decide) ntmps248 D (by simp) ?_;refine gA D ?_;refine aD 0 b.length (QN _) (fun i=>⟨[(0,.ptr 0 0),(6,.iv (lits b)),(7,pI b.length),(8,pI i)],[(0,io ((cG (db n) b w i).qz 0 2)),(2,io (.bu (cG (db n) b w i).l 5))],3⟩) (fun _=>True) _ ac
  (Ps (w:=w) D D D D D (.refl _) (.refl _) D D D D D (bi (bi (bi (bi trivial))))) fun i Y _=>?_
 have Z:=n9 (db n) (uc n) b w i Y;have S:=lz (db n) (sP n) b w i;have c0:=Lit.Ex b i;refine zE D D (fun j=>?_) fun j=>?_
 .have j:b.length<=i:=zG j;have B:i=b.length:=by omega
  subst B;refine gA D ie
 have j:i<b.length:=zN j;have d0:=Lit.yo b i j;have b0:=Lit.aV b i j;have d:cG (db n) b w (i+1)=if(cG (db n) b w i).bad=kw then cG (db n) b w i else db n (b.getD i co) (fH i (cG (db n) b w i)):=rfl;have u:=fun h=>wD (f:=db n) (l:=b) (w:=w) (i:=i) h (b.length-i);rw[Nat.add_sub_cancel' (Nat.le_of_lt j)]at u;have A:=l5 i (cG (db n) b w i);have y:=n7 i (cG (db n) b w i);generalize cG (db n) b w i=w2 at*
 refine zJ D D (fun g=>?_) fun g=>?_
 .have g:w2.bad=kw:=g;rw[u g];refine gA D ie
 have g: ¬w2.bad=kw:=by
  have g:w2.bad=lc:=g;rw[g];decide
 rw[be g]at d;refine zJ D D (fun x=>?_) fun x=>?_
 .have x: ¬i=0:=by have:=zT x;omega
  rw[fH,be x]at d A y;refine gA D (iD (d147 w2 [xb] (by simp) (by rw[bJ,G];omega)) ?_);refine gA D (gC (F (b.getD i co) (aN w2 [xb]) (by omega) (by omega) (by omega) (by omega)) ?_);refine gA D ⟨j,ac,_,pF (d.symm)⟩
 .have x:i=0:=by have:=zF x;omega
  rw[fH,am x]at d A y;refine gA D (gC (F (b.getD i co) w2 (by omega) (by omega) (by omega) (by omega)) ?_);refine gA D ⟨j,ac,_,pF (d.symm)⟩
def eM.ts(a:eM):Nat:=a.var.size+a.gZ.ts+Lit.mh a.body
set_option maxHeartbeats 4000000 in
theorem d190(n:Nat)(Y:Hc n)(w:WS)(a:eM)(hs:Lit.az a.body<=n)(a0:0<=w.br)(b0:w.br<=16)(hb:w.l.length+a.ts+30<=900000000)(hn:n<=100000000):
  bL prog 223 [.ptr 0 0,ag a.c] w.O (.bB []) (uV (db n) w a).H 3:=by
 refine bL.le (args:=[.ptr 0 0,ag a.c1]) ?_ ⟨.refl _,a.Bb,ac⟩;have S:w9.size=2:=rfl;have Z:Dt.size=3:=rfl;have c0:=Lit.aA a.body;have d0:a.ts=a.var.size+a.gZ.ts+Lit.mh a.body:=rfl;have hW: ¬(a.func<1∨5<=a.func∨16<=w.br∨a.body.length=0)->uV (db n) w a=aN (sY (cG (db n) a.body (sY (oh (aN (aH w (ef a.var)) [a.var,pD,gL a.func,pE]) a) 1) a.body.length) (-1)) [w9]:=fun h=>be h;have hB:a.func<1∨5<=a.func∨16<=w.br∨a.body.length=0->uV (db n) w a=lC w:=fun h=>am h;have hh:=v7 w a;have x:=Cb (aN (aH w (ef a.var)) [a.var,pD,gL a.func,pE]) a;have j:=A4 (aN (aH w (ef a.var)) [a.var,pD,gL a.func,pE]) a;rw[cI,mS]at j;have y:(sY (oh (aN (aH w (ef a.var)) [a.var,pD,gL a.func,pE]) a) 1).l.length=(oh (aN (aH w (ef a.var)) [a.var,pD,gL a.func,pE]) a).l.length:=rfl;have A:(sY (oh (aN (aH w (ef a.var)) [a.var,pD,gL a.func,pE]) a) 1).br=(oh (aN (aH w (ef a.var)) [a.var,pD,gL a.func,pE]) a).br+1:=rfl;have u:=n9 (db n) (uc n) a.body (sY (oh (aN (aH w (ef a.var)) [a.var,pD,gL a.func,pE]) a) 1) a.body.length (QH _);rw[Sv]at u;have B:=lz (db n) (sP n) a.body (sY (oh (aN (aH w (ef a.var)) [a.var,pD,gL a.func,pE]) a) 1) a.body.length;have F:eU [a.var,pD,gL a.func,pE]=a.var.size+(3+((gL a.func).size+3)):=by simp[eU,pD,pE];rfl
 have G:=zy a.func;obtain⟨d,var,b,body⟩:=a;dsimp only at*
 refine aw ab func223 D (by decide) ntmps223 D (by simp) ?_;refine zE D D (fun g1=>?_) fun g1=>?_
 .rw[hB (.inl (zT g1))];refine gA D ie
 refine zE D D (fun g2=>?_) fun g2=>?_
 .rw[hB (.inr (.inl (zT g2)))];refine gA D ie
 refine zE D D (fun g3=>?_) fun g3=>?_
 .rw[hB (.inr (.inr (.inl (zT g3))))];refine gA D ie
 refine zJ D D (fun g4=>?_) fun g4=>?_
 .rw[hB (.inr (.inr (.inr (T4.1 (zT g4)))))];refine gA D ie
 have g1: ¬d<1:=zF g1;have g2: ¬d>=5:=zF g2;have g3: ¬w.br>=16:=zF g3;have g4: ¬body.length=0:=fun h=>zF g4 (T4.2 h);rw[hW (by rintro(h|h|h|h)<;>omega)];have hf:d=1∨d=2∨d=3∨d=4:=by omega
 clear hW hB;rcases hf with rfl|rfl|rfl|rfl
 .have e:gL 1=⟨#[99,111,117,110,116]⟩:=rfl;rw[e]at hh x j y A u B F G ⊢;refine gA D (zp (Bv var) ?_);refine gA D (gC (d146 w (ef var)) ?_);refine gA D (xG (d147 (aH w (ef var)) [var,pD,⟨#[99,111,117,110,116]⟩,pE] (by simp) (by rw[F,aK];omega)) D D D D D D D D D D D D D D D D (by(repeat' (first|exact ac|exact rfl|exact aC.refl _|exact aC.bk (by assumption)|apply Rm))<;>first|omega|(simp only[QW];omega)|(simp;done)|(simp;omega)) D (by(repeat' (first|exact ac|exact rfl|exact aC.refl _|exact aC.bk (by assumption)|apply Rm))<;>first|omega|(simp only[QW];omega)|(simp;done)|(simp;omega)) ?_);generalize J:aN (aH w (ef var)) [var,pD,⟨#[99,111,117,110,116]⟩,pE]=w1 at*
  have I:oh w1 ⟨1,var,b,body⟩=aH w1 (cy b):=rfl;rw[I]at x j y A u B ⊢;refine zE D D (fun q=>?_) fun q=>?_
  .exact absurd (show kw=lc from q) (by decide)
  refine gA D (zp (JM b) ?_);refine gA D (gC (d146 w1 (cy b)) ?_);generalize aH w1 (cy b)=w2 at*
  refine gA D (gC (d214 n Y (sY w2 1) body hs (by omega) (by omega) (by omega) hn) ?_);generalize cG (db n) body (sY w2 1) body.length=w3 at*
  refine gA D (go_wp (d147 (sY w3 (-1)) [w9] (by simp) (by rw[bJ,S];show w3.l.length+2<=_;omega)) D D D D D D D D D D D D ?_);refine gA D ie
 .have e:gL 2=⟨#[115,117,109]⟩:=rfl;rw[e]at hh x j y A u B F G ⊢;refine gA D (zp (Bv var) ?_);refine gA D (gC (d146 w (ef var)) ?_);refine gA D (xG (d147 (aH w (ef var)) [var,pD,⟨#[115,117,109]⟩,pE] (by simp) (by rw[F,aK];omega)) D D D D D D D D D D D D D D D D (by(repeat' (first|exact ac|exact rfl|exact aC.refl _|exact aC.bk (by assumption)|apply Rm))<;>first|omega|(simp only[QW];omega)|(simp;done)|(simp;omega)) D (by(repeat' (first|exact ac|exact rfl|exact aC.refl _|exact aC.bk (by assumption)|apply Rm))<;>first|omega|(simp only[QW];omega)|(simp;done)|(simp;omega)) ?_);generalize J:aN (aH w (ef var)) [var,pD,⟨#[115,117,109]⟩,pE]=w1 at*
  have I:oh w1 ⟨2,var,b,body⟩=aN (bW 17 w1 b) [Dt]:=rfl;rw[I]at x j y A u B ⊢;refine zJ D D (fun q=>?_) fun q=>?_
  .exact absurd (show lc=kw from q) (by decide)
  have hx:=dc 17 w1 b;refine gA D (gC (oH w1 b (by omega)) ?_);refine gA D (iD (d147 (bW 17 w1 b) [Dt] (by simp) (by rw[bJ,Z];omega)) ?_);generalize aN (bW 17 w1 b) [Dt]=w2 at*
  refine gA D (gC (d214 n Y (sY w2 1) body hs (by omega) (by omega) (by omega) hn) ?_);generalize cG (db n) body (sY w2 1) body.length=w3 at*
  refine gA D (go_wp (d147 (sY w3 (-1)) [w9] (by simp) (by rw[bJ,S];show w3.l.length+2<=_;omega)) D D D D D D D D D D D D ?_);refine gA D ie
 .have e:gL 3=⟨#[109,105,110]⟩:=rfl;rw[e]at hh x j y A u B F G ⊢;refine gA D (zp (Bv var) ?_);refine gA D (gC (d146 w (ef var)) ?_);refine gA D (xG (d147 (aH w (ef var)) [var,pD,⟨#[109,105,110]⟩,pE] (by simp) (by rw[F,aK];omega)) D D D D D D D D D D D D D D D D (by(repeat' (first|exact ac|exact rfl|exact aC.refl _|exact aC.bk (by assumption)|apply Rm))<;>first|omega|(simp only[QW];omega)|(simp;done)|(simp;omega)) D (by(repeat' (first|exact ac|exact rfl|exact aC.refl _|exact aC.bk (by assumption)|apply Rm))<;>first|omega|(simp only[QW];omega)|(simp;done)|(simp;omega)) ?_);generalize J:aN (aH w (ef var)) [var,pD,⟨#[109,105,110]⟩,pE]=w1 at*
  have I:oh w1 ⟨3,var,b,body⟩=aN (bW 17 w1 b) [Dt]:=rfl;rw[I]at x j y A u B ⊢;refine zJ D D (fun q=>?_) fun q=>?_
  .exact absurd (show lc=kw from q) (by decide)
  have hx:=dc 17 w1 b;refine gA D (gC (oH w1 b (by omega)) ?_);refine gA D (iD (d147 (bW 17 w1 b) [Dt] (by simp) (by rw[bJ,Z];omega)) ?_);generalize aN (bW 17 w1 b) [Dt]=w2 at*
  refine gA D (gC (d214 n Y (sY w2 1) body hs (by omega) (by omega) (by omega) hn) ?_);generalize cG (db n) body (sY w2 1) body.length=w3 at*
  refine gA D (go_wp (d147 (sY w3 (-1)) [w9] (by simp) (by rw[bJ,S];show w3.l.length+2<=_;omega)) D D D D D D D D D D D D ?_);refine gA D ie
 .have e:gL 4=⟨#[109,97,120]⟩:=rfl;rw[e]at hh x j y A u B F G ⊢;refine gA D (zp (Bv var) ?_);refine gA D (gC (d146 w (ef var)) ?_);refine gA D (xG (d147 (aH w (ef var)) [var,pD,⟨#[109,97,120]⟩,pE] (by simp) (by rw[F,aK];omega)) D D D D D D D D D D D D D D D D (by(repeat' (first|exact ac|exact rfl|exact aC.refl _|exact aC.bk (by assumption)|apply Rm))<;>first|omega|(simp only[QW];omega)|(simp;done)|(simp;omega)) D (by(repeat' (first|exact ac|exact rfl|exact aC.refl _|exact aC.bk (by assumption)|apply Rm))<;>first|omega|(simp only[QW];omega)|(simp;done)|(simp;omega)) ?_);generalize J:aN (aH w (ef var)) [var,pD,⟨#[109,97,120]⟩,pE]=w1 at*
  have I:oh w1 ⟨4,var,b,body⟩=aN (bW 17 w1 b) [Dt]:=rfl;rw[I]at x j y A u B ⊢;refine zJ D D (fun q=>?_) fun q=>?_
  .exact absurd (show lc=kw from q) (by decide)
  have hx:=dc 17 w1 b;refine gA D (gC (oH w1 b (by omega)) ?_);refine gA D (iD (d147 (bW 17 w1 b) [Dt] (by simp) (by rw[bJ,Z];omega)) ?_);generalize aN (bW 17 w1 b) [Dt]=w2 at*
  refine gA D (gC (d214 n Y (sY w2 1) body hs (by omega) (by omega) (by omega) hn) ?_);generalize cG (db n) body (sY w2 1) body.length=w3 at*
  refine gA D (go_wp (d147 (sY w3 (-1)) [w9] (by simp) (by rw[bJ,S];show w3.l.length+2<=_;omega)) D D D D D D D D D D D D ?_);refine gA D ie
set_option maxHeartbeats 4000000 in
theorem D7(n:Nat)(ih:Hc n)(hn:n<=100000000):Hc (n+1):=by
 intro l w hs J S hb;have F:yJ.size=4:=rfl;have A:=l.size_eq;have B:=l.rG;have y:l.agg.ts=l.ba.size+l.iJ.ts+Lit.mh l.an:=rfl;have I:db (n+1) l w=xz (db n) l (aH w (hQ l)):=rfl;rw[I];have Y:(aH w (hQ l)).l.length=w.l.length:=rfl;have Z:=mS w (hQ l);have hx:=dc 17 (aH w (hQ l)) l.left;obtain⟨kind,atom,op,left,right,cH,ba,iJ,an,at_⟩:=l;dsimp only[Lit.atom,Lit.left,Lit.right,Lit.ba,Lit.iJ,Lit.an]at A B y hx;refine aw ab func190 D (by decide) ntmps190 D (by simp) ?_;refine gA D (zp (P5 (.mk kind atom op left right cH ba iJ an at_)) ?_);refine gA D (gC (d146 w (hQ (.mk kind atom op left right cH ba iJ an at_))) ?_);generalize aH w (hQ (.mk kind atom op left right cH ba iJ an at_))=w1 at*
 have G:xz (db n) (.mk kind atom op left right cH ba iJ an at_) w1=if kind=2 then iH (aN w1 [yJ]) atom else if kind=1 then iH w1 atom
  else if kind=3 then(if op<1∨7<=op then lC (bW 17 w1 left) else bW 17 (aN (bW 17 w1 left) [sy op]) right)
  else if kind=4 then uV (db n) w1 (Lit.mk kind atom op left right cH ba iJ an at_).agg else lC w1:=rfl
 rw[G];refine zJ D D (fun j=>?_) fun j=>?_
 .have j:kind=2:=zT j;rw[am j];refine gA D (iD (d147 w1 [yJ] (by simp) (by rw[bJ,F];omega)) ?_);refine gA D (gC (d104 (aN w1 [yJ]) atom (by rw[aG,F];omega)) ?_);refine gA D ie
 have j: ¬kind=2:=zF j;rw[be j];refine zJ D D (fun d=>?_) fun d=>?_
 .have d:kind=1:=zT d;rw[am d];refine gA D (gC (d104 w1 atom (by omega)) ?_);refine gA D ie
 have d: ¬kind=1:=zF d;rw[be d];refine zE D D (fun u=>?_) fun u=>?_
 .have u: ¬kind=3:=zF u;rw[be u];refine zJ D D (fun x=>?_) fun x=>?_
  .have x:kind=4:=zT x;rw[am x];refine gA D (gC (d190 n ih w1 (Lit.mk kind atom op left right cH ba iJ an at_).agg (by show Lit.az an<=n;omega) (by omega) (by omega) (by omega) hn) ?_);refine gA D ie
  .have x: ¬kind=4:=zF x;rw[be x];refine gA D ie
 have u:kind=3:=zT u;rw[am u];refine gA D (gC (oH w1 left (by omega)) ?_);refine zE D D (fun g1=>?_) fun g1=>?_
 .rw[am (.inl (zT g1))];refine gA D ie
 refine zJ D D (fun g2=>?_) fun g2=>?_
 .rw[am (.inr (zT g2))];refine gA D ie
 have g1: ¬op<1:=zF g1;have g2: ¬op>=7:=zF g2;rw[be (by rintro(h|h)<;>omega)];generalize bW 17 w1 left=w2 at*
 have ho:op=1∨op=2∨op=3∨op=4∨op=5∨op=6:=by omega
 clear G I;rcases ho with rfl|rfl|rfl|rfl|rfl|rfl
 .have e:sy 1=⟨#[32,61,32]⟩:=rfl;have b:((⟨#[32,61,32]⟩:ae)).size=3:=rfl;rw[e];refine mu D (by dsimp only[Lit.op];exact(by(repeat' (first|exact ac|exact rfl|exact aC.refl _|exact aC.bk (by assumption)|apply Rm))<;>first|omega|(simp only[QW];omega)|(simp;done)|(simp;omega))) (go_wp (d147 w2 [⟨#[32,61,32]⟩] (by simp) (by rw[bJ,b];omega)) D D D D D D D D D D D D ?_);refine gA D (gC (oH (aN w2 [⟨#[32,61,32]⟩]) right (by rw[aG,b];omega)) ?_);refine gA D ie
 .have e:sy 2=⟨#[32,33,61,32]⟩:=rfl;have b:((⟨#[32,33,61,32]⟩:ae)).size=4:=rfl;rw[e];refine mu D (by dsimp only[Lit.op];exact(by(repeat' (first|exact ac|exact rfl|exact aC.refl _|exact aC.bk (by assumption)|apply Rm))<;>first|omega|(simp only[QW];omega)|(simp;done)|(simp;omega))) (go_wp (d147 w2 [⟨#[32,33,61,32]⟩] (by simp) (by rw[bJ,b];omega)) D D D D D D D D D D D D ?_);refine gA D (gC (oH (aN w2 [⟨#[32,33,61,32]⟩]) right (by rw[aG,b];omega)) ?_);refine gA D ie
 .have e:sy 3=⟨#[32,60,32]⟩:=rfl;have b:((⟨#[32,60,32]⟩:ae)).size=3:=rfl;rw[e];refine mu D (by dsimp only[Lit.op];exact(by(repeat' (first|exact ac|exact rfl|exact aC.refl _|exact aC.bk (by assumption)|apply Rm))<;>first|omega|(simp only[QW];omega)|(simp;done)|(simp;omega))) (go_wp (d147 w2 [⟨#[32,60,32]⟩] (by simp) (by rw[bJ,b];omega)) D D D D D D D D D D D D ?_);refine gA D (gC (oH (aN w2 [⟨#[32,60,32]⟩]) right (by rw[aG,b];omega)) ?_);refine gA D ie
 .have e:sy 4=⟨#[32,60,61,32]⟩:=rfl;have b:((⟨#[32,60,61,32]⟩:ae)).size=4:=rfl;rw[e];refine mu D (by dsimp only[Lit.op];exact(by(repeat' (first|exact ac|exact rfl|exact aC.refl _|exact aC.bk (by assumption)|apply Rm))<;>first|omega|(simp only[QW];omega)|(simp;done)|(simp;omega))) (go_wp (d147 w2 [⟨#[32,60,61,32]⟩] (by simp) (by rw[bJ,b];omega)) D D D D D D D D D D D D ?_);refine gA D (gC (oH (aN w2 [⟨#[32,60,61,32]⟩]) right (by rw[aG,b];omega)) ?_);refine gA D ie
 .have e:sy 5=⟨#[32,62,32]⟩:=rfl;have b:((⟨#[32,62,32]⟩:ae)).size=3:=rfl;rw[e];refine mu D (by dsimp only[Lit.op];exact(by(repeat' (first|exact ac|exact rfl|exact aC.refl _|exact aC.bk (by assumption)|apply Rm))<;>first|omega|(simp only[QW];omega)|(simp;done)|(simp;omega))) (go_wp (d147 w2 [⟨#[32,62,32]⟩] (by simp) (by rw[bJ,b];omega)) D D D D D D D D D D D D ?_);refine gA D (gC (oH (aN w2 [⟨#[32,62,32]⟩]) right (by rw[aG,b];omega)) ?_);refine gA D ie
 .have e:sy 6=⟨#[32,62,61,32]⟩:=rfl;have b:((⟨#[32,62,61,32]⟩:ae)).size=4:=rfl;rw[e];refine mu D (by dsimp only[Lit.op];exact(by(repeat' (first|exact ac|exact rfl|exact aC.refl _|exact aC.bk (by assumption)|apply Rm))<;>first|omega|(simp only[QW];omega)|(simp;done)|(simp;omega))) (go_wp (d147 w2 [⟨#[32,62,61,32]⟩] (by simp) (by rw[bJ,b];omega)) D D D D D D D D D D D D ?_);refine gA D (gC (oH (aN w2 [⟨#[32,62,61,32]⟩]) right (by rw[aG,b];omega)) ?_);refine gA D ie
theorem Oz: ∀n,n<=100000001->Hc n
 |0,_=>fun l w b=>by have:=l.size_pos;omega
 |n+1,h=>D7 n (Oz n (by omega)) (by omega)
section
abbrev WS.o:WS:=⟨kw,[],lc,0⟩
section
variable {nt:Nat} {Q:AQ} {k:List KI} {s:AS}
def wN(s:AS)(i:Nat):AS:=match s with|⟨f,h,n⟩=>⟨f,(i,io (WS.o.qz i n))::(n,io (.bu [] 5))::h,n+1⟩
theorem Cw{P:Program}{c:Code}{s':AS}(i:Nat)(hi:s.h.get i=io (.cells [.iv (.v (.pointer jp)),.iv (.v (.slice jp 0 0)),pB lc,pI 0] (io 247)))
  (hs:wN s i=s') (h:GO P nt (.code c::k) Q s'):GO P nt (.code c::k) Q s:=by
 subst hs;intro M N a w A;obtain⟨sf,Z,d⟩:=s;obtain⟨h1,Y⟩:=A.1.J7 5;have G:i<d:=A.1.used i _ hi;have I:i≠d:=fun e=>by omega
 have u:AH.get ((d,io (AO.bu [] 5))::Z) i=io (.cells [.iv (.v (.pointer jp)),.iv (.v (.slice jp 0 0)),pB lc,pI 0] (io 247)):=by
  rw[AH.ay,be I];exact hi
 obtain⟨x,T,e1,e2,e3,y,e5⟩:=Y.obj i _ u;have hv: ∀(j:Nat) (p:PV),[PV.dV kw i,.sl d 0 0 1,pB lc,pI 0][j]? =io p->VR M N (· <d+1) p (x.getD j undef):=by
  intro j p b
  match j,b with
  |0,b=>
   cases b;have:=y 0 _ D;generalize x.getD 0 undef=v at this ⊢;cases this with
   |iv _ _ h=>cases h with
    |v=>exact .dV kw i (Sb G)
  |1,b=>
   cases b;have:=y 1 _ D;generalize x.getD 1 undef=v at this ⊢;cases this with
   |iv _ _ h=>cases h with
    |v=>exact .mE _ _ (RX _)
  |2,b=>exact y 2 p b
  |3,b=>exact y 3 p b
  |j+4,b=>cases b
 obtain⟨g1,g2⟩:=Y.write (i:=i) (o0:= .cells [.iv (.v (.pointer jp)),.iv (.v (.slice jp 0 0)),pB lc,pI 0] (io 247)) u D w (WS.o.qz i d) D D D D (fun _ _=>rfl) ⟨x,T,e1,e2,e3,hv,e5⟩;have B:Fits M N ⟨sf,(i,io (WS.o.qz i d))::(d,io (.bu [] 5))::Z,d+1⟩ nt a w:=
  ⟨g2,fun k=>(A.2.1 k).mono (.refl _) (.refl _ _) (fun i hi=>Sb hi),A.2.2⟩
 exact AW.then h B fun e a2 w2 M2 N2 s2 S F J=>⟨M2,N2,s2,(h1.trans g1).trans S,F,J⟩
end
def WS.told(w:WS):PV:= .bB [pS (if w.bad=kw then⟨#[]⟩ else⟨w.l.toArray⟩),pI (if w.bad=kw then 50 else 0)]
theorem d105(w:WS):bL prog 189 [.ptr 0 0] w.O w.told [] 2:=by
 refine aw ab func189 D (by decide) ntmps189 D (by simp) ?_;refine zJ D D (fun g=>?_) fun g=>?_
 .have g:w.bad=kw:=g;unfold WS.told;rw[am g,am g];refine gA D (zD [] D (zW ac))
 .have g: ¬w.bad=kw:=by
   have g:w.bad=lc:=g;rw[g];decide
  unfold WS.told;rw[be g,be g];refine gA D (zq [0,1] (d150 w) ?_);refine gA D (zD [] D (zW ac))
def O7(a:Atom):PV:=(iH WS.o a).told
def PA(l:Lit):PV:=(db l.size l WS.o).told
theorem c61(a:Atom)(hb:a.ts<=900000000):Pure prog 157 [ag a.c] (O7 a):=by
 refine ar ab func157 D (by decide) ntmps157 D (by simp) D ?_;refine gM 12 D (Cw 1 D D ?_);refine gA D (gC (d104 WS.o a (by simpa using hb)) ?_);refine gA D (zq [1,3] (d105 (iH WS.o a)) ?_);exact zU D
theorem Qg(l:Lit)(hb:l.ts<=900000000)(hs:l.size<=100000000):Pure prog 158 [ag l.c] (PA l):=by
 refine ar ab func158 D (by decide) ntmps158 D (by simp) D ?_;refine gM 12 D (Cw 1 D D ?_);refine gA D (gC (Oz l.size (by omega) l WS.o (QH _) (by decide) (by decide) (by simpa using hb)) ?_);refine gA D (zq [1,3] (d105 (db l.size l WS.o)) ?_);exact zU D
end
def oY(d:Decl)(i k:Int):Int:=
 if(d.types.any fun x=>!li (x=1)&&!li (x=2))=kw∨iy d.name=lc then 1
 else if i>=64∨(d.types.length:Int)>8 then 66 else if k>0 then 60 else 0
theorem Qh(d:Decl)(i k:Int):Pure prog 123 [ag d.c,pI i,pI k] (pI (oY d i k)):=by
 refine ar ab func123 D (by decide) ntmps123 D (by simp) D ?_;refine gA D (zq [] (d153 d.types) ?_);refine zE D D (fun g1=>?_) fun g1=>?_
 .rw[oY,am (.inl (by simpa using g1))];exact zU D
 have g1: ¬(d.types.any fun x=>!li (x=1)&&!li (x=2))=kw:=by
  have g1:(d.types.any fun x=>!li (x=1)&&!li (x=2))=lc:=g1;rw[g1];decide
 refine gA D (zp (PT d.name) ?_);refine zJ D D (fun g2=>?_) fun g2=>?_
 .have g2:iy d.name=lc:=by simpa using g2
  rw[oY,am (.inr g2)];exact zU D
 have g2: ¬iy d.name=lc:=by
  have g2:iy d.name=kw:=by simpa using g2
  rw[g2];decide
 rw[oY,be (by rintro(h|h);exact g1 h;exact g2 h)];refine zE D D (fun g3=>?_) fun g3=>?_
 .rw[am (.inl (by simpa using g3))];exact zU D
 have g3: ¬i>=64:=zF g3;refine zJ D D (fun g4=>?_) fun g4=>?_
 .rw[am (.inr (zT g4))];exact zU D
 have g4: ¬(d.types.length:Int)>8:=zF g4;rw[be (by rintro(h|h);exact g3 h;exact g4 h)];refine zJ D D (fun g5=>?_) fun g5=>?_
 .rw[am (zT g5)];exact zU D
 .rw[be (zF g5)];exact zU D
abbrev bU:=(KC.si .i64).K
def bU.z:bU:=(Qz,0)
def bU.c(s:bU):List IV:=[iS s.1,iI s.2]
def spE(s:bU):IV:= .agg s.c
def spZ:Value:= .agg #[.string Qz,.int .i64 0]
def dvP:PV->bU
 | .agg [.iv (.v (.string s)),.iv (.v (.int _ a))]=>(s,a)
 |_=>bU.z
abbrev UM:=List (bU×bU)
abbrev KM:=List (bU×Int)
abbrev ot(m:UM):AO:= .map (.si .i64) spE bU.z spZ dvP m
abbrev upI(m:UM):IV:= .du (.si .i64) spE bU.z spZ m
abbrev oC(m:KM):AO:= .map (.si .i64) wo 0 (.int .i64 0) Pn m
abbrev kdI(m:KM):IV:= .du (.si .i64) wo 0 (.int .i64 0) m
structure Want where
 lit:Int
 at_:bU
 kind:Int
 has:Int
 deriving Inhabited
def Want.c(w:Want):List IV:=[iI w.lit,iS w.at_.1,iI w.at_.2,iI w.kind,iI w.has]
structure TS where
 up:UM
 ws:List Want
 kind:KM
abbrev TS.cell(r:ai)(u j n k:Nat):AO:= .cells [.iv (cv r),.mp u,.sl j 0 n 5,.mp k]
abbrev TS.O(r:ai)(t:TS):List AO:=[TS.cell r 1 2 t.ws.length 3,ot t.up,aW 5 t.ws Want.c,oC t.kind]
abbrev TS.K(r:ai)(t:TS):AH:=[(0,io (TS.cell r 1 2 t.ws.length 3)),(1,io (ot t.up)),(2,io (aW 5 t.ws Want.c)),(3,io (oC t.kind))]
abbrev TS.H(r:ai)(t:TS):AH:=[(0,io (TS.cell r 1 4 t.ws.length 3)),(1,io (ot t.up)),(4,io (aW 5 t.ws Want.c)),(3,io (oC t.kind))]
def dI(r:ai)(s:ae)(w:Int):bU:=(s,if bG .str (aq (ax r)) s 0>0 then-1 else w)
theorem d136(r:ai)(t:TS)(s:ae)(w:Int):bL prog 225 [.ptr 0 0,pS s,pI w] (t.O r) (ag (dI r s w).c) (t.K r) 4:=by
 refine aw ab func225 D (by decide) ntmps225 D (by simp) ?_;refine zJ D D (fun g=>?_) fun g=>?_
 .have e:dI r s w=(s, -1):=by unfold dI;rw[am (zT g)]
  rw[e];refine gA D (zD [] D (zW (zO (zC ⟨⟨_,rfl,.of_eq (bD _).symm⟩,Qs D,dB _,zC ac⟩))))
 .have e:dI r s w=(s,w):=by unfold dI;rw[be (zF g)]
  rw[e];refine gA D (zD [] D (zW (zO (zC ⟨⟨_,rfl,.of_eq (bD _).symm⟩,Qs D,dB _,zC ac⟩))))
def bE:UM->bU->bU
 | [],v=>v
 |(x,y)::r,v=>if x=v then bE r y else bE r v
def gJ:UM->Prop
 | []=>True
 |(x,y)::r=>x≠y∧(∀q∈r,q.1≠x)∧(∀q∈r,q.2≠x)∧gJ r
def C8:UM->bU->Nat
 | [],_=>0
 |(x,_)::r,v=>if x=v then r.length+1 else C8 r v
theorem Et: ∀(m:UM) (v:bU),C8 m v<=m.length
 | [],_=>QH _
 |(x,y)::r,v=>by
  have:=Et r v;unfold C8;split
  .simp
  .simp;omega
theorem pT: ∀(m:UM) (v:bU),eH (.si .i64) m v=lc->bE m v=v
 | [],_,_=>rfl
 |(x,y)::r,v,h=>by
  unfold eH at h;unfold bE;split at h
  .cases h
  .rename_i b;rw[be b];exact pT r v h
theorem mM: ∀(m:UM) (v:bU),gJ m->eH (.si .i64) m v=kw->bE m (bG (.si .i64) m v bU.z)=bE m v∧C8 m (bG (.si .i64) m v bU.z)<C8 m v
 | [],_,_,h=>nomatch h
 |(x,y)::r,v,ok,h=>by
  obtain⟨F,J,G,I⟩:=ok;by_cases j:x=v
  .subst j;have e:bG (.si .i64) ((x,y)::r) x bU.z=y:=am D;rw[e];refine⟨?_,?_⟩
   .show(if x=y then bE r y else bE r y)=if x=x then bE r y else bE r x;rw[am D];split<;>rfl
   .show(if x=y then r.length+1 else C8 r y)<if x=x then r.length+1 else C8 r x;rw[am D,be F];have:=Et r y;omega
  .have e:bG (.si .i64) ((x,y)::r) v bU.z=bG (.si .i64) r v bU.z:=be j;have u:eH (.si .i64) r v=kw:=by
    unfold eH at h;rw[be j]at h;exact h
   rw[e];obtain⟨g1,g2⟩:=mM r v I u;have d:bG (.si .i64) r v bU.z≠x:=by
    have: ∀(m:UM),(∀q∈m,q.2≠x)->eH (.si .i64) m v=kw->bG (.si .i64) m v bU.z≠x:=by
     intro m
     induction m with
     |nil=>intro _ h;cases h
     |cons a r ih=>
      obtain⟨S,Y⟩:=a;intro A h;unfold eH at h;unfold bG;split at h
      .rename_i b;rw[am b];exact A _ Q3
      .rename_i b;rw[be b];exact ih (fun q B=>A q (QR _ B)) h
    exact this r G u
   refine⟨?_,?_⟩
   .show(if x=_ then bE r y else bE r _)=if x=v then bE r y else bE r v;rw[be (fun e=>d e.symm),be j];exact g1
   .show(if x=_ then r.length+1 else C8 r _)<if x=v then r.length+1 else C8 r v;rw[be (fun e=>d e.symm),be j];exact g2
theorem d52(r:ai)(t:TS)(v0:bU)(ok:gJ t.up):bL prog 201 [.ptr 0 0,ag v0.c] (t.O r) (ag (bE t.up v0).c) (t.K r) 4:=by
 refine aw ab func201 D (by decide) ntmps201 D (by simp) ?_;refine gA D ?_
 refine mZ (σ:={v:bU//bE t.up v=bE t.up v0}) (fun v=>⟨[(0,.ptr 0 0),(3,.ptr 4 0),(4,.ptr 5 0)],
  [(0,io (TS.cell r 1 2 t.ws.length 3)),(1,io (ot t.up)),(2,io (aW 5 t.ws Want.c)),(3,io (oC t.kind)),(4,io (.cells [pS v.1.1,pI v.1.2])),(5,io (.cells [pS ⟨#[]⟩,pI 0]))],6⟩) (fun v=>C8 t.up v.1) ⟨v0,rfl⟩ []
  (zW (zO (zC ⟨⟨_,rfl,.of_eq (bD _).symm⟩,Qs D,dB _,zC ⟨⟨_,rfl,.of_eq D⟩,Qs D,rfl,⟨_,rfl,.of_eq D⟩,Qs D,rfl,ac⟩⟩))) fun v=>?_
 obtain⟨v,b⟩:=v;refine zJ D D (fun g=>?_) fun g=>?_
 .have h:eH (.si .i64) t.up v=lc:=by simpa using g
  have e:bE t.up v0=v:=by rw[<-b];exact pT t.up v h
  refine gA D (zD [] D (zM ⟨.of_eq (congrArg (fun x:bU=>ag x.c) e.symm),rfl,ac⟩ (zO (zC ⟨⟨_,rfl,.of_eq (bD _).symm⟩,Qs D,dB _,zC ac⟩))))
 .have h:eH (.si .i64) t.up v=kw:=by simpa using g
  obtain⟨d,j⟩:=mM t.up v ok h;refine gA D ⟨⟨bG (.si .i64) t.up v bU.z,d.trans b⟩,[],j,zW (zO (zC ⟨⟨_,rfl,.of_eq (bD _).symm⟩,Qs D,dB _,zC ⟨⟨_,rfl,.of_eq D⟩,Qs D,rfl,⟨_,rfl,.of_eq D⟩,Qs D,rfl,ac⟩⟩))⟩
def L1(r:ai)(t:TS):IV:= .j6 [cv r,upI t.up,de 5 t.ws Want.c,kdI t.kind]
theorem c52(r:ai)(t:TS)(v0:bU)(ok:gJ t.up):Pure prog 201 [.iv (L1 r t),ag v0.c] (ag (bE t.up v0).c):=by
 refine ar ab func201 D (by decide) ntmps201 D (by simp) D ?_;refine gA D ?_
 refine mZ (σ:={v:bU//bE t.up v=bE t.up v0}) (fun v=>⟨[(0,.iv (L1 r t)),(3,.ptr 0 0),(4,.ptr 1 0)],
  [(0,io (.cells [pS v.1.1,pI v.1.2])),(1,io (.cells [pS ⟨#[]⟩,pI 0]))],2⟩) (fun v=>C8 t.up v.1) ⟨v0,rfl⟩ []
  (zW ⟨⟨_,rfl,.of_eq D⟩,Qs D,rfl,⟨_,rfl,.of_eq D⟩,Qs D,rfl,ac⟩) fun v=>?_
 obtain⟨v,b⟩:=v;refine zJ D D (fun g=>?_) fun g=>?_
 .have h:eH (.si .i64) t.up v=lc:=by simpa using g
  have e:bE t.up v0=v:=by rw[<-b];exact pT t.up v h
  refine gA D (zL (.of_eq ?_));exact congrArg (fun x:bU=>ag x.c) e.symm
 .have h:eH (.si .i64) t.up v=kw:=by simpa using g
  obtain⟨d,j⟩:=mM t.up v ok h;refine gA D ⟨⟨bG (.si .i64) t.up v bU.z,d.trans b⟩,[],j,zW ⟨⟨_,rfl,.of_eq D⟩,Qs D,rfl,⟨_,rfl,.of_eq D⟩,Qs D,rfl,ac⟩⟩
def te(t:TS)(w:Want):Int:=if w.has=0 then bG (.si .i64) t.kind (bE t.up w.at_) 0 else w.has
def rF(t:TS)(lit:Int)(w:Want):Bool:=li (w.lit=lit)&&!li (te t w=w.kind)
def qD(t:TS)(lit:Int):Bool:=t.ws.any (rF t lit)
theorem Qd(r:ai)(t:TS)(lit:Int)(ok:gJ t.up)(hb:t.ws.length<=1000000000000):Pure prog 169 [.iv (L1 r t),pI lit] (pB (qD t lit)):=by
 refine ar ab func169 D (by decide) ntmps169 D (by simp) D ?_;refine gA D ?_;refine aD 0 t.ws.length (QN _) (fun i=>⟨[(0,.iv (L1 r t)),(1,pI lit),(11,.iv (de 5 t.ws Want.c)),(12,pI t.ws.length),(13,pI i)],[],0⟩) (fun i=>(t.ws.take i).any (rF t lit)=lc) [] D
  (zW trivial) fun i B A=>?_
 refine zJ D D (fun b=>?_) fun b=>?_
 .have b:=bv b;have y:=cP A b;refine zJ D D (fun u=>?_) fun u=>?_
  .have u:(t.ws.getD i co).has=0:=zT u;refine gA D (Au (c52 r t (t.ws.getD i co).at_ ok) ?_);have x:te t (t.ws.getD i co)=bG (.si .i64) t.kind (bE t.up (t.ws.getD i co).at_) 0:=am u;refine zJ D D (fun d=>?_) fun d=>?_
   .have d:(t.ws.getD i co).lit=lit:=zT d;refine zJ D D (fun j=>?_) fun j=>?_
    .have j: ¬te t (t.ws.getD i co)=(t.ws.getD i co).kind:=by rw[x];simpa using j
     have e:qD t lit=kw:=RR.2 ⟨t.ws.getD i co,by rw[Qx,Qy b];exact Rz b,by rw[rF,decide_eq_true d,decide_eq_false j];rfl⟩;refine gA D (zL (.of_eq ?_));rw[e]
    .have j:te t (t.ws.getD i co)=(t.ws.getD i co).kind:=by rw[x];simpa using j
     refine gA D ⟨b,y.2 (by rw[rF,decide_eq_true j,S5,Sd]),[],zW ac⟩
   .have d: ¬(t.ws.getD i co).lit=lit:=by simpa using d
    refine gA D ⟨b,y.2 (by rw[rF,decide_eq_false d];rfl),[],zW ac⟩
  .have u: ¬(t.ws.getD i co).has=0:=zF u;have x:te t (t.ws.getD i co)=(t.ws.getD i co).has:=be u;refine zJ D D (fun d=>?_) fun d=>?_
   .have d:(t.ws.getD i co).lit=lit:=zT d;refine zJ D D (fun j=>?_) fun j=>?_
    .have j: ¬te t (t.ws.getD i co)=(t.ws.getD i co).kind:=by rw[x];simpa using j
     have e:qD t lit=kw:=RR.2 ⟨t.ws.getD i co,by rw[Qx,Qy b];exact Rz b,by rw[rF,decide_eq_true d,decide_eq_false j];rfl⟩;refine gA D (zL (.of_eq ?_));rw[e]
    .have j:te t (t.ws.getD i co)=(t.ws.getD i co).kind:=by rw[x];simpa using j
     refine gA D ⟨b,y.2 (by rw[rF,decide_eq_true j,S5,Sd]),[],zW ac⟩
   .have d: ¬(t.ws.getD i co).lit=lit:=by simpa using d
    refine gA D ⟨b,y.2 (by rw[rF,decide_eq_false d];rfl),[],zW ac⟩
 .have b:=ci b;rw[QM b]at A;refine gA D (zL (.of_eq ?_));rw[qD,A]
section
section
variable (r:ai) (lit w:Int)
def lR(e:Expr):List Want:=if e.kind=1 then[⟨lit,dI r e.var w,1,0⟩] else if e.kind=2 then[⟨lit,bU.z,1,e.val.kind⟩] else[]
mutual
def fF:Expr->List Want
 | .mk k v val op args=>lR r lit w (.mk k v val op args)++(if k=4 then rQ args else[])
def rQ:List Expr->List Want
 | []=> []
 |e::s=>fF e++rQ s
end
theorem y8: ∀l:List Expr,rQ r lit w l=l.flatMap (fF r lit w)
 | []=>rfl
 |e::s=>by rw[rQ,Rl,y8 s]
def hZ(e:Expr):List Want:=if e.kind=4 then e.args.flatMap (fF r lit w) else[]
theorem Cc(e:Expr):fF r lit w e=lR r lit w e++hZ r lit w e:=by
 cases e;rw[fF,y8];rfl
end
abbrev TS.add(t:TS)(l:List Want):TS:=⟨t.up,t.ws++l,t.kind⟩
section
variable {nt:Nat} {Q:AQ} {k:List KI} {s:AS}
def tS(s:AS)(r:ai)(t:TS)(i u j m:Nat):AS:=match s with|⟨f,h,n⟩=>⟨f,(i,io (TS.cell r u n t.ws.length m))::(u,io (ot t.up))::(n,io (aW 5 t.ws Want.c))::(m,io (oC t.kind))::(i,jp)::(u,jp)::(j,jp)::(m,jp)::h,n+1⟩
theorem Oc(s:AS)(r:ai)(t:TS)(i u j m:Nat):tS s r t i u j m=⟨s.f,(i,io (TS.cell r u s.nx t.ws.length m))::(u,io (ot t.up))::(s.nx,io (aW 5 t.ws Want.c))::(m,io (oC t.kind))::(i,jp)::(u,jp)::(j,jp)::(m,jp)::s.h,s.nx+1⟩:=by cases s;rfl
def tR(s:AS)(r:ai)(t:TS)(i u j m:Nat):AS:=match s with|⟨f,h,n⟩=>⟨f,(i,io (TS.cell r u j t.ws.length m))::(u,io (ot t.up))::(j,io (aW 5 t.ws Want.c))::(m,io (oC t.kind))::(i,jp)::(u,jp)::(j,jp)::(m,jp)::h,n⟩
theorem Od(s:AS)(r:ai)(t:TS)(i u j m:Nat):tR s r t i u j m=⟨s.f,(i,io (TS.cell r u j t.ws.length m))::(u,io (ot t.up))::(j,io (aW 5 t.ws Want.c))::(m,io (oC t.kind))::(i,jp)::(u,jp)::(j,jp)::(m,jp)::s.h,s.nx⟩:=by cases s;rfl
theorem EA{o:Oper}{c:Call}{g:FuncId}{args y:List PV}{r:ai}{t A:TS}{d:PV}{i u j m n:Nat}{es:List (List PV)}{s':AS}(hc:bL prog g (.ptr 0 0::args) (t.O r) d (A.H r) 5)(ho:o.op= .call c)(ha:bK s.f c=io (g,.ptr i 0::y))
  (hi:s.h.get i=io (TS.cell r u j n m)) (hu:s.h.get u=io (ot t.up)) (hj:s.h.get j=io (.row 5 es)) (hm:s.h.get m=io (oC t.kind)) (hn:n=t.ws.length) (he:es=t.ws.map fun x=>(Want.c x).map .iv)
  (hlt:[i,u,j,m].all (fun x=>QZ x s.nx)=kw) (hnd:cL [i,u,j,m]=kw) (has:y=args) (hlow:bp 0 args=kw) (hr:d.low 0=kw)
  (hp:putDst nt o d (tS s r A i u j m)=io s'):OT prog nt o s (fun t=>t=s'):=by
 subst has;subst hn;subst he;have b: ∀σ,dL σ y=y:=fun σ=>gu σ y hlow;refine me ho ha hc (fA hnd) (fun j hj=>Qs (Q7.1 hlt j hj)) ?_ ?_ ?_
 .simp only[Q4,RL,hi,hu,hj,hm,bD];rfl
 .simp only[dL,b];rfl
 .rintro q B n0 ⟨rfl,rfl,rfl⟩;rw[PV.ja _ _ hr];rw[Oc]at hp;refine⟨s',?_,rfl⟩;rw[<-hp];simp only[TS.H,aE,pU,RZ,bD];rfl
theorem Ey{o:Oper}{c:Call}{g:FuncId}{args y:List PV}{r:ai}{t:TS}{d:PV}{i u j m n:Nat}{es:List (List PV)}{s':AS}(hc:bL prog g (.ptr 0 0::args) (t.O r) d (t.K r) 4)(ho:o.op= .call c)(ha:bK s.f c=io (g,.ptr i 0::y))
  (hi:s.h.get i=io (TS.cell r u j n m)) (hu:s.h.get u=io (ot t.up)) (hj:s.h.get j=io (.row 5 es)) (hm:s.h.get m=io (oC t.kind)) (hn:n=t.ws.length) (he:es=t.ws.map fun x=>(Want.c x).map .iv)
  (hlt:[i,u,j,m].all (fun x=>QZ x s.nx)=kw) (hnd:cL [i,u,j,m]=kw) (has:y=args) (hlow:bp 0 args=kw) (hr:d.low 0=kw)
  (hp:putDst nt o d (tR s r t i u j m)=io s'):OT prog nt o s (fun t=>t=s'):=by
 subst has;subst hn;subst he;have b: ∀σ,dL σ y=y:=fun σ=>gu σ y hlow;refine me ho ha hc (fA hnd) (fun j hj=>Qs (Q7.1 hlt j hj)) ?_ ?_ ?_
 .simp only[Q4,RL,hi,hu,hj,hm,bD];rfl
 .simp only[dL,b];rfl
 .rintro q A n0 ⟨rfl,rfl,rfl⟩;rw[PV.ja _ _ hr];rw[Od]at hp;refine⟨s',?_,rfl⟩;rw[<-hp];simp only[TS.K,aE,pU,RZ,bD];rfl
theorem zr{all rest:List Oper}{o:Oper}{c:Call}{g:FuncId}{args d:List PV}{r:ai}{t y:TS}{b:PV}{i u j m n:Nat}{es:List (List PV)}{s':AS}(hc:bL prog g (.ptr 0 0::args) (t.O r) b (y.H r) 5)(ho:o.op= .call c)(hg:o.guard=jp)(ha:bK s.f c=io (g,.ptr i 0::d))
  (hi:s.h.get i=io (TS.cell r u j n m)) (hu:s.h.get u=io (ot t.up)) (hj:s.h.get j=io (.row 5 es)) (hm:s.h.get m=io (oC t.kind)) (hn:n=t.ws.length) (he:es=t.ws.map fun x=>(Want.c x).map .iv)
  (hlt:[i,u,j,m].all (fun x=>QZ x s.nx)=kw) (hnd:cL [i,u,j,m]=kw) (has:d=args) (hlow:bp 0 args=kw) (hr:b.low 0=kw)
  (hp:putDst nt o b (tS s r y i u j m)=io s') (h:GO prog nt (.ops all rest::k) Q s'):GO prog nt (.ops all (o::rest)::k) Q s:=
 dp hg (EA hc ho ha hi hu hj hm hn he hlt hnd has hlow hr hp) fun t A=>by subst A;exact h
theorem Cu{all rest:List Oper}{o:Oper}{c:Call}{g:FuncId}{args d:List PV}{r:ai}{t y:TS}{b:PV}{i u j m n:Nat}{es:List (List PV)}{s':AS}(hc:bL prog g (.ptr 0 0::args) (t.O r) b (y.H r) 5)(h:GO prog nt (.ops all rest::k) Q s')(ho:o.op= .call c:=by exact rfl)(hg:o.guard=jp:=by exact rfl)(ha:bK s.f c=io (g,.ptr i 0::d):=by exact rfl)(hi:s.h.get i=io (TS.cell r u j n m):=by exact rfl)(hu:s.h.get u=io (ot t.up):=by exact rfl)(hj:s.h.get j=io (.row 5 es):=by exact rfl)(hm:s.h.get m=io (oC t.kind):=by exact rfl)(hn:n=t.ws.length:=by first|rfl|(rw[Qv];rfl)|simp)(he:es=t.ws.map fun x=>(Want.c x).map .iv:=by first|rfl|(rw[QO];rfl)|(simp only[QO,QU];rfl))(hlt:[i,u,j,m].all (fun x=>QZ x s.nx)=kw:=by exact rfl)(hnd:cL [i,u,j,m]=kw:=by exact rfl)(has:d=args:=by exact rfl)(hlow:bp 0 args=kw:=by exact rfl)(hr:b.low 0=kw:=by exact rfl)(hp:putDst nt o b (tS s r y i u j m)=io s':=by exact rfl):GO prog nt (.ops all (o::rest)::k) Q s:=zr (hc:=hc) (ho:=ho) (hg:=hg) (ha:=ha) (hi:=hi) (hu:=hu) (hj:=hj) (hm:=hm) (hn:=hn) (he:=he) (hlt:=hlt) (hnd:=hnd) (has:=has) (hlow:=hlow) (hr:=hr) (hp:=hp) (h:=h)
theorem MU{all:List Oper}{todo pend:List (Nat×Oper)}{d:Nat}{A y:Prop}{o:Oper}{c:Call}{g:FuncId}{args B:List PV}{r:ai}{t:TS}{b:PV}{i u j m n:Nat}{es:List (List PV)}{s':AS}(hc:bL prog g (.ptr 0 0::args) (t.O r) b (t.K r) 4)
  (hrd:eG todo=[(d,o)]) (ho:o.op= .call c) (ha:bK s.f c=io (g,.ptr i 0::B))
  (hi:s.h.get i=io (TS.cell r u j n m)) (hu:s.h.get u=io (ot t.up)) (hj:s.h.get j=io (.row 5 es)) (hm:s.h.get m=io (oC t.kind)) (hn:n=t.ws.length) (he:es=t.ws.map fun x=>(Want.c x).map .iv)
  (hlt:[i,u,j,m].all (fun x=>QZ x s.nx)=kw) (hnd:cL [i,u,j,m]=kw) (has:B=args) (hlow:bp 0 args=kw) (hr:b.low 0=kw)
  (hp:putDst nt o b (tR s r t i u j m)=io s')
  (hg:cf nt all s.f o=io kw) (hpb:gT all pend o=kw) (hE:nA todo [d]=kw)
  (hag:rB nP nt all s todo pend=io A) (hCA:A) (hag2:dH nP nt all s' (a8 pend o)=io y) (hC2:y)
  (h:GO prog nt (.ct all (todo.filter fun x=>!Q6 x.1 d) (a8 pend o)::k) Q s'):GO prog nt (.ct all todo pend::k) Q s:=
 rk ab hrd hg hpb hE hag hCA (Ey hc ho ha hi hu hj hm hn he hlt hnd has hlow hr hp) hag2 hC2 h
theorem nh{all:List Oper}{todo pend:List (Nat×Oper)}{d:Nat}{A y:Prop}{o:Oper}{c:Call}{g:FuncId}{args B:List PV}{r:ai}{t:TS}{b:PV}{i u j m n:Nat}{es:List (List PV)}{s':AS}(hc:bL prog g (.ptr 0 0::args) (t.O r) b (t.K r) 4)(h:GO prog nt (.ct all (todo.filter fun x=>!Q6 x.1 d) (a8 pend o)::k) Q s')(hrd:eG todo=[(d,o)]:=by exact rfl)(ho:o.op= .call c:=by exact rfl)(ha:bK s.f c=io (g,.ptr i 0::B):=by exact rfl)(hi:s.h.get i=io (TS.cell r u j n m):=by exact rfl)(hu:s.h.get u=io (ot t.up):=by exact rfl)(hj:s.h.get j=io (.row 5 es):=by exact rfl)(hm:s.h.get m=io (oC t.kind):=by exact rfl)(hn:n=t.ws.length:=by first|rfl|(rw[Qv];rfl)|simp)(he:es=t.ws.map fun x=>(Want.c x).map .iv:=by first|rfl|(rw[QO];rfl)|(simp only[QO,QU];rfl))(hlt:[i,u,j,m].all (fun x=>QZ x s.nx)=kw:=by exact rfl)(hnd:cL [i,u,j,m]=kw:=by exact rfl)(has:B=args:=by exact rfl)(hlow:bp 0 args=kw:=by exact rfl)(hr:b.low 0=kw:=by exact rfl)(hp:putDst nt o b (tR s r t i u j m)=io s':=by exact rfl)(hg:cf nt all s.f o=io kw:=by exact rfl)(hpb:gT all pend o=kw:=by exact rfl)(hE:nA todo [d]=kw:=by exact rfl)(hag:rB nP nt all s todo pend=io A:=by exact rfl)(hCA:A:=by(repeat' (first|exact ac|exact rfl|exact aC.refl _|exact aC.bk (by assumption)|apply Rm))<;>first|omega|(simp only[QW];omega)|(simp;done)|(simp;omega))(hag2:dH nP nt all s' (a8 pend o)=io y:=by exact rfl)(hC2:y:=by(repeat' (first|exact ac|exact rfl|exact aC.refl _|exact aC.bk (by assumption)|apply Rm))<;>first|omega|(simp only[QW];omega)|(simp;done)|(simp;omega)):GO prog nt (.ct all todo pend::k) Q s:=MU (hc:=hc) (hrd:=hrd) (ho:=ho) (ha:=ha) (hi:=hi) (hu:=hu) (hj:=hj) (hm:=hm) (hn:=hn) (he:=he) (hlt:=hlt) (hnd:=hnd) (has:=has) (hlow:=hlow) (hr:=hr) (hp:=hp) (hg:=hg) (hpb:=hpb) (hE:=hE) (hag:=hag) (hCA:=hCA) (hag2:=hag2) (hC2:=hC2) (h:=h)
theorem Ll{l:List ResultVar}{y:PV}{e:Exit}{r:ai}{d:TS}{b:PV}{j n:Nat}{es:List (List PV)}(he:e= .normal∨e= .ret)(hr:jw nP s l=io y)(hi:s.h.get 0=io (TS.cell r 1 j n 3))(hu:s.h.get 1=io (ot d.up))(hj:s.h.get j=io (.row 5 es))(hm:s.h.get 3=io (oC d.kind))
  (hn:n=d.ws.length) (hes:es=d.ws.map fun x=>(Want.c x).map .iv) (hlt:QZ j s.nx=kw) (hnd:cL [0,1,j,3]=kw) (hns:SE 4 s.nx=kw) (hrl:aC y b) (hlow:b.low 0=kw) (hlow5:b.low 5=kw):BA nP l 4 b (d.H r) 5 e s:=by
 subst hn;subst hes;refine en [j] he hr ⟨rfl,Qs hns,fun x u=>?_,⟨?_,hlow5,ac⟩,⟨⟨_,hi,.of_eq D⟩,Qs D,rfl,⟨_,hu,.of_eq D⟩,Qs D,ac,⟨_,hj,.of_eq (bD _).symm⟩,Qs D,dB _,⟨_,hm,.of_eq D⟩,Qs D,ac,ac⟩,?_⟩
 .simp only[QJ]at u;subst u;exact Qs hlt
 .rw[PV.ja _ _ hlow];exact hrl
 .exact fA hnd
theorem u7{l:List ResultVar}{u:PV}{e:Exit}{r:ai}{d:TS}{b:PV}{j n:Nat}{es:List (List PV)}(he:e= .normal∨e= .ret:=by first|exact .inr D|exact .inl D)(hr:jw nP s l=io u:=by exact rfl)(hi:s.h.get 0=io (TS.cell r 1 j n 3):=by exact rfl)(hu:s.h.get 1=io (ot d.up):=by exact rfl)(hj:s.h.get j=io (.row 5 es):=by exact rfl)(hm:s.h.get 3=io (oC d.kind):=by exact rfl)(hn:n=d.ws.length:=by first|rfl|(rw[Qv];rfl)|simp)(hes:es=d.ws.map fun x=>(Want.c x).map .iv:=by first|rfl|(rw[QO];rfl)|(simp only[QO,QU];rfl))(hlt:QZ j s.nx=kw:=by exact rfl)(hnd:cL [0,1,j,3]=kw:=by exact rfl)(hns:SE 4 s.nx=kw:=by exact rfl)(hrl:aC u b:=by exact .refl _)(hlow:b.low 0=kw:=by exact rfl)(hlow5:b.low 5=kw:=by exact rfl):BA nP l 4 b (d.H r) 5 e s:=Ll (he:=he) (hr:=hr) (hi:=hi) (hu:=hu) (hj:=hj) (hm:=hm) (hn:=hn) (hes:=hes) (hlt:=hlt) (hnd:=hnd) (hns:=hns) (hrl:=hrl) (hlow:=hlow) (hlow5:=hlow5)
theorem J5{n0 i u j m n:Nat}{es:List (List PV)}{J:AF}{r:ai}{t b:TS}(hw:t=b)(hi:s.h.get i=io (TS.cell r u j n m))(hu:s.h.get u=io (ot t.up))(hj:s.h.get j=io (.row 5 es))(hm:s.h.get m=io (oC t.kind))
  (hn:n=t.ws.length) (hes:es=t.ws.map fun x=>(Want.c x).map .iv) (hlt:QZ j s.nx=kw) (hnd:cL [i,u,j,m]=kw) (h0:[i,u,m].all (fun x=>QZ x n0)=kw) (hns:SE n0 s.nx=kw) (hf:En (n0+1) (sg n0 [j]) s.f J):
  Wk n0 [j] s ⟨J,[(i,io (TS.cell r u n0 b.ws.length m)),(u,io (ot b.up)),(n0,io (aW 5 b.ws Want.c)),(m,io (oC b.kind))],n0+1⟩:=by
 subst hw;subst hn;subst hes;simp only[List.all_cons,List.all_nil,Bool.and_true,Q5]at h0;have d:i<n0:=Qs h0.1;have A:u<n0:=Qs h0.2.1;have y:m<n0:=Qs h0.2.2;have s0:sg n0 [j] i=i:=fC d;have B:sg n0 [j] u=u:=fC A;have F:sg n0 [j] m=m:=fC y;have S:QZ n0 n0=lc:=S8.2 fun e=>absurd (Qs e) (by omega);have G:sg n0 [j] n0=j:=by simp[sg,S]
 have c1:QZ u (n0+1)=kw:=Ry (by omega);have Y:QZ m (n0+1)=kw:=Ry (by omega);have Z:QZ n0 (n0+1)=kw:=Ry (by omega);refine⟨rfl,Qs hns,fun x I=>?_,hf,⟨⟨_,by rw[s0];exact hi,?_⟩,by show i<n0+1;omega,?_,⟨_,by rw[B];exact hu,.of_eq D⟩,by show u<n0+1;omega,ac,⟨_,by rw[G];exact hj,.of_eq (bD _).symm⟩,RX _,dB _,⟨_,by rw[F];exact hm,.of_eq D⟩,by show m<n0+1;omega,ac,ac⟩,?_⟩
 .simp only[QJ]at I;subst I;exact Qs hlt
 .simp only[AO.cx,dL,PV.cx,B,F,G];exact .of_eq D
 .simp[AO.low,bp,PV.low,c1,Y,Z]
 .simp only[eB,s0,B,F,G];exact fA hnd
theorem oL{n0 i u j m n:Nat}{es:List (List PV)}{d:AF}{r:ai}{t b:TS}(hw:t=b)(hi:s.h.get i=io (TS.cell r u j n m):=by exact rfl)(hu:s.h.get u=io (ot t.up):=by exact rfl)(hj:s.h.get j=io (.row 5 es):=by exact rfl)(hm:s.h.get m=io (oC t.kind):=by exact rfl)(hn:n=t.ws.length:=by first|rfl|(rw[Qv];rfl)|simp)(hes:es=t.ws.map fun x=>(Want.c x).map .iv:=by first|rfl|(rw[QO];rfl)|(simp only[QO,QU];rfl))(hlt:QZ j s.nx=kw:=by exact rfl)(hnd:cL [i,u,j,m]=kw:=by exact rfl)(h0:[i,u,m].all (fun x=>QZ x n0)=kw:=by exact rfl)(hns:SE n0 s.nx=kw:=by exact rfl)(hf:En (n0+1) (sg n0 [j]) s.f d:=by repeat' (first|exact ac|exact aC.refl _|exact rfl|apply Rm)):Wk n0 [j] s ⟨d,[(i,io (TS.cell r u n0 b.ws.length m)),(u,io (ot b.up)),(n0,io (aW 5 b.ws Want.c)),(m,io (oC b.kind))],n0+1⟩:=J5 (hw:=hw) (hi:=hi) (hu:=hu) (hj:=hj) (hm:=hm) (hn:=hn) (hes:=hes) (hlt:=hlt) (hnd:=hnd) (h0:=h0) (hns:=hns) (hf:=hf)
end
theorem TS.add_add(t:TS)(a b:List Want):(t.add a).add b=t.add (a++b):=by simp[TS.add]
theorem TS.add_nil(t:TS):t.add []=t:=by simp[TS.add]
def J3(r:ai)(n:Nat):Prop:= ∀(t:TS) (e:Expr) (lit w:Int),e.size<=n->t.ws.length+Expr.az e.args<=1000000000->bL prog 226 [.ptr 0 0,ag e.c,pI lit,pI w] (t.O r) (.bB []) ((t.add (hZ r lit w e)).H r) 5
def Nk(r:ai)(n:Nat):Prop:= ∀(t:TS) (e:Expr) (lit w:Int),e.size<=n->t.ws.length+e.size<=1000000000->bL prog 199 [.ptr 0 0,ag e.c,pI lit,pI w] (t.O r) (.bB []) ((t.add (fF r lit w e)).H r) 5
theorem d92(r:ai)(n:Nat)(x:J3 r n):Nk r n:=by
 intro t e lit w u hb;have y:=e.size_eq;rw[Cc,<-TS.add_add];refine aw ab func199 D (by decide) ntmps199 D (by simp) ?_;refine zJ D D (fun b=>?_) fun b=>?_
 .have b:e.kind=1:=zT b;have j:lR r lit w e=[⟨lit,dI r e.var w,1,0⟩]:=am b;rw[j];refine gA D (nh (d136 r t e.var w) ?_);refine gA D (zr (x (t.add [⟨lit,dI r e.var w,1,0⟩]) e lit w u (by show(t.ws++_).length+_<=_;rw[Qv,Rp];omega)) D D D D D D D (by first|rfl|(rw[Qv];rfl)|simp) (by first|rfl|(rw[QO];rfl)|(simp only[QO,QU];rfl)) D D D D D D ?_);refine gA D u7
 have b: ¬e.kind=1:=zF b;refine zJ D D (fun d=>?_) fun d=>?_
 .have d:e.kind=2:=zT d;have j:lR r lit w e=[⟨lit,bU.z,1,e.val.kind⟩]:=by unfold lR;rw[be b,am d]
  rw[j];refine gA D (zr (x (t.add [⟨lit,bU.z,1,e.val.kind⟩]) e lit w u (by show(t.ws++_).length+_<=_;rw[Qv,Rp];omega)) D D D D D D D (by first|rfl|(rw[Qv];rfl)|simp) (by first|rfl|(rw[QO];rfl)|(simp only[QO,QU];rfl)) D D D D D D ?_);refine gA D u7
 .have d: ¬e.kind=2:=zF d;have j:lR r lit w e=[]:=by unfold lR;rw[be b,be d]
  rw[j,TS.add_nil];refine gA D (Cu (x t e lit w u (by omega)) ?_);refine gA D u7
theorem gy(r:ai)(lit w:Int): ∀e:Expr,(fF r lit w e).length<=e.size
 | .mk k v val op args=>by
  rw[fF,Expr.size,Qv];have b:(lR r lit w (.mk k v val op args)).length<=1:=by
   unfold lR
   repeat' split
   all_goals simp
  have d:(if k=4 then rQ r lit w args else[]).length<=Expr.az args:=by
   split
   .exact numRs_len args
   .simp
  omega
where
 numRs_len: ∀l:List Expr,(rQ r lit w l).length<=Expr.az l
 | []=>by simp[rQ]
 |e::s=>by
  have h1:=gy r lit w e;have h2:=numRs_len s;rw[rQ,Expr.az,Qv];omega
theorem Fs(r:ai)(lit w:Int)(l:List Expr)(i:Nat)(h:i<l.length):((l.take i).flatMap (fF r lit w)).length+(l.getD i co).size<=Expr.az l:=by
 have b: ∀l:List Expr,(l.flatMap (fF r lit w)).length<=Expr.az l:=by
  intro l
  induction l with
  |nil=>simp
  |cons e s ih=>
   have:=gy r lit w e;rw[Rl,Qv,Expr.az];omega
 have j:=b (l.take i);have d: ∀(l:List Expr) (i:Nat),i<l.length->Expr.az (l.take i)+(l.getD i co).size<=Expr.az l:=by
  intro l
  induction l with
  |nil=>intro i h;simp at h
  |cons e s ih=>
   intro i h;cases i with
   |zero=>simp[Expr.az]
   |succ i=>
    have:=ih i (by simpa using h);simp only[RY,Sg,Expr.az];omega
 have:=d l i h;omega
theorem d137(r:ai)(n:Nat)(y:Nk r n):J3 r (n+1):=by
 intro t e lit w G hb;have x:=e.size_eq;refine bL.le (args:=[.ptr 0 0,ag e.c1,pI lit,pI w]) ?_ ⟨.refl _,e.Bb,.refl _,.refl _,ac⟩;have u:=Expr.aA e.args;refine aw ab func226 D (by decide) ntmps226 D (by simp) ?_;refine zE D D (fun k=>?_) fun k=>?_
 .have k: ¬e.kind=4:=zF k;have d:hZ r lit w e=[]:=be k;rw[d,TS.add_nil];refine gA D u7
 have k:e.kind=4:=zT k;have d:hZ r lit w e=e.args.flatMap (fF r lit w):=am k;rw[d];refine gA D ?_
 refine aD 0 e.args.length (QN _) (fun i=>⟨[(0,.ptr 0 0),(2,pI lit),(3,pI w),(14,.iv (de 7 e.args Expr.c)),(15,pI e.args.length),(16,pI i)],
  [(0,io (TS.cell r 1 5 (t.add ((e.args.take i).flatMap (fF r lit w))).ws.length 3)),(1,io (ot (t.add ((e.args.take i).flatMap (fF r lit w))).up)),(5,io (aW 5 (t.add ((e.args.take i).flatMap (fF r lit w))).ws Want.c)),(3,io (oC (t.add ((e.args.take i).flatMap (fF r lit w))).kind))],6⟩) (fun _=>True) _ ac
  (J5 (t:=t) (TS.add_nil t).symm D D D D D D D D D D (bi (bi (bi (bi (bi (bi trivial))))))) fun i B _=>?_
 refine zJ D D (fun b=>?_) fun b=>?_
 .have b:=bv b;have j:=bn (f:=fF r lit w) b;have F:=Fs r lit w e.args i b;have A:=Expr.aV e.args i b;refine gA D (zr (y (t.add ((e.args.take i).flatMap (fF r lit w))) (e.args.getD i co) lit w (by omega) (by show(t.ws++_).length+_<=_;rw[Qv];omega)) D D D D D D D (by first|rfl|(rw[Qv];rfl)|simp) (by first|rfl|(rw[QO];rfl)|(simp only[QO,QU];rfl)) D D D D D D ?_);refine gA D ⟨b,ac,_,J5 ((by rw[TS.add_add,j])) D D D D (by first|rfl|(rw[Qv];rfl)|simp) (by first|rfl|(rw[QO];rfl)|(simp only[QO,QU];rfl)) D D D D (bi (bi (bi (bi (bi (bi ac))))))⟩
 .have b:=ci b;rw[QM b];refine gA D u7
end
theorem qV(r:ai): ∀n,Nk r n∧J3 r n
 |0=>by
  have b:J3 r 0:=fun t e lit w j=>by have:=e.size_pos;omega
  exact⟨d92 r 0 b,b⟩
 |n+1=>by
  have d:=d137 r n (qV r n).1;exact⟨d92 r (n+1) d,d⟩
theorem GA(r:ai)(t:TS)(e:Expr)(lit w:Int)(hb:t.ws.length+e.size<=1000000000):bL prog 199 [.ptr 0 0,ag e.c,pI lit,pI w] (t.O r) (.bB []) ((t.add (fF r lit w e)).H r) 5:=(qV r e.size).1 t e lit w (QH _) hb
theorem Lp(r:ai)(t:TS)(e:Expr)(lit w:Int)(hb:t.ws.length+e.size<=1000000000):bL prog 226 [.ptr 0 0,ag e.c,pI lit,pI w] (t.O r) (.bB []) ((t.add (hZ r lit w e)).H r) 5:=(qV r e.size).2 t e lit w (QH _) (by have:=e.size_eq;omega)
def typeAt(p:Prog)(a:Atom)(i:Nat):Int:=(l3 p a.rel).types.getD i co
def lH(p:Prog)(a:Atom)(i:Nat):Bool:=li (i<(l3 p a.rel).types.length)&&(li (typeAt p a i=1)||decide (typeAt p a i=2))
def kG(p:Prog)(r:ai)(a:Atom)(lit w:Int)(i:Nat):List Want:=
 if lH p a i=lc then[]
 else if(a.ad.getD i co).kind=1 then[⟨lit,dI r (a.ad.getD i co).var w,typeAt p a i,0⟩]
 else if(a.ad.getD i co).kind=2 then[⟨lit,bU.z,typeAt p a i,(a.ad.getD i co).val.kind⟩] else[]
def fK(p:Prog)(r:ai)(a:Atom)(lit w:Int):Nat->List Want
 |0=> []
 |i+1=>fK p r a lit w i++kG p r a lit w i
theorem AA(p:Prog)(r:ai)(a:Atom)(lit w:Int)(i:Nat):(kG p r a lit w i).length<=1:=by
 unfold kG
 repeat' split
 all_goals simp
theorem mf(p:Prog)(r:ai)(a:Atom)(lit w:Int): ∀i,(fK p r a lit w i).length<=i
 |0=>QH _
 |i+1=>by
  have b:=mf p r a lit w i;have d:=AA p r a lit w i;rw[fK,Qv];omega
set_option maxHeartbeats 1000000 in
theorem d90(p:Prog)(r:ai)(t:TS)(a:Atom)(lit w:Int)(hb:t.ws.length+a.ad.length<=1000000000):bL prog 197 [.ptr 0 0,.iv (cF p),ag a.c,pI lit,pI w] (t.O r) (.bB []) ((t.add (fK p r a lit w a.ad.length)).H r) 5:=by
 refine aw ab func197 D (by decide) ntmps197 D (by simp) ?_;refine gA D ?_
 refine aD 0 a.ad.length (QN _) (fun i=>⟨[(0,.ptr 0 0),(3,pI lit),(4,pI w),(10,.iv (de 1 (l3 p a.rel).types cR)),(19,.iv (de 5 a.ad Term.c)),(20,pI a.ad.length),(21,pI i)],
  [(0,io (TS.cell r 1 5 (t.add (fK p r a lit w i)).ws.length 3)),(1,io (ot (t.add (fK p r a lit w i)).up)),(5,io (aW 5 (t.add (fK p r a lit w i)).ws Want.c)),(3,io (oC (t.add (fK p r a lit w i)).kind))],6⟩) (fun _=>True) _ ac
  (J5 (t:=t) (TS.add_nil t).symm D D D D D D D D D D (bi (bi (bi (bi (bi (bi (bi trivial)))))))) fun i B _=>?_
 refine zE D D (fun u=>?_) fun u=>?_
 .have u:=ci u;have:i=a.ad.length:=by omega
  subst this;refine gA D u7
 have u:=bv u;have F:=mf p r a lit w i;have b:t.add (fK p r a lit w (i+1))=(t.add (fK p r a lit w i)).add (kG p r a lit w i):=by rw[TS.add_add];rfl
 have A:(t.add (fK p r a lit w i)).ws.length<=t.ws.length+i:=by show(t.ws++_).length<=_;rw[Qv];omega
 generalize t.add (fK p r a lit w i)=t1 at*
 refine zE D D (fun g1=>?_) fun g1=>?_
 .have g1: ¬i<(l3 p a.rel).types.length:=by have g:=zT (show li ((i:Int)>=((l3 p a.rel).types.length:Int))=kw from g1);omega
  have x:lH p a i=lc:=by rw[lH,decide_eq_false g1];rfl
  have hW:kG p r a lit w i=[]:=am x;rw[hW,TS.add_nil]at b;refine gA D ⟨u,ac,_,oL (b.symm)⟩
 have g1:i<(l3 p a.rel).types.length:=by have g:=zF (show li ((i:Int)>=((l3 p a.rel).types.length:Int))=lc from g1);omega
 refine zJ D D (fun g2=>?_) fun g2=>?_
 .have g2: ¬typeAt p a i=1:=by simpa[typeAt]using g2
  refine zJ D D (fun g3=>?_) fun g3=>?_
  .have g3: ¬typeAt p a i=2:=by simpa[typeAt]using g3
   have x:lH p a i=lc:=by rw[lH,decide_eq_true g1,decide_eq_false g2,decide_eq_false g3];rfl
   have hW:kG p r a lit w i=[]:=am x;rw[hW,TS.add_nil]at b;refine gA D ⟨u,ac,_,oL (b.symm)⟩
  .have g3:typeAt p a i=2:=by simpa[typeAt]using g3
   have y:lH p a i=kw:=by rw[lH,decide_eq_true g1,decide_eq_true g3,SG];rfl
   have hW:kG p r a lit w i=if(a.ad.getD i co).kind=1 then[⟨lit,dI r (a.ad.getD i co).var w,typeAt p a i,0⟩]
    else if(a.ad.getD i co).kind=2 then[⟨lit,bU.z,typeAt p a i,(a.ad.getD i co).val.kind⟩] else[]:=by unfold kG;rw[y];exact be (by decide)
   rw[hW]at b;refine zJ D D (fun d=>?_) fun d=>?_
   .have d:(a.ad.getD i co).kind=1:=zT d;rw[am d]at b;refine gA D (nh (d136 r t1 (a.ad.getD i co).var w) ?_);refine gA D ⟨u,ac,_,oL (b.symm)⟩
   have d: ¬(a.ad.getD i co).kind=1:=zF d;rw[be d]at b;refine zJ D D (fun j=>?_) fun j=>?_
   .have j:(a.ad.getD i co).kind=2:=zT j;rw[am j]at b;refine gA D ⟨u,ac,_,oL (b.symm)⟩
   .have j: ¬(a.ad.getD i co).kind=2:=zF j;rw[be j,TS.add_nil]at b;refine gA D ⟨u,ac,_,oL (b.symm)⟩
 .have g2:typeAt p a i=1:=by simpa[typeAt]using g2
  have y:lH p a i=kw:=by rw[lH,decide_eq_true g1,decide_eq_true g2];rfl
  have hW:kG p r a lit w i=if(a.ad.getD i co).kind=1 then[⟨lit,dI r (a.ad.getD i co).var w,typeAt p a i,0⟩]
   else if(a.ad.getD i co).kind=2 then[⟨lit,bU.z,typeAt p a i,(a.ad.getD i co).val.kind⟩] else[]:=by unfold kG;rw[y];exact be (by decide)
  rw[hW]at b;refine zJ D D (fun d=>?_) fun d=>?_
  .have d:(a.ad.getD i co).kind=1:=zT d;rw[am d]at b;refine gA D (nh (d136 r t1 (a.ad.getD i co).var w) ?_);refine gA D ⟨u,ac,_,oL (b.symm)⟩
  have d: ¬(a.ad.getD i co).kind=1:=zF d;rw[be d]at b;refine zJ D D (fun j=>?_) fun j=>?_
  .have j:(a.ad.getD i co).kind=2:=zT j;rw[am j]at b;refine gA D ⟨u,ac,_,oL (b.symm)⟩
  .have j: ¬(a.ad.getD i co).kind=2:=zF j;rw[be j,TS.add_nil]at b;refine gA D ⟨u,ac,_,oL (b.symm)⟩
def u6(t:TS)(u v:bU):TS:=if u=v then t else⟨cj (.si .i64) t.up u v,t.ws,t.kind⟩
def sv(y:Expr):Int:=if y.kind=2 then y.val.kind else 1
def fL(r:ai)(lit w:Int)(t:TS)(x y:Expr):TS:=
 if y.kind=1 then u6 t (bE t.up (dI r x.var w)) (bE t.up (dI r y.var w))
 else t.add (if x.kind=1 then[⟨lit,dI r x.var w,sv y,0⟩] else if x.kind=2 then[⟨lit,bU.z,sv y,x.val.kind⟩] else[⟨lit,bU.z,sv y,1⟩])
def ib(r:ai)(lit w:Int)(t:TS)(a b:Expr):TS:=
 if b.kind=1 then fL r lit w ((t.add (hZ r lit w a)).add (hZ r lit w b)) b a else fL r lit w ((t.add (hZ r lit w a)).add (hZ r lit w b)) a b
theorem Iz{u v:bU}(h:(!(li (u.1=v.1)&&(li (u.2=v.2)&&kw)))=kw):u≠v:=by
 rintro rfl;simp at h
theorem IA{u v:bU}(h:(!(li (u.1=v.1)&&(li (u.2=v.2)&&kw)))=lc):u=v:=by
 simp at h;exact Prod.ext h.1 h.2
theorem qi(r:ai)(lit w:Int)(e:Expr):(hZ r lit w e).length<=e.size:=by
 have b:=gy r lit w e;rw[Cc,Qv]at b;omega
set_option maxHeartbeats 1000000 in
theorem d93(r:ai)(t:TS)(a b:Expr)(lit w:Int)(ok:gJ t.up)(hb:t.ws.length+a.size+b.size<=1000000000):bL prog 200 [.ptr 0 0,ag a.c,ag b.c,pI lit,pI w] (t.O r) (.bB []) ((ib r lit w t a b).H r) 5:=by
 have I:=qi r lit w a;have J:=qi r lit w b;have G:ib r lit w t a b=if b.kind=1 then fL r lit w ((t.add (hZ r lit w a)).add (hZ r lit w b)) b a else fL r lit w ((t.add (hZ r lit w a)).add (hZ r lit w b)) a b:=rfl;rw[G];have B:gJ ((t.add (hZ r lit w a)).add (hZ r lit w b)).up:=ok;refine aw ab func200 D (by decide) ntmps200 D (by simp) ?_;refine gA D (Cu (Lp r t a lit w (by omega)) ?_);refine gA D (zr (Lp r (t.add (hZ r lit w a)) b lit w (by show(t.ws++_).length+_<=_;rw[Qv];omega)) D D D D D D D (by first|rfl|(rw[Qv];rfl)|simp) (by first|rfl|(rw[QO];rfl)|(simp only[QO,QU];rfl)) D D D D D D ?_);have S:((t.add (hZ r lit w a)).add (hZ r lit w b)).ws.length<=t.ws.length+a.size+b.size:=by
  show((t.ws++_)++_).length<=_;rw[Qv,Qv];omega
 generalize(t.add (hZ r lit w a)).add (hZ r lit w b)=t1 at*
 refine zJ D D (fun u=>?_) fun u=>?_
 .have u:b.kind=1:=zT u;rw[am u];refine zJ D D (fun j=>?_) fun j=>?_
  .have j:a.kind=2:=zT j;have F: ¬a.kind=1:=by omega
   have hh:sv a=a.val.kind:=am j;have y:fL r lit w t1 b a=t1.add [⟨lit,dI r b.var w,sv a,0⟩]:=by unfold fL;rw[be F,am u]
   rw[y,hh];refine zJ D D (fun x=>?_) fun x=>?_
   .exact absurd (zT x) F
   refine zE D D (fun d=>?_) fun d=>?_
   .exact absurd u (zF d)
   refine gA D (nh (d136 r t1 b.var w) ?_);refine gA D u7
  .have j: ¬a.kind=2:=zF j;refine zJ D D (fun x=>?_) fun x=>?_
   .have x:a.kind=1:=zT x;have y:fL r lit w t1 b a=u6 t1 (bE t1.up (dI r b.var w)) (bE t1.up (dI r a.var w)):=am x;rw[y];refine gA D (nh (d136 r t1 b.var w) ?_);refine gA D (nh (d52 r t1 (dI r b.var w) B) ?_);refine gA D (nh (d136 r t1 a.var w) ?_);refine gA D (nh (d52 r t1 (dI r a.var w) B) ?_);refine zJ D D (fun d=>?_) fun d=>?_
    .have e:u6 t1 (bE t1.up (dI r b.var w)) (bE t1.up (dI r a.var w))=⟨cj (.si .i64) t1.up (bE t1.up (dI r b.var w)) (bE t1.up (dI r a.var w)),t1.ws,t1.kind⟩:=be (Iz d);rw[e];refine mu D (by repeat' (first|exact ac|exact rfl|exact agI (bU.c (bE t1.up (dI r a.var w)))|exact aC.refl _|apply Rm)) (Ll (by first|exact .inr D|exact .inl D) D D D D D D D D D D (.refl _) D D)
    .have e:u6 t1 (bE t1.up (dI r b.var w)) (bE t1.up (dI r a.var w))=t1:=am (IA d);rw[e];refine gA D u7
   .have F: ¬a.kind=1:=zF x;have hh:sv a=1:=be j;have y:fL r lit w t1 b a=t1.add [⟨lit,dI r b.var w,sv a,0⟩]:=by unfold fL;rw[be F,am u]
    rw[y,hh];refine zE D D (fun d=>?_) fun d=>?_
    .exact absurd u (zF d)
    refine gA D (nh (d136 r t1 b.var w) ?_);refine gA D u7
 have u: ¬b.kind=1:=zF u;rw[be u];have y:fL r lit w t1 a b=t1.add (if a.kind=1 then[⟨lit,dI r a.var w,sv b,0⟩] else if a.kind=2 then[⟨lit,bU.z,sv b,a.val.kind⟩] else[⟨lit,bU.z,sv b,1⟩]):=be u;rw[y];refine zJ D D (fun j=>?_) fun j=>?_
 .have j:b.kind=2:=zT j;have hh:sv b=b.val.kind:=am j;rw[hh];refine zJ D D (fun x=>?_) fun x=>?_
  .exact absurd (zT x) u
  refine zJ D D (fun d=>?_) fun d=>?_
  .rw[am (zT d)];refine gA D (nh (d136 r t1 a.var w) ?_);refine gA D u7
  rw[be (zF d)];refine zJ D D (fun A=>?_) fun A=>?_
  .rw[am (zT A)];refine gA D u7
  .rw[be (zF A)];refine gA D u7
 .have j: ¬b.kind=2:=zF j;have hh:sv b=1:=be j;rw[hh];refine zJ D D (fun x=>?_) fun x=>?_
  .exact absurd (zT x) u
  refine zJ D D (fun d=>?_) fun d=>?_
  .rw[am (zT d)];refine gA D (nh (d136 r t1 a.var w) ?_);refine gA D u7
  rw[be (zF d)];refine zJ D D (fun A=>?_) fun A=>?_
  .rw[am (zT A)];refine gA D u7
  .rw[be (zF A)];refine gA D u7
def oi(p:Prog)(r:ai)(lit w:Int)(t:TS)(l:Lit):TS:=
 if l.kind=1∨l.kind=2 then t.add (fK p r l.atom lit w l.atom.ad.length)
 else if l.kind=3 then(if l.op=1∨l.op=2 then ib r lit w t l.left l.right else(t.add (fF r lit w l.left)).add (fF r lit w l.right)) else t
theorem d91(p:Prog)(r:ai)(t:TS)(l:Lit)(lit w:Int)(ok:gJ t.up)(hb:t.ws.length+l.size<=1000000000):bL prog 198 [.ptr 0 0,.iv (cF p),ag l.c,pI lit,pI w] (t.O r) (.bB []) ((oi p r lit w t l).H r) 5:=by
 have A:=l.size_eq;have B:=gy r lit w l.left;refine aw ab func198 D (by decide) ntmps198 D (by simp) ?_;refine zE D D (fun d=>?_) fun d=>?_
 .have d:l.kind=1:=by simpa using d
  have b:oi p r lit w t l=t.add (fK p r l.atom lit w l.atom.ad.length):=am (.inl d);rw[b];refine gA D (Cu (d90 p r t l.atom lit w (by omega)) ?_);refine gA D u7
 have d: ¬l.kind=1:=zF d;refine zJ D D (fun j=>?_) fun j=>?_
 .have j:l.kind=2:=zT j;have b:oi p r lit w t l=t.add (fK p r l.atom lit w l.atom.ad.length):=am (.inr j);rw[b];refine gA D (Cu (d90 p r t l.atom lit w (by omega)) ?_);refine gA D u7
 have j: ¬l.kind=2:=zF j;have b:oi p r lit w t l=if l.kind=3 then(if l.op=1∨l.op=2 then ib r lit w t l.left l.right else(t.add (fF r lit w l.left)).add (fF r lit w l.right)) else t:=be (by rintro(h|h);exact d h;exact j h);refine zJ D D (fun u=>?_) fun u=>?_
 .have u: ¬l.kind=3:=by simpa using u
  rw[be u]at b;rw[b];refine gA D u7
 have u:l.kind=3:=by simpa using u
 rw[am u]at b;refine zE D D (fun x=>?_) fun x=>?_
 .have x:l.op=1:=by simpa using x
  rw[am (.inl x)]at b;rw[b];refine gA D (Cu (d93 r t l.left l.right lit w ok (by omega)) ?_);refine gA D u7
 have x: ¬l.op=1:=zF x;refine zJ D D (fun y=>?_) fun y=>?_
 .have y:l.op=2:=zT y;rw[am (.inr y)]at b;rw[b];refine gA D (Cu (d93 r t l.left l.right lit w ok (by omega)) ?_);refine gA D u7
 .have y: ¬l.op=2:=zF y;rw[be (by rintro(h|h);exact x h;exact y h)]at b;rw[b];refine gA D (Cu (GA r t l.left lit w (by omega)) ?_);refine gA D (zr (GA r (t.add (fF r lit w l.left)) l.right lit w (by show(t.ws++_).length+_<=_;rw[Qv];omega)) D D D D D D D (by first|rfl|(rw[Qv];rfl)|simp) (by first|rfl|(rw[QO];rfl)|(simp only[QO,QU];rfl)) D D D D D D ?_);refine gA D u7
theorem oV: ∀(n:Nat) (m:UM) (v:bU),gJ m->C8 m v<=n->eH (.si .i64) m (bE m v)=lc
 |n,m,v,ok,hn=>by
  cases h:eH (.si .i64) m v with
  |false=>rw[pT m v h];exact h
  |true=>
   obtain⟨b,d⟩:=mM m v ok h;cases n with
   |zero=>omega
   |succ n=>rw[<-b];exact oV n m _ ok (by omega)
theorem yT: ∀(m:UM) (u v:bU),eH (.si .i64) m u=lc->cj (.si .i64) m u v=m++ [(u,v)]
 | [],_,_,_=>rfl
 |(x,y)::r,u,v,h=>by
  unfold eH at h;split at h
  .cases h
  .rename_i b;show(if x=u then _ else(x,y)::cj (.si .i64) r u v)=_;rw[be b,yT r u v h];rfl
theorem zo{m:UM}{u:bU}(h:eH (.si .i64) m u=lc): ∀q∈m,q.1≠u:=by
 induction m with
 |nil=>intro q hq;cases hq
 |cons a r ih=>
  obtain⟨x,y⟩:=a;unfold eH at h;split at h
  .cases h
  .rename_i b;intro q hq;rcases QY.1 hq with rfl|hq
   .exact b
   .exact ih h q hq
theorem vo: ∀{m:UM} {u v:bU},gJ m->(∀q∈m,q.1≠u)->(∀q∈m,q.1≠v)->u≠v->gJ (m++ [(u,v)])
 | [],u,v,_,_,_,hne=>⟨hne,fun q hq=>(nomatch hq),fun q hq=>(nomatch hq),ac⟩
 |(x,y)::r,u,v,⟨o1,o2,o3,o4⟩,hu,hv,hne=>by
  refine⟨o1,fun q hq=>?_,fun q hq=>?_,vo o4 (fun q hq=>hu q (QR _ hq)) (fun q hq=>hv q (QR _ hq)) hne⟩
  .rcases QK.1 hq with hq|hq
   .exact o2 q hq
   .simp only[QJ]at hq;subst hq;exact fun e=>hu _ Q3 e.symm
  .rcases QK.1 hq with hq|hq
   .exact o3 q hq
   .simp only[QJ]at hq;subst hq;exact fun e=>hv _ Q3 e.symm
theorem L6{t:TS}(ok:gJ t.up)(a b:bU):gJ (u6 t (bE t.up a) (bE t.up b)).up:=by
 unfold u6;split
 .exact ok
 .rename_i d;have j:=oV _ t.up a ok (QH _);have u:=oV _ t.up b ok (QH _);show gJ (cj _ _ _ _);rw[yT _ _ _ j];exact vo ok (zo j) (zo u) d
theorem wK(r:ai)(lit w:Int){t:TS}(ok:gJ t.up)(x y:Expr):gJ (fL r lit w t x y).up:=by
 unfold fL;split
 .exact L6 ok _ _
 .exact ok
theorem Ar(r:ai)(lit w:Int){t:TS}(ok:gJ t.up)(a b:Expr):gJ (ib r lit w t a b).up:=by
 unfold ib;split
 .exact wK r lit w (t:=(t.add (hZ r lit w a)).add (hZ r lit w b)) ok _ _
 .exact wK r lit w (t:=(t.add (hZ r lit w a)).add (hZ r lit w b)) ok _ _
theorem FE(p:Prog)(r:ai)(lit w:Int){t:TS}(ok:gJ t.up)(l:Lit):gJ (oi p r lit w t l).up:=by
 unfold oi
 repeat' split
 .exact ok
 .exact Ar r lit w ok _ _
 .exact ok
 .exact ok
theorem L5(t:TS)(u v:bU):(u6 t u v).ws=t.ws:=by unfold u6;split<;>rfl
theorem uU(r:ai)(lit w:Int)(t:TS)(x y:Expr):(fL r lit w t x y).ws.length<=t.ws.length+1:=by
 unfold fL
 repeat' split
 .rw[L5];omega
 all_goals(show(t.ws++_).length<=_;rw[Qv,Rp];omega)
theorem wJ(r:ai)(lit w:Int)(t:TS)(a b:Expr):(ib r lit w t a b).ws.length<=t.ws.length+a.size+b.size+1:=by
 have d:=qi r lit w a;have j:=qi r lit w b;have u:((t.add (hZ r lit w a)).add (hZ r lit w b)).ws.length<=t.ws.length+a.size+b.size:=by
  show((t.ws++_)++_).length<=_;rw[Qv,Qv];omega
 unfold ib;split
 .exact Rr (uU _ _ _ _ _ _) (by omega)
 .exact Rr (uU _ _ _ _ _ _) (by omega)
theorem Ch(p:Prog)(r:ai)(lit w:Int)(t:TS)(l:Lit):(oi p r lit w t l).ws.length<=t.ws.length+l.size:=by
 have b:=l.size_eq;have d:=mf p r l.atom lit w l.atom.ad.length;have j:=wJ r lit w t l.left l.right;have u:=gy r lit w l.left;have x:=gy r lit w l.right;unfold oi
 repeat' split
 .show(t.ws++_).length<=_;rw[Qv];omega
 .omega
 .show((t.ws++_)++_).length<=_;rw[Qv,Qv];omega
 .omega
theorem jL{P:Program}{nt:Nat}{Q:AQ}{k:List KI}{s t:AS}{c:Code}(L:List Nat)(h0:Wk s.nx L s t)(h:GO P nt (.code c::k) Q t):GO P nt (.code c::k) Q s:=by
 intro M N a w u;exact AW.then h (h0.fits u) fun e A B d j s' y b x=>⟨d,j,s',(h0.ext (.refl _ _ _ _ _)).trans y,b,x⟩
theorem Jd:eJ .fg (ot []):=⟨id,fun M N U w j b=>⟨#[],0,b,⟨rfl,by simp,by simp,by simp,by simp⟩,.agg _ _ D fun j p b=>by
 match j,b with
 |0,b=>cases b;exact .v _
 |1,b=>cases b;exact .v _
 |j+2,b=>simp[bU.c]at b⟩⟩
theorem Je:eJ .fg (oC []):=⟨id,fun M N U w j b=>⟨#[],0,b,⟨rfl,by simp,by simp,by simp,by simp⟩,fk M⟩⟩
def oe(s:ae):Expr:= .mk 1 s ⟨0,0,Qz⟩ 0 []
abbrev Hq(s:ae):PV:= .agg [pI 1,pS s,pI 0,pI 0,pS Qz,pI 0,.iv (.v (.slice jp 0 0))]
theorem wR(s:ae):aC (Hq s) (ag (oe s).c):= .agg ⟨.refl _,.refl _,.refl _,.refl _,.refl _,.refl _,.nil _ _,ac⟩
theorem kQ(s:ae):(oe s).size=1:=rfl
def u5(r:ai)(i:Int)(t:TS)(f:Int)(v:ae)(o:Expr):TS:=
 if f=2 then(t.add (fF r i i o)).add (fF r i i (oe v)) else if f=1 then t.add (fF r i i (oe v)) else ib r i i t (oe v) o
def pg(p:Prog)(r:ai)(i:Int)(t:TS)(b:List Lit):Nat->TS
 |0=>t
 |k+1=>oi p r i i (pg p r i t b k) (b.getD k co)
def stepT(p:Prog)(r:ai)(i:Int)(t:TS)(l:Lit):TS:=
 if l.kind=4 then pg p r i (u5 r i t l.cH l.ba l.iJ) l.an l.an.length else oi p r i (-1) t l
def TS.o:TS:=⟨[],[],[]⟩
def dZ(p:Prog)(r:ai):Nat->TS
 |0=>TS.o.add (fK p r r.head (-1) (-1) r.head.ad.length)
 |k+1=>stepT p r k (dZ p r k) (r.body.getD k co)
def cB(b:UM)(m:KM)(w:Want):KM:=if w.has=0∧bG (.si .i64) m (bE b w.at_) 0=0 then cj (.si .i64) m (bE b w.at_) w.kind else m
def mG(p:Prog)(r:ai):TS:=⟨(dZ p r r.body.length).up,(dZ p r r.body.length).ws,(dZ p r r.body.length).ws.foldl (cB (dZ p r r.body.length).up) []⟩
theorem Er(r:ai)(i:Int){t:TS}(ok:gJ t.up)(f:Int)(v:ae)(o:Expr):gJ (u5 r i t f v o).up:=by
 unfold u5
 repeat' split
 .exact ok
 .exact ok
 .exact Ar r i i ok _ _
theorem zl(p:Prog)(r:ai)(i:Int){t:TS}(ok:gJ t.up)(b:List Lit): ∀k,gJ (pg p r i t b k).up
 |0=>ok
 |k+1=>FE p r i i (zl p r i ok b k) _
theorem Ix(p:Prog)(r:ai)(i:Int){t:TS}(ok:gJ t.up)(l:Lit):gJ (stepT p r i t l).up:=by
 unfold stepT;split
 .exact zl p r i (Er r i ok _ _ _) _ _
 .exact FE p r i (-1) ok l
theorem xX(p:Prog)(r:ai): ∀k,gJ (dZ p r k).up
 |0=>trivial
 |k+1=>Ix p r k (xX p r k) _
theorem uT(r:ai)(lit w:Int)(t:TS)(a b:Expr):(ib r lit w t a b).kind=t.kind:=by
 have d: ∀(t:TS) u v,(u6 t u v).kind=t.kind:=fun t u v=>by unfold u6;split<;>rfl
 have j: ∀(t:TS) x y,(fL r lit w t x y).kind=t.kind:=fun t x y=>by
  unfold fL;split
  .exact d _ _ _
  .rfl
 unfold ib;split<;>exact j _ _ _
theorem ze(p:Prog)(r:ai)(lit w:Int)(t:TS)(l:Lit):(oi p r lit w t l).kind=t.kind:=by
 unfold oi
 repeat' split
 .rfl
 .exact uT r lit w t _ _
 .rfl
 .rfl
theorem Cr(p:Prog)(r:ai)(i:Int)(t:TS)(b:List Lit): ∀k,(pg p r i t b k).kind=t.kind
 |0=>rfl
 |k+1=>by rw[pg,ze,Cr p r i t b k]
theorem Di(p:Prog)(r:ai)(i:Int)(t:TS)(l:Lit):(stepT p r i t l).kind=t.kind:=by
 unfold stepT;split
 .rw[Cr];unfold u5
  repeat' split
  .rfl
  .rfl
  .exact uT r i i t _ _
 .exact ze p r i (-1) t l
theorem wC(p:Prog)(r:ai): ∀k,(dZ p r k).kind=[]
 |0=>rfl
 |k+1=>by rw[dZ,Di,wC p r k]
theorem BI(r:ai)(i:Int)(t:TS)(f:Int)(v:ae)(o:Expr):(u5 r i t f v o).ws.length<=t.ws.length+o.size+2:=by
 have j:=gy r i i o;have b:=gy r i i (oe v);have d:=wJ r i i t (oe v) o;rw[kQ]at b d;unfold u5
 repeat' split
 .show((t.ws++_)++_).length<=_;rw[Qv,Qv];omega
 .show(t.ws++_).length<=_;rw[Qv];omega
 .omega
theorem iq: ∀(l:List Lit) (i:Nat),i<l.length->Lit.az (l.take i)+(l.getD i co).size<=Lit.az l
 | [],i,h=>by simp at h
 |s::r,0,_=>by simp[Lit.az]
 |s::r,i+1,h=>by
  have:=iq r i (by simpa using h);simp only[RY,Sg,Lit.az];omega
theorem Lit.tt(l:List Lit)(i:Nat)(h:i<l.length):Lit.az (l.take (i+1))=Lit.az (l.take i)+(l.getD i co).size:=by
 rw[cC h];have: ∀(a:List Lit) (b:Lit),Lit.az (a++ [b])=Lit.az a+b.size:=by
  intro a b
  induction a with
  |nil=>simp[Lit.az]
  |cons x r ih=>simp only[Se,Lit.az,ih];omega
 exact this _ _
theorem uf(p:Prog)(r:ai)(i:Int)(t:TS)(b:List Lit): ∀k,k<=b.length->(pg p r i t b k).ws.length<=t.ws.length+Lit.az (b.take k)
 |0,_=>by simp[pg,Lit.az]
 |k+1,h=>by
  have d:=uf p r i t b k (by omega);have j:=Ch p r i i (pg p r i t b k) (b.getD k co);rw[pg,Lit.tt b k (by omega)];omega
theorem EL(p:Prog)(r:ai)(i:Int)(t:TS)(l:Lit):(stepT p r i t l).ws.length<=t.ws.length+l.size:=by
 have d:=l.size_eq;unfold stepT;split
 .have b:=uf p r i (u5 r i t l.cH l.ba l.iJ) l.an l.an.length (QH _);have j:=BI r i t l.cH l.ba l.iJ;rw[Sv]at b;omega
 .exact Ch p r i (-1) t l
theorem uG(p:Prog)(r:ai): ∀k,k<=r.body.length->(dZ p r k).ws.length<=r.head.ad.length+Lit.az (r.body.take k)
 |0,_=>by
  have:=mf p r r.head (-1) (-1) r.head.ad.length;show([]++_).length<=_;simp only[Sa];omega
 |k+1,h=>by
  have b:=uG p r k (by omega);have d:=EL p r k (dZ p r k) (r.body.getD k co);rw[dZ,Lit.tt r.body k (by omega)];omega
theorem PR(r:ai)(b:UM)(d:KM)(W:IV)(v0:bU)(ok:gJ b):bL prog 201 [.ptr 0 0,ag v0.c] [.cells [.iv (cv r),.mp 1,.iv W,.mp 2],ot b,oC d] (ag (bE b v0).c) [(0,io (.cells [.iv (cv r),.mp 1,.iv W,.mp 2])),(1,io (ot b)),(2,io (oC d))] 3:=by
 refine aw ab func201 D (by decide) ntmps201 D (by simp) ?_;refine gA D ?_
 refine mZ (σ:={v:bU//bE b v=bE b v0}) (fun v=>⟨[(0,.ptr 0 0),(3,.ptr 3 0),(4,.ptr 4 0)],
  [(0,io (.cells [.iv (cv r),.mp 1,.iv W,.mp 2])),(1,io (ot b)),(2,io (oC d)),(3,io (.cells [pS v.1.1,pI v.1.2])),(4,io (.cells [pS ⟨#[]⟩,pI 0]))],5⟩) (fun v=>C8 b v.1) ⟨v0,rfl⟩ []
  (zW (zO (zC (zC ⟨⟨_,rfl,.of_eq D⟩,Qs D,rfl,⟨_,rfl,.of_eq D⟩,Qs D,rfl,ac⟩)))) fun v=>?_
 obtain⟨v,j⟩:=v;refine zJ D D (fun g=>?_) fun g=>?_
 .have h:eH (.si .i64) b v=lc:=by simpa using g
  have e:bE b v0=v:=by rw[<-j];exact pT b v h
  refine gA D (zD [] D (zM ⟨.of_eq (congrArg (fun x:bU=>ag x.c) e.symm),rfl,ac⟩ (zO (zC (zC ac)))))
 .have h:eH (.si .i64) b v=kw:=by simpa using g
  obtain⟨u,y⟩:=mM b v ok h;refine gA D ⟨⟨bG (.si .i64) b v bU.z,u.trans j⟩,[],y,zW (zO (zC (zC ⟨⟨_,rfl,.of_eq D⟩,Qs D,rfl,⟨_,rfl,.of_eq D⟩,Qs D,rfl,ac⟩)))⟩
set_option maxHeartbeats 2000000 in
theorem c49(p:Prog)(r:ai)(hb:r.size<=100000000):Pure prog 168 [.iv (cF p),.iv (cv r)] (.iv (L1 r (mG p r))):=by
 unfold ai.size at hb;have c0:=Lit.aA r.body;have j0:r.body.length<=Lit.az r.body:=c0;refine ar ab func168 D (by decide) ntmps168 D (by simp) D ?_;refine gM 14 D (uj 2 2 5 D D ?_);refine jL [] (t:=⟨[(0,.iv (cF p)),(1,.iv (cv r)),(5,.ptr 2 0)],[(2,io (TS.cell r 0 3 TS.o.ws.length 1)),(0,io (ot TS.o.up)),(3,io (aW 5 TS.o.ws Want.c)),(1,io (oC TS.o.kind))],4⟩)
  (zW ⟨⟨_,rfl,.of_eq D⟩,Qs D,rfl,⟨_,rfl,Jd⟩,Qs D,ac,⟨_,rfl,.of_eq D⟩,Qs D,dB _,⟨_,rfl,Je⟩,Qs D,ac,ac⟩) ?_
 refine gA D (zr (d90 p r TS.o r.head (-1) (-1) (by show 0+_<=_;omega)) D D D D D D D (by first|rfl|(rw[Qv];rfl)|simp) (by first|rfl|(rw[QO];rfl)|(simp only[QO,QU];rfl)) D D D D D D ?_);refine gA D ?_
 refine aD 0 r.body.length (QN _) (fun i=>⟨[(0,.iv (cF p)),(1,.iv (cv r)),(5,.ptr 2 0),(31,.iv (lits r.body)),(32,pI r.body.length),(33,pI i)],
  [(2,io (TS.cell r 0 5 (dZ p r i).ws.length 1)),(0,io (ot (dZ p r i).up)),(5,io (aW 5 (dZ p r i).ws Want.c)),(1,io (oC (dZ p r i).kind))],6⟩) (fun _=>True) _ ac
  (J5 (t:=dZ p r 0) D D D D D D D D D D D (bi (bi (bi (bi (bi (bi trivial))))))) fun i hi _=>?_
 have g0:=uG p r i hi;have B:=xX p r i;refine zJ D D (fun y=>?_) fun y=>?_
 .have y:=bv y;have m0:=iq r.body i y;have I:dZ p r (i+1)=stepT p r i (dZ p r i) (r.body.getD i co):=rfl;generalize dZ p r i=t1 at*
  have n0:=(r.body.getD i co).size_eq;refine zJ D D (fun G=>?_) fun G=>?_
  .have G: ¬(r.body.getD i co).kind=4:=by have g:(!li ((r.body.getD i co).kind=4))=kw:=G;simpa only[Rw,decide_eq_false_iff_not]using g
   have hS:stepT p r i t1 (r.body.getD i co)=oi p r i (-1) t1 (r.body.getD i co):=be G;rw[hS]at I;refine gA D (Cu (d91 p r t1 (r.body.getD i co) i (-1) B (by omega)) ?_);refine gA D ⟨y,ac,_,oL (I.symm)⟩
  have G:(r.body.getD i co).kind=4:=by have g:(!li ((r.body.getD i co).kind=4))=lc:=G;simpa only[Sx,decide_eq_true_eq]using g
  have hS:stepT p r i t1 (r.body.getD i co)=pg p r i (u5 r i t1 (r.body.getD i co).cH (r.body.getD i co).ba (r.body.getD i co).iJ) (r.body.getD i co).an (r.body.getD i co).an.length:=am G;rw[hS]at I;have hV:u5 r i t1 (r.body.getD i co).cH (r.body.getD i co).ba (r.body.getD i co).iJ=if(r.body.getD i co).cH=2 then(t1.add (fF r i i (r.body.getD i co).iJ)).add (fF r i i (oe (r.body.getD i co).ba)) else if(r.body.getD i co).cH=1 then t1.add (fF r i i (oe (r.body.getD i co).ba)) else ib r i i t1 (oe (r.body.getD i co).ba) (r.body.getD i co).iJ:=rfl;have F:=Er r i B (r.body.getD i co).cH (r.body.getD i co).ba (r.body.getD i co).iJ;have i0:=BI r i t1 (r.body.getD i co).cH (r.body.getD i co).ba (r.body.getD i co).iJ;have b0:=Lit.aA (r.body.getD i co).an;have o0:=kQ (r.body.getD i co).ba;have k0:=gy r i i (r.body.getD i co).iJ;generalize u5 r i t1 (r.body.getD i co).cH (r.body.getD i co).ba (r.body.getD i co).iJ=V at*
  refine zJ D D (fun f2=>?_) fun f2=>?_
  .have f2:(r.body.getD i co).cH=2:=zT f2;have Z:V=(t1.add (fF r i i (r.body.getD i co).iJ)).add (fF r i i (oe (r.body.getD i co).ba)):=by rw[hV,am f2]
   refine gA D (Cu (GA r t1 (r.body.getD i co).iJ i i (by omega)) ?_);refine gA D (zr (bL.le (aa:=[.ptr 0 0,Hq (r.body.getD i co).ba,pI i,pI i]) (GA r (t1.add (fF r i i (r.body.getD i co).iJ)) (oe (r.body.getD i co).ba) i i (by show(t1.ws++_).length+_<=_;rw[Qv,kQ];omega)) ⟨.refl _,wR _,.refl _,.refl _,ac⟩) D D D D D D D (by first|rfl|(rw[Qv];rfl)|simp) (by first|rfl|(rw[QO];rfl)|(simp only[QO,QU];rfl)) D D D D D D ?_);refine gA D ?_;refine aD 0 (r.body.getD i co).an.length (QN _) (fun k=>⟨[(0,.iv (cF p)),(1,.iv (cv r)),(5,.ptr 2 0),(6,pI i),(31,.iv (lits r.body)),(32,pI r.body.length),(33,pI i),(79,.iv (lits (r.body.getD i co).an)),(80,pI (r.body.getD i co).an.length),(81,pI k)],[(2,io (TS.cell r 0 10 (pg p r i V (r.body.getD i co).an k).ws.length 1)),(0,io (ot (pg p r i V (r.body.getD i co).an k).up)),(10,io (aW 5 (pg p r i V (r.body.getD i co).an k).ws Want.c)),(1,io (oC (pg p r i V (r.body.getD i co).an k).kind))],11⟩) (fun _=>True) _ ac
    (J5 Z.symm D D D D D D D D D D (bi (bi (bi (bi (bi (bi (bi ⟨.iv (mX _),rfl,bi (bi trivial)⟩)))))))) fun k u _=>?_
   have J:=uf p r i V (r.body.getD i co).an k u;have j:=zl p r i F (r.body.getD i co).an k;have S:pg p r i V (r.body.getD i co).an (k+1)=oi p r i i (pg p r i V (r.body.getD i co).an k) ((r.body.getD i co).an.getD k co):=rfl;refine zJ D D (fun d=>?_) fun d=>?_
   .have d:k<(r.body.getD i co).an.length:=zN d;have Y:=iq (r.body.getD i co).an k d;refine gA D (Cu (d91 p r (pg p r i V (r.body.getD i co).an k) ((r.body.getD i co).an.getD k co) i i j (by omega)) ?_);refine gA D ⟨d,ac,_,oL (rfl)⟩
   .have d:(r.body.getD i co).an.length<=k:=zG d;have x:k=(r.body.getD i co).an.length:=by omega
    subst x;refine gA D ⟨y,ac,_,oL (I.symm)⟩
  have f2: ¬(r.body.getD i co).cH=2:=zF f2;rw[be f2]at hV;refine zJ D D (fun f1=>?_) fun f1=>?_
  .have f1:(r.body.getD i co).cH=1:=zT f1;have Z:V=t1.add (fF r i i (oe (r.body.getD i co).ba)):=by rw[hV,am f1]
   refine gA D (Cu (bL.le (aa:=[.ptr 0 0,Hq (r.body.getD i co).ba,pI i,pI i]) (GA r t1 (oe (r.body.getD i co).ba) i i (by rw[kQ];omega)) ⟨.refl _,wR _,.refl _,.refl _,ac⟩) ?_);refine gA D ?_;refine aD 0 (r.body.getD i co).an.length (QN _) (fun k=>⟨[(0,.iv (cF p)),(1,.iv (cv r)),(5,.ptr 2 0),(6,pI i),(31,.iv (lits r.body)),(32,pI r.body.length),(33,pI i),(79,.iv (lits (r.body.getD i co).an)),(80,pI (r.body.getD i co).an.length),(81,pI k)],[(2,io (TS.cell r 0 9 (pg p r i V (r.body.getD i co).an k).ws.length 1)),(0,io (ot (pg p r i V (r.body.getD i co).an k).up)),(9,io (aW 5 (pg p r i V (r.body.getD i co).an k).ws Want.c)),(1,io (oC (pg p r i V (r.body.getD i co).an k).kind))],10⟩) (fun _=>True) _ ac
    (J5 Z.symm D D D D D D D D D D (bi (bi (bi (bi (bi (bi (bi ⟨.iv (mX _),rfl,bi (bi trivial)⟩)))))))) fun k u _=>?_
   have J:=uf p r i V (r.body.getD i co).an k u;have j:=zl p r i F (r.body.getD i co).an k;have S:pg p r i V (r.body.getD i co).an (k+1)=oi p r i i (pg p r i V (r.body.getD i co).an k) ((r.body.getD i co).an.getD k co):=rfl;refine zJ D D (fun d=>?_) fun d=>?_
   .have d:k<(r.body.getD i co).an.length:=zN d;have Y:=iq (r.body.getD i co).an k d;refine gA D (Cu (d91 p r (pg p r i V (r.body.getD i co).an k) ((r.body.getD i co).an.getD k co) i i j (by omega)) ?_);refine gA D ⟨d,ac,_,oL (rfl)⟩
   .have d:(r.body.getD i co).an.length<=k:=zG d;have x:k=(r.body.getD i co).an.length:=by omega
    subst x;refine gA D ⟨y,ac,_,oL (I.symm)⟩
  .have f1: ¬(r.body.getD i co).cH=1:=zF f1;have Z:V=ib r i i t1 (oe (r.body.getD i co).ba) (r.body.getD i co).iJ:=by rw[hV,be f1]
   refine gA D (Cu (bL.le (aa:=[.ptr 0 0,Hq (r.body.getD i co).ba,ag (r.body.getD i co).iJ.c,pI i,pI i]) (d93 r t1 (oe (r.body.getD i co).ba) (r.body.getD i co).iJ i i B (by rw[kQ];omega)) ⟨.refl _,wR _,.refl _,.refl _,.refl _,ac⟩) ?_);refine gA D ?_;refine aD 0 (r.body.getD i co).an.length (QN _) (fun k=>⟨[(0,.iv (cF p)),(1,.iv (cv r)),(5,.ptr 2 0),(6,pI i),(31,.iv (lits r.body)),(32,pI r.body.length),(33,pI i),(79,.iv (lits (r.body.getD i co).an)),(80,pI (r.body.getD i co).an.length),(81,pI k)],[(2,io (TS.cell r 0 9 (pg p r i V (r.body.getD i co).an k).ws.length 1)),(0,io (ot (pg p r i V (r.body.getD i co).an k).up)),(9,io (aW 5 (pg p r i V (r.body.getD i co).an k).ws Want.c)),(1,io (oC (pg p r i V (r.body.getD i co).an k).kind))],10⟩) (fun _=>True) _ ac
    (J5 Z.symm D D D D D D D D D D (bi (bi (bi (bi (bi (bi (bi ⟨.iv (mX _),rfl,bi (bi trivial)⟩)))))))) fun k u _=>?_
   have J:=uf p r i V (r.body.getD i co).an k u;have j:=zl p r i F (r.body.getD i co).an k;have S:pg p r i V (r.body.getD i co).an (k+1)=oi p r i i (pg p r i V (r.body.getD i co).an k) ((r.body.getD i co).an.getD k co):=rfl;refine zJ D D (fun d=>?_) fun d=>?_
   .have d:k<(r.body.getD i co).an.length:=zN d;have Y:=iq (r.body.getD i co).an k d;refine gA D (Cu (d91 p r (pg p r i V (r.body.getD i co).an k) ((r.body.getD i co).an.getD k co) i i j (by omega)) ?_);refine gA D ⟨d,ac,_,oL (rfl)⟩
   .have d:(r.body.getD i co).an.length<=k:=zG d;have x:k=(r.body.getD i co).an.length:=by omega
    subst x;refine gA D ⟨y,ac,_,oL (I.symm)⟩
 .have y:=ci y;have d0:i=r.body.length:=by omega
  subst d0;have hT:mG p r=⟨(dZ p r r.body.length).up,(dZ p r r.body.length).ws,(dZ p r r.body.length).ws.foldl (cB (dZ p r r.body.length).up) []⟩:=rfl;rw[hT];rw[Sv]at g0;have f0:(dZ p r r.body.length).kind=[]:=wC p r _;generalize dZ p r r.body.length=t1 at*
  have a0:t1.kind=(t1.ws.take 0).foldl (cB t1.up) []:=f0;refine gA D ?_;refine xF 5 (fun k=>Want.c (t1.ws.getD k co)) D (fQ D) (by simp[AF.tP,PV.cU,nJ]) ⟨(by simp[AO.tP,gB,PV.cU]),ac,tE _ _ _ _ _ _,ac,ac⟩ ?_
  refine aD 0 t1.ws.length (QN _) (fun i=>⟨[(5,.ptr 2 0),(96,.iv (de 5 t1.ws Want.c)),(97,pI t1.ws.length),(98,pI i)],
   [(2,io (.cells [.iv (cv r),.mp 0,.iv (de 5 t1.ws Want.c),.mp 1])),(0,io (ot t1.up)),(1,io (oC ((t1.ws.take i).foldl (cB t1.up) [])))],6⟩) (fun _=>True) [] ac
   (zM (bi ⟨.c5 D (fun k _=>by rw[Q9]),rfl,bi (bi trivial)⟩) ⟨⟨_,rfl,.cells ⟨.refl _,.refl _,.c5 D (fun k _=>by rw[Q9]),.refl _,ac⟩⟩,Qs D,rfl,zC (hM D a0 D trivial)⟩) fun i hi _=>?_
  refine zJ D D (fun d=>?_) fun d=>?_
  .have d:i<t1.ws.length:=zN d;have A:=dz (g:=cB t1.up) (b:=[]) d;refine gA D (zq [2,0,1] (PR r t1.up ((t1.ws.take i).foldl (cB t1.up) []) (de 5 t1.ws Want.c) (t1.ws.getD i co).at_ B) ?_);refine zJ D D (fun g1=>?_) fun g1=>?_
   .have g1:(t1.ws.getD i co).has=0:=zT g1;refine zJ D D (fun g2=>?_) fun g2=>?_
    .have g2:bG (.si .i64) ((t1.ws.take i).foldl (cB t1.up) []) (bE t1.up (t1.ws.getD i co).at_) 0=0:=zT g2;have u:cB t1.up ((t1.ws.take i).foldl (cB t1.up) []) (t1.ws.getD i co)=cj (.si .i64) ((t1.ws.take i).foldl (cB t1.up) []) (bE t1.up (t1.ws.getD i co).at_) (t1.ws.getD i co).kind:=am ⟨g1,g2⟩;rw[u]at A;refine gA D ⟨d,ac,[],zW (zO (zC (hM D (by first|exact A.symm|(rw[A];rfl)) D ac)))⟩
    .have g2: ¬bG (.si .i64) ((t1.ws.take i).foldl (cB t1.up) []) (bE t1.up (t1.ws.getD i co).at_) 0=0:=zF g2;have u:cB t1.up ((t1.ws.take i).foldl (cB t1.up) []) (t1.ws.getD i co)=(t1.ws.take i).foldl (cB t1.up) []:=be fun h=>g2 h.2;rw[u]at A;refine gA D ⟨d,ac,[],zW (zO (zC (hM D (by first|exact A.symm|(rw[A];rfl)) D ac)))⟩
   .have g1: ¬(t1.ws.getD i co).has=0:=zF g1;have u:cB t1.up ((t1.ws.take i).foldl (cB t1.up) []) (t1.ws.getD i co)=(t1.ws.take i).foldl (cB t1.up) []:=be fun h=>g1 h.1;rw[u]at A;refine gA D ⟨d,ac,[],zW (zO (zC (hM D (by first|exact A.symm|(rw[A];rfl)) D ac)))⟩
  .have d:t1.ws.length<=i:=zG d;have e0:t1.ws.take i=t1.ws:=QM d;refine mu D ac (sV (.inr D) D (.map 0 D (.map 1 D (.cells 2 _ D (show _=List.map PV.iv [cv r,upI t1.up,de 5 t1.ws Want.c,kdI (t1.ws.foldl (cB t1.up) [])] by rw[e0];rfl) (.done (.of_eq D))))))
def sZ(a:Atom):Bool:=(iH WS.o a).bad
def lQ(l:Lit):Bool:=(db l.size l WS.o).bad
def td(l:Lit):Bool:=li (l.kind=4)&&li ((l.an.length:Int)>12)
def gV(n:Nat):List Int:=(Rh (n+1)).map fun k:Nat=>(k:Int)-1
theorem qZ(n:Nat):(gV n).length=n+1:=by simp[gV]
theorem vR(n k:Nat)(h:k<n+1):(gV n).getD k co=(k:Int)-1:=by simp[gV,h]
def Bm(f:Int->Bool)(n:Nat):Option Int:=(gV n).find? f
abbrev eN:=Int×Pos
def eN.c(d:eN):List IV:=[iI d.1,iI d.2.line,iI d.2.yg]
def mV(r:ai)(e:Int)(f:Int->Bool)(k:eN):eN:=match Bm f r.body.length with
 |some lit=>(e,qS r lit)
 |none=>k
def xw(p:Prog)(r:ai):eN:=
 mV r 61 (fun lit=>(eI r lit).any fun x=>uX p x)<|mV r 62 (fun lit=>(eI r lit).any fun x=>x7 p x)<|mV r 65 (kH r)<|mV r 63 (qD (mG p r))<|mV r 64 (gz r) (0,⟨0,0⟩)
def ov(p:Prog)(r:ai)(n:Int):eN:=
 if sZ r.head=kw then(1,r.at_) else match r.body.find? lQ with
 |some l=>(1,l.at)
 |none=>if n>256∨(r.body.length:Int)>12 then(66,r.at_) else if(EO r:Int)>24 then(66,r.at_) else match r.body.find? td with
  |some l=>(66,l.at)
  |none=>xw p r
def ai.fit(r:ai):Prop:=r.size<=10000000∧r.head.ts<=900000000∧ ∀l∈r.body,l.ts<=900000000
theorem lq{α:Type}{p:α->Bool}{l:List α}(h:l.any p=lc):l.find? p=jp:=by
 rw[Sk];intro x b;have:=RD.1 h x b;simpa using this
theorem nq{α:Type}[Inhabited α]{p:α->Bool}{l:List α}{i:Nat}(h:(l.take i).any p=lc)(hi:i<l.length)(hp:p (l.getD i co)=kw):l.find? p=io (l.getD i co):=by
 have b:l.getD i co=l[i]:=by simp[hi]
 rw[b]at hp ⊢;rw[List.find?_eq_some_iff_getElem];refine⟨hp,i,hi,rfl,fun j d=>?_⟩;have:=RD.1 h l[j] (S7.2 ⟨j,by rw[Rt,am d,Qy (by omega)]⟩);simpa using this
def iz(p:Prog)(r:ai):List (List PV):=[[pI 61,.cK (.func 160) [] [.ptr 1 0,.ptr 0 0]],[pI 62,.cK (.func 164) [] [.ptr 1 0,.ptr 0 0]],[pI 65,.cK (.func 166) [] [.ptr 1 0]],[pI 63,.cK (.func 169) [.iv (L1 r (mG p r))] []],[pI 64,.cK (.func 170) [.iv (cv r)] []]]
theorem cq(p:Prog)(r:ai)(n:Nat)(h:QZ 1 n=kw):(AO.row 2 (iz p r)).low n:=by
 have d:QZ 0 n=kw:=Ry (by have:=Qs h;omega);intro k e b
 match k,b with
 |0,b=>cases b;simp[bp,PV.low,h,d]
 |1,b=>cases b;simp[bp,PV.low,h,d]
 |2,b=>cases b;simp[bp,PV.low,h,d]
 |3,b=>cases b;simp[bp,PV.low,h,d]
 |4,b=>cases b;simp[bp,PV.low,h,d]
 |k+5,b=>simp[iz]at b
theorem mU{r:ai}{e:Int}{f:Int->Bool}{k:eN}{i:Nat}(d:((gV r.body.length).take i).any f=lc)(hi:i<r.body.length+1)(h:f ((i:Int)-1)=kw):mV r e f k=(e,qS r ((i:Int)-1)):=by
 have b:=vR r.body.length i hi;have:=nq d (by rw[qZ];exact hi) (by rw[b];exact h);rw[b]at this;rw[mV,Bm,this]
theorem lg{r:ai}{e:Int}{f:Int->Bool}{k:eN}{i:Nat}(b:((gV r.body.length).take i).any f=lc)(hi:r.body.length+1<=i):mV r e f k=k:=by
 rw[QM (by rw[qZ];exact hi)]at b;rw[mV,Bm,lq b]
theorem lf{r:ai}{f:Int->Bool}{i:Nat}(b:((gV r.body.length).take i).any f=lc)(hi:i<r.body.length+1)(h:f ((i:Int)-1)=lc):((gV r.body.length).take (i+1)).any f=lc:=by
 refine(cP b (by rw[qZ];exact hi)).2 ?_;rw[vR _ _ hi];exact h
set_option maxHeartbeats 4000000 in
theorem c65(p:Prog)(r:ai)(n:Int)(hb:r.fit):Pure prog 125 [.iv (cF p),ag r.c,pI n] (ag (ov p r n).c):=by
 obtain⟨hb,J,S⟩:=hb;have b0:r.size=r.head.ad.length+Lit.az r.body:=rfl;have Z:=Lit.aA r.body;refine ar ab func125 D (by decide) ntmps125 D (by simp) D ?_;refine gA D (zp (c61 r.head J) ?_);refine zJ D D (fun g1=>?_) fun g1=>?_
 .have g1:sZ r.head=kw:=by
   cases h:sZ r.head with
   |true=>rfl
   |false=>
    have h:(iH WS.o r.head).bad=lc:=h;rw[h]at g1;simp at g1
  rw[ov,am g1];exact zU D
 have g1: ¬sZ r.head=kw:=by
  intro h;have h:(iH WS.o r.head).bad=kw:=h;rw[h]at g1;simp at g1
 rw[ov,be g1];refine gA D ?_;refine aD 0 r.body.length (QN _) (fun i=>⟨[(2,pI n),(3,.ptr 0 0),(4,.ptr 1 0),(6,.ptr 2 0),(32,.iv (lits r.body)),(33,pI r.body.length),(34,pI i)],[(0,io (.cells [.iv (cF p)])),(1,io (au r.c)),(2,io (.cells [pI 0,pI 0,pI 0]))],3⟩) (fun i=>(r.body.take i).any lQ=lc) [] (by simp)
  (zW ⟨⟨_,rfl,.of_eq D⟩,Qs D,rfl,⟨_,rfl,.of_eq D⟩,Qs D,rfl,⟨_,rfl,.of_eq D⟩,Qs D,rfl,ac⟩) fun i hi j=>?_
 refine zJ D D (fun A=>?_) fun A=>?_
 .have A:i<r.body.length:=zN A;have I:=cP j A;have hm:r.body.getD i co∈r.body:=by rw[Qx,Qy A];exact Rz A
  have a0:=Lit.aV r.body i A;refine gA D (dr (Qg (r.body.getD i co) (S _ hm) (by omega)) D D D D D D ?_);refine zJ D D (fun y=>?_) fun y=>?_
  .have y:lQ (r.body.getD i co)=kw:=by
    cases h:lQ (r.body.getD i co) with
    |true=>rfl
    |false=>
     have h:(db (r.body.getD i co).size (r.body.getD i co) WS.o).bad=lc:=h;have g:(!li ((if(db (r.body.getD i co).size (r.body.getD i co) WS.o).bad=kw then(50:Int) else 0)=0))=kw:=y;rw[h]at g;simp at g
   rw[nq j A y];exact zU D
  .have y:lQ (r.body.getD i co)=lc:=by
    cases h:lQ (r.body.getD i co) with
    |false=>rfl
    |true=>
     have h:(db (r.body.getD i co).size (r.body.getD i co) WS.o).bad=kw:=h;have g:(!li ((if(db (r.body.getD i co).size (r.body.getD i co) WS.o).bad=kw then(50:Int) else 0)=0))=lc:=y;rw[h]at g;simp at g
   refine gA D ⟨A,I.2 y,[],zW ⟨⟨_,rfl,.of_eq D⟩,Qs D,rfl,⟨_,rfl,.of_eq D⟩,Qs D,rfl,⟨_,rfl,.of_eq D⟩,Qs D,rfl,ac⟩⟩
 have A:r.body.length<=i:=zG A;rw[QM A]at j;rw[lq j];refine zE D D (fun g2=>?_) fun g2=>?_
 .have g2:n>256:=by simpa using g2
  rw[am (.inl g2)];exact zU D
 have g2: ¬n>256:=zF g2;refine zJ D D (fun g3=>?_) fun g3=>?_
 .rw[am (.inr (zT g3))];exact zU D
 have g3: ¬(r.body.length:Int)>12:=zF g3;rw[be (by rintro(h|h);exact g2 h;exact g3 h)];refine gA D (zp (c48 r (by omega)) ?_);refine gA D (zp (Qf r (by omega)) ?_);refine zJ D D (fun g4=>?_) fun g4=>?_
 .rw[am (zT g4)];exact zU D
 have g4: ¬(EO r:Int)>24:=zF g4;rw[be g4];refine gA D ?_;refine aD 0 r.body.length (QN _) (fun i=>⟨[(3,.ptr 0 0),(4,.ptr 1 0),(6,.ptr 2 0),(13,.iv (cv r)),(69,.iv (lits r.body)),(70,pI r.body.length),(71,pI i)],[(0,io (.cells [.iv (cF p)])),(1,io (au r.c)),(2,io (.cells [pI 0,pI 0,pI 0]))],3⟩) (fun i=>(r.body.take i).any td=lc) [] (by simp)
  (zW ⟨⟨_,rfl,.of_eq D⟩,Qs D,rfl,⟨_,rfl,.of_eq D⟩,Qs D,rfl,⟨_,rfl,.of_eq D⟩,Qs D,rfl,ac⟩) fun i hi j=>?_
 refine zJ D D (fun y=>?_) fun y=>?_
 .have y:i<r.body.length:=zN y;have I:=cP j y;refine zJ D D (fun F=>?_) fun F=>?_
  .have F:(r.body.getD i co).kind=4:=zT F;refine zJ D D (fun G=>?_) fun G=>?_
   .have G:td (r.body.getD i co)=kw:=by rw[td,decide_eq_true F];exact G
    rw[nq j y G];exact zU D
   .have G:td (r.body.getD i co)=lc:=by rw[td,decide_eq_true F];exact G
    refine gA D ⟨y,I.2 G,[],zW ⟨⟨_,rfl,.of_eq D⟩,Qs D,rfl,⟨_,rfl,.of_eq D⟩,Qs D,rfl,⟨_,rfl,.of_eq D⟩,Qs D,rfl,ac⟩⟩
  .have F: ¬(r.body.getD i co).kind=4:=zF (by have g:li ((r.body.getD i co).kind=4)=lc:=F;exact g);refine gA D ⟨y,I.2 (by rw[td,decide_eq_false F];rfl),[],zW ⟨⟨_,rfl,.of_eq D⟩,Qs D,rfl,⟨_,rfl,.of_eq D⟩,Qs D,rfl,⟨_,rfl,.of_eq D⟩,Qs D,rfl,ac⟩⟩
 have y:r.body.length<=i:=zG y;rw[QM y]at j;rw[lq j];refine gA D (zp (c49 p r (by omega)) ?_);refine gA D ?_;refine jL [] (t:=⟨[(3,.ptr 0 0),(4,.ptr 1 0),(6,.ptr 2 0),(104,.sl 3 0 5 2),(105,pI 5),(106,pI 0)],[(0,io (.cells [.iv (cF p)])),(1,io (au r.c)),(2,io (.cells [pI 0,pI 0,pI 0])),(3,io (.row 2 (iz p r)))],4⟩)
  (zW (zO (zO (zO ⟨⟨_,rfl,.of_eq D⟩,Qs D,cq p r _ D,ac⟩)))) ?_
 have Y:(mG p r).ws.length<=1000000000000:=by have:=uG p r r.body.length (QH _);rw[Sv]at this;show(dZ p r r.body.length).ws.length<=_;omega
 rw[xw];refine FZ (n:=6) ?_;refine zE D D (fun q=>?_) fun q=>?_
 .exact absurd (show kw=lc from q) (by decide)
 refine gA D ?_;refine aD 0 (r.body.length+1) (QN _) (fun k=>⟨[(3,.ptr 0 0),(4,.ptr 1 0),(6,.ptr 2 0),(18,.ptr 4 0),(19,pI ((k:Int)-1)),(104,.sl 3 0 5 2),(105,pI 5),(106,pI 0)],[(0,io (.cells [.iv (cF p)])),(1,io (au r.c)),(2,io (.cells [pI 0,pI 0,pI 0])),(3,io (.row 2 (iz p r))),(4,io (.cells [pI 61,.cK (.func 160) [] [.ptr 1 0,.ptr 0 0]]))],5⟩) (fun k=>((gV r.body.length).take k).any (fun lit=>(eI r lit).any fun x=>uX p x)=lc) [] D
  (zW (zO (zO (zO ⟨⟨_,rfl,.of_eq D⟩,Qs D,cq p r _ D,(zO trivial)⟩)))) fun k B j=>?_
 refine zJ D D (fun d=>?_) fun d=>?_
 .have d:(k:Int)-1<r.body.length:=zT d;have b:k<r.body.length+1:=by omega
  refine gA D (zq [1,0] (d110 p r ((k:Int)-1) (by omega) (by omega)) ?_);refine zJ D D (fun u=>?_) fun u=>?_
  .rw[mU j b u];refine gA D (Au (GS r ((k:Int)-1) d) ?_);exact zU D
  .refine gA D ?_;exact⟨b,lf j b u,[],zM (bi (bi (bi (bi ⟨.of_eq (Ff (by omega)),rfl,bi (bi (bi ac))⟩)))) (zO (zO (zO ⟨⟨_,rfl,.of_eq D⟩,Qs D,cq p r _ D,(zO ac)⟩)))⟩
 have d: ¬(k:Int)-1<r.body.length:=zF d;rw[lg j (by omega)];clear j B d;refine zE D D (fun q=>?_) fun q=>?_
 .exact absurd (show kw=lc from q) (by decide)
 refine gA D ?_;refine aD 0 (r.body.length+1) (QN _) (fun k=>⟨[(3,.ptr 0 0),(4,.ptr 1 0),(6,.ptr 2 0),(18,.ptr 5 0),(19,pI ((k:Int)-1)),(104,.sl 3 0 5 2),(105,pI 5),(106,pI 1)],[(0,io (.cells [.iv (cF p)])),(1,io (au r.c)),(2,io (.cells [pI 0,pI 0,pI 0])),(3,io (.row 2 (iz p r))),(5,io (.cells [pI 62,.cK (.func 164) [] [.ptr 1 0,.ptr 0 0]]))],6⟩) (fun k=>((gV r.body.length).take k).any (fun lit=>(eI r lit).any fun x=>x7 p x)=lc) [] D
  (zW (zO (zO (zO ⟨⟨_,rfl,.of_eq D⟩,Qs D,cq p r _ D,(zO trivial)⟩)))) fun k B j=>?_
 refine zJ D D (fun d=>?_) fun d=>?_
 .have d:(k:Int)-1<r.body.length:=zT d;have b:k<r.body.length+1:=by omega
  refine gA D (zq [1,0] (d114 p r ((k:Int)-1) (by omega) (by omega)) ?_);refine zJ D D (fun u=>?_) fun u=>?_
  .rw[mU j b u];refine gA D (Au (GS r ((k:Int)-1) d) ?_);exact zU D
  .refine gA D ?_;exact⟨b,lf j b u,[],zM (bi (bi (bi (bi ⟨.of_eq (Ff (by omega)),rfl,bi (bi (bi ac))⟩)))) (zO (zO (zO ⟨⟨_,rfl,.of_eq D⟩,Qs D,cq p r _ D,(zO ac)⟩)))⟩
 have d: ¬(k:Int)-1<r.body.length:=zF d;rw[lg j (by omega)];clear j B d;refine zE D D (fun q=>?_) fun q=>?_
 .exact absurd (show kw=lc from q) (by decide)
 refine gA D ?_;refine aD 0 (r.body.length+1) (QN _) (fun k=>⟨[(3,.ptr 0 0),(4,.ptr 1 0),(6,.ptr 2 0),(18,.ptr 6 0),(19,pI ((k:Int)-1)),(104,.sl 3 0 5 2),(105,pI 5),(106,pI 2)],[(0,io (.cells [.iv (cF p)])),(1,io (au r.c)),(2,io (.cells [pI 0,pI 0,pI 0])),(3,io (.row 2 (iz p r))),(6,io (.cells [pI 65,.cK (.func 166) [] [.ptr 1 0]]))],7⟩) (fun k=>((gV r.body.length).take k).any (kH r)=lc) [] D
  (zW (zO (zO (zO ⟨⟨_,rfl,.of_eq D⟩,Qs D,cq p r _ D,(zO trivial)⟩)))) fun k B j=>?_
 refine zJ D D (fun d=>?_) fun d=>?_
 .have d:(k:Int)-1<r.body.length:=zT d;have b:k<r.body.length+1:=by omega
  refine gA D (zq [1] (d116 r ((k:Int)-1) (by omega) (by omega)) ?_);refine zJ D D (fun u=>?_) fun u=>?_
  .rw[mU j b u];refine gA D (Au (GS r ((k:Int)-1) d) ?_);exact zU D
  .refine gA D ?_;exact⟨b,lf j b u,[],zM (bi (bi (bi (bi ⟨.of_eq (Ff (by omega)),rfl,bi (bi (bi ac))⟩)))) (zO (zO (zO ⟨⟨_,rfl,.of_eq D⟩,Qs D,cq p r _ D,(zO ac)⟩)))⟩
 have d: ¬(k:Int)-1<r.body.length:=zF d;rw[lg j (by omega)];clear j B d;refine zE D D (fun q=>?_) fun q=>?_
 .exact absurd (show kw=lc from q) (by decide)
 refine gA D ?_;refine aD 0 (r.body.length+1) (QN _) (fun k=>⟨[(3,.ptr 0 0),(4,.ptr 1 0),(6,.ptr 2 0),(18,.ptr 7 0),(19,pI ((k:Int)-1)),(104,.sl 3 0 5 2),(105,pI 5),(106,pI 3)],[(0,io (.cells [.iv (cF p)])),(1,io (au r.c)),(2,io (.cells [pI 0,pI 0,pI 0])),(3,io (.row 2 (iz p r))),(7,io (.cells [pI 63,.cK (.func 169) [.iv (L1 r (mG p r))] []]))],8⟩) (fun k=>((gV r.body.length).take k).any (qD (mG p r))=lc) [] D
  (zW (zO (zO (zO ⟨⟨_,rfl,.of_eq D⟩,Qs D,cq p r _ D,(zO trivial)⟩)))) fun k B j=>?_
 refine zJ D D (fun d=>?_) fun d=>?_
 .have d:(k:Int)-1<r.body.length:=zT d;have b:k<r.body.length+1:=by omega
  refine gA D (dr (Qd r (mG p r) ((k:Int)-1) (xX p r _) Y) D D D D D D ?_);refine zJ D D (fun u=>?_) fun u=>?_
  .rw[mU j b u];refine gA D (Au (GS r ((k:Int)-1) d) ?_);exact zU D
  .refine gA D ?_;exact⟨b,lf j b u,[],zM (bi (bi (bi (bi ⟨.of_eq (Ff (by omega)),rfl,bi (bi (bi ac))⟩)))) (zO (zO (zO ⟨⟨_,rfl,.of_eq D⟩,Qs D,cq p r _ D,(zO ac)⟩)))⟩
 have d: ¬(k:Int)-1<r.body.length:=zF d;rw[lg j (by omega)];clear j B d;refine zE D D (fun q=>?_) fun q=>?_
 .exact absurd (show kw=lc from q) (by decide)
 refine gA D ?_;refine aD 0 (r.body.length+1) (QN _) (fun k=>⟨[(3,.ptr 0 0),(4,.ptr 1 0),(6,.ptr 2 0),(18,.ptr 8 0),(19,pI ((k:Int)-1)),(104,.sl 3 0 5 2),(105,pI 5),(106,pI 4)],[(0,io (.cells [.iv (cF p)])),(1,io (au r.c)),(2,io (.cells [pI 0,pI 0,pI 0])),(3,io (.row 2 (iz p r))),(8,io (.cells [pI 64,.cK (.func 170) [.iv (cv r)] []]))],9⟩) (fun k=>((gV r.body.length).take k).any (gz r)=lc) [] D
  (zW (zO (zO (zO ⟨⟨_,rfl,.of_eq D⟩,Qs D,cq p r _ D,(zO trivial)⟩)))) fun k B j=>?_
 refine zJ D D (fun d=>?_) fun d=>?_
 .have d:(k:Int)-1<r.body.length:=zT d;have b:k<r.body.length+1:=by omega
  refine gA D (zp (Qc r ((k:Int)-1) (by omega) (by omega)) ?_);refine zJ D D (fun u=>?_) fun u=>?_
  .rw[mU j b u];refine gA D (Au (GS r ((k:Int)-1) d) ?_);exact zU D
  .refine gA D ?_;exact⟨b,lf j b u,[],zM (bi (bi (bi (bi ⟨.of_eq (Ff (by omega)),rfl,bi (bi (bi ac))⟩)))) (zO (zO (zO ⟨⟨_,rfl,.of_eq D⟩,Qs D,cq p r _ D,(zO ac)⟩)))⟩
 have d: ¬(k:Int)-1<r.body.length:=zF d;rw[lg j (by omega)];clear j B d;refine zJ D D (fun q=>?_) fun q=>?_
 .exact absurd (show lc=kw from q) (by decide)
 exact zU D
section
theorem jV:prog.cellsOf 3=1:=by kernel_rfl
theorem rz:prog.cellsOf 9=1:=by kernel_rfl
theorem xV:prog.cellsOf 98=3:=by kernel_rfl
theorem Af:prog.cellsOf 143=5:=by kernel_rfl
theorem JE:prog.cellsOf 71=1:=by kernel_rfl
theorem xW:prog.cellsOf 73=2:=by kernel_rfl
theorem JD:prog.cellsOf 99=1:=by kernel_rfl
theorem nF:prog.cellsOf 101=7:=by kernel_rfl
theorem Ag:prog.cellsOf 103=10:=by kernel_rfl
theorem CQ:prog.cellsOf 74=1:=by kernel_rfl
theorem uC:prog.cellsOf 105=30:=by kernel_rfl
theorem sX:prog.cellsOf 35=2:=by kernel_rfl
theorem CP:prog.cellsOf 76=5:=by kernel_rfl
theorem JF:prog.cellsOf 47=1:=by kernel_rfl
theorem CS:prog.cellsOf 49=4:=by kernel_rfl
theorem JI:prog.cellsOf 22=1:=by kernel_rfl
theorem JH:prog.cellsOf 23=1:=by kernel_rfl
theorem JG:prog.cellsOf 25=2:=by kernel_rfl
section
variable {H:Type}
abbrev bk(d:DataW H):Nat:=Rows.uptoBulk d
theorem Bx(d:DataW H):1<=bk d:=by
 cases d with
 |lit l=>cases l<;>simp[bk,Rows.uptoBulk]
 |nil=>simp[bk,Rows.uptoBulk]
 |ptr d=>simp[bk,Rows.uptoBulk]
 |slice elems spare=>simp[bk,Rows.uptoBulk]
 |agg parts=>simp[bk,Rows.uptoBulk]
 |iface t d=>simp[bk,Rows.uptoBulk]
 |map entries=>simp[bk,Rows.uptoBulk]
 |held h=>simp[bk,Rows.uptoBulk]
theorem uI(s:ByteArray):bk (DataW.lit (H:=H) (.string s.data.toList))=s.size+1:=by
 simp[bk,Rows.uptoBulk]
theorem _root_.Go.Al.QL.sum{α:Type}{Q:α->DataW H->Prop}{l:List α}{d:DataW H}(h:QL Q l d){f:α->Nat}{c:Nat}(hf: ∀x e,Q x e->f x<=c*bk e):(l.map f).sum<=c*bk d:=by
 obtain⟨b,hd,j,y⟩:=h;have key: ∀(l:List α) (b:List (DataW H)),l.length=b.length->(∀(i:Nat) (x:α) (e:DataW H),l[i]? =io x->b[i]? =io e->Q x e)->(l.map f).sum<=c*Rows.uptoBulkAll b:=by
  intro l
  induction l with
  |nil=>intro b _ _;simp
  |cons x r ih=>
   intro b A y;cases b with
   |nil=>simp at A
   |cons e b=>
    have u:=hf x e (y 0 x e D D);have G:=ih b (by simpa using A) fun i x e F B=>y (i+1) x e (by simpa using F) (by simpa using B);simp only[Q4,Sz,Rows.uptoBulkAll,Nat.mul_add];simp only[bk]at u;omega
 have u:=key l b j y;rcases hd with⟨rfl,rfl⟩|⟨sp,rfl⟩
 .simp[Rows.uptoBulkAll]at u;omega
 .refine Rr u (Nat.mul_le_mul_left c ?_);simp only[bk,Rows.uptoBulk];omega
theorem yu{α:Type}: ∀l:List α,(l.map fun _=>1).sum=l.length
 | []=>rfl
 |x::r=>by simp only[Q4,Sz,Rf,yu r];omega
theorem _root_.Go.Al.QL.len{α:Type}{Q:α->DataW H->Prop}{l:List α}{d:DataW H}(h:QL Q l d):l.length<=bk d:=by
 have:=h.sum (f:=fun _=>1) (c:=1) fun x e _=>by have:=Bx e;omega
 have e:=yu l;omega
theorem _root_.Go.Al.QL.all{α:Type}{Q:α->DataW H->Prop}{l:List α}{d:DataW H}(h:QL Q l d): ∀x∈l,∃e,Q x e∧bk e<=bk d:=by
 intro x G;obtain⟨b,hd,u,F⟩:=h;obtain⟨i,B,rfl⟩:=RG.1 G;have j:i<b.length:=by omega
 refine⟨b[i],F i _ _ (Qy B) (Qy j),?_⟩;have key: ∀(b:List (DataW H)),∀e∈b,bk e<=Rows.uptoBulkAll b:=by
  intro b
  induction b with
  |nil=>intro e he;cases he
  |cons y r ih=>
   intro e he;simp only[Rows.uptoBulkAll];rcases QY.1 he with rfl|he
   .simp only[bk];omega
   .have:=ih e he;omega
 have A:=key b b[i] (Rz j);rcases hd with⟨rfl,rfl⟩|⟨sp,rfl⟩
 .simp at j
 .refine Rr A ?_;simp only[bk,Rows.uptoBulk];omega
end
theorem Expr.fx: ∀l:List Expr,Expr.az l=(l.map Expr.size).sum
 | []=>rfl
 |e::r=>by simp only[Expr.az,Q4,Sz,Expr.fx r]
theorem Expr.pG: ∀l:List Expr,Expr.mh l=(l.map Expr.ts).sum
 | []=>rfl
 |e::r=>by simp only[Expr.mh,Q4,Sz,Expr.pG r]
theorem Lit.fx: ∀l:List Lit,Lit.az l=(l.map Lit.size).sum
 | []=>rfl
 |e::r=>by simp only[Lit.az,Q4,Sz,Lit.fx r]
theorem Lit.pG: ∀l:List Lit,Lit.mh l=(l.map Lit.ts).sum
 | []=>rfl
 |e::r=>by simp only[Lit.mh,Q4,Sz,Lit.pG r]
section
variable {H:Type} {enc:TypeId×Value->H} {W:World} {hT:nM W} {sp:Nat->Bool} {held:Bool}
def QV(v:sB)(d:DataW H):Prop:=v.sym.size<=bk d
def QT(t:Term)(d:DataW H):Prop:=t.ts<=400*bk d
def QA(a:Atom)(d:DataW H):Prop:=a.ts<=400*bk d∧a.ad.length<=bk d
def QE(e:Expr)(d:DataW H):Prop:=e.ts<=400*bk d∧e.size<=bk d
def QP(_:Pos)(_:DataW H):Prop:=True
def Pos.c(p:Pos):List IV:=[iI p.line,iI p.yg]
def QG(g:eM)(d:DataW H):Prop:=g.var.size+g.gZ.ts+Lit.mh g.body<=400*bk d∧g.gZ.size+Lit.az g.body<=bk d
def QB(l:Lit)(d:DataW H):Prop:=l.ts<=400*bk d∧l.size<=bk d
theorem rd_val(n:Nat):Rd enc prog W hT sp held 98 sB.c QV n:=by
 intro m _ I y h;obtain⟨G,k,rfl,rfl,A,B,d⟩:=DataW.trod_struct underlying98 h
 match G,B with
 | [x0,x1,x2],_=>
  obtain⟨a,j,J,_⟩:=jA (hT:=hT) underlying3 k k (QH _) _ _ (nY d 0 D D D jV D);obtain⟨b,u,S,_⟩:=jA (hT:=hT) underlying3 k k (QH _) _ _ (nY d 1 D D D jV D);obtain⟨c,x,F,_⟩:=jm (hT:=hT) underlying9 k k (QH _) _ _ (nY d 2 D D D rz D);refine⟨⟨a,b,c⟩,j.fw (o':=1) D (u.fw (o':=2) D (x.fw (o':=3) D (.end_ (A.trans xV)))),?_⟩;simp only[QV,bk,Q4,RL,Rows.uptoBulk,Rows.uptoBulkAll];have:=uI (H:=H) c;rw[<-F]at this;simp only[bk]at this;omega
theorem AY(n:Nat):Rd enc prog W hT sp held 35 Pos.c QP n:=by
 intro m _ F y h;obtain⟨B,k,rfl,rfl,x,A,d⟩:=DataW.trod_struct underlying35 h
 match B,A with
 | [x0,x1],_=>
  obtain⟨a,j,G,_⟩:=jA (hT:=hT) underlying3 k k (QH _) _ _ (nY d 0 D D D jV D);obtain⟨b,u,I,_⟩:=jA (hT:=hT) underlying3 k k (QH _) _ _ (nY d 1 D D D jV D);exact⟨⟨a,b⟩,j.fw (o':=1) D (u.fw (o':=2) D (.end_ (x.trans sX))),ac⟩
theorem IP(n:Nat):Rd enc prog W hT sp held 143 Term.c QT n:=by
 intro m _ I y h;obtain⟨G,k,rfl,rfl,A,B,d⟩:=DataW.trod_struct underlying143 h
 match G,B with
 | [x0,x1,x2],_=>
  obtain⟨a,j,J,_⟩:=jA (hT:=hT) underlying3 k k (QH _) _ _ (nY d 0 D D D jV D);obtain⟨b,u,F,_⟩:=jm (hT:=hT) underlying9 k k (QH _) _ _ (nY d 1 D D D rz D);obtain⟨c,x,S⟩:=rd_val (hT:=hT) k k (QH _) _ _ (nY d 2 D D D xV D);refine⟨⟨a,b,c⟩,j.fw (o':=1) D (u.fw (o':=2) D (x.fw (o':=5) D (.end_ (A.trans Af)))),?_⟩;simp only[QT,Term.ts,bk,Q4,RL,Rows.uptoBulk,Rows.uptoBulkAll];have:=uI (H:=H) b;rw[<-F]at this;simp only[bk]at this;omega
theorem B5(n:Nat):Rd enc prog W hT sp held 73 Atom.c QA n:=by
 intro m _ Y y h;obtain⟨S,k,rfl,rfl,G,I,j⟩:=DataW.trod_struct underlying73 h
 match S,I with
 | [x0,x1],_=>
  obtain⟨a,x,J,_⟩:=jm (hT:=hT) underlying9 k k (QH _) _ _ (nY j 0 D D D rz D);obtain⟨b,A,u⟩:=(jz (hT:=hT) underlying71 Af (by decide) (fun _=>rfl) (IP k)).mono (Tr k) k (QH _) _ _ (nY j 1 D D D JE D);refine⟨⟨a,b⟩,x.fw (o':=1) D (A.fw (o':=2) D (.end_ (G.trans xW))),?_⟩;have d:=uI (H:=H) a;rw[<-J]at d;have B:=u.sum (f:=Term.ts) (c:=400) fun _ _ h=>h;have F:=u.len;simp only[bk]at d B F;simp only[QA,Atom.ts,bk,Q4,RL,Rows.uptoBulk,Rows.uptoBulkAll];omega
theorem sI: ∀n:Nat,Rd enc prog W hT sp held 101 Expr.c QE n
 |0=>fun m hm Y y h=>by
  obtain rfl:m=0:=by omega
  simp[DataW.trod]at h
 |n+1=>fun m hm Y y h=>by
  obtain⟨xs,k,rfl,rfl,Z,hx,j⟩:=DataW.trod_struct underlying101 h;have hs:=jz (hT:=hT) underlying99 nF (by decide) (fun _=>rfl) (sI n)
  match xs,hx with
  | [x0,x1,x2,x3,x4],_=>
   obtain⟨a,F,qa,_⟩:=jA (hT:=hT) underlying3 k k (QH _) _ _ (nY j 0 D D D jV D);obtain⟨b,G,qb,_⟩:=jm (hT:=hT) underlying9 k k (QH _) _ _ (nY j 1 D D D rz D);obtain⟨c,I,qc⟩:=rd_val (hT:=hT) k k (QH _) _ _ (nY j 2 D D D xV D);obtain⟨d,J,qd,_⟩:=jA (hT:=hT) underlying3 k k (QH _) _ _ (nY j 3 D D D jV D);obtain⟨e,S,B⟩:=hs k (by omega) _ _ (nY j 4 D D D JD D);refine⟨.mk a b c d e,F.fw (o':=1) D (G.fw (o':=2) D (I.fw (o':=5) D (J.fw (o':=6) D ((S.Bb (Jy (.mk a b c d e))).fw (o':=7) D (.end_ (Z.trans nF)))))),?_⟩;have u:=uI (H:=H) b;rw[<-qb]at u;have x:=B.sum (f:=Expr.ts) (c:=400) fun _ _ h=>h.1;have A:=B.sum (f:=Expr.size) (c:=1) fun _ _ h=>by have:=h.2;omega
   rw[<-Expr.pG]at x;rw[<-Expr.fx]at A;simp only[bk]at u x A;simp only[QE,Expr.ts,Expr.size,bk,Q4,RL,Rows.uptoBulk,Rows.uptoBulkAll];omega
theorem Mt{n:Nat}(hb:Rd enc prog W hT sp held 74 (fun l:List Lit=> [de 30 l Lit.c]) (QL QB) n):Rd enc prog W hT sp held 103 eM.c QG (n+1):=by
 intro m hm cs y h;obtain⟨xs,k,rfl,rfl,Z,hx,j⟩:=DataW.trod_struct underlying103 h
 match xs,hx with
 | [x0,x1,x2,x3],_=>
  obtain⟨a,F,qa,_⟩:=jA (hT:=hT) underlying3 k k (QH _) _ _ (nY j 0 D D D jV D);obtain⟨b,G,qb,_⟩:=jm (hT:=hT) underlying9 k k (QH _) _ _ (nY j 1 D D D rz D);obtain⟨c,I,qc⟩:=sI (hT:=hT) k k (QH _) _ _ (nY j 2 D D D nF D);obtain⟨d,J,B⟩:=hb k (by omega) _ _ (nY j 3 D D D CQ D);refine⟨⟨a,b,c,d⟩,F.fw (o':=1) D (G.fw (o':=2) D (I.fw (o':=9) D ((J.Bb (FD d)).fw (o':=10) D (.end_ (Z.trans Ag))))),?_⟩;have u:=uI (H:=H) b;rw[<-qb]at u;have x:=B.sum (f:=Lit.ts) (c:=400) fun _ _ h=>h.1;have A:=B.sum (f:=Lit.size) (c:=1) fun _ _ h=>by have:=h.2;omega
  rw[<-Lit.pG]at x;rw[<-Lit.fx]at A;obtain⟨S,Y⟩:=qc;simp only[bk]at u x A S Y;simp only[QG,bk,Q4,RL,Rows.uptoBulk,Rows.uptoBulkAll];omega
theorem E9: ∀n:Nat,Rd enc prog W hT sp held 105 Lit.c QB n
 |0=>fun m hm S y h=>by
  obtain rfl:m=0:=by omega
  simp[DataW.trod]at h
 |n+1=>fun m hm S y h=>by
  obtain⟨xs,k,rfl,rfl,hl,hx,j⟩:=DataW.trod_struct underlying105 h;have hs:=Mt (jz (hT:=hT) underlying74 uC (by decide) (fun _=>rfl) (E9 n))
  match xs,hx with
  | [x0,x1,x2,x3,x4,x5,x6],_=>
   obtain⟨a,x,qa,_⟩:=jA (hT:=hT) underlying3 k k (QH _) _ _ (nY j 0 D D D jV D);obtain⟨b,A,qb⟩:=B5 (hT:=hT) k k (QH _) _ _ (nY j 1 D D D xW D);obtain⟨c,B,qc,_⟩:=jA (hT:=hT) underlying3 k k (QH _) _ _ (nY j 2 D D D jV D);obtain⟨d,F,qd⟩:=sI (hT:=hT) k k (QH _) _ _ (nY j 3 D D D nF D);obtain⟨e,G,qe⟩:=sI (hT:=hT) k k (QH _) _ _ (nY j 4 D D D nF D);obtain⟨g,I,qg⟩:=hs k (by omega) _ _ (nY j 5 D D D Ag D);obtain⟨p,J,_⟩:=AY (hT:=hT) k k (QH _) _ _ (nY j 6 D D D sX D);refine⟨.mk a b c d e g.func g.var g.gZ g.body p,x.fw (o':=1) D (A.fw (o':=3) D (B.fw (o':=4) D (F.fw (o':=11) D (G.fw (o':=18) D (I.fw (o':=28) D (J.fw (o':=30) D (.end_ (hl.trans uC)))))))),?_⟩;obtain⟨Y,Z⟩:=qb;obtain⟨h3,h4⟩:=qd;obtain⟨h5,h6⟩:=qe;obtain⟨h7,h8⟩:=qg;have h9:=Bx x0.1;have u:=Bx x2.1;simp only[bk]at Y Z h3 h4 h5 h6 h7 h8 h9 u;simp only[QB,Lit.ts,Lit.size,bk,Q4,RL,Rows.uptoBulk,Rows.uptoBulkAll];omega
theorem IS(n:Nat):Rd enc prog W hT sp held 74 (fun l:List Lit=> [lits l]) (QL QB) n:=
 (jz (hT:=hT) underlying74 uC (by decide) (fun _=>rfl) (E9 n)).mono (Tr n)
end
end
end Go.Proofs.YtflegjieadkonaaGreatDoor
