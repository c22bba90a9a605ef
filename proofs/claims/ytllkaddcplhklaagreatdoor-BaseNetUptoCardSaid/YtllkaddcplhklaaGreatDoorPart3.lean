/-
  What the proofs of the claims need: part 3 of 5.
-/
import Derived.Test.YtllkaddcplhklaaGreatDoorPart2
import Derived.Sort.EncStr
import Derived.Sort.Grow
import Derived.Sort.Walk0
import Derived.Shelf.Sort.Plain
import Derived.Shelf.Slices.In.SortNone
import Derived.Shelf.Slices.In.SortNone2
import Derived.WalkKit
import Derived.Lib.Builder
import Derived.Lib.UnsafeStr
import Derived.Laws.Externs
import Derived.Shelf.RegionOpenPlain
import Derived.KernelRfl
import Derived.Test.YtllkaddcplhklaaGreatDoorProg
import Derived.Laws.RangeString
import Derived.Shelf.LaysM
import Derived.Shelf.Strconv.Itoa3
import Derived.Lib.ItoaLen
open And renaming intro→Pq
open Array renaming eq_empty_of_size_eq_zero→Qz,getD_eq_getD_getElem?→Pk,getElem?_append_left→P5,getElem?_eq_getElem→PU,getElem?_eq_some_iff→Qu,getElem?_modify→P4,getElem?_setIfInBounds→PR
open Bool renaming and_eq_true→Qf,and_false→RW,eq_false_iff→RT,eq_iff_iff→QN,false_and→Ri,false_eq_true→Rb,false_or→Rr,not_eq_false'→Q5,not_eq_true'→Qs,not_false→Sk,not_true→RR,or_eq_true→RB,true_and→R4,true_or→Si
open ByteArray renaming empty→Pt,size→SI
open Classical renaming byContradiction→QO
open Int renaming ofNat_eq_zero→SS,toNat_natCast→Pr
open List.Nodup renaming length_le_of_subset→QH
open List.Pairwise renaming nil→R9
open List renaming all_cons→Su,all_eq_true→P8,any_cons→SN,any_eq_false→Qm,any_eq_true→QJ,append_assoc→PK,append_nil→Qp,cons_append→QR,ext_getElem?→RF,filterMap_append→SC,filterMap_cons→SK,filter_cons→Rf,filter_eq_self→R2,find?_eq_none→Rx,findIdx?_eq_none_iff→Sm,findIdx?_eq_some_iff_getElem→R7,flatMap_cons→Qv,foldl_cons→Qg,getD_cons_succ→QM,getD_cons_zero→Rj,getD_eq_getElem?_getD→Pn,getElem?_eq_getElem→Po,getElem?_eq_some_iff→Pm,getElem?_map→Ps,getElem?_of_mem→Qd,getElem?_take→Qc,getElem_map→Q8,getElem_mem→P7,le_antisymm→Sw,length_append→Pp,length_cons→PO,length_filter_le→QK,length_map→PX,length_nil→Ra,length_pos_iff→Qy,length_singleton→Qq,length_take→QI,map_append→PH,map_cons→PB,map_map→PW,map_nil→Qe,mem_append→PI,mem_append_left→P6,mem_append_right→QU,mem_cons→Px,mem_cons_of_mem→Py,mem_cons_self→Pz,mem_filter→PZ,mem_flatMap→Sf,mem_iff_getElem?→SD,mem_map→P1,mem_of_getElem?→P0,mem_range→QQ,mem_singleton→PA,nil_append→Rk,nodup_append→QX,nodup_cons→P2,nodup_nil→Qa,not_lt→S4,not_mem_nil→Se,pairwise_cons→P3,pairwise_map→RG,perm_ext_iff_of_nodup→Q4,range→PY,sum_cons→Qt,take_append_drop→RS,take_length→Rp,take_of_length_le→PJ,take_succ_cons→QS
open Nat renaming add_assoc→Q6,add_zero→Rq,beq→PM,ble→Ry,ble_eq_true_of_le→Qj,blt→PL,le_add_left→R5,le_add_right→Sd,le_of_ble_eq_true→Pj,le_refl→Pv,le_succ→QZ,le_trans→P9,lt_or_ge→Qo,lt_succ_of_lt→QW,lt_succ_self→Rc,min_le_right→SZ,mul_one→Sq,sub_zero→R8,zero_add→PT,zero_le→PC
open Option renaming bind_some→RJ,getD_some→Qn,map_eq_some_iff→Pu,map_some→Qw
open Option.some renaming injEq→Pl
set_option maxRecDepth 100000
open Bool renaming false→kw,true→jp
open Decidable renaming decide→lc
open Inhabited renaming default→co
open Option renaming none→is,some→io
open Array renaming range→Sn
open Array renaming getElem?_map→RL
open Nat renaming mul_le_mul_right→PQ
open Nat renaming add_mul→Qr
open List renaming getElem?_append_right→PD
open Array renaming getElem?_append_right→RU
open Array renaming getElem?_toList→PS
namespace Go.Al
theorem bi{a b:PV}{c:Bool}{X:Prop}(h:X)(h1:a=b:=by rfl)(h2:c=true:=by rfl):an a b∧c=true∧X:=⟨by subst h1;exact fun _ _ _ _ h=>h,h2,h⟩
theorem bv{i n:Nat}(h:decide ((i:Int)<(n:Int))=true):i<n:=by simpa using h
theorem ci{i n:Nat}(h:decide ((i:Int)<(n:Int))=false):n≤i:=by simpa using h
end Go.Al
namespace Go.Proofs.YtllkaddcplhklaaGreatDoor
open Go Go.Al Go.Proofs.Tryz
def iB(l:Lit):List ak:=cJ l++if l.kind=4 then[l.bC] else[]
def aD(r:aw):List ak:=cH r.head++r.body.flatMap iB
theorem zm(l:Lit):(iB l).length+1<=l.size:=by
 have:=lg l;unfold iB;rw[Pp];split<;>simp<;>omega
theorem mn: ∀l:List Lit,(l.flatMap iB).length<=Lit.aB l
 | []=>by simp
 |e::r=>by
  have h1:=zm e;have b:=mn r;rw[Qv,Pp];simp only[Lit.aB];omega
theorem wg(r:aw):(aD r).length<=r.size:=by
 have h1:=mn r.body;have b:=iu r.head;unfold aD aw.size;rw[Pp];omega
def Ka(r:aw):List IV:=[iS r.head.rel,bu 5 r.head.aj Term.c,lits r.body,iI r.at_.line,iI r.at_.FT,xZ (aE (aD r))]
abbrev cq(r:aw):IV:= .jz (Ka r)
theorem c48(r:aw)(hb:r.size<=1000000000000):Pure prog 120 [ag r.c] (.iv (cq r)):=by
 unfold aw.size at hb;have B:=iu r.head;have A:=Lit.aG r.body;refine ah ab func120 Z (by decide) ntmps120 Z (by simp) Z ?_;refine gA Z (zd [1] (OK r.head (by omega)) ?_);refine gA Z ?_
 refine aJ 0 r.body.length (PC _) (fun i=>⟨[(3,.ptr 2 0),(18,.iv (lits r.body)),(19,pI r.body.length),(20,pI i)],
   [(1,io (cI (aE (cH r.head++(r.body.take i).flatMap iB)))),(2,io (.cells [pS r.head.rel,.iv (bu 5 r.head.aj Term.c),.iv (lits r.body),pI r.at_.line,pI r.at_.FT,.mp 1]))],3⟩) (fun _=>True) [] ac
  (zW (hM Z (by simp) Z (zO trivial))) fun i G _=>?_
 refine zJ Z Z (fun j=>?_) fun j=>?_
 .have j:i<r.body.length:=by simpa using j
  have hs:=bQ (f:=iB) j;have I:=Lit.dy r.body i j;have J:=mn (r.body.take i);have D:=lg (r.body.getD i co);refine gA Z (bD ab [1] (d89 (r.body.getD i co) _ (by rw[Pp];omega)) Z Z Z Z Z Z Z Z Z Z Z Z (by(repeat' (first|exact ac|exact rfl|exact an.refl _|exact an.bk (by assumption)|apply Pq))<;>first|omega|(simp only[Pr];omega)|(simp;done)|(simp;omega)) Z (by(repeat' (first|exact ac|exact rfl|exact an.refl _|exact an.bk (by assumption)|apply Pq))<;>first|omega|(simp only[Pr];omega)|(simp;done)|(simp;omega)) ?_);refine zJ Z Z (fun u=>?_) fun u=>?_
  .have u:(r.body.getD i co).kind=4:=zT u;have b:iB (r.body.getD i co)=cJ (r.body.getD i co)++ [(r.body.getD i co).bC]:=by unfold iB;rw[am u]
   rw[b]at hs;have C:=bA (cH r.head++(r.body.take i).flatMap iB++cJ (r.body.getD i co)) (r.body.getD i co).bC;have x:=fG (cH r.head++(r.body.take i).flatMap iB++cJ (r.body.getD i co)) (r.body.getD i co).bC;rw[Pp,Pp]at x;refine gA Z ⟨j,ac,[],zW (hM Z (by rw[hs,<-PK,<-PK,c5];rfl) Z (zO ac))⟩
  .have u: ¬(r.body.getD i co).kind=4:=zF u;have b:iB (r.body.getD i co)=cJ (r.body.getD i co):=by unfold iB;rw[be u,Qp]
   rw[b]at hs;refine gA Z ⟨j,ac,[],zW (hM Z (by rw[hs,<-PK]) Z (zO ac))⟩
 .have j:r.body.length<=i:=by simpa using j
  have y:r.body.take i=r.body:=PJ j;refine fk Z ac (lx (.inr Z) Z (.map 1 Z (.cells 2 _ Z (show _=List.map PV.iv (Ka r) by rw[y];rfl) (.done (.of_eq Z)))))
def aW(occ:List ak)(e:Expr):Bool:=(ck e).all fun x=>dx occ x
theorem rB{l:List ak}{j:Nat}{x:(KC.str).K×Int}(h:(aE l)[j]? =io x):x.1∈l:=
 ((dM l).2 x.1).1 (P1.2 ⟨x,P0 h,rfl⟩)
theorem all_keys{l:List ak}{vs:List Nat}(h: ∀j,j<(aE l).length->j∈vs){p:ak->Prop}(hp: ∀j∈vs,∀x,(aE l)[j]? =io x->p x.1): ∀t∈l,p t:=by
 intro t u;obtain⟨x,y,rfl⟩:=P1.1 (((dM l).2 t).2 u);obtain⟨j,b⟩:=Qd y;exact hp j (h j (Pm.1 b).1) x b
theorem d125(occ:List ak)(e:Expr)(hb:e.size<=1000000000000):bF prog 197 [.mp 0,ag e.c] [cI (aE occ)] (pB (aW occ e)) [(0,io (cI (aE occ)))] 1:=by
 refine au ab func197 Z (by decide) ntmps197 Z (by simp) ?_;refine gA Z (zq [2] (J8 e hb) ?_);refine gA Z ?_;refine eY (aE (ck e)) (fun vs=>⟨[(0,.mp 0),(12,.ptr 3 0)],[(0,io (cI (aE occ))),(3,io (.bL .str w5 (aE (ck e)) vs is))],4⟩) (fun vs=> ∀j∈vs,∀x,(aE (ck e))[j]? =io x->x.1∈occ) [] (by simp)
  (zW (zC (hI Z Z (.inl Z) Z trivial))) fun vs D=>?_
 refine fk Z ac (dq Z Z Z Z Z (by decide) (fun b=>?_) fun j x B G=>?_)
 .refine gA Z (zD [] Z (zM ⟨.of_eq (by rw[show aW occ e=jp from P8.2 fun t I=>bB.2 (all_keys b D t I)];rfl),rfl,ac⟩ (zC ac)))
 .have u:=bA occ x.1;refine zJ Z Z (fun h1=>?_) fun h1=>?_
  .have h1:dw .str (aE occ) x.1 0=0:=zT h1;have A:x.1∉occ:=qp.1 (by rw[u]at h1;omega);refine gA Z (zD [] Z (zM ⟨.of_eq (by rw[show aW occ e=kw from List.all_eq_false.2 ⟨x.1,rB B,by rw[eB.2 A];simp⟩];rfl),rfl,ac⟩ (zC ac)))
  .have h1: ¬dw .str (aE occ) x.1 0=0:=zF h1;have A:x.1∈occ:=tt.1 (by rw[u]at h1;omega);refine gA Z ?_
   exact⟨j,x,B,G,fun i hi y C=>by
    rcases Px.1 hi with rfl|hi
    .rw[B]at C;cases C;exact A
    .exact D i hi y C,[],zW (zC (hI Z Z (.inr Z) Z ac))⟩
def aq(r:aw)(lit:Int):Lit:=r.body.getD lit.toNat co
theorem Lit.jv(l:Lit):l.agg.size+2<=l.size:=by
 rw[l.size_eq];unfold fC.size Lit.agg;dsimp only;omega
theorem nP{a b:ak×Bool}(h:a=b):PV.bm [pS a.1,pB a.2]= .bm [pS b.1,pB b.2]:=by rw[h]
def jR(l:Lit)(b:List ak):ak×Bool:=
 if¬l.kind=3∨ ¬l.op=1 then(Pt,kw)
 else if l.left.kind=1∧dx b l.left.var=kw∧(l.right.kind=2∨l.right.kind=1∧dx b l.right.var=jp) then(l.left.var,jp)
 else if l.right.kind=1∧(if l.left.kind=1 then dx b l.left.var else lc (l.left.kind=2))=jp then(l.right.var,!dx b l.right.var)
 else(Pt,kw)
def bE(body:List Lit):List ak:=body.flatMap fun l=> [l.left.var,l.right.var,l.bC]
def cy(c k:List ak):Nat:=(c.filter fun x=>!dx k x).length
theorem iW: ∀body:List Lit,(bE body).length=3*body.length
 | []=>rfl
 |l::r=>by have:=iW r;simp only[bE,Qv,Pp,PO,Ra]at this ⊢;omega
theorem o7(c k:List ak):cy c k<=c.length:=QK _ _
theorem o6{v:ak}{k:List ak}: ∀{c:List ak},v∈c->v∉k->cy c (fS k v)<cy c k:=by
 have mono: ∀c:List ak,cy c (fS k v)<=cy c k:=by
  intro c
  induction c with
  |nil=>exact Pv _
  |cons x r b=>
   simp only[cy]at b ⊢;simp only[Rf];by_cases h1:x∈k
   .have:dx (fS k v) x=jp:=bB.2 (dd.2 (.inl h1));rw[this,bB.2 h1];exact b
   .simp only[eB.2 h1,Sk,if_true,PO];split<;>(try simp only[PO])<;>omega
 intro c u hk
 induction c with
 |nil=>cases u
 |cons x r b=>
  have y:=mono r;simp only[cy]at b y ⊢;simp only[Rf];by_cases j:x=v
  .subst j;have:dx (fS k x) x=jp:=bB.2 (dd.2 (.inr Z));simp[this,eB.2 hk];omega
  .have A:v∈r:=by
    rcases Px.1 u with h|h
    .exact absurd h.symm j
    .exact h
   have b:=b A;by_cases h1:x∈k
   .have:dx (fS k v) x=jp:=bB.2 (dd.2 (.inl h1));simp[this,bB.2 h1];exact b
   .have:dx (fS k v) x=kw:=eB.2 fun h=>by rcases dd.1 h with h|h;exact h1 h;exact j h
    simp[this,eB.2 h1];omega
def Cg(k:List ak)(l:Lit):List ak:=if l.kind=1 then mQ k (px l.atom) else k
theorem vw{body:List Lit}{l:Lit}(h:l∈body){v:ak}(b:v∈ [l.left.var,l.right.var,l.bC]):v∈bE body:=Sf.2 ⟨l,h,b⟩
def fw(may:Expr->Bool)(occ:List ak)(l:Lit):ak×Bool:=
 if¬l.kind=3∨ ¬l.op=1 then(Pt,kw)
 else if l.left.kind=1∧dx occ l.left.var=kw∧may l.right=jp then(l.left.var,jp)
 else if l.right.kind=1∧dx occ l.right.var=kw∧may l.left=jp then(l.right.var,jp)
 else(Pt,kw)
theorem b5{occ:List ak}{s:ak}:dx occ s=!lc (dw .str (aE occ) s 0=0):=by
 rw[bA];by_cases h:s∈occ
 .have:=tt.2 h;rw[bB.2 h];simp;omega
 .rw[eB.2 h,qp.2 h];rfl
def ch(occ:List ak)(e:Expr):Bool:=lc (e.kind=2)||(lc (e.kind=1)&&dx occ e.var)
theorem ma{a b:Bool}(h:a=b):pB a=pB b:=by rw[h]
theorem d76(occ:List ak)(e:Expr)(hb:e.size<=1000000000000):bF prog 86 [ag e.c,.ptr 1 0] [cI (aE occ),.cells [.mp 0]] (pB (ch occ e)) [(0,io (cI (aE occ))),(1,io (.cells [.mp 0]))] 2:=by
 have b:=bA occ e.var;have j:=b5 (occ:=occ) (s:=e.var);refine au ab func86 Z (by decide) ntmps86 Z (by simp) ?_
 repeat' (first
  |(refine gA Z (zI (fun _=>?_) (fun _=>?_)))
  |fail)
 all_goals first
  |(refine gA Z (bd [] (.inr Z) Z (zM ⟨.of_eq (ma (a:=jp) ?_),rfl,ac⟩ (zC (zO ac))));simp_all [ch];done)
  |(refine gA Z (bd [] (.inr Z) Z (zM ⟨.of_eq (ma (a:=kw) ?_),rfl,ac⟩ (zC (zO ac))));simp_all [ch];done)
  |(refine gA Z (bd [] (.inr Z) Z (zM ⟨.of_eq (ma (a:=lc (dw .str (aE occ) e.var 0>0)) ?_),rfl,ac⟩ (zC (zO ac))));rw[ch,j,b];simp_all;by_cases u:oz occ e.var=0<;>simp[u]<;>omega)
theorem c77(a:fC):Pure prog 87 [ag a.c] (pB kw):=by
 refine ah ab func87 Z (by decide) ntmps87 Z (by simp) Z ?_;exact zU Z
theorem OY(a:fC):Pure prog 199 [ag a.c] (pB kw):=by
 refine ah ab func199 Z (by decide) ntmps199 Z (by simp) Z ?_;exact zU Z
def mf(out occ:List ak)(a:fC):Bool:=(bb a).all fun x=>lc (x=a.var)||(!dx out x||dx occ x)
theorem d126(r:aw)(occ:List ak)(a:fC)(hb:a.size<=1000000000000):bF prog 198 [ag a.c,.ptr 1 0,.ptr 2 0] [cI (aE occ),.cells [.iv (cq r)],.cells [.mp 0]] (pB (mf (aD r) occ a)) [(0,io (cI (aE occ))),(1,io (.cells [.iv (cq r)])),(2,io (.cells [.mp 0]))] 3:=by
 refine au ab func198 Z (by decide) ntmps198 Z (by simp) ?_;refine gA Z (zq [] (d127 a hb) ?_);refine gA Z ?_;refine eY (aE (bb a)) (fun vs=>⟨[(1,.ptr 1 0),(2,.ptr 2 0),(3,.ptr 3 0),(8,.ptr 5 0)],[(0,io (cI (aE occ))),(1,io (.cells [.iv (cq r)])),(2,io (.cells [.mp 0])),(3,io (az a.c)),(5,io (.bL .str w5 (aE (bb a)) vs is))],6⟩) (fun vs=> ∀j∈vs,∀x,(aE (bb a))[j]? =io x->(lc (x.1=a.var)||(!dx (aD r) x.1||dx occ x.1))=jp) [] (by simp)
  (zW (zC ⟨⟨_,rfl,.of_eq Z⟩,Pj Z,rfl,⟨_,rfl,.of_eq Z⟩,Pj Z,rfl,zK (hI Z Z (.inl Z) Z trivial)⟩)) fun vs G=>?_
 refine fk Z ac (dq Z Z Z Z Z (by decide) (fun b=>?_) fun j x u A=>?_)
 .refine gA Z (zD [] Z (zM ⟨.of_eq (ma (a:=jp) (P8.2 fun t I=>all_keys (p:=fun t=>(lc (t=a.var)||(!dx (aD r) t||dx occ t))=jp) b G t I).symm),rfl,ac⟩ (zC ⟨⟨_,rfl,.of_eq Z⟩,Pj Z,rfl,⟨_,rfl,.of_eq Z⟩,Pj Z,rfl,ac⟩)))
 .have more:(lc (x.1=a.var)||(!dx (aD r) x.1||dx occ x.1))=jp-> ∀i∈j::vs,∀x,(aE (bb a))[i]? =io x->(lc (x.1=a.var)||(!dx (aD r) x.1||dx occ x.1))=jp:=fun h i hi y B=>by
   rcases Px.1 hi with rfl|hi
   .rw[u]at B;cases B;exact h
   .exact G i hi y B
  have C:=b5 (occ:=aD r) (s:=x.1);have D:=b5 (occ:=occ) (s:=x.1);have J:=bA (aD r) x.1;have R:=bA occ x.1;refine zJ Z Z (fun g1=>?_) fun g1=>?_
  .have g1:lc (x.1=a.var)=kw:=by simpa using g1
   refine zJ Z Z (fun g2=>?_) fun g2=>?_
   .have g2:dx (aD r) x.1=jp:=by
     have:=zT g2;rw[C];simp;omega
    refine zJ Z Z (fun g3=>?_) fun g3=>?_
    .have g3:dx occ x.1=kw:=by rw[D,g3];rfl
     refine gA Z (zD [] Z (zM ⟨.of_eq (ma (a:=kw) (List.all_eq_false.2 ⟨x.1,rB u,by rw[g1,g2,g3];simp⟩).symm),rfl,ac⟩ (zC ⟨⟨_,rfl,.of_eq Z⟩,Pj Z,rfl,⟨_,rfl,.of_eq Z⟩,Pj Z,rfl,ac⟩)))
    .have g3:dx occ x.1=jp:=by rw[D,g3];rfl
     refine gA Z ⟨j,x,u,A,more (by rw[g3];simp),[],zW (zC ⟨⟨_,rfl,.of_eq Z⟩,Pj Z,rfl,⟨_,rfl,.of_eq Z⟩,Pj Z,rfl,zK (hI Z Z (.inr Z) Z ac)⟩)⟩
   .have g2:dx (aD r) x.1=kw:=by
     have:=zF g2;rw[C];simp;omega
    refine gA Z ⟨j,x,u,A,more (by rw[g2];simp),[],zW (zC ⟨⟨_,rfl,.of_eq Z⟩,Pj Z,rfl,⟨_,rfl,.of_eq Z⟩,Pj Z,rfl,zK (hI Z Z (.inr Z) Z ac)⟩)⟩
  .have g1:lc (x.1=a.var)=jp:=by simpa using g1
   refine gA Z ⟨j,x,u,A,more (by rw[g1];simp),[],zW (zC ⟨⟨_,rfl,.of_eq Z⟩,Pj Z,rfl,⟨_,rfl,.of_eq Z⟩,Pj Z,rfl,zK (hI Z Z (.inr Z) Z ac)⟩)⟩
def kX(may:Expr->Bool)(more:fC->Bool)(occ:List ak)(l:Lit):Option ak:=
 if(fw may occ l).2=jp then io (fw may occ l).1 else if l.kind=4∧dx occ l.bC=kw∧more l.agg=jp then io l.bC else is
def bS(may:Expr->Bool)(more:fC->Bool)(occ:List ak):List Lit->Option ak
 | []=>is
 |l::r=>match kX may more occ l with
  |some v=>io v
  |none=>bS may more occ r
def cY(may:List ak->Expr->Bool)(more:List ak->fC->Bool)(body:List Lit):Nat->List ak->List ak
 |0,occ=>occ
 |n+1,occ=>match bS (may occ) (more occ) occ body with
  |some v=>cY may more body n (occ++ [v])
  |none=>occ
def bh(l:Lit):List ak:=if l.kind=1 then cH l.atom else[]
def bT(may:List ak->Expr->Bool)(more:List ak->fC->Bool)(body:List Lit)(occ:List ak):List ak:=cY may more body (3*body.length+1) (occ++body.flatMap bh)
theorem dY{may:List ak->Expr->Bool}{more:List ak->fC->Bool}{body:List Lit}{n:Nat}{occ:List ak}{v:ak}(h:bS (may occ) (more occ) occ body=io v):cY may more body (n+1) occ=cY may more body n (occ++ [v]):=by
 simp only[cY,h]
theorem dZ{may:List ak->Expr->Bool}{more:List ak->fC->Bool}{body:List Lit}{n:Nat}{occ:List ak}(h:bS (may occ) (more occ) occ body=is):cY may more body (n+1) occ=occ:=by
 simp only[cY,h]
theorem j4{may:Expr->Bool}{more:fC->Bool}{occ:List ak}: ∀{l m:List Lit},bS may more occ l=is->bS may more occ (l++m)=bS may more occ m
 | [],_,_=>rfl
 |x::r,m,h=>by
  simp only[bS]at h;split at h
  .cases h
  .rename_i h1;simp only[QR,bS,h1];exact j4 h
theorem dr{may:Expr->Bool}{more:fC->Bool}{occ:List ak}{l:List Lit}{i:Nat}(h:bS may more occ (l.take i)=is)(hi:i<l.length)(b:kX may more occ (l.getD i co)=is):bS may more occ (l.take (i+1))=is:=by
 rw[ct hi,j4 h];simp only[bS,b]
theorem ow{may:Expr->Bool}{more:fC->Bool}{occ:List ak}{l:List Lit}{i:Nat}{v:ak}(h:bS may more occ (l.take i)=is)(hi:i<l.length)(b:kX may more occ (l.getD i co)=io v):bS may more occ l=io v:=by
 have e:l=l.take i++(l.getD i co::l.drop (i+1)):=by
  rw[Pn,Po hi,Qn,List.getElem_cons_drop,RS]
 rw[e,j4 h];simp only[bS,b]
theorem sQ{may:Expr->Bool}{more:fC->Bool}{occ:List ak}{l:Lit}{v:ak}(h:kX may more occ l=io v):v∈ [l.left.var,l.right.var,l.bC]∧v∉occ:=by
 unfold kX at h;split at h
 .rename_i h1;simp only[Pl]at h;subst h;unfold fw at h1 ⊢;split at h1
  .cases h1
  .rename_i u;rw[be u];split at h1
   .rename_i b;rw[am b];exact⟨by simp,eB.1 b.2.1⟩
   .rename_i b;rw[be b];split at h1
    .rename_i j;rw[am j];exact⟨by simp,eB.1 j.2.1⟩
    .cases h1
 .split at h
  .rename_i b;simp only[Pl]at h;subst h;exact⟨by simp,eB.1 b.2.1⟩
  .cases h
theorem jm{may:Expr->Bool}{more:fC->Bool}{occ:List ak}{v:ak}: ∀{l:List Lit},bS may more occ l=io v->v∈bE l∧v∉occ
 | [],h=>by cases h
 |x::r,h=>by
  simp only[bS]at h;split at h
  .rename_i w j;simp only[Pl]at h;subst h;obtain⟨h1,b⟩:=sQ j;exact⟨vw Pz h1,b⟩
  .obtain⟨h1,b⟩:=jm h;refine⟨?_,b⟩;simp only[bE,Qv,PI]at h1 ⊢;exact .inr h1
theorem eT: ∀l:List Lit,(l.flatMap bh).length<=Lit.aB l
 | []=>by simp
 |e::r=>by
  have b:=eT r;have j:(bh e).length<=e.size:=by
   have:=iu e.atom;have:=e.size_eq;unfold bh;split
   .omega
   .simp
  rw[Qv,Pp];simp only[Lit.aB];omega
theorem NY(occ:List ak)(l:Lit)(hb:l.size<=100000000000):bF prog 136 [ag l.c,.b7 (.func 197) [.mp 0] [],.mp 0] [cI (aE occ)] (.bm [pS (fw (aW occ) occ l).1,pB (fw (aW occ) occ l).2]) [(0,io (cI (aE occ)))] 1:=by
 have y:=l.size_eq;have u:=bA occ l.left.var;have x:=bA occ l.right.var;refine au ab func136 Z (by decide) ntmps136 Z (by simp) ?_;refine zE Z Z (fun h1=>?_) fun h1=>?_
 .have h1: ¬l.kind=3:=by simpa using h1
  refine gA Z (zD [] Z (zM ⟨.of_eq (nP (a:=(Pt,kw)) (by rw[fw,am (.inl h1)])),rfl,ac⟩ (zC ac)))
 have h1:l.kind=3:=by simpa using h1
 refine zJ Z Z (fun b=>?_) fun b=>?_
 .have b: ¬l.op=1:=by simpa using b
  refine gA Z (zD [] Z (zM ⟨.of_eq (nP (a:=(Pt,kw)) (by rw[fw,am (.inr b)])),rfl,ac⟩ (zC ac)))
 have b:l.op=1:=by simpa using b
 have j:fw (aW occ) occ l=if l.left.kind=1∧dx occ l.left.var=kw∧(aW occ) l.right=jp then(l.left.var,jp) else if l.right.kind=1∧dx occ l.right.var=kw∧(aW occ) l.left=jp then(l.right.var,jp) else(Pt,kw):=by
  rw[fw,be (by simp[h1,b])]
 repeat' (first
  |(refine gA Z (zI (fun _=>?_) (fun _=>?_)))
  |(refine gA Z (bx [0] (d125 occ l.left (by omega)) Z Z Z Z Z Z Z Z ?_))
  |(refine gA Z (bx [0] (d125 occ l.right (by omega)) Z Z Z Z Z Z Z Z ?_))
  |fail)
 all_goals first
  |(refine gA Z (bd [] (.inr Z) Z (zM ⟨.of_eq (nP (a:=(Pt,kw)) ?_),rfl,ac⟩ (zC ac)));rw[j];simp only[b5] at*;simp_all;done)
  |(refine gA Z (bd [] (.inr Z) Z (zM ⟨.of_eq (nP (a:=(l.left.var,jp)) ?_),rfl,ac⟩ (zC ac)));rw[j];simp only[b5] at*;simp_all;done)
  |(refine gA Z (bd [] (.inr Z) Z (zM ⟨.of_eq (nP (a:=(l.right.var,jp)) ?_),rfl,ac⟩ (zC ac)));rw[j];simp only[b5] at*;simp_all;done)
  |(exfalso;simp_all;done)
theorem ON(occ:List ak)(body:List Lit)(hb:occ.length+8*Lit.aB body<=100000000000):bF prog 85 [.iv (lits body),.mp 0,.b7 (.func 197) [.mp 0] [],.b7 (.func 199) [] []] [cI (aE occ)] (.bm []) [(0,io (cI (aE (bT (fun occ=>aW occ) (fun occ=>fun _=>kw) body occ))))] 1:=by
 have f0:=Lit.aG body;have k0:=eT body;have g0:=iW body;have j0:=o7 (bE body) (occ++body.flatMap bh);refine au ab func85 Z (by decide) ntmps85 Z (by simp) ?_;refine gA Z ?_;refine aJ 0 body.length (PC _) (fun i=>⟨[(0,.iv (lits body)),(1,.mp 0),(2,.b7 (.func 197) [.mp 0] []),(3,.b7 (.func 199) [] []),(14,.iv (lits body)),(15,pI body.length),(16,pI i)],[(0,io (cI (aE (occ++(body.take i).flatMap bh))))],1⟩) (fun _=>True) [] ac
  (zW (hM Z (by simp) Z trivial)) fun i hi _=>?_
 refine zJ Z Z (fun h1=>?_) fun h1=>?_
 .have h1:i<body.length:=by simpa using h1
  have hs:=bQ (f:=bh) h1;have hn:=Lit.dy body i h1;have hv:=eT (body.take i);have n0:=(body.getD i co).size_eq;refine zJ Z Z (fun u=>?_) fun u=>?_
  .have u:(body.getD i co).kind=1:=by simpa using u
   rw[show bh (body.getD i co)=_ from am u]at hs;refine gA Z (zq [0] (d88 (occ++(body.take i).flatMap bh) (body.getD i co).atom (by rw[Pp];omega)) ?_);refine gA Z ⟨h1,ac,[],zW (hM Z (by rw[hs,PK]) Z ac)⟩
  .have u: ¬(body.getD i co).kind=1:=by simpa using u
   rw[show bh (body.getD i co)=_ from be u,Qp]at hs;refine gA Z ⟨h1,ac,[],zW (hM Z (by rw[hs]) Z ac)⟩
 have h1:body.length<=i:=by simpa using h1
 have e0:body.take i=body:=PJ h1;rw[e0];refine gA Z ?_;refine gu (σ:={x:List ak×Nat//bT (fun occ=>aW occ) (fun occ=>fun _=>kw) body occ=cY (fun occ=>aW occ) (fun occ=>fun _=>kw) body (x.2+1) x.1∧cy (bE body) x.1<=x.2∧x.1.length+cy (bE body) x.1<=(occ++body.flatMap bh).length+cy (bE body) (occ++body.flatMap bh)})
  (fun x=>⟨[(0,.iv (lits body)),(1,.mp 0),(2,.b7 (.func 197) [.mp 0] []),(3,.b7 (.func 199) [] [])],[(0,io (cI (aE x.1.1)))],1⟩) (fun x=>cy (bE body) x.1.1)
  ⟨(occ++body.flatMap bh,3*body.length),rfl,by dsimp only;omega,Pv _⟩ [] (zW (zC trivial)) ?_
 rintro⟨⟨ok,f⟩,hx1,hx2,hx3⟩;dsimp only at hx1 hx2 hx3 ⊢;rw[Pp]at hx3;refine gA Z ?_;refine aJ 0 body.length (PC _) (fun i=>⟨[(0,.iv (lits body)),(1,.mp 0),(2,.b7 (.func 197) [.mp 0] []),(3,.b7 (.func 199) [] []),(28,.iv (lits body)),(29,pI body.length),(30,pI i)],[(0,io (cI (aE ok)))],1⟩) (fun i=>bS ((fun occ=>aW occ) ok) ((fun occ=>fun _=>kw) ok) ok (body.take i)=is) [] Z
  (zW (zC trivial)) fun i hi C=>?_
 refine zJ Z Z (fun b=>?_) fun b=>?_
 .have b:i<body.length:=by simpa using b
  have m0:=Lit.bU body i b;have d0:=(body.getD i co).jv;have j: ∀v,kX ((fun occ=>aW occ) ok) ((fun occ=>fun _=>kw) ok) ok (body.getD i co)=io v->bT (fun occ=>aW occ) (fun occ=>fun _=>kw) body occ=cY (fun occ=>aW occ) (fun occ=>fun _=>kw) body (f-1+1) (ok++ [v])∧cy (bE body) (ok++ [v])<=f-1∧
    (ok++ [v]).length+cy (bE body) (ok++ [v])<=(occ++body.flatMap bh).length+cy (bE body) (occ++body.flatMap bh)∧cy (bE body) (ok++ [v])<cy (bE body) ok:=by
   intro v hv;have Y:=ow C b hv;obtain⟨g1,g2⟩:=jm Y;have i0:=o6 g1 g2;have c0:cy (bE body) (ok++ [v])=cy (bE body) (fS ok v):=by
    unfold cy;congr 2
    funext x
    congr 1;rw[QN,bB,bB,dd,PI,PA]
   have I:f-1+1=f:=by omega
   refine⟨?_,by omega,?_,by omega⟩
   .rw[hx1,dY Y,I]
   .rw[Pp,Pp,Qq];omega
  have a0:=bA ok (fw (aW ok) ok (body.getD i co)).1;have J:=fG ok (fw (aW ok) ok (body.getD i co)).1;have b0:=bA ok (body.getD i co).bC;have R:=fG ok (body.getD i co).bC;refine gA Z (zq [0] (NY ok (body.getD i co) (by omega)) ?_);refine zJ Z Z (fun B=>?_) fun B=>?_
  .obtain⟨g1,g2,g3,g4⟩:=j _ (am B);refine gA Z ⟨⟨(_,f-1),g1,g2,g3⟩,[],g4,zW (hM Z (by dsimp only;rw[c5];rfl) Z ac)⟩
  .refine zJ Z Z (fun y=>?_) fun y=>?_
   .have y:(body.getD i co).kind=4:=by simpa using y
    refine zJ Z Z (fun A=>?_) fun A=>?_
    .have A:dx ok (body.getD i co).bC=kw:=by rw[b5];simpa using A
     refine gA Z (zp (OY (body.getD i co).agg) ?_);refine zJ Z Z (fun G=>?_) fun G=>?_
     .obtain⟨g1,g2,g3,g4⟩:=j _ ((be (by rw[B];simp)).trans (am ⟨y,A,G⟩));refine gA Z ⟨⟨(_,f-1),g1,g2,g3⟩,[],g4,zW (hM Z (by dsimp only;rw[c5];rfl) Z ac)⟩
     .refine gA Z ?_;exact⟨b,dr C b ((be (by rw[B];simp)).trans (be (fun h=>nomatch (h.2.2.symm.trans G)))),[],zW (zC ac)⟩
    .have A:dx ok (body.getD i co).bC=jp:=by rw[b5];simpa using A
     refine gA Z ⟨b,dr C b ((be (by rw[B];simp)).trans (be (by rw[A];simp))),[],zW (zC ac)⟩
   .have y: ¬(body.getD i co).kind=4:=by simpa using y
    refine gA Z ⟨b,dr C b ((be (by rw[B];simp)).trans (be (fun h=>y h.1))),[],zW (zC ac)⟩
 .have b:body.length<=i:=by simpa using b
  rw[PJ b]at C;have D:bT (fun occ=>aW occ) (fun occ=>fun _=>kw) body occ=ok:=by rw[hx1,dZ C]
  refine gA Z (zD [] Z (zW (hM Z (by rw[D]) Z ac)))
theorem NX(occ:List ak)(l:Lit)(hb:l.size<=100000000000):bF prog 136 [ag l.c,.b7 (.func 86) [] [.ptr 1 0],.mp 0] [cI (aE occ),.cells [.mp 0]] (.bm [pS (fw (ch occ) occ l).1,pB (fw (ch occ) occ l).2]) [(0,io (cI (aE occ))),(1,io (.cells [.mp 0]))] 2:=by
 have y:=l.size_eq;have u:=bA occ l.left.var;have x:=bA occ l.right.var;refine au ab func136 Z (by decide) ntmps136 Z (by simp) ?_;refine zE Z Z (fun h1=>?_) fun h1=>?_
 .have h1: ¬l.kind=3:=by simpa using h1
  refine gA Z (zD [] Z (zM ⟨.of_eq (nP (a:=(Pt,kw)) (by rw[fw,am (.inl h1)])),rfl,ac⟩ (zC (zO ac))))
 have h1:l.kind=3:=by simpa using h1
 refine zJ Z Z (fun b=>?_) fun b=>?_
 .have b: ¬l.op=1:=by simpa using b
  refine gA Z (zD [] Z (zM ⟨.of_eq (nP (a:=(Pt,kw)) (by rw[fw,am (.inr b)])),rfl,ac⟩ (zC (zO ac))))
 have b:l.op=1:=by simpa using b
 have j:fw (ch occ) occ l=if l.left.kind=1∧dx occ l.left.var=kw∧(ch occ) l.right=jp then(l.left.var,jp) else if l.right.kind=1∧dx occ l.right.var=kw∧(ch occ) l.left=jp then(l.right.var,jp) else(Pt,kw):=by
  rw[fw,be (by simp[h1,b])]
 repeat' (first
  |(refine gA Z (zI (fun _=>?_) (fun _=>?_)))
  |(refine gA Z (bx [0,1] (d76 occ l.left (by omega)) Z Z Z Z Z Z Z Z ?_))
  |(refine gA Z (bx [0,1] (d76 occ l.right (by omega)) Z Z Z Z Z Z Z Z ?_))
  |fail)
 all_goals first
  |(refine gA Z (bd [] (.inr Z) Z (zM ⟨.of_eq (nP (a:=(Pt,kw)) ?_),rfl,ac⟩ (zC (zO ac))));rw[j];simp only[b5] at*;simp_all;done)
  |(refine gA Z (bd [] (.inr Z) Z (zM ⟨.of_eq (nP (a:=(l.left.var,jp)) ?_),rfl,ac⟩ (zC (zO ac))));rw[j];simp only[b5] at*;simp_all;done)
  |(refine gA Z (bd [] (.inr Z) Z (zM ⟨.of_eq (nP (a:=(l.right.var,jp)) ?_),rfl,ac⟩ (zC (zO ac))));rw[j];simp only[b5] at*;simp_all;done)
  |(exfalso;simp_all;done)
theorem OM(occ:List ak)(body:List Lit)(hb:occ.length+8*Lit.aB body<=100000000000):bF prog 85 [.iv (lits body),.mp 0,.b7 (.func 86) [] [.ptr 1 0],.b7 (.func 87) [] []] [cI (aE occ),.cells [.mp 0]] (.bm []) [(0,io (cI (aE (bT (fun occ=>ch occ) (fun occ=>fun _=>kw) body occ)))),(1,io (.cells [.mp 0]))] 2:=by
 have f0:=Lit.aG body;have k0:=eT body;have g0:=iW body;have j0:=o7 (bE body) (occ++body.flatMap bh);refine au ab func85 Z (by decide) ntmps85 Z (by simp) ?_;refine gA Z ?_;refine aJ 0 body.length (PC _) (fun i=>⟨[(0,.iv (lits body)),(1,.mp 0),(2,.b7 (.func 86) [] [.ptr 1 0]),(3,.b7 (.func 87) [] []),(14,.iv (lits body)),(15,pI body.length),(16,pI i)],[(0,io (cI (aE (occ++(body.take i).flatMap bh)))),(1,io (.cells [.mp 0]))],2⟩) (fun _=>True) [] ac
  (zW (hM Z (by simp) Z (zO trivial))) fun i hi _=>?_
 refine zJ Z Z (fun h1=>?_) fun h1=>?_
 .have h1:i<body.length:=by simpa using h1
  have hs:=bQ (f:=bh) h1;have hn:=Lit.dy body i h1;have hv:=eT (body.take i);have n0:=(body.getD i co).size_eq;refine zJ Z Z (fun u=>?_) fun u=>?_
  .have u:(body.getD i co).kind=1:=by simpa using u
   rw[show bh (body.getD i co)=_ from am u]at hs;refine gA Z (zq [0] (d88 (occ++(body.take i).flatMap bh) (body.getD i co).atom (by rw[Pp];omega)) ?_);refine gA Z ⟨h1,ac,[],zW (hM Z (by rw[hs,PK]) Z (zO ac))⟩
  .have u: ¬(body.getD i co).kind=1:=by simpa using u
   rw[show bh (body.getD i co)=_ from be u,Qp]at hs;refine gA Z ⟨h1,ac,[],zW (hM Z (by rw[hs]) Z (zO ac))⟩
 have h1:body.length<=i:=by simpa using h1
 have e0:body.take i=body:=PJ h1;rw[e0];refine gA Z ?_;refine gu (σ:={x:List ak×Nat//bT (fun occ=>ch occ) (fun occ=>fun _=>kw) body occ=cY (fun occ=>ch occ) (fun occ=>fun _=>kw) body (x.2+1) x.1∧cy (bE body) x.1<=x.2∧x.1.length+cy (bE body) x.1<=(occ++body.flatMap bh).length+cy (bE body) (occ++body.flatMap bh)})
  (fun x=>⟨[(0,.iv (lits body)),(1,.mp 0),(2,.b7 (.func 86) [] [.ptr 1 0]),(3,.b7 (.func 87) [] [])],[(0,io (cI (aE x.1.1))),(1,io (.cells [.mp 0]))],2⟩) (fun x=>cy (bE body) x.1.1)
  ⟨(occ++body.flatMap bh,3*body.length),rfl,by dsimp only;omega,Pv _⟩ [] (zW (zC (zO trivial))) ?_
 rintro⟨⟨ok,f⟩,hx1,hx2,hx3⟩;dsimp only at hx1 hx2 hx3 ⊢;rw[Pp]at hx3;refine gA Z ?_;refine aJ 0 body.length (PC _) (fun i=>⟨[(0,.iv (lits body)),(1,.mp 0),(2,.b7 (.func 86) [] [.ptr 1 0]),(3,.b7 (.func 87) [] []),(28,.iv (lits body)),(29,pI body.length),(30,pI i)],[(0,io (cI (aE ok))),(1,io (.cells [.mp 0]))],2⟩) (fun i=>bS ((fun occ=>ch occ) ok) ((fun occ=>fun _=>kw) ok) ok (body.take i)=is) [] Z
  (zW (zC (zO trivial))) fun i hi C=>?_
 refine zJ Z Z (fun b=>?_) fun b=>?_
 .have b:i<body.length:=by simpa using b
  have m0:=Lit.bU body i b;have d0:=(body.getD i co).jv;have j: ∀v,kX ((fun occ=>ch occ) ok) ((fun occ=>fun _=>kw) ok) ok (body.getD i co)=io v->bT (fun occ=>ch occ) (fun occ=>fun _=>kw) body occ=cY (fun occ=>ch occ) (fun occ=>fun _=>kw) body (f-1+1) (ok++ [v])∧cy (bE body) (ok++ [v])<=f-1∧
    (ok++ [v]).length+cy (bE body) (ok++ [v])<=(occ++body.flatMap bh).length+cy (bE body) (occ++body.flatMap bh)∧cy (bE body) (ok++ [v])<cy (bE body) ok:=by
   intro v hv;have Y:=ow C b hv;obtain⟨g1,g2⟩:=jm Y;have i0:=o6 g1 g2;have c0:cy (bE body) (ok++ [v])=cy (bE body) (fS ok v):=by
    unfold cy;congr 2
    funext x
    congr 1;rw[QN,bB,bB,dd,PI,PA]
   have I:f-1+1=f:=by omega
   refine⟨?_,by omega,?_,by omega⟩
   .rw[hx1,dY Y,I]
   .rw[Pp,Pp,Qq];omega
  have a0:=bA ok (fw (ch ok) ok (body.getD i co)).1;have J:=fG ok (fw (ch ok) ok (body.getD i co)).1;have b0:=bA ok (body.getD i co).bC;have R:=fG ok (body.getD i co).bC;refine gA Z (zq [0,1] (NX ok (body.getD i co) (by omega)) ?_);refine zJ Z Z (fun B=>?_) fun B=>?_
  .obtain⟨g1,g2,g3,g4⟩:=j _ (am B);refine gA Z ⟨⟨(_,f-1),g1,g2,g3⟩,[],g4,zW (hM Z (by dsimp only;rw[c5];rfl) Z (zO ac))⟩
  .refine zJ Z Z (fun y=>?_) fun y=>?_
   .have y:(body.getD i co).kind=4:=by simpa using y
    refine zJ Z Z (fun A=>?_) fun A=>?_
    .have A:dx ok (body.getD i co).bC=kw:=by rw[b5];simpa using A
     refine gA Z (zp (c77 (body.getD i co).agg) ?_);refine zJ Z Z (fun G=>?_) fun G=>?_
     .obtain⟨g1,g2,g3,g4⟩:=j _ ((be (by rw[B];simp)).trans (am ⟨y,A,G⟩));refine gA Z ⟨⟨(_,f-1),g1,g2,g3⟩,[],g4,zW (hM Z (by dsimp only;rw[c5];rfl) Z (zO ac))⟩
     .refine gA Z ?_;exact⟨b,dr C b ((be (by rw[B];simp)).trans (be (fun h=>nomatch (h.2.2.symm.trans G)))),[],zW (zC (zO ac))⟩
    .have A:dx ok (body.getD i co).bC=jp:=by rw[b5];simpa using A
     refine gA Z ⟨b,dr C b ((be (by rw[B];simp)).trans (be (by rw[A];simp))),[],zW (zC (zO ac))⟩
   .have y: ¬(body.getD i co).kind=4:=by simpa using y
    refine gA Z ⟨b,dr C b ((be (by rw[B];simp)).trans (be (fun h=>y h.1))),[],zW (zC (zO ac))⟩
 .have b:body.length<=i:=by simpa using b
  rw[PJ b]at C;have D:bT (fun occ=>ch occ) (fun occ=>fun _=>kw) body occ=ok:=by rw[hx1,dZ C]
  refine gA Z (zD [] Z (zW (hM Z (by rw[D]) Z (zO ac))))
theorem NW(r:aw)(occ:List ak)(l:Lit)(hb:l.size<=100000000000):bF prog 136 [ag l.c,.b7 (.func 197) [.mp 0] [],.mp 0] [cI (aE occ),.cells [.iv (cq r)],.cells [.mp 0]] (.bm [pS (fw (aW occ) occ l).1,pB (fw (aW occ) occ l).2]) [(0,io (cI (aE occ))),(1,io (.cells [.iv (cq r)])),(2,io (.cells [.mp 0]))] 3:=by
 have y:=l.size_eq;have u:=bA occ l.left.var;have x:=bA occ l.right.var;refine au ab func136 Z (by decide) ntmps136 Z (by simp) ?_;refine zE Z Z (fun h1=>?_) fun h1=>?_
 .have h1: ¬l.kind=3:=by simpa using h1
  refine gA Z (zD [] Z (zM ⟨.of_eq (nP (a:=(Pt,kw)) (by rw[fw,am (.inl h1)])),rfl,ac⟩ (zC ⟨⟨_,rfl,.of_eq Z⟩,Pj Z,rfl,⟨_,rfl,.of_eq Z⟩,Pj Z,rfl,ac⟩)))
 have h1:l.kind=3:=by simpa using h1
 refine zJ Z Z (fun b=>?_) fun b=>?_
 .have b: ¬l.op=1:=by simpa using b
  refine gA Z (zD [] Z (zM ⟨.of_eq (nP (a:=(Pt,kw)) (by rw[fw,am (.inr b)])),rfl,ac⟩ (zC ⟨⟨_,rfl,.of_eq Z⟩,Pj Z,rfl,⟨_,rfl,.of_eq Z⟩,Pj Z,rfl,ac⟩)))
 have b:l.op=1:=by simpa using b
 have j:fw (aW occ) occ l=if l.left.kind=1∧dx occ l.left.var=kw∧(aW occ) l.right=jp then(l.left.var,jp) else if l.right.kind=1∧dx occ l.right.var=kw∧(aW occ) l.left=jp then(l.right.var,jp) else(Pt,kw):=by
  rw[fw,be (by simp[h1,b])]
 repeat' (first
  |(refine gA Z (zI (fun _=>?_) (fun _=>?_)))
  |(refine gA Z (bx [0] (d125 occ l.left (by omega)) Z Z Z Z Z Z Z Z ?_))
  |(refine gA Z (bx [0] (d125 occ l.right (by omega)) Z Z Z Z Z Z Z Z ?_))
  |fail)
 all_goals first
  |(refine gA Z (bd [] (.inr Z) Z (zM ⟨.of_eq (nP (a:=(Pt,kw)) ?_),rfl,ac⟩ (zC ⟨⟨_,rfl,.of_eq Z⟩,Pj Z,rfl,⟨_,rfl,.of_eq Z⟩,Pj Z,rfl,ac⟩)));rw[j];simp only[b5] at*;simp_all;done)
  |(refine gA Z (bd [] (.inr Z) Z (zM ⟨.of_eq (nP (a:=(l.left.var,jp)) ?_),rfl,ac⟩ (zC ⟨⟨_,rfl,.of_eq Z⟩,Pj Z,rfl,⟨_,rfl,.of_eq Z⟩,Pj Z,rfl,ac⟩)));rw[j];simp only[b5] at*;simp_all;done)
  |(refine gA Z (bd [] (.inr Z) Z (zM ⟨.of_eq (nP (a:=(l.right.var,jp)) ?_),rfl,ac⟩ (zC ⟨⟨_,rfl,.of_eq Z⟩,Pj Z,rfl,⟨_,rfl,.of_eq Z⟩,Pj Z,rfl,ac⟩)));rw[j];simp only[b5] at*;simp_all;done)
  |(exfalso;simp_all;done)
theorem OL(r:aw)(occ:List ak)(body:List Lit)(hb:occ.length+8*Lit.aB body<=100000000000):bF prog 85 [.iv (lits body),.mp 0,.b7 (.func 197) [.mp 0] [],.b7 (.func 198) [] [.ptr 1 0,.ptr 2 0]] [cI (aE occ),.cells [.iv (cq r)],.cells [.mp 0]] (.bm []) [(0,io (cI (aE (bT (fun occ=>aW occ) (fun occ=>mf (aD r) occ) body occ)))),(1,io (.cells [.iv (cq r)])),(2,io (.cells [.mp 0]))] 3:=by
 have f0:=Lit.aG body;have k0:=eT body;have g0:=iW body;have j0:=o7 (bE body) (occ++body.flatMap bh);refine au ab func85 Z (by decide) ntmps85 Z (by simp) ?_;refine gA Z ?_;refine aJ 0 body.length (PC _) (fun i=>⟨[(0,.iv (lits body)),(1,.mp 0),(2,.b7 (.func 197) [.mp 0] []),(3,.b7 (.func 198) [] [.ptr 1 0,.ptr 2 0]),(14,.iv (lits body)),(15,pI body.length),(16,pI i)],[(0,io (cI (aE (occ++(body.take i).flatMap bh)))),(1,io (.cells [.iv (cq r)])),(2,io (.cells [.mp 0]))],3⟩) (fun _=>True) [] ac
  (zW (hM Z (by simp) Z ⟨⟨_,rfl,.of_eq Z⟩,Pj Z,rfl,⟨_,rfl,.of_eq Z⟩,Pj Z,rfl,ac⟩)) fun i hi _=>?_
 refine zJ Z Z (fun h1=>?_) fun h1=>?_
 .have h1:i<body.length:=by simpa using h1
  have hs:=bQ (f:=bh) h1;have hn:=Lit.dy body i h1;have hv:=eT (body.take i);have n0:=(body.getD i co).size_eq;refine zJ Z Z (fun u=>?_) fun u=>?_
  .have u:(body.getD i co).kind=1:=by simpa using u
   rw[show bh (body.getD i co)=_ from am u]at hs;refine gA Z (zq [0] (d88 (occ++(body.take i).flatMap bh) (body.getD i co).atom (by rw[Pp];omega)) ?_);refine gA Z ⟨h1,ac,[],zW (hM Z (by rw[hs,PK]) Z ⟨⟨_,rfl,.of_eq Z⟩,Pj Z,rfl,⟨_,rfl,.of_eq Z⟩,Pj Z,rfl,ac⟩)⟩
  .have u: ¬(body.getD i co).kind=1:=by simpa using u
   rw[show bh (body.getD i co)=_ from be u,Qp]at hs;refine gA Z ⟨h1,ac,[],zW (hM Z (by rw[hs]) Z ⟨⟨_,rfl,.of_eq Z⟩,Pj Z,rfl,⟨_,rfl,.of_eq Z⟩,Pj Z,rfl,ac⟩)⟩
 have h1:body.length<=i:=by simpa using h1
 have e0:body.take i=body:=PJ h1;rw[e0];refine gA Z ?_;refine gu (σ:={x:List ak×Nat//bT (fun occ=>aW occ) (fun occ=>mf (aD r) occ) body occ=cY (fun occ=>aW occ) (fun occ=>mf (aD r) occ) body (x.2+1) x.1∧cy (bE body) x.1<=x.2∧x.1.length+cy (bE body) x.1<=(occ++body.flatMap bh).length+cy (bE body) (occ++body.flatMap bh)})
  (fun x=>⟨[(0,.iv (lits body)),(1,.mp 0),(2,.b7 (.func 197) [.mp 0] []),(3,.b7 (.func 198) [] [.ptr 1 0,.ptr 2 0])],[(0,io (cI (aE x.1.1))),(1,io (.cells [.iv (cq r)])),(2,io (.cells [.mp 0]))],3⟩) (fun x=>cy (bE body) x.1.1)
  ⟨(occ++body.flatMap bh,3*body.length),rfl,by dsimp only;omega,Pv _⟩ [] (zW (zC ⟨⟨_,rfl,.of_eq Z⟩,Pj Z,rfl,⟨_,rfl,.of_eq Z⟩,Pj Z,rfl,ac⟩)) ?_
 rintro⟨⟨ok,f⟩,hx1,hx2,hx3⟩;dsimp only at hx1 hx2 hx3 ⊢;rw[Pp]at hx3;refine gA Z ?_;refine aJ 0 body.length (PC _) (fun i=>⟨[(0,.iv (lits body)),(1,.mp 0),(2,.b7 (.func 197) [.mp 0] []),(3,.b7 (.func 198) [] [.ptr 1 0,.ptr 2 0]),(28,.iv (lits body)),(29,pI body.length),(30,pI i)],[(0,io (cI (aE ok))),(1,io (.cells [.iv (cq r)])),(2,io (.cells [.mp 0]))],3⟩) (fun i=>bS ((fun occ=>aW occ) ok) ((fun occ=>mf (aD r) occ) ok) ok (body.take i)=is) [] Z
  (zW (zC ⟨⟨_,rfl,.of_eq Z⟩,Pj Z,rfl,⟨_,rfl,.of_eq Z⟩,Pj Z,rfl,ac⟩)) fun i hi C=>?_
 refine zJ Z Z (fun b=>?_) fun b=>?_
 .have b:i<body.length:=by simpa using b
  have m0:=Lit.bU body i b;have d0:=(body.getD i co).jv;have j: ∀v,kX ((fun occ=>aW occ) ok) ((fun occ=>mf (aD r) occ) ok) ok (body.getD i co)=io v->bT (fun occ=>aW occ) (fun occ=>mf (aD r) occ) body occ=cY (fun occ=>aW occ) (fun occ=>mf (aD r) occ) body (f-1+1) (ok++ [v])∧cy (bE body) (ok++ [v])<=f-1∧
    (ok++ [v]).length+cy (bE body) (ok++ [v])<=(occ++body.flatMap bh).length+cy (bE body) (occ++body.flatMap bh)∧cy (bE body) (ok++ [v])<cy (bE body) ok:=by
   intro v hv;have Y:=ow C b hv;obtain⟨g1,g2⟩:=jm Y;have i0:=o6 g1 g2;have c0:cy (bE body) (ok++ [v])=cy (bE body) (fS ok v):=by
    unfold cy;congr 2
    funext x
    congr 1;rw[QN,bB,bB,dd,PI,PA]
   have I:f-1+1=f:=by omega
   refine⟨?_,by omega,?_,by omega⟩
   .rw[hx1,dY Y,I]
   .rw[Pp,Pp,Qq];omega
  have a0:=bA ok (fw (aW ok) ok (body.getD i co)).1;have J:=fG ok (fw (aW ok) ok (body.getD i co)).1;have b0:=bA ok (body.getD i co).bC;have R:=fG ok (body.getD i co).bC;refine gA Z (zq [0,1,2] (NW r ok (body.getD i co) (by omega)) ?_);refine zJ Z Z (fun B=>?_) fun B=>?_
  .obtain⟨g1,g2,g3,g4⟩:=j _ (am B);refine gA Z ⟨⟨(_,f-1),g1,g2,g3⟩,[],g4,zW (hM Z (by dsimp only;rw[c5];rfl) Z ⟨⟨_,rfl,.of_eq Z⟩,Pj Z,rfl,⟨_,rfl,.of_eq Z⟩,Pj Z,rfl,ac⟩)⟩
  .refine zJ Z Z (fun y=>?_) fun y=>?_
   .have y:(body.getD i co).kind=4:=by simpa using y
    refine zJ Z Z (fun A=>?_) fun A=>?_
    .have A:dx ok (body.getD i co).bC=kw:=by rw[b5];simpa using A
     refine gA Z (zq [0,1,2] (d126 r ok (body.getD i co).agg (by omega)) ?_);refine zJ Z Z (fun G=>?_) fun G=>?_
     .obtain⟨g1,g2,g3,g4⟩:=j _ ((be (by rw[B];simp)).trans (am ⟨y,A,G⟩));refine gA Z ⟨⟨(_,f-1),g1,g2,g3⟩,[],g4,zW (hM Z (by dsimp only;rw[c5];rfl) Z ⟨⟨_,rfl,.of_eq Z⟩,Pj Z,rfl,⟨_,rfl,.of_eq Z⟩,Pj Z,rfl,ac⟩)⟩
     .refine gA Z ?_;exact⟨b,dr C b ((be (by rw[B];simp)).trans (be (fun h=>nomatch (h.2.2.symm.trans G)))),[],zW (zC ⟨⟨_,rfl,.of_eq Z⟩,Pj Z,rfl,⟨_,rfl,.of_eq Z⟩,Pj Z,rfl,ac⟩)⟩
    .have A:dx ok (body.getD i co).bC=jp:=by rw[b5];simpa using A
     refine gA Z ⟨b,dr C b ((be (by rw[B];simp)).trans (be (by rw[A];simp))),[],zW (zC ⟨⟨_,rfl,.of_eq Z⟩,Pj Z,rfl,⟨_,rfl,.of_eq Z⟩,Pj Z,rfl,ac⟩)⟩
   .have y: ¬(body.getD i co).kind=4:=by simpa using y
    refine gA Z ⟨b,dr C b ((be (by rw[B];simp)).trans (be (fun h=>y h.1))),[],zW (zC ⟨⟨_,rfl,.of_eq Z⟩,Pj Z,rfl,⟨_,rfl,.of_eq Z⟩,Pj Z,rfl,ac⟩)⟩
 .have b:body.length<=i:=by simpa using b
  rw[PJ b]at C;have D:bT (fun occ=>aW occ) (fun occ=>mf (aD r) occ) body occ=ok:=by rw[hx1,dZ C]
  refine gA Z (zD [] Z (zW (hM Z (by rw[D]) Z ⟨⟨_,rfl,.of_eq Z⟩,Pj Z,rfl,⟨_,rfl,.of_eq Z⟩,Pj Z,rfl,ac⟩)))
theorem rA:dV .eC (cI (aE [])):=⟨id,fun M N U w j b=>⟨#[],0,b,⟨rfl,by simp[aE],by simp[aE],by simp,by simp⟩,fa M⟩⟩
def bP(r:aw):List ak:=bT (fun b=>aW b) (fun b=>mf (aD r) b) r.body []
theorem NT(r:aw)(hb:8*Lit.aB r.body<=100000000000):bF prog 85 [.iv (lits r.body),.mp 0,.b7 (.func 197) [.mp 0] [],.b7 (.func 198) [] [.ptr 1 0,.ptr 2 0]] [.eC,.cells [.iv (cq r)],.cells [.mp 0]] (.bm []) [(0,io (cI (aE (bP r)))),(1,io (.cells [.iv (cq r)])),(2,io (.cells [.mp 0]))] 3:=
 bF.J0 (OL r [] r.body (by simp;omega)) ⟨rA,.refl _,.refl _,ac⟩
theorem d73(r:aw)(hb:8*r.size<=100000000000):bF prog 168 [.iv (cq r)] [] (.mp 0) [(0,io (cI (aE (bP r))))] 1:=by
 unfold aw.size at hb;refine au ab func168 Z (by decide) ntmps168 Z (by simp) ?_;refine gA Z (zd [1,0,2] (NT r (by omega)) ?_);refine gA Z (zD [1] Z (zW (zC ac)))
def Me(p:List ak->Prop)(q:PV)(h:AH)(n:Nat):Prop:= ∃ok,p ok∧q= .mp 0∧h=[(0,io (cI (aE ok)))]∧n=1
def EF(r:aw)(a:fC)(occ:List ak):Prop:=occ.Nodup∧ ∀x,x∈occ↔x∈bb a∧x∈aD r
theorem u0{l m:List ak}(h:l.Nodup)(hs: ∀x∈l,x∈m):l.length<=m.length:=QH h hs
theorem jw(a:fC):(bb a).length<=a.size:=by
 have h1:=jL a.body;have b:=fX a.iF;unfold bb fC.size;rw[Pp];split
 .rw[Ra];omega
 .omega
theorem J9(a:fC)(hb:a.size<=100000000000):bF prog 162 [ag a.c1] [] (.mp 0) [(0,io (cI (aE (bb a))))] 1:=bF.le (d127 a (by omega)) ⟨a.HY,ac⟩
theorem d161(r:aw)(a:fC)(hb:16*a.size<=100000000000):Al.Fn prog 169 [.iv (cq r),ag a.c] [] (Me fun ok=> ∃occ,EF r a occ∧ok=bT (fun occ=>aW occ) (fun _=>fun _=>kw) a.body occ):=by
 have e0:=jw a;have f0:Lit.aB a.body<=a.size:=by unfold fC.size;omega
 refine Al.Fn.le (args:=[.iv (cq r),ag a.c1]) ?_ ⟨.refl _,a.A4,ac⟩;refine ou ab func169 Z (by decide) ntmps169 Z (by simp) ?_;refine gA Z (zq [] (J9 a (by omega)) ?_);refine gA Z ?_
 let b:List Nat->List ak:=fun vs=>(vs.reverse.filterMap fun j=>((aE (bb a))[j]?).bind fun x=>if dx (aD r) x.1 then io x.1 else is)
 refine eY (aE (bb a)) (fun vs=>⟨[(0,.iv (cq r)),(3,.ptr 0 0),(5,.mp 1),(10,.ptr 3 0)],[(0,io (az a.c1)),(1,io (cI (aE (b vs)))),(3,io (.bL .str w5 (aE (bb a)) vs is))],4⟩)
  (fun vs=>(b vs).Nodup∧ ∀x,x∈b vs↔x∈aD r∧ ∃j∈vs,∃y,(aE (bb a))[j]? =io y∧y.1=x) [] ⟨Qa,by simp[b]⟩
  (zW (zK (LO Z fa Z (hI Z Z (.inl Z) Z trivial)))) fun vs hJ=>?_
 obtain⟨B,C⟩:=hJ;have g0:(b vs).length<=(bb a).length:=u0 B fun x D=>by
  obtain⟨_,j,_,y,h2,rfl⟩:=(C x).1 D;exact rB h2
 refine fk Z ac (dq Z Z Z Z Z (by decide) (fun Y=>?_) fun j x D R=>?_)
 .have b0:EF r a (b vs):=⟨B,fun x=>by
   rw[C];constructor
   .rintro⟨h1,j,h2,y,A,rfl⟩;exact⟨rB A,h1⟩
   .rintro⟨h1,h2⟩;refine⟨h2,?_⟩;obtain⟨y,hy,rfl⟩:=P1.1 (((dM (bb a)).2 x).2 h1);obtain⟨j,R⟩:=Qd hy
    exact⟨j,Y j (Pm.1 R).1,y,R,rfl⟩⟩
  refine gA Z (zq [1] (ON (b vs) a.body (by omega)) ?_);refine fk Z ac (rK [1] (.inr Z) Z ⟨_,⟨b vs,b0,rfl⟩,rfl,rfl,rfl⟩ (zW (zC ac)))
 .have h5:=b5 (occ:=aD r) (s:=x.1);have h7:=bA (aD r) x.1;have h8:=bA (b vs) x.1;have h9:=fG (b vs) x.1;have G:x.1∉b vs:=fun h=>by
   obtain⟨_,i,hi,y,h2,A⟩:=(C x.1).1 h;have d0:=(dM (bb a)).1;have:i=j:=by
    have I:=(Pm.1 h2)
    have J:=(Pm.1 D)
    obtain⟨I,a0⟩:=I;obtain⟨J,c0⟩:=J;refine(List.getElem_inj (i:=i) (j:=j) (h₀:=by rw[PX];exact I) (h₁:=by rw[PX];exact J) d0).1 ?_;rw[Q8,Q8,a0,c0,A]
   exact R (this▸hi)
  have u:b (j::vs)=b vs++if dx (aD r) x.1 then[x.1] else[]:=by
   simp only[b,List.reverse_cons,SC,SK,List.filterMap_nil,D,RJ];congr 1;cases dx (aD r) x.1<;>rfl
  have step:(b (j::vs)).Nodup∧ ∀z,z∈b (j::vs)↔z∈aD r∧ ∃i∈j::vs,∃y,(aE (bb a))[i]? =io y∧y.1=z:=by
   rw[u];constructor
   .split
    .rw[QX];refine⟨B,P2.2 ⟨Se,Qa⟩,fun p hp q hq e=>?_⟩;rw[PA]at hq;exact G ((e.trans hq)▸hp)
    .rw[Qp];exact B
   .intro z;rw[PI,C];constructor
    .rintro(⟨h1,i,h2,A⟩|h1)
     .exact⟨h1,i,Py _ h2,A⟩
     .split at h1
      .rename_i h2;rw[PA]at h1;exact⟨h1▸bB.1 h2,j,Pz,x,D,h1.symm⟩
      .cases h1
    .rintro⟨h1,i,h2,y,A,h4⟩;rcases Px.1 h2 with rfl|h2
     .rw[D]at A;cases A;exact .inr (by rw[am (bB.2 (h4▸h1))];simp[h4])
     .exact .inl ⟨h1,i,h2,y,A,h4⟩
  refine zJ Z Z (fun g1=>?_) fun g1=>?_
  .have g1:dx (aD r) x.1=jp:=by
    have:=zT g1;rw[h5];simp;omega
   rw[g1,am Z]at u;refine gA Z ⟨j,x,D,R,step,[],zW (zK (hM Z (by rw[u,c5];rfl) Z (hI Z Z (.inr Z) Z ac)))⟩
  .have g1:dx (aD r) x.1=kw:=by
    have:=zF g1;rw[h5];simp;omega
   rw[g1,be (by simp),Qp]at u;refine gA Z ⟨j,x,D,R,step,[],zW (zK (hM Z (by rw[u]) Z (hI Z Z (.inr Z) Z ac)))⟩
end Go.Proofs.YtllkaddcplhklaaGreatDoor
namespace Go.Proofs.YtllkaddcplhklaaGreatDoor
open Go Go.Al
def lW(s:ak):List UInt8:=s.data.toList
def LC(l:List UInt8):ak:=⟨l.toArray⟩
theorem rz(s:ak):LC (lW s)=s:=by simp[lW,LC]
theorem G2(l:List UInt8):lW (LC l)=l:=by simp[lW,LC]
def dc(l:List (List UInt8)):List (List UInt8):=l.mergeSort fun x y=>lc (x<=y)
def dh(l:List ak):List ak:=(dc (l.map lW)).map LC
def fF:Prop:=
 (∀(b b0 a0:Nat) (j:List (List UInt8)) (w:World),Go.Sort.Holds encStr w b b0 j.toArray->b<w.heap.size->j.length<4611686018427387904->
  Calls Tryz.prog 84 #[.slice (io ⟨b,b0,is⟩) j.length a0] w fun e u=>
   e= .returned (.tuple #[])∧ ∃n os,u=Go.Sort.grow (Go.Sort.putRow encStr (Go.Sort.ahead w n) b b0 (j.mergeSort fun x y=>lc (x<=y)).toArray) os)∧
 (∀(p:Option Addr) (a0:Nat) (w:World),Calls Tryz.prog 84 #[.slice p 0 a0] w fun e u=>e= .returned (.tuple #[])∧u=w)
theorem iP(l:List ak):(dh l).length=l.length:=by simp[dh,dc]
theorem mS:dh []=[]:=by simp[dh,dc]
theorem pG(l:List ak):(dh l).map lW=dc (l.map lW):=by
 unfold dh;rw[PW];have:lW ∘ LC=id:=by funext x;exact G2 x
 rw[this,List.map_id]
theorem xB{l:List ak}{k:Nat}{e:List PV}(h:(l.map fun x=>(cW x).map PV.iv)[k]? =io e): ∃s,l[k]? =io s∧e=[pS s]:=by
 rw[Ps,Pu]at h;obtain⟨s,h1,rfl⟩:=h;exact⟨s,h1,rfl⟩
theorem Fz(hS:fF)(l:List ak)(hl:l.length<=1000000000000):bF Tryz.prog 84 [.sl 0 0 l.length 1] [aF 1 l cW] (.bm []) [(0,io (aF 1 (dh l) cW))] 1:=by
 refine⟨ba Tryz.func84 Z (by decide),fun M N w vs hr J hv=>?_⟩;obtain⟨v,rfl⟩: ∃v,vs=[v]:=by
  cases vs with
  |nil=>cases J
  |cons v r=>cases r with
   |nil=>exact⟨v,rfl⟩
   |cons a b=>simp at J
 have B:=hv 0 _ Z;simp only[Rj]at B;have n0:=hr.obj 0 _ Z;cases l with
 |nil=>
  have e0:v= .slice is 0 0:=by
   generalize hq:PV.sl 0 0 ([]:List ak).length 1=q at B;cases B with
   |sl i off len sz a0 h h0 h1 hc he=>cases hq;simp at h0
   |lZ i sz h=>rfl
   |_=>cases hq
  subst e0;refine(hS.2 is 0 w).mono ?_;rintro e w' ⟨rfl,rfl⟩;refine⟨_,M,N,.bm [],_,1,rfl,⟨rfl,rfl,rfl⟩,?_,?_,.bm [] #[] Z (by simp)⟩
  .rw[mS];exact .refl _ _ _ _ _
  .rw[mS];exact hr
 |cons s0 r=>
  generalize hL:s0::r=L at*
  have c0:0<L.length:=by rw[<-hL];simp
  obtain⟨a0,e0⟩: ∃a0,v= .slice (io ⟨N.ay 0,0,is⟩) L.length a0:=by
   generalize hn:L.length=n at B c0;generalize hq:PV.sl 0 0 n 1=q at B;cases B with
   |sl i off len sz a0 h h0 h1 hc he=>cases hq;exact⟨a0,by simp⟩
   |lZ i sz h=>cases hq;omega
   |_=>cases hq
  subst e0;rcases n0 with h0|⟨_,c,T,h1,h2,h3,h4,h5⟩
  .rw[<-hL]at h0;cases h0
  rw[PX]at h3;have g0:(aF 1 L cW).real=jp:=by rw[<-hL];rfl
  have d0: ∀j s,L[j]? =io s->c.getD j undef= .string s:=fun j s I=>by
   have:=h5 j [pS s] 0 (pS s) (by rw[Ps,I];rfl) Z;rw[Sq,Rq]at this;generalize c.getD j undef=y at this ⊢;cases this with
   |iv _ _ h=>cases h;rfl
  have m0:=hr.lt (i:=0) Z g0;have k0:(L.map lW).length=L.length:=by simp
  have hH:Go.Sort.Holds encStr w (N.ay 0) 0 (L.map lW).toArray:=by
   intro j I;have i0:j<L.length:=by simpa using I
   have f0:j<c.size:=by omega
   have:=d0 j L[j] (Po i0);rw[Pk,PU f0,Qn]at this;constructor
   .simp only[World.cell?,h1,PT,Option.isSome_none,Rb,if_false];rw[PU f0,this,getElem!_pos _ j I];simp[encStr,lW]
   .simp[World.frozen?,h1]
  have C:=hS.1 (N.ay 0) 0 a0 (L.map lW) w hH m0 (by omega);rw[k0]at C;refine C.mono ?_;rintro e w' ⟨rfl,n,os,rfl⟩
  let R:=Go.Sort.putRow encStr (Go.Sort.ahead w n) (N.ay 0) 0 ((L.map lW).mergeSort fun x y=>lc (x<=y)).toArray
  have Y:(dc (L.map lW)).length=L.length:=by simp[dc]
  have A:Ext M N (· <1) (c9 0 [aF 1 L cW]) w M N (· <1) ((0,io (aF 1 (dh L) cW))::c9 0 [aF 1 L cW]) R∧Rel M N (· <1) ((0,io (aF 1 (dh L) cW))::c9 0 [aF 1 L cW]) R:=by
   refine hr.write (i:=0) (o0:=aF 1 L cW) Z g0 R (aF 1 (dh L) cW) Z Z Z ?_ ?_ ?_ (Sd _ _)
   .show(Go.Sort.putRow _ _ _ _ _).heap.size=_;rw[Go.Sort.size_putRow];rfl
   .intro b hb;show((w.heap.modify (N.ay 0) _))[b]? =_;rw[P4,be (fun e=>hb e.symm)]
   .refine .inr ⟨Nat.one_pos,Go.Sort.putCells encStr 0 (dc (L.map lW)).toArray c,T,?_,?_,?_,?_,?_⟩
    .show((w.heap.modify (N.ay 0) _))[N.ay 0]? =_;rw[P4,am Z,h1];rfl
    .simp[Go.Sort.putCells,h2]
    .rw[PX,iP];simp[Go.Sort.putCells];omega
    .intro k e he;obtain⟨s,_,rfl⟩:=xB he;rfl
    .intro k e j p he hp;obtain⟨s,hs,rfl⟩:=xB he;have I:j=0:=by
      rcases j with _|j
      .rfl
      .simp at hp
     subst I;cases hp;have hk:k<L.length:=by
      have:=(Pm.1 hs).1;rwa[iP]at this
     have p0:(dc (L.map lW))[k]? =io (lW s):=by
      rw[<-pG,Ps,hs];rfl
     have j0:k<c.size:=by omega
     have b0:(Go.Sort.putCells encStr 0 (dc (L.map lW)).toArray c).getD (k*1+0) undef= .string s:=by
      rw[Sq,Rq,Pk];simp only[Go.Sort.putCells,Array.getElem?_mapIdx];rw[PU j0,Qw,Qn,am ⟨PC _,by simp[Y];omega⟩,R8];rw[getElem!_pos _ k (by simp[Y];omega)];have h9:(dc (L.map lW)).toArray[k]'(by simp[Y];omega)=lW s:=by
       rw[List.getElem_toArray];exact(Pm.1 p0).2
      rw[h9];simp[encStr,lW]
     rw[b0];exact .iv _ _ (.v _)
  have D:Rel M N (· <1) ((0,io (aF 1 (dh L) cW))::c9 0 [aF 1 L cW]) (Go.Sort.grow R os):=A.2.more fun b hb=>by
   show(R.heap++os)[b]? =_;rw[P5 hb]
  have q0:R.heap.size=w.heap.size:=by
   show(Go.Sort.putRow _ _ _ _ _).heap.size=_;rw[Go.Sort.size_putRow];rfl
  have u: ∀i o,AH.get [(0,io (aF 1 (dh L) cW))] i=io o->AH.get ((0,io (aF 1 (dh L) cW))::c9 0 [aF 1 L cW]) i=io o:=by
   intro i o h;rw[AH.ax]at h ⊢;split at h
   .rename_i h6;rw[am h6];exact h
   .simp[AH.get]at h
  refine⟨_,M,N,.bm [],_,1,rfl,⟨rfl,rfl,rfl⟩,⟨A.1.os,A.1.tape,⟨A.1.output.out,A.1.output.drawn⟩,?_,?_,.refl _,fun b c h1 h2=>(nomatch (h1.symm.trans h2)),.refl _ _,fun _ h=>h,fun i o G=>A.1.fM i o (u i o G)⟩,?_,.bm [] #[] Z (by simp)⟩
  .show w.heap.size<=(Go.Sort.grow R os).heap.size;rw[Go.Sort.size_grow,q0];omega
  .intro b hb hn;have h7:=A.1.fP b hb hn;show(R.heap++os)[b]? =_;rw[P5 (by omega)];exact h7
  .exact⟨D.eh,fun i o G=>D.used i o (u i o G),fun i o G=>D.dN i o (u i o G),fun i o G=>D.obj i o (u i o G),fun i j o p G I=>D.inj i j o p (u i o G) (u j p I)⟩
end Go.Proofs.YtllkaddcplhklaaGreatDoor
namespace Go.Proofs.YtllkaddcplhklaaGreatDoor
open Go Go.Al Go.Proofs.Tryz
theorem eK(l:List (List UInt8)):(dc l).Perm l:=List.mergeSort_perm _ _
theorem gI(l:List (List UInt8)):(dc l).Pairwise (fun x y=>lc (x<=y)=jp):=
 List.pairwise_mergeSort (le:=fun x y=>lc (x<=y)) (fun a b c h1 j=>by simp only[decide_eq_true_eq] at*;exact List.le_trans h1 j)
  (fun a b=>by
   rcases List.le_total a b with h|h
   .simp[h]
   .simp[h]) l
theorem BY{a b:List (List UInt8)}(h:a.Perm b)(ha:a.Pairwise (fun x y=>lc (x<=y)=jp))(hb:b.Pairwise (fun x y=>lc (x<=y)=jp)):a=b:=
 List.Perm.eq_of_pairwise (fun x y _ _ h1 j=>Sw (zT h1) (zT j)) ha hb h
theorem nU{a b:List ak}(h:a.Perm b):dh a=dh b:=by
 unfold dh;rw[BY (((eK _).trans (h.map lW)).trans (eK _).symm) (gI _) (gI _)]
theorem ku{x:ak}{l:List ak}:x∈dh l↔x∈l:=by
 unfold dh;rw[P1];constructor
 .rintro⟨b,hb,rfl⟩;obtain⟨s,hs,rfl⟩:=P1.1 ((eK _).mem_iff.1 hb);rwa[rz]
 .intro h;exact⟨lW x,(eK _).mem_iff.2 (P1.2 ⟨x,h,rfl⟩),rz x⟩
def fO(m:NM)(vs:List Nat):List ak:=vs.reverse.filterMap fun j=>(m[j]?).map (·.1)
theorem jM(m:NM)(vs:List Nat)(j:Nat)(x:(KC.str).K×Int)(h:m[j]? =io x):fO m (j::vs)=fO m vs++ [x.1]:=by
 simp[fO,SC,h]
theorem sZ(m:NM)(vs:List Nat):(fO m vs).length<=vs.length:=by
 unfold fO;have:=List.length_filterMap_le (fun j=>(m[j]?).map (·.1)) vs.reverse;rwa[List.length_reverse]at this
theorem wC(m:NM):(PY m.length).filterMap (fun j=>(m[j]?).map (·.1))=m.map (·.1):=by
 apply RF;intro k;have h:(PY m.length).filterMap (fun j=>(m[j]?).map (·.1))=(PY m.length).map (fun j=>(m.getD j (Pt,0)).1):=by
  rw[show(fun j=>(m.getD j (Pt,0)).1)=fun j=>(m.getD j (Pt,0)).1 from rfl];have key: ∀l:List Nat,(∀j∈l,j<m.length)->l.filterMap (fun j=>(m[j]?).map (·.1))=l.map (fun j=>(m.getD j (Pt,0)).1):=by
   intro l
   induction l with
   |nil=>simp
   |cons j r ih=>
    intro h;have b:=h j Pz;rw[SK,Po b,ih fun k hk=>h k (Py _ hk)];simp[b]
  exact key _ fun j b=>QQ.1 b
 rw[h];by_cases hk:k<m.length
 .simp[hk]
 .simp[hk]
theorem jd(m:NM)(vs:List Nat)(hn:vs.Nodup)(hb: ∀j∈vs,j<m.length)(b: ∀j,j<m.length->j∈vs):(fO m vs).Perm (m.map (·.1)):=by
 rw[<-wC];unfold fO;apply List.Perm.filterMap;refine(List.reverse_perm _).trans ?_;rw[Q4 hn List.nodup_range];intro j;rw[QQ];exact⟨hb j,b j⟩
def eF(m:NM):List ak:=dh (m.map (·.1))
theorem sL{vs:List Nat}{n:Nat}(h:vs.Nodup)(hb: ∀j∈vs,j<n):vs.length<=n:=by
 have:=QH h (l₂:=PY n) fun j b=>QQ.2 (hb j b);rwa[List.length_range]at this
theorem sx(σ:Nat->Nat)(l:List ak):(l.map fun x=>(cW x).map PV.iv).map (dA σ)=l.map fun x=>(cW x).map PV.iv:=by
 simp only[PW,cW,PB,Qe];rfl
theorem c51(hS:fF)(m:NM)(hm:m.length<=100000000):Pure prog 88 [.iv (xZ m)] (.iv (strs (eF m))):=by
 refine ah ab func88 Z (by decide) ntmps88 Z (by simp) Z ?_;refine gA Z ?_;refine lq 3 1 Z ?_;refine eY m (fun vs=>⟨[(3,.sl 2 0 (fO m vs).length 1),(6,.ptr 0 0)],[(0,io (.bL .str w5 m vs is)),(2,io (aF 1 (fO m vs) cW))],3⟩) (fun vs=>vs.Nodup∧ ∀j∈vs,j<m.length) [1] ⟨Qa,by simp⟩
  (zW (hI Z Z (.inl Z) Z (zS trivial))) fun vs C=>?_
 obtain⟨b,u⟩:=C;have I:=sL b u;have G:=sZ m vs;refine fk Z ac (dq Z Z Z Z Z (by decide) (fun y=>?_) fun j x A B=>?_)
 .refine fk Z ac (bx [2] (Fz hS (fO m vs) (by omega)) Z Z Z Z Z (congrArg (fun o=> [io o]) (b4 _).symm) Z Z ?_);refine fk Z ac (dt (.inr Z) Z Z ((sx _ _).trans (by rw[eF,nU (jd m vs b u y)])) ?_);rw[eF,iP,<-(jd m vs b u y).length_eq]
 .have hk:=jM m vs j x A;refine gA Z ⟨j,x,A,B,⟨P2.2 ⟨B,b⟩,fun i D=>(Px.1 D).elim (fun h=>h▸(Pm.1 A).1) (u i)⟩,[4],zM ⟨.row (by rw[hk,Pp];rfl),rfl,bi ac⟩ (hI Z Z (.inr Z) Z (hR Z (by rw[hk,PH];rfl) Z ac))⟩
theorem HG{P:Program}{k:FuncId}{kc:KC}{V:Type}{e:V->IV}{z:V}{D:Value}{G:PV->V}{m:List (kc.K×V)}{y:IV}(h:Al.Pure P k [.iv (.dR kc e z D m)] (.iv y)):bF P k [.mp 0] [.map kc e z D G m] (.iv y) [] 1:=by
 refine⟨h.1,fun M N w vs R hl Y=>?_⟩;obtain⟨A,h1,I,h3,J⟩:=ph (n:=1) R (i:=0) Z;have B:Rel A N (· <0) (c9 0 []) w:=⟨I.eh,fun i o u=>(nomatch u),fun i o u=>(nomatch u),fun i o u=>(nomatch u),fun i j o p u=>(nomatch u)⟩
 refine(h.2 A N w vs B hl fun j p C=>?_).mono ?_
 .cases j with
  |zero=>
   cases C;have:=J _ _ (Y 0 _ Z);generalize vs.getD 0 undef=x at this ⊢;cases this with
   |iv _ _ h=>exact .iv _ _ h
  |succ j=>cases C
 .rintro _ w' ⟨x,M',N',r,h',n',rfl,⟨rfl,rfl,rfl⟩,hx,hrr,hvr⟩;refine⟨x,M',N,.iv y,[],1,rfl,⟨rfl,rfl,rfl⟩,?_,⟨hrr.eh,fun i o u=>(nomatch u),fun i o u=>(nomatch u),fun i o u=>(nomatch u),fun i j o p u=>(nomatch u)⟩,?_⟩
  .refine⟨hx.os,hx.tape,hx.output,hx.size,fun b hb hn=>hx.fP b hb fun i o u=>(nomatch u),h1.oF.trans hx.oF,fun b c g1 g2=>?_,.refl _ _,fun _ h=>h,fun i o u=>(nomatch u)⟩;cases g3:A b with
   |some c'=>exact h1.gE b c' g1 g3
   |none=>
    rcases hx.gE b c g3 g2 with g4|⟨i,o,g4,_⟩
    .exact .inl g4
    .exact nomatch g4
  .cases hvr with
   |iv _ _ h=>exact .iv _ _ h
theorem OQ(hS:fF)(m:NM)(hm:m.length<=100000000):bF prog 88 [.mp 0] [cI m] (.iv (strs (eF m))) [] 1:=HG (c51 hS m hm)
theorem qQ: ∀{m:NM} (_:(m.map (·.1)).Nodup) (k:ak),jA .str m k=m.filter fun x=>!lc (x.1=k)
 | [],_,k=>rfl
 |(a,b)::r,h,k=>by
  rw[PB,P2]at h;by_cases hk:a=k
  .subst hk;have:r.filter (fun x=>!lc (x.1=a))=r:=R2.2 fun x j=>by
    have:x.1≠a:=fun e=>h.1 (e▸P1.2 ⟨x,j,rfl⟩);simp[this]
   simp[jA,this]
  .have u:=qQ h.2 k;simp[jA,hk,u]
theorem ud{m:NM}{p:(KC.str).K×Int->Bool}(h:(m.map (·.1)).Nodup):((m.filter p).map (·.1)).Nodup:=h.sublist ((List.filter_sublist).map _)
theorem mD: ∀(b:List ak) {m:NM} (_:(m.map (·.1)).Nodup),b.foldl (fun m k=>jA .str m k) m=m.filter fun x=>!dx b x.1
 | [],m,h=>(R2.2 fun _ _=>rfl).symm
 |k::r,m,h=>by
  rw[Qg,qQ h,mD r (ud h),List.filter_filter];congr 1
  funext x
  by_cases hk:x.1=k
  .simp[dx,hk]
  .have: ¬k=x.1:=fun e=>hk e.symm
   simp[dx,hk,this]
def kA(r:aw)(a:fC):NM:=(aE (bb a)).filter fun x=>!dx (aD r) x.1
theorem kq(l:List ak):(aE l).length<=l.length:=by
 have h:=dM l;have:=u0 h.1 fun x b=>(h.2 x).1 b;rwa[PX]at this
theorem d79(r:aw)(a:fC)(hb:a.size<=100000000000):bF prog 157 [.iv (cq r),ag a.c] [] (.mp 0) [(0,io (cI (kA r a)))] 1:=by
 refine bF.le (args:=[.iv (cq r),ag a.c1]) ?_ ⟨.refl _,a.A4,ac⟩;have I:=jw a;have A:=(dM (bb a)).1;refine au ab func157 Z (by decide) ntmps157 Z (by simp) ?_;refine gA Z (zq [] (J9 a (by omega)) ?_);refine gA Z ?_;refine eY (aE (aD r)) (fun vs=>⟨[(5,.mp 1),(13,.ptr 2 0)],[(1,io (cI ((fO (aE (aD r)) vs).foldl (fun m k=>jA .str m k) (aE (bb a))))),(2,io (.bL .str w5 (aE (aD r)) vs is))],3⟩)
  (fun vs=>vs.Nodup∧ ∀j∈vs,j<(aE (aD r)).length) [] ⟨Qa,by simp⟩
  (zW (zC (hI Z Z (.inl Z) Z trivial))) fun vs G=>?_
 obtain⟨b,u⟩:=G;refine fk Z ac (dq Z Z Z Z Z (by decide) (fun y=>?_) fun j x C D=>?_)
 .have B:(fO (aE (aD r)) vs).foldl (fun m k=>jA .str m k) (aE (bb a))=kA r a:=by
   rw[mD _ A];unfold kA;congr 1
   funext x
   congr 1;rw[QN,bB,bB,(jd _ vs b u y).mem_iff];exact(dM (aD r)).2 x.1
  rw[B];refine gA Z (zD [1] Z (zW (zC ac)))
 .have hk:=jM (aE (aD r)) vs j x C;refine gA Z ⟨j,x,C,D,⟨P2.2 ⟨D,b⟩,fun i J=>(Px.1 J).elim (fun h=>h▸(Pm.1 C).1) (u i)⟩,[],zW (hM Z (by rw[hk,List.foldl_append];rfl) Z (hI Z Z (.inr Z) Z ac))⟩
theorem qR{may:List ak->Expr->Bool}{more:List ak->fC->Bool}{body:List Lit}: ∀(n:Nat) (occ:List ak),(cY may more body n occ).length<=occ.length+n
 |0,occ=>Pv _
 |n+1,occ=>by
  cases h:bS (may occ) (more occ) occ body with
  |none=>rw[dZ h];omega
  |some v=>
   rw[dY h];have:=qR (may:=may) (more:=more) (body:=body) n (occ++ [v]);rw[Pp,Qq]at this;omega
theorem qU{may:List ak->Expr->Bool}{more:List ak->fC->Bool}{body:List Lit}(occ:List ak):(bT may more body occ).length<=occ.length+4*Lit.aB body+1:=by
 have h1:=qR (may:=may) (more:=more) (body:=body) (3*body.length+1) (occ++body.flatMap bh);have b:=eT body;have j:=Lit.aG body;rw[Pp]at h1;unfold bT;omega
theorem zo(r:aw):(bP r).length<=4*Lit.aB r.body+1:=by
 have:=qU (may:=fun b=>aW b) (more:=fun b=>mf (aD r) b) (body:=r.body) [];rw[Ra]at this;unfold bP;omega
def nu(r:aw):List ak:=bT (fun b=>ch b) (fun _=>fun _=>kw) r.body []
theorem Ch(r:aw):(nu r).length<=4*Lit.aB r.body+1:=by
 have:=qU (may:=fun b=>ch b) (more:=fun _=>fun _=>kw) (body:=r.body) [];rw[Ra]at this;unfold nu;omega
theorem NU(r:aw)(hb:8*Lit.aB r.body<=100000000000):bF prog 85 [.iv (lits r.body),.mp 0,.b7 (.func 86) [] [.ptr 1 0],.b7 (.func 87) [] []] [.eC,.cells [.mp 0]] (.bm []) [(0,io (cI (aE (nu r)))),(1,io (.cells [.mp 0]))] 2:=
 bF.J0 (OM [] r.body (by simp;omega)) ⟨rA,.refl _,ac⟩
theorem c33(hS:fF)(r:aw)(hb:r.size<=10000000):Pure prog 68 [ag r.c] (.iv (strs (eF (aE (nu r))))):=by
 have h1:=kq (nu r);have b:=Ch r;have j:Lit.aB r.body<=r.size:=R5 _ _;refine ah ab func68 Z (by decide) ntmps68 Z (by simp) Z ?_;refine gA Z ?_;refine gA Z (zq [1,2] (NU r (by omega)) ?_);refine gA Z (zq [1] (OQ hS (aE (nu r)) (by omega)) ?_);exact zU Z
def wy(r:aw)(lit:Int):List ak:=if lit<0∨(r.body.length:Int)<=lit∨ ¬(aq r lit).kind=4 then[] else eF (kA r (aq r lit).agg)
theorem ox{P:Program}{k:FuncId}{args:List PV}{os:List AO}{r:PV}{h:AH}{n0:Nat}(hc:gB P k){n:Nat}(hn: ∃sz b,PV.iv (.cB sz n b)∈args)(hh:n<=maxLen->bF P k args os r h n0):bF P k args os r h n0:=EY hc hn hh
def oj{α:Type}(p:α->Bool)(l:List α):Int:=match l.findIdx? p with
 |some i=>i
 |none=> -1
theorem fh{α:Type}{p:α->Bool}{l:List α}(h:l.any p=kw):oj p l= -1:=by
 have:l.findIdx? p=is:=by
  rw[Sm];intro x b;have:=Qm.1 h x b;simpa using this
 rw[oj,this]
theorem gp{α:Type}[Inhabited α]{p:α->Bool}{l:List α}{i:Nat}(h:(l.take i).any p=kw)(hi:i<l.length)(hp:p (l.getD i co)=jp):oj p l=i:=by
 have:l.findIdx? p=io i:=by
  rw[R7];have b:l.getD i co=l[i]:=by simp[hi]
  refine⟨hi,b▸hp,fun j u=>?_⟩;have:=Qm.1 h l[j] (SD.2 ⟨j,by rw[Qc,am u,Po (by omega)]⟩);simpa using this
 rw[oj,this]
theorem gq{α:Type}(p:α->Bool)(l:List α):lc (oj p l>=0)=l.any p:=by
 unfold oj;cases h:l.findIdx? p with
 |none=>
  have:=Sm.1 h;have:l.any p=kw:=Qm.2 fun x j=>by simp[this x j]
  rw[this];rfl
 |some i=>
  obtain⟨h1,b,_⟩:=R7.1 h;rw[QJ.2 ⟨_,P7 h1,b⟩];simp
theorem C8{a b:Int}(h:a=b):pI a=pI b:=by rw[h]
theorem O4(x:Int):Pure prog 117 [pI x] (pB (!lc (x=1)&&!lc (x=2))):=by
 refine ah ab func117 Z (by decide) ntmps117 Z (by simp) Z ?_
 repeat' (first|(refine gA Z (zI (fun _=>?_) (fun _=>?_)))|(refine gA Z (zL (.of_eq ?_))))
 all_goals(refine(ma ?_:pB _=pB _);simp_all)
theorem O3(t:Term):Pure prog 160 [ag t.c] (pB (lc (t.kind=3))):=by
 refine ah ab func160 Z (by decide) ntmps160 Z (by simp) Z ?_;exact zU Z
theorem O2(t:Lit):Pure prog 161 [ag t.c] (pB (lc (t.kind=4))):=by
 refine ah ab func161 Z (by decide) ntmps161 Z (by simp) Z ?_;exact zU Z
def cV(v:dU):Int:=if v.kind=1 then(if v.sym=Pt∧ -2147483647<=v.num∧v.num<=2147483647 then 0 else 20) else if v.kind=2 then(if v.num=0∧v.sym.size<=64 then 0 else 20) else 20
theorem N4(v:dU):Pure prog 141 [ag v.c] (pI (cV v)):=by
 refine ah ab func141 Z (by decide) ntmps141 Z (by simp) Z ?_
 repeat' (first|(refine gA Z (zI (fun _=>?_) (fun _=>?_)))|(refine gA Z (zL (.of_eq ?_))))
 all_goals(refine(C8 ?_:pI _=pI _);have hE:(⟨#[]⟩:ByteArray)=Pt:=rfl;simp_all [cV];try omega)
def Decl.z:Decl:=⟨Pt,[],⟨0,0⟩⟩
def BB(d:Decl):IV:= .agg d.c
def Ff:Value:= .agg #[.string Pt,.slice is 0 0,.int .i64 0,.int .i64 0]
def intOf:List IV->Int
 | [.v (.int .i64 n)]=>n
 |_=>0
def OH:PV->Decl
 | .agg [.iv (.v (.string s)),.iv (.cB _ n el),.iv (.v (.int _ a)),.iv (.v (.int _ b))]=>⟨s,(PY n).map fun k=>intOf (el k),⟨a,b⟩⟩
 |_=>Decl.z
abbrev DM:=List ((KC.str).K×Decl)
abbrev J6(m:DM):AO:= .map .str BB Decl.z Ff OH m
abbrev NS(m:DM):IV:= .dR .str BB Decl.z Ff m
theorem J4(d:Decl):OH (ag d.c)=d:=by
 show(⟨d.name,(PY d.types.length).map fun k=>intOf (j3 (d.types.getD k co)),⟨d.at_.line,d.at_.FT⟩⟩:Decl)=d;have:(PY d.types.length).map (fun k=>intOf (j3 (d.types.getD k co)))=d.types:=by
  apply RF;intro k;by_cases hk:k<d.types.length
  .simp[hk,intOf,j3]
  .simp[hk]
 rw[this]
theorem Fe: ∀M,IR M (BB Decl.z) Ff:=fun M=>by
 refine .agg _ _ Z fun j p b=>?_
 match j,b with
 |0,b=>cases b;exact .v _
 |1,b=>cases b;exact .fu _ _ _ _
 |2,b=>cases b;exact .v _
 |3,b=>cases b;exact .v _
 |j+4,b=>simp[Decl.c]at b
theorem Om(l:List IV):an (ag l) (.iv (.agg l)):=by
 intro M N U x h;generalize b:ag l=q at h;cases h with
 |agg cs ys hl hr=>
  cases b;refine .iv _ _ (.agg _ _ (by simpa using hl) fun j p u=>?_);have:=hr j (.iv p) (by rw[Ps,u];rfl);generalize ys.getD j undef=y at this ⊢;cases this with
  |iv _ _ h=>exact h
 |_=>cases b
theorem Fg(d:Decl):an (ag d.c) (.iv (BB (OH (ag d.c)))):=by rw[J4];exact Om _
def iL(m:DM)(d:Decl):DM:=if c8 .str m d.name=jp then m else cD .str m d.name d
def qz(p:Prog):DM:=p.aS.foldl iL []
abbrev cG(p:Prog):IV:=NS (qz p)
theorem sD{V:Type}: ∀(m:List ((KC.str).K×V)) (k:ak) (v:V),(cD .str m k v).length<=m.length+1
 | [],_,_=>by simp[cD]
 |(a,b)::r,k,v=>by
  have:=sD r k v;simp only[cD];split
  .simp
  .simp only[PO];omega
theorem d50(p:Prog)(hb:p.aS.length<=1000000000000):bF prog 73 [ag p.c] [] (.mp 0) [(0,io (J6 (qz p)))] 1:=by
 refine au ab func73 Z (by decide) ntmps73 Z (by simp) ?_;refine gA Z ?_;refine aJ 0 p.aS.length (PC _) (fun i=>⟨[(3,.mp 1),(13,.iv (bu 4 p.aS Decl.c)),(14,pI p.aS.length),(15,pI i)],[(1,io (J6 ((p.aS.take i).foldl iL [])))],2⟩) (fun _=>True) [] ac
  (zW (LO Z Fe Z trivial)) fun i u _=>?_
 refine zJ Z Z (fun h1=>?_) fun h1=>?_
 .have h1:i<p.aS.length:=by simpa using h1
  have hs:=gQ (g:=iL) (b:=[]) h1;refine zJ Z Z (fun j=>?_) fun j=>?_
  .have j:c8 .str ((p.aS.take i).foldl iL []) (p.aS.getD i co).name=kw:=by simpa using j
   rw[iL,be (by rw[j];simp)]at hs;refine fk Z ?_ ?_
   .repeat' (first|exact ac|exact rfl|exact Fg _|exact an.refl _|apply Pq)
    all_goals omega
   exact⟨h1,ac,[],zW (hM Z (by rw[hs,<-J4 (p.aS.getD i co)];rfl) Z ac)⟩
  .have j:c8 .str ((p.aS.take i).foldl iL []) (p.aS.getD i co).name=jp:=by simpa using j
   rw[iL,am j]at hs;refine gA Z ⟨h1,ac,[],zW (hM Z (by rw[hs]) Z ac)⟩
 .have h1:p.aS.length<=i:=by simpa using h1
  rw[PJ h1];refine gA Z (zD [1] Z (zW (zC ac)))
def tM(p:Prog)(a:Atom):Bool:=!c8 .str (qz p) a.rel
def fQ(p:Prog)(s:ak):Decl:=dw .str (qz p) s Decl.z
def wT(p:Prog)(a:Atom):Bool:=!lc ((a.aj.length:Int)=((fQ p a.rel).types.length:Int))
theorem d113(p:Prog)(a:Atom):bF prog 125 [ag a.c,.ptr 0 0] [.cells [.iv (cG p)]] (pB (tM p a)) [(0,io (.cells [.iv (cG p)]))] 1:=by
 refine au ab func125 Z (by decide) ntmps125 Z (by simp) ?_;refine gA Z (zD [] Z (zM ⟨.of_eq Z,rfl,ac⟩ (zO ac)))
theorem d115(p:Prog)(a:Atom):bF prog 127 [ag a.c,.ptr 0 0] [.cells [.iv (cG p)]] (pB (wT p a)) [(0,io (.cells [.iv (cG p)]))] 1:=by
 refine au ab func127 Z (by decide) ntmps127 Z (by simp) ?_;refine gA Z (zD [] Z (zM ⟨.of_eq Z,rfl,ac⟩ (zO ac)))
theorem i187(l:List Int):bF prog 152 [.iv (bu 1 l j3),.b7 (.func 117) [] []] [] (pI (oj (fun x=>!lc (x=1)&&!lc (x=2)) l)) [] 0:=by
 refine ox (ba func152 Z (by decide)) ⟨_,_,Pz⟩ fun j=>?_;simp only[maxLen]at j;refine au ab func152 Z (by decide) ntmps152 Z (by simp) ?_;refine gA Z ?_
 refine aJ 0 l.length (PC _) (fun i=>⟨[(0,.iv (bu 1 l j3)),(1,.b7 (.func 117) [] []),(7,pI l.length),(8,pI i)],[],0⟩) (fun i=>(l.take i).any (fun x=>!lc (x=1)&&!lc (x=2))=kw) [] (by simp)
  (zW trivial) fun i y u=>?_
 refine zJ Z Z (fun h1=>?_) fun h1=>?_
 .have h1:i<l.length:=by simpa using h1
  refine gA Z (zp (O4 (l.getD i co)) ?_);refine zJ Z Z (fun b=>?_) fun b=>?_
  .have b:(fun x=>!lc (x=1)&&!lc (x=2)) (l.getD i co)=jp:=b;rw[gp u h1 b];refine gA Z (zD [] Z (zW ac))
  .have b:(fun x=>!lc (x=1)&&!lc (x=2)) (l.getD i co)=kw:=b;refine gA Z ⟨h1,(cM u h1).2 b,[],zW ac⟩
 .have h1:l.length<=i:=by simpa using h1
  rw[fh (any_none u h1)];refine gA Z (zD [] Z (zW ac))
theorem d153(l:List Int):bF prog 116 [.iv (bu 1 l j3),.b7 (.func 117) [] []] [] (pB (l.any (fun x=>!lc (x=1)&&!lc (x=2)))) [] 0:=by
 refine au ab func116 Z (by decide) ntmps116 Z (by simp) ?_;refine gA Z (zq [] (i187 l) ?_);refine gA Z (zD [] Z (zM ⟨.of_eq (ma (gq _ l)),rfl,ac⟩ ac))
theorem i191(l:List Term):bF prog 194 [.iv (bu 5 l Term.c),.b7 (.func 160) [] []] [] (pI (oj (fun x:Term=>lc (x.kind=3)) l)) [] 0:=by
 refine ox (ba func194 Z (by decide)) ⟨_,_,Pz⟩ fun j=>?_;simp only[maxLen]at j;refine au ab func194 Z (by decide) ntmps194 Z (by simp) ?_;refine gA Z ?_
 refine aJ 0 l.length (PC _) (fun i=>⟨[(0,.iv (bu 5 l Term.c)),(1,.b7 (.func 160) [] []),(7,pI l.length),(8,pI i)],[],0⟩) (fun i=>(l.take i).any (fun x:Term=>lc (x.kind=3))=kw) [] (by simp)
  (zW trivial) fun i y u=>?_
 refine zJ Z Z (fun h1=>?_) fun h1=>?_
 .have h1:i<l.length:=by simpa using h1
  refine gA Z (zp (O3 (l.getD i co)) ?_);refine zJ Z Z (fun b=>?_) fun b=>?_
  .have b:(fun x:Term=>lc (x.kind=3)) (l.getD i co)=jp:=b;rw[gp u h1 b];refine gA Z (zD [] Z (zW ac))
  .have b:(fun x:Term=>lc (x.kind=3)) (l.getD i co)=kw:=b;refine gA Z ⟨h1,(cM u h1).2 b,[],zW ac⟩
 .have h1:l.length<=i:=by simpa using h1
  rw[fh (any_none u h1)];refine gA Z (zD [] Z (zW ac))
theorem d157(l:List Term):bF prog 159 [.iv (bu 5 l Term.c),.b7 (.func 160) [] []] [] (pB (l.any (fun x:Term=>lc (x.kind=3)))) [] 0:=by
 refine au ab func159 Z (by decide) ntmps159 Z (by simp) ?_;refine gA Z (zq [] (i191 l) ?_);refine gA Z (zD [] Z (zM ⟨.of_eq (ma (gq _ l)),rfl,ac⟩ ac))
theorem i192(l:List Lit):bF prog 137 [.iv (bu 30 l Lit.c),.b7 (.func 161) [] []] [] (pI (oj (fun x:Lit=>lc (x.kind=4)) l)) [] 0:=by
 refine ox (ba func137 Z (by decide)) ⟨_,_,Pz⟩ fun j=>?_;simp only[maxLen]at j;refine au ab func137 Z (by decide) ntmps137 Z (by simp) ?_;refine gA Z ?_
 refine aJ 0 l.length (PC _) (fun i=>⟨[(0,.iv (bu 30 l Lit.c)),(1,.b7 (.func 161) [] []),(7,pI l.length),(8,pI i)],[],0⟩) (fun i=>(l.take i).any (fun x:Lit=>lc (x.kind=4))=kw) [] (by simp)
  (zW trivial) fun i y u=>?_
 refine zJ Z Z (fun h1=>?_) fun h1=>?_
 .have h1:i<l.length:=by simpa using h1
  refine gA Z (zp (O2 (l.getD i co)) ?_);refine zJ Z Z (fun b=>?_) fun b=>?_
  .have b:(fun x:Lit=>lc (x.kind=4)) (l.getD i co)=jp:=b;rw[gp u h1 b];refine gA Z (zD [] Z (zW ac))
  .have b:(fun x:Lit=>lc (x.kind=4)) (l.getD i co)=kw:=b;refine gA Z ⟨h1,(cM u h1).2 b,[],zW ac⟩
 .have h1:l.length<=i:=by simpa using h1
  rw[fh (any_none u h1)];refine gA Z (zD [] Z (zW ac))
theorem d159(l:List Lit):bF prog 90 [.iv (bu 30 l Lit.c),.b7 (.func 161) [] []] [] (pB (l.any (fun x:Lit=>lc (x.kind=4)))) [] 0:=by
 refine au ab func90 Z (by decide) ntmps90 Z (by simp) ?_;refine gA Z (zq [] (i192 l) ?_);refine gA Z (zD [] Z (zM ⟨.of_eq (ma (gq _ l)),rfl,ac⟩ ac))
theorem NH(p:Prog)(l:List Atom):bF prog 158 [.iv (bu 2 l Atom.c),.b7 (.func 125) [] [.ptr 0 0]] [.cells [.iv (cG p)]] (pI (oj (fun x:Atom=>tM p x) l)) [(0,io (.cells [.iv (cG p)]))] 1:=by
 refine ox (ba func158 Z (by decide)) ⟨_,_,Pz⟩ fun j=>?_;simp only[maxLen]at j;refine au ab func158 Z (by decide) ntmps158 Z (by simp) ?_;refine gA Z ?_
 refine aJ 0 l.length (PC _) (fun i=>⟨[(0,.iv (bu 2 l Atom.c)),(1,.b7 (.func 125) [] [.ptr 0 0]),(7,pI l.length),(8,pI i)],[(0,io (.cells [.iv (cG p)]))],1⟩) (fun i=>(l.take i).any (fun x:Atom=>tM p x)=kw) [] (by simp)
  (zW (zO trivial)) fun i y u=>?_
 refine zJ Z Z (fun h1=>?_) fun h1=>?_
 .have h1:i<l.length:=by simpa using h1
  refine gA Z (zq [0] (d113 p (l.getD i co)) ?_);refine zJ Z Z (fun b=>?_) fun b=>?_
  .have b:(fun x:Atom=>tM p x) (l.getD i co)=jp:=b;rw[gp u h1 b];refine gA Z (zD [] Z (zW (zO ac)))
  .have b:(fun x:Atom=>tM p x) (l.getD i co)=kw:=b;refine gA Z ⟨h1,(cM u h1).2 b,[],zW (zO ac)⟩
 .have h1:l.length<=i:=by simpa using h1
  rw[fh (any_none u h1)];refine gA Z (zD [] Z (zW (zO ac)))
theorem N3(p:Prog)(l:List Atom):bF prog 123 [.iv (bu 2 l Atom.c),.b7 (.func 125) [] [.ptr 0 0]] [.cells [.iv (cG p)]] (pB (l.any (fun x:Atom=>tM p x))) [(0,io (.cells [.iv (cG p)]))] 1:=by
 refine au ab func123 Z (by decide) ntmps123 Z (by simp) ?_;refine gA Z (zq [0] (NH p l) ?_);refine gA Z (zD [] Z (zM ⟨.of_eq (ma (gq _ l)),rfl,ac⟩ (zO ac)))
theorem NG(p:Prog)(l:List Atom):bF prog 158 [.iv (bu 2 l Atom.c),.b7 (.func 127) [] [.ptr 0 0]] [.cells [.iv (cG p)]] (pI (oj (fun x:Atom=>wT p x) l)) [(0,io (.cells [.iv (cG p)]))] 1:=by
 refine ox (ba func158 Z (by decide)) ⟨_,_,Pz⟩ fun j=>?_;simp only[maxLen]at j;refine au ab func158 Z (by decide) ntmps158 Z (by simp) ?_;refine gA Z ?_
 refine aJ 0 l.length (PC _) (fun i=>⟨[(0,.iv (bu 2 l Atom.c)),(1,.b7 (.func 127) [] [.ptr 0 0]),(7,pI l.length),(8,pI i)],[(0,io (.cells [.iv (cG p)]))],1⟩) (fun i=>(l.take i).any (fun x:Atom=>wT p x)=kw) [] (by simp)
  (zW (zO trivial)) fun i y u=>?_
 refine zJ Z Z (fun h1=>?_) fun h1=>?_
 .have h1:i<l.length:=by simpa using h1
  refine gA Z (zq [0] (d115 p (l.getD i co)) ?_);refine zJ Z Z (fun b=>?_) fun b=>?_
  .have b:(fun x:Atom=>wT p x) (l.getD i co)=jp:=b;rw[gp u h1 b];refine gA Z (zD [] Z (zW (zO ac)))
  .have b:(fun x:Atom=>wT p x) (l.getD i co)=kw:=b;refine gA Z ⟨h1,(cM u h1).2 b,[],zW (zO ac)⟩
 .have h1:l.length<=i:=by simpa using h1
  rw[fh (any_none u h1)];refine gA Z (zD [] Z (zW (zO ac)))
theorem NZ(p:Prog)(l:List Atom):bF prog 123 [.iv (bu 2 l Atom.c),.b7 (.func 127) [] [.ptr 0 0]] [.cells [.iv (cG p)]] (pB (l.any (fun x:Atom=>wT p x))) [(0,io (.cells [.iv (cG p)]))] 1:=by
 refine au ab func123 Z (by decide) ntmps123 Z (by simp) ?_;refine gA Z (zq [0] (NG p l) ?_);refine gA Z (zD [] Z (zM ⟨.of_eq (ma (gq _ l)),rfl,ac⟩ (zO ac)))
def cE(l:Lit):List Atom:=if l.kind=1∨l.kind=2 then[l.atom] else[]
theorem ob: ∀l:List Lit,(l.flatMap cE).length<=l.length
 | []=>by simp
 |x::r=>by
  have h1:=ob r;have b:(cE x).length<=1:=by unfold cE;split<;>simp
  simp only[Qv,Pp,PO];omega
def wz(r:aw)(lit:Int):List Lit:=if(aq r lit).kind=4 then(aq r lit).ar else[aq r lit]
def eD(r:aw)(lit:Int):List Atom:=if lit<0 then[r.head] else(wz r lit).flatMap cE
theorem HV(r:aw)(lit:Int)(h:0<=lit):jC (.cB 30 ((lit+1).toNat-lit.toNat) (fun j=>(r.body.getD (lit.toNat+j) co).c)) (lits [aq r lit]):=by
 have e:(lit+1).toNat-lit.toNat=1:=by omega
 rw[e]
 exact .cB Z (fun j b=>by
  have:j=0:=by omega
  subst this;rfl)
theorem N6(r:aw)(lit:Int)(h1:lit<r.body.length)(hb:r.size<=1000000000000):Pure prog 124 [ag r.c,pI lit] (.iv (bu 2 (eD r lit) Atom.c)):=by
 have R:=Lit.aG r.body;have h0:Lit.aB r.body<=r.size:=R5 _ _;refine ah ab func124 Z (by decide) ntmps124 Z (by simp) Z ?_;refine zJ Z Z (fun A=>?_) fun A=>?_
 .have A:lit<0:=by simpa using A
  refine gA Z (dt (by first|exact .inr Z|exact .inl Z) Z Z (by rw[eD,am A];rfl) (by rw[eD,am A];rfl))
 have A: ¬lit<0:=by simpa using A
 have hk:lit.toNat<r.body.length:=by omega
 have I:=Lit.bU r.body lit.toNat hk;have b0:=(aq r lit).size_eq;have c0:=Lit.aG (aq r lit).ar;have a0:(aq r lit).size<=Lit.aB r.body:=I;refine zJ Z Z (fun B=>?_) fun B=>?_
 .have B:(aq r lit).kind=4:=by simpa[aq]using B
  have y:eD r lit=(aq r lit).ar.flatMap cE:=by rw[eD,be A,wz,am B]
  refine gA Z ?_;refine lq 6 2 Z ?_;refine aJ 0 ((aq r lit).ar).length (PC _) (fun i=>⟨[(6,.sl 2 0 ((((aq r lit).ar).take i).flatMap cE).length 2),(30,.iv (lits ((aq r lit).ar))),(31,pI ((aq r lit).ar).length),(32,pI i)],[(2,io (aF 2 ((((aq r lit).ar).take i).flatMap cE) Atom.c))],3⟩) (fun _=>True) [1] ac
   (zM (bi ⟨.iv (mq _),rfl,bi (bi trivial)⟩) (zS trivial)) fun i Y _=>?_
  have G:=ob (((aq r lit).ar).take i);have J:(((aq r lit).ar).take i).length<=((aq r lit).ar).length:=by rw[QI];exact SZ _ _
  have D:((aq r lit).ar).length<=1000000000000:=by first|omega|(rw[Qq];omega)
  refine zJ Z Z (fun b=>?_) fun b=>?_
  .have b:i<((aq r lit).ar).length:=zN b;have hs:=bQ (f:=cE) b;have j:((((aq r lit).ar).getD i co).kind=1∨(((aq r lit).ar).getD i co).kind=2)->(((aq r lit).ar).take (i+1)).flatMap cE=(((aq r lit).ar).take i).flatMap cE++ [(((aq r lit).ar).getD i co).atom]:=fun h=>by rw[hs,cE,am h]
   have C: ¬((((aq r lit).ar).getD i co).kind=1∨(((aq r lit).ar).getD i co).kind=2)->(((aq r lit).ar).take (i+1)).flatMap cE=(((aq r lit).ar).take i).flatMap cE:=fun h=>by rw[hs,cE,be h,Qp]
   refine zJ Z Z (fun u=>?_) fun u=>?_
   .have u: ¬(((aq r lit).ar).getD i co).kind=1:=by simpa using u
    refine zJ Z Z (fun x=>?_) fun x=>?_
    .have x:(((aq r lit).ar).getD i co).kind=2:=by simpa using x
     have hs:=j (.inr x);refine gA Z ⟨b,ac,[5],zM ⟨.row (by rw[hs,Pp];rfl),rfl,bi (bi (bi ac))⟩ (hR Z (by rw[hs,PH];rfl) Z ac)⟩
    .have x: ¬(((aq r lit).ar).getD i co).kind=2:=by simpa using x
     have hs:=C (fun h=>h.elim u x);refine gA Z ⟨b,ac,[2],zM ⟨.row (by rw[hs]),rfl,bi (bi (bi ac))⟩ (hR Z (by rw[hs]) Z ac)⟩
   .have u:(((aq r lit).ar).getD i co).kind=1:=by simpa using u
    have hs:=j (.inl u);refine gA Z ⟨b,ac,[5],zM ⟨.row (by rw[hs,Pp];rfl),rfl,bi (bi (bi ac))⟩ (hR Z (by rw[hs,PH];rfl) Z ac)⟩
  .have b:((aq r lit).ar).length<=i:=zG b;rw[PJ b] at*
   refine gA Z (dt (by first|exact .inr Z|exact .inl Z) Z Z (by rw[y]) (by rw[y]))
 .have B: ¬(aq r lit).kind=4:=by simpa[aq]using B
  have y:eD r lit=[aq r lit].flatMap cE:=by rw[eD,be A,wz,be B]
  refine gA Z ?_;refine lq 6 2 Z ?_;refine aJ 0 ([aq r lit]).length (PC _) (fun i=>⟨[(6,.sl 2 0 ((([aq r lit]).take i).flatMap cE).length 2),(30,.iv (lits ([aq r lit]))),(31,pI ([aq r lit]).length),(32,pI i)],[(2,io (aF 2 ((([aq r lit]).take i).flatMap cE) Atom.c))],3⟩) (fun _=>True) [1] ac
   (zM (bi ⟨.iv (HV r lit (by omega)),rfl,.of_eq (C8 (by simp only[Qq];omega)),rfl,bi trivial⟩) (zS trivial)) fun i Y _=>?_
  have G:=ob (([aq r lit]).take i);have J:(([aq r lit]).take i).length<=([aq r lit]).length:=by rw[QI];exact SZ _ _
  have D:([aq r lit]).length<=1000000000000:=by first|omega|(rw[Qq];omega)
  refine zJ Z Z (fun b=>?_) fun b=>?_
  .have b:i<([aq r lit]).length:=zN b;have hs:=bQ (f:=cE) b;have j:((([aq r lit]).getD i co).kind=1∨(([aq r lit]).getD i co).kind=2)->(([aq r lit]).take (i+1)).flatMap cE=(([aq r lit]).take i).flatMap cE++ [(([aq r lit]).getD i co).atom]:=fun h=>by rw[hs,cE,am h]
   have C: ¬((([aq r lit]).getD i co).kind=1∨(([aq r lit]).getD i co).kind=2)->(([aq r lit]).take (i+1)).flatMap cE=(([aq r lit]).take i).flatMap cE:=fun h=>by rw[hs,cE,be h,Qp]
   refine zJ Z Z (fun u=>?_) fun u=>?_
   .have u: ¬(([aq r lit]).getD i co).kind=1:=by simpa using u
    refine zJ Z Z (fun x=>?_) fun x=>?_
    .have x:(([aq r lit]).getD i co).kind=2:=by simpa using x
     have hs:=j (.inr x);refine gA Z ⟨b,ac,[5],zM ⟨.row (by rw[hs,Pp];rfl),rfl,bi (bi (bi ac))⟩ (hR Z (by rw[hs,PH];rfl) Z ac)⟩
    .have x: ¬(([aq r lit]).getD i co).kind=2:=by simpa using x
     have hs:=C (fun h=>h.elim u x);refine gA Z ⟨b,ac,[2],zM ⟨.row (by rw[hs]),rfl,bi (bi (bi ac))⟩ (hR Z (by rw[hs]) Z ac)⟩
   .have u:(([aq r lit]).getD i co).kind=1:=by simpa using u
    have hs:=j (.inl u);refine gA Z ⟨b,ac,[5],zM ⟨.row (by rw[hs,Pp];rfl),rfl,bi (bi (bi ac))⟩ (hR Z (by rw[hs,PH];rfl) Z ac)⟩
  .have b:([aq r lit]).length<=i:=zG b;rw[PJ b] at*
   refine gA Z (dt (by first|exact .inr Z|exact .inl Z) Z Z (by rw[y]) (by rw[y]))
theorem d110(p:Prog)(r:aw)(lit:Int)(h1:lit<r.body.length)(hb:r.size<=1000000000000):bF prog 122 [pI lit,.ptr 0 0,.ptr 1 0] [az r.c,.cells [.iv (cG p)]] (pB ((eD r lit).any fun x=>tM p x)) [(0,io (az r.c)),(1,io (.cells [.iv (cG p)]))] 2:=by
 refine au ab func122 Z (by decide) ntmps122 Z (by simp) ?_;refine gA Z (zp (N6 r lit h1 hb) ?_);refine gA Z (zq [1] (N3 p (eD r lit)) ?_);refine gA Z (zD [] Z (zW (zK (zO ac))))
theorem d114(p:Prog)(r:aw)(lit:Int)(h1:lit<r.body.length)(hb:r.size<=1000000000000):bF prog 126 [pI lit,.ptr 0 0,.ptr 1 0] [az r.c,.cells [.iv (cG p)]] (pB ((eD r lit).any fun x=>wT p x)) [(0,io (az r.c)),(1,io (.cells [.iv (cG p)]))] 2:=by
 refine au ab func126 Z (by decide) ntmps126 Z (by simp) ?_;refine gA Z (zp (N6 r lit h1 hb) ?_);refine gA Z (zq [1] (NZ p (eD r lit)) ?_);refine gA Z (zD [] Z (zW (zK (zO ac))))
def kQ(r:aw)(lit:Int):Bool:=if lit<0 then r.head.aj.any fun x=>lc (x.kind=3) else if(aq r lit).kind=4 then((aq r lit).ar.any fun x=>lc (x.kind=4))||dx (bb (aq r lit).agg) (aq r lit).bC else kw
theorem O8(r:aw)(lit:Int)(h1:lit<r.body.length)(hb:r.size<=100000000):Pure prog 129 [ag r.c,pI lit] (pB (kQ r lit)):=by
 have G:=Lit.aG r.body;have R:Lit.aB r.body<=r.size:=R5 _ _;refine ah ab func129 Z (by decide) ntmps129 Z (by simp) Z ?_;refine zJ Z Z (fun b=>?_) fun b=>?_
 .have b:lit<0:=by simpa using b
  refine gA Z (zq [] (d157 r.head.aj) ?_);refine gA Z (zL (.of_eq ?_));rw[kQ,am b];rfl
 have b: ¬lit<0:=by simpa using b
 have hk:lit.toNat<r.body.length:=by omega
 have B:=Lit.bU r.body lit.toNat hk;have C:=(aq r lit).jv;have I:(aq r lit).size<=Lit.aB r.body:=B;have D:=jw (aq r lit).agg;refine zJ Z Z (fun j=>?_) fun j=>?_
 .have j: ¬(aq r lit).kind=4:=by simpa[aq]using j
  refine gA Z (zL (.of_eq ?_));rw[kQ,be b,be j]
 have j:(aq r lit).kind=4:=by simpa[aq]using j
 refine gA Z (bx [] (bF.le (aa:=[.iv (tA (aq r lit).ar),.b7 (.func 161) [] []]) (d159 (aq r lit).ar) ⟨.iv (mq _),.refl _,ac⟩) Z Z Z Z Z Z Z Z ?_);refine zE Z Z (fun u=>?_) fun u=>?_
 .have u:((aq r lit).ar.any fun x=>lc (x.kind=4))=kw:=u;have A:=bA (bb (aq r lit).agg) (aq r lit).bC;have y:=b5 (occ:=bb (aq r lit).agg) (s:=(aq r lit).bC);refine gA Z (zd [] (d127 (aq r lit).agg (by omega)) ?_);refine gA Z (zL (.of_eq ?_));refine(ma ?_:pB (lc (dw .str (aE (bb (aq r lit).agg)) (aq r lit).bC 0>0))=_);rw[kQ,be b,am j,u,y,A,Rr];by_cases J:oz (bb (aq r lit).agg) (aq r lit).bC=0<;>simp[J];omega
 .have u:((aq r lit).ar.any fun x=>lc (x.kind=4))=jp:=u;refine gA Z (zL (.of_eq ?_));rw[kQ,be b,am j,u];rfl
theorem d116(r:aw)(lit:Int)(h1:lit<r.body.length)(hb:r.size<=100000000):bF prog 128 [pI lit,.ptr 0 0] [az r.c] (pB (kQ r lit)) [(0,io (az r.c))] 1:=by
 refine au ab func128 Z (by decide) ntmps128 Z (by simp) ?_;refine gA Z (zp (O8 r lit h1 hb) ?_);refine gA Z (zD [] Z (zW (zK ac)))
def pU(r:aw)(lit:Int):Pos:=if lit<0 then r.at_ else(aq r lit).at
theorem FA(r:aw)(lit:Int)(h1:lit<r.body.length):Pure prog 133 [ag r.c,pI lit] (ag [iI (pU r lit).line,iI (pU r lit).FT]):=by
 refine ah ab func133 Z (by decide) ntmps133 Z (by simp) Z ?_;refine zJ Z Z (fun b=>?_) fun b=>?_
 .have b:lit<0:=by simpa using b
  refine gA Z (zL (.of_eq ?_));rw[pU,am b];rfl
 have b: ¬lit<0:=by simpa using b
 refine gA Z (zL (.of_eq ?_));rw[pU,be b];rfl
def lf(r:aw)(l:Lit):Nat:=if l.kind=4 then(kA r l.agg).length else 0
def DC(r:aw):Nat:=r.body.foldl (fun n l=>n+lf r l) (aE (aD r)).length
theorem u4(r:aw)(l:Lit):lf r l<=l.size:=by
 unfold lf;split
 .have h1:(kA r l.agg).length<=(aE (bb l.agg)).length:=QK _ _;have b:=kq (bb l.agg);have j:=jw l.agg;have u:=l.jv;omega
 .omega
theorem xo(r:aw): ∀(l:List Lit) (n:Nat),l.foldl (fun n l=>n+lf r l) n<=n+Lit.aB l
 | [],n=>by simp
 |x::t,n=>by
  have h1:=xo r t (n+lf r x);have b:=u4 r x;simp only[Qg,Lit.aB];omega
theorem O9(r:aw)(hb:r.size<=100000000):Pure prog 121 [.iv (cq r)] (pI (DC r)):=by
 have y:=Lit.aG r.body;have G:Lit.aB r.body<=r.size:=R5 _ _;have J:=wg r;have A:=kq (aD r);refine ah ab func121 Z (by decide) ntmps121 Z (by simp) Z ?_;refine gA Z ?_;refine aJ 0 r.body.length (PC _) (fun i=>⟨[(0,.iv (cq r)),(3,pI (((r.body.take i).foldl (fun n l=>n+lf r l) (aE (aD r)).length:Nat))),(15,.iv (lits r.body)),(16,pI r.body.length),(17,pI i)],[],0⟩) (fun _=>True) [] ac
  (zW trivial) fun i I _=>?_
 have B:=xo r (r.body.take i) (aE (aD r)).length;have C:=Lit.sj r.body i;refine zJ Z Z (fun h1=>?_) fun h1=>?_
 .have h1:i<r.body.length:=by simpa using h1
  have hs:=gQ (g:=fun n l=>n+lf r l) (b:=(aE (aD r)).length) h1;have D:=Lit.bU r.body i h1;have x:=(r.body.getD i co).jv;have u:=u4 r (r.body.getD i co);refine zJ Z Z (fun j=>?_) fun j=>?_
  .have j:(r.body.getD i co).kind=4:=by simpa using j
   rw[lf,am j]at hs u;refine gA Z (zq [] (d79 r (r.body.getD i co).agg (by omega)) ?_);refine gA Z ⟨h1,ac,[],zM (bi ⟨.of_eq (C8 (by rw[hs];rfl)),rfl,bi (bi (bi ac))⟩) ac⟩
  .have j: ¬(r.body.getD i co).kind=4:=by simpa using j
   rw[lf,be j]at hs;refine gA Z ⟨h1,ac,[],zM (bi ⟨.of_eq (C8 (by rw[hs];rfl)),rfl,bi (bi (bi ac))⟩) ac⟩
 .have h1:r.body.length<=i:=by simpa using h1
  refine gA Z (zL (.of_eq ?_));rw[PJ h1];rfl
section
section
variable {may:List ak->Expr->Bool} {more:List ak->fC->Bool} {body:List Lit}
theorem qS: ∀(n:Nat) (occ:List ak),cy (bE body) occ<n->bS (may (cY may more body n occ)) (more (cY may more body n occ)) (cY may more body n occ) body=is
 |0,occ,h=>by omega
 |n+1,occ,h=>by
  cases hv:bS (may occ) (more occ) occ body with
  |none=>rw[dZ hv];exact hv
  |some v=>
   rw[dY hv];refine qS n _ ?_;obtain⟨g1,g2⟩:=jm hv;have j:=o6 g1 g2;have b:cy (bE body) (occ++ [v])=cy (bE body) (fS occ v):=by
    unfold cy;congr 2
    funext x
    congr 1;rw[QN,bB,bB,dd,PI,PA]
   omega
theorem qV(occ:List ak):bS (may (bT may more body occ)) (more (bT may more body occ)) (bT may more body occ) body=is:=by
 refine qS _ _ ?_;have h1:=o7 (bE body) (occ++body.flatMap bh);have b:=iW body;omega
theorem mF: ∀(n:Nat) (occ:List ak),∀x∈occ,x∈cY may more body n occ
 |0,occ,x,h=>h
 |n+1,occ,x,h=>by
  cases hv:bS (may occ) (more occ) occ body with
  |none=>rw[dZ hv];exact h
  |some v=>rw[dY hv];exact mF n _ x (P6 _ h)
theorem mz{m1:Expr->Bool}{m2:fC->Bool}{occ:List ak}: ∀{l:List Lit},bS m1 m2 occ l=is-> ∀x∈l,kX m1 m2 occ x=is
 | [],_,x,hx=>by cases hx
 |y::r,h,x,hx=>by
  simp only[bS]at h;split at h
  .cases h
  .rename_i h1;rcases Px.1 hx with rfl|hx
   .exact h1
   .exact mz h x hx
theorem qN{m1:Expr->Bool}{m2:fC->Bool}{occ:List ak}{v:ak}: ∀{l:List Lit},bS m1 m2 occ l=io v-> ∃x∈l,kX m1 m2 occ x=io v
 | [],h=>by cases h
 |y::r,h=>by
  simp only[bS]at h;split at h
  .rename_i w j;exact⟨y,Pz,j.trans h⟩
  .obtain⟨x,u,b⟩:=qN h;exact⟨x,Py _ u,b⟩
variable (hmay: ∀a b:List ak,(∀x∈a,x∈b)-> ∀e,may a e=jp->may b e=jp) (hmore: ∀a b:List ak,(∀x∈a,x∈b)-> ∀e,more a e=jp->more b e=jp)
include hmay hmore
theorem A1{occ C:List ak}(b: ∀x∈occ,x∈C){l:Lit}{v:ak}(h:kX (may occ) (more occ) occ l=io v)(hC:kX (may C) (more C) C l=is):v∈C:=by
 have hl: ∀y,y∉C->dx C y=kw:=fun y I=>eB.2 I;have hnew:=(sQ h).2;refine QO fun D=>?_;unfold kX at h hC;by_cases j:(fw (may occ) occ l).2=jp
 .rw[am j]at h;simp only[Pl]at h;have B:(fw (may C) C l).2=jp:=by
   unfold fw at j h ⊢;split at j
   .cases j
   .rename_i G;rw[be G]at h ⊢;split at j
    .rename_i h1;rw[am h1]at h;have A:l.left.var=v:=h;rw[am ⟨h1.1,by rw[A];exact hl v D,hmay occ C b _ h1.2.2⟩]
    .rename_i h1;rw[be h1]at h;split at j
     .rename_i u;rw[am u]at h;have A:l.right.var=v:=h;split
      .rfl
      .rw[am ⟨u.1,by rw[A];exact hl v D,hmay occ C b _ u.2.2⟩]
     .cases j
  rw[am B]at hC;cases hC
 .rw[be j]at h;split at h
  .rename_i u;simp only[Pl]at h;split at hC
   .cases hC
   .rw[am ⟨u.1,by rw[h];exact hl v D,hmore occ C b _ u.2.2⟩]at hC;cases hC
  .cases h
theorem mE{C:List ak}(hC:bS (may C) (more C) C body=is): ∀(n:Nat) (occ:List ak),(∀x∈occ,x∈C)-> ∀x∈cY may more body n occ,x∈C
 |0,occ,h,x,hx=>h x hx
 |n+1,occ,h,x,hx=>by
  cases hv:bS (may occ) (more occ) occ body with
  |none=>rw[dZ hv]at hx;exact h x hx
  |some v=>
   rw[dY hv]at hx;refine mE hC n _ (fun y hy=>?_) x hx;rcases PI.1 hy with hy|hy
   .exact h y hy
   .rw[PA]at hy;subst hy;obtain⟨l,hl,b⟩:=qN hv;exact A1 hmay hmore h b (mz hC l hl)
theorem qT{j b:List ak}(h: ∀x∈j,x∈b): ∀x∈bT may more body j,x∈bT may more body b:=by
 refine mE hmay hmore (qV b) _ _ fun x hx=>?_;refine mF _ _ x ?_;rcases PI.1 hx with hx|hx
 .exact P6 _ (h x hx)
 .exact QU _ hx
end
theorem pt(a b:List ak)(h: ∀x∈a,x∈b)(e:Expr)(hc:aW a e=jp):aW b e=jp:=by
 unfold aW at*
 rw[P8] at*
 exact fun x j=>bB.2 (h x (bB.1 (hc x j)))
theorem xO(a b:List ak)(h: ∀x∈a,x∈b)(e:Expr)(hc:ch a e=jp):ch b e=jp:=by
 unfold ch at*
 cases hk:lc (e.kind=2) with
 |true=>simp
 |false=>
  rw[hk,Rr,Qf]at hc;rw[Rr,Qf];exact⟨hc.1,bB.2 (h _ (bB.1 hc.2))⟩
def zB(r:aw)(a:fC):List ak:=((aE (bb a)).map (·.1)).filter fun x=>dx (aD r) x
def zf(r:aw)(a:fC):List ak:=bT (fun b=>aW b) (fun _=>fun _=>kw) a.body (zB r a)
theorem HI{r:aw}{a:fC}{occ:List ak}(h:EF r a occ)(s:ak):dx (bT (fun occ=>aW occ) (fun _=>fun _=>kw) a.body occ) s=dx (zf r a) s:=by
 have j: ∀x,x∈zB r a↔x∈occ:=fun x=>by
  unfold zB;rw[PZ,(dM (bb a)).2 x,bB,h.2 x]
 rw[QN,bB,bB];exact⟨qT (more:=fun _=>fun _=>kw) pt (fun _ _ _ _ h=>h) (fun x b=>(j x).2 b) s,qT (more:=fun _=>fun _=>kw) pt (fun _ _ _ _ h=>h) (fun x b=>(j x).1 b) s⟩
def sT(r:aw)(m:NM):Bool:=m.any fun x=>!dx (bP r) x.1
theorem mg{r:aw}{m:NM}(h: ∀j,j<m.length-> ∀x,m[j]? =io x->dx (bP r) x.1=jp):sT r m=kw:=by
 refine Qm.2 fun x u=>?_;obtain⟨j,b⟩:=Qd u;rw[h j (Pm.1 b).1 x b];simp
theorem og{r:aw}{m:NM}{j:Nat}{x:(KC.str).K×Int}(h:m[j]? =io x)(b:dx (bP r) x.1=kw):sT r m=jp:=
 QJ.2 ⟨x,P0 h,by rw[b];rfl⟩
def kD(r:aw)(a:fC):NM:=(aE (bb a)).filter fun x=>!dx ((kA r a).map (·.1)) x.1
def jY(r:aw)(lit:Int):Bool:=
 if lit<0 then sT r (aE (cH r.head))
 else if(aq r lit).kind=4 then(kA r (aq r lit).agg).any (fun x=>!dx (zf r (aq r lit).agg) x.1)||sT r (bump (kD r (aq r lit).agg) (aq r lit).bC)
 else sT r (aE (cJ (aq r lit)))
theorem OJ(a:Atom)(hb:a.aj.length<=100000000000):bF prog 135 [.mp 0,ag a.c] [.eC] (.bm []) [(0,io (cI (aE (cH a))))] 1:=
 bF.J0 (d88 [] a (by simp;omega)) ⟨rA,ac⟩
theorem OI(l:Lit)(hb:l.size<=100000000000):bF prog 156 [.mp 0,ag l.c] [.eC] (.bm []) [(0,io (cI (aE (cJ l))))] 1:=
 bF.J0 (d89 l [] (by simp;omega)) ⟨rA,ac⟩
theorem u5(f:ak->Bool)(s:ak): ∀(m:NM),dw .str (m.filter fun x=>f x.1) s 0=if f s=jp then dw .str m s 0 else 0
 | []=>by simp[dw]
 |(a,b)::r=>by
  have j:=u5 f s r;cases hf:f a with
  |true=>
   rw[List.filter_cons_of_pos (by exact hf)];simp only[dw];split
   .rename_i h;subst h;rw[am hf]
   .exact j
  |false=>
   rw[List.filter_cons_of_neg (by simp[hf]),j];simp only[dw];split
   .rename_i h;split
    .rename_i u;subst u;rw[hf]at h;cases h
    .rfl
   .rfl
theorem HT(r:aw)(a:fC)(s:ak):0<=dw .str (kD r a) s 0∧dw .str (kD r a) s 0<=oz (bb a) s:=by
 have h1:=bA (bb a) s;have b:=u5 (fun x=>!dx ((kA r a).map (·.1)) x) s (aE (bb a));unfold kD;rw[b,h1];split<;>omega
set_option maxHeartbeats 2000000 in
theorem O6(r:aw)(lit:Int)(hl:lit<r.body.length)(hb:r.size<=10000000):Pure prog 132 [.iv (cq r),pI lit] (pB (jY r lit)):=by
 have s0:=Lit.aG r.body;have h0:Lit.aB r.body<=r.size:=R5 _ _;have p0:r.head.aj.length<=r.size:=Sd _ _;have x0:=zo r;refine ah ab func132 Z (by decide) ntmps132 Z (by simp) Z ?_;refine gA Z (zq [] (d73 r (by omega)) ?_);refine zJ Z Z (fun D=>?_) fun D=>?_
 .have D:lit<0:=by simpa using D
  refine gA Z (zq [1] (OJ r.head (by omega)) ?_);refine gA Z ?_;have e0:(aE (cH r.head)).length<=1000000000000:=by have:=kq (cH r.head);have:=iu r.head;omega
  refine eY (aE (cH r.head)) (fun vs=>⟨[(5,.mp 0),(76,.ptr 2 0)],[(0,io (cI (aE (bP r)))),(2,io (.bL .str w5 (aE (cH r.head)) vs is))],3⟩) (fun vs=> ∀j∈vs,∀x,(aE (cH r.head))[j]? =io x->dx (bP r) x.1=jp) [] (by simp)
   (zW (zC (hI Z Z (.inl Z) Z trivial))) fun vs G=>?_
  refine fk Z ac (dq Z Z Z Z Z (by decide) (fun u=>?_) fun j x b B=>?_)
  .refine gA Z (zL (.of_eq ?_));refine(ma ?_:pB kw=_);rw[jY,am D,mg fun j B x b=>G j (u j B) x b]
  .have Y:=bA (bP r) x.1;have A:=b5 (occ:=bP r) (s:=x.1);refine zJ Z Z (fun g1=>?_) fun g1=>?_
   .have g1:dx (bP r) x.1=kw:=by
     have:=zT g1;rw[A];simp;omega
    refine gA Z (zL (.of_eq ?_));refine(ma ?_:pB jp=_);rw[jY,am D,og b g1]
   .have g1:dx (bP r) x.1=jp:=by
     have:=zF g1;rw[A];simp;omega
    refine gA Z ?_
    exact⟨j,x,b,B,fun i hi y C=>by
     rcases Px.1 hi with rfl|hi
     .rw[b]at C;cases C;exact g1
     .exact G i hi y C,[],zW (zC (hI Z Z (.inr Z) Z ac))⟩
 have D: ¬lit<0:=by simpa using D
 have hk:lit.toNat<r.body.length:=by omega
 have o0:=Lit.bU r.body lit.toNat hk;have q0:=(aq r lit).jv;have v0:(aq r lit).size<=Lit.aB r.body:=o0;have r0:=jw (aq r lit).agg;have n0:=lg (aq r lit);refine zE Z Z (fun I=>?_) fun I=>?_
 .have I: ¬(aq r lit).kind=4:=by simpa[aq]using I
  refine gA Z (zq [1] (OI (aq r lit) (by omega)) ?_);refine gA Z ?_;have e0:(aE (cJ (aq r lit))).length<=1000000000000:=by have:=kq (cJ (aq r lit));omega
  refine eY (aE (cJ (aq r lit))) (fun vs=>⟨[(5,.mp 0),(76,.ptr 3 0)],[(0,io (cI (aE (bP r)))),(3,io (.bL .str w5 (aE (cJ (aq r lit))) vs is))],4⟩) (fun vs=> ∀j∈vs,∀x,(aE (cJ (aq r lit)))[j]? =io x->dx (bP r) x.1=jp) [] (by simp)
   (zW (zC (hI Z Z (.inl Z) Z trivial))) fun vs G=>?_
  refine fk Z ac (dq Z Z Z Z Z (by decide) (fun u=>?_) fun j x b B=>?_)
  .refine gA Z (zL (.of_eq ?_));refine(ma ?_:pB kw=_);rw[jY,be D,be I,mg fun j B x b=>G j (u j B) x b]
  .have Y:=bA (bP r) x.1;have A:=b5 (occ:=bP r) (s:=x.1);refine zJ Z Z (fun g1=>?_) fun g1=>?_
   .have g1:dx (bP r) x.1=kw:=by
     have:=zT g1;rw[A];simp;omega
    refine gA Z (zL (.of_eq ?_));refine(ma ?_:pB jp=_);rw[jY,be D,be I,og b g1]
   .have g1:dx (bP r) x.1=jp:=by
     have:=zF g1;rw[A];simp;omega
    refine gA Z ?_
    exact⟨j,x,b,B,fun i hi y C=>by
     rcases Px.1 hi with rfl|hi
     .rw[b]at C;cases C;exact g1
     .exact G i hi y C,[],zW (zC (hI Z Z (.inr Z) Z ac))⟩
 have I:(aq r lit).kind=4:=by simpa[aq]using I
 refine gA Z (qM [] (d161 r (aq r lit).agg (by omega)) Z Z Z Z Z Z Z fun q h' n' hR=>?_);obtain⟨ok,⟨occ,i0,hok⟩,rfl,rfl,rfl⟩:=hR;have a0: ∀s,dx ok s=dx (zf r (aq r lit).agg) s:=fun s=>by rw[hok];exact HI i0 s
 refine⟨_,rfl,?_⟩;have z0:=kq (bb (aq r lit).agg);have w0:(kA r (aq r lit).agg).length<=(aE (bb (aq r lit).agg)).length:=QK _ _;have t0:(kD r (aq r lit).agg).length<=(aE (bb (aq r lit).agg)).length:=QK _ _;have j0:=(dM (bb (aq r lit).agg)).1;refine gA Z (zq [] (d79 r (aq r lit).agg (by omega)) ?_);refine gA Z ?_;refine eY (kA r (aq r lit).agg) (fun vs=>⟨[(0,.iv (cq r)),(5,.mp 0),(7,.ptr 2 0),(8,.mp 3),(43,.ptr 5 0)],[(0,io (cI (aE (bP r)))),(2,io (az (aq r lit).c)),(3,io (cI (aE ok))),(5,io (.bL .str w5 (kA r (aq r lit).agg) vs is))],6⟩) (fun vs=> ∀j∈vs,∀x,(kA r (aq r lit).agg)[j]? =io x->dx (zf r (aq r lit).agg) x.1=jp) [] (by simp)
  (zW (zC (zK (zC (hI Z Z (.inl Z) Z trivial))))) fun vs G=>?_
 refine fk Z ac (dq Z Z Z Z Z (by decide) (fun u=>?_) fun j x b B=>?_);rotate_left
 .have Y:=bA ok x.1;have A:=b5 (occ:=ok) (s:=x.1);have J:=a0 x.1;refine zJ Z Z (fun g1=>?_) fun g1=>?_
  .have g1:dx (zf r (aq r lit).agg) x.1=kw:=by
    have:=zT g1;rw[<-J,A];simp;omega
   refine gA Z (zL (.of_eq ?_));refine(ma ?_:pB jp=_);rw[jY,be D,am I,QJ.2 ⟨x,P0 b,by rw[g1];rfl⟩,Si]
  .have g1:dx (zf r (aq r lit).agg) x.1=jp:=by
    have:=zF g1;rw[<-J,A];simp;omega
   refine gA Z ?_
   exact⟨j,x,b,B,fun i hi y C=>by
    rcases Px.1 hi with rfl|hi
    .rw[b]at C;cases C;exact g1
    .exact G i hi y C,[],zW (zC (zK (zC (hI Z Z (.inr Z) Z ac))))⟩
 have hA:(kA r (aq r lit).agg).any (fun x=>!dx (zf r (aq r lit).agg) x.1)=kw:=Qm.2 fun x b=>by
  obtain⟨j,B⟩:=Qd b;rw[G j (u j (Pm.1 B).1) x B];simp
 refine gA Z (zq [] (d127 (aq r lit).agg (by omega)) ?_);refine gA Z (zq [] (d79 r (aq r lit).agg (by omega)) ?_);refine gA Z ?_;refine eY (kA r (aq r lit).agg) (fun vs=>⟨[(5,.mp 0),(6,.mp 6),(7,.ptr 2 0),(59,.ptr 8 0)],[(0,io (cI (aE (bP r)))),(2,io (az (aq r lit).c)),(6,io (cI ((fO (kA r (aq r lit).agg) vs).foldl (fun m k=>jA .str m k) (aE (bb (aq r lit).agg))))),(8,io (.bL .str w5 (kA r (aq r lit).agg) vs is))],9⟩) (fun vs=>vs.Nodup∧ ∀j∈vs,j<(kA r (aq r lit).agg).length) [] ⟨Qa,by simp⟩
  (zW (zC (zK (zC (hI Z Z (.inl Z) Z trivial))))) fun b0 f0=>?_
 obtain⟨c0,d0⟩:=f0;refine fk Z ac (dq Z Z Z Z Z (by decide) (fun R=>?_) fun j x b B=>?_);rotate_left
 .have hk:=jM (kA r (aq r lit).agg) b0 j x b;refine gA Z ⟨j,x,b,B,⟨P2.2 ⟨B,c0⟩,fun i hi=>(Px.1 hi).elim (fun h=>h▸(Pm.1 b).1) (d0 i)⟩,[],zW (zC (zK (hM Z (by rw[hk,List.foldl_append];rfl) Z (hI Z Z (.inr Z) Z ac))))⟩
 have k0:(fO (kA r (aq r lit).agg) b0).foldl (fun m k=>jA .str m k) (aE (bb (aq r lit).agg))=kD r (aq r lit).agg:=by
  rw[mD _ j0];unfold kD;congr 1
  funext x
  congr 1;rw[QN,bB,bB,(jd _ b0 c0 d0 R).mem_iff]
 rw[k0];have m0:=HT r (aq r lit).agg (aq r lit).bC;have g0:=fG (bb (aq r lit).agg) (aq r lit).bC;refine gA Z ?_;have e0:(bump (kD r (aq r lit).agg) (aq r lit).bC).length<=1000000000000:=by have:=sD (kD r (aq r lit).agg) (aq r lit).bC (dw .str (kD r (aq r lit).agg) (aq r lit).bC 0+1);unfold bump;omega
 refine eY (bump (kD r (aq r lit).agg) (aq r lit).bC) (fun vs=>⟨[(5,.mp 0),(76,.ptr 9 0)],[(0,io (cI (aE (bP r)))),(9,io (.bL .str w5 (bump (kD r (aq r lit).agg) (aq r lit).bC) vs is))],10⟩) (fun vs=> ∀j∈vs,∀x,(bump (kD r (aq r lit).agg) (aq r lit).bC)[j]? =io x->dx (bP r) x.1=jp) [] (by simp)
  (zW (zC (hI Z Z (.inl Z) Z trivial))) fun vs G=>?_
 refine fk Z ac (dq Z Z Z Z Z (by decide) (fun u=>?_) fun j x b B=>?_)
 .refine gA Z (zL (.of_eq ?_));refine(ma ?_:pB kw=_);rw[jY,be D,am I,hA,Rr,mg fun j B x b=>G j (u j B) x b]
 .have Y:=bA (bP r) x.1;have A:=b5 (occ:=bP r) (s:=x.1);refine zJ Z Z (fun g1=>?_) fun g1=>?_
  .have g1:dx (bP r) x.1=kw:=by
    have:=zT g1;rw[A];simp;omega
   refine gA Z (zL (.of_eq ?_));refine(ma ?_:pB jp=_);rw[jY,be D,am I,hA,Rr,og b g1]
  .have g1:dx (bP r) x.1=jp:=by
    have:=zF g1;rw[A];simp;omega
   refine gA Z ?_
   exact⟨j,x,b,B,fun i hi y C=>by
    rcases Px.1 hi with rfl|hi
    .rw[b]at C;cases C;exact g1
    .exact G i hi y C,[],zW (zC (hI Z Z (.inr Z) Z ac))⟩
end
end Go.Proofs.YtllkaddcplhklaaGreatDoor
namespace Go.Proofs.YtllkaddcplhklaaGreatDoor
open Go Go.Al
def HS(a b:ak):Prop:=lW a<lW b
theorem Kb(a b:ak):Op.bytesLess a.toList b.toList=jp↔HS a b:=by
 rw[ByteArray.toList_eq,ByteArray.toList_eq,bytesLess_eq,decide_eq_true_eq];rfl
theorem vN{a b:ak}(h:lW a=lW b):a=b:=by rw[<-rz a,<-rz b,h]
theorem u3{a b c:ak}(h:HS a b)(k:HS b c):HS a c:=List.lt_trans h k
theorem kZ(a:ak): ¬HS a a:=List.lt_irrefl _
theorem HR{a b:ak}(h: ¬a=b)(k: ¬HS a b):HS b a:=by
 refine QO fun j=>h (vN (Sw ?_ ?_))
 .exact S4.1 j
 .exact S4.1 k
abbrev vH(l:List ak):Prop:=l.Pairwise HS
theorem s5: ∀{l:List ak} (_:vH l) (s:ak),vH (ins l s)
 | [],_,s=>List.pairwise_singleton _ _
 |x::r,h,s=>by
  obtain⟨h1,u⟩:=P3.1 h;simp only[ins];split
  .exact h
  .rename_i j;split
   .rename_i b;have b:=(Kb x s).1 b;refine P3.2 ⟨fun y hy=>?_,s5 u s⟩;rcases kY.1 hy with hy|rfl
    .exact h1 y hy
    .exact b
   .rename_i b;have b:HS s x:=HR j fun h=>b ((Kb x s).2 h);refine P3.2 ⟨fun y hy=>?_,h⟩;rcases Px.1 hy with rfl|hy
    .exact b
    .exact u3 b (h1 y hy)
theorem oI{l:List ak}(h:vH l)(s:ak):vH (fS l s):=by rw[uw];exact s5 h s
theorem lT: ∀{m l:List ak} (_:vH l),vH (mQ l m)
 | [],_,h=>h
 |x::r,_,h=>lT (m:=r) (oI h x)
theorem nT: ∀{a b:List ak},vH a->vH b->(∀x,x∈a↔x∈b)->a=b
 | [],[],_,_,_=>rfl
 | [],y::s,_,_,h=>by have:=(h y).2 Pz;cases this
 |x::r,[],_,_,h=>by have:=(h x).1 Pz;cases this
 |x::r,y::s,ha,hb,h=>by
  obtain⟨A,a2⟩:=P3.1 ha;obtain⟨B,C⟩:=P3.1 hb;have u:x=y:=by
   rcases Px.1 ((h x).1 Pz) with h1|h1
   .exact h1
   .rcases Px.1 ((h y).2 Pz) with h2|h2
    .exact h2.symm
    .exact absurd (u3 (B x h1) (A y h2)) (kZ _)
  subst u;rw[nT a2 C fun z=>?_];constructor
  .intro j;rcases Px.1 ((h z).1 (Py _ j)) with rfl|h3
   .exact absurd (A z j) (kZ _)
   .exact h3
  .intro j;rcases Px.1 ((h z).2 (Py _ j)) with rfl|h3
   .exact absurd (B z j) (kZ _)
   .exact h3
theorem iH{l:List ak}(h:l.Nodup):vH (dh l):=by
 have h1:=gI (l.map lW);rw[<-pG]at h1;have C:(dh l).Nodup:=by
  have D:((dh l).map lW).Perm (l.map lW):=by rw[pG];exact eK _
  have u:(l.map lW).Nodup:=List.Pairwise.map lW (fun a b j e=>j (vN e)) h;have:=D.nodup_iff.2 u;exact List.Pairwise.of_map lW (fun a b j e=>j (by rw[e])) this
 have x:(dh l).Pairwise fun a b=>lW a<=lW b:=(RG.1 h1).imp fun{a b} j=>zT j;refine(List.Pairwise.and x C).imp fun{a b} j=>?_;obtain⟨y,A⟩:=j;exact QO fun B=>A (vN (Sw y (S4.1 B)))
theorem GZ{m:NM}{l:List ak}(hm:(m.map (·.1)).Nodup)(hl:vH l)(h: ∀x,x∈m.map (·.1)↔x∈l):eF m=l:=by
 refine nT (iH hm) hl fun x=>?_;rw[eF,ku];exact h x
theorem Dp{occ l:List ak}(hl:vH l)(h: ∀x,x∈occ↔x∈l):eF (aE occ)=l:=
 GZ (dM occ).1 hl fun x=>((dM occ).2 x).trans (h x)
theorem ny{x:ak}: ∀{l:List Term} {a:List ak},x∈l.foldl yU a↔x∈a∨x∈l.flatMap fun t=>if t.kind=1 then[t.var] else[]
 | [],a=>by simp
 |t::r,a=>by
  rw[Qg,ny,Qv,PI];unfold yU;split
  .rw[dd,PA,or_assoc]
  .simp
theorem wv{x:ak}{a:Atom}:x∈px a↔x∈cH a:=by
 unfold px cH;rw[ny];simp
def Nb(a:List ak×Bool)(l:Lit):List ak×Bool:=if(jR l a.1).2=jp then(fS a.1 (jR l a.1).1,jp) else a
def pN(body:List Lit)(k:List ak):List ak×Bool:=body.foldl Nb (k,kw)
def sE(body:List Lit):Nat->List ak->List ak
 |0,k=>k
 |n+1,k=>if(pN body k).2=jp then sE body n (pN body k).1 else(pN body k).1
theorem xN{body:List Lit}{n:Nat}{k:List ak}:sE body (n+1) k=if(pN body k).2=jp then sE body n (pN body k).1 else(pN body k).1:=rfl
def jX(r:aw):List ak:=sE r.body (3*r.body.length+1) (r.body.foldl Cg [])
section
section
variable (stp:List ak->Lit->ak×Bool)
def gS(a:List ak×Bool)(l:Lit):List ak×Bool:=if(stp a.1 l).2=jp then(fS a.1 (stp a.1 l).1,jp) else a
def gR(body:List Lit)(k:List ak):List ak×Bool:=body.foldl (gS stp) (k,kw)
def gN(body:List Lit):Nat->List ak->List ak
 |0,k=>k
 |n+1,k=>if(gR stp body k).2=jp then gN body n (gR stp body k).1 else(gR stp body k).1
variable {stp}
theorem Bq: ∀(body:List Lit) (k:List ak),(body.foldl (gS stp) (k,jp)).2=jp
 | [],k=>rfl
 |l::r,k=>by
  rw[Qg];have: ∃b,gS stp (k,jp) l=(b,jp):=by
   unfold gS;split
   .exact⟨_,rfl⟩
   .exact⟨_,rfl⟩
  obtain⟨b,hk⟩:=this;rw[hk];exact Bq r b
theorem yx: ∀{body:List Lit} {k:List ak},(body.foldl (gS stp) (k,kw)).2=kw->(body.foldl (gS stp) (k,kw)).1=k∧ ∀l∈body,(stp k l).2=kw
 | [],k,_=>⟨rfl,by simp⟩
 |l::r,k,h=>by
  rw[Qg]at h ⊢;cases hs:(stp k l).2 with
  |true=>
   have:gS stp (k,kw) l=(fS k (stp k l).1,jp):=am hs;rw[this,Bq]at h;cases h
  |false=>
   have:gS stp (k,kw) l=(k,kw):=be (by rw[hs];simp);rw[this]at h ⊢;obtain⟨h1,b⟩:=yx h
   exact⟨h1,fun x hx=>by
    rcases Px.1 hx with rfl|hx
    .exact hs
    .exact b x hx⟩
theorem zX: ∀(body:List Lit) (a:List ak×Bool),∀x∈a.1,x∈(body.foldl (gS stp) a).1
 | [],a,x,h=>h
 |l::r,a,x,h=>by
  rw[Qg];refine zX r _ x ?_;unfold gS;split
  .exact dd.2 (.inl h)
  .exact h
theorem EW{body:List Lit}: ∀(n:Nat) (k:List ak),∀x∈k,x∈gN stp body n k
 |0,k,x,h=>h
 |n+1,k,x,h=>by
  unfold gN;split
  .exact EW n _ x (zX body (k,kw) x h)
  .exact zX body (k,kw) x h
theorem p9: ∀(body:List Lit) (a:List ak×Bool),vH a.1->vH (body.foldl (gS stp) a).1
 | [],a,h=>h
 |l::r,a,h=>by
  rw[Qg];refine p9 r _ ?_;unfold gS;split
  .exact oI h _
  .exact h
theorem vj{body:List Lit}: ∀(n:Nat) (k:List ak),vH k->vH (gN stp body n k)
 |0,k,h=>h
 |n+1,k,h=>by
  unfold gN;split
  .exact vj n _ (p9 body (k,kw) h)
  .exact p9 body (k,kw) h
variable (hnew: ∀(k:List ak) (l:Lit),(stp k l).2=jp->(stp k l).1∈ [l.left.var,l.right.var,l.bC]∧(stp k l).1∉k)
include hnew
theorem Bp{c:List ak}: ∀{body:List Lit} {a:List ak×Bool},(∀l∈body,∀v∈ [l.left.var,l.right.var,l.bC],v∈c)->
  cy c (body.foldl (gS stp) a).1<=cy c a.1∧((body.foldl (gS stp) a).2=jp->a.2=jp∨cy c (body.foldl (gS stp) a).1<cy c a.1)
 | [],a,_=>⟨Pv _,fun h=> .inl h⟩
 |l::r,a,hc=>by
  have h1:cy c (gS stp a l).1<=cy c a.1∧((gS stp a l).2=jp->a.2=jp∨cy c (gS stp a l).1<cy c a.1):=by
   unfold gS;split
   .rename_i h;obtain⟨g1,g2⟩:=hnew _ _ h;have:=o6 (hc l Pz _ g1) g2;exact⟨by dsimp only;omega,fun _=> .inr this⟩
   .exact⟨Pv _,fun h=> .inl h⟩
  obtain⟨g1,g2⟩:=Bp (body:=r) (a:=gS stp a l) fun l hl=>hc l (Py _ hl);rw[Qg];refine⟨by omega,fun h=>?_⟩;rcases g2 h with g3|g3
  .rcases h1.2 g3 with g4|g4
   .exact .inl g4
   .exact .inr (by omega)
  .exact .inr (by omega)
theorem EV{body:List Lit}: ∀(n:Nat) (k:List ak),cy (bE body) k<n-> ∀l∈body,(stp (gN stp body n k) l).2=kw
 |0,k,h,_,_=>by omega
 |n+1,k,h,l,hl=>by
  unfold gN;cases hr:(gR stp body k).2 with
  |true=>
   rw[am Z];refine EV n _ ?_ l hl;obtain⟨_,g2⟩:=Bp hnew (c:=bE body) (body:=body) (a:=(k,kw)) fun l hl v b=>vw hl b;rcases g2 hr with g3|g3
   .cases g3
   .unfold gR;dsimp only at g3;omega
  |false=>
   rw[be (by simp)];obtain⟨g1,g2⟩:=yx hr;unfold gR;rw[g1];exact g2 l hl
end
theorem my{m1:Expr->Bool}{m2:fC->Bool}{occ:List ak}: ∀{l:List Lit},(∀x∈l,kX m1 m2 occ x=is)->bS m1 m2 occ l=is
 | [],_=>rfl
 |y::r,h=>by
  simp only[bS,h y Pz];exact my fun x b=>h x (Py _ b)
section
variable {stp:List ak->Lit->ak×Bool} {may:List ak->Expr->Bool} {more:List ak->fC->Bool} {body:List Lit}
variable (hE: ∀(k:List ak) (l:Lit),kX (may k) (more k) k l=if(stp k l).2=jp then io (stp k l).1 else is)
variable (hmay: ∀a b:List ak,(∀x∈a,x∈b)-> ∀e,may a e=jp->may b e=jp) (hmore: ∀a b:List ak,(∀x∈a,x∈b)-> ∀e,more a e=jp->more b e=jp)
include hE
theorem G4(k:List ak)(l:Lit)(h:(stp k l).2=jp):(stp k l).1∈ [l.left.var,l.right.var,l.bC]∧(stp k l).1∉k:=by
 have:=hE k l;rw[am h]at this;exact sQ this
include hmay hmore
theorem ET{C:List ak}(hC: ∀l∈body,kX (may C) (more C) C l=is): ∀(b:List Lit) (a:List ak×Bool),(∀l∈b,l∈body)->(∀x∈a.1,x∈C)-> ∀x∈(b.foldl (gS stp) a).1,x∈C
 | [],a,_,h,x,hx=>h x hx
 |l::r,a,hb,h,x,hx=>by
  rw[Qg]at hx;refine ET hC r _ (fun l hl=>hb l (Py _ hl)) (fun y j=>?_) x hx;unfold gS at j;split at j
  .rename_i hs;rcases dd.1 j with j|rfl
   .exact h y j
   .have:=hE a.1 l;rw[am hs]at this;exact A1 hmay hmore h this (hC l (hb l Pz))
  .exact h y j
theorem EU{C:List ak}(hC: ∀l∈body,kX (may C) (more C) C l=is): ∀(n:Nat) (k:List ak),(∀x∈k,x∈C)-> ∀x∈gN stp body n k,x∈C
 |0,k,h,x,hx=>h x hx
 |n+1,k,h,x,hx=>by
  unfold gN at hx;have b:=ET hE hmay hmore hC body (k,kw) (fun _ h=>h) h;split at hx
  .exact EU hC n _ b x hx
  .exact b x hx
theorem xt{k occ:List ak}(hk: ∀x,x∈k↔x∈occ++body.flatMap bh)(x:ak):x∈gN stp body (3*body.length+1) k↔x∈bT may more body occ:=by
 constructor
 .refine EU hE hmay hmore (C:=bT may more body occ) (mz (qV occ)) _ _ (fun y b=>?_) x;exact mF _ _ y ((hk y).1 b)
 .refine mE hmay hmore (C:=gN stp body (3*body.length+1) k) (my fun l hl=>?_) _ _ (fun y b=>EW _ _ y ((hk y).2 b)) x;have h1:=o7 (bE body) k;have j:=iW body;rw[hE,EV (G4 hE) _ _ (by omega) l hl,be (by simp)]
end
theorem x9{x:ak}: ∀{l:List Lit} {a:List ak},x∈l.foldl Cg a↔x∈a∨x∈l.flatMap bh
 | [],a=>by simp
 |t::r,a=>by
  rw[Qg,x9,Qv,PI];by_cases hk:t.kind=1
  .rw[show Cg a t=mQ a (px t.atom) from am hk,show bh t=cH t.atom from am hk,qH,wv,or_assoc]
  .rw[show Cg a t=a from be hk,show bh t=[] from be hk];simp
theorem qE: ∀(l:List Lit) (a:List ak),vH a->vH (l.foldl Cg a)
 | [],a,h=>h
 |t::r,a,h=>by
  rw[Qg];refine qE r _ ?_;unfold Cg;split
  .exact lT h
  .exact h
theorem Ek(k:List ak)(l:Lit):kX (ch k) (fun _=>kw) k l=if(jR l k).2=jp then io (jR l k).1 else is:=by
 unfold kX;rw[be (c:=l.kind=4∧_) (fun h=>Bool.noConfusion h.2.2)];have:(if(fw (ch k) k l).2=jp then io (fw (ch k) k l).1 else is)=if(jR l k).2=jp then io (jR l k).1 else is:=by
  unfold fw jR ch;split
  .rfl
  .by_cases b:l.left.kind=1<;>by_cases a2:l.right.kind=1<;>by_cases a3:l.left.kind=2<;>by_cases a4:l.right.kind=2<;>cases a5:dx k l.left.var<;>cases a6:dx k l.right.var<;>simp_all
 exact this
theorem uS(body:List Lit): ∀(n:Nat) (k:List ak),sE body n k=gN (fun k l=>jR l k) body n k
 |0,k=>rfl
 |n+1,k=>by
  rw[xN,uS body n];rfl
theorem told_plain(r:aw):eF (aE (nu r))=jX r:=by
 unfold jX;rw[uS];refine Dp (vj _ _ (qE _ _ R9)) fun x=>?_;exact(xt (may:=fun b=>ch b) (more:=fun _=>fun _=>kw) Ek xO (fun _ _ _ _ h=>h) (fun y=>by rw[x9];simp) x).symm
end
end Go.Proofs.YtllkaddcplhklaaGreatDoor
namespace Go.Proofs
open Go.Shelf
def Tryz.yi:Go.Shelf.Ren:=⟨fun|190=>84|125=>76|258=>134|128=>103|129=>104|302=>170|303=>171|304=>172|305=>173|306=>174|307=>175|308=>176|309=>177|310=>178|333=>200|329=>143|330=>144|334=>201|335=>202|336=>203|344=>211|n=>n,fun|31=>129|9=>9|3=>3|46=>147|0=>0|51=>175|53=>177|4=>4|183=>168|182=>167|131=>172|5=>5|218=>210|222=>214|228=>258|229=>259|n=>n,fun|n=>n⟩
theorem Tryz.A7:Go.Proofs.Lays.n190 Tryz.prog Tryz.yi:={
 mixed:=by kernel_rfl
 f125:=Tryz.func76.trans (congrArg io (by kernel_rfl))
 f128:=Tryz.func103.trans (congrArg io (by kernel_rfl))
 f129:=Tryz.func104.trans (congrArg io (by kernel_rfl))
 f190:=Tryz.func84.trans (congrArg io (by kernel_rfl))
 f258:=Tryz.func134.trans (congrArg io (by kernel_rfl))
 f302:=Tryz.func170.trans (congrArg io (by kernel_rfl))
 f303:=Tryz.func171.trans (congrArg io (by kernel_rfl))
 f304:=Tryz.func172.trans (congrArg io (by kernel_rfl))
 f305:=Tryz.func173.trans (congrArg io (by kernel_rfl))
 f306:=Tryz.func174.trans (congrArg io (by kernel_rfl))
 f307:=Tryz.func175.trans (congrArg io (by kernel_rfl))
 f308:=Tryz.func176.trans (congrArg io (by kernel_rfl))
 f309:=Tryz.func177.trans (congrArg io (by kernel_rfl))
 f310:=Tryz.func178.trans (congrArg io (by kernel_rfl))
 f329:=Tryz.func143.trans (congrArg io (by kernel_rfl))
 f330:=Tryz.func144.trans (congrArg io (by kernel_rfl))
 f333:=Tryz.func200.trans (congrArg io (by kernel_rfl))
 f334:=Tryz.func201.trans (congrArg io (by kernel_rfl))
 f335:=Tryz.func202.trans (congrArg io (by kernel_rfl))
 f336:=Tryz.func203.trans (congrArg io (by kernel_rfl))
 f344:=Tryz.func211.trans (congrArg io (by kernel_rfl))
 t0:=Tryz.underlying0
 a0:=Tryz.isAgg0
 z0:=Tryz.sizeOf0
 v0:=Tryz.zeroValue0
 t3:=Tryz.underlying3
 a3:=Tryz.isAgg3
 z3:=Tryz.sizeOf3
 v3:=Tryz.zeroValue3
 t4:=Tryz.underlying4
 a4:=Tryz.isAgg4
 z4:=Tryz.sizeOf4
 v4:=Tryz.zeroValue4
 t5:=Tryz.underlying5
 a5:=Tryz.isAgg5
 z5:=Tryz.sizeOf5
 v5:=Tryz.zeroValue5
 t9:=Tryz.underlying9
 a9:=Tryz.isAgg9
 z9:=Tryz.sizeOf9
 v9:=Tryz.zeroValue9
 t31:=Tryz.underlying129
 a31:=Tryz.isAgg129
 z31:=Tryz.sizeOf129
 v31:=Tryz.zeroValue129
 t46:=Tryz.underlying147
 a46:=Tryz.isAgg147
 z46:=Tryz.sizeOf147
 v46:=Tryz.zeroValue147
 t51:=Tryz.underlying175
 a51:=Tryz.isAgg175
 z51:=Tryz.sizeOf175
 v51:=Tryz.zeroValue175
 t53:=Tryz.underlying177
 a53:=Tryz.isAgg177
 z53:=Tryz.sizeOf177
 v53:=Tryz.zeroValue177
 t131:=Tryz.underlying172
 a131:=Tryz.isAgg172
 z131:=Tryz.sizeOf172
 v131:=Tryz.zeroValue172
 t182:=Tryz.underlying167
 a182:=Tryz.isAgg167
 z182:=Tryz.sizeOf167
 v182:=Tryz.zeroValue167
 t183:=Tryz.underlying168
 a183:=Tryz.isAgg168
 z183:=Tryz.sizeOf168
 v183:=Tryz.zeroValue168
 t218:=Tryz.underlying210
 a218:=Tryz.isAgg210
 z218:=Tryz.sizeOf210
 v218:=Tryz.zeroValue210
 t222:=Tryz.underlying214
 a222:=Tryz.isAgg214
 z222:=Tryz.sizeOf214
 v222:=Tryz.zeroValue214
 t228:=Tryz.underlying258
 a228:=Tryz.isAgg258
 z228:=Tryz.sizeOf258
 v228:=Tryz.zeroValue258
 t229:=Tryz.underlying259
 a229:=Tryz.isAgg259
 z229:=Tryz.sizeOf259
 v229:=Tryz.zeroValue259}
theorem YtllkaddcplhklaaGreatDoor.JQ:YtllkaddcplhklaaGreatDoor.fF:=
 ⟨fun u b0 a0 x w hH b j=>Any.slices_Sort_string Tryz.A7 u b0 a0 x w hH b j,fun p a0 w=>Any.slices_Sort_string_none Tryz.A7 p a0 w⟩
end Go.Proofs
namespace Go.Proofs.YtllkaddcplhklaaGreatDoor
open Go Go.Al
theorem fZ{α:Type}[Inhabited α]{f:α->List IV}(h: ∀x,eE ((f x).map .iv)=jp)(l:List α):allOnes ((PY l.length).map fun k=>(f (l.getD k co)).map PV.iv)=jp:=by rw[vS];exact qX h l
def Prog.size(p:Prog):Nat:=p.aS.length+(p.aS.map fun d=>d.types.length).sum+p.rules.length+(p.rules.map aw.size).sum
theorem vP{α:Type}[Inhabited α](f:α->Nat): ∀(l:List α) (i:Nat),i<l.length->f (l.getD i co)<=(l.map f).sum
 |x::r,0,_=>by simp
 |x::r,i+1,h=>by
  have:=vP f r i (by simpa using h);simp only[QM,PB,Qt];omega
theorem xA{α:Type}(i sz n b:Nat)(l:List α)(f:α->List IV):(aF b l f).q9 i sz n:=by
 intro k e j p u A;rw[Ps,Pu]at u;obtain⟨x,_,rfl⟩:=u;rw[Ps,Pu]at A;obtain⟨y,_,rfl⟩:=A;exact⟨y,rfl⟩
theorem OS(r:aw)(hb:r.size<=10000000):Pure Tryz.prog 68 [ag r.c] (.iv (strs (jX r))):=told_plain r▸c33 JQ r hb
end Go.Proofs.YtllkaddcplhklaaGreatDoor
namespace Go.Proofs.YtllkaddcplhklaaGreatDoor
open Go.Proofs.Tryz
open Go
section
set_option maxHeartbeats 2000000
theorem Be: ∃j,prog.info? 223=io j∧j.size=2:=by
 have h:(prog.info? 223).map (fun i=>i.size)=io 2:=by kernel_rfl
 rw[Pu]at h;exact h
theorem HX:liesAt prog prog.depth 225 (4/prog.cellsOf 225) 0 223 1=jp:=by kernel_rfl
theorem IB(b:Nat)(w:World)(h0:w.cell? ⟨b,0,is⟩=io (.pointer (io ⟨b,0,is⟩))):
  Calls prog 213 #[.pointer (io ⟨b,0,is⟩)] w fun e x=>e= .returned (.tuple #[])∧x=w:=by
 obtain⟨j,u,_⟩:=Be
 go_enter func213,ntmps213
 go_wp2
 rw[Lib.run_neq_ptr_same w _ underlying220 u]
 go_wp2
 go_end0
 exact⟨rfl,rfl⟩
theorem Fy(b:Nat)(w:World)(h0:w.cell? ⟨b,0,is⟩=io (.pointer is))(u:w.shape? b=io (225,4))(A:w.frozen? ⟨b,0,is⟩=kw):
  Calls prog 213 #[.pointer (io ⟨b,0,is⟩)] w fun e B=>e= .returned (.tuple #[])∧B=w.setCell ⟨b,0,is⟩ (.pointer (io ⟨b,0,is⟩)):=by
 obtain⟨j,y,x⟩:=Be
 go_enter func213,ntmps213
 go_wp2
 rw[Lib.run_to_unsafe w ⟨b,0,is⟩ underlying220 underlying291 y (by rw[x];decide) u (by show 0<4;decide)];simp only[Result.andThen];rw[Oper.upon_value]
 go_wp2
 rw[run_callFunc_extern func218 (by kernel_rfl) (by kernel_rfl) (by kernel_rfl) (e:=Extern.AbiNoEscape.same) (by kernel_rfl)];rw[Lib.run_noEscape];simp only[Result.andThen];rw[Oper.upon_value]
 go_wp2
 rw[Lib.run_from_unsafe w ⟨b,0,is⟩ underlying291 underlying220 y u HX];simp only[Result.andThen];rw[Oper.upon_value]
 go_wp2
 go_end0
 exact⟨rfl,rfl⟩
theorem L6:prog.cellsOf 5=1:=by kernel_rfl
theorem IE(b g cap:Nat)(p x y:Value)(u:Array Value)(l:List UInt8)(w:World)(D:w.heap[b]? =io (.cells #[p,.slice (io ⟨g,0,is⟩) l.length cap,x,y] 225 (0,0)))(hg:w.heap[g]? =io (.cells u 5 (0,0)))
  (hl:l.length<=u.size) (J:l.length<=cap) (G:cap<=maxLen) (B: ∀(j:Nat) (x:UInt8),l[j]? =io x->u.getD j undef= .int .u8 (x.toNat:Int)) (h0:l≠ []):
  Calls prog 189 #[.pointer (io ⟨b,0,is⟩)] w fun e w'=>e= .returned (.string ⟨l.toArray⟩)∧w'=w.drew.freeze ⟨g,0,is⟩ l.length:=by
 have b0:l.length≠0:=by simpa using h0
 have c1:w.drew.cell? ⟨b,1,is⟩=io (.slice (io ⟨g,0,is⟩) l.length cap):=by
  have:w.drew.heap[b]? =io (.cells #[p,.slice (io ⟨g,0,is⟩) l.length cap,x,y] 225 (0,0)):=D;rw[Lib.cell_of_heap this];rfl
 have Y:(Builtin.unsafeSliceData_ #[221] 281 #[.slice (io ⟨g,0,is⟩) l.length cap]).run prog w.drew= .ok (.pointer (io ⟨g,0,is⟩)) w.drew:=
  Lib.run_unsafeSliceData_row _ _ _ _ _ _ (by omega)
 have a0:(Builtin.unsafeString_ #[281,3] 9 #[.pointer (io ⟨g,0,is⟩),.int .i64 l.length]).run prog w.drew= .ok (.string ⟨l.toArray⟩) (w.drew.freeze ⟨g,0,is⟩ l.length):=by
  refine Lib.run_unsafeString_row w.drew 281 3 9 5 underlying281 L6 g u.size (by have A:w.drew.heap[g]? =io (.cells u 5 (0,0)):=hg;simp[World.shape?,A]) l h0 (by omega) (by unfold maxLen at G;omega) ?_;intro j x R;have C:j<u.size:=by have:=(Pm.1 R).1;omega
  have:=B j x R;rw[Pk,PU C]at this;show w.drew.cell? _=_;have A:w.drew.heap[g]? =io (.cells u 5 (0,0)):=hg;rw[Al.du,PT];simp only[World.cell?,A];simpa[C]using this
 have I:prog.follows .mixedOrders=jp:=rfl
 go_enter func189,ntmps189
 go_wp2
 go_region_o
 all_goals(go_wp2;go_ret;exact⟨rfl,rfl⟩)
theorem L8(b:Nat)(p x y:Value)(w:World)(j:w.heap[b]? =io (.cells #[p,.slice is 0 0,x,y] 225 (0,0))):
  Calls prog 189 #[.pointer (io ⟨b,0,is⟩)] w fun e C=>e= .returned (.string ⟨#[]⟩)∧C=w.drew:=by
 have B:(W:World)->(Builtin.unsafeString_ #[281,3] 9 #[.pointer is,.int .i64 0]).run prog W= .ok (.string .empty) W:=fun W=>Lib.run_unsafeString_none W _ _ _ is
 have c1:w.drew.cell? ⟨b,1,is⟩=io (.slice is 0 0):=by
  have:w.drew.heap[b]? =io (.cells #[p,.slice is 0 0,x,y] 225 (0,0)):=j;rw[Lib.cell_of_heap this];rfl
 have A:(Builtin.unsafeSliceData_ #[221] 281 #[.slice is 0 0]).run prog w.drew= .ok (.pointer is) w.drew:=rfl;have u:prog.follows .mixedOrders=jp:=rfl
 go_enter func189,ntmps189
 go_wp2
 go_region_o
 all_goals(go_wp2;go_ret;exact⟨rfl,rfl⟩)
end
end Go.Proofs.YtllkaddcplhklaaGreatDoor
namespace Go.Proofs.YtllkaddcplhklaaGreatDoor
open Go Go.Al Go.Proofs.Tryz
def HH(c:Nat):Bool:=(lc (97<=c)&&lc (c<=122))||((lc (65<=c)&&lc (c<=90))||((lc (48<=c)&&lc (c<=57))||decide (c=95)))
def okB(b:UInt8):Bool:=HH b.toNat
def hd(s:ak):Int:=((s.data.toList.getD 0 0).toNat:Int)
def rU(s:ak)(b hi:Int):Bool:=!lc (s=⟨#[]⟩)&&(lc (s.size<=32)&&(lc (b<=hd s)&&(lc (hd s<=hi)&&s.data.toList.all okB)))
theorem Ef{c:Nat}(h:HH c=jp):c<128:=by
 simp only[HH,RB,Qf,decide_eq_true_eq]at h;omega
theorem G9{s:ak}(h: ¬s=⟨#[]⟩):0<s.size:=by
 refine Nat.pos_of_ne_zero fun b=>h ?_;have:s.data= #[]:=Qz b;cases s;simp_all
theorem O1(c:Nat):Pure prog 180 [.iv (.v (.int .i32 (c:Int)))] (pB (!HH c)):=by
 refine ah ab func180 Z (by decide) ntmps180 Z (by simp) Z ?_
 repeat' (first|(refine gA Z (zI (fun _=>?_) (fun _=>?_)))|(refine gA Z (zL (.of_eq ?_))))
 all_goals(refine(ma ?_:pB _=pB _))
 all_goals(simp only[RR,Sk,decide_eq_true_eq,decide_eq_false_iff_not] at*;rw[QN];simp[HH];omega)
theorem Fh{s:ak}{i:Nat}(h:i<s.size)(hb:okB (s.data.toList.getD i 0)=jp):Utf8.decode s i=((s.data.toList.getD i 0).toNat,1):=by
 have b:(s[i]'h)=s.data.toList.getD i 0:=by
  have:i<s.data.toList.length:=by simpa using h
  rw[Pn,Po this];simp;rfl
 have:=decode_ascii s i h (by rw[b];exact Ef hb);rw[this,b]
theorem L3{s:ak}{i:Nat}(h:i<s.size)(hb:okB (s.data.toList.getD i 0)=kw):HH (Utf8.decode s i).1=kw:=by
 by_cases h1:(s.data.toList.getD i 0).toNat<128
 .have b:(s[i]'h)=s.data.toList.getD i 0:=by
   have:i<s.data.toList.length:=by simpa using h
   rw[Pn,Po this];simp;rfl
  have:=decode_ascii s i h (by rw[b];exact h1);rw[this,b];exact hb
 .have b:(s.get! (i+0)).toNat=(s.data.toList.getD i 0).toNat:=by
   have:i<s.data.toList.length:=by simpa using h
   rw[Pn,Po this];simp[ByteArray.get!,getElem!_pos,h]
  have:128<=(Utf8.decode s i).1:=by
   simp only[Utf8.decode,b,be h1]
   repeat' split
   all_goals(dsimp only[Utf8.runeError];(try simp only[Qf,decide_eq_true_eq] at*);omega)
  cases hk:HH (Utf8.decode s i).1 with
  |false=>rfl
  |true=>have:=Ef hk;omega
def BK(s:ak):Int:=oj (fun b=>!okB b) s.data.toList
theorem d217(s:ak):bF prog 212 [pS s,.b7 (.func 180) [] [],pB jp] [] (pI (BK s)) [] 0:=by
 have A:s.data.toList.length=s.size:=by simp
 refine au ab func212 Z (by decide) ntmps212 Z (by simp) ?_;refine gA Z ?_;refine vh ab Z Z Z Z Z Z Z ?_;refine gA Z ?_;refine aJ 0 s.size (PC _) (fun i=>⟨[(0,pS s),(1,.b7 (.func 180) [] []),(2,pB jp),(10,.ptr 0 0)],[(0,io (.dK s i))],1⟩) (fun i=>(s.data.toList.take i).any (fun b=>!okB b)=kw) [] (by simp)
  (zW ⟨⟨_,rfl,.of_eq Z⟩,Pj Z,ac,ac⟩) fun i B x=>?_
 refine gA Z ?_;refine kE Z Z Z Z Z Z (fun h1=>?_) (fun h1=>?_)
 .have j:s.data.toList.length<=i:=by omega
  rw[BK,fh (any_none x j)];refine gA Z (zD [] Z (zW ac))
 .have u:i<s.data.toList.length:=by omega
  have y:s.data.toList.getD i co=s.data.toList.getD i 0:=rfl;refine gA Z (zp (O1 (Utf8.decode s i).1) ?_);refine zJ Z Z (fun j=>?_) fun j=>?_
  .have j:HH (Utf8.decode s i).1=kw:=by simpa using j
   have hb:okB (s.data.toList.getD i 0)=kw:=by
    cases hk:okB (s.data.toList.getD i 0) with
    |false=>rfl
    |true=>
     rw[Fh h1 hk]at j;exact absurd (hk.symm.trans j) (by simp)
   rw[BK,gp x u (by rw[y,hb];rfl)];refine gA Z (zD [] Z (zW ac))
  .have j:HH (Utf8.decode s i).1=jp:=by simpa using j
   have hb:okB (s.data.toList.getD i 0)=jp:=by
    cases hk:okB (s.data.toList.getD i 0) with
    |true=>rfl
    |false=>exact absurd ((L3 h1 hk).symm.trans j) (by simp)
   have hd:=Fh h1 hb;refine gA Z ⟨h1,(cM x u).2 (by rw[y,hb];rfl),[],zW ⟨⟨_,rfl,.of_eq (by rw[hd];rfl)⟩,Pj Z,ac,ac⟩⟩
theorem IK(l:List UInt8):(l.any fun b=>!okB b)=!l.all okB:=by
 induction l with
 |nil=>rfl
 |cons x r ih=>simp only[SN,Su,ih];cases okB x<;>rfl
theorem d203(s:ak):bF prog 204 [pS s,.b7 (.func 180) [] []] [] (pI (BK s)) [] 0:=by
 refine au ab func204 Z (by decide) ntmps204 Z (by simp) ?_;refine gA Z (zq [] (d217 s) ?_);refine gA Z (zD [] Z (zW ac))
theorem d180(s:ak):bF prog 179 [pS s,.b7 (.func 180) [] []] [] (pB (!s.data.toList.all okB)) [] 0:=by
 refine au ab func179 Z (by decide) ntmps179 Z (by simp) ?_;refine gA Z (zq [] (d203 s) ?_);refine gA Z (zD [] Z (zM ⟨.of_eq (ma ((gq _ _).trans (IK _))),rfl,ac⟩ ac))
theorem N5(s:ak)(x hi:Int):Pure prog 138 [pS s,.iv (.v (.int .u8 x)),.iv (.v (.int .u8 hi))] (pB (rU s x hi)):=by
 refine ah ab func138 Z (by decide) ntmps138 Z (by simp) Z ?_;refine zE Z Z (fun h1=>?_) fun h1=>?_
 .have h1:s=⟨#[]⟩:=zT h1;refine gA Z (zL (.of_eq ?_));refine(ma ?_:pB _=pB _);subst h1;rfl
 have h1: ¬s=⟨#[]⟩:=zF h1;have y:=G9 h1;refine zE Z Z (fun b=>?_) fun b=>?_
 .have b:32<s.size:=zN b;refine gA Z (zL (.of_eq ?_));refine(ma ?_:pB _=pB _);have: ¬s.size<=32:=by omega
  simp[rU,this]
 have b:s.size<=32:=by have:=zF b;omega
 refine zE Z Z (fun j=>?_) fun j=>?_
 .have j:hd s<x:=zT j;refine gA Z (zL (.of_eq ?_));refine(ma ?_:pB _=pB _);have: ¬x<=hd s:=by omega
  simp[rU,this]
 have j:x<=hd s:=by have: ¬hd s<x:=zF j;omega
 refine zJ Z Z (fun u=>?_) fun u=>?_
 .have u:hi<hd s:=zT u;refine gA Z (zL (.of_eq ?_));refine(ma ?_:pB _=pB _);have: ¬hd s<=hi:=by omega
  simp[rU,this]
 have u:hd s<=hi:=by have: ¬hd s>hi:=zF u;omega
 refine gA Z (zq [] (d180 s) ?_);refine gA Z (zL (.of_eq ?_));refine(ma ?_:pB _=pB _);simp[rU,h1,b,j,u]
def Nw:List ak:=[⟨#[114,101,108,97,116,105,111,110]⟩,⟨#[110,111,116]⟩,⟨#[110,117,109]⟩,⟨#[115,121,109]⟩,⟨#[109,111,100]⟩,⟨#[99,111,117,110,116]⟩,⟨#[115,117,109]⟩,⟨#[109,105,110]⟩,⟨#[109,97,120]⟩]
def Nx(s:ak):Bool:=Nw.any fun x=>lc (s=x)
def iG(s:ak):Bool:=!Nx s&&rU s 97 122
def fc(s:ak):Bool:=rU s 65 90
theorem Ag(s:ak):Pure prog 187 [pS s] (pB (fc s)):=by
 refine ah ab func187 Z (by decide) ntmps187 Z (by simp) Z ?_;refine gA Z (zp (N5 s 65 90) ?_);exact zU Z
theorem Ol(s:ak):Pure prog 93 [pS s] (pB (iG s)):=by
 refine ah ab func93 Z (by decide) ntmps93 Z (by simp) Z ?_
 repeat' (first|(refine gA Z (zI (fun _=>?_) (fun _=>?_)))|(refine gA Z (zp (N5 s 97 122) ?_))|(refine gA Z (zL (.of_eq ?_))))
 all_goals(refine(ma ?_:pB _=pB _))
 all_goals(simp only[iG,Nx,Nw,SN,List.any_nil, *];rfl)
theorem O5(v:dU):Pure prog 140 [ag v.c] (pB (!lc (cV v=0))):=by
 refine ah ab func140 Z (by decide) ntmps140 Z (by simp) Z ?_;refine gA Z (zp (N4 v) ?_);exact zU Z
theorem i182(l:List dU):bF prog 181 [.iv (bu 3 l dU.c),.b7 (.func 140) [] []] [] (pI (oj (fun x:dU=>!lc (cV x=0)) l)) [] 0:=by
 refine ox (ba func181 Z (by decide)) ⟨_,_,Pz⟩ fun j=>?_;simp only[maxLen]at j;refine au ab func181 Z (by decide) ntmps181 Z (by simp) ?_;refine gA Z ?_
 refine aJ 0 l.length (PC _) (fun i=>⟨[(0,.iv (bu 3 l dU.c)),(1,.b7 (.func 140) [] []),(7,pI l.length),(8,pI i)],[],0⟩) (fun i=>(l.take i).any (fun x:dU=>!lc (cV x=0))=kw) [] (by simp)
  (zW trivial) fun i y u=>?_
 refine zJ Z Z (fun h1=>?_) fun h1=>?_
 .have h1:i<l.length:=by simpa using h1
  refine gA Z (zp (O5 (l.getD i co)) ?_);refine zJ Z Z (fun b=>?_) fun b=>?_
  .have b:(fun x:dU=>!lc (cV x=0)) (l.getD i co)=jp:=b;rw[gp u h1 b];refine gA Z (zD [] Z (zW ac))
  .have b:(fun x:dU=>!lc (cV x=0)) (l.getD i co)=kw:=b;refine gA Z ⟨h1,(cM u h1).2 b,[],zW ac⟩
 .have h1:l.length<=i:=by simpa using h1
  rw[fh (any_none u h1)];refine gA Z (zD [] Z (zW ac))
theorem d141(l:List dU):bF prog 139 [.iv (bu 3 l dU.c),.b7 (.func 140) [] []] [] (pB (l.any (fun x:dU=>!lc (cV x=0)))) [] 0:=by
 refine au ab func139 Z (by decide) ntmps139 Z (by simp) ?_;refine gA Z (zq [] (i182 l) ?_);refine gA Z (zD [] Z (zM ⟨.of_eq (ma (gq _ l)),rfl,ac⟩ ac))
def j5(f:Fact):Bool:=iG f.rel&&(lc (f.args.length<=8)&&f.args.all fun v=>lc (cV v=0))
theorem FG(l:List dU):(l.any fun x:dU=>!lc (cV x=0))=!l.all fun v=>lc (cV v=0):=by
 induction l with
 |nil=>rfl
 |cons x r ih=>simp only[SN,Su,ih];cases lc (cV x=0)<;>rfl
theorem c98(l:List dU):Pure prog 94 [.iv (bu 3 l dU.c)] (pB (l.all fun v=>lc (cV v=0))):=by
 refine ah ab func94 Z (by decide) ntmps94 Z (by simp) Z ?_;refine gA Z (zq [] (d141 l) ?_);refine gA Z (zL (.of_eq ?_));refine(ma ?_:pB _=pB _);rw[FG,Bool.not_not]
theorem c55(f:Fact):Pure prog 74 [ag f.c] (pI (if j5 f then 0 else 20)):=by
 refine ah ab func74 Z (by decide) ntmps74 Z (by simp) Z ?_
 repeat' (first|(refine gA Z (zI (fun _=>?_) (fun _=>?_)))|(refine gA Z (zp (Ol f.rel) ?_))|(refine gA Z (zp (c98 f.args) ?_))|(refine gA Z (zL (.of_eq ?_))))
 all_goals(refine(C8 ?_:pI _=pI _))
 all_goals(simp only[j5];simp_all)
 all_goals omega
section
theorem Rel.zg{M:Mem}{N:Nm}{U:Nat->Prop}{h u:AH}{w:World}(hr:Rel M N U h w)(e: ∀i,AH.get u i=h.get i):Rel M N U u w:=
 ⟨hr.eh,fun i o b=>hr.used i o (by rw[<-e];exact b),fun i o b=>hr.dN i o (by rw[<-e];exact b),fun i o b=>hr.obj i o (by rw[<-e];exact b),fun i j o p b x=>hr.inj i j o p (by rw[<-e];exact b) (by rw[<-e];exact x)⟩
theorem Ext.zg{M j:Mem}{N u:Nm}{U x:Nat->Prop}{h0 h y:AH}{w A:World}(b:Ext M N U h0 w j u x h A)(e: ∀i,AH.get y i=h.get i):Ext M N U h0 w j u x y A:=
 ⟨b.os,b.tape,b.output,b.size,b.fP,b.oF,b.gE,b.nm,b.ule,fun i o B=>b.fM i o (by rw[<-e];exact B)⟩
structure WS where
 fr:Bool
 l:List UInt8
 bad:Bool
 br:Int
abbrev WS.pC(w:WS)(i j:Nat):AO:= .cells [.ep w.fr i,.sl j 0 w.l.length 1,pB w.bad,pI w.br] (io 225)
abbrev WS.c(w:WS):AO:=w.pC 0 1
abbrev WS.O(w:WS):List AO:=[w.c,.bp w.l 5]
abbrev WS.H(w:WS):AH:=[(0,io (w.pC 0 2)),(2,io (.bp w.l 5))]
theorem d204(w:WS):bF prog 213 [.ptr 0 0] w.O (.bm []) [(0,io ({w with fr:=kw}:WS).c),(1,io (.bp w.l 5))] 2:=by
 refine⟨ba func213 Z (by decide),fun M N wd vs J A hv=>?_⟩;obtain⟨v,rfl⟩: ∃v,vs=[v]:=by
  cases vs with
  |nil=>cases A
  |cons v r=>cases r with
   |nil=>exact⟨v,rfl⟩
   |cons a b=>simp at A
 have R:VR M N (· <2) (.ptr 0 0) v:=hv 0 _ Z;have Y:v= .pointer (io ⟨N.ay 0,0,is⟩):=by cases R;rfl
 subst Y;have G:AH.get (c9 0 w.O) 0=io w.c:=rfl;obtain⟨c,T,h1,h2,h3,h4,h5⟩:=J.obj 0 _ G;have hT:=h5 225 Z;subst hT;have B:c.size=4:=h3.symm;have a0:N.ay 0<wd.heap.size:=(Qu.1 h1).1;have I:c.getD 0 undef= .pointer (bif w.fr then is else io ⟨N.ay 0,0,is⟩):=by
  have:=h4 0 _ Z;generalize c.getD 0 undef=x at this;cases this;rfl
 have u:wd.cell? ⟨N.ay 0,0,is⟩=io (c.getD 0 undef):=by
  rw[Lib.cell_of_heap h1,Pk,PU (by omega)];rfl
 rw[I]at u;show Calls prog 213 #[_] wd _;cases hfr:w.fr with
 |false=>
  rw[hfr]at u;refine(IB (N.ay 0) wd u).mono ?_;rintro e w' ⟨rfl,rfl⟩;have hw:({w with fr:=kw}:WS)=w:=by cases w;simp_all
  rw[hw];exact⟨_,M,N,.bm [],_,2,rfl,⟨rfl,rfl,rfl⟩,.refl _ _ _ _ _,J,.bm [] #[] Z (by simp)⟩
 |true=>
  rw[hfr]at u;refine(Fy (N.ay 0) wd u (by simp[World.shape?,h1,B]) (Lib.frozen_of_heap h1 0)).mono ?_;rintro e w' ⟨rfl,rfl⟩;have C:(wd.setCell ⟨N.ay 0,0,is⟩ (.pointer (io ⟨N.ay 0,0,is⟩))).heap[N.ay 0]? =io (.cells (c.setIfInBounds 0 (.pointer (io ⟨N.ay 0,0,is⟩))) 225 (0,0)):=by
   simp[World.setCell,P4,h1]
  obtain⟨g1,g2⟩:=J.write (i:=0) (o0:=w.c) G Z (wd.setCell ⟨N.ay 0,0,is⟩ (.pointer (io ⟨N.ay 0,0,is⟩))) ({w with fr:=kw}:WS).c Z Z Z (by simp[World.setCell]) (fun b hb=>by
   simp only[World.setCell,P4]
   rw[be (fun e=>hb e.symm)]) ⟨_,225,C,by simpa using h2,by simp[B],fun j p D=>by
    match j,D with
    |0,D=>
     cases D;rw[Pk,PR];simp only[if_true,B];exact .ep kw 0 (by show 0<2;decide)
    |j+1,D=>
     have:=h4 (j+1) p (by exact D);rw[Pk,PR,be (by omega)];rw[Pk]at this
     exact this,h5⟩
  have y: ∀i,AH.get [(0,io ({w with fr:=kw}:WS).c),(1,io (.bp w.l 5))] i=AH.get ((0,io ({w with fr:=kw}:WS).c)::c9 0 w.O) i:=by
   intro i
   match i with
   |0=>rfl
   |1=>rfl
   |i+2=>rfl
  exact⟨_,M,N,.bm [],_,2,rfl,⟨rfl,rfl,rfl⟩,Ext.zg g1 y,Rel.zg g2 y,.bm [] #[] Z (by simp)⟩
theorem d150(w:WS):bF prog 189 [.ptr 0 0] w.O (pS ⟨w.l.toArray⟩) [] 2:=by
 refine⟨ba func189 Z (by decide),fun M N wd vs hr D hv=>?_⟩;obtain⟨v,rfl⟩: ∃v,vs=[v]:=by
  cases vs with
  |nil=>cases D
  |cons v r=>cases r with
   |nil=>exact⟨v,rfl⟩
   |cons a b=>simp at D
 have j0:VR M N (· <2) (.ptr 0 0) v:=hv 0 _ Z;have k0:v= .pointer (io ⟨N.ay 0,0,is⟩):=by cases j0;rfl
 subst k0;have i0:AH.get (c9 0 w.O) 0=io w.c:=rfl;have G:AH.get (c9 0 w.O) 1=io (.bp w.l 5):=rfl;obtain⟨c,T,h1,h2,h3,h4,h5⟩:=hr.obj 0 _ i0;have hT:=h5 225 Z;subst hT;have e0:c.size=4:=h3.symm;have b0: ∀(x1:Value),c.getD 1 undef=x1-> ∃p x y,c= #[p,x1,x,y]:=by
  intro x1 B;refine⟨c.getD 0 undef,c.getD 2 undef,c.getD 3 undef,?_⟩;apply Array.ext
  .simpa using e0
  .intro i u m0
   match i,u with
   |0,u=>simp[Pk,u]
   |1,u=>rw[<-B];simp[Pk,u]
   |2,u=>simp[Pk,u]
   |3,u=>simp[Pk,u]
   |i+4,u=>omega
 have A:=h4 1 _ Z;have I:=hr.obj 1 _ G;show Calls prog 189 #[_] wd _;by_cases hl:w.l=[]
 .have B:c.getD 1 undef= .slice is 0 0:=by
   generalize c.getD 1 undef=x at A;rw[hl]at A;generalize J:PV.sl 1 0 ([]:List UInt8).length 1=q at A;cases A with
   |sl i off len sz a0 h h0 h1 hc he=>cases J;simp at h0
   |lZ i sz h=>rfl
   |_=>cases J
  obtain⟨p,x,y,rfl⟩:=b0 _ B;refine(L8 (N.ay 0) p x y wd h1).mono ?_;rintro e w' ⟨rfl,rfl⟩;refine⟨.string ⟨#[]⟩,M,N,pS ⟨w.l.toArray⟩,[],2,rfl,⟨rfl,rfl,rfl⟩,?_,?_,.iv _ _ (by rw[hl];exact .v _)⟩
  .have:=Ext.drew (M:=M) (N:=N) (U:=(· <w.O.length)) (h:=c9 0 w.O) (w:=wd);exact⟨this.os,this.tape,this.output,this.size,this.fP,this.oF,this.gE,this.nm,this.ule,fun i o u=>(nomatch u)⟩
  .exact⟨hr.drew.eh,fun i o u=>(nomatch u),fun i o u=>(nomatch u),fun i o u=>(nomatch u),fun i j o p u=>(nomatch u)⟩
 .have Y:0<w.l.length:=Qy.2 hl;obtain⟨a0,B,R,f0⟩: ∃a0,c.getD 1 undef= .slice (io ⟨N.ay 1,0,is⟩) w.l.length a0∧w.l.length<=a0∧a0<=maxLen:=by
   generalize c.getD 1 undef=x at A;generalize hn:w.l.length=n at A Y;generalize J:PV.sl 1 0 n 1=q at A;cases A with
   |sl i off len sz a0 h h0 hl hc he=>cases J;exact⟨a0,by simp,hl,hc⟩
   |lZ i sz h=>cases J;omega
   |_=>cases J
  rcases I with I|⟨d0,q1,q2,q3,q4⟩
  .exact absurd I hl
  obtain⟨p,x,y,rfl⟩:=b0 _ B;refine(IE (N.ay 0) (N.ay 1) a0 p x y d0 w.l wd h1 q1 q3 R f0 q4 hl).mono ?_;rintro e w' ⟨rfl,rfl⟩;have c0:(AO.bp w.l 5).real=jp:=by cases hll:w.l with
   |nil=>exact absurd hll hl
   |cons=>rfl
  have hk: ∀b,b≠N.ay 1->(wd.drew.freeze ⟨N.ay 1,0,is⟩ w.l.length).heap[b]? =wd.heap[b]? :=by
   intro b hb;unfold World.freeze;split
   .rfl
   .show(wd.heap.modify _ _)[b]? =_;simp only[P4];rw[be (fun e=>hb e.symm)]
  have C:(wd.drew.freeze ⟨N.ay 1,0,is⟩ w.l.length).os=wd.os∧(wd.drew.freeze ⟨N.ay 1,0,is⟩ w.l.length).tape=wd.tape∧(wd.drew.freeze ⟨N.ay 1,0,is⟩ w.l.length).output=wd.output∧(wd.drew.freeze ⟨N.ay 1,0,is⟩ w.l.length).heap.size=wd.heap.size:=by
   unfold World.freeze;split
   .exact⟨rfl,rfl,rfl,rfl⟩
   .exact⟨rfl,rfl,rfl,by show(wd.heap.modify _ _).size=_;simp⟩
  refine⟨_,M,N,pS ⟨w.l.toArray⟩,[],2,rfl,⟨rfl,rfl,rfl⟩,?_,?_,.iv _ _ (.v _)⟩
  .exact⟨C.1,C.2.1,⟨C.2.2.1,by unfold World.freeze;split<;>exact QZ _⟩,by rw[C.2.2.2];exact Pv _,fun b hb hn=>hk b fun e=>hn 1 _ G c0 e.symm,.refl _,fun b c h1 h2=>by simp[h1]at h2,.refl _ _,fun _ h=>h,fun i o u=>(nomatch u)⟩
  .refine⟨fun b d hb=>?_,fun i o u=>(nomatch u),fun i o u=>(nomatch u),fun i o u=>(nomatch u),fun i j o p u=>(nomatch u)⟩;have g0:b≠N.ay 1:=fun e=>by
    have:=hr.dN 1 _ G c0;rw[<-e,hb]at this;cases this
   exact(hr.eh b d hb).mono (hk b g0)
section
variable {nt:Nat} {Q:AQ} {k:List KI} {s:AS}
def wS(s:AS)(b:WS)(i j:Nat):AS:=match s with|⟨f,h,n⟩=>⟨f,(i,io (b.pC i n))::(n,io (.bp b.l 5))::(i,is)::(j,is)::h,n+1⟩
theorem Mn(s:AS)(b:WS)(i j:Nat):wS s b i j=⟨s.f,(i,io (b.pC i s.nx))::(s.nx,io (.bp b.l 5))::(i,is)::(j,is)::s.h,s.nx+1⟩:=by cases s;rfl
def Mm(s:AS)(b:WS)(i j m:Nat):AS:=match s with|⟨f,h,n⟩=>⟨f,(i,io (b.pC i n))::(n,io (.bp b.l 5))::(i,is)::(j,is)::(m,is)::h,n+1⟩
theorem Kf(s:AS)(b:WS)(i j m:Nat):Mm s b i j m=⟨s.f,(i,io (b.pC i s.nx))::(s.nx,io (.bp b.l 5))::(i,is)::(j,is)::(m,is)::s.h,s.nx+1⟩:=by cases s;rfl
theorem w7{o:Oper}{c:Call}{g:FuncId}{args u:List PV}{w C:WS}{r:PV}{i j:Nat}{s':AS}(hc:bF prog g (.ptr 0 0::args) w.O r C.H 3)(ho:o.op= .call c)(ha:bR s.f c=io (g,.ptr i 0::u))
  (hi:s.h.get i=io (w.pC i j)) (hj:s.h.get j=io (.bp w.l 5)) (hlt:PL i s.nx=jp) (hlj:PL j s.nx=jp) (hne:PM i j=kw) (has:u=args) (hlow:bj 0 args=jp) (hr:r.low 0=jp)
  (hp:putDst nt o r (wS s C i j)=io s'):OT prog nt o s (fun t=>t=s'):=by
 have y:i≠j:=fun e=>by subst e;simp at hne
 have A:([i,j]:List Nat).Nodup:=by simp[y]
 have D: ∀x∈ [i,j],x<s.nx:=by
  intro x B;simp only[Px,Se,or_false]at B;rcases B with rfl|rfl
  .exact Pj hlt
  .exact Pj hlj
 subst has;have b: ∀σ,dA σ u=u:=fun σ=>gk σ u hlow;refine lD ho ha hc A D ?_ ?_ ?_
 .simp only[PB,Qe,hi,hj];rfl
 .simp only[dA,b];rfl
 .rintro q G n0 ⟨rfl,rfl,rfl⟩;rw[PV.jG _ _ hr];rw[Mn]at hp;exact⟨s',hp,rfl⟩
theorem NL{all rest:List Oper}{o:Oper}{c:Call}{g:FuncId}{args b:List PV}{w u:WS}{r:PV}{i j:Nat}{s':AS}(hc:bF prog g (.ptr 0 0::args) w.O r u.H 3)(ho:o.op= .call c)(hg:o.guard=is)(ha:bR s.f c=io (g,.ptr i 0::b))
  (hi:s.h.get i=io (w.pC i j)) (hj:s.h.get j=io (.bp w.l 5)) (hlt:PL i s.nx=jp) (hlj:PL j s.nx=jp) (hne:PM i j=kw) (has:b=args) (hlow:bj 0 args=jp) (hr:r.low 0=jp)
  (hp:putDst nt o r (wS s u i j)=io s') (h:GO prog nt (.ops all rest::k) Q s'):GO prog nt (.ops all (o::rest)::k) Q s:=
 cC hg (w7 hc ho ha hi hj hlt hlj hne has hlow hr hp) fun t x=>by subst x;exact h
theorem gr{all rest:List Oper}{o:Oper}{c:Call}{g:FuncId}{args b:List PV}{w u:WS}{r:PV}{i j:Nat}{s':AS}(hc:bF prog g (.ptr 0 0::args) w.O r u.H 3)(h:GO prog nt (.ops all rest::k) Q s')(ho:o.op= .call c:=by exact rfl)(hg:o.guard=is:=by exact rfl)(ha:bR s.f c=io (g,.ptr i 0::b):=by exact rfl)(hi:s.h.get i=io (w.pC i j):=by exact rfl)(hj:s.h.get j=io (.bp w.l 5):=by exact rfl)(hlt:PL i s.nx=jp:=by exact rfl)(hlj:PL j s.nx=jp:=by exact rfl)(hne:PM i j=kw:=by exact rfl)(has:b=args:=by exact rfl)(hlow:bj 0 args=jp:=by exact rfl)(hr:r.low 0=jp:=by exact rfl)(hp:putDst nt o r (wS s u i j)=io s':=by exact rfl):GO prog nt (.ops all (o::rest)::k) Q s:=NL (hc:=hc) (ho:=ho) (hg:=hg) (ha:=ha) (hi:=hi) (hj:=hj) (hlt:=hlt) (hlj:=hlj) (hne:=hne) (has:=has) (hlow:=hlow) (hr:=hr) (hp:=hp) (h:=h)
theorem Am{o:Oper}{c:Call}{g:FuncId}{b:List ak}{w u:WS}{i j m n:Nat}{s':AS}(hc:bF prog g [.ptr 0 0,.sl 2 0 b.length 1] [w.c,.bp w.l 5,aF 1 b cW] (.bm []) [(0,io (u.pC 0 3)),(3,io (.bp u.l 5))] 4)(ho:o.op= .call c)(ha:bR s.f c=io (g,[.ptr i 0,.sl m 0 n 1]))
  (hi:s.h.get i=io (w.pC i j)) (hj:s.h.get j=io (.bp w.l 5)) (hm:s.h.get m=io (aF 1 b cW)) (hn:n=b.length) (hlt:PL i s.nx=jp) (hlj:PL j s.nx=jp) (hlm:PL m s.nx=jp) (hnd:cF [i,j,m]=jp)
  (hp:putDst nt o (.bm []) (Mm s u i j m)=io s'):OT prog nt o s (fun t=>t=s'):=by
 have A: ∀x∈ [i,j,m],x<s.nx:=by
  intro x y;simp only[Px,Se,or_false]at y;rcases y with rfl|rfl|rfl
  .exact Pj hlt
  .exact Pj hlj
  .exact Pj hlm
 subst hn;refine lD ho ha hc (fg hnd) A ?_ Z ?_
 .simp only[PB,Qe,hi,hj,hm,b4];rfl
 .rintro q B n0 ⟨rfl,rfl,rfl⟩;rw[Kf]at hp;exact⟨s',hp,rfl⟩
theorem go_wp{all rest:List Oper}{o:Oper}{c:Call}{g:FuncId}{b:List ak}{w u:WS}{i j m n:Nat}{s':AS}(hc:bF prog g [.ptr 0 0,.sl 2 0 b.length 1] [w.c,.bp w.l 5,aF 1 b cW] (.bm []) [(0,io (u.pC 0 3)),(3,io (.bp u.l 5))] 4)(ho:o.op= .call c)(hg:o.guard=is)(ha:bR s.f c=io (g,[.ptr i 0,.sl m 0 n 1]))
  (hi:s.h.get i=io (w.pC i j)) (hj:s.h.get j=io (.bp w.l 5)) (hm:s.h.get m=io (aF 1 b cW)) (hn:n=b.length) (hlt:PL i s.nx=jp) (hlj:PL j s.nx=jp) (hlm:PL m s.nx=jp) (hnd:cF [i,j,m]=jp)
  (hp:putDst nt o (.bm []) (Mm s u i j m)=io s')
  (h:GO prog nt (.ops all rest::k) Q s'):GO prog nt (.ops all (o::rest)::k) Q s:=
 cC hg (Am hc ho ha hi hj hm hn hlt hlj hlm hnd hp) fun t x=>by subst x;exact h
theorem ik{all rest:List Oper}{o:Oper}{c:Call}{g:FuncId}{b:List ak}{w u:WS}{i j m n:Nat}{s':AS}(hc:bF prog g [.ptr 0 0,.sl 2 0 b.length 1] [w.c,.bp w.l 5,aF 1 b cW] (.bm []) [(0,io (u.pC 0 3)),(3,io (.bp u.l 5))] 4)(h:GO prog nt (.ops all rest::k) Q s')(ho:o.op= .call c:=by exact rfl)(hg:o.guard=is:=by exact rfl)(ha:bR s.f c=io (g,[.ptr i 0,.sl m 0 n 1]):=by exact rfl)(hi:s.h.get i=io (w.pC i j):=by exact rfl)(hj:s.h.get j=io (.bp w.l 5):=by exact rfl)(hm:s.h.get m=io (aF 1 b cW):=by exact rfl)(hn:n=b.length:=by exact rfl)(hlt:PL i s.nx=jp:=by exact rfl)(hlj:PL j s.nx=jp:=by exact rfl)(hlm:PL m s.nx=jp:=by exact rfl)(hnd:cF [i,j,m]=jp:=by exact rfl)(hp:putDst nt o (.bm []) (Mm s u i j m)=io s':=by exact rfl):GO prog nt (.ops all (o::rest)::k) Q s:=go_wp (hc:=hc) (ho:=ho) (hg:=hg) (ha:=ha) (hi:=hi) (hj:=hj) (hm:=hm) (hn:=hn) (hlt:=hlt) (hlj:=hlj) (hlm:=hlm) (hnd:=hnd) (hp:=hp) (h:=h)
theorem wF{all:List Oper}{todo pend:List (Nat×Oper)}{u:Nat}{B A:Prop}{o:Oper}{c:Call}{g:FuncId}{b:List ak}{w y:WS}{i j m n:Nat}{s':AS}(hc:bF prog g [.ptr 0 0,.sl 2 0 b.length 1] [w.c,.bp w.l 5,aF 1 b cW] (.bm []) [(0,io (y.pC 0 3)),(3,io (.bp y.l 5))] 4)
  (hrd:eN todo=[(u,o)]) (ho:o.op= .call c) (ha:bR s.f c=io (g,[.ptr i 0,.sl m 0 n 1]))
  (hi:s.h.get i=io (w.pC i j)) (hj:s.h.get j=io (.bp w.l 5)) (hm:s.h.get m=io (aF 1 b cW)) (hn:n=b.length) (hlt:PL i s.nx=jp) (hlj:PL j s.nx=jp) (hlm:PL m s.nx=jp) (hnd:cF [i,j,m]=jp)
  (hp:putDst nt o (.bm []) (Mm s y i j m)=io s')
  (hg:bY nt all s.f o=io jp) (hpb:ib all pend o=jp) (hE:nk todo [u]=jp)
  (hag:nn nN nt all s todo pend=io B) (hCA:B) (hag2:dF nN nt all s' (a7 pend o)=io A) (hC2:A)
  (h:GO prog nt (.bX all (todo.filter fun x=>!PM x.1 u) (a7 pend o)::k) Q s'):GO prog nt (.bX all todo pend::k) Q s:=
 lr ab hrd hg hpb hE hag hCA (Am hc ho ha hi hj hm hn hlt hlj hlm hnd hp) hag2 hC2 h
theorem NN{all:List Oper}{todo pend:List (Nat×Oper)}{b:Nat}{y u:Prop}{o:Oper}{c:Call}{g:FuncId}{args A:List PV}{w B:WS}{r:PV}{i j:Nat}{s':AS}(hc:bF prog g (.ptr 0 0::args) w.O r B.H 3)
  (hrd:eN todo=[(b,o)]) (ho:o.op= .call c) (ha:bR s.f c=io (g,.ptr i 0::A))
  (hi:s.h.get i=io (w.pC i j)) (hj:s.h.get j=io (.bp w.l 5)) (hlt:PL i s.nx=jp) (hlj:PL j s.nx=jp) (hne:PM i j=kw) (has:A=args) (hlow:bj 0 args=jp) (hr:r.low 0=jp)
  (hp:putDst nt o r (wS s B i j)=io s')
  (hg:bY nt all s.f o=io jp) (hpb:ib all pend o=jp) (hE:nk todo [b]=jp)
  (hag:nn nN nt all s todo pend=io y) (hCA:y) (hag2:dF nN nt all s' (a7 pend o)=io u) (hC2:u)
  (h:GO prog nt (.bX all (todo.filter fun x=>!PM x.1 b) (a7 pend o)::k) Q s'):GO prog nt (.bX all todo pend::k) Q s:=
 lr ab hrd hg hpb hE hag hCA (w7 hc ho ha hi hj hlt hlj hne has hlow hr hp) hag2 hC2 h
theorem ug{all:List Oper}{todo pend:List (Nat×Oper)}{b:Nat}{y u:Prop}{o:Oper}{c:Call}{g:FuncId}{args A:List PV}{w B:WS}{r:PV}{i j:Nat}{s':AS}(hc:bF prog g (.ptr 0 0::args) w.O r B.H 3)(h:GO prog nt (.bX all (todo.filter fun x=>!PM x.1 b) (a7 pend o)::k) Q s')(hrd:eN todo=[(b,o)]:=by exact rfl)(ho:o.op= .call c:=by exact rfl)(ha:bR s.f c=io (g,.ptr i 0::A):=by exact rfl)(hi:s.h.get i=io (w.pC i j):=by exact rfl)(hj:s.h.get j=io (.bp w.l 5):=by exact rfl)(hlt:PL i s.nx=jp:=by exact rfl)(hlj:PL j s.nx=jp:=by exact rfl)(hne:PM i j=kw:=by exact rfl)(has:A=args:=by exact rfl)(hlow:bj 0 args=jp:=by exact rfl)(hr:r.low 0=jp:=by exact rfl)(hp:putDst nt o r (wS s B i j)=io s':=by exact rfl)(hg:bY nt all s.f o=io jp:=by exact rfl)(hpb:ib all pend o=jp:=by exact rfl)(hE:nk todo [b]=jp:=by exact rfl)(hag:nn nN nt all s todo pend=io y:=by exact rfl)(hCA:y:=by(repeat' (first|exact ac|exact rfl|exact an.refl _|exact an.bk (by assumption)|apply Pq))<;>first|omega|(simp only[Pr];omega)|(simp;done)|(simp;omega))(hag2:dF nN nt all s' (a7 pend o)=io u:=by exact rfl)(hC2:u:=by(repeat' (first|exact ac|exact rfl|exact an.refl _|exact an.bk (by assumption)|apply Pq))<;>first|omega|(simp only[Pr];omega)|(simp;done)|(simp;omega)):GO prog nt (.bX all todo pend::k) Q s:=NN (hc:=hc) (hrd:=hrd) (ho:=ho) (ha:=ha) (hi:=hi) (hj:=hj) (hlt:=hlt) (hlj:=hlj) (hne:=hne) (has:=has) (hlow:=hlow) (hr:=hr) (hp:=hp) (hg:=hg) (hpb:=hpb) (hE:=hE) (hag:=hag) (hCA:=hCA) (hag2:=hag2) (hC2:=hC2) (h:=h)
theorem E6{l:List ResultVar}{r r0 a b c d:PV}{e:Exit}{u:WS}{j n:Nat}(he:e= .normal∨e= .ret)(hr:iZ nN s l=io r0)(hi:s.h.get 0=io (.cells [a,b,c,d] (io 225)))(ha:a= .ep u.fr 0)(hb:b= .sl j 0 n 1)(hn:n=u.l.length)(hc:an c (pB u.bad))(hd:an d (pI u.br))
  (hj:s.h.get j=io (.bp u.l 5)) (hlj:PL j s.nx=jp) (hne:PM 0 j=kw) (hns:Ry 2 s.nx=jp)
  (hrl:an r0 r) (hlow:r.low 0=jp) (hlow3:r.low 3=jp):Aj nN l 2 r u.H 3 e s:=by
 subst ha;subst hb;subst hn;refine bd [j] he hr ⟨rfl,Pj hns,fun x y=>?_,⟨?_,hlow3,ac⟩,⟨⟨_,hi,.cells ⟨.refl _,.refl _,hc,hd,ac⟩⟩,Pj Z,rfl,⟨.bp u.l 5,hj,.of_eq Z⟩,Pj Z,ac,ac⟩,?_⟩
 .simp only[PA]at y;subst y;exact Pj hlj
 .rw[PV.jG _ _ hlow];exact hrl
 .have:(0:Nat)≠j:=fun e=>by subst e;simp at hne
  show([0,j]:List Nat).Nodup;simpa using this
theorem gW{l:List ResultVar}{r r0 a b c d:PV}{e:Exit}{u:WS}{j n:Nat}(he:e= .normal∨e= .ret:=by first|exact .inr Z|exact .inl Z)(hr:iZ nN s l=io r0:=by exact rfl)(hi:s.h.get 0=io (.cells [a,b,c,d] (io 225)):=by exact rfl)(ha:a= .ep u.fr 0:=by exact rfl)(hb:b= .sl j 0 n 1:=by exact rfl)(hn:n=u.l.length:=by exact rfl)(hc:an c (pB u.bad):=by first|exact .refl _|exact .kb _)(hd:an d (pI u.br):=by first|exact .refl _|exact .kb _)(hj:s.h.get j=io (.bp u.l 5):=by exact rfl)(hlj:PL j s.nx=jp:=by exact rfl)(hne:PM 0 j=kw:=by exact rfl)(hns:Ry 2 s.nx=jp:=by exact rfl)(hrl:an r0 r:=by exact .refl _)(hlow:r.low 0=jp:=by exact rfl)(hlow3:r.low 3=jp:=by exact rfl):Aj nN l 2 r u.H 3 e s:=E6 (he:=he) (hr:=hr) (hi:=hi) (ha:=ha) (hb:=hb) (hn:=hn) (hc:=hc) (hd:=hd) (hj:=hj) (hlj:=hlj) (hne:=hne) (hns:=hns) (hrl:=hrl) (hlow:=hlow) (hlow3:=hlow3)
theorem Oq{n0 j m:Nat}{C:AF}{w A:WS}{a b c d:PV}(hw:w=A)(hi:s.h.get 0=io (.cells [a,b,c,d] (io 225)))(ha:a= .ep w.fr 0)(hb:b= .sl j 0 m 1)(hm:m=w.l.length)(hc:an c (pB w.bad))(hd:an d (pI w.br))(hj:s.h.get j=io (.bp w.l 5))
  (hlj:PL j s.nx=jp) (hne:PM 0 j=kw) (h0:PL 0 n0=jp) (hns:Ry n0 s.nx=jp) (hf:Dc (n0+1) (sg n0 [j]) s.f C):Wk n0 [j] s ⟨C,[(0,io (A.pC 0 n0)),(n0,io (.bp A.l 5))],n0+1⟩:=by
 subst hw;subst ha;subst hb;subst hm;have u:0<n0:=Pj h0;have s0:sg n0 [j] 0=0:=fj u;have D:PL n0 n0=kw:=RT.2 fun e=>absurd (Pj e) (by omega);have G:PL 0 (n0+1)=jp:=Qj (by omega);have I:PL n0 (n0+1)=jp:=Qj (by omega);have y:sg n0 [j] n0=j:=by simp[sg,D]
 refine⟨rfl,Pj hns,fun x B=>?_,hf,⟨⟨_,by rw[s0];exact hi,?_⟩,QW u,?_,⟨.bp w.l 5,by rw[y];exact hj,.of_eq Z⟩,Rc _,ac,ac⟩,?_⟩
 .simp only[PA]at B;subst B;exact Pj hlj
 .simp only[AO.cx,dA,PV.cx,s0,y];exact .cells ⟨.refl _,.refl _,hc,hd,ac⟩
 .simp[AO.low,bj,PV.low,G,I]
 .have:(0:Nat)≠j:=fun e=>by subst e;simp at hne
  simp only[en,s0,y];simpa using this
theorem oH{n0 j m:Nat}{x:AF}{w u:WS}{a b c d:PV}(hw:w=u)(hi:s.h.get 0=io (.cells [a,b,c,d] (io 225)):=by exact rfl)(ha:a= .ep w.fr 0:=by exact rfl)(hb:b= .sl j 0 m 1:=by exact rfl)(hm:m=w.l.length:=by exact rfl)(hc:an c (pB w.bad):=by first|exact .refl _|exact .kb _)(hd:an d (pI w.br):=by first|exact .refl _|exact .kb _)(hj:s.h.get j=io (.bp w.l 5):=by exact rfl)(hlj:PL j s.nx=jp:=by exact rfl)(hne:PM 0 j=kw:=by exact rfl)(h0:PL 0 n0=jp:=by exact rfl)(hns:Ry n0 s.nx=jp:=by exact rfl)(hf:Dc (n0+1) (sg n0 [j]) s.f x:=by repeat' (first|exact ac|exact an.refl _|exact rfl|apply Pq)):Wk n0 [j] s ⟨x,[(0,io (u.pC 0 n0)),(n0,io (.bp u.l 5))],n0+1⟩:=Oq (hw:=hw) (hi:=hi) (ha:=ha) (hb:=hb) (hm:=hm) (hc:=hc) (hd:=hd) (hj:=hj) (hlj:=hlj) (hne:=hne) (h0:=h0) (hns:=hns) (hf:=hf)
end
end
def xI(w:WS)(s:ak):WS:=⟨kw,w.l++s.data.toList,w.bad,w.br⟩
theorem d183(w:WS)(s:ak)(hb:w.l.length+s.size<=140737488355328):bF prog 205 [.ptr 0 0,pS s] w.O (.bm [pI s.size,.iv (.v .nilIface)]) (xI w s).H 3:=by
 refine au ab func205 Z (by decide) ntmps205 Z (by simp) ?_;refine gA Z (zq [0,1] (d204 w) ?_);refine gA Z ?_;refine H7 ab Z Z Z Z Z Z Z Z Z Z Z Z Z Z Z Z hb ?_;refine gA Z gW
def aR(w:WS)(b:Bool):WS:=⟨w.fr,w.l,w.bad||!b,w.br⟩
theorem HN(w:WS){b:Bool}(h:(!b)=kw):aR w b=w:=by cases w;simp_all [aR]
theorem HO(w:WS){b:Bool}(h:(!b)=jp):aR w b=⟨w.fr,w.l,jp,w.br⟩:=by cases w;simp_all [aR]
theorem d146(w:WS)(b:Bool):bF prog 185 [.ptr 0 0,pB b] w.O (.bm []) (aR w b).H 3:=by
 refine au ab func185 Z (by decide) ntmps185 Z (by simp) ?_;refine zJ Z Z (fun h=>?_) fun h=>?_
 .rw[HO w h];refine gA Z gW
 .rw[HN w h];refine gA Z gW
def aU(w:WS)(b:List ak):WS:=b.foldl xI w
def eL(b:List ak):Nat:=(b.map SI).sum
theorem D6(w:WS)(s:ak):(xI w s).l.length=w.l.length+s.size:=by simp[xI]
theorem ia: ∀(b:List ak) (w:WS),(aU w b).l.length=w.l.length+eL b
 | [],w=>by simp[aU,eL]
 |s::r,w=>by
  have:=ia r (xI w s);simp only[aU,Qg]at this ⊢;rw[this,D6];simp[eL];omega
theorem sq: ∀(b:List ak) (i:Nat),i<b.length->eL (b.take i)+(b.getD i co).size<=eL b
 | [],i,h=>by simp at h
 |s::r,0,_=>by simp[eL]
 |s::r,i+1,h=>by
  have:=sq r i (by simpa using h);simp[eL]at this ⊢;omega
theorem d147(w:WS)(j:List ak)(hl:j.length<=1000)(hb:w.l.length+eL j<=140737488355328):bF prog 186 [.ptr 0 0,.sl 2 0 j.length 1] [w.c,.bp w.l 5,aF 1 j cW] (.bm []) [(0,io ((aU w j).pC 0 3)),(3,io (.bp (aU w j).l 5))] 4:=by
 refine au ab func186 Z (by decide) ntmps186 Z (by simp) ?_;refine gA Z ?_;refine rI 2 (fun k=>cW (j.getD k co)) Z (gj Z) (by simp[AF.q9,PV.da,mL]) ⟨(by simp[AO.q9,dQ,PV.da]),ac,xA _ _ _ _ _ _,ac⟩ ?_;refine aJ 0 j.length (PC _) (fun i=>⟨[(0,.ptr 0 0),(6,.iv (strs j)),(7,pI j.length),(8,pI i)],[(0,io ((aU w (j.take i)).pC 0 3)),(3,io (.bp (aU w (j.take i)).l 5))],4⟩) (fun _=>True) [1] ac
  (zM (bi ⟨.cB Z (fun k _=>by rw[PT]),rfl,bi (bi trivial)⟩) ⟨⟨_,rfl,.of_eq Z⟩,Pj Z,rfl,⟨_,rfl,.of_eq Z⟩,Pj Z,ac,ac⟩) fun i x _=>?_
 refine zJ Z Z (fun h1=>?_) fun h1=>?_
 .have h1:i<j.length:=zN h1;have hs:aU w (j.take (i+1))=xI (aU w (j.take i)) (j.getD i co):=gQ (g:=xI) (b:=w) h1;have u:=ia (j.take i) w;have y:=sq j i h1;refine gA Z (gr (d183 (aU w (j.take i)) (j.getD i co) (by omega)) ?_);refine gA Z ⟨h1,ac,[4],zW ⟨⟨_,rfl,.of_eq (by rw[hs];rfl)⟩,Pj Z,rfl,⟨_,rfl,.of_eq (by rw[hs];rfl)⟩,Pj Z,ac,ac⟩⟩
 .have h1:j.length<=i:=zG h1;rw[PJ h1];refine gA Z (zD [3] Z (zW ⟨⟨_,rfl,.of_eq Z⟩,Pj Z,rfl,⟨_,rfl,.of_eq Z⟩,Pj Z,ac,ac⟩))
end Go.Proofs.YtllkaddcplhklaaGreatDoor
namespace Go.Proofs
open Go.Shelf
def Tryz.wB:Go.Shelf.Ren:=⟨fun|171=>219|243=>221|246=>222|283=>223|284=>224|285=>225|286=>226|129=>104|317=>227|318=>228|319=>229|320=>230|337=>231|338=>232|n=>n,fun|3=>3|9=>9|2=>2|4=>4|171=>295|0=>0|53=>177|37=>221|5=>5|173=>297|212=>300|51=>175|20=>20|213=>301|46=>147|232=>302|233=>303|n=>n,fun|17=>1|18=>2|19=>3|n=>n⟩
theorem Tryz.Ez:Go.Proofs.LaysM.n171 Tryz.prog Tryz.wB:={
 mixed:=by kernel_rfl
 f129:=Tryz.func104.trans (congrArg io (by kernel_rfl))
 f171:=Tryz.func219.trans (congrArg io (by kernel_rfl))
 f243:=Tryz.func221.trans (congrArg io (by kernel_rfl))
 f246:=Tryz.func222.trans (congrArg io (by kernel_rfl))
 f283:=Tryz.func223.trans (congrArg io (by kernel_rfl))
 f284:=Tryz.func224.trans (congrArg io (by kernel_rfl))
 f285:=Tryz.func225.trans (congrArg io (by kernel_rfl))
 f286:=Tryz.func226.trans (congrArg io (by kernel_rfl))
 f317:=Tryz.func227.trans (congrArg io (by kernel_rfl))
 f318:=Tryz.func228.trans (congrArg io (by kernel_rfl))
 f319:=Tryz.func229.trans (congrArg io (by kernel_rfl))
 f320:=Tryz.func230.trans (congrArg io (by kernel_rfl))
 f337:=Tryz.func231.trans (congrArg io (by kernel_rfl))
 f338:=Tryz.func232.trans (congrArg io (by kernel_rfl))
 t0:=Tryz.underlying0
 a0:=Tryz.isAgg0
 z0:=Tryz.sizeOf0
 v0:=Tryz.zeroValue0
 t2:=Tryz.underlying2
 a2:=Tryz.isAgg2
 z2:=Tryz.sizeOf2
 v2:=Tryz.zeroValue2
 t3:=Tryz.underlying3
 a3:=Tryz.isAgg3
 z3:=Tryz.sizeOf3
 v3:=Tryz.zeroValue3
 t4:=Tryz.underlying4
 a4:=Tryz.isAgg4
 z4:=Tryz.sizeOf4
 v4:=Tryz.zeroValue4
 t5:=Tryz.underlying5
 a5:=Tryz.isAgg5
 z5:=Tryz.sizeOf5
 v5:=Tryz.zeroValue5
 t9:=Tryz.underlying9
 a9:=Tryz.isAgg9
 z9:=Tryz.sizeOf9
 v9:=Tryz.zeroValue9
 t20:=Tryz.underlying20
 a20:=Tryz.isAgg20
 z20:=Tryz.sizeOf20
 v20:=Tryz.zeroValue20
 t37:=Tryz.underlying221
 a37:=Tryz.isAgg221
 z37:=Tryz.sizeOf221
 v37:=Tryz.zeroValue221
 t46:=Tryz.underlying147
 a46:=Tryz.isAgg147
 z46:=Tryz.sizeOf147
 v46:=Tryz.zeroValue147
 t51:=Tryz.underlying175
 a51:=Tryz.isAgg175
 z51:=Tryz.sizeOf175
 v51:=Tryz.zeroValue175
 t53:=Tryz.underlying177
 a53:=Tryz.isAgg177
 z53:=Tryz.sizeOf177
 v53:=Tryz.zeroValue177
 t171:=Tryz.underlying295
 a171:=Tryz.isAgg295
 z171:=Tryz.sizeOf295
 v171:=Tryz.zeroValue295
 t173:=Tryz.underlying297
 a173:=Tryz.isAgg297
 z173:=Tryz.sizeOf297
 v173:=Tryz.zeroValue297
 t212:=Tryz.underlying300
 a212:=Tryz.isAgg300
 z212:=Tryz.sizeOf300
 v212:=Tryz.zeroValue300
 t213:=Tryz.underlying301
 a213:=Tryz.isAgg301
 z213:=Tryz.sizeOf301
 t232:=Tryz.underlying302
 a232:=Tryz.isAgg302
 z232:=Tryz.sizeOf302
 v232:=Tryz.zeroValue302
 t233:=Tryz.underlying303
 a233:=Tryz.isAgg303
 z233:=Tryz.sizeOf303
 v233:=Tryz.zeroValue303
 g17:=by kernel_rfl
 g18:=by kernel_rfl
 g19:=by kernel_rfl
 i0:=by kernel_rfl
 i2:=by kernel_rfl
 i3:=by kernel_rfl
 i4:=by kernel_rfl
 i5:=by kernel_rfl
 i9:=by kernel_rfl
 i20:=by kernel_rfl
 i37:=by kernel_rfl
 i46:=by kernel_rfl
 i51:=by kernel_rfl
 i53:=by kernel_rfl
 i171:=by kernel_rfl
 i173:=by kernel_rfl
 i212:=by kernel_rfl
 i232:=by kernel_rfl
 i233:=by kernel_rfl
 m17:=by kernel_rfl
 m18:=by kernel_rfl
 m19:=by kernel_rfl}
theorem YtllkaddcplhklaaGreatDoor.NF (n:Int) (h0: -9223372036854775808<=n) (h1:n<=9223372036854775807) (w:World) (b:Lib.TabIs Tryz.prog w "internal/strconv.uint64pow10" .u64 Lib.pow10Tab):
  Calls Tryz.prog 219 #[.int .i64 n] w fun e j=>e= .returned (.string ⟨(Lib.itoa n).toArray⟩)∧ ∃k os,j=Go.Sort.grow (w.drewN k) os:=Any.strconv_Itoa Tryz.Ez n h0 h1 w b
end Go.Proofs
namespace Go.Proofs.YtllkaddcplhklaaGreatDoor
open Go Go.Al Go.Proofs.Tryz
theorem OE:prog.globalNamed "internal/strconv.uint64pow10" =io 1:=by kernel_rfl
theorem pow_eq:n9=Lib.pow10Tab:=by decide
theorem Ou{M:Mem}{N:Nm}{U:Nat->Prop}{h:AH}{w:World}(hr:Rel M N U h w):Lib.TabIs prog w "internal/strconv.uint64pow10" .u64 Lib.pow10Tab:=by
 obtain⟨T,b,h1⟩:=hr.eh 1 _ (M.Ii 1 _ Z);show World.var? _ _ _=_;simp only[World.var?,OE,RJ,h1,pow_eq]
theorem OW(n:Int)(h0: -9223372036854775808<=n)(h1:n<=9223372036854775807):Pure prog 219 [pI n] (pS ⟨(Lib.itoa n).toArray⟩):=by
 refine⟨ba func219 Z (by decide),fun M N w vs y x D=>?_⟩;obtain⟨v,rfl⟩: ∃v,vs=[v]:=by
  cases vs with
  |nil=>cases x
  |cons v r=>cases r with
   |nil=>exact⟨v,rfl⟩
   |cons a b=>simp at x
 have A:VR M N (· <0) (pI n) v:=D 0 _ Z;have B:v= .int .i64 n:=by
  cases A with
  |iv _ _ h=>cases h;rfl
 subst B;refine(NF n h0 h1 w (Ou y)).mono ?_;rintro e G ⟨rfl,k,os,rfl⟩;have hk: ∀b,b<w.heap.size->(Go.Sort.grow (w.drewN k) os).heap[b]? =w.heap[b]? :=fun b hb=>by
  show(w.heap++os)[b]? =_;rw[P5 hb]
 refine⟨_,M,N,pS ⟨(Lib.itoa n).toArray⟩,[],0,rfl,⟨rfl,rfl,rfl⟩,⟨rfl,rfl,⟨rfl,Sd _ _⟩,?_,fun b hb _=>hk b hb,.refl _,fun b c h1 C=>(nomatch (h1.symm.trans C)),.refl _ _,fun _ h=>h,fun i o u=>(nomatch u)⟩,⟨fun b c hb=>?_,fun i o u=>(nomatch u),fun i o u=>(nomatch u),fun i o u=>(nomatch u),fun i j o p u=>(nomatch u)⟩,.iv _ _ (.v _)⟩
 .show w.heap.size<=(w.heap++os).size;simp
 .exact(y.eh b c hb).mono (hk b (y.eh b c hb).lt)
def OD:ak:=⟨#[48,49,50,51,52,53,54,55,56,57,65,66,67,68,69,70]⟩
def Mi(c:UInt8):Int:=(c.toNat:Int).fdiv (2 ^ min (Int.toNat 4) IntKind.u8.bits)
def Mh(c:UInt8):Int:=IntKind.u8.wrap ((BitVec.ofInt IntKind.u8.bits (c.toNat:Int)&&&BitVec.ofInt IntKind.u8.bits 15).toNat:Int)
theorem LN(c:UInt8):0<=Mi c∧Mi c<16:=by
 have h:c.toNat<256:=c.toNat_lt;have e:Mi c=(c.toNat:Int)/16:=by
  unfold Mi;have:(2:Int) ^ min (Int.toNat 4) IntKind.u8.bits=16:=by decide
  rw[this];exact Int.fdiv_eq_ediv_of_nonneg _ (by decide)
 rw[e];omega
theorem LK: ∀c:UInt8,0<=Mh c∧Mh c<16:=by
 intro c;have h: ∀n:Fin 256,0<=Mh (UInt8.ofNat n.val)∧Mh (UInt8.ofNat n.val)<16:=by decide
 have:=h ⟨c.toNat,c.toNat_lt⟩;simpa using this
def NI(n:Int):UInt8:=OD.data.toList.getD n.toNat 0
def qB(c:UInt8):List UInt8:=if c.toNat=34∨c.toNat=92 then[92,c] else if c.toNat=10 then[92,110] else if c.toNat<32∨126<c.toNat then[92,120,NI (Mi c),NI (Mh c)] else[c]
theorem Lx(c:UInt8):(qB c).length<=4:=by
 unfold qB
 repeat' split
 all_goals simp
def pV(s:ak)(i:Nat):List UInt8:=34::(s.data.toList.take i).flatMap qB
def pR(s:ak):ak:=⟨(34::s.data.toList.flatMap qB++ [34]).toArray⟩
theorem sG(s:ak): ∀i,(pV s i).length<=1+4*i
 |0=>by simp[pV]
 |i+1=>by
  have h:=sG s i;rcases Qo i s.data.toList.length with hi|hi
  .have:=Lx (s.data.toList.getD i co);simp only[pV,PO]at h ⊢;rw[bQ hi,Pp];omega
  .simp only[pV,PJ hi]at h;simp only[pV,PJ (by omega:s.data.toList.length<=i+1)];omega
theorem Ci{s:ak}{i:Nat}(h:i<s.data.toList.length):pV s (i+1)=pV s i++qB (s.data.toList.getD i co):=by
 simp only[pV,bQ h,QR]
theorem OV(s:ak)(hs:s.size<=1000):Pure prog 220 [pS s] (pS (pR s)):=by
 have hl:s.data.toList.length=s.size:=by simp
 refine ah ab func220 Z (by decide) ntmps220 Z (by simp) Z ?_;refine gA Z ?_;refine CH ab Z Z Z Z Z Z Z Z Z Z Z (by omega) ?_;refine gA Z ?_;refine aJ 0 s.data.toList.length (PC _) (fun i=>⟨[(3,.sl 1 0 (pV s i).length 1),(8,.iv (.cB 1 s.data.toList.length fun k=>tx (s.data.toList.getD k co))),(9,pI s.data.toList.length),(10,pI i)],[(1,io (aF 1 (pV s i) tx))],2⟩) (fun _=>True) [0] ac
  (zW (zS trivial)) fun i I _=>?_
 have J:=sG s i;refine zE Z Z (fun h1=>?_) fun h1=>?_
 .have h1:s.data.toList.length<=i:=zG h1;refine gA Z ?_;refine Ih ab (pV s i++ [34]) Z Z Z Z Z Z Z Z Z Z Z Z (by rw[PH];rfl) (by rw[Pp];rfl) ?_;refine gA Z (zL (.of_eq ?_));simp only[pV,pR,PJ h1];rfl
 have h1:i<s.data.toList.length:=zN h1;have b:=Ci h1;have j:s.data.toList.getD (i:Int).toNat co=s.data.toList.getD i co:=rfl;generalize G:s.data.toList.getD i co=c at b j;refine zJ Z Z (fun A=>?_) fun A=>?_
 .have A:c.toNat=34:=by have:=zT A;rw[j]at this;omega
  rw[qB,am (.inl A)]at b;refine gA Z ⟨h1,ac,[3],zM ⟨.row (by rw[b,Pp];rfl),rfl,bi (bi (bi ac))⟩ (hR Z (by rw[b,PH,<-G];rfl) Z ac)⟩
 have A: ¬c.toNat=34:=by have:=zF A;rw[j]at this;omega
 refine zJ Z Z (fun B=>?_) fun B=>?_
 .have B:c.toNat=92:=by have:=zT B;rw[j]at this;omega
  rw[qB,am (.inr B)]at b;refine gA Z ⟨h1,ac,[3],zM ⟨.row (by rw[b,Pp];rfl),rfl,bi (bi (bi ac))⟩ (hR Z (by rw[b,PH,<-G];rfl) Z ac)⟩
 have B: ¬c.toNat=92:=by have:=zF B;rw[j]at this;omega
 rw[qB,be (by omega)]at b;refine zJ Z Z (fun y=>?_) fun y=>?_
 .have y:c.toNat=10:=by have:=zT y;rw[j]at this;omega
  rw[am y]at b;refine gA Z ⟨h1,ac,[3],zM ⟨.row (by rw[b,Pp];rfl),rfl,bi (bi (bi ac))⟩ (hR Z (by rw[b,PH];rfl) Z ac)⟩
 have y: ¬c.toNat=10:=by have:=zF y;rw[j]at this;omega
 rw[be y]at b;have u:=LN c;have x:=LK c;rw[<-G]at u x;simp only[Mi,Mh]at u x;refine zJ Z Z (fun C=>?_) fun C=>?_
 .have C:c.toNat<32:=by have:=zT C;rw[j]at this;omega
  rw[am (.inl C)]at b;refine fk Z (by(repeat' (first|exact ac|exact rfl|exact an.refl _|exact u|exact x|apply Pq))<;>first|omega|exact u.1|exact u.2|exact x.1|exact x.2|simp) ?_;exact⟨h1,ac,[3],zM ⟨.row (by rw[b,Pp];rfl),rfl,bi (bi (bi ac))⟩ (hR Z (by rw[b,PH,<-G];rfl) Z ac)⟩
 have C: ¬c.toNat<32:=by have:=zF C;rw[j]at this;omega
 refine zJ Z Z (fun D=>?_) fun D=>?_
 .have D:126<c.toNat:=by have:=zT D;rw[j]at this;omega
  rw[am (.inr D)]at b;refine fk Z (by(repeat' (first|exact ac|exact rfl|exact an.refl _|exact u|exact x|apply Pq))<;>first|omega|exact u.1|exact u.2|exact x.1|exact x.2|simp) ?_;exact⟨h1,ac,[3],zM ⟨.row (by rw[b,Pp];rfl),rfl,bi (bi (bi ac))⟩ (hR Z (by rw[b,PH,<-G];rfl) Z ac)⟩
 have D: ¬126<c.toNat:=by have:=zF D;rw[j]at this;omega
 rw[be (by omega)]at b;refine gA Z ⟨h1,ac,[3],zM ⟨.row (by rw[b,Pp];rfl),rfl,bi (bi (bi ac))⟩ (hR Z (by rw[b,PH,<-G];rfl) Z ac)⟩
def uB(v:dU):ak:=if v.kind=1 then⟨(Lib.itoa v.num).toArray⟩ else if iG v.sym then v.sym else pR v.sym
theorem r7{v:dU}(h:cV v=0)(h1:v.kind=1): -2147483647<=v.num∧v.num<=2147483647:=by
 unfold cV at h;rw[am h1]at h;split at h
 .rename_i b;exact b.2
 .cases h
theorem r6{v:dU}(h:cV v=0)(h1: ¬v.kind=1):v.sym.size<=64:=by
 unfold cV at h;rw[be h1]at h;split at h
 .split at h
  .rename_i b;exact b.2
  .cases h
 .cases h
theorem OX(v:dU)(j:cV v=0):Pure prog 214 [ag v.c] (pS (uB v)):=by
 refine ah ab func214 Z (by decide) ntmps214 Z (by simp) Z ?_;refine zJ Z Z (fun h1=>?_) fun h1=>?_
 .have h1:v.kind=1:=by simpa using h1
  have:=r7 j h1;refine gA Z (zp (OW v.num (by omega) (by omega)) ?_);refine gA Z (zL (.of_eq ?_));rw[uB,am h1];rfl
 have h1: ¬v.kind=1:=by simpa using h1
 have hs:=r6 j h1;refine gA Z (zp (Ol v.sym) ?_);refine zJ Z Z (fun b=>?_) fun b=>?_
 .have b:iG v.sym=jp:=b;refine gA Z (zL (.of_eq ?_));rw[uB,be h1,am b];rfl
 .have b:iG v.sym=kw:=b;refine gA Z (zp (OV v.sym (by omega)) ?_);refine gA Z (zL (.of_eq ?_));rw[uB,be h1,be (by rw[b];simp)];rfl
def qv(v:dU):ak:=if cV v=0 then uB v else⟨#[]⟩
theorem O0(v:dU):Pure prog 206 [ag v.c] (.bm [pS (qv v),pI (cV v)]):=by
 refine ah ab func206 Z (by decide) ntmps206 Z (by simp) Z ?_;refine gA Z (zp (N4 v) ?_);refine zJ Z Z (fun h1=>?_) fun h1=>?_
 .have h1: ¬cV v=0:=by simpa using h1
  refine gA Z (zL (.of_eq ?_));rw[qv,be h1];rfl
 .have h1:cV v=0:=by simpa using h1
  refine gA Z (zp (OX v h1) ?_);refine gA Z (zL (.of_eq ?_));rw[qv,am h1,h1];rfl
def lU(w:WS)(v:dU):WS:=aU (aR w (lc (cV v=0))) [qv v]
theorem d149(w:WS)(v:dU)(hb:w.l.length<=1000000000000)(b:(qv v).size<=1000):bF prog 188 [.ptr 0 0,ag v.c] w.O (.bm []) (lU w v).H 3:=by
 refine au ab func188 Z (by decide) ntmps188 Z (by simp) ?_;refine gA Z (zp (O0 v) ?_);refine gA Z (NL (d146 ⟨_,_,_,_⟩ (lc (cV v=0))) Z Z Z Z Z Z Z Z Z Z Z Z ?_);refine gA Z (go_wp (d147 ⟨_,_,_,_⟩ [qv v] (by simp) (by simp[eL,aR];omega)) Z Z Z Z Z Z Z Z Z Z Z Z ?_);refine gA Z gW
def cv(op:Int):Int:=if op=1∨op=2 then 1 else if op=3∨op=4∨op=5 then 2 else if op=6 then 3 else 0
theorem IC(op:Int):Pure prog 208 [pI op] (pI (cv op)):=by
 refine ah ab func208 Z (by decide) ntmps208 Z (by simp) Z ?_
 repeat' (first|(refine gA Z (zI (fun _=>?_) (fun _=>?_)))|(refine gA Z (zL (.of_eq ?_))))
 all_goals(refine(C8 ?_:pI _=pI _);simp only[RR,Sk,decide_eq_true_eq,decide_eq_false_iff_not] at*;simp_all [cv])
def dE(e:Expr):Int:=if e.kind=4 then cv e.op else 4
theorem CX(e:Expr):Pure prog 216 [ag e.c] (pI (dE e)):=by
 refine ah ab func216 Z (by decide) ntmps216 Z (by simp) Z ?_
 repeat' (first|(refine gA Z (zI (fun _=>?_) (fun _=>?_)))|(refine gA Z (zp (IC e.op) ?_))|(refine gA Z (zL (.of_eq ?_))))
 all_goals(refine(C8 ?_:pI _=pI _);simp_all [dE])
def dG(v:dU):Bool:=lc (v.kind=0)&&(lc (v.num=0)&&(lc (v.sym=Pt)&&jp))
def iN(e:Expr):Bool:=lc (e.kind=0)&&(lc (e.var=⟨#[]⟩)&&(dG e.val&&(lc (e.op=0)&&lc ((e.args.length:Int)=0))))
theorem ID(e:Expr):Pure prog 207 [ag e.c] (pB (iN e)):=by
 refine ah ab func207 Z (by decide) ntmps207 Z (by simp) Z ?_
 repeat' (first|(refine gA Z (zI (fun _=>?_) (fun _=>?_)))|(refine gA Z (zL (.of_eq ?_))))
 all_goals(refine(ma ?_:pB _=pB _))
 all_goals(simp only[iN,dG, *];rfl)
def jZ(l:Lit):Bool:=
 (lc (l.kind=1)||decide (l.kind=2)||!(!lc (l.atom.rel=⟨#[]⟩)||decide ((l.atom.aj.length:Int)>0)))&&
 ((!(!lc (l.kind=3))||!(!lc (l.op=0)||(!iN l.left||!iN l.right)))&&
 (lc (l.kind=4)||(lc (l.dT=0)&&(lc (l.bC=⟨#[]⟩)&&(iN l.jB&&lc ((l.ar.length:Int)=0))))))
set_option maxHeartbeats 4000000 in
theorem OZ(l:Lit):Pure prog 190 [ag l.c] (pB (jZ l)):=by
 refine ah ab func190 Z (by decide) ntmps190 Z (by simp) Z ?_
 repeat' (first|(refine gA Z (zI (fun _=>?_) (fun _=>?_)))|(refine gA Z (zp (ID l.left) ?_))|(refine gA Z (zp (ID l.right) ?_))|(refine gA Z (zp (ID l.jB) ?_))|(refine gA Z (zL (.of_eq ?_))))
 all_goals(refine(ma ?_:pB _=pB _))
 all_goals(try simp only[RR,Sk] at*)
 all_goals(simp_all [jZ])
def lJ(op:Int):ak:=if op=1 then⟨#[43]⟩ else if op=2 then⟨#[45]⟩ else if op=3 then⟨#[42]⟩ else if op=4 then⟨#[47]⟩ else⟨#[109,111,100]⟩
def sgL:ak:=⟨#[43,45,42,47]⟩
theorem OU(op:Int):Pure prog 217 [pI op] (pS (lJ op)):=by
 refine ah ab func217 Z (by decide) ntmps217 Z (by simp) Z ?_;refine gA Z ?_;refine vh ab Z Z Z Z Z Z Z ?_;refine gA Z ?_;refine aJ 0 4 (by decide) (fun i=>⟨[(0,pI op),(5,.ptr 0 0)],[(0,io (.dK sgL i))],1⟩) (fun i=> ∀k:Nat,k<i-> ¬(k:Int)+1=op) [] (by simp)
  (zW ⟨⟨_,rfl,.of_eq Z⟩,Pj Z,ac,ac⟩) fun i B b=>?_
 have u:i=0∨i=1∨i=2∨i=3∨i=4:=by omega
 rcases u with rfl|rfl|rfl|rfl|rfl
 .refine gA Z ?_;refine kE Z Z Z Z Z Z (fun h=>absurd h (by decide)) (fun _=>?_);refine zJ Z Z (fun h=>?_) fun h=>?_
  .have h:op=1:=by have:=zT h;omega
   refine gA Z ?_;refine rG ab Z Z Z Z Z Z Z Z Z ?_;refine gA Z (zL (.of_eq ?_));refine(congrArg pS ?_:pS _=pS _);subst h;decide
  .have h: ¬op=1:=by have:=zF h;omega
   refine gA Z ⟨by decide,fun k hk=>(by rcases(by omega:k<0∨k=0) with j|rfl;exact b k j;omega),[],zW ⟨⟨_,rfl,.of_eq Z⟩,Pj Z,ac,ac⟩⟩
 .refine gA Z ?_;refine kE Z Z Z Z Z Z (fun h=>absurd h (by decide)) (fun _=>?_);refine zJ Z Z (fun h=>?_) fun h=>?_
  .have h:op=2:=by have:=zT h;omega
   refine gA Z ?_;refine rG ab Z Z Z Z Z Z Z Z Z ?_;refine gA Z (zL (.of_eq ?_));refine(congrArg pS ?_:pS _=pS _);subst h;decide
  .have h: ¬op=2:=by have:=zF h;omega
   refine gA Z ⟨by decide,fun k hk=>(by rcases(by omega:k<1∨k=1) with j|rfl;exact b k j;omega),[],zW ⟨⟨_,rfl,.of_eq Z⟩,Pj Z,ac,ac⟩⟩
 .refine gA Z ?_;refine kE Z Z Z Z Z Z (fun h=>absurd h (by decide)) (fun _=>?_);refine zJ Z Z (fun h=>?_) fun h=>?_
  .have h:op=3:=by have:=zT h;omega
   refine gA Z ?_;refine rG ab Z Z Z Z Z Z Z Z Z ?_;refine gA Z (zL (.of_eq ?_));refine(congrArg pS ?_:pS _=pS _);subst h;decide
  .have h: ¬op=3:=by have:=zF h;omega
   refine gA Z ⟨by decide,fun k hk=>(by rcases(by omega:k<2∨k=2) with j|rfl;exact b k j;omega),[],zW ⟨⟨_,rfl,.of_eq Z⟩,Pj Z,ac,ac⟩⟩
 .refine gA Z ?_;refine kE Z Z Z Z Z Z (fun h=>absurd h (by decide)) (fun _=>?_);refine zJ Z Z (fun h=>?_) fun h=>?_
  .have h:op=4:=by have:=zT h;omega
   refine gA Z ?_;refine rG ab Z Z Z Z Z Z Z Z Z ?_;refine gA Z (zL (.of_eq ?_));refine(congrArg pS ?_:pS _=pS _);subst h;decide
  .have h: ¬op=4:=by have:=zF h;omega
   refine gA Z ⟨by decide,fun k hk=>(by rcases(by omega:k<3∨k=3) with j|rfl;exact b k j;omega),[],zW ⟨⟨_,rfl,.of_eq Z⟩,Pj Z,ac,ac⟩⟩
 .refine gA Z ?_;refine kE Z Z Z Z Z Z (fun _=>?_) (fun h=>absurd h (by decide));refine gA Z (zL (.of_eq ?_));have h1:=b 0 (by decide);have x:=b 1 (by decide);have y:=b 2 (by decide);have A:=b 3 (by decide);rw[lJ,be (by omega),be (by omega),be (by omega),be (by omega)];rfl
theorem zc(s:ak):(pR s).size<=2+4*s.size:=by
 have h:=sG s s.data.toList.length;simp only[pV,Rp,PO]at h;have e:(pR s).size=(34::s.data.toList.flatMap qB++ [34]).length:=by simp[pR,SI]
 have:s.data.toList.length=s.size:=by simp
 rw[e,Pp,PO,Qq];omega
theorem pF(v:dU):(qv v).size<=300:=by
 unfold qv;split
 .rename_i b;unfold uB;split
  .rename_i h1;have:=r7 b h1;have j:=Lib.itoa_length_le v.num (by omega) (by omega);have e:(⟨(Lib.itoa v.num).toArray⟩:ByteArray).size=(Lib.itoa v.num).length:=by simp[SI]
   omega
  .rename_i h1;have j:=r6 b h1;split
   .omega
   .have:=zc v.sym;omega
 .decide
mutual
def Expr.ts:Expr->Nat
 | .mk _ v _ _ args=>v.size+400+Expr.lI args
def Expr.lI:List Expr->Nat
 | []=>0
 |e::r=>e.ts+Expr.lI r
end
theorem Expr.qu(e:Expr):e.ts=e.var.size+400+Expr.lI e.args:=by cases e;rfl
theorem Expr.vM: ∀(l:List Expr) (k:Nat),k<l.length->(l.getD k co).ts<=Expr.lI l
 |e::r,0,_=>by simp[Expr.lI]
 |e::r,k+1,h=>by
  have:=Expr.vM r k (by simpa using h);simp only[QM,Expr.lI];omega
 | [],k,h=>by simp at h
theorem Expr.As: ∀(l:List Expr),l.length=2->(l.getD 0 co).ts+(l.getD 1 co).ts<=Expr.lI l
 | [a,b],_=>by simp[Expr.lI]
 | [],h=>by simp at h
 | [a],h=>by simp at h
 |a::b::c::r,h=>by simp at h
def sM:ak:=⟨#[45]⟩
def sO:ak:=⟨#[40]⟩
def sC:ak:=⟨#[41]⟩
def AD:ak:=⟨#[32]⟩
def mK(w:WS):WS:=⟨w.fr,w.l,jp,w.br⟩
def nv(e:Expr):Bool:=fc e.var&&(dG e.val&&(lc (e.op=0)&&lc ((e.args.length:Int)=0)))
def oV(e:Expr):Bool:=lc (e.var=⟨#[]⟩)&&(lc (e.op=0)&&lc ((e.args.length:Int)=0))
def ra(e:Expr):Bool:=lc (e.var=⟨#[]⟩)&&(dG e.val&&lc (cv e.op>0))
def bZ(e:Expr):Expr:=e.args.getD 0 co
def wV(e:Expr):Expr:=e.args.getD 1 co
def wm(e:Expr):Bool:=lc (e.kind=2)&&lc (e.val.kind=1)
def lK(a:Expr):Bool:=lc (dE a<3)||(wm a&&lc (a.val.num>0))
def jc(w:WS)(e:Expr)(k:WS):WS:=
 if w.bad=jp then mK w else if e.kind=1 then aU (aR w (nv e)) [e.var] else if e.kind=2 then lU (aR w (oV e)) e.val else if e.kind=4 then k else mK w
def kn(a0:Bool->WS->Expr->WS)(w:WS)(e:Expr):WS:=
 if w.bad=jp then mK w else if e.op=6 then
  (if e.args.length=1 then a0 (lK (bZ e)) (if(wm (bZ e)&&lc ((bZ e).val.num=0))=jp then aU (aU w [sM]) [sM] else aU w [sM]) (bZ e) else mK w)
 else if e.args.length=2 then a0 (lc (dE (wV e)<=cv e.op)) (aU (a0 (lc (dE (bZ e)<cv e.op)) w (bZ e)) [AD,lJ e.op,AD]) (wV e) else mK w
def cL:Nat->WS->Expr->WS
 |0,w,_=>mK w
 |1,w,e=>jc w e (mK (aR w (ra e)))
 |m+2,w,e=>jc w e (kn (fun b w a=>if b=jp then aU (cL m (aU w [sO]) a) [sC] else cL (m+1) w a) (aR w (ra e)) e)
def uq(m:Nat)(b:Bool)(w:WS)(a:Expr):WS:=if b=jp then aU (cL m (aU w [sO]) a) [sC] else cL (m+1) w a
theorem aM(w:WS)(b:Bool):(aR w b).l=w.l:=rfl
theorem fb(w:WS):(mK w).l=w.l:=rfl
theorem bI(s:ak):eL [s]=s.size:=by simp[eL]
theorem xp(op:Int):(lJ op).size<=3:=by
 unfold lJ
 repeat' split
 all_goals decide
theorem aK(w:WS)(s:ak):(aU w [s]).l.length=w.l.length+s.size:=by rw[ia,bI]
theorem rZ(w:WS)(v:dU):(lU w v).l.length<=w.l.length+300:=by
 have:=pF v;rw[lU,aK,aM];omega
theorem u9(w k:WS)(e:Expr)(h:k.l.length<=w.l.length+e.ts):(jc w e k).l.length<=w.l.length+e.ts:=by
 have:=e.qu;unfold jc
 repeat' split
 .rw[fb];omega
 .rw[aK,aM];omega
 .have:=rZ (aR w (oV e)) e.val;rw[aM]at this;omega
 .exact h
 .rw[fb];omega
theorem Cl(a0:Bool->WS->Expr->WS)(j: ∀b w a,(a0 b w a).l.length<=w.l.length+(2+a.ts))(w:WS)(e:Expr):(kn a0 w e).l.length<=w.l.length+e.ts:=by
 have B:=e.qu;unfold kn;split
 .rw[fb];omega
 split
 .split
  .rename_i h1;have y:=Expr.vM e.args 0 (by omega);have u:sM.size=1:=rfl;split
   .have:=j (lK (bZ e)) (aU (aU w [sM]) [sM]) (bZ e);rw[aK,aK]at this;simp only[bZ]at this ⊢;omega
   .have:=j (lK (bZ e)) (aU w [sM]) (bZ e);rw[aK]at this;simp only[bZ]at this ⊢;omega
  .rw[fb];omega
 .split
  .rename_i h1;have y:=Expr.As e.args h1;have x:=j (lc (dE (wV e)<=cv e.op)) (aU (a0 (lc (dE (bZ e)<cv e.op)) w (bZ e)) [AD,lJ e.op,AD]) (wV e);have C:=j (lc (dE (bZ e)<cv e.op)) w (bZ e);have D:=xp e.op;have u:AD.size=1:=rfl;rw[ia]at x;have A:eL [AD,lJ e.op,AD]=1+((lJ e.op).size+1):=by simp[eL,u]
   simp only[bZ,wV] at*;omega
  .rw[fb];omega
theorem c6: ∀(n:Nat) (w:WS) (e:Expr),(cL n w e).l.length<=w.l.length+e.ts
 |0,w,e=>by rw[cL,fb];omega
 |1,w,e=>by rw[cL];exact u9 _ _ _ (by rw[fb,aM];omega)
 |m+2,w,e=>by
  rw[cL];refine u9 _ _ _ ?_
  have:=Cl (fun j w a=>if j=jp then aU (cL m (aU w [sO]) a) [sC] else cL (m+1) w a) (fun b w a=>by
   split
   .have h1:=c6 m (aU w [sO]) a;have u:sO.size=1:=rfl;have x:sC.size=1:=rfl;rw[aK]at h1 ⊢;omega
   .have:=c6 (m+1) w a
    omega) (aR w (ra e)) e
  rwa[aM]at this
theorem FC(m:Nat)(b:Bool)(w:WS)(a:Expr):(uq m b w a).l.length<=w.l.length+(2+a.ts):=by
 unfold uq;split
 .have h1:=c6 m (aU w [sO]) a;have j:sO.size=1:=rfl;have u:sC.size=1:=rfl;rw[aK]at h1 ⊢;omega
 .have:=c6 (m+1) w a;omega
def PE(n:Nat):Prop:= ∀(d:Int) (w:WS) (e:Expr),d+1=n->w.l.length+e.ts<=1000000000->bF prog 191 [.ptr 0 0,ag e.c,pI d] w.O (.bm []) (cL n w e).H 3
theorem d225(n:Nat)(hn:n<=1000)(x:PE (n+1))(y:PE n)(b:Bool)(d:Int)(hd:d=n)(w:WS)(e:Expr)(hb:w.l.length+e.ts+2<=1000000000):bF prog 215 [.ptr 0 0,ag e.c,pB b,pI d] w.O (.bm []) (uq n b w e).H 3:=by
 refine au ab func215 Z (by decide) ntmps215 Z (by simp) ?_;refine zJ Z Z (fun h=>?_) fun h=>?_
 .have h:b=kw:=by simpa using h
  rw[uq,be (by rw[h];simp)];refine gA Z (gr (x d w e (by omega) (by omega)) ?_);refine gA Z gW
 .have h:b=jp:=by simpa using h
  rw[uq,am h];have j:sO.size=1:=rfl;have u:sC.size=1:=rfl;have hl:=c6 n (aU w [sO]) e;have A:=aK w sO;refine gA Z (ik (d147 w [sO] (by simp) (by rw[bI,j];omega)) ?_);refine gA Z (gr (y (d-1) (aU w [sO]) e (by omega) (by omega)) ?_);refine gA Z (ik (d147 (cL n (aU w [sO]) e) [sC] (by simp) (by rw[bI,u];omega)) ?_);refine gA Z gW
theorem NV(d:Int)(hd:d<0)(w:WS)(e:Expr):bF prog 209 [.ptr 0 0,ag e.c,pI d] w.O (.bm []) (mK w).H 3:=by
 refine au ab func209 Z (by decide) ntmps209 Z (by simp) ?_
 repeat' (first
  |((rename_i h;exact absurd hd (zF h)))
  |(refine gA Z (zI (fun _=>?_) (fun _=>?_)))
  |(refine gA Z (E6 (by first|exact .inr Z|exact .inl Z) Z Z Z Z Z (by first|exact .refl _|exact .kb _) (by first|exact .refl _|exact .kb _) Z Z Z Z (.refl _) Z Z)))
set_option maxHeartbeats 2000000 in
theorem d213(m:Nat)(hm:m<=900)(G:PE (m+1))(I:PE m)(d:Int)(hd:d=m)(w:WS)(e:Expr)(hb:w.l.length+e.ts<=1000000000):bF prog 209 [.ptr 0 0,ag e.c,pI d] w.O (.bm []) (kn (uq m) w e).H 3:=by
 refine bF.le (aa:=[.ptr 0 0,ag e.c,pI d]) (args:=[.ptr 0 0,ag e.c1,pI d]) ?_ ⟨.refl _,e.A4,.refl _,ac⟩;have e0:=e.qu;have D:sM.size=1:=rfl;have x:m<=1000:=by omega
 refine au ab func209 Z (by decide) ntmps209 Z (by simp) ?_;refine zJ Z Z (fun J=>?_) fun J=>?_
 .have J:e.op=6:=zT J;refine zE Z Z (fun h1=>?_) fun h1=>?_
  .have h1:w.bad=jp:=h1;rw[kn,am h1];refine gA Z gW
  have h1: ¬w.bad=jp:=by rw[show w.bad=kw from h1];simp
  refine zE Z Z (fun B=>?_) fun B=>?_
  .have B: ¬e.args.length=1:=by simp at B;omega
   rw[kn,be h1,am J,be B];refine gA Z gW
  have B:e.args.length=1:=by simp at B;omega
  have hg:(bZ e).ts<=_:=Expr.vM e.args 0 (by omega);have j:kn (uq m) w e=uq m (lK (bZ e)) (if(wm (bZ e)&&lc ((bZ e).val.num=0))=jp then aU (aU w [sM]) [sM] else aU w [sM]) (bZ e):=by rw[kn,be h1,am J,am B]
  have b0:e.args.getD 0 co=bZ e:=rfl;refine zJ Z Z (fun h3=>?_) fun h3=>?_
  .exact absurd (zT h3) (by omega)
  refine zE Z Z (fun h7=>?_) fun h7=>?_
  .exact absurd (zF h7) (by simp)
  have y:=aK w sM;refine zJ Z Z (fun hk=>?_) fun hk=>?_
  .have a0:(bZ e).kind=2:=zT hk;refine gA Z (ik (d147 w [sM] (by simp) (by rw[bI,D];omega)) ?_);refine zE Z Z (fun hv=>?_) fun hv=>?_
   .have C: ¬(bZ e).val.kind=1:=zF hv;have A:wm (bZ e)=kw:=by rw[wm,decide_eq_false C,RW]
    rw[A,Ri,be (by simp)]at j;refine gA Z (Ak (CX (bZ e)) ?_);refine zJ Z Z (fun u=>?_) fun u=>?_
    .have b:dE (bZ e)<3:=zT u;rw[lK,decide_eq_true b,Si]at j;rw[j];refine gA Z (ug (d225 m x G I jp d hd (aU w [sM]) (bZ e) (by rw[y,D];omega)) ?_);refine gA Z gW
    .have b: ¬dE (bZ e)<3:=zF u;refine zJ Z Z (fun R=>?_) fun R=>?_
     .exact absurd (zT R) C
     rw[lK,decide_eq_false b,Rr,A,Ri]at j;rw[j];refine gA Z (ug (d225 m x G I kw d hd (aU w [sM]) (bZ e) (by rw[y,D];omega)) ?_);refine gA Z gW
   .have C:(bZ e).val.kind=1:=zT hv;have A:wm (bZ e)=jp:=by rw[wm,decide_eq_true C,decide_eq_true a0];rfl
    rw[A,R4]at j;refine zJ Z Z (fun h0=>?_) fun h0=>?_
    .have Y:(bZ e).val.num=0:=zT h0;rw[am (decide_eq_true Y)]at j;refine gA Z (ik (d147 (aU w [sM]) [sM] (by simp) (by rw[bI,y,D];omega)) ?_);refine gA Z (Ak (CX (bZ e)) ?_);refine zJ Z Z (fun u=>?_) fun u=>?_
     .have b:dE (bZ e)<3:=zT u;rw[lK,decide_eq_true b,Si]at j;rw[j];refine gA Z (ug (d225 m x G I jp d hd (aU (aU w [sM]) [sM]) (bZ e) (by rw[aK,y,D];omega)) ?_);refine gA Z gW
     .have b: ¬dE (bZ e)<3:=zF u;refine zE Z Z (fun R=>?_) fun R=>?_
      .exact absurd C (zF R)
      rw[lK,decide_eq_false b,Rr,A,R4]at j;rw[j];refine gA Z (ug (d225 m x G I (lc ((bZ e).val.num>0)) d hd (aU (aU w [sM]) [sM]) (bZ e) (by rw[aK,y,D];omega)) ?_);refine gA Z gW
    .have Y: ¬(bZ e).val.num=0:=zF h0;rw[be (by simpa using Y)]at j;refine gA Z (Ak (CX (bZ e)) ?_);refine zJ Z Z (fun u=>?_) fun u=>?_
     .have b:dE (bZ e)<3:=zT u;rw[lK,decide_eq_true b,Si]at j;rw[j];refine gA Z (ug (d225 m x G I jp d hd (aU w [sM]) (bZ e) (by rw[y,D];omega)) ?_);refine gA Z gW
     .have b: ¬dE (bZ e)<3:=zF u;refine zE Z Z (fun R=>?_) fun R=>?_
      .exact absurd C (zF R)
      rw[lK,decide_eq_false b,Rr,A,R4]at j;rw[j];refine gA Z (ug (d225 m x G I (lc ((bZ e).val.num>0)) d hd (aU w [sM]) (bZ e) (by rw[y,D];omega)) ?_);refine gA Z gW
  .have a0: ¬(bZ e).kind=2:=zF hk;have A:wm (bZ e)=kw:=by rw[wm,decide_eq_false a0];rfl
   rw[A,Ri,be (by simp)]at j;refine gA Z (ik (d147 w [sM] (by simp) (by rw[bI,D];omega)) ?_);refine gA Z (Ak (CX (bZ e)) ?_);refine zJ Z Z (fun u=>?_) fun u=>?_
   .have b:dE (bZ e)<3:=zT u;rw[lK,decide_eq_true b,Si]at j;rw[j];refine gA Z (ug (d225 m x G I jp d hd (aU w [sM]) (bZ e) (by rw[y,D];omega)) ?_);refine gA Z gW
   .have b: ¬dE (bZ e)<3:=zF u;rw[lK,decide_eq_false b,Rr,A,Ri]at j;rw[j];refine gA Z (ug (d225 m x G I kw d hd (aU w [sM]) (bZ e) (by rw[y,D];omega)) ?_);refine gA Z gW
 .have J: ¬e.op=6:=zF J;refine zE Z Z (fun h1=>?_) fun h1=>?_
  .have h1:w.bad=jp:=h1;rw[kn,am h1];refine gA Z gW
  have h1: ¬w.bad=jp:=by rw[show w.bad=kw from h1];simp
  refine zE Z Z (fun B=>?_) fun B=>?_
  .have B: ¬e.args.length=2:=by simp at B;omega
   rw[kn,be h1,be J,be B];refine gA Z gW
  have B:e.args.length=2:=by simp at B;omega
  have hg:(bZ e).ts+(wV e).ts<=_:=Expr.As e.args B;rw[kn,be h1,be J,am B];refine zJ Z Z (fun h3=>?_) fun h3=>?_
  .exact absurd (zT h3) (by omega)
  refine zJ Z Z (fun h7=>?_) fun h7=>?_
  .exact absurd (zT h7) (by simp)
  refine gA Z (Ak (CX (bZ e)) ?_);refine gA Z (Ak (IC e.op) ?_);refine gA Z (ug (d225 m x G I (lc (dE (bZ e)<cv e.op)) d hd w (bZ e) (by omega)) ?_);refine gA Z (zp (OU e.op) ?_);have c0:=FC m (lc (dE (bZ e)<cv e.op)) w (bZ e);have d0:=xp e.op;have e2:AD.size=1:=rfl;have e3:eL [AD,lJ e.op,AD]=1+((lJ e.op).size+1):=by simp[eL,e2]
  refine gA Z (ik (d147 (uq m (lc (dE (bZ e)<cv e.op)) w (bZ e)) [AD,lJ e.op,AD] (by simp) (by rw[e3];omega)) ?_);refine gA Z (Ak (CX (wV e)) ?_);refine gA Z (Ak (IC e.op) ?_);refine gA Z (ug (d225 m x G I (lc (dE (wV e)<=cv e.op)) d hd (aU (uq m (lc (dE (bZ e)<cv e.op)) w (bZ e)) [AD,lJ e.op,AD]) (wV e) (by rw[ia,e3];omega)) ?_);refine gA Z gW
theorem d189(d:Int)(I:0<=d)(J:d<=1000)(w:WS)(e:Expr)(hb:w.l.length+e.ts<=1000000000)(k:WS)(hk:bF prog 209 [.ptr 0 0,ag e.c,pI (d-1)] (aR w (ra e)).O (.bm []) k.H 3):bF prog 191 [.ptr 0 0,ag e.c,pI d] w.O (.bm []) (jc w e k).H 3:=by
 have R:=e.qu;refine au ab func191 Z (by decide) ntmps191 Z (by simp) ?_;refine zE Z Z (fun h1=>?_) fun h1=>?_
 .have h1:w.bad=jp:=h1;rw[jc,am h1];refine gA Z gW
 have A: ¬w.bad=jp:=by rw[show w.bad=kw from h1];simp
 refine zJ Z Z (fun G=>?_) fun G=>?_
 .exact absurd (zT G) (by omega)
 refine zJ Z Z (fun B=>?_) fun B=>?_
 .have j:e.kind=1:=zT B;have y:jc w e k=aU (aR w (nv e)) [e.var]:=by rw[jc,be A,am j]
  rw[y];refine gA Z (zp (Ag e.var) ?_);refine zE Z Z (fun g0=>?_) fun g0=>?_
  .have b:nv e=kw:=by simp only[nv,dG, *];rfl
   rw[b];refine gA Z (gr (d146 w kw) ?_);refine gA Z (ik (d147 (aR w kw) [e.var] (by simp) (by rw[bI,aM];omega)) ?_);refine gA Z gW
  refine zE Z Z (fun g1=>?_) fun g1=>?_
  .have b:nv e=kw:=by simp only[nv,dG, *];rfl
   rw[b];refine gA Z (gr (d146 w kw) ?_);refine gA Z (ik (d147 (aR w kw) [e.var] (by simp) (by rw[bI,aM];omega)) ?_);refine gA Z gW
  refine zE Z Z (fun g2=>?_) fun g2=>?_
  .have b:nv e=kw:=by simp only[nv,dG, *];rfl
   rw[b];refine gA Z (gr (d146 w kw) ?_);refine gA Z (ik (d147 (aR w kw) [e.var] (by simp) (by rw[bI,aM];omega)) ?_);refine gA Z gW
  have b:nv e=lc ((e.args.length:Int)=0):=by simp only[nv,dG, *];rfl
  rw[b];refine gA Z (gr (d146 w (lc ((e.args.length:Int)=0))) ?_);refine gA Z (ik (d147 (aR w (lc ((e.args.length:Int)=0))) [e.var] (by simp) (by rw[bI,aM];omega)) ?_);refine gA Z gW
 have j: ¬e.kind=1:=zF B;refine zJ Z Z (fun C=>?_) fun C=>?_
 .have u:e.kind=2:=zT C;have y:jc w e k=lU (aR w (oV e)) e.val:=by rw[jc,be A,be j,am u]
  rw[y];have Y:=pF e.val;refine zE Z Z (fun g0=>?_) fun g0=>?_
  .have b:oV e=kw:=by simp only[oV,dG, *];rfl
   rw[b];refine gA Z (gr (d146 w kw) ?_);refine gA Z (gr (d149 (aR w kw) e.val (by rw[aM];omega) (by omega)) ?_);refine gA Z gW
  refine zE Z Z (fun g1=>?_) fun g1=>?_
  .have b:oV e=kw:=by simp only[oV,dG, *];rfl
   rw[b];refine gA Z (gr (d146 w kw) ?_);refine gA Z (gr (d149 (aR w kw) e.val (by rw[aM];omega) (by omega)) ?_);refine gA Z gW
  have b:oV e=lc ((e.args.length:Int)=0):=by simp only[oV,dG, *];rfl
  rw[b];refine gA Z (gr (d146 w (lc ((e.args.length:Int)=0))) ?_);refine gA Z (gr (d149 (aR w (lc ((e.args.length:Int)=0))) e.val (by rw[aM];omega) (by omega)) ?_);refine gA Z gW
 have u: ¬e.kind=2:=zF C;refine zJ Z Z (fun D=>?_) fun D=>?_
 .have x:e.kind=4:=zT D;have y:jc w e k=k:=by rw[jc,be A,be j,be u,am x]
  rw[y];refine zE Z Z (fun g0=>?_) fun g0=>?_
  .have b:ra e=kw:=by simp only[ra,dG, *];rfl
   rw[b]at hk;refine gA Z (gr (d146 w kw) ?_);refine gA Z (gr (hk) ?_);refine gA Z gW
  refine zE Z Z (fun g1=>?_) fun g1=>?_
  .have b:ra e=kw:=by simp only[ra,dG, *];rfl
   rw[b]at hk;refine gA Z (gr (d146 w kw) ?_);refine gA Z (gr (hk) ?_);refine gA Z gW
  refine gA Z (zp (IC e.op) ?_);have b:ra e=lc (cv e.op>0):=by simp only[ra,dG, *];rfl
  rw[b]at hk;refine gA Z (gr (d146 w (lc (cv e.op>0))) ?_);refine gA Z (gr (hk) ?_);refine gA Z gW
 have x: ¬e.kind=4:=zF D;rw[jc,be A,be j,be u,be x];refine gA Z gW
theorem pe0:PE 0:=fun d w e hd hb=>by
 refine au ab func191 Z (by decide) ntmps191 Z (by simp) ?_;rw[cL]
 repeat' (first
  |((rename_i h;exact absurd (by omega:d<0) (zF h)))
  |(refine gA Z (zI (fun _=>?_) (fun _=>?_)))
  |(refine gA Z (E6 (by first|exact .inr Z|exact .inl Z) Z Z Z Z Z (by first|exact .refl _|exact .kb _) (by first|exact .refl _|exact .kb _) Z Z Z Z (.refl _) Z Z)))
theorem ze: ∀n,n<=900->PE n
 |0,_=>pe0
 |1,_=>fun d w e hd hb=>d189 d (by omega) (by omega) w e hb _ (NV (d-1) (by omega) (aR w (ra e)) e)
 |m+2,h=>fun d w e hd hb=>d189 d (by omega) (by omega) w e (by omega) _ (d213 m (by omega) (ze (m+1) (by omega)) (ze m (by omega)) (d-1) (by omega) (aR w (ra e)) e (by rw[aM];omega))
theorem nG(w:WS)(e:Expr)(hb:w.l.length+e.ts<=900000000):bF prog 191 [.ptr 0 0,ag e.c,pI 16] w.O (.bm []) (cL 17 w e).H 3:=ze 17 (by omega) 16 w e (by omega) (by omega)
def xw:ak:=⟨#[44,32]⟩
def Lc:ak:=⟨#[95]⟩
def gz(i:Nat)(w:WS):WS:=if i=0 then w else aU w [xw]
def wi(t:Term):Bool:=fc t.var&&dG t.val
def wj(t:Term):Bool:=lc (t.var=⟨#[]⟩)&&dG t.val
def jE(w:WS)(t:Term):WS:=
 if t.kind=1 then aU (aR w (wi t)) [t.var] else if t.kind=2 then lU (aR w (lc (t.var=⟨#[]⟩))) t.val else if t.kind=3 then aU (aR w (wj t)) [Lc] else mK w
def fo(l:List Term)(w:WS):Nat->WS
 |0=>w
 |i+1=>jE (gz i (fo l w i)) (l.getD i co)
def jr(w:WS)(a:Atom):WS:=aU (fo a.aj (aU (aR w (iG a.rel)) [a.rel,sO]) a.aj.length) [sC]
def Term.ts(t:Term):Nat:=t.var.size+310
def Atom.ts(a:Atom):Nat:=a.rel.size+10+(a.aj.map Term.ts).sum
theorem ly(i:Nat)(w:WS):(gz i w).l.length<=w.l.length+2:=by
 have e:xw.size=2:=rfl;unfold gz;split
 .omega
 .rw[aK,e];omega
theorem BT(w:WS)(t:Term):(jE w t).l.length<=w.l.length+300+t.var.size:=by
 have e:Lc.size=1:=rfl;unfold jE
 repeat' split
 .rw[aK,aM];omega
 .have:=rZ (aR w (lc (t.var=⟨#[]⟩))) t.val;rw[aM]at this;omega
 .rw[aK,aM,e];omega
 .rw[fb];omega
theorem uD: ∀(l:List Term) (i:Nat),i<l.length->((l.take i).map Term.ts).sum+(l.getD i co).ts<=(l.map Term.ts).sum
 | [],i,h=>by simp at h
 |s::r,0,_=>by simp
 |s::r,i+1,h=>by
  have:=uD r i (by simpa using h);simp at this ⊢;omega
theorem Au: ∀(l:List Term) (i:Nat),((l.take i).map Term.ts).sum<=(l.map Term.ts).sum
 | [],i=>by simp
 |s::r,0=>by simp
 |s::r,i+1=>by have:=Au r i;simp at this ⊢;omega
theorem nQ(l:List Term)(w:WS): ∀i,i<=l.length->(fo l w i).l.length<=w.l.length+((l.take i).map Term.ts).sum
 |0,_=>by simp[fo]
 |i+1,h=>by
  have h1:=nQ l w i (by omega);have b:=ly i (fo l w i);have j:=BT (gz i (fo l w i)) (l.getD i co);have u:(l.getD i co).ts=(l.getD i co).var.size+310:=rfl;have x:((l.take (i+1)).map Term.ts).sum=((l.take i).map Term.ts).sum+(l.getD i co).ts:=by
   rw[ct (by omega),PH,List.sum_append];simp
  rw[fo];omega
theorem vD(w:WS)(a:Atom):(jr w a).l.length<=w.l.length+a.ts:=by
 have b:sO.size=1:=rfl;have j:sC.size=1:=rfl;have u:eL [a.rel,sO]=a.rel.size+1:=by simp[eL,b]
 have h1:=nQ a.aj (aU (aR w (iG a.rel)) [a.rel,sO]) a.aj.length (Pv _);rw[ia,u,aM,Rp]at h1;rw[jr,aK,j];unfold Atom.ts;omega
theorem u7: ∀l:List Term,l.length<=(l.map Term.ts).sum
 | []=>by simp
 |t::r=>by have:=u7 r;simp[Term.ts]at this ⊢;omega
set_option maxHeartbeats 1000000 in
theorem d104(w:WS)(a:Atom)(hb:w.l.length+a.ts<=900000000):bF prog 153 [.ptr 0 0,ag a.c] w.O (.bm []) (jr w a).H 3:=by
 have J:sO.size=1:=rfl;have R:sC.size=1:=rfl;have y:xw.size=2:=rfl;have e5:Lc.size=1:=rfl;have I:eL [a.rel,sO]=a.rel.size+1:=by simp[eL,J]
 have i0:a.ts=a.rel.size+10+(a.aj.map Term.ts).sum:=rfl;have d0:=u7 a.aj;have b0:(aU (aR w (iG a.rel)) [a.rel,sO]).l.length=w.l.length+(a.rel.size+1):=by rw[ia,I,aM]
 refine au ab func153 Z (by decide) ntmps153 Z (by simp) ?_;refine gA Z (zp (Ol a.rel) ?_);refine gA Z (gr (d146 w (iG a.rel)) ?_);refine gA Z (ik (d147 (aR w (iG a.rel)) [a.rel,sO] (by simp) (by rw[I,aM];omega)) ?_);generalize Y:aU (aR w (iG a.rel)) [a.rel,sO]=w1 at*
 refine gA Z ?_;refine aJ 0 a.aj.length (PC _) (fun i=>⟨[(0,.ptr 0 0),(17,.iv (bu 5 a.aj Term.c)),(18,pI a.aj.length),(19,pI i)],[(0,io ((fo a.aj w1 i).pC 0 6)),(6,io (.bp (fo a.aj w1 i).l 5))],7⟩) (fun _=>True) _ ac
  (Oq (w:=w1) Z Z Z Z Z (.refl _) (.refl _) Z Z Z Z Z (bi (bi (bi (bi trivial))))) fun i hi _=>?_
 have c0:=nQ a.aj w1 i hi;have e0:=Au a.aj i;refine zE Z Z (fun h1=>?_) fun h1=>?_
 .have h1:a.aj.length<=i:=zG h1;have G:i=a.aj.length:=by omega
  subst G;refine gA Z (ik (d147 (fo a.aj w1 a.aj.length) [sC] (by simp) (by rw[bI,R];omega)) ?_);rw[jr,Y];refine gA Z gW
 have h1:i<a.aj.length:=zN h1;have f0:=uD a.aj i h1;have hs:fo a.aj w1 (i+1)=jE (gz i (fo a.aj w1 i)) (a.aj.getD i co):=rfl;have ht:(a.aj.getD i co).ts=(a.aj.getD i co).var.size+310:=rfl;have j0:=pF (a.aj.getD i co).val;have a0:=ly i (fo a.aj w1 i);generalize hT:fo a.aj w1 i=w2 at*
 refine zJ Z Z (fun A=>?_) fun A=>?_
 .have A: ¬i=0:=by have:=zT A;omega
  rw[gz,be A]at hs;refine gA Z (ik (d147 w2 [xw] (by simp) (by rw[bI,y];omega)) ?_);refine zJ Z Z (fun B=>?_) fun B=>?_
  .have b:(a.aj.getD i co).kind=1:=zT B;rw[jE,am b]at hs;refine gA Z (zp (Ag (a.aj.getD i co).var) ?_);refine zE Z Z (fun g0=>?_) fun g0=>?_
   .have u:wi (a.aj.getD i co)=kw:=by have g:fc (a.aj.getD i co).var=kw:=g0;rw[wi,g];rfl
    rw[u]at hs;refine gA Z (gr (d146 (aU w2 [xw]) kw) ?_);refine gA Z (ik (d147 (aR (aU w2 [xw]) kw) [(a.aj.getD i co).var] (by simp) (by rw[bI,aM];first|omega|(rw[aK,y];omega))) ?_);refine gA Z ⟨h1,ac,_,oH (hs.symm)⟩
   have u:wi (a.aj.getD i co)=dG (a.aj.getD i co).val:=by have g:fc (a.aj.getD i co).var=jp:=g0;rw[wi,g];rfl
   rw[u]at hs;refine gA Z (gr (d146 (aU w2 [xw]) (dG (a.aj.getD i co).val)) ?_);refine gA Z (ik (d147 (aR (aU w2 [xw]) (dG (a.aj.getD i co).val)) [(a.aj.getD i co).var] (by simp) (by rw[bI,aM];first|omega|(rw[aK,y];omega))) ?_);refine gA Z ⟨h1,ac,_,oH (hs.symm)⟩
  have b: ¬(a.aj.getD i co).kind=1:=zF B;refine zJ Z Z (fun C=>?_) fun C=>?_
  .have j:(a.aj.getD i co).kind=2:=zT C;rw[jE,be b,am j]at hs;refine gA Z (gr (d146 (aU w2 [xw]) (lc ((a.aj.getD i co).var=⟨#[]⟩))) ?_);refine gA Z (gr (d149 (aR (aU w2 [xw]) (lc ((a.aj.getD i co).var=⟨#[]⟩))) (a.aj.getD i co).val (by rw[aM];first|omega|(rw[aK,y];omega)) (by omega)) ?_);refine gA Z ⟨h1,ac,_,oH (hs.symm)⟩
  have j: ¬(a.aj.getD i co).kind=2:=zF C;refine zJ Z Z (fun D=>?_) fun D=>?_
  .have x:(a.aj.getD i co).kind=3:=zT D;rw[jE,be b,be j,am x]at hs;refine zE Z Z (fun g0=>?_) fun g0=>?_
   .have u:wj (a.aj.getD i co)=kw:=by have g:lc ((a.aj.getD i co).var=⟨#[]⟩)=kw:=g0;rw[wj,g];rfl
    rw[u]at hs;refine gA Z (gr (d146 (aU w2 [xw]) kw) ?_);refine gA Z (ik (d147 (aR (aU w2 [xw]) kw) [Lc] (by simp) (by rw[bI,aM];first|omega|(rw[aK,y];omega))) ?_);refine gA Z ⟨h1,ac,_,oH (hs.symm)⟩
   have u:wj (a.aj.getD i co)=dG (a.aj.getD i co).val:=by have g:lc ((a.aj.getD i co).var=⟨#[]⟩)=jp:=g0;rw[wj,g];rfl
   rw[u]at hs;refine gA Z (gr (d146 (aU w2 [xw]) (dG (a.aj.getD i co).val)) ?_);refine gA Z (ik (d147 (aR (aU w2 [xw]) (dG (a.aj.getD i co).val)) [Lc] (by simp) (by rw[bI,aM];first|omega|(rw[aK,y];omega))) ?_);refine gA Z ⟨h1,ac,_,oH (hs.symm)⟩
  have x: ¬(a.aj.getD i co).kind=3:=zF D;rw[jE,be b,be j,be x]at hs;refine gA Z ⟨h1,ac,_,oH (hs.symm)⟩
 .have A:i=0:=by have:=zF A;omega
  rw[gz,am A]at hs;refine zJ Z Z (fun B=>?_) fun B=>?_
  .have b:(a.aj.getD i co).kind=1:=zT B;rw[jE,am b]at hs;refine gA Z (zp (Ag (a.aj.getD i co).var) ?_);refine zE Z Z (fun g0=>?_) fun g0=>?_
   .have u:wi (a.aj.getD i co)=kw:=by have g:fc (a.aj.getD i co).var=kw:=g0;rw[wi,g];rfl
    rw[u]at hs;refine gA Z (gr (d146 w2 kw) ?_);refine gA Z (ik (d147 (aR w2 kw) [(a.aj.getD i co).var] (by simp) (by rw[bI,aM];first|omega|(rw[aK,y];omega))) ?_);refine gA Z ⟨h1,ac,_,oH (hs.symm)⟩
   have u:wi (a.aj.getD i co)=dG (a.aj.getD i co).val:=by have g:fc (a.aj.getD i co).var=jp:=g0;rw[wi,g];rfl
   rw[u]at hs;refine gA Z (gr (d146 w2 (dG (a.aj.getD i co).val)) ?_);refine gA Z (ik (d147 (aR w2 (dG (a.aj.getD i co).val)) [(a.aj.getD i co).var] (by simp) (by rw[bI,aM];first|omega|(rw[aK,y];omega))) ?_);refine gA Z ⟨h1,ac,_,oH (hs.symm)⟩
  have b: ¬(a.aj.getD i co).kind=1:=zF B;refine zJ Z Z (fun C=>?_) fun C=>?_
  .have j:(a.aj.getD i co).kind=2:=zT C;rw[jE,be b,am j]at hs;refine gA Z (gr (d146 w2 (lc ((a.aj.getD i co).var=⟨#[]⟩))) ?_);refine gA Z (gr (d149 (aR w2 (lc ((a.aj.getD i co).var=⟨#[]⟩))) (a.aj.getD i co).val (by rw[aM];first|omega|(rw[aK,y];omega)) (by omega)) ?_);refine gA Z ⟨h1,ac,_,oH (hs.symm)⟩
  have j: ¬(a.aj.getD i co).kind=2:=zF C;refine zJ Z Z (fun D=>?_) fun D=>?_
  .have x:(a.aj.getD i co).kind=3:=zT D;rw[jE,be b,be j,am x]at hs;refine zE Z Z (fun g0=>?_) fun g0=>?_
   .have u:wj (a.aj.getD i co)=kw:=by have g:lc ((a.aj.getD i co).var=⟨#[]⟩)=kw:=g0;rw[wj,g];rfl
    rw[u]at hs;refine gA Z (gr (d146 w2 kw) ?_);refine gA Z (ik (d147 (aR w2 kw) [Lc] (by simp) (by rw[bI,aM];first|omega|(rw[aK,y];omega))) ?_);refine gA Z ⟨h1,ac,_,oH (hs.symm)⟩
   have u:wj (a.aj.getD i co)=dG (a.aj.getD i co).val:=by have g:lc ((a.aj.getD i co).var=⟨#[]⟩)=jp:=g0;rw[wj,g];rfl
   rw[u]at hs;refine gA Z (gr (d146 w2 (dG (a.aj.getD i co).val)) ?_);refine gA Z (ik (d147 (aR w2 (dG (a.aj.getD i co).val)) [Lc] (by simp) (by rw[bI,aM];first|omega|(rw[aK,y];omega))) ?_);refine gA Z ⟨h1,ac,_,oH (hs.symm)⟩
  have x: ¬(a.aj.getD i co).kind=3:=zF D;rw[jE,be b,be j,be x]at hs;refine gA Z ⟨h1,ac,_,oH (hs.symm)⟩
end Go.Proofs.YtllkaddcplhklaaGreatDoor
namespace Go.Proofs.YtllkaddcplhklaaGreatDoor
open Go Go.Al
def y1:ak:=⟨#[110,111,116,32]⟩
def pK:ak:=⟨#[32,61,32]⟩
def pL:ak:=⟨#[32,123,32]⟩
def C7:ak:=⟨#[32,58,32]⟩
def xv:ak:=⟨#[32,125]⟩
def tv(op:Int):ak:=if op=1 then⟨#[32,61,32]⟩ else if op=2 then⟨#[32,33,61,32]⟩ else if op=3 then⟨#[32,60,32]⟩ else if op=4 then⟨#[32,60,61,32]⟩ else if op=5 then⟨#[32,62,32]⟩ else⟨#[32,62,61,32]⟩
def iC(f:Int):ak:=if f=1 then⟨#[99,111,117,110,116]⟩ else if f=2 then⟨#[115,117,109]⟩ else if f=3 then⟨#[109,105,110]⟩ else⟨#[109,97,120]⟩
def tV(w:WS)(n:Int):WS:=⟨w.fr,w.l,w.bad,w.br+n⟩
def c4(f:Lit->WS->WS)(l:List Lit)(w:WS):Nat->WS
 |0=>w
 |i+1=>if(c4 f l w i).bad=jp then c4 f l w i else f (l.getD i co) (gz i (c4 f l w i))
def oE(w:WS)(a:fC):WS:=if a.func=1 then aR w (iN a.iF) else aU (cL 17 w a.iF) [C7]
def wY(f:Lit->WS->WS)(w:WS)(a:fC):WS:=
 if a.func<1∨5<=a.func∨16<=w.br∨a.body.length=0 then mK w
 else aU (tV (c4 f a.body (tV (oE (aU (aR w (fc a.var)) [a.var,pK,iC a.func,pL]) a) 1) a.body.length) (-1)) [xv]
def zn(f:Lit->WS->WS)(l:Lit)(w:WS):WS:=
 if l.kind=2 then jr (aU w [y1]) l.atom else if l.kind=1 then jr w l.atom
 else if l.kind=3 then(if l.op<1∨7<=l.op then mK (cL 17 w l.left) else cL 17 (aU (cL 17 w l.left) [tv l.op]) l.right)
 else if l.kind=4 then wY f w l.agg else mK w
def dB:Nat->Lit->WS->WS
 |0,_,w=>w
 |n+1,l,w=>zn (dB n) l (aR w (jZ l))
theorem cP: ∀(b:List ak) (w:WS),(aU w b).br=w.br
 | [],w=>rfl
 |s::r,w=>cP r (xI w s)
theorem sR(w:WS)(b:Bool):(aR w b).br=w.br:=rfl
theorem IG(w:WS):(mK w).br=w.br:=rfl
theorem uy(w:WS)(v:dU):(lU w v).br=w.br:=by rw[lU,cP];rfl
theorem ye(w k:WS)(e:Expr)(h:k.br=w.br):(jc w e k).br=w.br:=by
 unfold jc
 repeat' split
 .rfl
 .rw[cP];rfl
 .rw[uy];rfl
 .exact h
 .rfl
theorem Ec(a0:Bool->WS->Expr->WS)(j: ∀b w a,(a0 b w a).br=w.br)(w:WS)(e:Expr):(kn a0 w e).br=w.br:=by
 unfold kn
 repeat' split
 .rfl
 .rw[j,cP,cP]
 .rw[j,cP]
 .rfl
 .rw[j,cP,j]
 .rfl
theorem kM: ∀(n:Nat) (w:WS) (e:Expr),(cL n w e).br=w.br
 |0,w,e=>rfl
 |1,w,e=>by rw[cL];exact ye _ _ _ Z
 |m+2,w,e=>by
  rw[cL];refine ye _ _ _ ?_;rw[Ec _ (fun b w a=>?_)]
  .rfl
  .split
   .rw[cP,kM m,cP]
   .exact kM (m+1) _ _
theorem qo(i:Nat)(w:WS):(gz i w).br=w.br:=by
 unfold gz;split
 .rfl
 .exact cP _ _
theorem Dq(w:WS)(t:Term):(jE w t).br=w.br:=by
 unfold jE
 repeat' split
 .rw[cP];rfl
 .rw[uy];rfl
 .rw[cP];rfl
 .rfl
theorem uC(l:List Term)(w:WS): ∀i,(fo l w i).br=w.br
 |0=>rfl
 |i+1=>by rw[fo,Dq,qo,uC l w i]
theorem yK(w:WS)(a:Atom):(jr w a).br=w.br:=by rw[jr,cP,uC,cP];rfl
theorem mJ(f:Lit->WS->WS)(hf: ∀l w,(f l w).br=w.br)(l:List Lit)(w:WS): ∀i,(c4 f l w i).br=w.br
 |0=>rfl
 |i+1=>by
  rw[c4];split
  .exact mJ f hf l w i
  .rw[hf,qo,mJ f hf l w i]
theorem Eg(w:WS)(a:fC):(oE w a).br=w.br:=by
 unfold oE;split
 .rfl
 .rw[cP,kM]
theorem IM(f:Lit->WS->WS)(hf: ∀l w,(f l w).br=w.br)(w:WS)(a:fC):(wY f w a).br=w.br:=by
 unfold wY;split
 .rfl
 .rw[cP];show(c4 _ _ _ _).br+ -1=_;rw[mJ f hf];show(oE _ _).br+1+ -1=_;rw[Eg,cP,sR];omega
theorem HW(f:Lit->WS->WS)(hf: ∀l w,(f l w).br=w.br)(l:Lit)(w:WS):(zn f l w).br=w.br:=by
 unfold zn
 repeat' split
 .rw[yK,cP]
 .exact yK _ _
 .rw[IG,kM]
 .rw[kM,cP,kM]
 .exact IM f hf _ _
 .rfl
theorem wA: ∀(n:Nat) (l:Lit) (w:WS),(dB n l w).br=w.br
 |0,_,_=>rfl
 |n+1,l,w=>by rw[dB,HW (dB n) (wA n)];rfl
mutual
def Lit.ts:Lit->Nat
 | .mk _ a _ l r _ v o b _=>100+a.ts+l.ts+r.ts+v.size+o.ts+Lit.lI b
def Lit.lI:List Lit->Nat
 | []=>0
 |e::r=>e.ts+Lit.lI r
end
theorem Lit.qu(l:Lit):l.ts=100+l.atom.ts+l.left.ts+l.right.ts+l.bC.size+l.jB.ts+Lit.lI l.ar:=by cases l;rfl
theorem Lit.xc: ∀(l:List Lit) (i:Nat),i<l.length->Lit.lI (l.take i)+(l.getD i co).ts<=Lit.lI l
 | [],i,h=>by simp at h
 |s::r,0,_=>by simp[Lit.lI]
 |s::r,i+1,h=>by
  have:=Lit.xc r i (by simpa using h);simp only[QS,Lit.lI,QM];omega
theorem Lit.Dm: ∀(l:List Lit) (i:Nat),Lit.lI (l.take i)<=Lit.lI l
 | [],i=>by simp
 |s::r,0=>by simp[Lit.lI]
 |s::r,i+1=>by have:=Lit.Dm r i;simp only[QS,Lit.lI];omega
theorem Lit.KU(l:Lit):100<=l.ts:=by rw[l.qu];omega
theorem Fo(op:Int):(tv op).size<=4:=by
 unfold tv
 repeat' split
 all_goals decide
theorem yy(op:Int):(iC op).size<=5:=by
 unfold iC
 repeat' split
 all_goals decide
def IP(f:Lit->WS->WS):Prop:= ∀l w,(f l w).l.length+4<=w.l.length+l.ts
theorem mY(f:Lit->WS->WS)(hf:IP f)(l:List Lit)(w:WS): ∀i,i<=l.length->(c4 f l w i).l.length<=w.l.length+Lit.lI (l.take i)
 |0,_=>by simp[c4,Lit.lI]
 |i+1,h=>by
  have h1:=mY f hf l w i (by omega);have y:Lit.lI (l.take (i+1))=Lit.lI (l.take i)+(l.getD i co).ts:=by
   rw[ct (by omega)];have: ∀(a:List Lit) (b:Lit),Lit.lI (a++ [b])=Lit.lI a+b.ts:=by
    intro a b
    induction a with
    |nil=>simp[Lit.lI]
    |cons x r ih=>simp only[QR,Lit.lI,ih];omega
   exact this _ _
  rw[c4];split
  .omega
  .have j:=hf (l.getD i co) (gz i (c4 f l w i));have u:=ly i (c4 f l w i);omega
theorem AZ(w:WS)(a:fC):(oE w a).l.length<=w.l.length+a.iF.ts+3:=by
 have e:C7.size=3:=rfl;unfold oE;split
 .rw[aM];omega
 .have:=c6 17 w a.iF;rw[aK,e];omega
theorem ve(w:WS)(a:fC):(aU (aR w (fc a.var)) [a.var,pK,iC a.func,pL]).l.length<=w.l.length+a.var.size+11:=by
 have b:pK.size=3:=rfl;have j:pL.size=3:=rfl;have h:=yy a.func;have e:eL [a.var,pK,iC a.func,pL]=a.var.size+(3+((iC a.func).size+3)):=by simp[eL,b,j]
 rw[ia,aM,e];omega
theorem FH(f:Lit->WS->WS)(hf:IP f)(w:WS)(a:fC):(wY f w a).l.length<=w.l.length+a.var.size+a.iF.ts+Lit.lI a.body+20:=by
 have e:xv.size=2:=rfl;unfold wY;split
 .rw[fb];omega
 .rw[aK,e];show(c4 _ _ _ _).l.length+2<=_;have h1:=mY f hf a.body (tV (oE (aU (aR w (fc a.var)) [a.var,pK,iC a.func,pL]) a) 1) a.body.length (Pv _);rw[Rp]at h1;have b:=AZ (aU (aR w (fc a.var)) [a.var,pK,iC a.func,pL]) a;have j:=ve w a;have u:(tV (oE (aU (aR w (fc a.var)) [a.var,pK,iC a.func,pL]) a) 1).l.length=(oE (aU (aR w (fc a.var)) [a.var,pK,iC a.func,pL]) a).l.length:=rfl;omega
theorem Ew(f:Lit->WS->WS)(hf:IP f)(l:Lit)(w:WS):(zn f l w).l.length+4<=w.l.length+l.ts:=by
 have x:=l.qu;have e:y1.size=4:=rfl;unfold zn
 repeat' split
 .have h1:=vD (aU w [y1]) l.atom;rw[aK,e]at h1;omega
 .have h1:=vD w l.atom;omega
 .have h1:=c6 17 w l.left;rw[fb];omega
 .have h1:=c6 17 w l.left;have b:=c6 17 (aU (cL 17 w l.left) [tv l.op]) l.right;have j:=Fo l.op;rw[aK]at b;omega
 .have h1:=FH f hf w l.agg;have b:l.agg.var=l.bC:=rfl;have j:l.agg.iF=l.jB:=rfl;have u:l.agg.body=l.ar:=rfl;rw[b,j,u]at h1;omega
 .rw[fb];omega
theorem sV: ∀n,IP (dB n)
 |0=>fun l w=>by have:=l.KU;rw[dB];omega
 |n+1=>fun l w=>Ew (dB n) (sV n) l (aR w (jZ l))
theorem vB{f:Lit->WS->WS}{l:List Lit}{w:WS}{i:Nat}(h:(c4 f l w i).bad=jp): ∀k,c4 f l w (i+k)=c4 f l w i
 |0=>rfl
 |k+1=>by
  have:=vB h k;rw[<-Q6,c4,this,am h]
end Go.Proofs.YtllkaddcplhklaaGreatDoor
namespace Go.Proofs.YtllkaddcplhklaaGreatDoor
open Go Go.Al Go.Proofs.Tryz
def FJ(n:Nat):Prop:= ∀(l:Lit) (w:WS),l.size<=n->0<=w.br->w.br<=16->w.l.length+l.ts<=900000000->bF prog 155 [.ptr 0 0,ag l.c] w.O (.bm []) (dB n l w).H 3
set_option maxHeartbeats 1000000 in
theorem d214(n:Nat)(C:FJ n)(w:WS)(b:List Lit)(hs:Lit.aB b<=n)(G:0<=w.br)(I:w.br<=16)(hb:w.l.length+Lit.lI b+2<=900000000)(hn:n<=100000000):
  bF prog 210 [.ptr 0 0,.iv (lits b)] w.O (.bm []) (c4 (dB n) b w b.length).H 3:=by
 have D:xw.size=2:=rfl;have a0:=Lit.aG b;refine au ab func210 Z (by decide) ntmps210 Z (by simp) ?_;refine gA Z ?_;refine aJ 0 b.length (PC _) (fun i=>⟨[(0,.ptr 0 0),(6,.iv (lits b)),(7,pI b.length),(8,pI i)],[(0,io ((c4 (dB n) b w i).pC 0 2)),(2,io (.bp (c4 (dB n) b w i).l 5))],3⟩) (fun _=>True) _ ac
  (Oq (w:=w) Z Z Z Z Z (.refl _) (.refl _) Z Z Z Z Z (bi (bi (bi (bi trivial))))) fun i R _=>?_
 have Y:=mY (dB n) (sV n) b w i R;have J:=mJ (dB n) (wA n) b w i;have c0:=Lit.Dm b i;refine zE Z Z (fun h1=>?_) fun h1=>?_
 .have h1:b.length<=i:=zG h1;have B:i=b.length:=by omega
  subst B;refine gA Z gW
 have h1:i<b.length:=zN h1;have d0:=Lit.xc b i h1;have b0:=Lit.bU b i h1;have j:c4 (dB n) b w (i+1)=if(c4 (dB n) b w i).bad=jp then c4 (dB n) b w i else dB n (b.getD i co) (gz i (c4 (dB n) b w i)):=rfl;have u:=fun h=>vB (f:=dB n) (l:=b) (w:=w) (i:=i) h (b.length-i);rw[Nat.add_sub_cancel' (Nat.le_of_lt h1)]at u;have A:=ly i (c4 (dB n) b w i);have y:=qo i (c4 (dB n) b w i);generalize c4 (dB n) b w i=w2 at*
 refine zJ Z Z (fun g=>?_) fun g=>?_
 .have g:w2.bad=jp:=g;rw[u g];refine gA Z gW
 have g: ¬w2.bad=jp:=by
  have g:w2.bad=kw:=g;rw[g];decide
 rw[be g]at j;refine zJ Z Z (fun x=>?_) fun x=>?_
 .have x: ¬i=0:=by have:=zT x;omega
  rw[gz,be x]at j A y;refine gA Z (ik (d147 w2 [xw] (by simp) (by rw[bI,D];omega)) ?_);refine gA Z (gr (C (b.getD i co) (aU w2 [xw]) (by omega) (by omega) (by omega) (by omega)) ?_);refine gA Z ⟨h1,ac,_,oH (j.symm)⟩
 .have x:i=0:=by have:=zF x;omega
  rw[gz,am x]at j A y;refine gA Z (gr (C (b.getD i co) w2 (by omega) (by omega) (by omega) (by omega)) ?_);refine gA Z ⟨h1,ac,_,oH (j.symm)⟩
def fC.ts(a:fC):Nat:=a.var.size+a.iF.ts+Lit.lI a.body
set_option maxHeartbeats 4000000 in
theorem d190(n:Nat)(ih:FJ n)(w:WS)(a:fC)(hs:Lit.aB a.body<=n)(a0:0<=w.br)(b0:w.br<=16)(hb:w.l.length+a.ts+30<=900000000)(hn:n<=100000000):
  bF prog 192 [.ptr 0 0,ag a.c] w.O (.bm []) (wY (dB n) w a).H 3:=by
 refine bF.le (args:=[.ptr 0 0,ag a.c1]) ?_ ⟨.refl _,a.A4,ac⟩;have Y:xv.size=2:=rfl;have e5:C7.size=3:=rfl;have c0:=Lit.aG a.body;have d0:a.ts=a.var.size+a.iF.ts+Lit.lI a.body:=rfl;have hW: ¬(a.func<1∨5<=a.func∨16<=w.br∨a.body.length=0)->wY (dB n) w a=aU (tV (c4 (dB n) a.body (tV (oE (aU (aR w (fc a.var)) [a.var,pK,iC a.func,pL]) a) 1) a.body.length) (-1)) [xv]:=fun h=>be h;have R:a.func<1∨5<=a.func∨16<=w.br∨a.body.length=0->wY (dB n) w a=mK w:=fun h=>am h;have hh:=ve w a;have y:=AZ (aU (aR w (fc a.var)) [a.var,pK,iC a.func,pL]) a;have u:=Eg (aU (aR w (fc a.var)) [a.var,pK,iC a.func,pL]) a;rw[cP,sR]at u;have A:(tV (oE (aU (aR w (fc a.var)) [a.var,pK,iC a.func,pL]) a) 1).l.length=(oE (aU (aR w (fc a.var)) [a.var,pK,iC a.func,pL]) a).l.length:=rfl;have B:(tV (oE (aU (aR w (fc a.var)) [a.var,pK,iC a.func,pL]) a) 1).br=(oE (aU (aR w (fc a.var)) [a.var,pK,iC a.func,pL]) a).br+1:=rfl;have x:=mY (dB n) (sV n) a.body (tV (oE (aU (aR w (fc a.var)) [a.var,pK,iC a.func,pL]) a) 1) a.body.length (Pv _);rw[Rp]at x;have C:=mJ (dB n) (wA n) a.body (tV (oE (aU (aR w (fc a.var)) [a.var,pK,iC a.func,pL]) a) 1) a.body.length;have D:eL [a.var,pK,iC a.func,pL]=a.var.size+(3+((iC a.func).size+3)):=by simp[eL,pK,pL];rfl
 have G:=yy a.func;obtain⟨j,var,b,body⟩:=a;dsimp only at*
 refine au ab func192 Z (by decide) ntmps192 Z (by simp) ?_;refine zE Z Z (fun g1=>?_) fun g1=>?_
 .rw[R (.inl (zT g1))];refine gA Z gW
 refine zE Z Z (fun g2=>?_) fun g2=>?_
 .rw[R (.inr (.inl (zT g2)))];refine gA Z gW
 refine zE Z Z (fun g3=>?_) fun g3=>?_
 .rw[R (.inr (.inr (.inl (zT g3))))];refine gA Z gW
 refine zJ Z Z (fun g4=>?_) fun g4=>?_
 .rw[R (.inr (.inr (.inr (SS.1 (zT g4)))))];refine gA Z gW
 have g1: ¬j<1:=zF g1;have g2: ¬j>=5:=zF g2;have g3: ¬w.br>=16:=zF g3;have g4: ¬body.length=0:=fun h=>zF g4 (SS.2 h);rw[hW (by rintro(h|h|h|h)<;>omega)];have hf:j=1∨j=2∨j=3∨j=4:=by omega
 clear hW R;rcases hf with rfl|rfl|rfl|rfl
 .have e:iC 1=⟨#[99,111,117,110,116]⟩:=rfl;rw[e]at hh y u A B x C D G ⊢;refine gA Z (zp (Ag var) ?_);refine gA Z (gr (d146 w (fc var)) ?_);refine gA Z (wF (d147 (aR w (fc var)) [var,pK,⟨#[99,111,117,110,116]⟩,pL] (by simp) (by rw[D,aM];omega)) Z Z Z Z Z Z Z Z Z Z Z Z Z Z Z Z (by(repeat' (first|exact ac|exact rfl|exact an.refl _|exact an.bk (by assumption)|apply Pq))<;>first|omega|(simp only[Pr];omega)|(simp;done)|(simp;omega)) Z (by(repeat' (first|exact ac|exact rfl|exact an.refl _|exact an.bk (by assumption)|apply Pq))<;>first|omega|(simp only[Pr];omega)|(simp;done)|(simp;omega)) ?_);generalize J:aU (aR w (fc var)) [var,pK,⟨#[99,111,117,110,116]⟩,pL]=w1 at*
  have I:oE w1 ⟨1,var,b,body⟩=aR w1 (iN b):=rfl;rw[I]at y u A B x C ⊢;refine zE Z Z (fun q=>?_) fun q=>?_
  .exact absurd (show jp=kw from q) (by decide)
  refine gA Z (zp (ID b) ?_);refine gA Z (gr (d146 w1 (iN b)) ?_);generalize aR w1 (iN b)=w2 at*
  refine gA Z (gr (d214 n ih (tV w2 1) body hs (by omega) (by omega) (by omega) hn) ?_);generalize c4 (dB n) body (tV w2 1) body.length=w3 at*
  refine gA Z (go_wp (d147 (tV w3 (-1)) [xv] (by simp) (by rw[bI,Y];show w3.l.length+2<=_;omega)) Z Z Z Z Z Z Z Z Z Z Z Z ?_);refine gA Z gW
 .have e:iC 2=⟨#[115,117,109]⟩:=rfl;rw[e]at hh y u A B x C D G ⊢;refine gA Z (zp (Ag var) ?_);refine gA Z (gr (d146 w (fc var)) ?_);refine gA Z (wF (d147 (aR w (fc var)) [var,pK,⟨#[115,117,109]⟩,pL] (by simp) (by rw[D,aM];omega)) Z Z Z Z Z Z Z Z Z Z Z Z Z Z Z Z (by(repeat' (first|exact ac|exact rfl|exact an.refl _|exact an.bk (by assumption)|apply Pq))<;>first|omega|(simp only[Pr];omega)|(simp;done)|(simp;omega)) Z (by(repeat' (first|exact ac|exact rfl|exact an.refl _|exact an.bk (by assumption)|apply Pq))<;>first|omega|(simp only[Pr];omega)|(simp;done)|(simp;omega)) ?_);generalize J:aU (aR w (fc var)) [var,pK,⟨#[115,117,109]⟩,pL]=w1 at*
  have I:oE w1 ⟨2,var,b,body⟩=aU (cL 17 w1 b) [C7]:=rfl;rw[I]at y u A B x C ⊢;refine zJ Z Z (fun q=>?_) fun q=>?_
  .exact absurd (show kw=jp from q) (by decide)
  have hx:=c6 17 w1 b;refine gA Z (gr (nG w1 b (by omega)) ?_);refine gA Z (ik (d147 (cL 17 w1 b) [C7] (by simp) (by rw[bI,e5];omega)) ?_);generalize aU (cL 17 w1 b) [C7]=w2 at*
  refine gA Z (gr (d214 n ih (tV w2 1) body hs (by omega) (by omega) (by omega) hn) ?_);generalize c4 (dB n) body (tV w2 1) body.length=w3 at*
  refine gA Z (go_wp (d147 (tV w3 (-1)) [xv] (by simp) (by rw[bI,Y];show w3.l.length+2<=_;omega)) Z Z Z Z Z Z Z Z Z Z Z Z ?_);refine gA Z gW
 .have e:iC 3=⟨#[109,105,110]⟩:=rfl;rw[e]at hh y u A B x C D G ⊢;refine gA Z (zp (Ag var) ?_);refine gA Z (gr (d146 w (fc var)) ?_);refine gA Z (wF (d147 (aR w (fc var)) [var,pK,⟨#[109,105,110]⟩,pL] (by simp) (by rw[D,aM];omega)) Z Z Z Z Z Z Z Z Z Z Z Z Z Z Z Z (by(repeat' (first|exact ac|exact rfl|exact an.refl _|exact an.bk (by assumption)|apply Pq))<;>first|omega|(simp only[Pr];omega)|(simp;done)|(simp;omega)) Z (by(repeat' (first|exact ac|exact rfl|exact an.refl _|exact an.bk (by assumption)|apply Pq))<;>first|omega|(simp only[Pr];omega)|(simp;done)|(simp;omega)) ?_);generalize J:aU (aR w (fc var)) [var,pK,⟨#[109,105,110]⟩,pL]=w1 at*
  have I:oE w1 ⟨3,var,b,body⟩=aU (cL 17 w1 b) [C7]:=rfl;rw[I]at y u A B x C ⊢;refine zJ Z Z (fun q=>?_) fun q=>?_
  .exact absurd (show kw=jp from q) (by decide)
  have hx:=c6 17 w1 b;refine gA Z (gr (nG w1 b (by omega)) ?_);refine gA Z (ik (d147 (cL 17 w1 b) [C7] (by simp) (by rw[bI,e5];omega)) ?_);generalize aU (cL 17 w1 b) [C7]=w2 at*
  refine gA Z (gr (d214 n ih (tV w2 1) body hs (by omega) (by omega) (by omega) hn) ?_);generalize c4 (dB n) body (tV w2 1) body.length=w3 at*
  refine gA Z (go_wp (d147 (tV w3 (-1)) [xv] (by simp) (by rw[bI,Y];show w3.l.length+2<=_;omega)) Z Z Z Z Z Z Z Z Z Z Z Z ?_);refine gA Z gW
 .have e:iC 4=⟨#[109,97,120]⟩:=rfl;rw[e]at hh y u A B x C D G ⊢;refine gA Z (zp (Ag var) ?_);refine gA Z (gr (d146 w (fc var)) ?_);refine gA Z (wF (d147 (aR w (fc var)) [var,pK,⟨#[109,97,120]⟩,pL] (by simp) (by rw[D,aM];omega)) Z Z Z Z Z Z Z Z Z Z Z Z Z Z Z Z (by(repeat' (first|exact ac|exact rfl|exact an.refl _|exact an.bk (by assumption)|apply Pq))<;>first|omega|(simp only[Pr];omega)|(simp;done)|(simp;omega)) Z (by(repeat' (first|exact ac|exact rfl|exact an.refl _|exact an.bk (by assumption)|apply Pq))<;>first|omega|(simp only[Pr];omega)|(simp;done)|(simp;omega)) ?_);generalize J:aU (aR w (fc var)) [var,pK,⟨#[109,97,120]⟩,pL]=w1 at*
  have I:oE w1 ⟨4,var,b,body⟩=aU (cL 17 w1 b) [C7]:=rfl;rw[I]at y u A B x C ⊢;refine zJ Z Z (fun q=>?_) fun q=>?_
  .exact absurd (show kw=jp from q) (by decide)
  have hx:=c6 17 w1 b;refine gA Z (gr (nG w1 b (by omega)) ?_);refine gA Z (ik (d147 (cL 17 w1 b) [C7] (by simp) (by rw[bI,e5];omega)) ?_);generalize aU (cL 17 w1 b) [C7]=w2 at*
  refine gA Z (gr (d214 n ih (tV w2 1) body hs (by omega) (by omega) (by omega) hn) ?_);generalize c4 (dB n) body (tV w2 1) body.length=w3 at*
  refine gA Z (go_wp (d147 (tV w3 (-1)) [xv] (by simp) (by rw[bI,Y];show w3.l.length+2<=_;omega)) Z Z Z Z Z Z Z Z Z Z Z Z ?_);refine gA Z gW
set_option maxHeartbeats 4000000 in
theorem CS(n:Nat)(ih:FJ n)(hn:n<=100000000):FJ (n+1):=by
 intro l w hs J R hb;have D:y1.size=4:=rfl;have B:=l.size_eq;have C:=l.qu;have A:l.agg.ts=l.bC.size+l.jB.ts+Lit.lI l.ar:=rfl;have I:dB (n+1) l w=zn (dB n) l (aR w (jZ l)):=rfl;rw[I];have Y:(aR w (jZ l)).l.length=w.l.length:=rfl;have a0:=sR w (jZ l);have hx:=c6 17 (aR w (jZ l)) l.left;obtain⟨kind,atom,op,left,right,dT,bC,jB,ar,at_⟩:=l;dsimp only[Lit.atom,Lit.left,Lit.right,Lit.bC,Lit.jB,Lit.ar]at B C A hx;refine au ab func155 Z (by decide) ntmps155 Z (by simp) ?_;refine gA Z (zp (OZ (.mk kind atom op left right dT bC jB ar at_)) ?_);refine gA Z (gr (d146 w (jZ (.mk kind atom op left right dT bC jB ar at_))) ?_);generalize aR w (jZ (.mk kind atom op left right dT bC jB ar at_))=w1 at*
 have G:zn (dB n) (.mk kind atom op left right dT bC jB ar at_) w1=if kind=2 then jr (aU w1 [y1]) atom else if kind=1 then jr w1 atom
  else if kind=3 then(if op<1∨7<=op then mK (cL 17 w1 left) else cL 17 (aU (cL 17 w1 left) [tv op]) right)
  else if kind=4 then wY (dB n) w1 (Lit.mk kind atom op left right dT bC jB ar at_).agg else mK w1:=rfl
 rw[G];refine zJ Z Z (fun u=>?_) fun u=>?_
 .have u:kind=2:=zT u;rw[am u];refine gA Z (ik (d147 w1 [y1] (by simp) (by rw[bI,D];omega)) ?_);refine gA Z (gr (d104 (aU w1 [y1]) atom (by rw[aK,D];omega)) ?_);refine gA Z gW
 have u: ¬kind=2:=zF u;rw[be u];refine zJ Z Z (fun j=>?_) fun j=>?_
 .have j:kind=1:=zT j;rw[am j];refine gA Z (gr (d104 w1 atom (by omega)) ?_);refine gA Z gW
 have j: ¬kind=1:=zF j;rw[be j];refine zE Z Z (fun x=>?_) fun x=>?_
 .have x: ¬kind=3:=zF x;rw[be x];refine zJ Z Z (fun y=>?_) fun y=>?_
  .have y:kind=4:=zT y;rw[am y];refine gA Z (gr (d190 n ih w1 (Lit.mk kind atom op left right dT bC jB ar at_).agg (by show Lit.aB ar<=n;omega) (by omega) (by omega) (by omega) hn) ?_);refine gA Z gW
  .have y: ¬kind=4:=zF y;rw[be y];refine gA Z gW
 have x:kind=3:=zT x;rw[am x];refine gA Z (gr (nG w1 left (by omega)) ?_);refine zE Z Z (fun g1=>?_) fun g1=>?_
 .rw[am (.inl (zT g1))];refine gA Z gW
 refine zJ Z Z (fun g2=>?_) fun g2=>?_
 .rw[am (.inr (zT g2))];refine gA Z gW
 have g1: ¬op<1:=zF g1;have g2: ¬op>=7:=zF g2;rw[be (by rintro(h|h)<;>omega)];generalize cL 17 w1 left=w2 at*
 have ho:op=1∨op=2∨op=3∨op=4∨op=5∨op=6:=by omega
 clear G I;rcases ho with rfl|rfl|rfl|rfl|rfl|rfl
 .have e:tv 1=⟨#[32,61,32]⟩:=rfl;have b:((⟨#[32,61,32]⟩:ak)).size=3:=rfl;rw[e];refine fk Z (by dsimp only[Lit.op];exact(by(repeat' (first|exact ac|exact rfl|exact an.refl _|exact an.bk (by assumption)|apply Pq))<;>first|omega|(simp only[Pr];omega)|(simp;done)|(simp;omega))) (go_wp (d147 w2 [⟨#[32,61,32]⟩] (by simp) (by rw[bI,b];omega)) Z Z Z Z Z Z Z Z Z Z Z Z ?_);refine gA Z (gr (nG (aU w2 [⟨#[32,61,32]⟩]) right (by rw[aK,b];omega)) ?_);refine gA Z gW
 .have e:tv 2=⟨#[32,33,61,32]⟩:=rfl;have b:((⟨#[32,33,61,32]⟩:ak)).size=4:=rfl;rw[e];refine fk Z (by dsimp only[Lit.op];exact(by(repeat' (first|exact ac|exact rfl|exact an.refl _|exact an.bk (by assumption)|apply Pq))<;>first|omega|(simp only[Pr];omega)|(simp;done)|(simp;omega))) (go_wp (d147 w2 [⟨#[32,33,61,32]⟩] (by simp) (by rw[bI,b];omega)) Z Z Z Z Z Z Z Z Z Z Z Z ?_);refine gA Z (gr (nG (aU w2 [⟨#[32,33,61,32]⟩]) right (by rw[aK,b];omega)) ?_);refine gA Z gW
 .have e:tv 3=⟨#[32,60,32]⟩:=rfl;have b:((⟨#[32,60,32]⟩:ak)).size=3:=rfl;rw[e];refine fk Z (by dsimp only[Lit.op];exact(by(repeat' (first|exact ac|exact rfl|exact an.refl _|exact an.bk (by assumption)|apply Pq))<;>first|omega|(simp only[Pr];omega)|(simp;done)|(simp;omega))) (go_wp (d147 w2 [⟨#[32,60,32]⟩] (by simp) (by rw[bI,b];omega)) Z Z Z Z Z Z Z Z Z Z Z Z ?_);refine gA Z (gr (nG (aU w2 [⟨#[32,60,32]⟩]) right (by rw[aK,b];omega)) ?_);refine gA Z gW
 .have e:tv 4=⟨#[32,60,61,32]⟩:=rfl;have b:((⟨#[32,60,61,32]⟩:ak)).size=4:=rfl;rw[e];refine fk Z (by dsimp only[Lit.op];exact(by(repeat' (first|exact ac|exact rfl|exact an.refl _|exact an.bk (by assumption)|apply Pq))<;>first|omega|(simp only[Pr];omega)|(simp;done)|(simp;omega))) (go_wp (d147 w2 [⟨#[32,60,61,32]⟩] (by simp) (by rw[bI,b];omega)) Z Z Z Z Z Z Z Z Z Z Z Z ?_);refine gA Z (gr (nG (aU w2 [⟨#[32,60,61,32]⟩]) right (by rw[aK,b];omega)) ?_);refine gA Z gW
 .have e:tv 5=⟨#[32,62,32]⟩:=rfl;have b:((⟨#[32,62,32]⟩:ak)).size=3:=rfl;rw[e];refine fk Z (by dsimp only[Lit.op];exact(by(repeat' (first|exact ac|exact rfl|exact an.refl _|exact an.bk (by assumption)|apply Pq))<;>first|omega|(simp only[Pr];omega)|(simp;done)|(simp;omega))) (go_wp (d147 w2 [⟨#[32,62,32]⟩] (by simp) (by rw[bI,b];omega)) Z Z Z Z Z Z Z Z Z Z Z Z ?_);refine gA Z (gr (nG (aU w2 [⟨#[32,62,32]⟩]) right (by rw[aK,b];omega)) ?_);refine gA Z gW
 .have e:tv 6=⟨#[32,62,61,32]⟩:=rfl;have b:((⟨#[32,62,61,32]⟩:ak)).size=4:=rfl;rw[e];refine fk Z (by dsimp only[Lit.op];exact(by(repeat' (first|exact ac|exact rfl|exact an.refl _|exact an.bk (by assumption)|apply Pq))<;>first|omega|(simp only[Pr];omega)|(simp;done)|(simp;omega))) (go_wp (d147 w2 [⟨#[32,62,61,32]⟩] (by simp) (by rw[bI,b];omega)) Z Z Z Z Z Z Z Z Z Z Z Z ?_);refine gA Z (gr (nG (aU w2 [⟨#[32,62,61,32]⟩]) right (by rw[aK,b];omega)) ?_);refine gA Z gW
theorem NC: ∀n,n<=100000001->FJ n
 |0,_=>fun l w hs=>by have:=l.size_pos;omega
 |n+1,h=>CS n (NC n (by omega)) (by omega)
section
abbrev WS.o:WS:=⟨jp,[],kw,0⟩
section
variable {nt:Nat} {Q:AQ} {k:List KI} {s:AS}
def wN(s:AS)(i:Nat):AS:=match s with|⟨f,h,n⟩=>⟨f,(i,io (WS.o.pC i n))::(n,io (.bp [] 5))::h,n+1⟩
theorem Bj{P:Program}{c:Code}{s':AS}(i:Nat)(hi:s.h.get i=io (.cells [.iv (.v (.pointer is)),.iv (.v (.slice is 0 0)),pB kw,pI 0] (io 225)))
  (hs:wN s i=s') (h:GO P nt (.code c::k) Q s'):GO P nt (.code c::k) Q s:=by
 subst hs;intro M N a w B;obtain⟨sf,sh,u⟩:=s;obtain⟨h1,Y⟩:=B.1.IW 5;have G:i<u:=B.1.used i _ hi;have I:i≠u:=fun e=>by omega
 have x:AH.get ((u,io (AO.bp [] 5))::sh) i=io (.cells [.iv (.v (.pointer is)),.iv (.v (.slice is 0 0)),pB kw,pI 0] (io 225)):=by
  rw[AH.ax,be I];exact hi
 obtain⟨y,T,e1,e2,e3,A,e5⟩:=Y.obj i _ x;have hv: ∀(j:Nat) (p:PV),[PV.ep jp i,.sl u 0 0 1,pB kw,pI 0][j]? =io p->VR M N (· <u+1) p (y.getD j undef):=by
  intro j p b
  match j,b with
  |0,b=>
   cases b;have:=A 0 _ Z;generalize y.getD 0 undef=v at this ⊢;cases this with
   |iv _ _ h=>cases h with
    |v=>exact .ep jp i (QW G)
  |1,b=>
   cases b;have:=A 1 _ Z;generalize y.getD 1 undef=v at this ⊢;cases this with
   |iv _ _ h=>cases h with
    |v=>exact .lZ _ _ (Rc _)
  |2,b=>exact A 2 p b
  |3,b=>exact A 3 p b
  |j+4,b=>cases b
 obtain⟨g1,g2⟩:=Y.write (i:=i) (o0:= .cells [.iv (.v (.pointer is)),.iv (.v (.slice is 0 0)),pB kw,pI 0] (io 225)) x Z w (WS.o.pC i u) Z Z Z Z (fun _ _=>rfl) ⟨y,T,e1,e2,e3,hv,e5⟩;have C:Fits M N ⟨sf,(i,io (WS.o.pC i u))::(u,io (.bp [] 5))::sh,u+1⟩ nt a w:=
  ⟨g2,fun k=>(B.2.1 k).mono (.refl _) (.refl _ _) (fun i hi=>QW hi),B.2.2⟩
 exact AW.then h C fun e a2 w2 M2 N2 s2 R D J=>⟨M2,N2,s2,(h1.trans g1).trans R,D,J⟩
end
def WS.told(w:WS):PV:= .bm [pS (if w.bad=jp then⟨#[]⟩ else⟨w.l.toArray⟩),pI (if w.bad=jp then 50 else 0)]
theorem d105(w:WS):bF prog 154 [.ptr 0 0] w.O w.told [] 2:=by
 refine au ab func154 Z (by decide) ntmps154 Z (by simp) ?_;refine zJ Z Z (fun g=>?_) fun g=>?_
 .have g:w.bad=jp:=g;unfold WS.told;rw[am g,am g];refine gA Z (zD [] Z (zW ac))
 .have g: ¬w.bad=jp:=by
   have g:w.bad=kw:=g;rw[g];decide
  unfold WS.told;rw[be g,be g];refine gA Z (zq [0,1] (d150 w) ?_);refine gA Z (zD [] Z (zW ac))
def N8(a:Atom):PV:=(jr WS.o a).told
def Oz(l:Lit):PV:=(dB l.size l WS.o).told
theorem c61(a:Atom)(hb:a.ts<=900000000):Pure prog 118 [ag a.c] (N8 a):=by
 refine ah ab func118 Z (by decide) ntmps118 Z (by simp) Z ?_;refine gM 12 Z (Bj 1 Z Z ?_);refine gA Z (gr (d104 WS.o a (by simpa using hb)) ?_);refine gA Z (zq [1,3] (d105 (jr WS.o a)) ?_);exact zU Z
theorem Pa(l:Lit)(hb:l.ts<=900000000)(hs:l.size<=100000000):Pure prog 119 [ag l.c] (Oz l):=by
 refine ah ab func119 Z (by decide) ntmps119 Z (by simp) Z ?_;refine gM 12 Z (Bj 1 Z Z ?_);refine gA Z (gr (NC l.size (by omega) l WS.o (Pv _) (by decide) (by decide) (by simpa using hb)) ?_);refine gA Z (zq [1,3] (d105 (dB l.size l WS.o)) ?_);exact zU Z
end
def nZ(d:Decl)(i k:Int):Int:=
 if(d.types.any fun x=>!lc (x=1)&&!lc (x=2))=jp∨iG d.name=kw then 1
 else if i>=64∨(d.types.length:Int)>8 then 66 else if k>0 then 60 else 0
theorem Pb(d:Decl)(i k:Int):Pure prog 82 [ag d.c,pI i,pI k] (pI (nZ d i k)):=by
 refine ah ab func82 Z (by decide) ntmps82 Z (by simp) Z ?_;refine gA Z (zq [] (d153 d.types) ?_);refine zE Z Z (fun g1=>?_) fun g1=>?_
 .rw[nZ,am (.inl (by simpa using g1))];exact zU Z
 have g1: ¬(d.types.any fun x=>!lc (x=1)&&!lc (x=2))=jp:=by
  have g1:(d.types.any fun x=>!lc (x=1)&&!lc (x=2))=kw:=g1;rw[g1];decide
 refine gA Z (zp (Ol d.name) ?_);refine zJ Z Z (fun g2=>?_) fun g2=>?_
 .have g2:iG d.name=kw:=by simpa using g2
  rw[nZ,am (.inr g2)];exact zU Z
 have g2: ¬iG d.name=kw:=by
  have g2:iG d.name=jp:=by simpa using g2
  rw[g2];decide
 rw[nZ,be (by rintro(h|h);exact g1 h;exact g2 h)];refine zE Z Z (fun g3=>?_) fun g3=>?_
 .rw[am (.inl (by simpa using g3))];exact zU Z
 have g3: ¬i>=64:=zF g3;refine zJ Z Z (fun g4=>?_) fun g4=>?_
 .rw[am (.inr (zT g4))];exact zU Z
 have g4: ¬(d.types.length:Int)>8:=zF g4;rw[be (by rintro(h|h);exact g3 h;exact g4 h)];refine zJ Z Z (fun g5=>?_) fun g5=>?_
 .rw[am (zT g5)];exact zU Z
 .rw[be (zF g5)];exact zU Z
abbrev b8:=(KC.si .i64).K
def b8.z:b8:=(Pt,0)
def b8.c(s:b8):List IV:=[iS s.1,iI s.2]
def spE(s:b8):IV:= .agg s.c
def spZ:Value:= .agg #[.string Pt,.int .i64 0]
def dvP:PV->b8
 | .agg [.iv (.v (.string s)),.iv (.v (.int _ a))]=>(s,a)
 |_=>b8.z
abbrev UM:=List (b8×b8)
abbrev KM:=List (b8×Int)
abbrev nq(m:UM):AO:= .map (.si .i64) spE b8.z spZ dvP m
abbrev upI(m:UM):IV:= .dR (.si .i64) spE b8.z spZ m
abbrev nB(m:KM):AO:= .map (.si .i64) w5 0 (.int .i64 0) OG m
abbrev kdI(m:KM):IV:= .dR (.si .i64) w5 0 (.int .i64 0) m
structure Want where
 lit:Int
 at_:b8
 kind:Int
 has:Int
 deriving Inhabited
def Want.c(w:Want):List IV:=[iI w.lit,iS w.at_.1,iI w.at_.2,iI w.kind,iI w.has]
structure TS where
 up:UM
 ws:List Want
 kind:KM
abbrev TS.cell(r:aw)(u j n k:Nat):AO:= .cells [.iv (cq r),.mp u,.sl j 0 n 5,.mp k]
abbrev TS.O(r:aw)(t:TS):List AO:=[TS.cell r 1 2 t.ws.length 3,nq t.up,aF 5 t.ws Want.c,nB t.kind]
abbrev TS.K(r:aw)(t:TS):AH:=[(0,io (TS.cell r 1 2 t.ws.length 3)),(1,io (nq t.up)),(2,io (aF 5 t.ws Want.c)),(3,io (nB t.kind))]
abbrev TS.H(r:aw)(t:TS):AH:=[(0,io (TS.cell r 1 4 t.ws.length 3)),(1,io (nq t.up)),(4,io (aF 5 t.ws Want.c)),(3,io (nB t.kind))]
def dH(r:aw)(s:ak)(w:Int):b8:=(s,if dw .str (aE (aD r)) s 0>0 then-1 else w)
theorem d136(r:aw)(t:TS)(s:ak)(w:Int):bF prog 195 [.ptr 0 0,pS s,pI w] (t.O r) (ag (dH r s w).c) (t.K r) 4:=by
 refine au ab func195 Z (by decide) ntmps195 Z (by simp) ?_;refine zJ Z Z (fun g=>?_) fun g=>?_
 .have e:dH r s w=(s, -1):=by unfold dH;rw[am (zT g)]
  rw[e];refine gA Z (zD [] Z (zW (zO (zC ⟨⟨_,rfl,.of_eq (b4 _).symm⟩,Pj Z,dL _,zC ac⟩))))
 .have e:dH r s w=(s,w):=by unfold dH;rw[be (zF g)]
  rw[e];refine gA Z (zD [] Z (zW (zO (zC ⟨⟨_,rfl,.of_eq (b4 _).symm⟩,Pj Z,dL _,zC ac⟩))))
def bJ:UM->b8->b8
 | [],v=>v
 |(x,y)::r,v=>if x=v then bJ r y else bJ r v
def gC:UM->Prop
 | []=>True
 |(x,y)::r=>x≠y∧(∀q∈r,q.1≠x)∧(∀q∈r,q.2≠x)∧gC r
def BP:UM->b8->Nat
 | [],_=>0
 |(x,_)::r,v=>if x=v then r.length+1 else BP r v
theorem Di: ∀(m:UM) (v:b8),BP m v<=m.length
 | [],_=>Pv _
 |(x,y)::r,v=>by
  have:=Di r v;unfold BP;split
  .simp
  .simp;omega
theorem oS: ∀(m:UM) (v:b8),c8 (.si .i64) m v=kw->bJ m v=v
 | [],_,_=>rfl
 |(x,y)::r,v,h=>by
  unfold c8 at h;unfold bJ;split at h
  .cases h
  .rename_i b;rw[be b];exact oS r v h
theorem l5: ∀(m:UM) (v:b8),gC m->c8 (.si .i64) m v=jp->bJ m (dw (.si .i64) m v b8.z)=bJ m v∧BP m (dw (.si .i64) m v b8.z)<BP m v
 | [],_,_,h=>nomatch h
 |(x,y)::r,v,ok,h=>by
  obtain⟨D,J,G,I⟩:=ok;by_cases u:x=v
  .subst u;have e:dw (.si .i64) ((x,y)::r) x b8.z=y:=am Z;rw[e];refine⟨?_,?_⟩
   .show(if x=y then bJ r y else bJ r y)=if x=x then bJ r y else bJ r x;rw[am Z];split<;>rfl
   .show(if x=y then r.length+1 else BP r y)<if x=x then r.length+1 else BP r x;rw[am Z,be D];have:=Di r y;omega
  .have e:dw (.si .i64) ((x,y)::r) v b8.z=dw (.si .i64) r v b8.z:=be u;have A:c8 (.si .i64) r v=jp:=by
    unfold c8 at h;rw[be u]at h;exact h
   rw[e];obtain⟨g1,g2⟩:=l5 r v I A;have j:dw (.si .i64) r v b8.z≠x:=by
    have: ∀(m:UM),(∀q∈m,q.2≠x)->c8 (.si .i64) m v=jp->dw (.si .i64) m v b8.z≠x:=by
     intro m
     induction m with
     |nil=>intro _ h;cases h
     |cons a r ih=>
      obtain⟨R,Y⟩:=a;intro B h;unfold c8 at h;unfold dw;split at h
      .rename_i b;rw[am b];exact B _ Pz
      .rename_i b;rw[be b];exact ih (fun q C=>B q (Py _ C)) h
    exact this r G A
   refine⟨?_,?_⟩
   .show(if x=_ then bJ r y else bJ r _)=if x=v then bJ r y else bJ r v;rw[be (fun e=>j e.symm),be u];exact g1
   .show(if x=_ then r.length+1 else BP r _)<if x=v then r.length+1 else BP r v;rw[be (fun e=>j e.symm),be u];exact g2
theorem d52(r:aw)(t:TS)(v0:b8)(ok:gC t.up):bF prog 167 [.ptr 0 0,ag v0.c] (t.O r) (ag (bJ t.up v0).c) (t.K r) 4:=by
 refine au ab func167 Z (by decide) ntmps167 Z (by simp) ?_;refine gA Z ?_
 refine gu (σ:={v:b8//bJ t.up v=bJ t.up v0}) (fun v=>⟨[(0,.ptr 0 0),(3,.ptr 4 0),(4,.ptr 5 0)],
  [(0,io (TS.cell r 1 2 t.ws.length 3)),(1,io (nq t.up)),(2,io (aF 5 t.ws Want.c)),(3,io (nB t.kind)),(4,io (.cells [pS v.1.1,pI v.1.2])),(5,io (.cells [pS ⟨#[]⟩,pI 0]))],6⟩) (fun v=>BP t.up v.1) ⟨v0,rfl⟩ []
  (zW (zO (zC ⟨⟨_,rfl,.of_eq (b4 _).symm⟩,Pj Z,dL _,zC ⟨⟨_,rfl,.of_eq Z⟩,Pj Z,rfl,⟨_,rfl,.of_eq Z⟩,Pj Z,rfl,ac⟩⟩))) fun v=>?_
 obtain⟨v,b⟩:=v;refine zJ Z Z (fun g=>?_) fun g=>?_
 .have h:c8 (.si .i64) t.up v=kw:=by simpa using g
  have e:bJ t.up v0=v:=by rw[<-b];exact oS t.up v h
  refine gA Z (zD [] Z (zM ⟨.of_eq (congrArg (fun x:b8=>ag x.c) e.symm),rfl,ac⟩ (zO (zC ⟨⟨_,rfl,.of_eq (b4 _).symm⟩,Pj Z,dL _,zC ac⟩))))
 .have h:c8 (.si .i64) t.up v=jp:=by simpa using g
  obtain⟨h1,j⟩:=l5 t.up v ok h;refine gA Z ⟨⟨dw (.si .i64) t.up v b8.z,h1.trans b⟩,[],j,zW (zO (zC ⟨⟨_,rfl,.of_eq (b4 _).symm⟩,Pj Z,dL _,zC ⟨⟨_,rfl,.of_eq Z⟩,Pj Z,rfl,⟨_,rfl,.of_eq Z⟩,Pj Z,rfl,ac⟩⟩))⟩
def KT(r:aw)(t:TS):IV:= .jz [cq r,upI t.up,bu 5 t.ws Want.c,kdI t.kind]
theorem c52(r:aw)(t:TS)(v0:b8)(ok:gC t.up):Pure prog 167 [.iv (KT r t),ag v0.c] (ag (bJ t.up v0).c):=by
 refine ah ab func167 Z (by decide) ntmps167 Z (by simp) Z ?_;refine gA Z ?_
 refine gu (σ:={v:b8//bJ t.up v=bJ t.up v0}) (fun v=>⟨[(0,.iv (KT r t)),(3,.ptr 0 0),(4,.ptr 1 0)],
  [(0,io (.cells [pS v.1.1,pI v.1.2])),(1,io (.cells [pS ⟨#[]⟩,pI 0]))],2⟩) (fun v=>BP t.up v.1) ⟨v0,rfl⟩ []
  (zW ⟨⟨_,rfl,.of_eq Z⟩,Pj Z,rfl,⟨_,rfl,.of_eq Z⟩,Pj Z,rfl,ac⟩) fun v=>?_
 obtain⟨v,b⟩:=v;refine zJ Z Z (fun g=>?_) fun g=>?_
 .have h:c8 (.si .i64) t.up v=kw:=by simpa using g
  have e:bJ t.up v0=v:=by rw[<-b];exact oS t.up v h
  refine gA Z (zL (.of_eq ?_));exact congrArg (fun x:b8=>ag x.c) e.symm
 .have h:c8 (.si .i64) t.up v=jp:=by simpa using g
  obtain⟨h1,j⟩:=l5 t.up v ok h;refine gA Z ⟨⟨dw (.si .i64) t.up v b8.z,h1.trans b⟩,[],j,zW ⟨⟨_,rfl,.of_eq Z⟩,Pj Z,rfl,⟨_,rfl,.of_eq Z⟩,Pj Z,rfl,ac⟩⟩
def rX(t:TS)(w:Want):Int:=if w.has=0 then dw (.si .i64) t.kind (bJ t.up w.at_) 0 else w.has
def qs(t:TS)(lit:Int)(w:Want):Bool:=lc (w.lit=lit)&&!lc (rX t w=w.kind)
def pD(t:TS)(lit:Int):Bool:=t.ws.any (qs t lit)
theorem O7(r:aw)(t:TS)(lit:Int)(ok:gC t.up)(hb:t.ws.length<=1000000000000):Pure prog 131 [.iv (KT r t),pI lit] (pB (pD t lit)):=by
 refine ah ab func131 Z (by decide) ntmps131 Z (by simp) Z ?_;refine gA Z ?_;refine aJ 0 t.ws.length (PC _) (fun i=>⟨[(0,.iv (KT r t)),(1,pI lit),(11,.iv (bu 5 t.ws Want.c)),(12,pI t.ws.length),(13,pI i)],[],0⟩) (fun i=>(t.ws.take i).any (qs t lit)=kw) [] Z
  (zW trivial) fun i A y=>?_
 refine zJ Z Z (fun h1=>?_) fun h1=>?_
 .have h1:i<t.ws.length:=by simpa using h1
  have x:=cM y h1;refine zJ Z Z (fun u=>?_) fun u=>?_
  .have u:(t.ws.getD i co).has=0:=zT u;refine gA Z (Ak (c52 r t (t.ws.getD i co).at_ ok) ?_);have hk:rX t (t.ws.getD i co)=dw (.si .i64) t.kind (bJ t.up (t.ws.getD i co).at_) 0:=am u;refine zJ Z Z (fun b=>?_) fun b=>?_
   .have b:(t.ws.getD i co).lit=lit:=zT b;refine zJ Z Z (fun j=>?_) fun j=>?_
    .have j: ¬rX t (t.ws.getD i co)=(t.ws.getD i co).kind:=by rw[hk];simpa using j
     have e:pD t lit=jp:=QJ.2 ⟨t.ws.getD i co,by rw[Pn,Po h1];exact P7 h1,by rw[qs,decide_eq_true b,decide_eq_false j];rfl⟩;refine gA Z (zL (.of_eq ?_));rw[e]
    .have j:rX t (t.ws.getD i co)=(t.ws.getD i co).kind:=by rw[hk];simpa using j
     refine gA Z ⟨h1,x.2 (by rw[qs,decide_eq_true j,RR,RW]),[],zW ac⟩
   .have b: ¬(t.ws.getD i co).lit=lit:=by simpa using b
    refine gA Z ⟨h1,x.2 (by rw[qs,decide_eq_false b];rfl),[],zW ac⟩
  .have u: ¬(t.ws.getD i co).has=0:=zF u;have hk:rX t (t.ws.getD i co)=(t.ws.getD i co).has:=be u;refine zJ Z Z (fun b=>?_) fun b=>?_
   .have b:(t.ws.getD i co).lit=lit:=zT b;refine zJ Z Z (fun j=>?_) fun j=>?_
    .have j: ¬rX t (t.ws.getD i co)=(t.ws.getD i co).kind:=by rw[hk];simpa using j
     have e:pD t lit=jp:=QJ.2 ⟨t.ws.getD i co,by rw[Pn,Po h1];exact P7 h1,by rw[qs,decide_eq_true b,decide_eq_false j];rfl⟩;refine gA Z (zL (.of_eq ?_));rw[e]
    .have j:rX t (t.ws.getD i co)=(t.ws.getD i co).kind:=by rw[hk];simpa using j
     refine gA Z ⟨h1,x.2 (by rw[qs,decide_eq_true j,RR,RW]),[],zW ac⟩
   .have b: ¬(t.ws.getD i co).lit=lit:=by simpa using b
    refine gA Z ⟨h1,x.2 (by rw[qs,decide_eq_false b];rfl),[],zW ac⟩
 .have h1:t.ws.length<=i:=by simpa using h1
  rw[PJ h1]at y;refine gA Z (zL (.of_eq ?_));rw[pD,y]
section
section
variable (r:aw) (lit w:Int)
def lh(e:Expr):List Want:=if e.kind=1 then[⟨lit,dH r e.var w,1,0⟩] else if e.kind=2 then[⟨lit,b8.z,1,e.val.kind⟩] else[]
mutual
def fq:Expr->List Want
 | .mk k v val op args=>lh r lit w (.mk k v val op args)++(if k=4 then qF args else[])
def qF:List Expr->List Want
 | []=> []
 |e::s=>fq e++qF s
end
theorem xX: ∀l:List Expr,qF r lit w l=l.flatMap (fq r lit w)
 | []=>rfl
 |e::s=>by rw[qF,Qv,xX s]
def gL(e:Expr):List Want:=if e.kind=4 then e.args.flatMap (fq r lit w) else[]
theorem A0(e:Expr):fq r lit w e=lh r lit w e++gL r lit w e:=by
 cases e;rw[fq,xX];rfl
end
abbrev TS.add(t:TS)(l:List Want):TS:=⟨t.up,t.ws++l,t.kind⟩
section
variable {nt:Nat} {Q:AQ} {k:List KI} {s:AS}
def tS(s:AS)(r:aw)(t:TS)(i u j m:Nat):AS:=match s with|⟨f,h,n⟩=>⟨f,(i,io (TS.cell r u n t.ws.length m))::(u,io (nq t.up))::(n,io (aF 5 t.ws Want.c))::(m,io (nB t.kind))::(i,is)::(u,is)::(j,is)::(m,is)::h,n+1⟩
theorem M8(s:AS)(r:aw)(t:TS)(i u j m:Nat):tS s r t i u j m=⟨s.f,(i,io (TS.cell r u s.nx t.ws.length m))::(u,io (nq t.up))::(s.nx,io (aF 5 t.ws Want.c))::(m,io (nB t.kind))::(i,is)::(u,is)::(j,is)::(m,is)::s.h,s.nx+1⟩:=by cases s;rfl
def tR(s:AS)(r:aw)(t:TS)(i u j m:Nat):AS:=match s with|⟨f,h,n⟩=>⟨f,(i,io (TS.cell r u j t.ws.length m))::(u,io (nq t.up))::(j,io (aF 5 t.ws Want.c))::(m,io (nB t.kind))::(i,is)::(u,is)::(j,is)::(m,is)::h,n⟩
theorem M9(s:AS)(r:aw)(t:TS)(i u j m:Nat):tR s r t i u j m=⟨s.f,(i,io (TS.cell r u j t.ws.length m))::(u,io (nq t.up))::(j,io (aF 5 t.ws Want.c))::(m,io (nB t.kind))::(i,is)::(u,is)::(j,is)::(m,is)::s.h,s.nx⟩:=by cases s;rfl
theorem Dr{o:Oper}{c:Call}{g:FuncId}{args A:List PV}{r:aw}{t B:TS}{y:PV}{i u j m n:Nat}{es:List (List PV)}{s':AS}(hc:bF prog g (.ptr 0 0::args) (t.O r) y (B.H r) 5)(ho:o.op= .call c)(ha:bR s.f c=io (g,.ptr i 0::A))
  (hi:s.h.get i=io (TS.cell r u j n m)) (hu:s.h.get u=io (nq t.up)) (hj:s.h.get j=io (.row 5 es)) (hm:s.h.get m=io (nB t.kind)) (hn:n=t.ws.length) (he:es=t.ws.map fun x=>(Want.c x).map .iv)
  (hlt:[i,u,j,m].all (fun x=>PL x s.nx)=jp) (hnd:cF [i,u,j,m]=jp) (has:A=args) (hlow:bj 0 args=jp) (hr:y.low 0=jp)
  (hp:putDst nt o y (tS s r B i u j m)=io s'):OT prog nt o s (fun t=>t=s'):=by
 subst has;subst hn;subst he;have b: ∀σ,dA σ A=A:=fun σ=>gk σ A hlow;refine lD ho ha hc (fg hnd) (fun j hj=>Pj (P8.1 hlt j hj)) ?_ ?_ ?_
 .simp only[PB,Qe,hi,hu,hj,hm,b4];rfl
 .simp only[dA,b];rfl
 .rintro q C n0 ⟨rfl,rfl,rfl⟩;rw[PV.jG _ _ hr];rw[M8]at hp;refine⟨s',?_,rfl⟩;rw[<-hp];simp only[TS.H,aZ,vX,Qw,b4];rfl
theorem Dn{o:Oper}{c:Call}{g:FuncId}{args A:List PV}{r:aw}{t:TS}{y:PV}{i u j m n:Nat}{es:List (List PV)}{s':AS}(hc:bF prog g (.ptr 0 0::args) (t.O r) y (t.K r) 4)(ho:o.op= .call c)(ha:bR s.f c=io (g,.ptr i 0::A))
  (hi:s.h.get i=io (TS.cell r u j n m)) (hu:s.h.get u=io (nq t.up)) (hj:s.h.get j=io (.row 5 es)) (hm:s.h.get m=io (nB t.kind)) (hn:n=t.ws.length) (he:es=t.ws.map fun x=>(Want.c x).map .iv)
  (hlt:[i,u,j,m].all (fun x=>PL x s.nx)=jp) (hnd:cF [i,u,j,m]=jp) (has:A=args) (hlow:bj 0 args=jp) (hr:y.low 0=jp)
  (hp:putDst nt o y (tR s r t i u j m)=io s'):OT prog nt o s (fun t=>t=s'):=by
 subst has;subst hn;subst he;have b: ∀σ,dA σ A=A:=fun σ=>gk σ A hlow;refine lD ho ha hc (fg hnd) (fun j hj=>Pj (P8.1 hlt j hj)) ?_ ?_ ?_
 .simp only[PB,Qe,hi,hu,hj,hm,b4];rfl
 .simp only[dA,b];rfl
 .rintro q B n0 ⟨rfl,rfl,rfl⟩;rw[PV.jG _ _ hr];rw[M9]at hp;refine⟨s',?_,rfl⟩;rw[<-hp];simp only[TS.K,aZ,vX,Qw,b4];rfl
theorem yr{all rest:List Oper}{o:Oper}{c:Call}{g:FuncId}{args y:List PV}{r:aw}{t A:TS}{b:PV}{i u j m n:Nat}{es:List (List PV)}{s':AS}(hc:bF prog g (.ptr 0 0::args) (t.O r) b (A.H r) 5)(ho:o.op= .call c)(hg:o.guard=is)(ha:bR s.f c=io (g,.ptr i 0::y))
  (hi:s.h.get i=io (TS.cell r u j n m)) (hu:s.h.get u=io (nq t.up)) (hj:s.h.get j=io (.row 5 es)) (hm:s.h.get m=io (nB t.kind)) (hn:n=t.ws.length) (he:es=t.ws.map fun x=>(Want.c x).map .iv)
  (hlt:[i,u,j,m].all (fun x=>PL x s.nx)=jp) (hnd:cF [i,u,j,m]=jp) (has:y=args) (hlow:bj 0 args=jp) (hr:b.low 0=jp)
  (hp:putDst nt o b (tS s r A i u j m)=io s') (h:GO prog nt (.ops all rest::k) Q s'):GO prog nt (.ops all (o::rest)::k) Q s:=
 cC hg (Dr hc ho ha hi hu hj hm hn he hlt hnd has hlow hr hp) fun t B=>by subst B;exact h
theorem Bi{all rest:List Oper}{o:Oper}{c:Call}{g:FuncId}{args y:List PV}{r:aw}{t A:TS}{b:PV}{i u j m n:Nat}{es:List (List PV)}{s':AS}(hc:bF prog g (.ptr 0 0::args) (t.O r) b (A.H r) 5)(h:GO prog nt (.ops all rest::k) Q s')(ho:o.op= .call c:=by exact rfl)(hg:o.guard=is:=by exact rfl)(ha:bR s.f c=io (g,.ptr i 0::y):=by exact rfl)(hi:s.h.get i=io (TS.cell r u j n m):=by exact rfl)(hu:s.h.get u=io (nq t.up):=by exact rfl)(hj:s.h.get j=io (.row 5 es):=by exact rfl)(hm:s.h.get m=io (nB t.kind):=by exact rfl)(hn:n=t.ws.length:=by first|rfl|(rw[Pp];rfl)|simp)(he:es=t.ws.map fun x=>(Want.c x).map .iv:=by first|rfl|(rw[PH];rfl)|(simp only[PH,PK];rfl))(hlt:[i,u,j,m].all (fun x=>PL x s.nx)=jp:=by exact rfl)(hnd:cF [i,u,j,m]=jp:=by exact rfl)(has:y=args:=by exact rfl)(hlow:bj 0 args=jp:=by exact rfl)(hr:b.low 0=jp:=by exact rfl)(hp:putDst nt o b (tS s r A i u j m)=io s':=by exact rfl):GO prog nt (.ops all (o::rest)::k) Q s:=yr (hc:=hc) (ho:=ho) (hg:=hg) (ha:=ha) (hi:=hi) (hu:=hu) (hj:=hj) (hm:=hm) (hn:=hn) (he:=he) (hlt:=hlt) (hnd:=hnd) (has:=has) (hlow:=hlow) (hr:=hr) (hp:=hp) (h:=h)
theorem LS{all:List Oper}{todo pend:List (Nat×Oper)}{y:Nat}{B A:Prop}{o:Oper}{c:Call}{g:FuncId}{args C:List PV}{r:aw}{t:TS}{b:PV}{i u j m n:Nat}{es:List (List PV)}{s':AS}(hc:bF prog g (.ptr 0 0::args) (t.O r) b (t.K r) 4)
  (hrd:eN todo=[(y,o)]) (ho:o.op= .call c) (ha:bR s.f c=io (g,.ptr i 0::C))
  (hi:s.h.get i=io (TS.cell r u j n m)) (hu:s.h.get u=io (nq t.up)) (hj:s.h.get j=io (.row 5 es)) (hm:s.h.get m=io (nB t.kind)) (hn:n=t.ws.length) (he:es=t.ws.map fun x=>(Want.c x).map .iv)
  (hlt:[i,u,j,m].all (fun x=>PL x s.nx)=jp) (hnd:cF [i,u,j,m]=jp) (has:C=args) (hlow:bj 0 args=jp) (hr:b.low 0=jp)
  (hp:putDst nt o b (tR s r t i u j m)=io s')
  (hg:bY nt all s.f o=io jp) (hpb:ib all pend o=jp) (hE:nk todo [y]=jp)
  (hag:nn nN nt all s todo pend=io B) (hCA:B) (hag2:dF nN nt all s' (a7 pend o)=io A) (hC2:A)
  (h:GO prog nt (.bX all (todo.filter fun x=>!PM x.1 y) (a7 pend o)::k) Q s'):GO prog nt (.bX all todo pend::k) Q s:=
 lr ab hrd hg hpb hE hag hCA (Dn hc ho ha hi hu hj hm hn he hlt hnd has hlow hr hp) hag2 hC2 h
theorem mu{all:List Oper}{todo pend:List (Nat×Oper)}{y:Nat}{B A:Prop}{o:Oper}{c:Call}{g:FuncId}{args C:List PV}{r:aw}{t:TS}{b:PV}{i u j m n:Nat}{es:List (List PV)}{s':AS}(hc:bF prog g (.ptr 0 0::args) (t.O r) b (t.K r) 4)(h:GO prog nt (.bX all (todo.filter fun x=>!PM x.1 y) (a7 pend o)::k) Q s')(hrd:eN todo=[(y,o)]:=by exact rfl)(ho:o.op= .call c:=by exact rfl)(ha:bR s.f c=io (g,.ptr i 0::C):=by exact rfl)(hi:s.h.get i=io (TS.cell r u j n m):=by exact rfl)(hu:s.h.get u=io (nq t.up):=by exact rfl)(hj:s.h.get j=io (.row 5 es):=by exact rfl)(hm:s.h.get m=io (nB t.kind):=by exact rfl)(hn:n=t.ws.length:=by first|rfl|(rw[Pp];rfl)|simp)(he:es=t.ws.map fun x=>(Want.c x).map .iv:=by first|rfl|(rw[PH];rfl)|(simp only[PH,PK];rfl))(hlt:[i,u,j,m].all (fun x=>PL x s.nx)=jp:=by exact rfl)(hnd:cF [i,u,j,m]=jp:=by exact rfl)(has:C=args:=by exact rfl)(hlow:bj 0 args=jp:=by exact rfl)(hr:b.low 0=jp:=by exact rfl)(hp:putDst nt o b (tR s r t i u j m)=io s':=by exact rfl)(hg:bY nt all s.f o=io jp:=by exact rfl)(hpb:ib all pend o=jp:=by exact rfl)(hE:nk todo [y]=jp:=by exact rfl)(hag:nn nN nt all s todo pend=io B:=by exact rfl)(hCA:B:=by(repeat' (first|exact ac|exact rfl|exact an.refl _|exact an.bk (by assumption)|apply Pq))<;>first|omega|(simp only[Pr];omega)|(simp;done)|(simp;omega))(hag2:dF nN nt all s' (a7 pend o)=io A:=by exact rfl)(hC2:A:=by(repeat' (first|exact ac|exact rfl|exact an.refl _|exact an.bk (by assumption)|apply Pq))<;>first|omega|(simp only[Pr];omega)|(simp;done)|(simp;omega)):GO prog nt (.bX all todo pend::k) Q s:=LS (hc:=hc) (hrd:=hrd) (ho:=ho) (ha:=ha) (hi:=hi) (hu:=hu) (hj:=hj) (hm:=hm) (hn:=hn) (he:=he) (hlt:=hlt) (hnd:=hnd) (has:=has) (hlow:=hlow) (hr:=hr) (hp:=hp) (hg:=hg) (hpb:=hpb) (hE:=hE) (hag:=hag) (hCA:=hCA) (hag2:=hag2) (hC2:=hC2) (h:=h)
theorem J3{l:List ResultVar}{r0:PV}{e:Exit}{r:aw}{u:TS}{b:PV}{j n:Nat}{es:List (List PV)}(he:e= .normal∨e= .ret)(hr:iZ nN s l=io r0)(hi:s.h.get 0=io (TS.cell r 1 j n 3))(hu:s.h.get 1=io (nq u.up))(hj:s.h.get j=io (.row 5 es))(hm:s.h.get 3=io (nB u.kind))
  (hn:n=u.ws.length) (hes:es=u.ws.map fun x=>(Want.c x).map .iv) (hlt:PL j s.nx=jp) (hnd:cF [0,1,j,3]=jp) (hns:Ry 4 s.nx=jp) (hrl:an r0 b) (hlow:b.low 0=jp) (hlow5:b.low 5=jp):Aj nN l 4 b (u.H r) 5 e s:=by
 subst hn;subst hes;refine bd [j] he hr ⟨rfl,Pj hns,fun x y=>?_,⟨?_,hlow5,ac⟩,⟨⟨_,hi,.of_eq Z⟩,Pj Z,rfl,⟨_,hu,.of_eq Z⟩,Pj Z,ac,⟨_,hj,.of_eq (b4 _).symm⟩,Pj Z,dL _,⟨_,hm,.of_eq Z⟩,Pj Z,ac,ac⟩,?_⟩
 .simp only[PA]at y;subst y;exact Pj hlt
 .rw[PV.jG _ _ hlow];exact hrl
 .exact fg hnd
theorem tZ{l:List ResultVar}{r0:PV}{e:Exit}{r:aw}{u:TS}{b:PV}{j n:Nat}{es:List (List PV)}(he:e= .normal∨e= .ret:=by first|exact .inr Z|exact .inl Z)(hr:iZ nN s l=io r0:=by exact rfl)(hi:s.h.get 0=io (TS.cell r 1 j n 3):=by exact rfl)(hu:s.h.get 1=io (nq u.up):=by exact rfl)(hj:s.h.get j=io (.row 5 es):=by exact rfl)(hm:s.h.get 3=io (nB u.kind):=by exact rfl)(hn:n=u.ws.length:=by first|rfl|(rw[Pp];rfl)|simp)(hes:es=u.ws.map fun x=>(Want.c x).map .iv:=by first|rfl|(rw[PH];rfl)|(simp only[PH,PK];rfl))(hlt:PL j s.nx=jp:=by exact rfl)(hnd:cF [0,1,j,3]=jp:=by exact rfl)(hns:Ry 4 s.nx=jp:=by exact rfl)(hrl:an r0 b:=by exact .refl _)(hlow:b.low 0=jp:=by exact rfl)(hlow5:b.low 5=jp:=by exact rfl):Aj nN l 4 b (u.H r) 5 e s:=J3 (he:=he) (hr:=hr) (hi:=hi) (hu:=hu) (hj:=hj) (hm:=hm) (hn:=hn) (hes:=hes) (hlt:=hlt) (hnd:=hnd) (hns:=hns) (hrl:=hrl) (hlow:=hlow) (hlow5:=hlow5)
theorem IT{n0 i u j m n:Nat}{es:List (List PV)}{J:AF}{r:aw}{t b:TS}(hw:t=b)(hi:s.h.get i=io (TS.cell r u j n m))(hu:s.h.get u=io (nq t.up))(hj:s.h.get j=io (.row 5 es))(hm:s.h.get m=io (nB t.kind))
  (hn:n=t.ws.length) (hes:es=t.ws.map fun x=>(Want.c x).map .iv) (hlt:PL j s.nx=jp) (hnd:cF [i,u,j,m]=jp) (h0:[i,u,m].all (fun x=>PL x n0)=jp) (hns:Ry n0 s.nx=jp) (hf:Dc (n0+1) (sg n0 [j]) s.f J):
  Wk n0 [j] s ⟨J,[(i,io (TS.cell r u n0 b.ws.length m)),(u,io (nq b.up)),(n0,io (aF 5 b.ws Want.c)),(m,io (nB b.kind))],n0+1⟩:=by
 subst hw;subst hn;subst hes;simp only[Su,List.all_nil,Bool.and_true,Qf]at h0;have y:i<n0:=Pj h0.1;have B:u<n0:=Pj h0.2.1;have A:m<n0:=Pj h0.2.2;have s0:sg n0 [j] i=i:=fj y;have C:sg n0 [j] u=u:=fj B;have D:sg n0 [j] m=m:=fj A;have R:PL n0 n0=kw:=RT.2 fun e=>absurd (Pj e) (by omega);have G:sg n0 [j] n0=j:=by simp[sg,R]
 have c1:PL u (n0+1)=jp:=Qj (by omega);have Y:PL m (n0+1)=jp:=Qj (by omega);have cn:PL n0 (n0+1)=jp:=Qj (by omega);refine⟨rfl,Pj hns,fun x I=>?_,hf,⟨⟨_,by rw[s0];exact hi,?_⟩,by show i<n0+1;omega,?_,⟨_,by rw[C];exact hu,.of_eq Z⟩,by show u<n0+1;omega,ac,⟨_,by rw[G];exact hj,.of_eq (b4 _).symm⟩,Rc _,dL _,⟨_,by rw[D];exact hm,.of_eq Z⟩,by show m<n0+1;omega,ac,ac⟩,?_⟩
 .simp only[PA]at I;subst I;exact Pj hlt
 .simp only[AO.cx,dA,PV.cx,C,D,G];exact .of_eq Z
 .simp[AO.low,bj,PV.low,c1,Y,cn]
 .simp only[en,s0,C,D,G];exact fg hnd
theorem nL{n0 i u j m n:Nat}{es:List (List PV)}{y:AF}{r:aw}{t b:TS}(hw:t=b)(hi:s.h.get i=io (TS.cell r u j n m):=by exact rfl)(hu:s.h.get u=io (nq t.up):=by exact rfl)(hj:s.h.get j=io (.row 5 es):=by exact rfl)(hm:s.h.get m=io (nB t.kind):=by exact rfl)(hn:n=t.ws.length:=by first|rfl|(rw[Pp];rfl)|simp)(hes:es=t.ws.map fun x=>(Want.c x).map .iv:=by first|rfl|(rw[PH];rfl)|(simp only[PH,PK];rfl))(hlt:PL j s.nx=jp:=by exact rfl)(hnd:cF [i,u,j,m]=jp:=by exact rfl)(h0:[i,u,m].all (fun x=>PL x n0)=jp:=by exact rfl)(hns:Ry n0 s.nx=jp:=by exact rfl)(hf:Dc (n0+1) (sg n0 [j]) s.f y:=by repeat' (first|exact ac|exact an.refl _|exact rfl|apply Pq)):Wk n0 [j] s ⟨y,[(i,io (TS.cell r u n0 b.ws.length m)),(u,io (nq b.up)),(n0,io (aF 5 b.ws Want.c)),(m,io (nB b.kind))],n0+1⟩:=IT (hw:=hw) (hi:=hi) (hu:=hu) (hj:=hj) (hm:=hm) (hn:=hn) (hes:=hes) (hlt:=hlt) (hnd:=hnd) (h0:=h0) (hns:=hns) (hf:=hf)
end
theorem TS.add_add(t:TS)(a b:List Want):(t.add a).add b=t.add (a++b):=by simp[TS.add]
theorem TS.add_nil(t:TS):t.add []=t:=by simp[TS.add]
def IQ(r:aw)(n:Nat):Prop:= ∀(t:TS) (e:Expr) (lit w:Int),e.size<=n->t.ws.length+Expr.aB e.args<=1000000000->bF prog 196 [.ptr 0 0,ag e.c,pI lit,pI w] (t.O r) (.bm []) ((t.add (gL r lit w e)).H r) 5
def Md(r:aw)(n:Nat):Prop:= ∀(t:TS) (e:Expr) (lit w:Int),e.size<=n->t.ws.length+e.size<=1000000000->bF prog 165 [.ptr 0 0,ag e.c,pI lit,pI w] (t.O r) (.bm []) ((t.add (fq r lit w e)).H r) 5
theorem d92(r:aw)(n:Nat)(u:IQ r n):Md r n:=by
 intro t e lit w hs hb;have x:=e.size_eq;rw[A0,<-TS.add_add];refine au ab func165 Z (by decide) ntmps165 Z (by simp) ?_;refine zJ Z Z (fun b=>?_) fun b=>?_
 .have b:e.kind=1:=zT b;have hl:lh r lit w e=[⟨lit,dH r e.var w,1,0⟩]:=am b;rw[hl];refine gA Z (mu (d136 r t e.var w) ?_);refine gA Z (yr (u (t.add [⟨lit,dH r e.var w,1,0⟩]) e lit w hs (by show(t.ws++_).length+_<=_;rw[Pp,Qq];omega)) Z Z Z Z Z Z Z (by first|rfl|(rw[Pp];rfl)|simp) (by first|rfl|(rw[PH];rfl)|(simp only[PH,PK];rfl)) Z Z Z Z Z Z ?_);refine gA Z tZ
 have b: ¬e.kind=1:=zF b;refine zJ Z Z (fun j=>?_) fun j=>?_
 .have j:e.kind=2:=zT j;have hl:lh r lit w e=[⟨lit,b8.z,1,e.val.kind⟩]:=by unfold lh;rw[be b,am j]
  rw[hl];refine gA Z (yr (u (t.add [⟨lit,b8.z,1,e.val.kind⟩]) e lit w hs (by show(t.ws++_).length+_<=_;rw[Pp,Qq];omega)) Z Z Z Z Z Z Z (by first|rfl|(rw[Pp];rfl)|simp) (by first|rfl|(rw[PH];rfl)|(simp only[PH,PK];rfl)) Z Z Z Z Z Z ?_);refine gA Z tZ
 .have j: ¬e.kind=2:=zF j;have hl:lh r lit w e=[]:=by unfold lh;rw[be b,be j]
  rw[hl,TS.add_nil];refine gA Z (Bi (u t e lit w hs (by omega)) ?_);refine gA Z tZ
theorem gn(r:aw)(lit w:Int): ∀e:Expr,(fq r lit w e).length<=e.size
 | .mk k v val op args=>by
  rw[fq,Expr.size,Pp];have h1:(lh r lit w (.mk k v val op args)).length<=1:=by
   unfold lh
   repeat' split
   all_goals simp
  have b:(if k=4 then qF r lit w args else[]).length<=Expr.aB args:=by
   split
   .exact numRs_len args
   .simp
  omega
where
 numRs_len: ∀l:List Expr,(qF r lit w l).length<=Expr.aB l
 | []=>by simp[qF]
 |e::s=>by
  have h1:=gn r lit w e;have h2:=numRs_len s;rw[qF,Expr.aB,Pp];omega
theorem Eh(r:aw)(lit w:Int)(l:List Expr)(i:Nat)(h:i<l.length):((l.take i).flatMap (fq r lit w)).length+(l.getD i co).size<=Expr.aB l:=by
 have h1: ∀l:List Expr,(l.flatMap (fq r lit w)).length<=Expr.aB l:=by
  intro l
  induction l with
  |nil=>simp
  |cons e s ih=>
   have:=gn r lit w e;rw[Qv,Pp,Expr.aB];omega
 have j:=h1 (l.take i);have b: ∀(l:List Expr) (i:Nat),i<l.length->Expr.aB (l.take i)+(l.getD i co).size<=Expr.aB l:=by
  intro l
  induction l with
  |nil=>intro i h;simp at h
  |cons e s ih=>
   intro i h;cases i with
   |zero=>simp[Expr.aB]
   |succ i=>
    have:=ih i (by simpa using h);simp only[QS,QM,Expr.aB];omega
 have:=b l i h;omega
theorem d137(r:aw)(n:Nat)(x:Md r n):IQ r (n+1):=by
 intro t e lit w hs hb;have u:=e.size_eq;refine bF.le (args:=[.ptr 0 0,ag e.c1,pI lit,pI w]) ?_ ⟨.refl _,e.A4,.refl _,.refl _,ac⟩;have j:=Expr.aG e.args;refine au ab func196 Z (by decide) ntmps196 Z (by simp) ?_;refine zE Z Z (fun k=>?_) fun k=>?_
 .have k: ¬e.kind=4:=zF k;have hl:gL r lit w e=[]:=be k;rw[hl,TS.add_nil];refine gA Z tZ
 have k:e.kind=4:=zT k;have hl:gL r lit w e=e.args.flatMap (fq r lit w):=am k;rw[hl];refine gA Z ?_
 refine aJ 0 e.args.length (PC _) (fun i=>⟨[(0,.ptr 0 0),(2,pI lit),(3,pI w),(14,.iv (bu 7 e.args Expr.c)),(15,pI e.args.length),(16,pI i)],
  [(0,io (TS.cell r 1 5 (t.add ((e.args.take i).flatMap (fq r lit w))).ws.length 3)),(1,io (nq (t.add ((e.args.take i).flatMap (fq r lit w))).up)),(5,io (aF 5 (t.add ((e.args.take i).flatMap (fq r lit w))).ws Want.c)),(3,io (nB (t.add ((e.args.take i).flatMap (fq r lit w))).kind))],6⟩) (fun _=>True) _ ac
  (IT (t:=t) (TS.add_nil t).symm Z Z Z Z Z Z Z Z Z Z (bi (bi (bi (bi (bi (bi trivial))))))) fun i A _=>?_
 refine zJ Z Z (fun h1=>?_) fun h1=>?_
 .have h1:i<e.args.length:=by simpa using h1
  have b:=bQ (f:=fq r lit w) h1;have B:=Eh r lit w e.args i h1;have y:=Expr.bU e.args i h1;refine gA Z (yr (x (t.add ((e.args.take i).flatMap (fq r lit w))) (e.args.getD i co) lit w (by omega) (by show(t.ws++_).length+_<=_;rw[Pp];omega)) Z Z Z Z Z Z Z (by first|rfl|(rw[Pp];rfl)|simp) (by first|rfl|(rw[PH];rfl)|(simp only[PH,PK];rfl)) Z Z Z Z Z Z ?_);refine gA Z ⟨h1,ac,_,IT ((by rw[TS.add_add,b])) Z Z Z Z (by first|rfl|(rw[Pp];rfl)|simp) (by first|rfl|(rw[PH];rfl)|(simp only[PH,PK];rfl)) Z Z Z Z (bi (bi (bi (bi (bi (bi ac))))))⟩
 .have h1:e.args.length<=i:=by simpa using h1
  rw[PJ h1];refine gA Z tZ
end
theorem pY(r:aw): ∀n,Md r n∧IQ r n
 |0=>by
  have b:IQ r 0:=fun t e lit w hs=>by have:=e.size_pos;omega
  exact⟨d92 r 0 b,b⟩
 |n+1=>by
  have h1:=d137 r n (pY r n).1;exact⟨d92 r (n+1) h1,h1⟩
theorem Fi(r:aw)(t:TS)(e:Expr)(lit w:Int)(hb:t.ws.length+e.size<=1000000000):bF prog 165 [.ptr 0 0,ag e.c,pI lit,pI w] (t.O r) (.bm []) ((t.add (fq r lit w e)).H r) 5:=(pY r e.size).1 t e lit w (Pv _) hb
theorem J7(r:aw)(t:TS)(e:Expr)(lit w:Int)(hb:t.ws.length+e.size<=1000000000):bF prog 196 [.ptr 0 0,ag e.c,pI lit,pI w] (t.O r) (.bm []) ((t.add (gL r lit w e)).H r) 5:=(pY r e.size).2 t e lit w (Pv _) (by have:=e.size_eq;omega)
def typeAt(p:Prog)(a:Atom)(i:Nat):Int:=(fQ p a.rel).types.getD i co
def kO(p:Prog)(a:Atom)(i:Nat):Bool:=lc (i<(fQ p a.rel).types.length)&&(lc (typeAt p a i=1)||decide (typeAt p a i=2))
def jV(p:Prog)(r:aw)(a:Atom)(lit w:Int)(i:Nat):List Want:=
 if kO p a i=kw then[]
 else if(a.aj.getD i co).kind=1 then[⟨lit,dH r (a.aj.getD i co).var w,typeAt p a i,0⟩]
 else if(a.aj.getD i co).kind=2 then[⟨lit,b8.z,typeAt p a i,(a.aj.getD i co).val.kind⟩] else[]
def fx(p:Prog)(r:aw)(a:Atom)(lit w:Int):Nat->List Want
 |0=> []
 |i+1=>fx p r a lit w i++jV p r a lit w i
theorem yV(p:Prog)(r:aw)(a:Atom)(lit w:Int)(i:Nat):(jV p r a lit w i).length<=1:=by
 unfold jV
 repeat' split
 all_goals simp
theorem lF(p:Prog)(r:aw)(a:Atom)(lit w:Int): ∀i,(fx p r a lit w i).length<=i
 |0=>Pv _
 |i+1=>by
  have h1:=lF p r a lit w i;have b:=yV p r a lit w i;rw[fx,Pp];omega
set_option maxHeartbeats 1000000 in
theorem d90(p:Prog)(r:aw)(t:TS)(a:Atom)(lit w:Int)(hb:t.ws.length+a.aj.length<=1000000000):bF prog 163 [.ptr 0 0,.iv (cG p),ag a.c,pI lit,pI w] (t.O r) (.bm []) ((t.add (fx p r a lit w a.aj.length)).H r) 5:=by
 refine au ab func163 Z (by decide) ntmps163 Z (by simp) ?_;refine gA Z ?_
 refine aJ 0 a.aj.length (PC _) (fun i=>⟨[(0,.ptr 0 0),(3,pI lit),(4,pI w),(10,.iv (bu 1 (fQ p a.rel).types j3)),(19,.iv (bu 5 a.aj Term.c)),(20,pI a.aj.length),(21,pI i)],
  [(0,io (TS.cell r 1 5 (t.add (fx p r a lit w i)).ws.length 3)),(1,io (nq (t.add (fx p r a lit w i)).up)),(5,io (aF 5 (t.add (fx p r a lit w i)).ws Want.c)),(3,io (nB (t.add (fx p r a lit w i)).kind))],6⟩) (fun _=>True) _ ac
  (IT (t:=t) (TS.add_nil t).symm Z Z Z Z Z Z Z Z Z Z (bi (bi (bi (bi (bi (bi (bi trivial)))))))) fun i B _=>?_
 refine zE Z Z (fun h1=>?_) fun h1=>?_
 .have h1:a.aj.length<=i:=by simpa using h1
  have:i=a.aj.length:=by omega
  subst this;refine gA Z tZ
 have h1:i<a.aj.length:=by simpa using h1
 have hl:=lF p r a lit w i;have hs:t.add (fx p r a lit w (i+1))=(t.add (fx p r a lit w i)).add (jV p r a lit w i):=by rw[TS.add_add];rfl
 have A:(t.add (fx p r a lit w i)).ws.length<=t.ws.length+i:=by show(t.ws++_).length<=_;rw[Pp];omega
 generalize t.add (fx p r a lit w i)=t1 at*
 refine zE Z Z (fun g1=>?_) fun g1=>?_
 .have g1: ¬i<(fQ p a.rel).types.length:=by have g:=zT (show lc ((i:Int)>=((fQ p a.rel).types.length:Int))=jp from g1);omega
  have x:kO p a i=kw:=by rw[kO,decide_eq_false g1];rfl
  have u:jV p r a lit w i=[]:=am x;rw[u,TS.add_nil]at hs;refine gA Z ⟨h1,ac,_,nL (hs.symm)⟩
 have g1:i<(fQ p a.rel).types.length:=by have g:=zF (show lc ((i:Int)>=((fQ p a.rel).types.length:Int))=kw from g1);omega
 refine zJ Z Z (fun g2=>?_) fun g2=>?_
 .have g2: ¬typeAt p a i=1:=by simpa[typeAt]using g2
  refine zJ Z Z (fun g3=>?_) fun g3=>?_
  .have g3: ¬typeAt p a i=2:=by simpa[typeAt]using g3
   have x:kO p a i=kw:=by rw[kO,decide_eq_true g1,decide_eq_false g2,decide_eq_false g3];rfl
   have u:jV p r a lit w i=[]:=am x;rw[u,TS.add_nil]at hs;refine gA Z ⟨h1,ac,_,nL (hs.symm)⟩
  .have g3:typeAt p a i=2:=by simpa[typeAt]using g3
   have y:kO p a i=jp:=by rw[kO,decide_eq_true g1,decide_eq_true g3,Bool.or_true];rfl
   have u:jV p r a lit w i=if(a.aj.getD i co).kind=1 then[⟨lit,dH r (a.aj.getD i co).var w,typeAt p a i,0⟩]
    else if(a.aj.getD i co).kind=2 then[⟨lit,b8.z,typeAt p a i,(a.aj.getD i co).val.kind⟩] else[]:=by unfold jV;rw[y];exact be (by decide)
   rw[u]at hs;refine zJ Z Z (fun b=>?_) fun b=>?_
   .have b:(a.aj.getD i co).kind=1:=zT b;rw[am b]at hs;refine gA Z (mu (d136 r t1 (a.aj.getD i co).var w) ?_);refine gA Z ⟨h1,ac,_,nL (hs.symm)⟩
   have b: ¬(a.aj.getD i co).kind=1:=zF b;rw[be b]at hs;refine zJ Z Z (fun j=>?_) fun j=>?_
   .have j:(a.aj.getD i co).kind=2:=zT j;rw[am j]at hs;refine gA Z ⟨h1,ac,_,nL (hs.symm)⟩
   .have j: ¬(a.aj.getD i co).kind=2:=zF j;rw[be j,TS.add_nil]at hs;refine gA Z ⟨h1,ac,_,nL (hs.symm)⟩
 .have g2:typeAt p a i=1:=by simpa[typeAt]using g2
  have y:kO p a i=jp:=by rw[kO,decide_eq_true g1,decide_eq_true g2];rfl
  have u:jV p r a lit w i=if(a.aj.getD i co).kind=1 then[⟨lit,dH r (a.aj.getD i co).var w,typeAt p a i,0⟩]
   else if(a.aj.getD i co).kind=2 then[⟨lit,b8.z,typeAt p a i,(a.aj.getD i co).val.kind⟩] else[]:=by unfold jV;rw[y];exact be (by decide)
  rw[u]at hs;refine zJ Z Z (fun b=>?_) fun b=>?_
  .have b:(a.aj.getD i co).kind=1:=zT b;rw[am b]at hs;refine gA Z (mu (d136 r t1 (a.aj.getD i co).var w) ?_);refine gA Z ⟨h1,ac,_,nL (hs.symm)⟩
  have b: ¬(a.aj.getD i co).kind=1:=zF b;rw[be b]at hs;refine zJ Z Z (fun j=>?_) fun j=>?_
  .have j:(a.aj.getD i co).kind=2:=zT j;rw[am j]at hs;refine gA Z ⟨h1,ac,_,nL (hs.symm)⟩
  .have j: ¬(a.aj.getD i co).kind=2:=zF j;rw[be j,TS.add_nil]at hs;refine gA Z ⟨h1,ac,_,nL (hs.symm)⟩
def tY(t:TS)(u v:b8):TS:=if u=v then t else⟨cD (.si .i64) t.up u v,t.ws,t.kind⟩
def rb(y:Expr):Int:=if y.kind=2 then y.val.kind else 1
def fy(r:aw)(lit w:Int)(t:TS)(x y:Expr):TS:=
 if y.kind=1 then tY t (bJ t.up (dH r x.var w)) (bJ t.up (dH r y.var w))
 else t.add (if x.kind=1 then[⟨lit,dH r x.var w,rb y,0⟩] else if x.kind=2 then[⟨lit,b8.z,rb y,x.val.kind⟩] else[⟨lit,b8.z,rb y,1⟩])
def gU(r:aw)(lit w:Int)(t:TS)(a b:Expr):TS:=
 if b.kind=1 then fy r lit w ((t.add (gL r lit w a)).add (gL r lit w b)) b a else fy r lit w ((t.add (gL r lit w a)).add (gL r lit w b)) a b
theorem G7{u v:b8}(h:(!(lc (u.1=v.1)&&(lc (u.2=v.2)&&jp)))=jp):u≠v:=by
 rintro rfl;simp at h
theorem G8{u v:b8}(h:(!(lc (u.1=v.1)&&(lc (u.2=v.2)&&jp)))=kw):u=v:=by
 simp at h;exact Prod.ext h.1 h.2
theorem pc(r:aw)(lit w:Int)(e:Expr):(gL r lit w e).length<=e.size:=by
 have h1:=gn r lit w e;rw[A0,Pp]at h1;omega
set_option maxHeartbeats 1000000 in
theorem d93(r:aw)(t:TS)(a b:Expr)(lit w:Int)(ok:gC t.up)(hb:t.ws.length+a.size+b.size<=1000000000):bF prog 166 [.ptr 0 0,ag a.c,ag b.c,pI lit,pI w] (t.O r) (.bm []) ((gU r lit w t a b).H r) 5:=by
 have h1:=pc r lit w a;have I:=pc r lit w b;have G:gU r lit w t a b=if b.kind=1 then fy r lit w ((t.add (gL r lit w a)).add (gL r lit w b)) b a else fy r lit w ((t.add (gL r lit w a)).add (gL r lit w b)) a b:=rfl;rw[G];have C:gC ((t.add (gL r lit w a)).add (gL r lit w b)).up:=ok;refine au ab func166 Z (by decide) ntmps166 Z (by simp) ?_;refine gA Z (Bi (J7 r t a lit w (by omega)) ?_);refine gA Z (yr (J7 r (t.add (gL r lit w a)) b lit w (by show(t.ws++_).length+_<=_;rw[Pp];omega)) Z Z Z Z Z Z Z (by first|rfl|(rw[Pp];rfl)|simp) (by first|rfl|(rw[PH];rfl)|(simp only[PH,PK];rfl)) Z Z Z Z Z Z ?_);have hl:((t.add (gL r lit w a)).add (gL r lit w b)).ws.length<=t.ws.length+a.size+b.size:=by
  show((t.ws++_)++_).length<=_;rw[Pp,Pp];omega
 generalize(t.add (gL r lit w a)).add (gL r lit w b)=t1 at*
 refine zJ Z Z (fun x=>?_) fun x=>?_
 .have x:b.kind=1:=zT x;rw[am x];refine zJ Z Z (fun u=>?_) fun u=>?_
  .have u:a.kind=2:=zT u;have D: ¬a.kind=1:=by omega
   have hh:rb a=a.val.kind:=am u;have A:fy r lit w t1 b a=t1.add [⟨lit,dH r b.var w,rb a,0⟩]:=by unfold fy;rw[be D,am x]
   rw[A,hh];refine zJ Z Z (fun y=>?_) fun y=>?_
   .exact absurd (zT y) D
   refine zE Z Z (fun j=>?_) fun j=>?_
   .exact absurd x (zF j)
   refine gA Z (mu (d136 r t1 b.var w) ?_);refine gA Z tZ
  .have u: ¬a.kind=2:=zF u;refine zJ Z Z (fun y=>?_) fun y=>?_
   .have y:a.kind=1:=zT y;have A:fy r lit w t1 b a=tY t1 (bJ t1.up (dH r b.var w)) (bJ t1.up (dH r a.var w)):=am y;rw[A];refine gA Z (mu (d136 r t1 b.var w) ?_);refine gA Z (mu (d52 r t1 (dH r b.var w) C) ?_);refine gA Z (mu (d136 r t1 a.var w) ?_);refine gA Z (mu (d52 r t1 (dH r a.var w) C) ?_);refine zJ Z Z (fun j=>?_) fun j=>?_
    .have e:tY t1 (bJ t1.up (dH r b.var w)) (bJ t1.up (dH r a.var w))=⟨cD (.si .i64) t1.up (bJ t1.up (dH r b.var w)) (bJ t1.up (dH r a.var w)),t1.ws,t1.kind⟩:=be (G7 j);rw[e];refine fk Z (by repeat' (first|exact ac|exact rfl|exact Om (b8.c (bJ t1.up (dH r a.var w)))|exact an.refl _|apply Pq)) (J3 (by first|exact .inr Z|exact .inl Z) Z Z Z Z Z Z Z Z Z Z (.refl _) Z Z)
    .have e:tY t1 (bJ t1.up (dH r b.var w)) (bJ t1.up (dH r a.var w))=t1:=am (G8 j);rw[e];refine gA Z tZ
   .have D: ¬a.kind=1:=zF y;have hh:rb a=1:=be u;have A:fy r lit w t1 b a=t1.add [⟨lit,dH r b.var w,rb a,0⟩]:=by unfold fy;rw[be D,am x]
    rw[A,hh];refine zE Z Z (fun j=>?_) fun j=>?_
    .exact absurd x (zF j)
    refine gA Z (mu (d136 r t1 b.var w) ?_);refine gA Z tZ
 have x: ¬b.kind=1:=zF x;rw[be x];have A:fy r lit w t1 a b=t1.add (if a.kind=1 then[⟨lit,dH r a.var w,rb b,0⟩] else if a.kind=2 then[⟨lit,b8.z,rb b,a.val.kind⟩] else[⟨lit,b8.z,rb b,1⟩]):=be x;rw[A];refine zJ Z Z (fun u=>?_) fun u=>?_
 .have u:b.kind=2:=zT u;have hh:rb b=b.val.kind:=am u;rw[hh];refine zJ Z Z (fun y=>?_) fun y=>?_
  .exact absurd (zT y) x
  refine zJ Z Z (fun j=>?_) fun j=>?_
  .rw[am (zT j)];refine gA Z (mu (d136 r t1 a.var w) ?_);refine gA Z tZ
  rw[be (zF j)];refine zJ Z Z (fun B=>?_) fun B=>?_
  .rw[am (zT B)];refine gA Z tZ
  .rw[be (zF B)];refine gA Z tZ
 .have u: ¬b.kind=2:=zF u;have hh:rb b=1:=be u;rw[hh];refine zJ Z Z (fun y=>?_) fun y=>?_
  .exact absurd (zT y) x
  refine zJ Z Z (fun j=>?_) fun j=>?_
  .rw[am (zT j)];refine gA Z (mu (d136 r t1 a.var w) ?_);refine gA Z tZ
  rw[be (zF j)];refine zJ Z Z (fun B=>?_) fun B=>?_
  .rw[am (zT B)];refine gA Z tZ
  .rw[be (zF B)];refine gA Z tZ
def nj(p:Prog)(r:aw)(lit w:Int)(t:TS)(l:Lit):TS:=
 if l.kind=1∨l.kind=2 then t.add (fx p r l.atom lit w l.atom.aj.length)
 else if l.kind=3 then(if l.op=1∨l.op=2 then gU r lit w t l.left l.right else(t.add (fq r lit w l.left)).add (fq r lit w l.right)) else t
theorem d91(p:Prog)(r:aw)(t:TS)(l:Lit)(lit w:Int)(ok:gC t.up)(hb:t.ws.length+l.size<=1000000000):bF prog 164 [.ptr 0 0,.iv (cG p),ag l.c,pI lit,pI w] (t.O r) (.bm []) ((nj p r lit w t l).H r) 5:=by
 have B:=l.size_eq;have C:=gn r lit w l.left;refine au ab func164 Z (by decide) ntmps164 Z (by simp) ?_;refine zE Z Z (fun j=>?_) fun j=>?_
 .have j:l.kind=1:=by simpa using j
  have b:nj p r lit w t l=t.add (fx p r l.atom lit w l.atom.aj.length):=am (.inl j);rw[b];refine gA Z (Bi (d90 p r t l.atom lit w (by omega)) ?_);refine gA Z tZ
 have j: ¬l.kind=1:=zF j;refine zJ Z Z (fun u=>?_) fun u=>?_
 .have u:l.kind=2:=zT u;have b:nj p r lit w t l=t.add (fx p r l.atom lit w l.atom.aj.length):=am (.inr u);rw[b];refine gA Z (Bi (d90 p r t l.atom lit w (by omega)) ?_);refine gA Z tZ
 have u: ¬l.kind=2:=zF u;have b:nj p r lit w t l=if l.kind=3 then(if l.op=1∨l.op=2 then gU r lit w t l.left l.right else(t.add (fq r lit w l.left)).add (fq r lit w l.right)) else t:=be (by rintro(h|h);exact j h;exact u h);refine zJ Z Z (fun x=>?_) fun x=>?_
 .have x: ¬l.kind=3:=by simpa using x
  rw[be x]at b;rw[b];refine gA Z tZ
 have x:l.kind=3:=by simpa using x
 rw[am x]at b;refine zE Z Z (fun y=>?_) fun y=>?_
 .have y:l.op=1:=by simpa using y
  rw[am (.inl y)]at b;rw[b];refine gA Z (Bi (d93 r t l.left l.right lit w ok (by omega)) ?_);refine gA Z tZ
 have y: ¬l.op=1:=zF y;refine zJ Z Z (fun A=>?_) fun A=>?_
 .have A:l.op=2:=zT A;rw[am (.inr A)]at b;rw[b];refine gA Z (Bi (d93 r t l.left l.right lit w ok (by omega)) ?_);refine gA Z tZ
 .have A: ¬l.op=2:=zF A;rw[be (by rintro(h|h);exact y h;exact A h)]at b;rw[b];refine gA Z (Bi (Fi r t l.left lit w (by omega)) ?_);refine gA Z (yr (Fi r (t.add (fq r lit w l.left)) l.right lit w (by show(t.ws++_).length+_<=_;rw[Pp];omega)) Z Z Z Z Z Z Z (by first|rfl|(rw[Pp];rfl)|simp) (by first|rfl|(rw[PH];rfl)|(simp only[PH,PK];rfl)) Z Z Z Z Z Z ?_);refine gA Z tZ
theorem nW: ∀(n:Nat) (m:UM) (v:b8),gC m->BP m v<=n->c8 (.si .i64) m (bJ m v)=kw
 |n,m,v,ok,hn=>by
  cases h:c8 (.si .i64) m v with
  |false=>rw[oS m v h];exact h
  |true=>
   obtain⟨h1,b⟩:=l5 m v ok h;cases n with
   |zero=>omega
   |succ n=>rw[<-h1];exact nW n m _ ok (by omega)
theorem xJ: ∀(m:UM) (u v:b8),c8 (.si .i64) m u=kw->cD (.si .i64) m u v=m++ [(u,v)]
 | [],_,_,_=>rfl
 |(x,y)::r,u,v,h=>by
  unfold c8 at h;split at h
  .cases h
  .rename_i b;show(if x=u then _ else(x,y)::cD (.si .i64) r u v)=_;rw[be b,xJ r u v h];rfl
theorem yq{m:UM}{u:b8}(h:c8 (.si .i64) m u=kw): ∀q∈m,q.1≠u:=by
 induction m with
 |nil=>intro q hq;cases hq
 |cons a r ih=>
  obtain⟨x,y⟩:=a;unfold c8 at h;split at h
  .cases h
  .rename_i b;intro q hq;rcases Px.1 hq with rfl|hq
   .exact b
   .exact ih h q hq
theorem uA: ∀{m:UM} {u v:b8},gC m->(∀q∈m,q.1≠u)->(∀q∈m,q.1≠v)->u≠v->gC (m++ [(u,v)])
 | [],u,v,_,_,_,hne=>⟨hne,fun q hq=>(nomatch hq),fun q hq=>(nomatch hq),ac⟩
 |(x,y)::r,u,v,⟨o1,o2,o3,o4⟩,hu,hv,hne=>by
  refine⟨o1,fun q hq=>?_,fun q hq=>?_,uA o4 (fun q hq=>hu q (Py _ hq)) (fun q hq=>hv q (Py _ hq)) hne⟩
  .rcases PI.1 hq with hq|hq
   .exact o2 q hq
   .simp only[PA]at hq;subst hq;exact fun e=>hu _ Pz e.symm
  .rcases PI.1 hq with hq|hq
   .exact o3 q hq
   .simp only[PA]at hq;subst hq;exact fun e=>hv _ Pz e.symm
theorem K0{t:TS}(ok:gC t.up)(a b:b8):gC (tY t (bJ t.up a) (bJ t.up b)).up:=by
 unfold tY;split
 .exact ok
 .rename_i j;have h1:=nW _ t.up a ok (Pv _);have u:=nW _ t.up b ok (Pv _);show gC (cD _ _ _ _);rw[xJ _ _ _ h1];exact uA ok (yq h1) (yq u) j
theorem vG(r:aw)(lit w:Int){t:TS}(ok:gC t.up)(x y:Expr):gC (fy r lit w t x y).up:=by
 unfold fy;split
 .exact K0 ok _ _
 .exact ok
theorem yO(r:aw)(lit w:Int){t:TS}(ok:gC t.up)(a b:Expr):gC (gU r lit w t a b).up:=by
 unfold gU;split
 .exact vG r lit w (t:=(t.add (gL r lit w a)).add (gL r lit w b)) ok _ _
 .exact vG r lit w (t:=(t.add (gL r lit w a)).add (gL r lit w b)) ok _ _
theorem Ev(p:Prog)(r:aw)(lit w:Int){t:TS}(ok:gC t.up)(l:Lit):gC (nj p r lit w t l).up:=by
 unfold nj
 repeat' split
 .exact ok
 .exact yO r lit w ok _ _
 .exact ok
 .exact ok
theorem KZ(t:TS)(u v:b8):(tY t u v).ws=t.ws:=by unfold tY;split<;>rfl
theorem tJ(r:aw)(lit w:Int)(t:TS)(x y:Expr):(fy r lit w t x y).ws.length<=t.ws.length+1:=by
 unfold fy
 repeat' split
 .rw[KZ];omega
 all_goals(show(t.ws++_).length<=_;rw[Pp,Qq];omega)
theorem vE(r:aw)(lit w:Int)(t:TS)(a b:Expr):(gU r lit w t a b).ws.length<=t.ws.length+a.size+b.size+1:=by
 have h1:=pc r lit w a;have j:=pc r lit w b;have u:((t.add (gL r lit w a)).add (gL r lit w b)).ws.length<=t.ws.length+a.size+b.size:=by
  show((t.ws++_)++_).length<=_;rw[Pp,Pp];omega
 unfold gU;split
 .exact P9 (tJ _ _ _ _ _ _) (by omega)
 .exact P9 (tJ _ _ _ _ _ _) (by omega)
theorem A3(p:Prog)(r:aw)(lit w:Int)(t:TS)(l:Lit):(nj p r lit w t l).ws.length<=t.ws.length+l.size:=by
 have b:=l.size_eq;have h1:=lF p r l.atom lit w l.atom.aj.length;have j:=vE r lit w t l.left l.right;have u:=gn r lit w l.left;have x:=gn r lit w l.right;unfold nj
 repeat' split
 .show(t.ws++_).length<=_;rw[Pp];omega
 .omega
 .show((t.ws++_)++_).length<=_;rw[Pp,Pp];omega
 .omega
theorem ae{P:Program}{nt:Nat}{Q:AQ}{k:List KI}{s t:AS}{c:Code}(L:List Nat)(h0:Wk s.nx L s t)(h:GO P nt (.code c::k) Q t):GO P nt (.code c::k) Q s:=by
 intro M N a w x;exact AW.then h (h0.fits x) fun e B C j u s' A b y=>⟨j,u,s',(h0.ext (.refl _ _ _ _ _)).trans A,b,y⟩
theorem HP:dV .eC (nq []):=⟨id,fun M N U w j b=>⟨#[],0,b,⟨rfl,by simp,by simp,by simp,by simp⟩,.agg _ _ Z fun j p b=>by
 match j,b with
 |0,b=>cases b;exact .v _
 |1,b=>cases b;exact .v _
 |j+2,b=>simp[b8.c]at b⟩⟩
theorem HQ:dV .eC (nB []):=⟨id,fun M N U w j b=>⟨#[],0,b,⟨rfl,by simp,by simp,by simp,by simp⟩,fa M⟩⟩
def nh(s:ak):Expr:= .mk 1 s ⟨0,0,Pt⟩ 0 []
abbrev FY(s:ak):PV:= .agg [pI 1,pS s,pI 0,pI 0,pS Pt,pI 0,.iv (.v (.slice is 0 0))]
theorem vK(s:ak):an (FY s) (ag (nh s).c):= .agg ⟨.refl _,.refl _,.refl _,.refl _,.refl _,.refl _,.nil _ _,ac⟩
theorem ke(s:ak):(nh s).size=1:=rfl
def tX(r:aw)(i:Int)(t:TS)(f:Int)(v:ak)(o:Expr):TS:=
 if f=2 then(t.add (fq r i i o)).add (fq r i i (nh v)) else if f=1 then t.add (fq r i i (nh v)) else gU r i i t (nh v) o
def oi(p:Prog)(r:aw)(i:Int)(t:TS)(b:List Lit):Nat->TS
 |0=>t
 |k+1=>nj p r i i (oi p r i t b k) (b.getD k co)
def stepT(p:Prog)(r:aw)(i:Int)(t:TS)(l:Lit):TS:=
 if l.kind=4 then oi p r i (tX r i t l.dT l.bC l.jB) l.ar l.ar.length else nj p r i (-1) t l
def TS.o:TS:=⟨[],[],[]⟩
def dW(p:Prog)(r:aw):Nat->TS
 |0=>TS.o.add (fx p r r.head (-1) (-1) r.head.aj.length)
 |k+1=>stepT p r k (dW p r k) (r.body.getD k co)
def cA(b:UM)(m:KM)(w:Want):KM:=if w.has=0∧dw (.si .i64) m (bJ b w.at_) 0=0 then cD (.si .i64) m (bJ b w.at_) w.kind else m
def lV(p:Prog)(r:aw):TS:=⟨(dW p r r.body.length).up,(dW p r r.body.length).ws,(dW p r r.body.length).ws.foldl (cA (dW p r r.body.length).up) []⟩
theorem Df(r:aw)(i:Int){t:TS}(ok:gC t.up)(f:Int)(v:ak)(o:Expr):gC (tX r i t f v o).up:=by
 unfold tX
 repeat' split
 .exact ok
 .exact ok
 .exact yO r i i ok _ _
theorem yo(p:Prog)(r:aw)(i:Int){t:TS}(ok:gC t.up)(b:List Lit): ∀k,gC (oi p r i t b k).up
 |0=>ok
 |k+1=>Ev p r i i (yo p r i ok b k) _
theorem G5(p:Prog)(r:aw)(i:Int){t:TS}(ok:gC t.up)(l:Lit):gC (stepT p r i t l).up:=by
 unfold stepT;split
 .exact yo p r i (Df r i ok _ _ _) _ _
 .exact Ev p r i (-1) ok l
theorem wQ(p:Prog)(r:aw): ∀k,gC (dW p r k).up
 |0=>trivial
 |k+1=>G5 p r k (wQ p r k) _
theorem tI(r:aw)(lit w:Int)(t:TS)(a b:Expr):(gU r lit w t a b).kind=t.kind:=by
 have h1: ∀(t:TS) u v,(tY t u v).kind=t.kind:=fun t u v=>by unfold tY;split<;>rfl
 have j: ∀(t:TS) x y,(fy r lit w t x y).kind=t.kind:=fun t x y=>by
  unfold fy;split
  .exact h1 _ _ _
  .rfl
 unfold gU;split<;>exact j _ _ _
theorem yd(p:Prog)(r:aw)(lit w:Int)(t:TS)(l:Lit):(nj p r lit w t l).kind=t.kind:=by
 unfold nj
 repeat' split
 .rfl
 .exact tI r lit w t _ _
 .rfl
 .rfl
theorem Bf(p:Prog)(r:aw)(i:Int)(t:TS)(b:List Lit): ∀k,(oi p r i t b k).kind=t.kind
 |0=>rfl
 |k+1=>by rw[oi,yd,Bf p r i t b k]
theorem BX(p:Prog)(r:aw)(i:Int)(t:TS)(l:Lit):(stepT p r i t l).kind=t.kind:=by
 unfold stepT;split
 .rw[Bf];unfold tX
  repeat' split
  .rfl
  .rfl
  .exact tI r i i t _ _
 .exact yd p r i (-1) t l
theorem vA(p:Prog)(r:aw): ∀k,(dW p r k).kind=[]
 |0=>rfl
 |k+1=>by rw[dW,BX,vA p r k]
theorem Aq(r:aw)(i:Int)(t:TS)(f:Int)(v:ak)(o:Expr):(tX r i t f v o).ws.length<=t.ws.length+o.size+2:=by
 have h1:=gn r i i o;have b:=gn r i i (nh v);have j:=vE r i i t (nh v) o;rw[ke]at b j;unfold tX
 repeat' split
 .show((t.ws++_)++_).length<=_;rw[Pp,Pp];omega
 .show(t.ws++_).length<=_;rw[Pp];omega
 .omega
theorem gZ: ∀(l:List Lit) (i:Nat),i<l.length->Lit.aB (l.take i)+(l.getD i co).size<=Lit.aB l
 | [],i,h=>by simp at h
 |s::r,0,_=>by simp[Lit.aB]
 |s::r,i+1,h=>by
  have:=gZ r i (by simpa using h);simp only[QS,QM,Lit.aB];omega
theorem Lit.sk(l:List Lit)(i:Nat)(h:i<l.length):Lit.aB (l.take (i+1))=Lit.aB (l.take i)+(l.getD i co).size:=by
 rw[ct h];have: ∀(a:List Lit) (b:Lit),Lit.aB (a++ [b])=Lit.aB a+b.size:=by
  intro a b
  induction a with
  |nil=>simp[Lit.aB]
  |cons x r ih=>simp only[QR,Lit.aB,ih];omega
 exact this _ _
theorem s6(p:Prog)(r:aw)(i:Int)(t:TS)(b:List Lit): ∀k,k<=b.length->(oi p r i t b k).ws.length<=t.ws.length+Lit.aB (b.take k)
 |0,_=>by simp[oi,Lit.aB]
 |k+1,h=>by
  have h1:=s6 p r i t b k (by omega);have j:=A3 p r i i (oi p r i t b k) (b.getD k co);rw[oi,Lit.sk b k (by omega)];omega
theorem Dy(p:Prog)(r:aw)(i:Int)(t:TS)(l:Lit):(stepT p r i t l).ws.length<=t.ws.length+l.size:=by
 have b:=l.size_eq;unfold stepT;split
 .have h1:=s6 p r i (tX r i t l.dT l.bC l.jB) l.ar l.ar.length (Pv _);have j:=Aq r i t l.dT l.bC l.jB;rw[Rp]at h1;omega
 .exact A3 p r i (-1) t l
theorem tz(p:Prog)(r:aw): ∀k,k<=r.body.length->(dW p r k).ws.length<=r.head.aj.length+Lit.aB (r.body.take k)
 |0,_=>by
  have:=lF p r r.head (-1) (-1) r.head.aj.length;show([]++_).length<=_;simp only[Rk];omega
 |k+1,h=>by
  have h1:=tz p r k (by omega);have b:=Dy p r k (dW p r k) (r.body.getD k co);rw[dW,Lit.sk r.body k (by omega)];omega
theorem OP(r:aw)(b:UM)(j:KM)(W:IV)(v0:b8)(ok:gC b):bF prog 167 [.ptr 0 0,ag v0.c] [.cells [.iv (cq r),.mp 1,.iv W,.mp 2],nq b,nB j] (ag (bJ b v0).c) [(0,io (.cells [.iv (cq r),.mp 1,.iv W,.mp 2])),(1,io (nq b)),(2,io (nB j))] 3:=by
 refine au ab func167 Z (by decide) ntmps167 Z (by simp) ?_;refine gA Z ?_
 refine gu (σ:={v:b8//bJ b v=bJ b v0}) (fun v=>⟨[(0,.ptr 0 0),(3,.ptr 3 0),(4,.ptr 4 0)],
  [(0,io (.cells [.iv (cq r),.mp 1,.iv W,.mp 2])),(1,io (nq b)),(2,io (nB j)),(3,io (.cells [pS v.1.1,pI v.1.2])),(4,io (.cells [pS ⟨#[]⟩,pI 0]))],5⟩) (fun v=>BP b v.1) ⟨v0,rfl⟩ []
  (zW (zO (zC (zC ⟨⟨_,rfl,.of_eq Z⟩,Pj Z,rfl,⟨_,rfl,.of_eq Z⟩,Pj Z,rfl,ac⟩)))) fun v=>?_
 obtain⟨v,u⟩:=v;refine zJ Z Z (fun g=>?_) fun g=>?_
 .have h:c8 (.si .i64) b v=kw:=by simpa using g
  have e:bJ b v0=v:=by rw[<-u];exact oS b v h
  refine gA Z (zD [] Z (zM ⟨.of_eq (congrArg (fun x:b8=>ag x.c) e.symm),rfl,ac⟩ (zO (zC (zC ac)))))
 .have h:c8 (.si .i64) b v=jp:=by simpa using g
  obtain⟨h1,y⟩:=l5 b v ok h;refine gA Z ⟨⟨dw (.si .i64) b v b8.z,h1.trans u⟩,[],y,zW (zO (zC (zC ⟨⟨_,rfl,.of_eq Z⟩,Pj Z,rfl,⟨_,rfl,.of_eq Z⟩,Pj Z,rfl,ac⟩)))⟩
set_option maxHeartbeats 2000000 in
theorem c49(p:Prog)(r:aw)(hb:r.size<=100000000):Pure prog 130 [.iv (cG p),.iv (cq r)] (.iv (KT r (lV p r))):=by
 unfold aw.size at hb;have Y:=Lit.aG r.body;have g0:r.body.length<=Lit.aB r.body:=Y;refine ah ab func130 Z (by decide) ntmps130 Z (by simp) Z ?_;refine gM 14 Z (pf 2 2 5 Z Z ?_);refine ae [] (t:=⟨[(0,.iv (cG p)),(1,.iv (cq r)),(5,.ptr 2 0)],[(2,io (TS.cell r 0 3 TS.o.ws.length 1)),(0,io (nq TS.o.up)),(3,io (aF 5 TS.o.ws Want.c)),(1,io (nB TS.o.kind))],4⟩)
  (zW ⟨⟨_,rfl,.of_eq Z⟩,Pj Z,rfl,⟨_,rfl,HP⟩,Pj Z,ac,⟨_,rfl,.of_eq Z⟩,Pj Z,dL _,⟨_,rfl,HQ⟩,Pj Z,ac,ac⟩) ?_
 refine gA Z (yr (d90 p r TS.o r.head (-1) (-1) (by show 0+_<=_;omega)) Z Z Z Z Z Z Z (by first|rfl|(rw[Pp];rfl)|simp) (by first|rfl|(rw[PH];rfl)|(simp only[PH,PK];rfl)) Z Z Z Z Z Z ?_);refine gA Z ?_
 refine aJ 0 r.body.length (PC _) (fun i=>⟨[(0,.iv (cG p)),(1,.iv (cq r)),(5,.ptr 2 0),(31,.iv (lits r.body)),(32,pI r.body.length),(33,pI i)],
  [(2,io (TS.cell r 0 5 (dW p r i).ws.length 1)),(0,io (nq (dW p r i).up)),(5,io (aF 5 (dW p r i).ws Want.c)),(1,io (nB (dW p r i).kind))],6⟩) (fun _=>True) _ ac
  (IT (t:=dW p r 0) Z Z Z Z Z Z Z Z Z Z Z (bi (bi (bi (bi (bi (bi trivial))))))) fun i hi _=>?_
 have d0:=tz p r i hi;have hok:=wQ p r i;refine zJ Z Z (fun h1=>?_) fun h1=>?_
 .have h1:i<r.body.length:=by simpa using h1
  have j0:=gZ r.body i h1;have hs:dW p r (i+1)=stepT p r i (dW p r i) (r.body.getD i co):=rfl;generalize dW p r i=t1 at*
  have k0:=(r.body.getD i co).size_eq;refine zJ Z Z (fun B=>?_) fun B=>?_
  .have B: ¬(r.body.getD i co).kind=4:=by have g:(!lc ((r.body.getD i co).kind=4))=jp:=B;simpa only[Qs,decide_eq_false_iff_not]using g
   have hS:stepT p r i t1 (r.body.getD i co)=nj p r i (-1) t1 (r.body.getD i co):=be B;rw[hS]at hs;refine gA Z (Bi (d91 p r t1 (r.body.getD i co) i (-1) hok (by omega)) ?_);refine gA Z ⟨h1,ac,_,nL (hs.symm)⟩
  have B:(r.body.getD i co).kind=4:=by have g:(!lc ((r.body.getD i co).kind=4))=kw:=B;simpa only[Q5,decide_eq_true_eq]using g
  have hS:stepT p r i t1 (r.body.getD i co)=oi p r i (tX r i t1 (r.body.getD i co).dT (r.body.getD i co).bC (r.body.getD i co).jB) (r.body.getD i co).ar (r.body.getD i co).ar.length:=am B;rw[hS]at hs;have J:tX r i t1 (r.body.getD i co).dT (r.body.getD i co).bC (r.body.getD i co).jB=if(r.body.getD i co).dT=2 then(t1.add (fq r i i (r.body.getD i co).jB)).add (fq r i i (nh (r.body.getD i co).bC)) else if(r.body.getD i co).dT=1 then t1.add (fq r i i (nh (r.body.getD i co).bC)) else gU r i i t1 (nh (r.body.getD i co).bC) (r.body.getD i co).jB:=rfl;have A:=Df r i hok (r.body.getD i co).dT (r.body.getD i co).bC (r.body.getD i co).jB;have f0:=Aq r i t1 (r.body.getD i co).dT (r.body.getD i co).bC (r.body.getD i co).jB;have a0:=Lit.aG (r.body.getD i co).ar;have m0:=ke (r.body.getD i co).bC;have i0:=gn r i i (r.body.getD i co).jB;generalize tX r i t1 (r.body.getD i co).dT (r.body.getD i co).bC (r.body.getD i co).jB=V at*
  refine zJ Z Z (fun f2=>?_) fun f2=>?_
  .have f2:(r.body.getD i co).dT=2:=zT f2;have I:V=(t1.add (fq r i i (r.body.getD i co).jB)).add (fq r i i (nh (r.body.getD i co).bC)):=by rw[J,am f2]
   refine gA Z (Bi (Fi r t1 (r.body.getD i co).jB i i (by omega)) ?_);refine gA Z (yr (bF.le (aa:=[.ptr 0 0,FY (r.body.getD i co).bC,pI i,pI i]) (Fi r (t1.add (fq r i i (r.body.getD i co).jB)) (nh (r.body.getD i co).bC) i i (by show(t1.ws++_).length+_<=_;rw[Pp,ke];omega)) ⟨.refl _,vK _,.refl _,.refl _,ac⟩) Z Z Z Z Z Z Z (by first|rfl|(rw[Pp];rfl)|simp) (by first|rfl|(rw[PH];rfl)|(simp only[PH,PK];rfl)) Z Z Z Z Z Z ?_);refine gA Z ?_;refine aJ 0 (r.body.getD i co).ar.length (PC _) (fun k=>⟨[(0,.iv (cG p)),(1,.iv (cq r)),(5,.ptr 2 0),(6,pI i),(31,.iv (lits r.body)),(32,pI r.body.length),(33,pI i),(79,.iv (lits (r.body.getD i co).ar)),(80,pI (r.body.getD i co).ar.length),(81,pI k)],[(2,io (TS.cell r 0 10 (oi p r i V (r.body.getD i co).ar k).ws.length 1)),(0,io (nq (oi p r i V (r.body.getD i co).ar k).up)),(10,io (aF 5 (oi p r i V (r.body.getD i co).ar k).ws Want.c)),(1,io (nB (oi p r i V (r.body.getD i co).ar k).kind))],11⟩) (fun _=>True) _ ac
    (IT I.symm Z Z Z Z Z Z Z Z Z Z (bi (bi (bi (bi (bi (bi (bi ⟨.iv (mq _),rfl,bi (bi trivial)⟩)))))))) fun k hk _=>?_
   have C:=s6 p r i V (r.body.getD i co).ar k hk;have u:=yo p r i A (r.body.getD i co).ar k;have D:oi p r i V (r.body.getD i co).ar (k+1)=nj p r i i (oi p r i V (r.body.getD i co).ar k) ((r.body.getD i co).ar.getD k co):=rfl;refine zJ Z Z (fun j=>?_) fun j=>?_
   .have j:k<(r.body.getD i co).ar.length:=zN j;have G:=gZ (r.body.getD i co).ar k j;refine gA Z (Bi (d91 p r (oi p r i V (r.body.getD i co).ar k) ((r.body.getD i co).ar.getD k co) i i u (by omega)) ?_);refine gA Z ⟨j,ac,_,nL (rfl)⟩
   .have j:(r.body.getD i co).ar.length<=k:=zG j;have x:k=(r.body.getD i co).ar.length:=by omega
    subst x;refine gA Z ⟨h1,ac,_,nL (hs.symm)⟩
  have f2: ¬(r.body.getD i co).dT=2:=zF f2;rw[be f2]at J;refine zJ Z Z (fun f1=>?_) fun f1=>?_
  .have f1:(r.body.getD i co).dT=1:=zT f1;have I:V=t1.add (fq r i i (nh (r.body.getD i co).bC)):=by rw[J,am f1]
   refine gA Z (Bi (bF.le (aa:=[.ptr 0 0,FY (r.body.getD i co).bC,pI i,pI i]) (Fi r t1 (nh (r.body.getD i co).bC) i i (by rw[ke];omega)) ⟨.refl _,vK _,.refl _,.refl _,ac⟩) ?_);refine gA Z ?_;refine aJ 0 (r.body.getD i co).ar.length (PC _) (fun k=>⟨[(0,.iv (cG p)),(1,.iv (cq r)),(5,.ptr 2 0),(6,pI i),(31,.iv (lits r.body)),(32,pI r.body.length),(33,pI i),(79,.iv (lits (r.body.getD i co).ar)),(80,pI (r.body.getD i co).ar.length),(81,pI k)],[(2,io (TS.cell r 0 9 (oi p r i V (r.body.getD i co).ar k).ws.length 1)),(0,io (nq (oi p r i V (r.body.getD i co).ar k).up)),(9,io (aF 5 (oi p r i V (r.body.getD i co).ar k).ws Want.c)),(1,io (nB (oi p r i V (r.body.getD i co).ar k).kind))],10⟩) (fun _=>True) _ ac
    (IT I.symm Z Z Z Z Z Z Z Z Z Z (bi (bi (bi (bi (bi (bi (bi ⟨.iv (mq _),rfl,bi (bi trivial)⟩)))))))) fun k hk _=>?_
   have C:=s6 p r i V (r.body.getD i co).ar k hk;have u:=yo p r i A (r.body.getD i co).ar k;have D:oi p r i V (r.body.getD i co).ar (k+1)=nj p r i i (oi p r i V (r.body.getD i co).ar k) ((r.body.getD i co).ar.getD k co):=rfl;refine zJ Z Z (fun j=>?_) fun j=>?_
   .have j:k<(r.body.getD i co).ar.length:=zN j;have G:=gZ (r.body.getD i co).ar k j;refine gA Z (Bi (d91 p r (oi p r i V (r.body.getD i co).ar k) ((r.body.getD i co).ar.getD k co) i i u (by omega)) ?_);refine gA Z ⟨j,ac,_,nL (rfl)⟩
   .have j:(r.body.getD i co).ar.length<=k:=zG j;have x:k=(r.body.getD i co).ar.length:=by omega
    subst x;refine gA Z ⟨h1,ac,_,nL (hs.symm)⟩
  .have f1: ¬(r.body.getD i co).dT=1:=zF f1;have I:V=gU r i i t1 (nh (r.body.getD i co).bC) (r.body.getD i co).jB:=by rw[J,be f1]
   refine gA Z (Bi (bF.le (aa:=[.ptr 0 0,FY (r.body.getD i co).bC,ag (r.body.getD i co).jB.c,pI i,pI i]) (d93 r t1 (nh (r.body.getD i co).bC) (r.body.getD i co).jB i i hok (by rw[ke];omega)) ⟨.refl _,vK _,.refl _,.refl _,.refl _,ac⟩) ?_);refine gA Z ?_;refine aJ 0 (r.body.getD i co).ar.length (PC _) (fun k=>⟨[(0,.iv (cG p)),(1,.iv (cq r)),(5,.ptr 2 0),(6,pI i),(31,.iv (lits r.body)),(32,pI r.body.length),(33,pI i),(79,.iv (lits (r.body.getD i co).ar)),(80,pI (r.body.getD i co).ar.length),(81,pI k)],[(2,io (TS.cell r 0 9 (oi p r i V (r.body.getD i co).ar k).ws.length 1)),(0,io (nq (oi p r i V (r.body.getD i co).ar k).up)),(9,io (aF 5 (oi p r i V (r.body.getD i co).ar k).ws Want.c)),(1,io (nB (oi p r i V (r.body.getD i co).ar k).kind))],10⟩) (fun _=>True) _ ac
    (IT I.symm Z Z Z Z Z Z Z Z Z Z (bi (bi (bi (bi (bi (bi (bi ⟨.iv (mq _),rfl,bi (bi trivial)⟩)))))))) fun k hk _=>?_
   have C:=s6 p r i V (r.body.getD i co).ar k hk;have u:=yo p r i A (r.body.getD i co).ar k;have D:oi p r i V (r.body.getD i co).ar (k+1)=nj p r i i (oi p r i V (r.body.getD i co).ar k) ((r.body.getD i co).ar.getD k co):=rfl;refine zJ Z Z (fun j=>?_) fun j=>?_
   .have j:k<(r.body.getD i co).ar.length:=zN j;have G:=gZ (r.body.getD i co).ar k j;refine gA Z (Bi (d91 p r (oi p r i V (r.body.getD i co).ar k) ((r.body.getD i co).ar.getD k co) i i u (by omega)) ?_);refine gA Z ⟨j,ac,_,nL (rfl)⟩
   .have j:(r.body.getD i co).ar.length<=k:=zG j;have x:k=(r.body.getD i co).ar.length:=by omega
    subst x;refine gA Z ⟨h1,ac,_,nL (hs.symm)⟩
 .have h1:r.body.length<=i:=by simpa using h1
  have b0:i=r.body.length:=by omega
  subst b0;have hT:lV p r=⟨(dW p r r.body.length).up,(dW p r r.body.length).ws,(dW p r r.body.length).ws.foldl (cA (dW p r r.body.length).up) []⟩:=rfl;rw[hT];rw[Rp]at d0;have c0:(dW p r r.body.length).kind=[]:=vA p r _;generalize dW p r r.body.length=t1 at*
  have R:t1.kind=(t1.ws.take 0).foldl (cA t1.up) []:=c0;refine gA Z ?_;refine rI 5 (fun k=>Want.c (t1.ws.getD k co)) Z (gj Z) (by simp[AF.q9,PV.da,mL]) ⟨(by simp[AO.q9,dQ,PV.da]),ac,xA _ _ _ _ _ _,ac,ac⟩ ?_
  refine aJ 0 t1.ws.length (PC _) (fun i=>⟨[(5,.ptr 2 0),(96,.iv (bu 5 t1.ws Want.c)),(97,pI t1.ws.length),(98,pI i)],
   [(2,io (.cells [.iv (cq r),.mp 0,.iv (bu 5 t1.ws Want.c),.mp 1])),(0,io (nq t1.up)),(1,io (nB ((t1.ws.take i).foldl (cA t1.up) [])))],6⟩) (fun _=>True) [] ac
   (zM (bi ⟨.cB Z (fun k _=>by rw[PT]),rfl,bi (bi trivial)⟩) ⟨⟨_,rfl,.cells ⟨.refl _,.refl _,.cB Z (fun k _=>by rw[PT]),.refl _,ac⟩⟩,Pj Z,rfl,zC (hM Z R Z trivial)⟩) fun i hi _=>?_
  refine zJ Z Z (fun j=>?_) fun j=>?_
  .have j:i<t1.ws.length:=zN j;have y:=gQ (g:=cA t1.up) (b:=[]) j;refine gA Z (zq [2,0,1] (OP r t1.up ((t1.ws.take i).foldl (cA t1.up) []) (bu 5 t1.ws Want.c) (t1.ws.getD i co).at_ hok) ?_);refine zJ Z Z (fun g1=>?_) fun g1=>?_
   .have g1:(t1.ws.getD i co).has=0:=zT g1;refine zJ Z Z (fun g2=>?_) fun g2=>?_
    .have g2:dw (.si .i64) ((t1.ws.take i).foldl (cA t1.up) []) (bJ t1.up (t1.ws.getD i co).at_) 0=0:=zT g2;have hk:cA t1.up ((t1.ws.take i).foldl (cA t1.up) []) (t1.ws.getD i co)=cD (.si .i64) ((t1.ws.take i).foldl (cA t1.up) []) (bJ t1.up (t1.ws.getD i co).at_) (t1.ws.getD i co).kind:=am ⟨g1,g2⟩;rw[hk]at y;refine gA Z ⟨j,ac,[],zW (zO (zC (hM Z (by first|exact y.symm|(rw[y];rfl)) Z ac)))⟩
    .have g2: ¬dw (.si .i64) ((t1.ws.take i).foldl (cA t1.up) []) (bJ t1.up (t1.ws.getD i co).at_) 0=0:=zF g2;have hk:cA t1.up ((t1.ws.take i).foldl (cA t1.up) []) (t1.ws.getD i co)=(t1.ws.take i).foldl (cA t1.up) []:=be fun h=>g2 h.2;rw[hk]at y;refine gA Z ⟨j,ac,[],zW (zO (zC (hM Z (by first|exact y.symm|(rw[y];rfl)) Z ac)))⟩
   .have g1: ¬(t1.ws.getD i co).has=0:=zF g1;have hk:cA t1.up ((t1.ws.take i).foldl (cA t1.up) []) (t1.ws.getD i co)=(t1.ws.take i).foldl (cA t1.up) []:=be fun h=>g1 h.1;rw[hk]at y;refine gA Z ⟨j,ac,[],zW (zO (zC (hM Z (by first|exact y.symm|(rw[y];rfl)) Z ac)))⟩
  .have j:t1.ws.length<=i:=zG j;have e0:t1.ws.take i=t1.ws:=PJ j;refine fk Z ac (lx (.inr Z) Z (.map 0 Z (.map 1 Z (.cells 2 _ Z (show _=List.map PV.iv [cq r,upI t1.up,bu 5 t1.ws Want.c,kdI (t1.ws.foldl (cA t1.up) [])] by rw[e0];rfl) (.done (.of_eq Z))))))
def rQ(a:Atom):Bool:=(jr WS.o a).bad
def p4(l:Lit):Bool:=(dB l.size l WS.o).bad
def rW(l:Lit):Bool:=lc (l.kind=4)&&lc ((l.ar.length:Int)>12)
def gH(n:Nat):List Int:=(PY (n+1)).map fun k:Nat=>(k:Int)-1
theorem p3(n:Nat):(gH n).length=n+1:=by simp[gH]
theorem u6(n k:Nat)(h:k<n+1):(gH n).getD k co=(k:Int)-1:=by simp[gH,h]
def zZ(f:Int->Bool)(n:Nat):Option Int:=(gH n).find? f
abbrev fi:=Int×Pos
def fi.c(d:fi):List IV:=[iI d.1,iI d.2.line,iI d.2.FT]
def mj(r:aw)(e:Int)(f:Int->Bool)(k:fi):fi:=match zZ f r.body.length with
 |some lit=>(e,pU r lit)
 |none=>k
def wx(p:Prog)(r:aw):fi:=
 mj r 61 (fun lit=>(eD r lit).any fun x=>tM p x)<|mj r 62 (fun lit=>(eD r lit).any fun x=>wT p x)<|mj r 65 (kQ r)<|mj r 63 (pD (lV p r))<|mj r 64 (jY r) (0,⟨0,0⟩)
def uJ(p:Prog)(r:aw)(n:Int):fi:=
 if rQ r.head=jp then(1,r.at_) else match r.body.find? p4 with
 |some l=>(1,l.at)
 |none=>if n>256∨(r.body.length:Int)>12 then(66,r.at_) else if(DC r:Int)>24 then(66,r.at_) else match r.body.find? rW with
  |some l=>(66,l.at)
  |none=>wx p r
def aw.fit(r:aw):Prop:=r.size<=10000000∧r.head.ts<=900000000∧ ∀l∈r.body,l.ts<=900000000
theorem kJ{α:Type}{p:α->Bool}{l:List α}(h:l.any p=kw):l.find? p=is:=by
 rw[Rx];intro x b;have:=Qm.1 h x b;simpa using this
theorem mA{α:Type}[Inhabited α]{p:α->Bool}{l:List α}{i:Nat}(h:(l.take i).any p=kw)(hi:i<l.length)(hp:p (l.getD i co)=jp):l.find? p=io (l.getD i co):=by
 have b:l.getD i co=l[i]:=by simp[hi]
 rw[b]at hp ⊢;rw[List.find?_eq_some_iff_getElem];refine⟨hp,i,hi,rfl,fun j u=>?_⟩;have:=Qm.1 h l[j] (SD.2 ⟨j,by rw[Qc,am u,Po (by omega)]⟩);simpa using this
def ie(p:Prog)(r:aw):List (List PV):=[[pI 61,.b7 (.func 122) [] [.ptr 1 0,.ptr 0 0]],[pI 62,.b7 (.func 126) [] [.ptr 1 0,.ptr 0 0]],[pI 65,.b7 (.func 128) [] [.ptr 1 0]],[pI 63,.b7 (.func 131) [.iv (KT r (lV p r))] []],[pI 64,.b7 (.func 132) [.iv (cq r)] []]]
theorem cj(p:Prog)(r:aw)(n:Nat)(h:PL 1 n=jp):(AO.row 2 (ie p r)).low n:=by
 have b:PL 0 n=jp:=Qj (by have:=Pj h;omega);intro k e hk
 match k,hk with
 |0,hk=>cases hk;simp[bj,PV.low,h,b]
 |1,hk=>cases hk;simp[bj,PV.low,h,b]
 |2,hk=>cases hk;simp[bj,PV.low,h,b]
 |3,hk=>cases hk;simp[bj,PV.low,h,b]
 |4,hk=>cases hk;simp[bj,PV.low,h,b]
 |k+5,hk=>simp[ie]at hk
theorem mh{r:aw}{e:Int}{f:Int->Bool}{k:fi}{i:Nat}(b:((gH r.body.length).take i).any f=kw)(hi:i<r.body.length+1)(h:f ((i:Int)-1)=jp):mj r e f k=(e,pU r ((i:Int)-1)):=by
 have h1:=u6 r.body.length i hi;have:=mA b (by rw[p3];exact hi) (by rw[h1];exact h);rw[h1]at this;rw[mj,zZ,this]
theorem kz{r:aw}{e:Int}{f:Int->Bool}{k:fi}{i:Nat}(b:((gH r.body.length).take i).any f=kw)(hi:r.body.length+1<=i):mj r e f k=k:=by
 rw[PJ (by rw[p3];exact hi)]at b;rw[mj,zZ,kJ b]
theorem ky{r:aw}{f:Int->Bool}{i:Nat}(b:((gH r.body.length).take i).any f=kw)(hi:i<r.body.length+1)(h:f ((i:Int)-1)=kw):((gH r.body.length).take (i+1)).any f=kw:=by
 refine(cM b (by rw[p3];exact hi)).2 ?_;rw[u6 _ _ hi];exact h
set_option maxHeartbeats 4000000 in
theorem c65(p:Prog)(r:aw)(n:Int)(hb:r.fit):Pure prog 83 [.iv (cG p),ag r.c,pI n] (ag (uJ p r n).c):=by
 obtain⟨hb,G,I⟩:=hb;have b0:r.size=r.head.aj.length+Lit.aB r.body:=rfl;have R:=Lit.aG r.body;refine ah ab func83 Z (by decide) ntmps83 Z (by simp) Z ?_;refine gA Z (zp (c61 r.head G) ?_);refine zJ Z Z (fun g1=>?_) fun g1=>?_
 .have g1:rQ r.head=jp:=by
   cases h:rQ r.head with
   |true=>rfl
   |false=>
    have h:(jr WS.o r.head).bad=kw:=h;rw[h]at g1;simp at g1
  rw[uJ,am g1];exact zU Z
 have g1: ¬rQ r.head=jp:=by
  intro h;have h:(jr WS.o r.head).bad=jp:=h;rw[h]at g1;simp at g1
 rw[uJ,be g1];refine gA Z ?_;refine aJ 0 r.body.length (PC _) (fun i=>⟨[(2,pI n),(3,.ptr 0 0),(4,.ptr 1 0),(6,.ptr 2 0),(32,.iv (lits r.body)),(33,pI r.body.length),(34,pI i)],[(0,io (.cells [.iv (cG p)])),(1,io (az r.c)),(2,io (.cells [pI 0,pI 0,pI 0]))],3⟩) (fun i=>(r.body.take i).any p4=kw) [] (by simp)
  (zW ⟨⟨_,rfl,.of_eq Z⟩,Pj Z,rfl,⟨_,rfl,.of_eq Z⟩,Pj Z,rfl,⟨_,rfl,.of_eq Z⟩,Pj Z,rfl,ac⟩) fun i Y u=>?_
 refine zJ Z Z (fun h1=>?_) fun h1=>?_
 .have h1:i<r.body.length:=zN h1;have D:=cM u h1;have hm:r.body.getD i co∈r.body:=by rw[Pn,Po h1];exact P7 h1
  have a0:=Lit.bU r.body i h1;refine gA Z (aC (Pa (r.body.getD i co) (I _ hm) (by omega)) Z Z Z Z Z Z ?_);refine zJ Z Z (fun A=>?_) fun A=>?_
  .have A:p4 (r.body.getD i co)=jp:=by
    cases h:p4 (r.body.getD i co) with
    |true=>rfl
    |false=>
     have h:(dB (r.body.getD i co).size (r.body.getD i co) WS.o).bad=kw:=h;have g:(!lc ((if(dB (r.body.getD i co).size (r.body.getD i co) WS.o).bad=jp then(50:Int) else 0)=0))=jp:=A;rw[h]at g;simp at g
   rw[mA u h1 A];exact zU Z
  .have A:p4 (r.body.getD i co)=kw:=by
    cases h:p4 (r.body.getD i co) with
    |false=>rfl
    |true=>
     have h:(dB (r.body.getD i co).size (r.body.getD i co) WS.o).bad=jp:=h;have g:(!lc ((if(dB (r.body.getD i co).size (r.body.getD i co) WS.o).bad=jp then(50:Int) else 0)=0))=kw:=A;rw[h]at g;simp at g
   refine gA Z ⟨h1,D.2 A,[],zW ⟨⟨_,rfl,.of_eq Z⟩,Pj Z,rfl,⟨_,rfl,.of_eq Z⟩,Pj Z,rfl,⟨_,rfl,.of_eq Z⟩,Pj Z,rfl,ac⟩⟩
 have h1:r.body.length<=i:=zG h1;rw[PJ h1]at u;rw[kJ u];refine zE Z Z (fun g2=>?_) fun g2=>?_
 .have g2:n>256:=by simpa using g2
  rw[am (.inl g2)];exact zU Z
 have g2: ¬n>256:=zF g2;refine zJ Z Z (fun g3=>?_) fun g3=>?_
 .rw[am (.inr (zT g3))];exact zU Z
 have g3: ¬(r.body.length:Int)>12:=zF g3;rw[be (by rintro(h|h);exact g2 h;exact g3 h)];refine gA Z (zp (c48 r (by omega)) ?_);refine gA Z (zp (O9 r (by omega)) ?_);refine zJ Z Z (fun g4=>?_) fun g4=>?_
 .rw[am (zT g4)];exact zU Z
 have g4: ¬(DC r:Int)>24:=zF g4;rw[be g4];refine gA Z ?_;refine aJ 0 r.body.length (PC _) (fun i=>⟨[(3,.ptr 0 0),(4,.ptr 1 0),(6,.ptr 2 0),(13,.iv (cq r)),(69,.iv (lits r.body)),(70,pI r.body.length),(71,pI i)],[(0,io (.cells [.iv (cG p)])),(1,io (az r.c)),(2,io (.cells [pI 0,pI 0,pI 0]))],3⟩) (fun i=>(r.body.take i).any rW=kw) [] (by simp)
  (zW ⟨⟨_,rfl,.of_eq Z⟩,Pj Z,rfl,⟨_,rfl,.of_eq Z⟩,Pj Z,rfl,⟨_,rfl,.of_eq Z⟩,Pj Z,rfl,ac⟩) fun i Y u=>?_
 refine zJ Z Z (fun A=>?_) fun A=>?_
 .have A:i<r.body.length:=zN A;have D:=cM u A;refine zJ Z Z (fun B=>?_) fun B=>?_
  .have B:(r.body.getD i co).kind=4:=zT B;refine zJ Z Z (fun C=>?_) fun C=>?_
   .have C:rW (r.body.getD i co)=jp:=by rw[rW,decide_eq_true B];exact C
    rw[mA u A C];exact zU Z
   .have C:rW (r.body.getD i co)=kw:=by rw[rW,decide_eq_true B];exact C
    refine gA Z ⟨A,D.2 C,[],zW ⟨⟨_,rfl,.of_eq Z⟩,Pj Z,rfl,⟨_,rfl,.of_eq Z⟩,Pj Z,rfl,⟨_,rfl,.of_eq Z⟩,Pj Z,rfl,ac⟩⟩
  .have B: ¬(r.body.getD i co).kind=4:=zF (by have g:lc ((r.body.getD i co).kind=4)=kw:=B;exact g);refine gA Z ⟨A,D.2 (by rw[rW,decide_eq_false B];rfl),[],zW ⟨⟨_,rfl,.of_eq Z⟩,Pj Z,rfl,⟨_,rfl,.of_eq Z⟩,Pj Z,rfl,⟨_,rfl,.of_eq Z⟩,Pj Z,rfl,ac⟩⟩
 have A:r.body.length<=i:=zG A;rw[PJ A]at u;rw[kJ u];refine gA Z (zp (c49 p r (by omega)) ?_);refine gA Z ?_;refine ae [] (t:=⟨[(3,.ptr 0 0),(4,.ptr 1 0),(6,.ptr 2 0),(104,.sl 3 0 5 2),(105,pI 5),(106,pI 0)],[(0,io (.cells [.iv (cG p)])),(1,io (az r.c)),(2,io (.cells [pI 0,pI 0,pI 0])),(3,io (.row 2 (ie p r)))],4⟩)
  (zW (zO (zO (zO ⟨⟨_,rfl,.of_eq Z⟩,Pj Z,cj p r _ Z,ac⟩)))) ?_
 have J:(lV p r).ws.length<=1000000000000:=by have:=tz p r r.body.length (Pv _);rw[Rp]at this;show(dW p r r.body.length).ws.length<=_;omega
 rw[wx];refine om (n:=6) ?_;refine zE Z Z (fun q=>?_) fun q=>?_
 .exact absurd (show jp=kw from q) (by decide)
 refine gA Z ?_;refine aJ 0 (r.body.length+1) (PC _) (fun k=>⟨[(3,.ptr 0 0),(4,.ptr 1 0),(6,.ptr 2 0),(18,.ptr 4 0),(19,pI ((k:Int)-1)),(104,.sl 3 0 5 2),(105,pI 5),(106,pI 0)],[(0,io (.cells [.iv (cG p)])),(1,io (az r.c)),(2,io (.cells [pI 0,pI 0,pI 0])),(3,io (.row 2 (ie p r))),(4,io (.cells [pI 61,.b7 (.func 122) [] [.ptr 1 0,.ptr 0 0]]))],5⟩) (fun k=>((gH r.body.length).take k).any (fun lit=>(eD r lit).any fun x=>tM p x)=kw) [] Z
  (zW (zO (zO (zO ⟨⟨_,rfl,.of_eq Z⟩,Pj Z,cj p r _ Z,(zO trivial)⟩)))) fun k hk u=>?_
 refine zJ Z Z (fun j=>?_) fun j=>?_
 .have j:(k:Int)-1<r.body.length:=zT j;have b:k<r.body.length+1:=by omega
  refine gA Z (zq [1,0] (d110 p r ((k:Int)-1) (by omega) (by omega)) ?_);refine zJ Z Z (fun y=>?_) fun y=>?_
  .rw[mh u b y];refine gA Z (Ak (FA r ((k:Int)-1) j) ?_);exact zU Z
  .refine gA Z ?_;exact⟨b,ky u b y,[],zM (bi (bi (bi (bi ⟨.of_eq (C8 (by omega)),rfl,bi (bi (bi ac))⟩)))) (zO (zO (zO ⟨⟨_,rfl,.of_eq Z⟩,Pj Z,cj p r _ Z,(zO ac)⟩)))⟩
 have j: ¬(k:Int)-1<r.body.length:=zF j;rw[kz u (by omega)];clear u hk j;refine zE Z Z (fun q=>?_) fun q=>?_
 .exact absurd (show jp=kw from q) (by decide)
 refine gA Z ?_;refine aJ 0 (r.body.length+1) (PC _) (fun k=>⟨[(3,.ptr 0 0),(4,.ptr 1 0),(6,.ptr 2 0),(18,.ptr 5 0),(19,pI ((k:Int)-1)),(104,.sl 3 0 5 2),(105,pI 5),(106,pI 1)],[(0,io (.cells [.iv (cG p)])),(1,io (az r.c)),(2,io (.cells [pI 0,pI 0,pI 0])),(3,io (.row 2 (ie p r))),(5,io (.cells [pI 62,.b7 (.func 126) [] [.ptr 1 0,.ptr 0 0]]))],6⟩) (fun k=>((gH r.body.length).take k).any (fun lit=>(eD r lit).any fun x=>wT p x)=kw) [] Z
  (zW (zO (zO (zO ⟨⟨_,rfl,.of_eq Z⟩,Pj Z,cj p r _ Z,(zO trivial)⟩)))) fun k hk u=>?_
 refine zJ Z Z (fun j=>?_) fun j=>?_
 .have j:(k:Int)-1<r.body.length:=zT j;have b:k<r.body.length+1:=by omega
  refine gA Z (zq [1,0] (d114 p r ((k:Int)-1) (by omega) (by omega)) ?_);refine zJ Z Z (fun y=>?_) fun y=>?_
  .rw[mh u b y];refine gA Z (Ak (FA r ((k:Int)-1) j) ?_);exact zU Z
  .refine gA Z ?_;exact⟨b,ky u b y,[],zM (bi (bi (bi (bi ⟨.of_eq (C8 (by omega)),rfl,bi (bi (bi ac))⟩)))) (zO (zO (zO ⟨⟨_,rfl,.of_eq Z⟩,Pj Z,cj p r _ Z,(zO ac)⟩)))⟩
 have j: ¬(k:Int)-1<r.body.length:=zF j;rw[kz u (by omega)];clear u hk j;refine zE Z Z (fun q=>?_) fun q=>?_
 .exact absurd (show jp=kw from q) (by decide)
 refine gA Z ?_;refine aJ 0 (r.body.length+1) (PC _) (fun k=>⟨[(3,.ptr 0 0),(4,.ptr 1 0),(6,.ptr 2 0),(18,.ptr 6 0),(19,pI ((k:Int)-1)),(104,.sl 3 0 5 2),(105,pI 5),(106,pI 2)],[(0,io (.cells [.iv (cG p)])),(1,io (az r.c)),(2,io (.cells [pI 0,pI 0,pI 0])),(3,io (.row 2 (ie p r))),(6,io (.cells [pI 65,.b7 (.func 128) [] [.ptr 1 0]]))],7⟩) (fun k=>((gH r.body.length).take k).any (kQ r)=kw) [] Z
  (zW (zO (zO (zO ⟨⟨_,rfl,.of_eq Z⟩,Pj Z,cj p r _ Z,(zO trivial)⟩)))) fun k hk u=>?_
 refine zJ Z Z (fun j=>?_) fun j=>?_
 .have j:(k:Int)-1<r.body.length:=zT j;have b:k<r.body.length+1:=by omega
  refine gA Z (zq [1] (d116 r ((k:Int)-1) (by omega) (by omega)) ?_);refine zJ Z Z (fun y=>?_) fun y=>?_
  .rw[mh u b y];refine gA Z (Ak (FA r ((k:Int)-1) j) ?_);exact zU Z
  .refine gA Z ?_;exact⟨b,ky u b y,[],zM (bi (bi (bi (bi ⟨.of_eq (C8 (by omega)),rfl,bi (bi (bi ac))⟩)))) (zO (zO (zO ⟨⟨_,rfl,.of_eq Z⟩,Pj Z,cj p r _ Z,(zO ac)⟩)))⟩
 have j: ¬(k:Int)-1<r.body.length:=zF j;rw[kz u (by omega)];clear u hk j;refine zE Z Z (fun q=>?_) fun q=>?_
 .exact absurd (show jp=kw from q) (by decide)
 refine gA Z ?_;refine aJ 0 (r.body.length+1) (PC _) (fun k=>⟨[(3,.ptr 0 0),(4,.ptr 1 0),(6,.ptr 2 0),(18,.ptr 7 0),(19,pI ((k:Int)-1)),(104,.sl 3 0 5 2),(105,pI 5),(106,pI 3)],[(0,io (.cells [.iv (cG p)])),(1,io (az r.c)),(2,io (.cells [pI 0,pI 0,pI 0])),(3,io (.row 2 (ie p r))),(7,io (.cells [pI 63,.b7 (.func 131) [.iv (KT r (lV p r))] []]))],8⟩) (fun k=>((gH r.body.length).take k).any (pD (lV p r))=kw) [] Z
  (zW (zO (zO (zO ⟨⟨_,rfl,.of_eq Z⟩,Pj Z,cj p r _ Z,(zO trivial)⟩)))) fun k hk u=>?_
 refine zJ Z Z (fun j=>?_) fun j=>?_
 .have j:(k:Int)-1<r.body.length:=zT j;have b:k<r.body.length+1:=by omega
  refine gA Z (aC (O7 r (lV p r) ((k:Int)-1) (wQ p r _) J) Z Z Z Z Z Z ?_);refine zJ Z Z (fun y=>?_) fun y=>?_
  .rw[mh u b y];refine gA Z (Ak (FA r ((k:Int)-1) j) ?_);exact zU Z
  .refine gA Z ?_;exact⟨b,ky u b y,[],zM (bi (bi (bi (bi ⟨.of_eq (C8 (by omega)),rfl,bi (bi (bi ac))⟩)))) (zO (zO (zO ⟨⟨_,rfl,.of_eq Z⟩,Pj Z,cj p r _ Z,(zO ac)⟩)))⟩
 have j: ¬(k:Int)-1<r.body.length:=zF j;rw[kz u (by omega)];clear u hk j;refine zE Z Z (fun q=>?_) fun q=>?_
 .exact absurd (show jp=kw from q) (by decide)
 refine gA Z ?_;refine aJ 0 (r.body.length+1) (PC _) (fun k=>⟨[(3,.ptr 0 0),(4,.ptr 1 0),(6,.ptr 2 0),(18,.ptr 8 0),(19,pI ((k:Int)-1)),(104,.sl 3 0 5 2),(105,pI 5),(106,pI 4)],[(0,io (.cells [.iv (cG p)])),(1,io (az r.c)),(2,io (.cells [pI 0,pI 0,pI 0])),(3,io (.row 2 (ie p r))),(8,io (.cells [pI 64,.b7 (.func 132) [.iv (cq r)] []]))],9⟩) (fun k=>((gH r.body.length).take k).any (jY r)=kw) [] Z
  (zW (zO (zO (zO ⟨⟨_,rfl,.of_eq Z⟩,Pj Z,cj p r _ Z,(zO trivial)⟩)))) fun k hk u=>?_
 refine zJ Z Z (fun j=>?_) fun j=>?_
 .have j:(k:Int)-1<r.body.length:=zT j;have b:k<r.body.length+1:=by omega
  refine gA Z (zp (O6 r ((k:Int)-1) (by omega) (by omega)) ?_);refine zJ Z Z (fun y=>?_) fun y=>?_
  .rw[mh u b y];refine gA Z (Ak (FA r ((k:Int)-1) j) ?_);exact zU Z
  .refine gA Z ?_;exact⟨b,ky u b y,[],zM (bi (bi (bi (bi ⟨.of_eq (C8 (by omega)),rfl,bi (bi (bi ac))⟩)))) (zO (zO (zO ⟨⟨_,rfl,.of_eq Z⟩,Pj Z,cj p r _ Z,(zO ac)⟩)))⟩
 have j: ¬(k:Int)-1<r.body.length:=zF j;rw[kz u (by omega)];clear u hk j;refine zJ Z Z (fun q=>?_) fun q=>?_
 .exact absurd (show kw=jp from q) (by decide)
 exact zU Z
end Go.Proofs.YtllkaddcplhklaaGreatDoor
