/-
  What the proofs of the claims need: part 3 of 5.
-/
import Derived.Test.YtllkaddcplhklaaGreatDoorPart2
import Derived.Sort.EncStr
import Derived.Sort.Grow
import Derived.Sort.Walk0
import Derived.Shelf.Sort.Plain
import Derived.Shelf.Slices.In.SortNone
import Derived.Shelf.Slices.In.SortNone2
import Derived.WalkKit
import Derived.Lib.Builder
import Derived.Lib.UnsafeStr
import Derived.Laws.Externs
import Derived.Shelf.RegionOpenPlain
import Derived.KernelRfl
import Derived.Test.YtllkaddcplhklaaGreatDoorProg
import Derived.Laws.RangeString
import Derived.Shelf.LaysM
import Derived.Shelf.Strconv.Itoa3
import Derived.Lib.ItoaLen
open And renaming intro→Pm
open Array renaming eq_empty_of_size_eq_zero→Qw,getD_eq_getD_getElem?→Pg,getElem?_append_left→P1,getElem?_eq_getElem→PR,getElem?_eq_some_iff→Qr,getElem?_modify→PZ,getElem?_setIfInBounds→PM
open Bool renaming and_eq_true→Qc,and_false→RV,eq_false_iff→RR,eq_iff_iff→QJ,false_and→Q5,false_eq_true→Q7,false_or→Rm,not_eq_false'→Q8,not_eq_true'→Qp,not_false→Sh,not_true→RO,or_eq_true→Ry,true_and→RP,true_or→Sg
open ByteArray renaming empty→Pq,size→SF
open Classical renaming byContradiction→QK
open Int renaming ofNat_eq_zero→SO,toNat_natCast→Po
open List.Nodup renaming length_le_of_subset→Qx
open List.Pairwise renaming nil→R7
open List renaming all_cons→Sq,all_eq_true→P4,any_cons→SJ,any_eq_false→Qk,any_eq_true→Qz,append_assoc→PH,append_nil→Qm,cons_append→QN,ext_getElem?→RC,filterMap_append→Sy,filterMap_cons→SH,filter_cons→Ra,filter_eq_self→R2,find?_eq_none→Rv,findIdx?_eq_none_iff→Sj,findIdx?_eq_some_iff_getElem→R6,flatMap_cons→Qs,foldl_cons→Qd,getD_cons_succ→QI,getD_cons_zero→Rs,getD_eq_getElem?_getD→Pk,getElem?_eq_getElem→Pl,getElem?_eq_some_iff→Pj,getElem?_map→Pp,getElem?_of_mem→P9,getElem?_take→P8,getElem_map→Q3,getElem_mem→P3,le_antisymm→Ss,length_append→Pn,length_cons→PX,length_filter_le→QH,length_map→PS,length_nil→Q6,length_pos_iff→Qv,length_singleton→Qn,length_take→Qy,map_append→PF,map_cons→Py,map_map→PQ,map_nil→Qb,mem_append→PG,mem_append_left→P2,mem_append_right→Q4,mem_cons→Px,mem_cons_of_mem→Pu,mem_cons_self→Pv,mem_filter→PU,mem_flatMap→Sd,mem_iff_getElem?→Sz,mem_map→PW,mem_of_getElem?→PY,mem_range→QM,mem_singleton→Pw,nil_append→Rc,nodup_append→QS,nodup_cons→P0,nodup_nil→P6,not_lt→SZ,not_mem_nil→Sc,pairwise_cons→P5,pairwise_map→RT,pairwise_singleton→RG,perm_ext_iff_of_nodup→QX,range→PT,sum_cons→Qq,take_append_drop→RQ,take_length→Rk,take_of_length_le→Pz,take_succ_cons→QQ
open Nat renaming add_assoc→QY,add_zero→Rl,beq→PJ,ble→Rw,ble_eq_true_of_le→Qh,blt→PI,le_add_left→R4,le_add_right→Sb,le_of_ble_eq_true→Pf,le_refl→Ps,le_succ→QO,le_trans→Qa,lt_or_ge→Ql,lt_succ_of_lt→QR,lt_succ_self→Q9,min_le_right→SS,mul_one→Sm,sub_zero→RX,zero_add→PO,zero_le→PA
open Option renaming bind_some→RF,getD_some→Qf,map_eq_some_iff→Pr,map_some→Qt
open Option.some renaming injEq→Ph
set_option maxRecDepth 100000
open Bool renaming false→kw,true→jp
open Decidable renaming decide→lc
open Inhabited renaming default→co
open Option renaming none→is,some→io
open Array renaming range→Sk
open Array renaming getElem?_map→RI
open Nat renaming mul_le_mul_right→PL
open Nat renaming add_mul→Qo
open List renaming getElem?_append_right→PB
open Array renaming getElem?_append_right→RS
open Array renaming getElem?_toList→PN
namespace Go.Al
theorem bi{a b:PV}{c:Bool}{X:Prop}(h:X)(h1:a=b:=by rfl)(h2:c=true:=by rfl):ah a b∧c=true∧X:=⟨by subst h1;exact fun _ _ _ _ h=>h,h2,h⟩
theorem bv{i n:Nat}(h:decide ((i:Int)<(n:Int))=true):i<n:=by simpa using h
theorem ci{i n:Nat}(h:decide ((i:Int)<(n:Int))=false):n≤i:=by simpa using h
end Go.Al
namespace Go.Proofs.YtllkaddcplhklaaGreatDoor
open Go Go.Al Go.Proofs.Tryz
def iz(l:Lit):List an:=cH l++if l.kind=4 then[l.bB] else[]
def aC(r:ax):List an:=cF r.head++r.body.flatMap iz
theorem zh(l:Lit):(iz l).length+1<=l.size:=by
 have:=kX l;unfold iz;rw[Pn];split<;>simp<;>omega
theorem l5: ∀l:List Lit,(l.flatMap iz).length<=Lit.aB l
 | []=>by simp
 |e::r=>by
  have h1:=zh e;have b:=l5 r;rw[Qs,Pn];simp only[Lit.aB];omega
theorem wa(r:ax):(aC r).length<=r.size:=by
 have h1:=l5 r.body;have b:=ik r.head;unfold aC ax.size;rw[Pn];omega
def J8(r:ax):List IV:=[iS r.head.rel,bN 5 r.head.ak Term.c,lits r.body,iI r.at_.line,iI r.at_.FP,xW (aD (aC r))]
abbrev ck(r:ax):IV:= .jv (J8 r)
theorem c48(r:ax)(hb:r.size<=1000000000000):Pure prog 120 [ag r.c] (.iv (ck r)):=by
 unfold ax.size at hb;have B:=ik r.head;have A:=Lit.aG r.body;refine ai ab func120 Z (by decide) ntmps120 Z (by simp) Z ?_;refine gA Z (zd [1] (OJ r.head (by omega)) ?_);refine gA Z ?_
 refine aJ 0 r.body.length (PA _) (fun i=>⟨[(3,.ptr 2 0),(18,.iv (lits r.body)),(19,pI r.body.length),(20,pI i)],
   [(1,io (cG (aD (cF r.head++(r.body.take i).flatMap iz)))),(2,io (.cells [pS r.head.rel,.iv (bN 5 r.head.ak Term.c),.iv (lits r.body),pI r.at_.line,pI r.at_.FP,.mp 1]))],3⟩) (fun _=>True) [] ac
  (zW (hM Z (by simp) Z (zO trivial))) fun i G _=>?_
 refine zJ Z Z (fun j=>?_) fun j=>?_
 .have j:i<r.body.length:=by simpa using j
  have hs:=bL (f:=iz) j;have I:=Lit.dw r.body i j;have J:=l5 (r.body.take i);have D:=kX (r.body.getD i co);refine gA Z (bh ab [1] (d89 (r.body.getD i co) _ (by rw[Pn];omega)) Z Z Z Z Z Z Z Z Z Z Z Z (by(repeat' (first|exact ac|exact rfl|exact ah.refl _|exact ah.bk (by assumption)|apply Pm))<;>first|omega|(simp only[Po];omega)|(simp;done)|(simp;omega)) Z (by(repeat' (first|exact ac|exact rfl|exact ah.refl _|exact ah.bk (by assumption)|apply Pm))<;>first|omega|(simp only[Po];omega)|(simp;done)|(simp;omega)) ?_);refine zJ Z Z (fun u=>?_) fun u=>?_
  .have u:(r.body.getD i co).kind=4:=zT u;have b:iz (r.body.getD i co)=cH (r.body.getD i co)++ [(r.body.getD i co).bB]:=by unfold iz;rw[am u]
   rw[b]at hs;have C:=bz (cF r.head++(r.body.take i).flatMap iz++cH (r.body.getD i co)) (r.body.getD i co).bB;have x:=fE (cF r.head++(r.body.take i).flatMap iz++cH (r.body.getD i co)) (r.body.getD i co).bB;rw[Pn,Pn]at x;refine gA Z ⟨j,ac,[],zW (hM Z (by rw[hs,<-PH,<-PH,cY];rfl) Z (zO ac))⟩
  .have u: ¬(r.body.getD i co).kind=4:=zF u;have b:iz (r.body.getD i co)=cH (r.body.getD i co):=by unfold iz;rw[be u,Qm]
   rw[b]at hs;refine gA Z ⟨j,ac,[],zW (hM Z (by rw[hs,<-PH]) Z (zO ac))⟩
 .have j:r.body.length<=i:=by simpa using j
  have y:r.body.take i=r.body:=Pz j;refine fj Z ac (ln (.inr Z) Z (.map 1 Z (.cells 2 _ Z (show _=List.map PV.iv (J8 r) by rw[y];rfl) (.done (.of_eq Z)))))
def aV(occ:List an)(e:Expr):Bool:=(ch e).all fun x=>du occ x
theorem rv{l:List an}{j:Nat}{x:(KC.str).K×Int}(h:(aD l)[j]? =io x):x.1∈l:=
 ((dL l).2 x.1).1 (PW.2 ⟨x,PY h,rfl⟩)
theorem all_keys{l:List an}{vs:List Nat}(h: ∀j,j<(aD l).length->j∈vs){p:an->Prop}(hp: ∀j∈vs,∀x,(aD l)[j]? =io x->p x.1): ∀t∈l,p t:=by
 intro t u;obtain⟨x,y,rfl⟩:=PW.1 (((dL l).2 t).2 u);obtain⟨j,b⟩:=P9 y;exact hp j (h j (Pj.1 b).1) x b
theorem d125(occ:List an)(e:Expr)(hb:e.size<=1000000000000):bD prog 197 [.mp 0,ag e.c] [cG (aD occ)] (pB (aV occ e)) [(0,io (cG (aD occ)))] 1:=by
 refine au ab func197 Z (by decide) ntmps197 Z (by simp) ?_;refine gA Z (zq [2] (J6 e hb) ?_);refine gA Z ?_;refine eU (aD (ch e)) (fun vs=>⟨[(0,.mp 0),(12,.ptr 3 0)],[(0,io (cG (aD occ))),(3,io (.bI .str wY (aD (ch e)) vs is))],4⟩) (fun vs=> ∀j∈vs,∀x,(aD (ch e))[j]? =io x->x.1∈occ) [] (by simp)
  (zW (zC (hI Z Z (.inl Z) Z trivial))) fun vs D=>?_
 refine fj Z ac (dm Z Z Z Z Z (by decide) (fun b=>?_) fun j x B G=>?_)
 .refine gA Z (zD [] Z (zM ⟨.of_eq (by rw[show aV occ e=jp from P4.2 fun t I=>bA.2 (all_keys b D t I)];rfl),rfl,ac⟩ (zC ac)))
 .have u:=bz occ x.1;refine zJ Z Z (fun h1=>?_) fun h1=>?_
  .have h1:dt .str (aD occ) x.1 0=0:=zT h1;have A:x.1∉occ:=qh.1 (by rw[u]at h1;omega);refine gA Z (zD [] Z (zM ⟨.of_eq (by rw[show aV occ e=kw from List.all_eq_false.2 ⟨x.1,rv B,by rw[ey.2 A];simp⟩];rfl),rfl,ac⟩ (zC ac)))
  .have h1: ¬dt .str (aD occ) x.1 0=0:=zF h1;have A:x.1∈occ:=tj.1 (by rw[u]at h1;omega);refine gA Z ?_
   exact⟨j,x,B,G,fun i hi y C=>by
    rcases Px.1 hi with rfl|hi
    .rw[B]at C;cases C;exact A
    .exact D i hi y C,[],zW (zC (hI Z Z (.inr Z) Z ac))⟩
def aq(r:ax)(lit:Int):Lit:=r.body.getD lit.toNat co
theorem Lit.jr(l:Lit):l.agg.size+2<=l.size:=by
 rw[l.size_eq];unfold fw.size Lit.agg;dsimp only;omega
theorem nE{a b:an×Bool}(h:a=b):PV.bq [pS a.1,pB a.2]= .bq [pS b.1,pB b.2]:=by rw[h]
def jL(l:Lit)(b:List an):an×Bool:=
 if¬l.kind=3∨ ¬l.op=1 then(Pq,kw)
 else if l.left.kind=1∧du b l.left.var=kw∧(l.right.kind=2∨l.right.kind=1∧du b l.right.var=jp) then(l.left.var,jp)
 else if l.right.kind=1∧(if l.left.kind=1 then du b l.left.var else lc (l.left.kind=2))=jp then(l.right.var,!du b l.right.var)
 else(Pq,kw)
def bC(body:List Lit):List an:=body.flatMap fun l=> [l.left.var,l.right.var,l.bB]
def cx(c k:List an):Nat:=(c.filter fun x=>!du k x).length
theorem iQ: ∀body:List Lit,(bC body).length=3*body.length
 | []=>rfl
 |l::r=>by have:=iQ r;simp only[bC,Qs,Pn,PX,Q6]at this ⊢;omega
theorem oR(c k:List an):cx c k<=c.length:=QH _ _
theorem oQ{v:an}{k:List an}: ∀{c:List an},v∈c->v∉k->cx c (fQ k v)<cx c k:=by
 have mono: ∀c:List an,cx c (fQ k v)<=cx c k:=by
  intro c
  induction c with
  |nil=>exact Ps _
  |cons x r b=>
   simp only[cx]at b ⊢;simp only[Ra];by_cases h1:x∈k
   .have:du (fQ k v) x=jp:=bA.2 (db.2 (.inl h1));rw[this,bA.2 h1];exact b
   .simp only[ey.2 h1,Sh,if_true,PX];split<;>(try simp only[PX])<;>omega
 intro c u hk
 induction c with
 |nil=>cases u
 |cons x r b=>
  have y:=mono r;simp only[cx]at b y ⊢;simp only[Ra];by_cases j:x=v
  .subst j;have:du (fQ k x) x=jp:=bA.2 (db.2 (.inr Z));simp[this,ey.2 hk];omega
  .have A:v∈r:=by
    rcases Px.1 u with h|h
    .exact absurd h.symm j
    .exact h
   have b:=b A;by_cases h1:x∈k
   .have:du (fQ k v) x=jp:=bA.2 (db.2 (.inl h1));simp[this,bA.2 h1];exact b
   .have:du (fQ k v) x=kw:=ey.2 fun h=>by rcases db.1 h with h|h;exact h1 h;exact j h
    simp[this,ey.2 h1];omega
def Ca(k:List an)(l:Lit):List an:=if l.kind=1 then mH k (pe l.atom) else k
theorem vt{body:List Lit}{l:Lit}(h:l∈body){v:an}(b:v∈ [l.left.var,l.right.var,l.bB]):v∈bC body:=Sd.2 ⟨l,h,b⟩
def fq(may:Expr->Bool)(occ:List an)(l:Lit):an×Bool:=
 if¬l.kind=3∨ ¬l.op=1 then(Pq,kw)
 else if l.left.kind=1∧du occ l.left.var=kw∧may l.right=jp then(l.left.var,jp)
 else if l.right.kind=1∧du occ l.right.var=kw∧may l.left=jp then(l.right.var,jp)
 else(Pq,kw)
theorem b4{occ:List an}{s:an}:du occ s=!lc (dt .str (aD occ) s 0=0):=by
 rw[bz];by_cases h:s∈occ
 .have:=tj.2 h;rw[bA.2 h];simp;omega
 .rw[ey.2 h,qh.2 h];rfl
def b7(occ:List an)(e:Expr):Bool:=lc (e.kind=2)||(lc (e.kind=1)&&du occ e.var)
theorem lW{a b:Bool}(h:a=b):pB a=pB b:=by rw[h]
theorem d76(occ:List an)(e:Expr)(hb:e.size<=1000000000000):bD prog 86 [ag e.c,.ptr 1 0] [cG (aD occ),.cells [.mp 0]] (pB (b7 occ e)) [(0,io (cG (aD occ))),(1,io (.cells [.mp 0]))] 2:=by
 have b:=bz occ e.var;have j:=b4 (occ:=occ) (s:=e.var);refine au ab func86 Z (by decide) ntmps86 Z (by simp) ?_
 repeat' (first
  |(refine gA Z (zI (fun _=>?_) (fun _=>?_)))
  |fail)
 all_goals first
  |(refine gA Z (aY [] (.inr Z) Z (zM ⟨.of_eq (lW (a:=jp) ?_),rfl,ac⟩ (zC (zO ac))));simp_all [b7];done)
  |(refine gA Z (aY [] (.inr Z) Z (zM ⟨.of_eq (lW (a:=kw) ?_),rfl,ac⟩ (zC (zO ac))));simp_all [b7];done)
  |(refine gA Z (aY [] (.inr Z) Z (zM ⟨.of_eq (lW (a:=lc (dt .str (aD occ) e.var 0>0)) ?_),rfl,ac⟩ (zC (zO ac))));rw[b7,j,b];simp_all;by_cases u:om occ e.var=0<;>simp[u]<;>omega)
theorem c77(a:fw):Pure prog 87 [ag a.c] (pB kw):=by
 refine ai ab func87 Z (by decide) ntmps87 Z (by simp) Z ?_;exact zU Z
theorem OX(a:fw):Pure prog 199 [ag a.c] (pB kw):=by
 refine ai ab func199 Z (by decide) ntmps199 Z (by simp) Z ?_;exact zU Z
def lY(out occ:List an)(a:fw):Bool:=(a7 a).all fun x=>lc (x=a.var)||(!du out x||du occ x)
theorem d126(r:ax)(occ:List an)(a:fw)(hb:a.size<=1000000000000):bD prog 198 [ag a.c,.ptr 1 0,.ptr 2 0] [cG (aD occ),.cells [.iv (ck r)],.cells [.mp 0]] (pB (lY (aC r) occ a)) [(0,io (cG (aD occ))),(1,io (.cells [.iv (ck r)])),(2,io (.cells [.mp 0]))] 3:=by
 refine au ab func198 Z (by decide) ntmps198 Z (by simp) ?_;refine gA Z (zq [] (d127 a hb) ?_);refine gA Z ?_;refine eU (aD (a7 a)) (fun vs=>⟨[(1,.ptr 1 0),(2,.ptr 2 0),(3,.ptr 3 0),(8,.ptr 5 0)],[(0,io (cG (aD occ))),(1,io (.cells [.iv (ck r)])),(2,io (.cells [.mp 0])),(3,io (aw a.c)),(5,io (.bI .str wY (aD (a7 a)) vs is))],6⟩) (fun vs=> ∀j∈vs,∀x,(aD (a7 a))[j]? =io x->(lc (x.1=a.var)||(!du (aC r) x.1||du occ x.1))=jp) [] (by simp)
  (zW (zC ⟨⟨_,rfl,.of_eq Z⟩,Pf Z,rfl,⟨_,rfl,.of_eq Z⟩,Pf Z,rfl,zK (hI Z Z (.inl Z) Z trivial)⟩)) fun vs G=>?_
 refine fj Z ac (dm Z Z Z Z Z (by decide) (fun b=>?_) fun j x u A=>?_)
 .refine gA Z (zD [] Z (zM ⟨.of_eq (lW (a:=jp) (P4.2 fun t I=>all_keys (p:=fun t=>(lc (t=a.var)||(!du (aC r) t||du occ t))=jp) b G t I).symm),rfl,ac⟩ (zC ⟨⟨_,rfl,.of_eq Z⟩,Pf Z,rfl,⟨_,rfl,.of_eq Z⟩,Pf Z,rfl,ac⟩)))
 .have more:(lc (x.1=a.var)||(!du (aC r) x.1||du occ x.1))=jp-> ∀i∈j::vs,∀x,(aD (a7 a))[i]? =io x->(lc (x.1=a.var)||(!du (aC r) x.1||du occ x.1))=jp:=fun h i hi y B=>by
   rcases Px.1 hi with rfl|hi
   .rw[u]at B;cases B;exact h
   .exact G i hi y B
  have C:=b4 (occ:=aC r) (s:=x.1);have D:=b4 (occ:=occ) (s:=x.1);have J:=bz (aC r) x.1;have R:=bz occ x.1;refine zJ Z Z (fun g1=>?_) fun g1=>?_
  .have g1:lc (x.1=a.var)=kw:=by simpa using g1
   refine zJ Z Z (fun g2=>?_) fun g2=>?_
   .have g2:du (aC r) x.1=jp:=by
     have:=zT g2;rw[C];simp;omega
    refine zJ Z Z (fun g3=>?_) fun g3=>?_
    .have g3:du occ x.1=kw:=by rw[D,g3];rfl
     refine gA Z (zD [] Z (zM ⟨.of_eq (lW (a:=kw) (List.all_eq_false.2 ⟨x.1,rv u,by rw[g1,g2,g3];simp⟩).symm),rfl,ac⟩ (zC ⟨⟨_,rfl,.of_eq Z⟩,Pf Z,rfl,⟨_,rfl,.of_eq Z⟩,Pf Z,rfl,ac⟩)))
    .have g3:du occ x.1=jp:=by rw[D,g3];rfl
     refine gA Z ⟨j,x,u,A,more (by rw[g3];simp),[],zW (zC ⟨⟨_,rfl,.of_eq Z⟩,Pf Z,rfl,⟨_,rfl,.of_eq Z⟩,Pf Z,rfl,zK (hI Z Z (.inr Z) Z ac)⟩)⟩
   .have g2:du (aC r) x.1=kw:=by
     have:=zF g2;rw[C];simp;omega
    refine gA Z ⟨j,x,u,A,more (by rw[g2];simp),[],zW (zC ⟨⟨_,rfl,.of_eq Z⟩,Pf Z,rfl,⟨_,rfl,.of_eq Z⟩,Pf Z,rfl,zK (hI Z Z (.inr Z) Z ac)⟩)⟩
  .have g1:lc (x.1=a.var)=jp:=by simpa using g1
   refine gA Z ⟨j,x,u,A,more (by rw[g1];simp),[],zW (zC ⟨⟨_,rfl,.of_eq Z⟩,Pf Z,rfl,⟨_,rfl,.of_eq Z⟩,Pf Z,rfl,zK (hI Z Z (.inr Z) Z ac)⟩)⟩
def kR(may:Expr->Bool)(more:fw->Bool)(occ:List an)(l:Lit):Option an:=
 if(fq may occ l).2=jp then io (fq may occ l).1 else if l.kind=4∧du occ l.bB=kw∧more l.agg=jp then io l.bB else is
def bR(may:Expr->Bool)(more:fw->Bool)(occ:List an):List Lit->Option an
 | []=>is
 |l::r=>match kR may more occ l with
  |some v=>io v
  |none=>bR may more occ r
def cV(may:List an->Expr->Bool)(more:List an->fw->Bool)(body:List Lit):Nat->List an->List an
 |0,occ=>occ
 |n+1,occ=>match bR (may occ) (more occ) occ body with
  |some v=>cV may more body n (occ++ [v])
  |none=>occ
def bg(l:Lit):List an:=if l.kind=1 then cF l.atom else[]
def bS(may:List an->Expr->Bool)(more:List an->fw->Bool)(body:List Lit)(occ:List an):List an:=cV may more body (3*body.length+1) (occ++body.flatMap bg)
theorem dW{may:List an->Expr->Bool}{more:List an->fw->Bool}{body:List Lit}{n:Nat}{occ:List an}{v:an}(h:bR (may occ) (more occ) occ body=io v):cV may more body (n+1) occ=cV may more body n (occ++ [v]):=by
 simp only[cV,h]
theorem dX{may:List an->Expr->Bool}{more:List an->fw->Bool}{body:List Lit}{n:Nat}{occ:List an}(h:bR (may occ) (more occ) occ body=is):cV may more body (n+1) occ=occ:=by
 simp only[cV,h]
theorem jW{may:Expr->Bool}{more:fw->Bool}{occ:List an}: ∀{l m:List Lit},bR may more occ l=is->bR may more occ (l++m)=bR may more occ m
 | [],_,_=>rfl
 |x::r,m,h=>by
  simp only[bR]at h;split at h
  .cases h
  .rename_i h1;simp only[QN,bR,h1];exact jW h
theorem dp{may:Expr->Bool}{more:fw->Bool}{occ:List an}{l:List Lit}{i:Nat}(h:bR may more occ (l.take i)=is)(hi:i<l.length)(b:kR may more occ (l.getD i co)=is):bR may more occ (l.take (i+1))=is:=by
 rw[cm hi,jW h];simp only[bR,b]
theorem oh{may:Expr->Bool}{more:fw->Bool}{occ:List an}{l:List Lit}{i:Nat}{v:an}(h:bR may more occ (l.take i)=is)(hi:i<l.length)(b:kR may more occ (l.getD i co)=io v):bR may more occ l=io v:=by
 have e:l=l.take i++(l.getD i co::l.drop (i+1)):=by
  rw[Pk,Pl hi,Qf,List.getElem_cons_drop,RQ]
 rw[e,jW h];simp only[bR,b]
theorem sI{may:Expr->Bool}{more:fw->Bool}{occ:List an}{l:Lit}{v:an}(h:kR may more occ l=io v):v∈ [l.left.var,l.right.var,l.bB]∧v∉occ:=by
 unfold kR at h;split at h
 .rename_i h1;simp only[Ph]at h;subst h;unfold fq at h1 ⊢;split at h1
  .cases h1
  .rename_i u;rw[be u];split at h1
   .rename_i b;rw[am b];exact⟨by simp,ey.1 b.2.1⟩
   .rename_i b;rw[be b];split at h1
    .rename_i j;rw[am j];exact⟨by simp,ey.1 j.2.1⟩
    .cases h1
 .split at h
  .rename_i b;simp only[Ph]at h;subst h;exact⟨by simp,ey.1 b.2.1⟩
  .cases h
theorem jh{may:Expr->Bool}{more:fw->Bool}{occ:List an}{v:an}: ∀{l:List Lit},bR may more occ l=io v->v∈bC l∧v∉occ
 | [],h=>by cases h
 |x::r,h=>by
  simp only[bR]at h;split at h
  .rename_i w j;simp only[Ph]at h;subst h;obtain⟨h1,b⟩:=sI j;exact⟨vt Pv h1,b⟩
  .obtain⟨h1,b⟩:=jh h;refine⟨?_,b⟩;simp only[bC,Qs,PG]at h1 ⊢;exact .inr h1
theorem eR: ∀l:List Lit,(l.flatMap bg).length<=Lit.aB l
 | []=>by simp
 |e::r=>by
  have b:=eR r;have j:(bg e).length<=e.size:=by
   have:=ik e.atom;have:=e.size_eq;unfold bg;split
   .omega
   .simp
  rw[Qs,Pn];simp only[Lit.aB];omega
theorem NW(occ:List an)(l:Lit)(hb:l.size<=100000000000):bD prog 136 [ag l.c,.b5 (.func 197) [.mp 0] [],.mp 0] [cG (aD occ)] (.bq [pS (fq (aV occ) occ l).1,pB (fq (aV occ) occ l).2]) [(0,io (cG (aD occ)))] 1:=by
 have y:=l.size_eq;have u:=bz occ l.left.var;have x:=bz occ l.right.var;refine au ab func136 Z (by decide) ntmps136 Z (by simp) ?_;refine zE Z Z (fun h1=>?_) fun h1=>?_
 .have h1: ¬l.kind=3:=by simpa using h1
  refine gA Z (zD [] Z (zM ⟨.of_eq (nE (a:=(Pq,kw)) (by rw[fq,am (.inl h1)])),rfl,ac⟩ (zC ac)))
 have h1:l.kind=3:=by simpa using h1
 refine zJ Z Z (fun b=>?_) fun b=>?_
 .have b: ¬l.op=1:=by simpa using b
  refine gA Z (zD [] Z (zM ⟨.of_eq (nE (a:=(Pq,kw)) (by rw[fq,am (.inr b)])),rfl,ac⟩ (zC ac)))
 have b:l.op=1:=by simpa using b
 have j:fq (aV occ) occ l=if l.left.kind=1∧du occ l.left.var=kw∧(aV occ) l.right=jp then(l.left.var,jp) else if l.right.kind=1∧du occ l.right.var=kw∧(aV occ) l.left=jp then(l.right.var,jp) else(Pq,kw):=by
  rw[fq,be (by simp[h1,b])]
 repeat' (first
  |(refine gA Z (zI (fun _=>?_) (fun _=>?_)))
  |(refine gA Z (bQ [0] (d125 occ l.left (by omega)) Z Z Z Z Z Z Z Z ?_))
  |(refine gA Z (bQ [0] (d125 occ l.right (by omega)) Z Z Z Z Z Z Z Z ?_))
  |fail)
 all_goals first
  |(refine gA Z (aY [] (.inr Z) Z (zM ⟨.of_eq (nE (a:=(Pq,kw)) ?_),rfl,ac⟩ (zC ac)));rw[j];simp only[b4] at*;simp_all;done)
  |(refine gA Z (aY [] (.inr Z) Z (zM ⟨.of_eq (nE (a:=(l.left.var,jp)) ?_),rfl,ac⟩ (zC ac)));rw[j];simp only[b4] at*;simp_all;done)
  |(refine gA Z (aY [] (.inr Z) Z (zM ⟨.of_eq (nE (a:=(l.right.var,jp)) ?_),rfl,ac⟩ (zC ac)));rw[j];simp only[b4] at*;simp_all;done)
  |(exfalso;simp_all;done)
theorem OM(occ:List an)(body:List Lit)(hb:occ.length+8*Lit.aB body<=100000000000):bD prog 85 [.iv (lits body),.mp 0,.b5 (.func 197) [.mp 0] [],.b5 (.func 199) [] []] [cG (aD occ)] (.bq []) [(0,io (cG (aD (bS (fun occ=>aV occ) (fun occ=>fun _=>kw) body occ))))] 1:=by
 have f0:=Lit.aG body;have k0:=eR body;have g0:=iQ body;have j0:=oR (bC body) (occ++body.flatMap bg);refine au ab func85 Z (by decide) ntmps85 Z (by simp) ?_;refine gA Z ?_;refine aJ 0 body.length (PA _) (fun i=>⟨[(0,.iv (lits body)),(1,.mp 0),(2,.b5 (.func 197) [.mp 0] []),(3,.b5 (.func 199) [] []),(14,.iv (lits body)),(15,pI body.length),(16,pI i)],[(0,io (cG (aD (occ++(body.take i).flatMap bg))))],1⟩) (fun _=>True) [] ac
  (zW (hM Z (by simp) Z trivial)) fun i hi _=>?_
 refine zJ Z Z (fun h1=>?_) fun h1=>?_
 .have h1:i<body.length:=by simpa using h1
  have hs:=bL (f:=bg) h1;have hn:=Lit.dw body i h1;have hv:=eR (body.take i);have n0:=(body.getD i co).size_eq;refine zJ Z Z (fun u=>?_) fun u=>?_
  .have u:(body.getD i co).kind=1:=by simpa using u
   rw[show bg (body.getD i co)=_ from am u]at hs;refine gA Z (zq [0] (d88 (occ++(body.take i).flatMap bg) (body.getD i co).atom (by rw[Pn];omega)) ?_);refine gA Z ⟨h1,ac,[],zW (hM Z (by rw[hs,PH]) Z ac)⟩
  .have u: ¬(body.getD i co).kind=1:=by simpa using u
   rw[show bg (body.getD i co)=_ from be u,Qm]at hs;refine gA Z ⟨h1,ac,[],zW (hM Z (by rw[hs]) Z ac)⟩
 have h1:body.length<=i:=by simpa using h1
 have e0:body.take i=body:=Pz h1;rw[e0];refine gA Z ?_;refine gn (σ:={x:List an×Nat//bS (fun occ=>aV occ) (fun occ=>fun _=>kw) body occ=cV (fun occ=>aV occ) (fun occ=>fun _=>kw) body (x.2+1) x.1∧cx (bC body) x.1<=x.2∧x.1.length+cx (bC body) x.1<=(occ++body.flatMap bg).length+cx (bC body) (occ++body.flatMap bg)})
  (fun x=>⟨[(0,.iv (lits body)),(1,.mp 0),(2,.b5 (.func 197) [.mp 0] []),(3,.b5 (.func 199) [] [])],[(0,io (cG (aD x.1.1)))],1⟩) (fun x=>cx (bC body) x.1.1)
  ⟨(occ++body.flatMap bg,3*body.length),rfl,by dsimp only;omega,Ps _⟩ [] (zW (zC trivial)) ?_
 rintro⟨⟨ok,f⟩,hx1,hx2,hx3⟩;dsimp only at hx1 hx2 hx3 ⊢;rw[Pn]at hx3;refine gA Z ?_;refine aJ 0 body.length (PA _) (fun i=>⟨[(0,.iv (lits body)),(1,.mp 0),(2,.b5 (.func 197) [.mp 0] []),(3,.b5 (.func 199) [] []),(28,.iv (lits body)),(29,pI body.length),(30,pI i)],[(0,io (cG (aD ok)))],1⟩) (fun i=>bR ((fun occ=>aV occ) ok) ((fun occ=>fun _=>kw) ok) ok (body.take i)=is) [] Z
  (zW (zC trivial)) fun i hi C=>?_
 refine zJ Z Z (fun b=>?_) fun b=>?_
 .have b:i<body.length:=by simpa using b
  have m0:=Lit.bT body i b;have d0:=(body.getD i co).jr;have j: ∀v,kR ((fun occ=>aV occ) ok) ((fun occ=>fun _=>kw) ok) ok (body.getD i co)=io v->bS (fun occ=>aV occ) (fun occ=>fun _=>kw) body occ=cV (fun occ=>aV occ) (fun occ=>fun _=>kw) body (f-1+1) (ok++ [v])∧cx (bC body) (ok++ [v])<=f-1∧
    (ok++ [v]).length+cx (bC body) (ok++ [v])<=(occ++body.flatMap bg).length+cx (bC body) (occ++body.flatMap bg)∧cx (bC body) (ok++ [v])<cx (bC body) ok:=by
   intro v hv;have Y:=oh C b hv;obtain⟨g1,g2⟩:=jh Y;have i0:=oQ g1 g2;have c0:cx (bC body) (ok++ [v])=cx (bC body) (fQ ok v):=by
    unfold cx;congr 2
    funext x
    congr 1;rw[QJ,bA,bA,db,PG,Pw]
   have I:f-1+1=f:=by omega
   refine⟨?_,by omega,?_,by omega⟩
   .rw[hx1,dW Y,I]
   .rw[Pn,Pn,Qn];omega
  have a0:=bz ok (fq (aV ok) ok (body.getD i co)).1;have J:=fE ok (fq (aV ok) ok (body.getD i co)).1;have b0:=bz ok (body.getD i co).bB;have R:=fE ok (body.getD i co).bB;refine gA Z (zq [0] (NW ok (body.getD i co) (by omega)) ?_);refine zJ Z Z (fun B=>?_) fun B=>?_
  .obtain⟨g1,g2,g3,g4⟩:=j _ (am B);refine gA Z ⟨⟨(_,f-1),g1,g2,g3⟩,[],g4,zW (hM Z (by dsimp only;rw[cY];rfl) Z ac)⟩
  .refine zJ Z Z (fun y=>?_) fun y=>?_
   .have y:(body.getD i co).kind=4:=by simpa using y
    refine zJ Z Z (fun A=>?_) fun A=>?_
    .have A:du ok (body.getD i co).bB=kw:=by rw[b4];simpa using A
     refine gA Z (zp (OX (body.getD i co).agg) ?_);refine zJ Z Z (fun G=>?_) fun G=>?_
     .obtain⟨g1,g2,g3,g4⟩:=j _ ((be (by rw[B];simp)).trans (am ⟨y,A,G⟩));refine gA Z ⟨⟨(_,f-1),g1,g2,g3⟩,[],g4,zW (hM Z (by dsimp only;rw[cY];rfl) Z ac)⟩
     .refine gA Z ?_;exact⟨b,dp C b ((be (by rw[B];simp)).trans (be (fun h=>nomatch (h.2.2.symm.trans G)))),[],zW (zC ac)⟩
    .have A:du ok (body.getD i co).bB=jp:=by rw[b4];simpa using A
     refine gA Z ⟨b,dp C b ((be (by rw[B];simp)).trans (be (by rw[A];simp))),[],zW (zC ac)⟩
   .have y: ¬(body.getD i co).kind=4:=by simpa using y
    refine gA Z ⟨b,dp C b ((be (by rw[B];simp)).trans (be (fun h=>y h.1))),[],zW (zC ac)⟩
 .have b:body.length<=i:=by simpa using b
  rw[Pz b]at C;have D:bS (fun occ=>aV occ) (fun occ=>fun _=>kw) body occ=ok:=by rw[hx1,dX C]
  refine gA Z (zD [] Z (zW (hM Z (by rw[D]) Z ac)))
theorem NV(occ:List an)(l:Lit)(hb:l.size<=100000000000):bD prog 136 [ag l.c,.b5 (.func 86) [] [.ptr 1 0],.mp 0] [cG (aD occ),.cells [.mp 0]] (.bq [pS (fq (b7 occ) occ l).1,pB (fq (b7 occ) occ l).2]) [(0,io (cG (aD occ))),(1,io (.cells [.mp 0]))] 2:=by
 have y:=l.size_eq;have u:=bz occ l.left.var;have x:=bz occ l.right.var;refine au ab func136 Z (by decide) ntmps136 Z (by simp) ?_;refine zE Z Z (fun h1=>?_) fun h1=>?_
 .have h1: ¬l.kind=3:=by simpa using h1
  refine gA Z (zD [] Z (zM ⟨.of_eq (nE (a:=(Pq,kw)) (by rw[fq,am (.inl h1)])),rfl,ac⟩ (zC (zO ac))))
 have h1:l.kind=3:=by simpa using h1
 refine zJ Z Z (fun b=>?_) fun b=>?_
 .have b: ¬l.op=1:=by simpa using b
  refine gA Z (zD [] Z (zM ⟨.of_eq (nE (a:=(Pq,kw)) (by rw[fq,am (.inr b)])),rfl,ac⟩ (zC (zO ac))))
 have b:l.op=1:=by simpa using b
 have j:fq (b7 occ) occ l=if l.left.kind=1∧du occ l.left.var=kw∧(b7 occ) l.right=jp then(l.left.var,jp) else if l.right.kind=1∧du occ l.right.var=kw∧(b7 occ) l.left=jp then(l.right.var,jp) else(Pq,kw):=by
  rw[fq,be (by simp[h1,b])]
 repeat' (first
  |(refine gA Z (zI (fun _=>?_) (fun _=>?_)))
  |(refine gA Z (bQ [0,1] (d76 occ l.left (by omega)) Z Z Z Z Z Z Z Z ?_))
  |(refine gA Z (bQ [0,1] (d76 occ l.right (by omega)) Z Z Z Z Z Z Z Z ?_))
  |fail)
 all_goals first
  |(refine gA Z (aY [] (.inr Z) Z (zM ⟨.of_eq (nE (a:=(Pq,kw)) ?_),rfl,ac⟩ (zC (zO ac))));rw[j];simp only[b4] at*;simp_all;done)
  |(refine gA Z (aY [] (.inr Z) Z (zM ⟨.of_eq (nE (a:=(l.left.var,jp)) ?_),rfl,ac⟩ (zC (zO ac))));rw[j];simp only[b4] at*;simp_all;done)
  |(refine gA Z (aY [] (.inr Z) Z (zM ⟨.of_eq (nE (a:=(l.right.var,jp)) ?_),rfl,ac⟩ (zC (zO ac))));rw[j];simp only[b4] at*;simp_all;done)
  |(exfalso;simp_all;done)
theorem OL(occ:List an)(body:List Lit)(hb:occ.length+8*Lit.aB body<=100000000000):bD prog 85 [.iv (lits body),.mp 0,.b5 (.func 86) [] [.ptr 1 0],.b5 (.func 87) [] []] [cG (aD occ),.cells [.mp 0]] (.bq []) [(0,io (cG (aD (bS (fun occ=>b7 occ) (fun occ=>fun _=>kw) body occ)))),(1,io (.cells [.mp 0]))] 2:=by
 have f0:=Lit.aG body;have k0:=eR body;have g0:=iQ body;have j0:=oR (bC body) (occ++body.flatMap bg);refine au ab func85 Z (by decide) ntmps85 Z (by simp) ?_;refine gA Z ?_;refine aJ 0 body.length (PA _) (fun i=>⟨[(0,.iv (lits body)),(1,.mp 0),(2,.b5 (.func 86) [] [.ptr 1 0]),(3,.b5 (.func 87) [] []),(14,.iv (lits body)),(15,pI body.length),(16,pI i)],[(0,io (cG (aD (occ++(body.take i).flatMap bg)))),(1,io (.cells [.mp 0]))],2⟩) (fun _=>True) [] ac
  (zW (hM Z (by simp) Z (zO trivial))) fun i hi _=>?_
 refine zJ Z Z (fun h1=>?_) fun h1=>?_
 .have h1:i<body.length:=by simpa using h1
  have hs:=bL (f:=bg) h1;have hn:=Lit.dw body i h1;have hv:=eR (body.take i);have n0:=(body.getD i co).size_eq;refine zJ Z Z (fun u=>?_) fun u=>?_
  .have u:(body.getD i co).kind=1:=by simpa using u
   rw[show bg (body.getD i co)=_ from am u]at hs;refine gA Z (zq [0] (d88 (occ++(body.take i).flatMap bg) (body.getD i co).atom (by rw[Pn];omega)) ?_);refine gA Z ⟨h1,ac,[],zW (hM Z (by rw[hs,PH]) Z (zO ac))⟩
  .have u: ¬(body.getD i co).kind=1:=by simpa using u
   rw[show bg (body.getD i co)=_ from be u,Qm]at hs;refine gA Z ⟨h1,ac,[],zW (hM Z (by rw[hs]) Z (zO ac))⟩
 have h1:body.length<=i:=by simpa using h1
 have e0:body.take i=body:=Pz h1;rw[e0];refine gA Z ?_;refine gn (σ:={x:List an×Nat//bS (fun occ=>b7 occ) (fun occ=>fun _=>kw) body occ=cV (fun occ=>b7 occ) (fun occ=>fun _=>kw) body (x.2+1) x.1∧cx (bC body) x.1<=x.2∧x.1.length+cx (bC body) x.1<=(occ++body.flatMap bg).length+cx (bC body) (occ++body.flatMap bg)})
  (fun x=>⟨[(0,.iv (lits body)),(1,.mp 0),(2,.b5 (.func 86) [] [.ptr 1 0]),(3,.b5 (.func 87) [] [])],[(0,io (cG (aD x.1.1))),(1,io (.cells [.mp 0]))],2⟩) (fun x=>cx (bC body) x.1.1)
  ⟨(occ++body.flatMap bg,3*body.length),rfl,by dsimp only;omega,Ps _⟩ [] (zW (zC (zO trivial))) ?_
 rintro⟨⟨ok,f⟩,hx1,hx2,hx3⟩;dsimp only at hx1 hx2 hx3 ⊢;rw[Pn]at hx3;refine gA Z ?_;refine aJ 0 body.length (PA _) (fun i=>⟨[(0,.iv (lits body)),(1,.mp 0),(2,.b5 (.func 86) [] [.ptr 1 0]),(3,.b5 (.func 87) [] []),(28,.iv (lits body)),(29,pI body.length),(30,pI i)],[(0,io (cG (aD ok))),(1,io (.cells [.mp 0]))],2⟩) (fun i=>bR ((fun occ=>b7 occ) ok) ((fun occ=>fun _=>kw) ok) ok (body.take i)=is) [] Z
  (zW (zC (zO trivial))) fun i hi C=>?_
 refine zJ Z Z (fun b=>?_) fun b=>?_
 .have b:i<body.length:=by simpa using b
  have m0:=Lit.bT body i b;have d0:=(body.getD i co).jr;have j: ∀v,kR ((fun occ=>b7 occ) ok) ((fun occ=>fun _=>kw) ok) ok (body.getD i co)=io v->bS (fun occ=>b7 occ) (fun occ=>fun _=>kw) body occ=cV (fun occ=>b7 occ) (fun occ=>fun _=>kw) body (f-1+1) (ok++ [v])∧cx (bC body) (ok++ [v])<=f-1∧
    (ok++ [v]).length+cx (bC body) (ok++ [v])<=(occ++body.flatMap bg).length+cx (bC body) (occ++body.flatMap bg)∧cx (bC body) (ok++ [v])<cx (bC body) ok:=by
   intro v hv;have Y:=oh C b hv;obtain⟨g1,g2⟩:=jh Y;have i0:=oQ g1 g2;have c0:cx (bC body) (ok++ [v])=cx (bC body) (fQ ok v):=by
    unfold cx;congr 2
    funext x
    congr 1;rw[QJ,bA,bA,db,PG,Pw]
   have I:f-1+1=f:=by omega
   refine⟨?_,by omega,?_,by omega⟩
   .rw[hx1,dW Y,I]
   .rw[Pn,Pn,Qn];omega
  have a0:=bz ok (fq (b7 ok) ok (body.getD i co)).1;have J:=fE ok (fq (b7 ok) ok (body.getD i co)).1;have b0:=bz ok (body.getD i co).bB;have R:=fE ok (body.getD i co).bB;refine gA Z (zq [0,1] (NV ok (body.getD i co) (by omega)) ?_);refine zJ Z Z (fun B=>?_) fun B=>?_
  .obtain⟨g1,g2,g3,g4⟩:=j _ (am B);refine gA Z ⟨⟨(_,f-1),g1,g2,g3⟩,[],g4,zW (hM Z (by dsimp only;rw[cY];rfl) Z (zO ac))⟩
  .refine zJ Z Z (fun y=>?_) fun y=>?_
   .have y:(body.getD i co).kind=4:=by simpa using y
    refine zJ Z Z (fun A=>?_) fun A=>?_
    .have A:du ok (body.getD i co).bB=kw:=by rw[b4];simpa using A
     refine gA Z (zp (c77 (body.getD i co).agg) ?_);refine zJ Z Z (fun G=>?_) fun G=>?_
     .obtain⟨g1,g2,g3,g4⟩:=j _ ((be (by rw[B];simp)).trans (am ⟨y,A,G⟩));refine gA Z ⟨⟨(_,f-1),g1,g2,g3⟩,[],g4,zW (hM Z (by dsimp only;rw[cY];rfl) Z (zO ac))⟩
     .refine gA Z ?_;exact⟨b,dp C b ((be (by rw[B];simp)).trans (be (fun h=>nomatch (h.2.2.symm.trans G)))),[],zW (zC (zO ac))⟩
    .have A:du ok (body.getD i co).bB=jp:=by rw[b4];simpa using A
     refine gA Z ⟨b,dp C b ((be (by rw[B];simp)).trans (be (by rw[A];simp))),[],zW (zC (zO ac))⟩
   .have y: ¬(body.getD i co).kind=4:=by simpa using y
    refine gA Z ⟨b,dp C b ((be (by rw[B];simp)).trans (be (fun h=>y h.1))),[],zW (zC (zO ac))⟩
 .have b:body.length<=i:=by simpa using b
  rw[Pz b]at C;have D:bS (fun occ=>b7 occ) (fun occ=>fun _=>kw) body occ=ok:=by rw[hx1,dX C]
  refine gA Z (zD [] Z (zW (hM Z (by rw[D]) Z (zO ac))))
theorem NU(r:ax)(occ:List an)(l:Lit)(hb:l.size<=100000000000):bD prog 136 [ag l.c,.b5 (.func 197) [.mp 0] [],.mp 0] [cG (aD occ),.cells [.iv (ck r)],.cells [.mp 0]] (.bq [pS (fq (aV occ) occ l).1,pB (fq (aV occ) occ l).2]) [(0,io (cG (aD occ))),(1,io (.cells [.iv (ck r)])),(2,io (.cells [.mp 0]))] 3:=by
 have y:=l.size_eq;have u:=bz occ l.left.var;have x:=bz occ l.right.var;refine au ab func136 Z (by decide) ntmps136 Z (by simp) ?_;refine zE Z Z (fun h1=>?_) fun h1=>?_
 .have h1: ¬l.kind=3:=by simpa using h1
  refine gA Z (zD [] Z (zM ⟨.of_eq (nE (a:=(Pq,kw)) (by rw[fq,am (.inl h1)])),rfl,ac⟩ (zC ⟨⟨_,rfl,.of_eq Z⟩,Pf Z,rfl,⟨_,rfl,.of_eq Z⟩,Pf Z,rfl,ac⟩)))
 have h1:l.kind=3:=by simpa using h1
 refine zJ Z Z (fun b=>?_) fun b=>?_
 .have b: ¬l.op=1:=by simpa using b
  refine gA Z (zD [] Z (zM ⟨.of_eq (nE (a:=(Pq,kw)) (by rw[fq,am (.inr b)])),rfl,ac⟩ (zC ⟨⟨_,rfl,.of_eq Z⟩,Pf Z,rfl,⟨_,rfl,.of_eq Z⟩,Pf Z,rfl,ac⟩)))
 have b:l.op=1:=by simpa using b
 have j:fq (aV occ) occ l=if l.left.kind=1∧du occ l.left.var=kw∧(aV occ) l.right=jp then(l.left.var,jp) else if l.right.kind=1∧du occ l.right.var=kw∧(aV occ) l.left=jp then(l.right.var,jp) else(Pq,kw):=by
  rw[fq,be (by simp[h1,b])]
 repeat' (first
  |(refine gA Z (zI (fun _=>?_) (fun _=>?_)))
  |(refine gA Z (bQ [0] (d125 occ l.left (by omega)) Z Z Z Z Z Z Z Z ?_))
  |(refine gA Z (bQ [0] (d125 occ l.right (by omega)) Z Z Z Z Z Z Z Z ?_))
  |fail)
 all_goals first
  |(refine gA Z (aY [] (.inr Z) Z (zM ⟨.of_eq (nE (a:=(Pq,kw)) ?_),rfl,ac⟩ (zC ⟨⟨_,rfl,.of_eq Z⟩,Pf Z,rfl,⟨_,rfl,.of_eq Z⟩,Pf Z,rfl,ac⟩)));rw[j];simp only[b4] at*;simp_all;done)
  |(refine gA Z (aY [] (.inr Z) Z (zM ⟨.of_eq (nE (a:=(l.left.var,jp)) ?_),rfl,ac⟩ (zC ⟨⟨_,rfl,.of_eq Z⟩,Pf Z,rfl,⟨_,rfl,.of_eq Z⟩,Pf Z,rfl,ac⟩)));rw[j];simp only[b4] at*;simp_all;done)
  |(refine gA Z (aY [] (.inr Z) Z (zM ⟨.of_eq (nE (a:=(l.right.var,jp)) ?_),rfl,ac⟩ (zC ⟨⟨_,rfl,.of_eq Z⟩,Pf Z,rfl,⟨_,rfl,.of_eq Z⟩,Pf Z,rfl,ac⟩)));rw[j];simp only[b4] at*;simp_all;done)
  |(exfalso;simp_all;done)
theorem OK(r:ax)(occ:List an)(body:List Lit)(hb:occ.length+8*Lit.aB body<=100000000000):bD prog 85 [.iv (lits body),.mp 0,.b5 (.func 197) [.mp 0] [],.b5 (.func 198) [] [.ptr 1 0,.ptr 2 0]] [cG (aD occ),.cells [.iv (ck r)],.cells [.mp 0]] (.bq []) [(0,io (cG (aD (bS (fun occ=>aV occ) (fun occ=>lY (aC r) occ) body occ)))),(1,io (.cells [.iv (ck r)])),(2,io (.cells [.mp 0]))] 3:=by
 have f0:=Lit.aG body;have k0:=eR body;have g0:=iQ body;have j0:=oR (bC body) (occ++body.flatMap bg);refine au ab func85 Z (by decide) ntmps85 Z (by simp) ?_;refine gA Z ?_;refine aJ 0 body.length (PA _) (fun i=>⟨[(0,.iv (lits body)),(1,.mp 0),(2,.b5 (.func 197) [.mp 0] []),(3,.b5 (.func 198) [] [.ptr 1 0,.ptr 2 0]),(14,.iv (lits body)),(15,pI body.length),(16,pI i)],[(0,io (cG (aD (occ++(body.take i).flatMap bg)))),(1,io (.cells [.iv (ck r)])),(2,io (.cells [.mp 0]))],3⟩) (fun _=>True) [] ac
  (zW (hM Z (by simp) Z ⟨⟨_,rfl,.of_eq Z⟩,Pf Z,rfl,⟨_,rfl,.of_eq Z⟩,Pf Z,rfl,ac⟩)) fun i hi _=>?_
 refine zJ Z Z (fun h1=>?_) fun h1=>?_
 .have h1:i<body.length:=by simpa using h1
  have hs:=bL (f:=bg) h1;have hn:=Lit.dw body i h1;have hv:=eR (body.take i);have n0:=(body.getD i co).size_eq;refine zJ Z Z (fun u=>?_) fun u=>?_
  .have u:(body.getD i co).kind=1:=by simpa using u
   rw[show bg (body.getD i co)=_ from am u]at hs;refine gA Z (zq [0] (d88 (occ++(body.take i).flatMap bg) (body.getD i co).atom (by rw[Pn];omega)) ?_);refine gA Z ⟨h1,ac,[],zW (hM Z (by rw[hs,PH]) Z ⟨⟨_,rfl,.of_eq Z⟩,Pf Z,rfl,⟨_,rfl,.of_eq Z⟩,Pf Z,rfl,ac⟩)⟩
  .have u: ¬(body.getD i co).kind=1:=by simpa using u
   rw[show bg (body.getD i co)=_ from be u,Qm]at hs;refine gA Z ⟨h1,ac,[],zW (hM Z (by rw[hs]) Z ⟨⟨_,rfl,.of_eq Z⟩,Pf Z,rfl,⟨_,rfl,.of_eq Z⟩,Pf Z,rfl,ac⟩)⟩
 have h1:body.length<=i:=by simpa using h1
 have e0:body.take i=body:=Pz h1;rw[e0];refine gA Z ?_;refine gn (σ:={x:List an×Nat//bS (fun occ=>aV occ) (fun occ=>lY (aC r) occ) body occ=cV (fun occ=>aV occ) (fun occ=>lY (aC r) occ) body (x.2+1) x.1∧cx (bC body) x.1<=x.2∧x.1.length+cx (bC body) x.1<=(occ++body.flatMap bg).length+cx (bC body) (occ++body.flatMap bg)})
  (fun x=>⟨[(0,.iv (lits body)),(1,.mp 0),(2,.b5 (.func 197) [.mp 0] []),(3,.b5 (.func 198) [] [.ptr 1 0,.ptr 2 0])],[(0,io (cG (aD x.1.1))),(1,io (.cells [.iv (ck r)])),(2,io (.cells [.mp 0]))],3⟩) (fun x=>cx (bC body) x.1.1)
  ⟨(occ++body.flatMap bg,3*body.length),rfl,by dsimp only;omega,Ps _⟩ [] (zW (zC ⟨⟨_,rfl,.of_eq Z⟩,Pf Z,rfl,⟨_,rfl,.of_eq Z⟩,Pf Z,rfl,ac⟩)) ?_
 rintro⟨⟨ok,f⟩,hx1,hx2,hx3⟩;dsimp only at hx1 hx2 hx3 ⊢;rw[Pn]at hx3;refine gA Z ?_;refine aJ 0 body.length (PA _) (fun i=>⟨[(0,.iv (lits body)),(1,.mp 0),(2,.b5 (.func 197) [.mp 0] []),(3,.b5 (.func 198) [] [.ptr 1 0,.ptr 2 0]),(28,.iv (lits body)),(29,pI body.length),(30,pI i)],[(0,io (cG (aD ok))),(1,io (.cells [.iv (ck r)])),(2,io (.cells [.mp 0]))],3⟩) (fun i=>bR ((fun occ=>aV occ) ok) ((fun occ=>lY (aC r) occ) ok) ok (body.take i)=is) [] Z
  (zW (zC ⟨⟨_,rfl,.of_eq Z⟩,Pf Z,rfl,⟨_,rfl,.of_eq Z⟩,Pf Z,rfl,ac⟩)) fun i hi C=>?_
 refine zJ Z Z (fun b=>?_) fun b=>?_
 .have b:i<body.length:=by simpa using b
  have m0:=Lit.bT body i b;have d0:=(body.getD i co).jr;have j: ∀v,kR ((fun occ=>aV occ) ok) ((fun occ=>lY (aC r) occ) ok) ok (body.getD i co)=io v->bS (fun occ=>aV occ) (fun occ=>lY (aC r) occ) body occ=cV (fun occ=>aV occ) (fun occ=>lY (aC r) occ) body (f-1+1) (ok++ [v])∧cx (bC body) (ok++ [v])<=f-1∧
    (ok++ [v]).length+cx (bC body) (ok++ [v])<=(occ++body.flatMap bg).length+cx (bC body) (occ++body.flatMap bg)∧cx (bC body) (ok++ [v])<cx (bC body) ok:=by
   intro v hv;have Y:=oh C b hv;obtain⟨g1,g2⟩:=jh Y;have i0:=oQ g1 g2;have c0:cx (bC body) (ok++ [v])=cx (bC body) (fQ ok v):=by
    unfold cx;congr 2
    funext x
    congr 1;rw[QJ,bA,bA,db,PG,Pw]
   have I:f-1+1=f:=by omega
   refine⟨?_,by omega,?_,by omega⟩
   .rw[hx1,dW Y,I]
   .rw[Pn,Pn,Qn];omega
  have a0:=bz ok (fq (aV ok) ok (body.getD i co)).1;have J:=fE ok (fq (aV ok) ok (body.getD i co)).1;have b0:=bz ok (body.getD i co).bB;have R:=fE ok (body.getD i co).bB;refine gA Z (zq [0,1,2] (NU r ok (body.getD i co) (by omega)) ?_);refine zJ Z Z (fun B=>?_) fun B=>?_
  .obtain⟨g1,g2,g3,g4⟩:=j _ (am B);refine gA Z ⟨⟨(_,f-1),g1,g2,g3⟩,[],g4,zW (hM Z (by dsimp only;rw[cY];rfl) Z ⟨⟨_,rfl,.of_eq Z⟩,Pf Z,rfl,⟨_,rfl,.of_eq Z⟩,Pf Z,rfl,ac⟩)⟩
  .refine zJ Z Z (fun y=>?_) fun y=>?_
   .have y:(body.getD i co).kind=4:=by simpa using y
    refine zJ Z Z (fun A=>?_) fun A=>?_
    .have A:du ok (body.getD i co).bB=kw:=by rw[b4];simpa using A
     refine gA Z (zq [0,1,2] (d126 r ok (body.getD i co).agg (by omega)) ?_);refine zJ Z Z (fun G=>?_) fun G=>?_
     .obtain⟨g1,g2,g3,g4⟩:=j _ ((be (by rw[B];simp)).trans (am ⟨y,A,G⟩));refine gA Z ⟨⟨(_,f-1),g1,g2,g3⟩,[],g4,zW (hM Z (by dsimp only;rw[cY];rfl) Z ⟨⟨_,rfl,.of_eq Z⟩,Pf Z,rfl,⟨_,rfl,.of_eq Z⟩,Pf Z,rfl,ac⟩)⟩
     .refine gA Z ?_;exact⟨b,dp C b ((be (by rw[B];simp)).trans (be (fun h=>nomatch (h.2.2.symm.trans G)))),[],zW (zC ⟨⟨_,rfl,.of_eq Z⟩,Pf Z,rfl,⟨_,rfl,.of_eq Z⟩,Pf Z,rfl,ac⟩)⟩
    .have A:du ok (body.getD i co).bB=jp:=by rw[b4];simpa using A
     refine gA Z ⟨b,dp C b ((be (by rw[B];simp)).trans (be (by rw[A];simp))),[],zW (zC ⟨⟨_,rfl,.of_eq Z⟩,Pf Z,rfl,⟨_,rfl,.of_eq Z⟩,Pf Z,rfl,ac⟩)⟩
   .have y: ¬(body.getD i co).kind=4:=by simpa using y
    refine gA Z ⟨b,dp C b ((be (by rw[B];simp)).trans (be (fun h=>y h.1))),[],zW (zC ⟨⟨_,rfl,.of_eq Z⟩,Pf Z,rfl,⟨_,rfl,.of_eq Z⟩,Pf Z,rfl,ac⟩)⟩
 .have b:body.length<=i:=by simpa using b
  rw[Pz b]at C;have D:bS (fun occ=>aV occ) (fun occ=>lY (aC r) occ) body occ=ok:=by rw[hx1,dX C]
  refine gA Z (zD [] Z (zW (hM Z (by rw[D]) Z ⟨⟨_,rfl,.of_eq Z⟩,Pf Z,rfl,⟨_,rfl,.of_eq Z⟩,Pf Z,rfl,ac⟩)))
theorem ru:dT .ff (cG (aD [])):=⟨id,fun M N U w j b=>⟨#[],0,b,⟨rfl,by simp[aD],by simp[aD],by simp,by simp⟩,eW M⟩⟩
def bK(r:ax):List an:=bS (fun b=>aV b) (fun b=>lY (aC r) b) r.body []
theorem NR(r:ax)(hb:8*Lit.aB r.body<=100000000000):bD prog 85 [.iv (lits r.body),.mp 0,.b5 (.func 197) [.mp 0] [],.b5 (.func 198) [] [.ptr 1 0,.ptr 2 0]] [.ff,.cells [.iv (ck r)],.cells [.mp 0]] (.bq []) [(0,io (cG (aD (bK r)))),(1,io (.cells [.iv (ck r)])),(2,io (.cells [.mp 0]))] 3:=
 bD.JY (OK r [] r.body (by simp;omega)) ⟨ru,.refl _,.refl _,ac⟩
theorem d73(r:ax)(hb:8*r.size<=100000000000):bD prog 168 [.iv (ck r)] [] (.mp 0) [(0,io (cG (aD (bK r))))] 1:=by
 unfold ax.size at hb;refine au ab func168 Z (by decide) ntmps168 Z (by simp) ?_;refine gA Z (zd [1,0,2] (NR r (by omega)) ?_);refine gA Z (zD [1] Z (zW (zC ac)))
def L9(p:List an->Prop)(q:PV)(h:AH)(n:Nat):Prop:= ∃ok,p ok∧q= .mp 0∧h=[(0,io (cG (aD ok)))]∧n=1
def EC(r:ax)(a:fw)(occ:List an):Prop:=occ.Nodup∧ ∀x,x∈occ↔x∈a7 a∧x∈aC r
theorem uT{l m:List an}(h:l.Nodup)(hs: ∀x∈l,x∈m):l.length<=m.length:=Qx h hs
theorem js(a:fw):(a7 a).length<=a.size:=by
 have h1:=jF a.body;have b:=fW a.iD;unfold a7 fw.size;rw[Pn];split
 .rw[Q6];omega
 .omega
theorem J7(a:fw)(hb:a.size<=100000000000):bD prog 162 [ag a.c1] [] (.mp 0) [(0,io (cG (aD (a7 a))))] 1:=bD.le (d127 a (by omega)) ⟨a.HV,ac⟩
theorem d161(r:ax)(a:fw)(hb:16*a.size<=100000000000):Al.Fn prog 169 [.iv (ck r),ag a.c] [] (L9 fun ok=> ∃occ,EC r a occ∧ok=bS (fun occ=>aV occ) (fun _=>fun _=>kw) a.body occ):=by
 have e0:=js a;have f0:Lit.aB a.body<=a.size:=by unfold fw.size;omega
 refine Al.Fn.le (args:=[.iv (ck r),ag a.c1]) ?_ ⟨.refl _,a.AZ,ac⟩;refine oe ab func169 Z (by decide) ntmps169 Z (by simp) ?_;refine gA Z (zq [] (J7 a (by omega)) ?_);refine gA Z ?_
 let b:List Nat->List an:=fun vs=>(vs.reverse.filterMap fun j=>((aD (a7 a))[j]?).bind fun x=>if du (aC r) x.1 then io x.1 else is)
 refine eU (aD (a7 a)) (fun vs=>⟨[(0,.iv (ck r)),(3,.ptr 0 0),(5,.mp 1),(10,.ptr 3 0)],[(0,io (aw a.c1)),(1,io (cG (aD (b vs)))),(3,io (.bI .str wY (aD (a7 a)) vs is))],4⟩)
  (fun vs=>(b vs).Nodup∧ ∀x,x∈b vs↔x∈aC r∧ ∃j∈vs,∃y,(aD (a7 a))[j]? =io y∧y.1=x) [] ⟨P6,by simp[b]⟩
  (zW (zK (LK Z eW Z (hI Z Z (.inl Z) Z trivial)))) fun vs hJ=>?_
 obtain⟨B,C⟩:=hJ;have g0:(b vs).length<=(a7 a).length:=uT B fun x D=>by
  obtain⟨_,j,_,y,h2,rfl⟩:=(C x).1 D;exact rv h2
 refine fj Z ac (dm Z Z Z Z Z (by decide) (fun Y=>?_) fun j x D R=>?_)
 .have b0:EC r a (b vs):=⟨B,fun x=>by
   rw[C];constructor
   .rintro⟨h1,j,h2,y,A,rfl⟩;exact⟨rv A,h1⟩
   .rintro⟨h1,h2⟩;refine⟨h2,?_⟩;obtain⟨y,hy,rfl⟩:=PW.1 (((dL (a7 a)).2 x).2 h1);obtain⟨j,R⟩:=P9 hy
    exact⟨j,Y j (Pj.1 R).1,y,R,rfl⟩⟩
  refine gA Z (zq [1] (OM (b vs) a.body (by omega)) ?_);refine fj Z ac (rG [1] (.inr Z) Z ⟨_,⟨b vs,b0,rfl⟩,rfl,rfl,rfl⟩ (zW (zC ac)))
 .have h5:=b4 (occ:=aC r) (s:=x.1);have h7:=bz (aC r) x.1;have h8:=bz (b vs) x.1;have h9:=fE (b vs) x.1;have G:x.1∉b vs:=fun h=>by
   obtain⟨_,i,hi,y,h2,A⟩:=(C x.1).1 h;have d0:=(dL (a7 a)).1;have:i=j:=by
    have I:=(Pj.1 h2)
    have J:=(Pj.1 D)
    obtain⟨I,a0⟩:=I;obtain⟨J,c0⟩:=J;refine(List.getElem_inj (i:=i) (j:=j) (h₀:=by rw[PS];exact I) (h₁:=by rw[PS];exact J) d0).1 ?_;rw[Q3,Q3,a0,c0,A]
   exact R (this▸hi)
  have u:b (j::vs)=b vs++if du (aC r) x.1 then[x.1] else[]:=by
   simp only[b,List.reverse_cons,Sy,SH,List.filterMap_nil,D,RF];congr 1;cases du (aC r) x.1<;>rfl
  have step:(b (j::vs)).Nodup∧ ∀z,z∈b (j::vs)↔z∈aC r∧ ∃i∈j::vs,∃y,(aD (a7 a))[i]? =io y∧y.1=z:=by
   rw[u];constructor
   .split
    .rw[QS];refine⟨B,P0.2 ⟨Sc,P6⟩,fun p hp q hq e=>?_⟩;rw[Pw]at hq;exact G ((e.trans hq)▸hp)
    .rw[Qm];exact B
   .intro z;rw[PG,C];constructor
    .rintro(⟨h1,i,h2,A⟩|h1)
     .exact⟨h1,i,Pu _ h2,A⟩
     .split at h1
      .rename_i h2;rw[Pw]at h1;exact⟨h1▸bA.1 h2,j,Pv,x,D,h1.symm⟩
      .cases h1
    .rintro⟨h1,i,h2,y,A,h4⟩;rcases Px.1 h2 with rfl|h2
     .rw[D]at A;cases A;exact .inr (by rw[am (bA.2 (h4▸h1))];simp[h4])
     .exact .inl ⟨h1,i,h2,y,A,h4⟩
  refine zJ Z Z (fun g1=>?_) fun g1=>?_
  .have g1:du (aC r) x.1=jp:=by
    have:=zT g1;rw[h5];simp;omega
   rw[g1,am Z]at u;refine gA Z ⟨j,x,D,R,step,[],zW (zK (hM Z (by rw[u,cY];rfl) Z (hI Z Z (.inr Z) Z ac)))⟩
  .have g1:du (aC r) x.1=kw:=by
    have:=zF g1;rw[h5];simp;omega
   rw[g1,be (by simp),Qm]at u;refine gA Z ⟨j,x,D,R,step,[],zW (zK (hM Z (by rw[u]) Z (hI Z Z (.inr Z) Z ac)))⟩
end Go.Proofs.YtllkaddcplhklaaGreatDoor
namespace Go.Proofs.YtllkaddcplhklaaGreatDoor
open Go Go.Al
def lP(s:an):List UInt8:=s.data.toList
def Lx(l:List UInt8):an:=⟨l.toArray⟩
theorem rq(s:an):Lx (lP s)=s:=by simp[lP,Lx]
theorem G0(l:List UInt8):lP (Lx l)=l:=by simp[lP,Lx]
def da(l:List (List UInt8)):List (List UInt8):=l.mergeSort fun x y=>lc (x<=y)
def de(l:List an):List an:=(da (l.map lP)).map Lx
def fC:Prop:=
 (∀(b b0 a0:Nat) (j:List (List UInt8)) (w:World),Go.Sort.Holds encStr w b b0 j.toArray->b<w.heap.size->j.length<4611686018427387904->
  Calls Tryz.prog 84 #[.slice (io ⟨b,b0,is⟩) j.length a0] w fun e u=>
   e= .returned (.tuple #[])∧ ∃n os,u=Go.Sort.grow (Go.Sort.putRow encStr (Go.Sort.ahead w n) b b0 (j.mergeSort fun x y=>lc (x<=y)).toArray) os)∧
 (∀(p:Option Addr) (a0:Nat) (w:World),Calls Tryz.prog 84 #[.slice p 0 a0] w fun e u=>e= .returned (.tuple #[])∧u=w)
theorem iO(l:List an):(de l).length=l.length:=by simp[de,da]
theorem mI:de []=[]:=by simp[de,da]
theorem pt(l:List an):(de l).map lP=da (l.map lP):=by
 unfold de;rw[PQ];have:lP ∘ Lx=id:=by funext x;exact G0 x
 rw[this,List.map_id]
theorem xx{l:List an}{k:Nat}{e:List PV}(h:(l.map fun x=>(cS x).map PV.iv)[k]? =io e): ∃s,l[k]? =io s∧e=[pS s]:=by
 rw[Pp,Pr]at h;obtain⟨s,h1,rfl⟩:=h;exact⟨s,h1,rfl⟩
theorem Fw(hS:fC)(l:List an)(hl:l.length<=1000000000000):bD Tryz.prog 84 [.sl 0 0 l.length 1] [aF 1 l cS] (.bq []) [(0,io (aF 1 (de l) cS))] 1:=by
 refine⟨bf Tryz.func84 Z (by decide),fun M N w vs hr J hv=>?_⟩;obtain⟨v,rfl⟩: ∃v,vs=[v]:=by
  cases vs with
  |nil=>cases J
  |cons v r=>cases r with
   |nil=>exact⟨v,rfl⟩
   |cons a b=>simp at J
 have B:=hv 0 _ Z;simp only[Rs]at B;have n0:=hr.obj 0 _ Z;cases l with
 |nil=>
  have e0:v= .slice is 0 0:=by
   generalize hq:PV.sl 0 0 ([]:List an).length 1=q at B;cases B with
   |sl i off len sz a0 h h0 h1 hc he=>cases hq;simp at h0
   |lR i sz h=>rfl
   |_=>cases hq
  subst e0;refine(hS.2 is 0 w).mono ?_;rintro e w' ⟨rfl,rfl⟩;refine⟨_,M,N,.bq [],_,1,rfl,⟨rfl,rfl,rfl⟩,?_,?_,.bq [] #[] Z (by simp)⟩
  .rw[mI];exact .refl _ _ _ _ _
  .rw[mI];exact hr
 |cons s0 r=>
  generalize hL:s0::r=L at*
  have c0:0<L.length:=by rw[<-hL];simp
  obtain⟨a0,e0⟩: ∃a0,v= .slice (io ⟨N.az 0,0,is⟩) L.length a0:=by
   generalize hn:L.length=n at B c0;generalize hq:PV.sl 0 0 n 1=q at B;cases B with
   |sl i off len sz a0 h h0 h1 hc he=>cases hq;exact⟨a0,by simp⟩
   |lR i sz h=>cases hq;omega
   |_=>cases hq
  subst e0;rcases n0 with h0|⟨_,c,T,h1,h2,h3,h4,h5⟩
  .rw[<-hL]at h0;cases h0
  rw[PS]at h3;have g0:(aF 1 L cS).real=jp:=by rw[<-hL];rfl
  have d0: ∀j s,L[j]? =io s->c.getD j undef= .string s:=fun j s I=>by
   have:=h5 j [pS s] 0 (pS s) (by rw[Pp,I];rfl) Z;rw[Sm,Rl]at this;generalize c.getD j undef=y at this ⊢;cases this with
   |iv _ _ h=>cases h;rfl
  have m0:=hr.lt (i:=0) Z g0;have k0:(L.map lP).length=L.length:=by simp
  have hH:Go.Sort.Holds encStr w (N.az 0) 0 (L.map lP).toArray:=by
   intro j I;have i0:j<L.length:=by simpa using I
   have f0:j<c.size:=by omega
   have:=d0 j L[j] (Pl i0);rw[Pg,PR f0,Qf]at this;constructor
   .simp only[World.cell?,h1,PO,Option.isSome_none,Q7,if_false];rw[PR f0,this,getElem!_pos _ j I];simp[encStr,lP]
   .simp[World.frozen?,h1]
  have C:=hS.1 (N.az 0) 0 a0 (L.map lP) w hH m0 (by omega);rw[k0]at C;refine C.mono ?_;rintro e w' ⟨rfl,n,os,rfl⟩
  let R:=Go.Sort.putRow encStr (Go.Sort.ahead w n) (N.az 0) 0 ((L.map lP).mergeSort fun x y=>lc (x<=y)).toArray
  have Y:(da (L.map lP)).length=L.length:=by simp[da]
  have A:Ext M N (· <1) (c8 0 [aF 1 L cS]) w M N (· <1) ((0,io (aF 1 (de L) cS))::c8 0 [aF 1 L cS]) R∧Rel M N (· <1) ((0,io (aF 1 (de L) cS))::c8 0 [aF 1 L cS]) R:=by
   refine hr.write (i:=0) (o0:=aF 1 L cS) Z g0 R (aF 1 (de L) cS) Z Z Z ?_ ?_ ?_ (Sb _ _)
   .show(Go.Sort.putRow _ _ _ _ _).heap.size=_;rw[Go.Sort.size_putRow];rfl
   .intro b hb;show((w.heap.modify (N.az 0) _))[b]? =_;rw[PZ,be (fun e=>hb e.symm)]
   .refine .inr ⟨Nat.one_pos,Go.Sort.putCells encStr 0 (da (L.map lP)).toArray c,T,?_,?_,?_,?_,?_⟩
    .show((w.heap.modify (N.az 0) _))[N.az 0]? =_;rw[PZ,am Z,h1];rfl
    .simp[Go.Sort.putCells,h2]
    .rw[PS,iO];simp[Go.Sort.putCells];omega
    .intro k e he;obtain⟨s,_,rfl⟩:=xx he;rfl
    .intro k e j p he hp;obtain⟨s,hs,rfl⟩:=xx he;have I:j=0:=by
      rcases j with _|j
      .rfl
      .simp at hp
     subst I;cases hp;have hk:k<L.length:=by
      have:=(Pj.1 hs).1;rwa[iO]at this
     have p0:(da (L.map lP))[k]? =io (lP s):=by
      rw[<-pt,Pp,hs];rfl
     have j0:k<c.size:=by omega
     have b0:(Go.Sort.putCells encStr 0 (da (L.map lP)).toArray c).getD (k*1+0) undef= .string s:=by
      rw[Sm,Rl,Pg];simp only[Go.Sort.putCells,Array.getElem?_mapIdx];rw[PR j0,Qt,Qf,am ⟨PA _,by simp[Y];omega⟩,RX];rw[getElem!_pos _ k (by simp[Y];omega)];have h9:(da (L.map lP)).toArray[k]'(by simp[Y];omega)=lP s:=by
       rw[List.getElem_toArray];exact(Pj.1 p0).2
      rw[h9];simp[encStr,lP]
     rw[b0];exact .iv _ _ (.v _)
  have D:Rel M N (· <1) ((0,io (aF 1 (de L) cS))::c8 0 [aF 1 L cS]) (Go.Sort.grow R os):=A.2.more fun b hb=>by
   show(R.heap++os)[b]? =_;rw[P1 hb]
  have q0:R.heap.size=w.heap.size:=by
   show(Go.Sort.putRow _ _ _ _ _).heap.size=_;rw[Go.Sort.size_putRow];rfl
  have u: ∀i o,AH.get [(0,io (aF 1 (de L) cS))] i=io o->AH.get ((0,io (aF 1 (de L) cS))::c8 0 [aF 1 L cS]) i=io o:=by
   intro i o h;rw[AH.ay]at h ⊢;split at h
   .rename_i h6;rw[am h6];exact h
   .simp[AH.get]at h
  refine⟨_,M,N,.bq [],_,1,rfl,⟨rfl,rfl,rfl⟩,⟨A.1.os,A.1.tape,⟨A.1.output.out,A.1.output.drawn⟩,?_,?_,.refl _,fun b c h1 h2=>(nomatch (h1.symm.trans h2)),.refl _ _,fun _ h=>h,fun i o G=>A.1.fK i o (u i o G)⟩,?_,.bq [] #[] Z (by simp)⟩
  .show w.heap.size<=(Go.Sort.grow R os).heap.size;rw[Go.Sort.size_grow,q0];omega
  .intro b hb hn;have h7:=A.1.fN b hb hn;show(R.heap++os)[b]? =_;rw[P1 (by omega)];exact h7
  .exact⟨D.dZ,fun i o G=>D.used i o (u i o G),fun i o G=>D.dM i o (u i o G),fun i o G=>D.obj i o (u i o G),fun i j o p G I=>D.inj i j o p (u i o G) (u j p I)⟩
end Go.Proofs.YtllkaddcplhklaaGreatDoor
namespace Go.Proofs.YtllkaddcplhklaaGreatDoor
open Go Go.Al Go.Proofs.Tryz
theorem eI(l:List (List UInt8)):(da l).Perm l:=List.mergeSort_perm _ _
theorem gC(l:List (List UInt8)):(da l).Pairwise (fun x y=>lc (x<=y)=jp):=
 List.pairwise_mergeSort (le:=fun x y=>lc (x<=y)) (fun a b c h1 j=>by simp only[decide_eq_true_eq] at*;exact List.le_trans h1 j)
  (fun a b=>by
   rcases List.le_total a b with h|h
   .simp[h]
   .simp[h]) l
theorem BQ{a b:List (List UInt8)}(h:a.Perm b)(ha:a.Pairwise (fun x y=>lc (x<=y)=jp))(hb:b.Pairwise (fun x y=>lc (x<=y)=jp)):a=b:=
 List.Perm.eq_of_pairwise (fun x y _ _ h1 j=>Ss (zT h1) (zT j)) ha hb h
theorem nK{a b:List an}(h:a.Perm b):de a=de b:=by
 unfold de;rw[BQ (((eI _).trans (h.map lP)).trans (eI _).symm) (gC _) (gC _)]
theorem kn{x:an}{l:List an}:x∈de l↔x∈l:=by
 unfold de;rw[PW];constructor
 .rintro⟨b,hb,rfl⟩;obtain⟨s,hs,rfl⟩:=PW.1 ((eI _).mem_iff.1 hb);rwa[rq]
 .intro h;exact⟨lP x,(eI _).mem_iff.2 (PW.2 ⟨x,h,rfl⟩),rq x⟩
def fM(m:NM)(vs:List Nat):List an:=vs.reverse.filterMap fun j=>(m[j]?).map (·.1)
theorem jG(m:NM)(vs:List Nat)(j:Nat)(x:(KC.str).K×Int)(h:m[j]? =io x):fM m (j::vs)=fM m vs++ [x.1]:=by
 simp[fM,Sy,h]
theorem sS(m:NM)(vs:List Nat):(fM m vs).length<=vs.length:=by
 unfold fM;have:=List.length_filterMap_le (fun j=>(m[j]?).map (·.1)) vs.reverse;rwa[List.length_reverse]at this
theorem wy(m:NM):(PT m.length).filterMap (fun j=>(m[j]?).map (·.1))=m.map (·.1):=by
 apply RC;intro k;have h:(PT m.length).filterMap (fun j=>(m[j]?).map (·.1))=(PT m.length).map (fun j=>(m.getD j (Pq,0)).1):=by
  rw[show(fun j=>(m.getD j (Pq,0)).1)=fun j=>(m.getD j (Pq,0)).1 from rfl];have key: ∀l:List Nat,(∀j∈l,j<m.length)->l.filterMap (fun j=>(m[j]?).map (·.1))=l.map (fun j=>(m.getD j (Pq,0)).1):=by
   intro l
   induction l with
   |nil=>simp
   |cons j r ih=>
    intro h;have b:=h j Pv;rw[SH,Pl b,ih fun k hk=>h k (Pu _ hk)];simp[b]
  exact key _ fun j b=>QM.1 b
 rw[h];by_cases hk:k<m.length
 .simp[hk]
 .simp[hk]
theorem iY(m:NM)(vs:List Nat)(hn:vs.Nodup)(hb: ∀j∈vs,j<m.length)(b: ∀j,j<m.length->j∈vs):(fM m vs).Perm (m.map (·.1)):=by
 rw[<-wy];unfold fM;apply List.Perm.filterMap;refine(List.reverse_perm _).trans ?_;rw[QX hn List.nodup_range];intro j;rw[QM];exact⟨hb j,b j⟩
def eC(m:NM):List an:=de (m.map (·.1))
theorem sF{vs:List Nat}{n:Nat}(h:vs.Nodup)(hb: ∀j∈vs,j<n):vs.length<=n:=by
 have:=Qx h (l₂:=PT n) fun j b=>QM.2 (hb j b);rwa[List.length_range]at this
theorem sk(σ:Nat->Nat)(l:List an):(l.map fun x=>(cS x).map PV.iv).map (dy σ)=l.map fun x=>(cS x).map PV.iv:=by
 simp only[PQ,cS,Py,Qb];rfl
theorem c51(hS:fC)(m:NM)(hm:m.length<=100000000):Pure prog 88 [.iv (xW m)] (.iv (strs (eC m))):=by
 refine ai ab func88 Z (by decide) ntmps88 Z (by simp) Z ?_;refine gA Z ?_;refine lh 3 1 Z ?_;refine eU m (fun vs=>⟨[(3,.sl 2 0 (fM m vs).length 1),(6,.ptr 0 0)],[(0,io (.bI .str wY m vs is)),(2,io (aF 1 (fM m vs) cS))],3⟩) (fun vs=>vs.Nodup∧ ∀j∈vs,j<m.length) [1] ⟨P6,by simp⟩
  (zW (hI Z Z (.inl Z) Z (zS trivial))) fun vs C=>?_
 obtain⟨b,u⟩:=C;have I:=sF b u;have G:=sS m vs;refine fj Z ac (dm Z Z Z Z Z (by decide) (fun y=>?_) fun j x A B=>?_)
 .refine fj Z ac (bQ [2] (Fw hS (fM m vs) (by omega)) Z Z Z Z Z (congrArg (fun o=> [io o]) (b3 _).symm) Z Z ?_);refine fj Z ac (dq (.inr Z) Z Z ((sk _ _).trans (by rw[eC,nK (iY m vs b u y)])) ?_);rw[eC,iO,<-(iY m vs b u y).length_eq]
 .have hk:=jG m vs j x A;refine gA Z ⟨j,x,A,B,⟨P0.2 ⟨B,b⟩,fun i D=>(Px.1 D).elim (fun h=>h▸(Pj.1 A).1) (u i)⟩,[4],zM ⟨.row (by rw[hk,Pn];rfl),rfl,bi ac⟩ (hI Z Z (.inr Z) Z (hR Z (by rw[hk,PF];rfl) Z ac))⟩
theorem HE{P:Program}{k:FuncId}{kc:KC}{V:Type}{e:V->IV}{z:V}{D:Value}{G:PV->V}{m:List (kc.K×V)}{y:IV}(h:Al.Pure P k [.iv (.dQ kc e z D m)] (.iv y)):bD P k [.mp 0] [.map kc e z D G m] (.iv y) [] 1:=by
 refine⟨h.1,fun M N w vs R hl Y=>?_⟩;obtain⟨A,h1,I,h3,J⟩:=o6 (n:=1) R (i:=0) Z;have B:Rel A N (· <0) (c8 0 []) w:=⟨I.dZ,fun i o u=>(nomatch u),fun i o u=>(nomatch u),fun i o u=>(nomatch u),fun i j o p u=>(nomatch u)⟩
 refine(h.2 A N w vs B hl fun j p C=>?_).mono ?_
 .cases j with
  |zero=>
   cases C;have:=J _ _ (Y 0 _ Z);generalize vs.getD 0 undef=x at this ⊢;cases this with
   |iv _ _ h=>exact .iv _ _ h
  |succ j=>cases C
 .rintro _ w' ⟨x,M',N',r,h',n',rfl,⟨rfl,rfl,rfl⟩,hx,hrr,hvr⟩;refine⟨x,M',N,.iv y,[],1,rfl,⟨rfl,rfl,rfl⟩,?_,⟨hrr.dZ,fun i o u=>(nomatch u),fun i o u=>(nomatch u),fun i o u=>(nomatch u),fun i j o p u=>(nomatch u)⟩,?_⟩
  .refine⟨hx.os,hx.tape,hx.output,hx.size,fun b hb hn=>hx.fN b hb fun i o u=>(nomatch u),h1.ov.trans hx.ov,fun b c g1 g2=>?_,.refl _ _,fun _ h=>h,fun i o u=>(nomatch u)⟩;cases g3:A b with
   |some c'=>exact h1.gx b c' g1 g3
   |none=>
    rcases hx.gx b c g3 g2 with g4|⟨i,o,g4,_⟩
    .exact .inl g4
    .exact nomatch g4
  .cases hvr with
   |iv _ _ h=>exact .iv _ _ h
theorem OP(hS:fC)(m:NM)(hm:m.length<=100000000):bD prog 88 [.mp 0] [cG m] (.iv (strs (eC m))) [] 1:=HE (c51 hS m hm)
theorem qM: ∀{m:NM} (_:(m.map (·.1)).Nodup) (k:an),jw .str m k=m.filter fun x=>!lc (x.1=k)
 | [],_,k=>rfl
 |(a,b)::r,h,k=>by
  rw[Py,P0]at h;by_cases hk:a=k
  .subst hk;have:r.filter (fun x=>!lc (x.1=a))=r:=R2.2 fun x j=>by
    have:x.1≠a:=fun e=>h.1 (e▸PW.2 ⟨x,j,rfl⟩);simp[this]
   simp[jw,this]
  .have u:=qM h.2 k;simp[jw,hk,u]
theorem ua{m:NM}{p:(KC.str).K×Int->Bool}(h:(m.map (·.1)).Nodup):((m.filter p).map (·.1)).Nodup:=h.sublist ((List.filter_sublist).map _)
theorem mq: ∀(b:List an) {m:NM} (_:(m.map (·.1)).Nodup),b.foldl (fun m k=>jw .str m k) m=m.filter fun x=>!du b x.1
 | [],m,h=>(R2.2 fun _ _=>rfl).symm
 |k::r,m,h=>by
  rw[Qd,qM h,mq r (ua h),List.filter_filter];congr 1
  funext x
  by_cases hk:x.1=k
  .simp[du,hk]
  .have: ¬k=x.1:=fun e=>hk e.symm
   simp[du,hk,this]
def ku(r:ax)(a:fw):NM:=(aD (a7 a)).filter fun x=>!du (aC r) x.1
theorem kj(l:List an):(aD l).length<=l.length:=by
 have h:=dL l;have:=uT h.1 fun x b=>(h.2 x).1 b;rwa[PS]at this
theorem d79(r:ax)(a:fw)(hb:a.size<=100000000000):bD prog 157 [.iv (ck r),ag a.c] [] (.mp 0) [(0,io (cG (ku r a)))] 1:=by
 refine bD.le (args:=[.iv (ck r),ag a.c1]) ?_ ⟨.refl _,a.AZ,ac⟩;have I:=js a;have A:=(dL (a7 a)).1;refine au ab func157 Z (by decide) ntmps157 Z (by simp) ?_;refine gA Z (zq [] (J7 a (by omega)) ?_);refine gA Z ?_;refine eU (aD (aC r)) (fun vs=>⟨[(5,.mp 1),(13,.ptr 2 0)],[(1,io (cG ((fM (aD (aC r)) vs).foldl (fun m k=>jw .str m k) (aD (a7 a))))),(2,io (.bI .str wY (aD (aC r)) vs is))],3⟩)
  (fun vs=>vs.Nodup∧ ∀j∈vs,j<(aD (aC r)).length) [] ⟨P6,by simp⟩
  (zW (zC (hI Z Z (.inl Z) Z trivial))) fun vs G=>?_
 obtain⟨b,u⟩:=G;refine fj Z ac (dm Z Z Z Z Z (by decide) (fun y=>?_) fun j x C D=>?_)
 .have B:(fM (aD (aC r)) vs).foldl (fun m k=>jw .str m k) (aD (a7 a))=ku r a:=by
   rw[mq _ A];unfold ku;congr 1
   funext x
   congr 1;rw[QJ,bA,bA,(iY _ vs b u y).mem_iff];exact(dL (aC r)).2 x.1
  rw[B];refine gA Z (zD [1] Z (zW (zC ac)))
 .have hk:=jG (aD (aC r)) vs j x C;refine gA Z ⟨j,x,C,D,⟨P0.2 ⟨D,b⟩,fun i J=>(Px.1 J).elim (fun h=>h▸(Pj.1 C).1) (u i)⟩,[],zW (hM Z (by rw[hk,List.foldl_append];rfl) Z (hI Z Z (.inr Z) Z ac))⟩
theorem qN{may:List an->Expr->Bool}{more:List an->fw->Bool}{body:List Lit}: ∀(n:Nat) (occ:List an),(cV may more body n occ).length<=occ.length+n
 |0,occ=>Ps _
 |n+1,occ=>by
  cases h:bR (may occ) (more occ) occ body with
  |none=>rw[dX h];omega
  |some v=>
   rw[dW h];have:=qN (may:=may) (more:=more) (body:=body) n (occ++ [v]);rw[Pn,Qn]at this;omega
theorem qQ{may:List an->Expr->Bool}{more:List an->fw->Bool}{body:List Lit}(occ:List an):(bS may more body occ).length<=occ.length+4*Lit.aB body+1:=by
 have h1:=qN (may:=may) (more:=more) (body:=body) (3*body.length+1) (occ++body.flatMap bg);have b:=eR body;have j:=Lit.aG body;rw[Pn]at h1;unfold bS;omega
theorem zj(r:ax):(bK r).length<=4*Lit.aB r.body+1:=by
 have:=qQ (may:=fun b=>aV b) (more:=fun b=>lY (aC r) b) (body:=r.body) [];rw[Q6]at this;unfold bK;omega
def nf(r:ax):List an:=bS (fun b=>b7 b) (fun _=>fun _=>kw) r.body []
theorem Cb(r:ax):(nf r).length<=4*Lit.aB r.body+1:=by
 have:=qQ (may:=fun b=>b7 b) (more:=fun _=>fun _=>kw) (body:=r.body) [];rw[Q6]at this;unfold nf;omega
theorem NS(r:ax)(hb:8*Lit.aB r.body<=100000000000):bD prog 85 [.iv (lits r.body),.mp 0,.b5 (.func 86) [] [.ptr 1 0],.b5 (.func 87) [] []] [.ff,.cells [.mp 0]] (.bq []) [(0,io (cG (aD (nf r)))),(1,io (.cells [.mp 0]))] 2:=
 bD.JY (OL [] r.body (by simp;omega)) ⟨ru,.refl _,ac⟩
theorem c33(hS:fC)(r:ax)(hb:r.size<=10000000):Pure prog 68 [ag r.c] (.iv (strs (eC (aD (nf r))))):=by
 have h1:=kj (nf r);have b:=Cb r;have j:Lit.aB r.body<=r.size:=R4 _ _;refine ai ab func68 Z (by decide) ntmps68 Z (by simp) Z ?_;refine gA Z ?_;refine gA Z (zq [1,2] (NS r (by omega)) ?_);refine gA Z (zq [1] (OP hS (aD (nf r)) (by omega)) ?_);exact zU Z
def wq(r:ax)(lit:Int):List an:=if lit<0∨(r.body.length:Int)<=lit∨ ¬(aq r lit).kind=4 then[] else eC (ku r (aq r lit).agg)
theorem oi{P:Program}{k:FuncId}{args:List PV}{os:List AO}{r:PV}{h:AH}{n0:Nat}(hc:il P k){n:Nat}(hn: ∃sz b,PV.iv (.ct sz n b)∈args)(hh:n<=maxLen->bD P k args os r h n0):bD P k args os r h n0:=EV hc hn hh
def n9{α:Type}(p:α->Bool)(l:List α):Int:=match l.findIdx? p with
 |some i=>i
 |none=> -1
theorem fg{α:Type}{p:α->Bool}{l:List α}(h:l.any p=kw):n9 p l= -1:=by
 have:l.findIdx? p=is:=by
  rw[Sj];intro x b;have:=Qk.1 h x b;simpa using this
 rw[n9,this]
theorem gk{α:Type}[Inhabited α]{p:α->Bool}{l:List α}{i:Nat}(h:(l.take i).any p=kw)(hi:i<l.length)(hp:p (l.getD i co)=jp):n9 p l=i:=by
 have:l.findIdx? p=io i:=by
  rw[R6];have b:l.getD i co=l[i]:=by simp[hi]
  refine⟨hi,b▸hp,fun j u=>?_⟩;have:=Qk.1 h l[j] (Sz.2 ⟨j,by rw[P8,am u,Pl (by omega)]⟩);simpa using this
 rw[n9,this]
theorem gl{α:Type}(p:α->Bool)(l:List α):lc (n9 p l>=0)=l.any p:=by
 unfold n9;cases h:l.findIdx? p with
 |none=>
  have:=Sj.1 h;have:l.any p=kw:=Qk.2 fun x j=>by simp[this x j]
  rw[this];rfl
 |some i=>
  obtain⟨h1,b,_⟩:=R6.1 h;rw[Qz.2 ⟨_,P3 h1,b⟩];simp
theorem CW{a b:Int}(h:a=b):pI a=pI b:=by rw[h]
theorem O3(x:Int):Pure prog 117 [pI x] (pB (!lc (x=1)&&!lc (x=2))):=by
 refine ai ab func117 Z (by decide) ntmps117 Z (by simp) Z ?_
 repeat' (first|(refine gA Z (zI (fun _=>?_) (fun _=>?_)))|(refine gA Z (zL (.of_eq ?_))))
 all_goals(refine(lW ?_:pB _=pB _);simp_all)
theorem O2(t:Term):Pure prog 160 [ag t.c] (pB (lc (t.kind=3))):=by
 refine ai ab func160 Z (by decide) ntmps160 Z (by simp) Z ?_;exact zU Z
theorem O1(t:Lit):Pure prog 161 [ag t.c] (pB (lc (t.kind=4))):=by
 refine ai ab func161 Z (by decide) ntmps161 Z (by simp) Z ?_;exact zU Z
def cR(v:dG):Int:=if v.kind=1 then(if v.sym=Pq∧ -2147483647<=v.num∧v.num<=2147483647 then 0 else 20) else if v.kind=2 then(if v.num=0∧v.sym.size<=64 then 0 else 20) else 20
theorem NZ(v:dG):Pure prog 141 [ag v.c] (pI (cR v)):=by
 refine ai ab func141 Z (by decide) ntmps141 Z (by simp) Z ?_
 repeat' (first|(refine gA Z (zI (fun _=>?_) (fun _=>?_)))|(refine gA Z (zL (.of_eq ?_))))
 all_goals(refine(CW ?_:pI _=pI _);have hE:(⟨#[]⟩:ByteArray)=Pq:=rfl;simp_all [cR];try omega)
def Decl.z:Decl:=⟨Pq,[],⟨0,0⟩⟩
def Bu(d:Decl):IV:= .agg d.c
def Fc:Value:= .agg #[.string Pq,.slice is 0 0,.int .i64 0,.int .i64 0]
def intOf:List IV->Int
 | [.v (.int .i64 n)]=>n
 |_=>0
def OG:PV->Decl
 | .agg [.iv (.v (.string s)),.iv (.ct _ n el),.iv (.v (.int _ a)),.iv (.v (.int _ b))]=>⟨s,(PT n).map fun k=>intOf (el k),⟨a,b⟩⟩
 |_=>Decl.z
abbrev DM:=List ((KC.str).K×Decl)
abbrev J4(m:DM):AO:= .map .str Bu Decl.z Fc OG m
abbrev NQ(m:DM):IV:= .dQ .str Bu Decl.z Fc m
theorem J2(d:Decl):OG (ag d.c)=d:=by
 show(⟨d.name,(PT d.types.length).map fun k=>intOf (jV (d.types.getD k co)),⟨d.at_.line,d.at_.FP⟩⟩:Decl)=d;have:(PT d.types.length).map (fun k=>intOf (jV (d.types.getD k co)))=d.types:=by
  apply RC;intro k;by_cases hk:k<d.types.length
  .simp[hk,intOf,jV]
  .simp[hk]
 rw[this]
theorem Fb: ∀M,IR M (Bu Decl.z) Fc:=fun M=>by
 refine .agg _ _ Z fun j p b=>?_
 match j,b with
 |0,b=>cases b;exact .v _
 |1,b=>cases b;exact .fp _ _ _ _
 |2,b=>cases b;exact .v _
 |3,b=>cases b;exact .v _
 |j+4,b=>simp[Decl.c]at b
theorem Oj(l:List IV):ah (ag l) (.iv (.agg l)):=by
 intro M N U x h;generalize b:ag l=q at h;cases h with
 |agg cs ys hl hr=>
  cases b;refine .iv _ _ (.agg _ _ (by simpa using hl) fun j p u=>?_);have:=hr j (.iv p) (by rw[Pp,u];rfl);generalize ys.getD j undef=y at this ⊢;cases this with
  |iv _ _ h=>exact h
 |_=>cases b
theorem Fe(d:Decl):ah (ag d.c) (.iv (Bu (OG (ag d.c)))):=by rw[J2];exact Oj _
def iJ(m:DM)(d:Decl):DM:=if cU .str m d.name=jp then m else cA .str m d.name d
def qt(p:Prog):DM:=p.aR.foldl iJ []
abbrev cD(p:Prog):IV:=NQ (qt p)
theorem sv{V:Type}: ∀(m:List ((KC.str).K×V)) (k:an) (v:V),(cA .str m k v).length<=m.length+1
 | [],_,_=>by simp[cA]
 |(a,b)::r,k,v=>by
  have:=sv r k v;simp only[cA];split
  .simp
  .simp only[PX];omega
theorem d50(p:Prog)(hb:p.aR.length<=1000000000000):bD prog 73 [ag p.c] [] (.mp 0) [(0,io (J4 (qt p)))] 1:=by
 refine au ab func73 Z (by decide) ntmps73 Z (by simp) ?_;refine gA Z ?_;refine aJ 0 p.aR.length (PA _) (fun i=>⟨[(3,.mp 1),(13,.iv (bN 4 p.aR Decl.c)),(14,pI p.aR.length),(15,pI i)],[(1,io (J4 ((p.aR.take i).foldl iJ [])))],2⟩) (fun _=>True) [] ac
  (zW (LK Z Fb Z trivial)) fun i u _=>?_
 refine zJ Z Z (fun h1=>?_) fun h1=>?_
 .have h1:i<p.aR.length:=by simpa using h1
  have hs:=fU (g:=iJ) (b:=[]) h1;refine zJ Z Z (fun j=>?_) fun j=>?_
  .have j:cU .str ((p.aR.take i).foldl iJ []) (p.aR.getD i co).name=kw:=by simpa using j
   rw[iJ,be (by rw[j];simp)]at hs;refine fj Z ?_ ?_
   .repeat' (first|exact ac|exact rfl|exact Fe _|exact ah.refl _|apply Pm)
    all_goals omega
   exact⟨h1,ac,[],zW (hM Z (by rw[hs,<-J2 (p.aR.getD i co)];rfl) Z ac)⟩
  .have j:cU .str ((p.aR.take i).foldl iJ []) (p.aR.getD i co).name=jp:=by simpa using j
   rw[iJ,am j]at hs;refine gA Z ⟨h1,ac,[],zW (hM Z (by rw[hs]) Z ac)⟩
 .have h1:p.aR.length<=i:=by simpa using h1
  rw[Pz h1];refine gA Z (zD [1] Z (zW (zC ac)))
def tG(p:Prog)(a:Atom):Bool:=!cU .str (qt p) a.rel
def fO(p:Prog)(s:an):Decl:=dt .str (qt p) s Decl.z
def wP(p:Prog)(a:Atom):Bool:=!lc ((a.ak.length:Int)=((fO p a.rel).types.length:Int))
theorem d113(p:Prog)(a:Atom):bD prog 125 [ag a.c,.ptr 0 0] [.cells [.iv (cD p)]] (pB (tG p a)) [(0,io (.cells [.iv (cD p)]))] 1:=by
 refine au ab func125 Z (by decide) ntmps125 Z (by simp) ?_;refine gA Z (zD [] Z (zM ⟨.of_eq Z,rfl,ac⟩ (zO ac)))
theorem d115(p:Prog)(a:Atom):bD prog 127 [ag a.c,.ptr 0 0] [.cells [.iv (cD p)]] (pB (wP p a)) [(0,io (.cells [.iv (cD p)]))] 1:=by
 refine au ab func127 Z (by decide) ntmps127 Z (by simp) ?_;refine gA Z (zD [] Z (zM ⟨.of_eq Z,rfl,ac⟩ (zO ac)))
theorem i187(l:List Int):bD prog 152 [.iv (bN 1 l jV),.b5 (.func 117) [] []] [] (pI (n9 (fun x=>!lc (x=1)&&!lc (x=2)) l)) [] 0:=by
 refine oi (bf func152 Z (by decide)) ⟨_,_,Pv⟩ fun j=>?_;simp only[maxLen]at j;refine au ab func152 Z (by decide) ntmps152 Z (by simp) ?_;refine gA Z ?_
 refine aJ 0 l.length (PA _) (fun i=>⟨[(0,.iv (bN 1 l jV)),(1,.b5 (.func 117) [] []),(7,pI l.length),(8,pI i)],[],0⟩) (fun i=>(l.take i).any (fun x=>!lc (x=1)&&!lc (x=2))=kw) [] (by simp)
  (zW trivial) fun i y u=>?_
 refine zJ Z Z (fun h1=>?_) fun h1=>?_
 .have h1:i<l.length:=by simpa using h1
  refine gA Z (zp (O3 (l.getD i co)) ?_);refine zJ Z Z (fun b=>?_) fun b=>?_
  .have b:(fun x=>!lc (x=1)&&!lc (x=2)) (l.getD i co)=jp:=b;rw[gk u h1 b];refine gA Z (zD [] Z (zW ac))
  .have b:(fun x=>!lc (x=1)&&!lc (x=2)) (l.getD i co)=kw:=b;refine gA Z ⟨h1,(cK u h1).2 b,[],zW ac⟩
 .have h1:l.length<=i:=by simpa using h1
  rw[fg (any_none u h1)];refine gA Z (zD [] Z (zW ac))
theorem d153(l:List Int):bD prog 116 [.iv (bN 1 l jV),.b5 (.func 117) [] []] [] (pB (l.any (fun x=>!lc (x=1)&&!lc (x=2)))) [] 0:=by
 refine au ab func116 Z (by decide) ntmps116 Z (by simp) ?_;refine gA Z (zq [] (i187 l) ?_);refine gA Z (zD [] Z (zM ⟨.of_eq (lW (gl _ l)),rfl,ac⟩ ac))
theorem i191(l:List Term):bD prog 194 [.iv (bN 5 l Term.c),.b5 (.func 160) [] []] [] (pI (n9 (fun x:Term=>lc (x.kind=3)) l)) [] 0:=by
 refine oi (bf func194 Z (by decide)) ⟨_,_,Pv⟩ fun j=>?_;simp only[maxLen]at j;refine au ab func194 Z (by decide) ntmps194 Z (by simp) ?_;refine gA Z ?_
 refine aJ 0 l.length (PA _) (fun i=>⟨[(0,.iv (bN 5 l Term.c)),(1,.b5 (.func 160) [] []),(7,pI l.length),(8,pI i)],[],0⟩) (fun i=>(l.take i).any (fun x:Term=>lc (x.kind=3))=kw) [] (by simp)
  (zW trivial) fun i y u=>?_
 refine zJ Z Z (fun h1=>?_) fun h1=>?_
 .have h1:i<l.length:=by simpa using h1
  refine gA Z (zp (O2 (l.getD i co)) ?_);refine zJ Z Z (fun b=>?_) fun b=>?_
  .have b:(fun x:Term=>lc (x.kind=3)) (l.getD i co)=jp:=b;rw[gk u h1 b];refine gA Z (zD [] Z (zW ac))
  .have b:(fun x:Term=>lc (x.kind=3)) (l.getD i co)=kw:=b;refine gA Z ⟨h1,(cK u h1).2 b,[],zW ac⟩
 .have h1:l.length<=i:=by simpa using h1
  rw[fg (any_none u h1)];refine gA Z (zD [] Z (zW ac))
theorem d157(l:List Term):bD prog 159 [.iv (bN 5 l Term.c),.b5 (.func 160) [] []] [] (pB (l.any (fun x:Term=>lc (x.kind=3)))) [] 0:=by
 refine au ab func159 Z (by decide) ntmps159 Z (by simp) ?_;refine gA Z (zq [] (i191 l) ?_);refine gA Z (zD [] Z (zM ⟨.of_eq (lW (gl _ l)),rfl,ac⟩ ac))
theorem i192(l:List Lit):bD prog 137 [.iv (bN 30 l Lit.c),.b5 (.func 161) [] []] [] (pI (n9 (fun x:Lit=>lc (x.kind=4)) l)) [] 0:=by
 refine oi (bf func137 Z (by decide)) ⟨_,_,Pv⟩ fun j=>?_;simp only[maxLen]at j;refine au ab func137 Z (by decide) ntmps137 Z (by simp) ?_;refine gA Z ?_
 refine aJ 0 l.length (PA _) (fun i=>⟨[(0,.iv (bN 30 l Lit.c)),(1,.b5 (.func 161) [] []),(7,pI l.length),(8,pI i)],[],0⟩) (fun i=>(l.take i).any (fun x:Lit=>lc (x.kind=4))=kw) [] (by simp)
  (zW trivial) fun i y u=>?_
 refine zJ Z Z (fun h1=>?_) fun h1=>?_
 .have h1:i<l.length:=by simpa using h1
  refine gA Z (zp (O1 (l.getD i co)) ?_);refine zJ Z Z (fun b=>?_) fun b=>?_
  .have b:(fun x:Lit=>lc (x.kind=4)) (l.getD i co)=jp:=b;rw[gk u h1 b];refine gA Z (zD [] Z (zW ac))
  .have b:(fun x:Lit=>lc (x.kind=4)) (l.getD i co)=kw:=b;refine gA Z ⟨h1,(cK u h1).2 b,[],zW ac⟩
 .have h1:l.length<=i:=by simpa using h1
  rw[fg (any_none u h1)];refine gA Z (zD [] Z (zW ac))
theorem d159(l:List Lit):bD prog 90 [.iv (bN 30 l Lit.c),.b5 (.func 161) [] []] [] (pB (l.any (fun x:Lit=>lc (x.kind=4)))) [] 0:=by
 refine au ab func90 Z (by decide) ntmps90 Z (by simp) ?_;refine gA Z (zq [] (i192 l) ?_);refine gA Z (zD [] Z (zM ⟨.of_eq (lW (gl _ l)),rfl,ac⟩ ac))
theorem NF(p:Prog)(l:List Atom):bD prog 158 [.iv (bN 2 l Atom.c),.b5 (.func 125) [] [.ptr 0 0]] [.cells [.iv (cD p)]] (pI (n9 (fun x:Atom=>tG p x) l)) [(0,io (.cells [.iv (cD p)]))] 1:=by
 refine oi (bf func158 Z (by decide)) ⟨_,_,Pv⟩ fun j=>?_;simp only[maxLen]at j;refine au ab func158 Z (by decide) ntmps158 Z (by simp) ?_;refine gA Z ?_
 refine aJ 0 l.length (PA _) (fun i=>⟨[(0,.iv (bN 2 l Atom.c)),(1,.b5 (.func 125) [] [.ptr 0 0]),(7,pI l.length),(8,pI i)],[(0,io (.cells [.iv (cD p)]))],1⟩) (fun i=>(l.take i).any (fun x:Atom=>tG p x)=kw) [] (by simp)
  (zW (zO trivial)) fun i y u=>?_
 refine zJ Z Z (fun h1=>?_) fun h1=>?_
 .have h1:i<l.length:=by simpa using h1
  refine gA Z (zq [0] (d113 p (l.getD i co)) ?_);refine zJ Z Z (fun b=>?_) fun b=>?_
  .have b:(fun x:Atom=>tG p x) (l.getD i co)=jp:=b;rw[gk u h1 b];refine gA Z (zD [] Z (zW (zO ac)))
  .have b:(fun x:Atom=>tG p x) (l.getD i co)=kw:=b;refine gA Z ⟨h1,(cK u h1).2 b,[],zW (zO ac)⟩
 .have h1:l.length<=i:=by simpa using h1
  rw[fg (any_none u h1)];refine gA Z (zD [] Z (zW (zO ac)))
theorem NY(p:Prog)(l:List Atom):bD prog 123 [.iv (bN 2 l Atom.c),.b5 (.func 125) [] [.ptr 0 0]] [.cells [.iv (cD p)]] (pB (l.any (fun x:Atom=>tG p x))) [(0,io (.cells [.iv (cD p)]))] 1:=by
 refine au ab func123 Z (by decide) ntmps123 Z (by simp) ?_;refine gA Z (zq [0] (NF p l) ?_);refine gA Z (zD [] Z (zM ⟨.of_eq (lW (gl _ l)),rfl,ac⟩ (zO ac)))
theorem ND(p:Prog)(l:List Atom):bD prog 158 [.iv (bN 2 l Atom.c),.b5 (.func 127) [] [.ptr 0 0]] [.cells [.iv (cD p)]] (pI (n9 (fun x:Atom=>wP p x) l)) [(0,io (.cells [.iv (cD p)]))] 1:=by
 refine oi (bf func158 Z (by decide)) ⟨_,_,Pv⟩ fun j=>?_;simp only[maxLen]at j;refine au ab func158 Z (by decide) ntmps158 Z (by simp) ?_;refine gA Z ?_
 refine aJ 0 l.length (PA _) (fun i=>⟨[(0,.iv (bN 2 l Atom.c)),(1,.b5 (.func 127) [] [.ptr 0 0]),(7,pI l.length),(8,pI i)],[(0,io (.cells [.iv (cD p)]))],1⟩) (fun i=>(l.take i).any (fun x:Atom=>wP p x)=kw) [] (by simp)
  (zW (zO trivial)) fun i y u=>?_
 refine zJ Z Z (fun h1=>?_) fun h1=>?_
 .have h1:i<l.length:=by simpa using h1
  refine gA Z (zq [0] (d115 p (l.getD i co)) ?_);refine zJ Z Z (fun b=>?_) fun b=>?_
  .have b:(fun x:Atom=>wP p x) (l.getD i co)=jp:=b;rw[gk u h1 b];refine gA Z (zD [] Z (zW (zO ac)))
  .have b:(fun x:Atom=>wP p x) (l.getD i co)=kw:=b;refine gA Z ⟨h1,(cK u h1).2 b,[],zW (zO ac)⟩
 .have h1:l.length<=i:=by simpa using h1
  rw[fg (any_none u h1)];refine gA Z (zD [] Z (zW (zO ac)))
theorem NX(p:Prog)(l:List Atom):bD prog 123 [.iv (bN 2 l Atom.c),.b5 (.func 127) [] [.ptr 0 0]] [.cells [.iv (cD p)]] (pB (l.any (fun x:Atom=>wP p x))) [(0,io (.cells [.iv (cD p)]))] 1:=by
 refine au ab func123 Z (by decide) ntmps123 Z (by simp) ?_;refine gA Z (zq [0] (ND p l) ?_);refine gA Z (zD [] Z (zM ⟨.of_eq (lW (gl _ l)),rfl,ac⟩ (zO ac)))
def cB(l:Lit):List Atom:=if l.kind=1∨l.kind=2 then[l.atom] else[]
theorem nU: ∀l:List Lit,(l.flatMap cB).length<=l.length
 | []=>by simp
 |x::r=>by
  have h1:=nU r;have b:(cB x).length<=1:=by unfold cB;split<;>simp
  simp only[Qs,Pn,PX];omega
def wu(r:ax)(lit:Int):List Lit:=if(aq r lit).kind=4 then(aq r lit).ar else[aq r lit]
def eA(r:ax)(lit:Int):List Atom:=if lit<0 then[r.head] else(wu r lit).flatMap cB
theorem HS(r:ax)(lit:Int)(h:0<=lit):jy (.ct 30 ((lit+1).toNat-lit.toNat) (fun j=>(r.body.getD (lit.toNat+j) co).c)) (lits [aq r lit]):=by
 have e:(lit+1).toNat-lit.toNat=1:=by omega
 rw[e]
 exact .ct Z (fun j b=>by
  have:j=0:=by omega
  subst this;rfl)
theorem N4(r:ax)(lit:Int)(h1:lit<r.body.length)(hb:r.size<=1000000000000):Pure prog 124 [ag r.c,pI lit] (.iv (bN 2 (eA r lit) Atom.c)):=by
 have R:=Lit.aG r.body;have h0:Lit.aB r.body<=r.size:=R4 _ _;refine ai ab func124 Z (by decide) ntmps124 Z (by simp) Z ?_;refine zJ Z Z (fun A=>?_) fun A=>?_
 .have A:lit<0:=by simpa using A
  refine gA Z (dq (by first|exact .inr Z|exact .inl Z) Z Z (by rw[eA,am A];rfl) (by rw[eA,am A];rfl))
 have A: ¬lit<0:=by simpa using A
 have hk:lit.toNat<r.body.length:=by omega
 have I:=Lit.bT r.body lit.toNat hk;have b0:=(aq r lit).size_eq;have c0:=Lit.aG (aq r lit).ar;have a0:(aq r lit).size<=Lit.aB r.body:=I;refine zJ Z Z (fun B=>?_) fun B=>?_
 .have B:(aq r lit).kind=4:=by simpa[aq]using B
  have y:eA r lit=(aq r lit).ar.flatMap cB:=by rw[eA,be A,wu,am B]
  refine gA Z ?_;refine lh 6 2 Z ?_;refine aJ 0 ((aq r lit).ar).length (PA _) (fun i=>⟨[(6,.sl 2 0 ((((aq r lit).ar).take i).flatMap cB).length 2),(30,.iv (lits ((aq r lit).ar))),(31,pI ((aq r lit).ar).length),(32,pI i)],[(2,io (aF 2 ((((aq r lit).ar).take i).flatMap cB) Atom.c))],3⟩) (fun _=>True) [1] ac
   (zM (bi ⟨.iv (l9 _),rfl,bi (bi trivial)⟩) (zS trivial)) fun i Y _=>?_
  have G:=nU (((aq r lit).ar).take i);have J:(((aq r lit).ar).take i).length<=((aq r lit).ar).length:=by rw[Qy];exact SS _ _
  have D:((aq r lit).ar).length<=1000000000000:=by first|omega|(rw[Qn];omega)
  refine zJ Z Z (fun b=>?_) fun b=>?_
  .have b:i<((aq r lit).ar).length:=zN b;have hs:=bL (f:=cB) b;have j:((((aq r lit).ar).getD i co).kind=1∨(((aq r lit).ar).getD i co).kind=2)->(((aq r lit).ar).take (i+1)).flatMap cB=(((aq r lit).ar).take i).flatMap cB++ [(((aq r lit).ar).getD i co).atom]:=fun h=>by rw[hs,cB,am h]
   have C: ¬((((aq r lit).ar).getD i co).kind=1∨(((aq r lit).ar).getD i co).kind=2)->(((aq r lit).ar).take (i+1)).flatMap cB=(((aq r lit).ar).take i).flatMap cB:=fun h=>by rw[hs,cB,be h,Qm]
   refine zJ Z Z (fun u=>?_) fun u=>?_
   .have u: ¬(((aq r lit).ar).getD i co).kind=1:=by simpa using u
    refine zJ Z Z (fun x=>?_) fun x=>?_
    .have x:(((aq r lit).ar).getD i co).kind=2:=by simpa using x
     have hs:=j (.inr x);refine gA Z ⟨b,ac,[5],zM ⟨.row (by rw[hs,Pn];rfl),rfl,bi (bi (bi ac))⟩ (hR Z (by rw[hs,PF];rfl) Z ac)⟩
    .have x: ¬(((aq r lit).ar).getD i co).kind=2:=by simpa using x
     have hs:=C (fun h=>h.elim u x);refine gA Z ⟨b,ac,[2],zM ⟨.row (by rw[hs]),rfl,bi (bi (bi ac))⟩ (hR Z (by rw[hs]) Z ac)⟩
   .have u:(((aq r lit).ar).getD i co).kind=1:=by simpa using u
    have hs:=j (.inl u);refine gA Z ⟨b,ac,[5],zM ⟨.row (by rw[hs,Pn];rfl),rfl,bi (bi (bi ac))⟩ (hR Z (by rw[hs,PF];rfl) Z ac)⟩
  .have b:((aq r lit).ar).length<=i:=zG b;rw[Pz b] at*
   refine gA Z (dq (by first|exact .inr Z|exact .inl Z) Z Z (by rw[y]) (by rw[y]))
 .have B: ¬(aq r lit).kind=4:=by simpa[aq]using B
  have y:eA r lit=[aq r lit].flatMap cB:=by rw[eA,be A,wu,be B]
  refine gA Z ?_;refine lh 6 2 Z ?_;refine aJ 0 ([aq r lit]).length (PA _) (fun i=>⟨[(6,.sl 2 0 ((([aq r lit]).take i).flatMap cB).length 2),(30,.iv (lits ([aq r lit]))),(31,pI ([aq r lit]).length),(32,pI i)],[(2,io (aF 2 ((([aq r lit]).take i).flatMap cB) Atom.c))],3⟩) (fun _=>True) [1] ac
   (zM (bi ⟨.iv (HS r lit (by omega)),rfl,.of_eq (CW (by simp only[Qn];omega)),rfl,bi trivial⟩) (zS trivial)) fun i Y _=>?_
  have G:=nU (([aq r lit]).take i);have J:(([aq r lit]).take i).length<=([aq r lit]).length:=by rw[Qy];exact SS _ _
  have D:([aq r lit]).length<=1000000000000:=by first|omega|(rw[Qn];omega)
  refine zJ Z Z (fun b=>?_) fun b=>?_
  .have b:i<([aq r lit]).length:=zN b;have hs:=bL (f:=cB) b;have j:((([aq r lit]).getD i co).kind=1∨(([aq r lit]).getD i co).kind=2)->(([aq r lit]).take (i+1)).flatMap cB=(([aq r lit]).take i).flatMap cB++ [(([aq r lit]).getD i co).atom]:=fun h=>by rw[hs,cB,am h]
   have C: ¬((([aq r lit]).getD i co).kind=1∨(([aq r lit]).getD i co).kind=2)->(([aq r lit]).take (i+1)).flatMap cB=(([aq r lit]).take i).flatMap cB:=fun h=>by rw[hs,cB,be h,Qm]
   refine zJ Z Z (fun u=>?_) fun u=>?_
   .have u: ¬(([aq r lit]).getD i co).kind=1:=by simpa using u
    refine zJ Z Z (fun x=>?_) fun x=>?_
    .have x:(([aq r lit]).getD i co).kind=2:=by simpa using x
     have hs:=j (.inr x);refine gA Z ⟨b,ac,[5],zM ⟨.row (by rw[hs,Pn];rfl),rfl,bi (bi (bi ac))⟩ (hR Z (by rw[hs,PF];rfl) Z ac)⟩
    .have x: ¬(([aq r lit]).getD i co).kind=2:=by simpa using x
     have hs:=C (fun h=>h.elim u x);refine gA Z ⟨b,ac,[2],zM ⟨.row (by rw[hs]),rfl,bi (bi (bi ac))⟩ (hR Z (by rw[hs]) Z ac)⟩
   .have u:(([aq r lit]).getD i co).kind=1:=by simpa using u
    have hs:=j (.inl u);refine gA Z ⟨b,ac,[5],zM ⟨.row (by rw[hs,Pn];rfl),rfl,bi (bi (bi ac))⟩ (hR Z (by rw[hs,PF];rfl) Z ac)⟩
  .have b:([aq r lit]).length<=i:=zG b;rw[Pz b] at*
   refine gA Z (dq (by first|exact .inr Z|exact .inl Z) Z Z (by rw[y]) (by rw[y]))
theorem d110(p:Prog)(r:ax)(lit:Int)(h1:lit<r.body.length)(hb:r.size<=1000000000000):bD prog 122 [pI lit,.ptr 0 0,.ptr 1 0] [aw r.c,.cells [.iv (cD p)]] (pB ((eA r lit).any fun x=>tG p x)) [(0,io (aw r.c)),(1,io (.cells [.iv (cD p)]))] 2:=by
 refine au ab func122 Z (by decide) ntmps122 Z (by simp) ?_;refine gA Z (zp (N4 r lit h1 hb) ?_);refine gA Z (zq [1] (NY p (eA r lit)) ?_);refine gA Z (zD [] Z (zW (zK (zO ac))))
theorem d114(p:Prog)(r:ax)(lit:Int)(h1:lit<r.body.length)(hb:r.size<=1000000000000):bD prog 126 [pI lit,.ptr 0 0,.ptr 1 0] [aw r.c,.cells [.iv (cD p)]] (pB ((eA r lit).any fun x=>wP p x)) [(0,io (aw r.c)),(1,io (.cells [.iv (cD p)]))] 2:=by
 refine au ab func126 Z (by decide) ntmps126 Z (by simp) ?_;refine gA Z (zp (N4 r lit h1 hb) ?_);refine gA Z (zq [1] (NX p (eA r lit)) ?_);refine gA Z (zD [] Z (zW (zK (zO ac))))
def kM(r:ax)(lit:Int):Bool:=if lit<0 then r.head.ak.any fun x=>lc (x.kind=3) else if(aq r lit).kind=4 then((aq r lit).ar.any fun x=>lc (x.kind=4))||du (a7 (aq r lit).agg) (aq r lit).bB else kw
theorem O7(r:ax)(lit:Int)(h1:lit<r.body.length)(hb:r.size<=100000000):Pure prog 129 [ag r.c,pI lit] (pB (kM r lit)):=by
 have G:=Lit.aG r.body;have R:Lit.aB r.body<=r.size:=R4 _ _;refine ai ab func129 Z (by decide) ntmps129 Z (by simp) Z ?_;refine zJ Z Z (fun b=>?_) fun b=>?_
 .have b:lit<0:=by simpa using b
  refine gA Z (zq [] (d157 r.head.ak) ?_);refine gA Z (zL (.of_eq ?_));rw[kM,am b];rfl
 have b: ¬lit<0:=by simpa using b
 have hk:lit.toNat<r.body.length:=by omega
 have B:=Lit.bT r.body lit.toNat hk;have C:=(aq r lit).jr;have I:(aq r lit).size<=Lit.aB r.body:=B;have D:=js (aq r lit).agg;refine zJ Z Z (fun j=>?_) fun j=>?_
 .have j: ¬(aq r lit).kind=4:=by simpa[aq]using j
  refine gA Z (zL (.of_eq ?_));rw[kM,be b,be j]
 have j:(aq r lit).kind=4:=by simpa[aq]using j
 refine gA Z (bQ [] (bD.le (aa:=[.iv (tt (aq r lit).ar),.b5 (.func 161) [] []]) (d159 (aq r lit).ar) ⟨.iv (l9 _),.refl _,ac⟩) Z Z Z Z Z Z Z Z ?_);refine zE Z Z (fun u=>?_) fun u=>?_
 .have u:((aq r lit).ar.any fun x=>lc (x.kind=4))=kw:=u;have A:=bz (a7 (aq r lit).agg) (aq r lit).bB;have y:=b4 (occ:=a7 (aq r lit).agg) (s:=(aq r lit).bB);refine gA Z (zd [] (d127 (aq r lit).agg (by omega)) ?_);refine gA Z (zL (.of_eq ?_));refine(lW ?_:pB (lc (dt .str (aD (a7 (aq r lit).agg)) (aq r lit).bB 0>0))=_);rw[kM,be b,am j,u,y,A,Rm];by_cases J:om (a7 (aq r lit).agg) (aq r lit).bB=0<;>simp[J];omega
 .have u:((aq r lit).ar.any fun x=>lc (x.kind=4))=jp:=u;refine gA Z (zL (.of_eq ?_));rw[kM,be b,am j,u];rfl
theorem d116(r:ax)(lit:Int)(h1:lit<r.body.length)(hb:r.size<=100000000):bD prog 128 [pI lit,.ptr 0 0] [aw r.c] (pB (kM r lit)) [(0,io (aw r.c))] 1:=by
 refine au ab func128 Z (by decide) ntmps128 Z (by simp) ?_;refine gA Z (zp (O7 r lit h1 hb) ?_);refine gA Z (zD [] Z (zW (zK ac)))
def pK(r:ax)(lit:Int):Pos:=if lit<0 then r.at_ else(aq r lit).at
theorem Fx(r:ax)(lit:Int)(h1:lit<r.body.length):Pure prog 133 [ag r.c,pI lit] (ag [iI (pK r lit).line,iI (pK r lit).FP]):=by
 refine ai ab func133 Z (by decide) ntmps133 Z (by simp) Z ?_;refine zJ Z Z (fun b=>?_) fun b=>?_
 .have b:lit<0:=by simpa using b
  refine gA Z (zL (.of_eq ?_));rw[pK,am b];rfl
 have b: ¬lit<0:=by simpa using b
 refine gA Z (zL (.of_eq ?_));rw[pK,be b];rfl
def kW(r:ax)(l:Lit):Nat:=if l.kind=4 then(ku r l.agg).length else 0
def Dv(r:ax):Nat:=r.body.foldl (fun n l=>n+kW r l) (aD (aC r)).length
theorem uX(r:ax)(l:Lit):kW r l<=l.size:=by
 unfold kW;split
 .have h1:(ku r l.agg).length<=(aD (a7 l.agg)).length:=QH _ _;have b:=kj (a7 l.agg);have j:=js l.agg;have u:=l.jr;omega
 .omega
theorem xm(r:ax): ∀(l:List Lit) (n:Nat),l.foldl (fun n l=>n+kW r l) n<=n+Lit.aB l
 | [],n=>by simp
 |x::t,n=>by
  have h1:=xm r t (n+kW r x);have b:=uX r x;simp only[Qd,Lit.aB];omega
theorem O8(r:ax)(hb:r.size<=100000000):Pure prog 121 [.iv (ck r)] (pI (Dv r)):=by
 have y:=Lit.aG r.body;have G:Lit.aB r.body<=r.size:=R4 _ _;have J:=wa r;have A:=kj (aC r);refine ai ab func121 Z (by decide) ntmps121 Z (by simp) Z ?_;refine gA Z ?_;refine aJ 0 r.body.length (PA _) (fun i=>⟨[(0,.iv (ck r)),(3,pI (((r.body.take i).foldl (fun n l=>n+kW r l) (aD (aC r)).length:Nat))),(15,.iv (lits r.body)),(16,pI r.body.length),(17,pI i)],[],0⟩) (fun _=>True) [] ac
  (zW trivial) fun i I _=>?_
 have B:=xm r (r.body.take i) (aD (aC r)).length;have C:=Lit.r9 r.body i;refine zJ Z Z (fun h1=>?_) fun h1=>?_
 .have h1:i<r.body.length:=by simpa using h1
  have hs:=fU (g:=fun n l=>n+kW r l) (b:=(aD (aC r)).length) h1;have D:=Lit.bT r.body i h1;have x:=(r.body.getD i co).jr;have u:=uX r (r.body.getD i co);refine zJ Z Z (fun j=>?_) fun j=>?_
  .have j:(r.body.getD i co).kind=4:=by simpa using j
   rw[kW,am j]at hs u;refine gA Z (zq [] (d79 r (r.body.getD i co).agg (by omega)) ?_);refine gA Z ⟨h1,ac,[],zM (bi ⟨.of_eq (CW (by rw[hs];rfl)),rfl,bi (bi (bi ac))⟩) ac⟩
  .have j: ¬(r.body.getD i co).kind=4:=by simpa using j
   rw[kW,be j]at hs;refine gA Z ⟨h1,ac,[],zM (bi ⟨.of_eq (CW (by rw[hs];rfl)),rfl,bi (bi (bi ac))⟩) ac⟩
 .have h1:r.body.length<=i:=by simpa using h1
  refine gA Z (zL (.of_eq ?_));rw[Pz h1];rfl
section
section
variable {may:List an->Expr->Bool} {more:List an->fw->Bool} {body:List Lit}
theorem qO: ∀(n:Nat) (occ:List an),cx (bC body) occ<n->bR (may (cV may more body n occ)) (more (cV may more body n occ)) (cV may more body n occ) body=is
 |0,occ,h=>by omega
 |n+1,occ,h=>by
  cases hv:bR (may occ) (more occ) occ body with
  |none=>rw[dX hv];exact hv
  |some v=>
   rw[dW hv];refine qO n _ ?_;obtain⟨g1,g2⟩:=jh hv;have j:=oQ g1 g2;have b:cx (bC body) (occ++ [v])=cx (bC body) (fQ occ v):=by
    unfold cx;congr 2
    funext x
    congr 1;rw[QJ,bA,bA,db,PG,Pw]
   omega
theorem qR(occ:List an):bR (may (bS may more body occ)) (more (bS may more body occ)) (bS may more body occ) body=is:=by
 refine qO _ _ ?_;have h1:=oR (bC body) (occ++body.flatMap bg);have b:=iQ body;omega
theorem mu: ∀(n:Nat) (occ:List an),∀x∈occ,x∈cV may more body n occ
 |0,occ,x,h=>h
 |n+1,occ,x,h=>by
  cases hv:bR (may occ) (more occ) occ body with
  |none=>rw[dX hv];exact h
  |some v=>rw[dW hv];exact mu n _ x (P2 _ h)
theorem mh{m1:Expr->Bool}{m2:fw->Bool}{occ:List an}: ∀{l:List Lit},bR m1 m2 occ l=is-> ∀x∈l,kR m1 m2 occ x=is
 | [],_,x,hx=>by cases hx
 |y::r,h,x,hx=>by
  simp only[bR]at h;split at h
  .cases h
  .rename_i h1;rcases Px.1 hx with rfl|hx
   .exact h1
   .exact mh h x hx
theorem qJ{m1:Expr->Bool}{m2:fw->Bool}{occ:List an}{v:an}: ∀{l:List Lit},bR m1 m2 occ l=io v-> ∃x∈l,kR m1 m2 occ x=io v
 | [],h=>by cases h
 |y::r,h=>by
  simp only[bR]at h;split at h
  .rename_i w j;exact⟨y,Pv,j.trans h⟩
  .obtain⟨x,u,b⟩:=qJ h;exact⟨x,Pu _ u,b⟩
variable (hmay: ∀a b:List an,(∀x∈a,x∈b)-> ∀e,may a e=jp->may b e=jp) (hmore: ∀a b:List an,(∀x∈a,x∈b)-> ∀e,more a e=jp->more b e=jp)
include hmay hmore
theorem AT{occ C:List an}(b: ∀x∈occ,x∈C){l:Lit}{v:an}(h:kR (may occ) (more occ) occ l=io v)(hC:kR (may C) (more C) C l=is):v∈C:=by
 have hl: ∀y,y∉C->du C y=kw:=fun y I=>ey.2 I;have hnew:=(sI h).2;refine QK fun D=>?_;unfold kR at h hC;by_cases j:(fq (may occ) occ l).2=jp
 .rw[am j]at h;simp only[Ph]at h;have B:(fq (may C) C l).2=jp:=by
   unfold fq at j h ⊢;split at j
   .cases j
   .rename_i G;rw[be G]at h ⊢;split at j
    .rename_i h1;rw[am h1]at h;have A:l.left.var=v:=h;rw[am ⟨h1.1,by rw[A];exact hl v D,hmay occ C b _ h1.2.2⟩]
    .rename_i h1;rw[be h1]at h;split at j
     .rename_i u;rw[am u]at h;have A:l.right.var=v:=h;split
      .rfl
      .rw[am ⟨u.1,by rw[A];exact hl v D,hmay occ C b _ u.2.2⟩]
     .cases j
  rw[am B]at hC;cases hC
 .rw[be j]at h;split at h
  .rename_i u;simp only[Ph]at h;split at hC
   .cases hC
   .rw[am ⟨u.1,by rw[h];exact hl v D,hmore occ C b _ u.2.2⟩]at hC;cases hC
  .cases h
theorem mr{C:List an}(hC:bR (may C) (more C) C body=is): ∀(n:Nat) (occ:List an),(∀x∈occ,x∈C)-> ∀x∈cV may more body n occ,x∈C
 |0,occ,h,x,hx=>h x hx
 |n+1,occ,h,x,hx=>by
  cases hv:bR (may occ) (more occ) occ body with
  |none=>rw[dX hv]at hx;exact h x hx
  |some v=>
   rw[dW hv]at hx;refine mr hC n _ (fun y hy=>?_) x hx;rcases PG.1 hy with hy|hy
   .exact h y hy
   .rw[Pw]at hy;subst hy;obtain⟨l,hl,b⟩:=qJ hv;exact AT hmay hmore h b (mh hC l hl)
theorem qP{j b:List an}(h: ∀x∈j,x∈b): ∀x∈bS may more body j,x∈bS may more body b:=by
 refine mr hmay hmore (qR b) _ _ fun x hx=>?_;refine mu _ _ x ?_;rcases PG.1 hx with hx|hx
 .exact P2 _ (h x hx)
 .exact Q4 _ hx
end
theorem pd(a b:List an)(h: ∀x∈a,x∈b)(e:Expr)(hc:aV a e=jp):aV b e=jp:=by
 unfold aV at*
 rw[P4] at*
 exact fun x j=>bA.2 (h x (bA.1 (hc x j)))
theorem xK(a b:List an)(h: ∀x∈a,x∈b)(e:Expr)(hc:b7 a e=jp):b7 b e=jp:=by
 unfold b7 at*
 cases hk:lc (e.kind=2) with
 |true=>simp
 |false=>
  rw[hk,Rm,Qc]at hc;rw[Rm,Qc];exact⟨hc.1,bA.2 (h _ (bA.1 hc.2))⟩
def zt(r:ax)(a:fw):List an:=((aD (a7 a)).map (·.1)).filter fun x=>du (aC r) x
def za(r:ax)(a:fw):List an:=bS (fun b=>aV b) (fun _=>fun _=>kw) a.body (zt r a)
theorem HG{r:ax}{a:fw}{occ:List an}(h:EC r a occ)(s:an):du (bS (fun occ=>aV occ) (fun _=>fun _=>kw) a.body occ) s=du (za r a) s:=by
 have j: ∀x,x∈zt r a↔x∈occ:=fun x=>by
  unfold zt;rw[PU,(dL (a7 a)).2 x,bA,h.2 x]
 rw[QJ,bA,bA];exact⟨qP (more:=fun _=>fun _=>kw) pd (fun _ _ _ _ h=>h) (fun x b=>(j x).2 b) s,qP (more:=fun _=>fun _=>kw) pd (fun _ _ _ _ h=>h) (fun x b=>(j x).1 b) s⟩
def sL(r:ax)(m:NM):Bool:=m.any fun x=>!du (bK r) x.1
theorem lZ{r:ax}{m:NM}(h: ∀j,j<m.length-> ∀x,m[j]? =io x->du (bK r) x.1=jp):sL r m=kw:=by
 refine Qk.2 fun x u=>?_;obtain⟨j,b⟩:=P9 u;rw[h j (Pj.1 b).1 x b];simp
theorem nY{r:ax}{m:NM}{j:Nat}{x:(KC.str).K×Int}(h:m[j]? =io x)(b:du (bK r) x.1=kw):sL r m=jp:=
 Qz.2 ⟨x,PY h,by rw[b];rfl⟩
def ky(r:ax)(a:fw):NM:=(aD (a7 a)).filter fun x=>!du ((ku r a).map (·.1)) x.1
def jT(r:ax)(lit:Int):Bool:=
 if lit<0 then sL r (aD (cF r.head))
 else if(aq r lit).kind=4 then(ku r (aq r lit).agg).any (fun x=>!du (za r (aq r lit).agg) x.1)||sL r (bump (ky r (aq r lit).agg) (aq r lit).bB)
 else sL r (aD (cH (aq r lit)))
theorem OI(a:Atom)(hb:a.ak.length<=100000000000):bD prog 135 [.mp 0,ag a.c] [.ff] (.bq []) [(0,io (cG (aD (cF a))))] 1:=
 bD.JY (d88 [] a (by simp;omega)) ⟨ru,ac⟩
theorem OH(l:Lit)(hb:l.size<=100000000000):bD prog 156 [.mp 0,ag l.c] [.ff] (.bq []) [(0,io (cG (aD (cH l))))] 1:=
 bD.JY (d89 l [] (by simp;omega)) ⟨ru,ac⟩
theorem uY(f:an->Bool)(s:an): ∀(m:NM),dt .str (m.filter fun x=>f x.1) s 0=if f s=jp then dt .str m s 0 else 0
 | []=>by simp[dt]
 |(a,b)::r=>by
  have j:=uY f s r;cases hf:f a with
  |true=>
   rw[List.filter_cons_of_pos (by exact hf)];simp only[dt];split
   .rename_i h;subst h;rw[am hf]
   .exact j
  |false=>
   rw[List.filter_cons_of_neg (by simp[hf]),j];simp only[dt];split
   .rename_i h;split
    .rename_i u;subst u;rw[hf]at h;cases h
    .rfl
   .rfl
theorem HQ(r:ax)(a:fw)(s:an):0<=dt .str (ky r a) s 0∧dt .str (ky r a) s 0<=om (a7 a) s:=by
 have h1:=bz (a7 a) s;have b:=uY (fun x=>!du ((ku r a).map (·.1)) x) s (aD (a7 a));unfold ky;rw[b,h1];split<;>omega
set_option maxHeartbeats 2000000 in
theorem O5(r:ax)(lit:Int)(hl:lit<r.body.length)(hb:r.size<=10000000):Pure prog 132 [.iv (ck r),pI lit] (pB (jT r lit)):=by
 have s0:=Lit.aG r.body;have h0:Lit.aB r.body<=r.size:=R4 _ _;have p0:r.head.ak.length<=r.size:=Sb _ _;have x0:=zj r;refine ai ab func132 Z (by decide) ntmps132 Z (by simp) Z ?_;refine gA Z (zq [] (d73 r (by omega)) ?_);refine zJ Z Z (fun D=>?_) fun D=>?_
 .have D:lit<0:=by simpa using D
  refine gA Z (zq [1] (OI r.head (by omega)) ?_);refine gA Z ?_;have e0:(aD (cF r.head)).length<=1000000000000:=by have:=kj (cF r.head);have:=ik r.head;omega
  refine eU (aD (cF r.head)) (fun vs=>⟨[(5,.mp 0),(76,.ptr 2 0)],[(0,io (cG (aD (bK r)))),(2,io (.bI .str wY (aD (cF r.head)) vs is))],3⟩) (fun vs=> ∀j∈vs,∀x,(aD (cF r.head))[j]? =io x->du (bK r) x.1=jp) [] (by simp)
   (zW (zC (hI Z Z (.inl Z) Z trivial))) fun vs G=>?_
  refine fj Z ac (dm Z Z Z Z Z (by decide) (fun u=>?_) fun j x b B=>?_)
  .refine gA Z (zL (.of_eq ?_));refine(lW ?_:pB kw=_);rw[jT,am D,lZ fun j B x b=>G j (u j B) x b]
  .have Y:=bz (bK r) x.1;have A:=b4 (occ:=bK r) (s:=x.1);refine zJ Z Z (fun g1=>?_) fun g1=>?_
   .have g1:du (bK r) x.1=kw:=by
     have:=zT g1;rw[A];simp;omega
    refine gA Z (zL (.of_eq ?_));refine(lW ?_:pB jp=_);rw[jT,am D,nY b g1]
   .have g1:du (bK r) x.1=jp:=by
     have:=zF g1;rw[A];simp;omega
    refine gA Z ?_
    exact⟨j,x,b,B,fun i hi y C=>by
     rcases Px.1 hi with rfl|hi
     .rw[b]at C;cases C;exact g1
     .exact G i hi y C,[],zW (zC (hI Z Z (.inr Z) Z ac))⟩
 have D: ¬lit<0:=by simpa using D
 have hk:lit.toNat<r.body.length:=by omega
 have o0:=Lit.bT r.body lit.toNat hk;have q0:=(aq r lit).jr;have v0:(aq r lit).size<=Lit.aB r.body:=o0;have r0:=js (aq r lit).agg;have n0:=kX (aq r lit);refine zE Z Z (fun I=>?_) fun I=>?_
 .have I: ¬(aq r lit).kind=4:=by simpa[aq]using I
  refine gA Z (zq [1] (OH (aq r lit) (by omega)) ?_);refine gA Z ?_;have e0:(aD (cH (aq r lit))).length<=1000000000000:=by have:=kj (cH (aq r lit));omega
  refine eU (aD (cH (aq r lit))) (fun vs=>⟨[(5,.mp 0),(76,.ptr 3 0)],[(0,io (cG (aD (bK r)))),(3,io (.bI .str wY (aD (cH (aq r lit))) vs is))],4⟩) (fun vs=> ∀j∈vs,∀x,(aD (cH (aq r lit)))[j]? =io x->du (bK r) x.1=jp) [] (by simp)
   (zW (zC (hI Z Z (.inl Z) Z trivial))) fun vs G=>?_
  refine fj Z ac (dm Z Z Z Z Z (by decide) (fun u=>?_) fun j x b B=>?_)
  .refine gA Z (zL (.of_eq ?_));refine(lW ?_:pB kw=_);rw[jT,be D,be I,lZ fun j B x b=>G j (u j B) x b]
  .have Y:=bz (bK r) x.1;have A:=b4 (occ:=bK r) (s:=x.1);refine zJ Z Z (fun g1=>?_) fun g1=>?_
   .have g1:du (bK r) x.1=kw:=by
     have:=zT g1;rw[A];simp;omega
    refine gA Z (zL (.of_eq ?_));refine(lW ?_:pB jp=_);rw[jT,be D,be I,nY b g1]
   .have g1:du (bK r) x.1=jp:=by
     have:=zF g1;rw[A];simp;omega
    refine gA Z ?_
    exact⟨j,x,b,B,fun i hi y C=>by
     rcases Px.1 hi with rfl|hi
     .rw[b]at C;cases C;exact g1
     .exact G i hi y C,[],zW (zC (hI Z Z (.inr Z) Z ac))⟩
 have I:(aq r lit).kind=4:=by simpa[aq]using I
 refine gA Z (sZ [] (d161 r (aq r lit).agg (by omega)) Z Z Z Z Z Z Z fun q h' n' hR=>?_);obtain⟨ok,⟨occ,i0,hok⟩,rfl,rfl,rfl⟩:=hR;have a0: ∀s,du ok s=du (za r (aq r lit).agg) s:=fun s=>by rw[hok];exact HG i0 s
 refine⟨_,rfl,?_⟩;have z0:=kj (a7 (aq r lit).agg);have w0:(ku r (aq r lit).agg).length<=(aD (a7 (aq r lit).agg)).length:=QH _ _;have t0:(ky r (aq r lit).agg).length<=(aD (a7 (aq r lit).agg)).length:=QH _ _;have j0:=(dL (a7 (aq r lit).agg)).1;refine gA Z (zq [] (d79 r (aq r lit).agg (by omega)) ?_);refine gA Z ?_;refine eU (ku r (aq r lit).agg) (fun vs=>⟨[(0,.iv (ck r)),(5,.mp 0),(7,.ptr 2 0),(8,.mp 3),(43,.ptr 5 0)],[(0,io (cG (aD (bK r)))),(2,io (aw (aq r lit).c)),(3,io (cG (aD ok))),(5,io (.bI .str wY (ku r (aq r lit).agg) vs is))],6⟩) (fun vs=> ∀j∈vs,∀x,(ku r (aq r lit).agg)[j]? =io x->du (za r (aq r lit).agg) x.1=jp) [] (by simp)
  (zW (zC (zK (zC (hI Z Z (.inl Z) Z trivial))))) fun vs G=>?_
 refine fj Z ac (dm Z Z Z Z Z (by decide) (fun u=>?_) fun j x b B=>?_);rotate_left
 .have Y:=bz ok x.1;have A:=b4 (occ:=ok) (s:=x.1);have J:=a0 x.1;refine zJ Z Z (fun g1=>?_) fun g1=>?_
  .have g1:du (za r (aq r lit).agg) x.1=kw:=by
    have:=zT g1;rw[<-J,A];simp;omega
   refine gA Z (zL (.of_eq ?_));refine(lW ?_:pB jp=_);rw[jT,be D,am I,Qz.2 ⟨x,PY b,by rw[g1];rfl⟩,Sg]
  .have g1:du (za r (aq r lit).agg) x.1=jp:=by
    have:=zF g1;rw[<-J,A];simp;omega
   refine gA Z ?_
   exact⟨j,x,b,B,fun i hi y C=>by
    rcases Px.1 hi with rfl|hi
    .rw[b]at C;cases C;exact g1
    .exact G i hi y C,[],zW (zC (zK (zC (hI Z Z (.inr Z) Z ac))))⟩
 have hA:(ku r (aq r lit).agg).any (fun x=>!du (za r (aq r lit).agg) x.1)=kw:=Qk.2 fun x b=>by
  obtain⟨j,B⟩:=P9 b;rw[G j (u j (Pj.1 B).1) x B];simp
 refine gA Z (zq [] (d127 (aq r lit).agg (by omega)) ?_);refine gA Z (zq [] (d79 r (aq r lit).agg (by omega)) ?_);refine gA Z ?_;refine eU (ku r (aq r lit).agg) (fun vs=>⟨[(5,.mp 0),(6,.mp 6),(7,.ptr 2 0),(59,.ptr 8 0)],[(0,io (cG (aD (bK r)))),(2,io (aw (aq r lit).c)),(6,io (cG ((fM (ku r (aq r lit).agg) vs).foldl (fun m k=>jw .str m k) (aD (a7 (aq r lit).agg))))),(8,io (.bI .str wY (ku r (aq r lit).agg) vs is))],9⟩) (fun vs=>vs.Nodup∧ ∀j∈vs,j<(ku r (aq r lit).agg).length) [] ⟨P6,by simp⟩
  (zW (zC (zK (zC (hI Z Z (.inl Z) Z trivial))))) fun b0 f0=>?_
 obtain⟨c0,d0⟩:=f0;refine fj Z ac (dm Z Z Z Z Z (by decide) (fun R=>?_) fun j x b B=>?_);rotate_left
 .have hk:=jG (ku r (aq r lit).agg) b0 j x b;refine gA Z ⟨j,x,b,B,⟨P0.2 ⟨B,c0⟩,fun i hi=>(Px.1 hi).elim (fun h=>h▸(Pj.1 b).1) (d0 i)⟩,[],zW (zC (zK (hM Z (by rw[hk,List.foldl_append];rfl) Z (hI Z Z (.inr Z) Z ac))))⟩
 have k0:(fM (ku r (aq r lit).agg) b0).foldl (fun m k=>jw .str m k) (aD (a7 (aq r lit).agg))=ky r (aq r lit).agg:=by
  rw[mq _ j0];unfold ky;congr 1
  funext x
  congr 1;rw[QJ,bA,bA,(iY _ b0 c0 d0 R).mem_iff]
 rw[k0];have m0:=HQ r (aq r lit).agg (aq r lit).bB;have g0:=fE (a7 (aq r lit).agg) (aq r lit).bB;refine gA Z ?_;have e0:(bump (ky r (aq r lit).agg) (aq r lit).bB).length<=1000000000000:=by have:=sv (ky r (aq r lit).agg) (aq r lit).bB (dt .str (ky r (aq r lit).agg) (aq r lit).bB 0+1);unfold bump;omega
 refine eU (bump (ky r (aq r lit).agg) (aq r lit).bB) (fun vs=>⟨[(5,.mp 0),(76,.ptr 9 0)],[(0,io (cG (aD (bK r)))),(9,io (.bI .str wY (bump (ky r (aq r lit).agg) (aq r lit).bB) vs is))],10⟩) (fun vs=> ∀j∈vs,∀x,(bump (ky r (aq r lit).agg) (aq r lit).bB)[j]? =io x->du (bK r) x.1=jp) [] (by simp)
  (zW (zC (hI Z Z (.inl Z) Z trivial))) fun vs G=>?_
 refine fj Z ac (dm Z Z Z Z Z (by decide) (fun u=>?_) fun j x b B=>?_)
 .refine gA Z (zL (.of_eq ?_));refine(lW ?_:pB kw=_);rw[jT,be D,am I,hA,Rm,lZ fun j B x b=>G j (u j B) x b]
 .have Y:=bz (bK r) x.1;have A:=b4 (occ:=bK r) (s:=x.1);refine zJ Z Z (fun g1=>?_) fun g1=>?_
  .have g1:du (bK r) x.1=kw:=by
    have:=zT g1;rw[A];simp;omega
   refine gA Z (zL (.of_eq ?_));refine(lW ?_:pB jp=_);rw[jT,be D,am I,hA,Rm,nY b g1]
  .have g1:du (bK r) x.1=jp:=by
    have:=zF g1;rw[A];simp;omega
   refine gA Z ?_
   exact⟨j,x,b,B,fun i hi y C=>by
    rcases Px.1 hi with rfl|hi
    .rw[b]at C;cases C;exact g1
    .exact G i hi y C,[],zW (zC (hI Z Z (.inr Z) Z ac))⟩
end
end Go.Proofs.YtllkaddcplhklaaGreatDoor
namespace Go.Proofs.YtllkaddcplhklaaGreatDoor
open Go Go.Al
def HP(a b:an):Prop:=lP a<lP b
theorem J9(a b:an):Op.bytesLess a.toList b.toList=jp↔HP a b:=by
 rw[ByteArray.toList_eq,ByteArray.toList_eq,bytesLess_eq,decide_eq_true_eq];rfl
theorem vK{a b:an}(h:lP a=lP b):a=b:=by rw[<-rq a,<-rq b,h]
theorem uW{a b c:an}(h:HP a b)(k:HP b c):HP a c:=List.lt_trans h k
theorem kU(a:an): ¬HP a a:=List.lt_irrefl _
theorem HO{a b:an}(h: ¬a=b)(k: ¬HP a b):HP b a:=by
 refine QK fun j=>h (vK (Ss ?_ ?_))
 .exact SZ.1 j
 .exact SZ.1 k
abbrev vD(l:List an):Prop:=l.Pairwise HP
theorem sU: ∀{l:List an} (_:vD l) (s:an),vD (ins l s)
 | [],_,s=>RG _ _
 |x::r,h,s=>by
  obtain⟨h1,u⟩:=P5.1 h;simp only[ins];split
  .exact h
  .rename_i j;split
   .rename_i b;have b:=(J9 x s).1 b;refine P5.2 ⟨fun y hy=>?_,sU u s⟩;rcases kT.1 hy with hy|rfl
    .exact h1 y hy
    .exact b
   .rename_i b;have b:HP s x:=HO j fun h=>b ((J9 x s).2 h);refine P5.2 ⟨fun y hy=>?_,h⟩;rcases Px.1 hy with rfl|hy
    .exact b
    .exact uW b (h1 y hy)
theorem oy{l:List an}(h:vD l)(s:an):vD (fQ l s):=by rw[um];exact sU h s
theorem lM: ∀{m l:List an} (_:vD l),vD (mH l m)
 | [],_,h=>h
 |x::r,_,h=>lM (m:=r) (oy h x)
theorem nJ: ∀{a b:List an},vD a->vD b->(∀x,x∈a↔x∈b)->a=b
 | [],[],_,_,_=>rfl
 | [],y::s,_,_,h=>by have:=(h y).2 Pv;cases this
 |x::r,[],_,_,h=>by have:=(h x).1 Pv;cases this
 |x::r,y::s,ha,hb,h=>by
  obtain⟨A,a2⟩:=P5.1 ha;obtain⟨B,C⟩:=P5.1 hb;have u:x=y:=by
   rcases Px.1 ((h x).1 Pv) with h1|h1
   .exact h1
   .rcases Px.1 ((h y).2 Pv) with h2|h2
    .exact h2.symm
    .exact absurd (uW (B x h1) (A y h2)) (kU _)
  subst u;rw[nJ a2 C fun z=>?_];constructor
  .intro j;rcases Px.1 ((h z).1 (Pu _ j)) with rfl|h3
   .exact absurd (A z j) (kU _)
   .exact h3
  .intro j;rcases Px.1 ((h z).2 (Pu _ j)) with rfl|h3
   .exact absurd (B z j) (kU _)
   .exact h3
theorem iF{l:List an}(h:l.Nodup):vD (de l):=by
 have h1:=gC (l.map lP);rw[<-pt]at h1;have C:(de l).Nodup:=by
  have D:((de l).map lP).Perm (l.map lP):=by rw[pt];exact eI _
  have u:(l.map lP).Nodup:=List.Pairwise.map lP (fun a b j e=>j (vK e)) h;have:=D.nodup_iff.2 u;exact List.Pairwise.of_map lP (fun a b j e=>j (by rw[e])) this
 have x:(de l).Pairwise fun a b=>lP a<=lP b:=(RT.1 h1).imp fun{a b} j=>zT j;refine(List.Pairwise.and x C).imp fun{a b} j=>?_;obtain⟨y,A⟩:=j;exact QK fun B=>A (vK (Ss y (SZ.1 B)))
theorem GW{m:NM}{l:List an}(hm:(m.map (·.1)).Nodup)(hl:vD l)(h: ∀x,x∈m.map (·.1)↔x∈l):eC m=l:=by
 refine nJ (iF hm) hl fun x=>?_;rw[eC,kn];exact h x
theorem Df{occ l:List an}(hl:vD l)(h: ∀x,x∈occ↔x∈l):eC (aD occ)=l:=
 GW (dL occ).1 hl fun x=>((dL occ).2 x).trans (h x)
theorem ni{x:an}: ∀{l:List Term} {a:List an},x∈l.foldl yM a↔x∈a∨x∈l.flatMap fun t=>if t.kind=1 then[t.var] else[]
 | [],a=>by simp
 |t::r,a=>by
  rw[Qd,ni,Qs,PG];unfold yM;split
  .rw[db,Pw,or_assoc]
  .simp
theorem wm{x:an}{a:Atom}:x∈pe a↔x∈cF a:=by
 unfold pe cF;rw[ni];simp
def M8(a:List an×Bool)(l:Lit):List an×Bool:=if(jL l a.1).2=jp then(fQ a.1 (jL l a.1).1,jp) else a
def pD(body:List Lit)(k:List an):List an×Bool:=body.foldl M8 (k,kw)
def sw(body:List Lit):Nat->List an->List an
 |0,k=>k
 |n+1,k=>if(pD body k).2=jp then sw body n (pD body k).1 else(pD body k).1
theorem xJ{body:List Lit}{n:Nat}{k:List an}:sw body (n+1) k=if(pD body k).2=jp then sw body n (pD body k).1 else(pD body k).1:=rfl
def jR(r:ax):List an:=sw r.body (3*r.body.length+1) (r.body.foldl Ca [])
section
section
variable (stp:List an->Lit->an×Bool)
def gS(a:List an×Bool)(l:Lit):List an×Bool:=if(stp a.1 l).2=jp then(fQ a.1 (stp a.1 l).1,jp) else a
def gR(body:List Lit)(k:List an):List an×Bool:=body.foldl (gS stp) (k,kw)
def gN(body:List Lit):Nat->List an->List an
 |0,k=>k
 |n+1,k=>if(gR stp body k).2=jp then gN body n (gR stp body k).1 else(gR stp body k).1
variable {stp}
theorem Bj: ∀(body:List Lit) (k:List an),(body.foldl (gS stp) (k,jp)).2=jp
 | [],k=>rfl
 |l::r,k=>by
  rw[Qd];have: ∃b,gS stp (k,jp) l=(b,jp):=by
   unfold gS;split
   .exact⟨_,rfl⟩
   .exact⟨_,rfl⟩
  obtain⟨b,hk⟩:=this;rw[hk];exact Bj r b
theorem yq: ∀{body:List Lit} {k:List an},(body.foldl (gS stp) (k,kw)).2=kw->(body.foldl (gS stp) (k,kw)).1=k∧ ∀l∈body,(stp k l).2=kw
 | [],k,_=>⟨rfl,by simp⟩
 |l::r,k,h=>by
  rw[Qd]at h ⊢;cases hs:(stp k l).2 with
  |true=>
   have:gS stp (k,kw) l=(fQ k (stp k l).1,jp):=am hs;rw[this,Bj]at h;cases h
  |false=>
   have:gS stp (k,kw) l=(k,kw):=be (by rw[hs];simp);rw[this]at h ⊢;obtain⟨h1,b⟩:=yq h
   exact⟨h1,fun x hx=>by
    rcases Px.1 hx with rfl|hx
    .exact hs
    .exact b x hx⟩
theorem zA: ∀(body:List Lit) (a:List an×Bool),∀x∈a.1,x∈(body.foldl (gS stp) a).1
 | [],a,x,h=>h
 |l::r,a,x,h=>by
  rw[Qd];refine zA r _ x ?_;unfold gS;split
  .exact db.2 (.inl h)
  .exact h
theorem ET{body:List Lit}: ∀(n:Nat) (k:List an),∀x∈k,x∈gN stp body n k
 |0,k,x,h=>h
 |n+1,k,x,h=>by
  unfold gN;split
  .exact ET n _ x (zA body (k,kw) x h)
  .exact zA body (k,kw) x h
theorem pW: ∀(body:List Lit) (a:List an×Bool),vD a.1->vD (body.foldl (gS stp) a).1
 | [],a,h=>h
 |l::r,a,h=>by
  rw[Qd];refine pW r _ ?_;unfold gS;split
  .exact oy h _
  .exact h
theorem vf{body:List Lit}: ∀(n:Nat) (k:List an),vD k->vD (gN stp body n k)
 |0,k,h=>h
 |n+1,k,h=>by
  unfold gN;split
  .exact vf n _ (pW body (k,kw) h)
  .exact pW body (k,kw) h
variable (hnew: ∀(k:List an) (l:Lit),(stp k l).2=jp->(stp k l).1∈ [l.left.var,l.right.var,l.bB]∧(stp k l).1∉k)
include hnew
theorem Bi{c:List an}: ∀{body:List Lit} {a:List an×Bool},(∀l∈body,∀v∈ [l.left.var,l.right.var,l.bB],v∈c)->
  cx c (body.foldl (gS stp) a).1<=cx c a.1∧((body.foldl (gS stp) a).2=jp->a.2=jp∨cx c (body.foldl (gS stp) a).1<cx c a.1)
 | [],a,_=>⟨Ps _,fun h=> .inl h⟩
 |l::r,a,hc=>by
  have h1:cx c (gS stp a l).1<=cx c a.1∧((gS stp a l).2=jp->a.2=jp∨cx c (gS stp a l).1<cx c a.1):=by
   unfold gS;split
   .rename_i h;obtain⟨g1,g2⟩:=hnew _ _ h;have:=oQ (hc l Pv _ g1) g2;exact⟨by dsimp only;omega,fun _=> .inr this⟩
   .exact⟨Ps _,fun h=> .inl h⟩
  obtain⟨g1,g2⟩:=Bi (body:=r) (a:=gS stp a l) fun l hl=>hc l (Pu _ hl);rw[Qd];refine⟨by omega,fun h=>?_⟩;rcases g2 h with g3|g3
  .rcases h1.2 g3 with g4|g4
   .exact .inl g4
   .exact .inr (by omega)
  .exact .inr (by omega)
theorem ES{body:List Lit}: ∀(n:Nat) (k:List an),cx (bC body) k<n-> ∀l∈body,(stp (gN stp body n k) l).2=kw
 |0,k,h,_,_=>by omega
 |n+1,k,h,l,hl=>by
  unfold gN;cases hr:(gR stp body k).2 with
  |true=>
   rw[am Z];refine ES n _ ?_ l hl;obtain⟨_,g2⟩:=Bi hnew (c:=bC body) (body:=body) (a:=(k,kw)) fun l hl v b=>vt hl b;rcases g2 hr with g3|g3
   .cases g3
   .unfold gR;dsimp only at g3;omega
  |false=>
   rw[be (by simp)];obtain⟨g1,g2⟩:=yq hr;unfold gR;rw[g1];exact g2 l hl
end
theorem mg{m1:Expr->Bool}{m2:fw->Bool}{occ:List an}: ∀{l:List Lit},(∀x∈l,kR m1 m2 occ x=is)->bR m1 m2 occ l=is
 | [],_=>rfl
 |y::r,h=>by
  simp only[bR,h y Pv];exact mg fun x b=>h x (Pu _ b)
section
variable {stp:List an->Lit->an×Bool} {may:List an->Expr->Bool} {more:List an->fw->Bool} {body:List Lit}
variable (hE: ∀(k:List an) (l:Lit),kR (may k) (more k) k l=if(stp k l).2=jp then io (stp k l).1 else is)
variable (hmay: ∀a b:List an,(∀x∈a,x∈b)-> ∀e,may a e=jp->may b e=jp) (hmore: ∀a b:List an,(∀x∈a,x∈b)-> ∀e,more a e=jp->more b e=jp)
include hE
theorem G2(k:List an)(l:Lit)(h:(stp k l).2=jp):(stp k l).1∈ [l.left.var,l.right.var,l.bB]∧(stp k l).1∉k:=by
 have:=hE k l;rw[am h]at this;exact sI this
include hmay hmore
theorem EP{C:List an}(hC: ∀l∈body,kR (may C) (more C) C l=is): ∀(b:List Lit) (a:List an×Bool),(∀l∈b,l∈body)->(∀x∈a.1,x∈C)-> ∀x∈(b.foldl (gS stp) a).1,x∈C
 | [],a,_,h,x,hx=>h x hx
 |l::r,a,hb,h,x,hx=>by
  rw[Qd]at hx;refine EP hC r _ (fun l hl=>hb l (Pu _ hl)) (fun y j=>?_) x hx;unfold gS at j;split at j
  .rename_i hs;rcases db.1 j with j|rfl
   .exact h y j
   .have:=hE a.1 l;rw[am hs]at this;exact AT hmay hmore h this (hC l (hb l Pv))
  .exact h y j
theorem ER{C:List an}(hC: ∀l∈body,kR (may C) (more C) C l=is): ∀(n:Nat) (k:List an),(∀x∈k,x∈C)-> ∀x∈gN stp body n k,x∈C
 |0,k,h,x,hx=>h x hx
 |n+1,k,h,x,hx=>by
  unfold gN at hx;have b:=EP hE hmay hmore hC body (k,kw) (fun _ h=>h) h;split at hx
  .exact ER hC n _ b x hx
  .exact b x hx
theorem xq{k occ:List an}(hk: ∀x,x∈k↔x∈occ++body.flatMap bg)(x:an):x∈gN stp body (3*body.length+1) k↔x∈bS may more body occ:=by
 constructor
 .refine ER hE hmay hmore (C:=bS may more body occ) (mh (qR occ)) _ _ (fun y b=>?_) x;exact mu _ _ y ((hk y).1 b)
 .refine mr hmay hmore (C:=gN stp body (3*body.length+1) k) (mg fun l hl=>?_) _ _ (fun y b=>ET _ _ y ((hk y).2 b)) x;have h1:=oR (bC body) k;have j:=iQ body;rw[hE,ES (G2 hE) _ _ (by omega) l hl,be (by simp)]
end
theorem xZ{x:an}: ∀{l:List Lit} {a:List an},x∈l.foldl Ca a↔x∈a∨x∈l.flatMap bg
 | [],a=>by simp
 |t::r,a=>by
  rw[Qd,xZ,Qs,PG];by_cases hk:t.kind=1
  .rw[show Ca a t=mH a (pe t.atom) from am hk,show bg t=cF t.atom from am hk,qE,wm,or_assoc]
  .rw[show Ca a t=a from be hk,show bg t=[] from be hk];simp
theorem qx: ∀(l:List Lit) (a:List an),vD a->vD (l.foldl Ca a)
 | [],a,h=>h
 |t::r,a,h=>by
  rw[Qd];refine qx r _ ?_;unfold Ca;split
  .exact lM h
  .exact h
theorem Eg(k:List an)(l:Lit):kR (b7 k) (fun _=>kw) k l=if(jL l k).2=jp then io (jL l k).1 else is:=by
 unfold kR;rw[be (c:=l.kind=4∧_) (fun h=>Bool.noConfusion h.2.2)];have:(if(fq (b7 k) k l).2=jp then io (fq (b7 k) k l).1 else is)=if(jL l k).2=jp then io (jL l k).1 else is:=by
  unfold fq jL b7;split
  .rfl
  .by_cases b:l.left.kind=1<;>by_cases a2:l.right.kind=1<;>by_cases a3:l.left.kind=2<;>by_cases a4:l.right.kind=2<;>cases a5:du k l.left.var<;>cases a6:du k l.right.var<;>simp_all
 exact this
theorem uL(body:List Lit): ∀(n:Nat) (k:List an),sw body n k=gN (fun k l=>jL l k) body n k
 |0,k=>rfl
 |n+1,k=>by
  rw[xJ,uL body n];rfl
theorem told_plain(r:ax):eC (aD (nf r))=jR r:=by
 unfold jR;rw[uL];refine Df (vf _ _ (qx _ _ R7)) fun x=>?_;exact(xq (may:=fun b=>b7 b) (more:=fun _=>fun _=>kw) Eg xK (fun _ _ _ _ h=>h) (fun y=>by rw[xZ];simp) x).symm
end
end Go.Proofs.YtllkaddcplhklaaGreatDoor
namespace Go.Proofs
open Go.Shelf
def Tryz.yd:Go.Shelf.Ren:=⟨fun|190=>84|125=>76|258=>134|128=>103|129=>104|302=>170|303=>171|304=>172|305=>173|306=>174|307=>175|308=>176|309=>177|310=>178|333=>200|329=>143|330=>144|334=>201|335=>202|336=>203|344=>211|n=>n,fun|31=>129|9=>9|3=>3|46=>147|0=>0|51=>175|53=>177|4=>4|183=>168|182=>167|131=>172|5=>5|218=>210|222=>214|228=>258|229=>259|n=>n,fun|n=>n⟩
theorem Tryz.A2:Go.Proofs.Lays.n190 Tryz.prog Tryz.yd:={
 mixed:=by kernel_rfl
 f125:=Tryz.func76.trans (congrArg io (by kernel_rfl))
 f128:=Tryz.func103.trans (congrArg io (by kernel_rfl))
 f129:=Tryz.func104.trans (congrArg io (by kernel_rfl))
 f190:=Tryz.func84.trans (congrArg io (by kernel_rfl))
 f258:=Tryz.func134.trans (congrArg io (by kernel_rfl))
 f302:=Tryz.func170.trans (congrArg io (by kernel_rfl))
 f303:=Tryz.func171.trans (congrArg io (by kernel_rfl))
 f304:=Tryz.func172.trans (congrArg io (by kernel_rfl))
 f305:=Tryz.func173.trans (congrArg io (by kernel_rfl))
 f306:=Tryz.func174.trans (congrArg io (by kernel_rfl))
 f307:=Tryz.func175.trans (congrArg io (by kernel_rfl))
 f308:=Tryz.func176.trans (congrArg io (by kernel_rfl))
 f309:=Tryz.func177.trans (congrArg io (by kernel_rfl))
 f310:=Tryz.func178.trans (congrArg io (by kernel_rfl))
 f329:=Tryz.func143.trans (congrArg io (by kernel_rfl))
 f330:=Tryz.func144.trans (congrArg io (by kernel_rfl))
 f333:=Tryz.func200.trans (congrArg io (by kernel_rfl))
 f334:=Tryz.func201.trans (congrArg io (by kernel_rfl))
 f335:=Tryz.func202.trans (congrArg io (by kernel_rfl))
 f336:=Tryz.func203.trans (congrArg io (by kernel_rfl))
 f344:=Tryz.func211.trans (congrArg io (by kernel_rfl))
 t0:=Tryz.underlying0
 a0:=Tryz.isAgg0
 z0:=Tryz.sizeOf0
 v0:=Tryz.zeroValue0
 t3:=Tryz.underlying3
 a3:=Tryz.isAgg3
 z3:=Tryz.sizeOf3
 v3:=Tryz.zeroValue3
 t4:=Tryz.underlying4
 a4:=Tryz.isAgg4
 z4:=Tryz.sizeOf4
 v4:=Tryz.zeroValue4
 t5:=Tryz.underlying5
 a5:=Tryz.isAgg5
 z5:=Tryz.sizeOf5
 v5:=Tryz.zeroValue5
 t9:=Tryz.underlying9
 a9:=Tryz.isAgg9
 z9:=Tryz.sizeOf9
 v9:=Tryz.zeroValue9
 t31:=Tryz.underlying129
 a31:=Tryz.isAgg129
 z31:=Tryz.sizeOf129
 v31:=Tryz.zeroValue129
 t46:=Tryz.underlying147
 a46:=Tryz.isAgg147
 z46:=Tryz.sizeOf147
 v46:=Tryz.zeroValue147
 t51:=Tryz.underlying175
 a51:=Tryz.isAgg175
 z51:=Tryz.sizeOf175
 v51:=Tryz.zeroValue175
 t53:=Tryz.underlying177
 a53:=Tryz.isAgg177
 z53:=Tryz.sizeOf177
 v53:=Tryz.zeroValue177
 t131:=Tryz.underlying172
 a131:=Tryz.isAgg172
 z131:=Tryz.sizeOf172
 v131:=Tryz.zeroValue172
 t182:=Tryz.underlying167
 a182:=Tryz.isAgg167
 z182:=Tryz.sizeOf167
 v182:=Tryz.zeroValue167
 t183:=Tryz.underlying168
 a183:=Tryz.isAgg168
 z183:=Tryz.sizeOf168
 v183:=Tryz.zeroValue168
 t218:=Tryz.underlying210
 a218:=Tryz.isAgg210
 z218:=Tryz.sizeOf210
 v218:=Tryz.zeroValue210
 t222:=Tryz.underlying214
 a222:=Tryz.isAgg214
 z222:=Tryz.sizeOf214
 v222:=Tryz.zeroValue214
 t228:=Tryz.underlying258
 a228:=Tryz.isAgg258
 z228:=Tryz.sizeOf258
 v228:=Tryz.zeroValue258
 t229:=Tryz.underlying259
 a229:=Tryz.isAgg259
 z229:=Tryz.sizeOf259
 v229:=Tryz.zeroValue259}
theorem YtllkaddcplhklaaGreatDoor.JP:YtllkaddcplhklaaGreatDoor.fC:=
 ⟨fun u b0 a0 x w hH b j=>Any.slices_Sort_string Tryz.A2 u b0 a0 x w hH b j,fun p a0 w=>Any.slices_Sort_string_none Tryz.A2 p a0 w⟩
end Go.Proofs
namespace Go.Proofs.YtllkaddcplhklaaGreatDoor
open Go Go.Al
theorem fX{α:Type}[Inhabited α]{f:α->List IV}(h: ∀x,eB ((f x).map .iv)=jp)(l:List α):allOnes ((PT l.length).map fun k=>(f (l.getD k co)).map PV.iv)=jp:=by rw[vP];exact qT h l
def Prog.size(p:Prog):Nat:=p.aR.length+(p.aR.map fun d=>d.types.length).sum+p.rules.length+(p.rules.map ax.size).sum
theorem vM{α:Type}[Inhabited α](f:α->Nat): ∀(l:List α) (i:Nat),i<l.length->f (l.getD i co)<=(l.map f).sum
 |x::r,0,_=>by simp
 |x::r,i+1,h=>by
  have:=vM f r i (by simpa using h);simp only[QI,Py,Qq];omega
theorem xw{α:Type}(i sz n b:Nat)(l:List α)(f:α->List IV):(aF b l f).qy i sz n:=by
 intro k e j p u A;rw[Pp,Pr]at u;obtain⟨x,_,rfl⟩:=u;rw[Pp,Pr]at A;obtain⟨y,_,rfl⟩:=A;exact⟨y,rfl⟩
theorem OQ(r:ax)(hb:r.size<=10000000):Pure Tryz.prog 68 [ag r.c] (.iv (strs (jR r))):=told_plain r▸c33 JP r hb
end Go.Proofs.YtllkaddcplhklaaGreatDoor
namespace Go.Proofs.YtllkaddcplhklaaGreatDoor
open Go.Proofs.Tryz
open Go
section
set_option maxHeartbeats 2000000
theorem A8: ∃j,prog.info? 223=io j∧j.size=2:=by
 have h:(prog.info? 223).map (fun i=>i.size)=io 2:=by kernel_rfl
 rw[Pr]at h;exact h
theorem HU:liesAt prog prog.depth 225 (4/prog.cellsOf 225) 0 223 1=jp:=by kernel_rfl
theorem Iz(b:Nat)(w:World)(h0:w.cell? ⟨b,0,is⟩=io (.pointer (io ⟨b,0,is⟩))):
  Calls prog 213 #[.pointer (io ⟨b,0,is⟩)] w fun e x=>e= .returned (.tuple #[])∧x=w:=by
 obtain⟨j,u,_⟩:=A8
 go_enter func213,ntmps213
 go_wp2
 rw[Lib.run_neq_ptr_same w _ underlying220 u]
 go_wp2
 go_end0
 exact⟨rfl,rfl⟩
theorem Fv(b:Nat)(w:World)(h0:w.cell? ⟨b,0,is⟩=io (.pointer is))(u:w.shape? b=io (225,4))(A:w.frozen? ⟨b,0,is⟩=kw):
  Calls prog 213 #[.pointer (io ⟨b,0,is⟩)] w fun e B=>e= .returned (.tuple #[])∧B=w.setCell ⟨b,0,is⟩ (.pointer (io ⟨b,0,is⟩)):=by
 obtain⟨j,y,x⟩:=A8
 go_enter func213,ntmps213
 go_wp2
 rw[Lib.run_to_unsafe w ⟨b,0,is⟩ underlying220 underlying291 y (by rw[x];decide) u (by show 0<4;decide)];simp only[Result.andThen];rw[Oper.upon_value]
 go_wp2
 rw[run_callFunc_extern func218 (by kernel_rfl) (by kernel_rfl) (by kernel_rfl) (e:=Extern.AbiNoEscape.same) (by kernel_rfl)];rw[Lib.run_noEscape];simp only[Result.andThen];rw[Oper.upon_value]
 go_wp2
 rw[Lib.run_from_unsafe w ⟨b,0,is⟩ underlying291 underlying220 y u HU];simp only[Result.andThen];rw[Oper.upon_value]
 go_wp2
 go_end0
 exact⟨rfl,rfl⟩
theorem L1:prog.cellsOf 5=1:=by kernel_rfl
theorem IC(b g cap:Nat)(p x y:Value)(u:Array Value)(l:List UInt8)(w:World)(D:w.heap[b]? =io (.cells #[p,.slice (io ⟨g,0,is⟩) l.length cap,x,y] 225 (0,0)))(hg:w.heap[g]? =io (.cells u 5 (0,0)))
  (hl:l.length<=u.size) (J:l.length<=cap) (G:cap<=maxLen) (B: ∀(j:Nat) (x:UInt8),l[j]? =io x->u.getD j undef= .int .u8 (x.toNat:Int)) (h0:l≠ []):
  Calls prog 189 #[.pointer (io ⟨b,0,is⟩)] w fun e w'=>e= .returned (.string ⟨l.toArray⟩)∧w'=w.drew.freeze ⟨g,0,is⟩ l.length:=by
 have b0:l.length≠0:=by simpa using h0
 have c1:w.drew.cell? ⟨b,1,is⟩=io (.slice (io ⟨g,0,is⟩) l.length cap):=by
  have:w.drew.heap[b]? =io (.cells #[p,.slice (io ⟨g,0,is⟩) l.length cap,x,y] 225 (0,0)):=D;rw[Lib.cell_of_heap this];rfl
 have Y:(Builtin.unsafeSliceData_ #[221] 281 #[.slice (io ⟨g,0,is⟩) l.length cap]).run prog w.drew= .ok (.pointer (io ⟨g,0,is⟩)) w.drew:=
  Lib.run_unsafeSliceData_row _ _ _ _ _ _ (by omega)
 have a0:(Builtin.unsafeString_ #[281,3] 9 #[.pointer (io ⟨g,0,is⟩),.int .i64 l.length]).run prog w.drew= .ok (.string ⟨l.toArray⟩) (w.drew.freeze ⟨g,0,is⟩ l.length):=by
  refine Lib.run_unsafeString_row w.drew 281 3 9 5 underlying281 L1 g u.size (by have A:w.drew.heap[g]? =io (.cells u 5 (0,0)):=hg;simp[World.shape?,A]) l h0 (by omega) (by unfold maxLen at G;omega) ?_;intro j x R;have C:j<u.size:=by have:=(Pj.1 R).1;omega
  have:=B j x R;rw[Pg,PR C]at this;show w.drew.cell? _=_;have A:w.drew.heap[g]? =io (.cells u 5 (0,0)):=hg;rw[Al.dr,PO];simp only[World.cell?,A];simpa[C]using this
 have I:prog.follows .mixedOrders=jp:=rfl
 go_enter func189,ntmps189
 go_wp2
 go_region_o
 all_goals(go_wp2;go_ret;exact⟨rfl,rfl⟩)
theorem L3(b:Nat)(p x y:Value)(w:World)(j:w.heap[b]? =io (.cells #[p,.slice is 0 0,x,y] 225 (0,0))):
  Calls prog 189 #[.pointer (io ⟨b,0,is⟩)] w fun e C=>e= .returned (.string ⟨#[]⟩)∧C=w.drew:=by
 have B:(W:World)->(Builtin.unsafeString_ #[281,3] 9 #[.pointer is,.int .i64 0]).run prog W= .ok (.string .empty) W:=fun W=>Lib.run_unsafeString_none W _ _ _ is
 have c1:w.drew.cell? ⟨b,1,is⟩=io (.slice is 0 0):=by
  have:w.drew.heap[b]? =io (.cells #[p,.slice is 0 0,x,y] 225 (0,0)):=j;rw[Lib.cell_of_heap this];rfl
 have A:(Builtin.unsafeSliceData_ #[221] 281 #[.slice is 0 0]).run prog w.drew= .ok (.pointer is) w.drew:=rfl;have u:prog.follows .mixedOrders=jp:=rfl
 go_enter func189,ntmps189
 go_wp2
 go_region_o
 all_goals(go_wp2;go_ret;exact⟨rfl,rfl⟩)
end
end Go.Proofs.YtllkaddcplhklaaGreatDoor
namespace Go.Proofs.YtllkaddcplhklaaGreatDoor
open Go Go.Al Go.Proofs.Tryz
def HF(c:Nat):Bool:=(lc (97<=c)&&lc (c<=122))||((lc (65<=c)&&lc (c<=90))||((lc (48<=c)&&lc (c<=57))||decide (c=95)))
def okB(b:UInt8):Bool:=HF b.toNat
def hd(s:an):Int:=((s.data.toList.getD 0 0).toNat:Int)
def rR(s:an)(b hi:Int):Bool:=!lc (s=⟨#[]⟩)&&(lc (s.size<=32)&&(lc (b<=hd s)&&(lc (hd s<=hi)&&s.data.toList.all okB)))
theorem Eb{c:Nat}(h:HF c=jp):c<128:=by
 simp only[HF,Ry,Qc,decide_eq_true_eq]at h;omega
theorem G8{s:an}(h: ¬s=⟨#[]⟩):0<s.size:=by
 refine Nat.pos_of_ne_zero fun b=>h ?_;have:s.data= #[]:=Qw b;cases s;simp_all
theorem O0(c:Nat):Pure prog 180 [.iv (.v (.int .i32 (c:Int)))] (pB (!HF c)):=by
 refine ai ab func180 Z (by decide) ntmps180 Z (by simp) Z ?_
 repeat' (first|(refine gA Z (zI (fun _=>?_) (fun _=>?_)))|(refine gA Z (zL (.of_eq ?_))))
 all_goals(refine(lW ?_:pB _=pB _))
 all_goals(simp only[RO,Sh,decide_eq_true_eq,decide_eq_false_iff_not] at*;rw[QJ];simp[HF];omega)
theorem Ff{s:an}{i:Nat}(h:i<s.size)(hb:okB (s.data.toList.getD i 0)=jp):Utf8.decode s i=((s.data.toList.getD i 0).toNat,1):=by
 have b:(s[i]'h)=s.data.toList.getD i 0:=by
  have:i<s.data.toList.length:=by simpa using h
  rw[Pk,Pl this];simp;rfl
 have:=decode_ascii s i h (by rw[b];exact Eb hb);rw[this,b]
theorem LY{s:an}{i:Nat}(h:i<s.size)(hb:okB (s.data.toList.getD i 0)=kw):HF (Utf8.decode s i).1=kw:=by
 by_cases h1:(s.data.toList.getD i 0).toNat<128
 .have b:(s[i]'h)=s.data.toList.getD i 0:=by
   have:i<s.data.toList.length:=by simpa using h
   rw[Pk,Pl this];simp;rfl
  have:=decode_ascii s i h (by rw[b];exact h1);rw[this,b];exact hb
 .have b:(s.get! (i+0)).toNat=(s.data.toList.getD i 0).toNat:=by
   have:i<s.data.toList.length:=by simpa using h
   rw[Pk,Pl this];simp[ByteArray.get!,getElem!_pos,h]
  have:128<=(Utf8.decode s i).1:=by
   simp only[Utf8.decode,b,be h1]
   repeat' split
   all_goals(dsimp only[Utf8.runeError];(try simp only[Qc,decide_eq_true_eq] at*);omega)
  cases hk:HF (Utf8.decode s i).1 with
  |false=>rfl
  |true=>have:=Eb hk;omega
def BC(s:an):Int:=n9 (fun b=>!okB b) s.data.toList
theorem d217(s:an):bD prog 212 [pS s,.b5 (.func 180) [] [],pB jp] [] (pI (BC s)) [] 0:=by
 have A:s.data.toList.length=s.size:=by simp
 refine au ab func212 Z (by decide) ntmps212 Z (by simp) ?_;refine gA Z ?_;refine vc ab Z Z Z Z Z Z Z ?_;refine gA Z ?_;refine aJ 0 s.size (PA _) (fun i=>⟨[(0,pS s),(1,.b5 (.func 180) [] []),(2,pB jp),(10,.ptr 0 0)],[(0,io (.dJ s i))],1⟩) (fun i=>(s.data.toList.take i).any (fun b=>!okB b)=kw) [] (by simp)
  (zW ⟨⟨_,rfl,.of_eq Z⟩,Pf Z,ac,ac⟩) fun i B x=>?_
 refine gA Z ?_;refine kz Z Z Z Z Z Z (fun h1=>?_) (fun h1=>?_)
 .have j:s.data.toList.length<=i:=by omega
  rw[BC,fg (any_none x j)];refine gA Z (zD [] Z (zW ac))
 .have u:i<s.data.toList.length:=by omega
  have y:s.data.toList.getD i co=s.data.toList.getD i 0:=rfl;refine gA Z (zp (O0 (Utf8.decode s i).1) ?_);refine zJ Z Z (fun j=>?_) fun j=>?_
  .have j:HF (Utf8.decode s i).1=kw:=by simpa using j
   have hb:okB (s.data.toList.getD i 0)=kw:=by
    cases hk:okB (s.data.toList.getD i 0) with
    |false=>rfl
    |true=>
     rw[Ff h1 hk]at j;exact absurd (hk.symm.trans j) (by simp)
   rw[BC,gk x u (by rw[y,hb];rfl)];refine gA Z (zD [] Z (zW ac))
  .have j:HF (Utf8.decode s i).1=jp:=by simpa using j
   have hb:okB (s.data.toList.getD i 0)=jp:=by
    cases hk:okB (s.data.toList.getD i 0) with
    |true=>rfl
    |false=>exact absurd ((LY h1 hk).symm.trans j) (by simp)
   have hd:=Ff h1 hb;refine gA Z ⟨h1,(cK x u).2 (by rw[y,hb];rfl),[],zW ⟨⟨_,rfl,.of_eq (by rw[hd];rfl)⟩,Pf Z,ac,ac⟩⟩
theorem IJ(l:List UInt8):(l.any fun b=>!okB b)=!l.all okB:=by
 induction l with
 |nil=>rfl
 |cons x r ih=>simp only[SJ,Sq,ih];cases okB x<;>rfl
theorem d203(s:an):bD prog 204 [pS s,.b5 (.func 180) [] []] [] (pI (BC s)) [] 0:=by
 refine au ab func204 Z (by decide) ntmps204 Z (by simp) ?_;refine gA Z (zq [] (d217 s) ?_);refine gA Z (zD [] Z (zW ac))
theorem d180(s:an):bD prog 179 [pS s,.b5 (.func 180) [] []] [] (pB (!s.data.toList.all okB)) [] 0:=by
 refine au ab func179 Z (by decide) ntmps179 Z (by simp) ?_;refine gA Z (zq [] (d203 s) ?_);refine gA Z (zD [] Z (zM ⟨.of_eq (lW ((gl _ _).trans (IJ _))),rfl,ac⟩ ac))
theorem N3(s:an)(x hi:Int):Pure prog 138 [pS s,.iv (.v (.int .u8 x)),.iv (.v (.int .u8 hi))] (pB (rR s x hi)):=by
 refine ai ab func138 Z (by decide) ntmps138 Z (by simp) Z ?_;refine zE Z Z (fun h1=>?_) fun h1=>?_
 .have h1:s=⟨#[]⟩:=zT h1;refine gA Z (zL (.of_eq ?_));refine(lW ?_:pB _=pB _);subst h1;rfl
 have h1: ¬s=⟨#[]⟩:=zF h1;have y:=G8 h1;refine zE Z Z (fun b=>?_) fun b=>?_
 .have b:32<s.size:=zN b;refine gA Z (zL (.of_eq ?_));refine(lW ?_:pB _=pB _);have: ¬s.size<=32:=by omega
  simp[rR,this]
 have b:s.size<=32:=by have:=zF b;omega
 refine zE Z Z (fun j=>?_) fun j=>?_
 .have j:hd s<x:=zT j;refine gA Z (zL (.of_eq ?_));refine(lW ?_:pB _=pB _);have: ¬x<=hd s:=by omega
  simp[rR,this]
 have j:x<=hd s:=by have: ¬hd s<x:=zF j;omega
 refine zJ Z Z (fun u=>?_) fun u=>?_
 .have u:hi<hd s:=zT u;refine gA Z (zL (.of_eq ?_));refine(lW ?_:pB _=pB _);have: ¬hd s<=hi:=by omega
  simp[rR,this]
 have u:hd s<=hi:=by have: ¬hd s>hi:=zF u;omega
 refine gA Z (zq [] (d180 s) ?_);refine gA Z (zL (.of_eq ?_));refine(lW ?_:pB _=pB _);simp[rR,h1,b,j,u]
def Nu:List an:=[⟨#[114,101,108,97,116,105,111,110]⟩,⟨#[110,111,116]⟩,⟨#[110,117,109]⟩,⟨#[115,121,109]⟩,⟨#[109,111,100]⟩,⟨#[99,111,117,110,116]⟩,⟨#[115,117,109]⟩,⟨#[109,105,110]⟩,⟨#[109,97,120]⟩]
def Nv(s:an):Bool:=Nu.any fun x=>lc (s=x)
def iE(s:an):Bool:=!Nv s&&rR s 97 122
def eZ(s:an):Bool:=rR s 65 90
theorem z8(s:an):Pure prog 187 [pS s] (pB (eZ s)):=by
 refine ai ab func187 Z (by decide) ntmps187 Z (by simp) Z ?_;refine gA Z (zp (N3 s 65 90) ?_);exact zU Z
theorem Oi(s:an):Pure prog 93 [pS s] (pB (iE s)):=by
 refine ai ab func93 Z (by decide) ntmps93 Z (by simp) Z ?_
 repeat' (first|(refine gA Z (zI (fun _=>?_) (fun _=>?_)))|(refine gA Z (zp (N3 s 97 122) ?_))|(refine gA Z (zL (.of_eq ?_))))
 all_goals(refine(lW ?_:pB _=pB _))
 all_goals(simp only[iE,Nv,Nu,SJ,List.any_nil, *];rfl)
theorem O4(v:dG):Pure prog 140 [ag v.c] (pB (!lc (cR v=0))):=by
 refine ai ab func140 Z (by decide) ntmps140 Z (by simp) Z ?_;refine gA Z (zp (NZ v) ?_);exact zU Z
theorem i182(l:List dG):bD prog 181 [.iv (bN 3 l dG.c),.b5 (.func 140) [] []] [] (pI (n9 (fun x:dG=>!lc (cR x=0)) l)) [] 0:=by
 refine oi (bf func181 Z (by decide)) ⟨_,_,Pv⟩ fun j=>?_;simp only[maxLen]at j;refine au ab func181 Z (by decide) ntmps181 Z (by simp) ?_;refine gA Z ?_
 refine aJ 0 l.length (PA _) (fun i=>⟨[(0,.iv (bN 3 l dG.c)),(1,.b5 (.func 140) [] []),(7,pI l.length),(8,pI i)],[],0⟩) (fun i=>(l.take i).any (fun x:dG=>!lc (cR x=0))=kw) [] (by simp)
  (zW trivial) fun i y u=>?_
 refine zJ Z Z (fun h1=>?_) fun h1=>?_
 .have h1:i<l.length:=by simpa using h1
  refine gA Z (zp (O4 (l.getD i co)) ?_);refine zJ Z Z (fun b=>?_) fun b=>?_
  .have b:(fun x:dG=>!lc (cR x=0)) (l.getD i co)=jp:=b;rw[gk u h1 b];refine gA Z (zD [] Z (zW ac))
  .have b:(fun x:dG=>!lc (cR x=0)) (l.getD i co)=kw:=b;refine gA Z ⟨h1,(cK u h1).2 b,[],zW ac⟩
 .have h1:l.length<=i:=by simpa using h1
  rw[fg (any_none u h1)];refine gA Z (zD [] Z (zW ac))
theorem d141(l:List dG):bD prog 139 [.iv (bN 3 l dG.c),.b5 (.func 140) [] []] [] (pB (l.any (fun x:dG=>!lc (cR x=0)))) [] 0:=by
 refine au ab func139 Z (by decide) ntmps139 Z (by simp) ?_;refine gA Z (zq [] (i182 l) ?_);refine gA Z (zD [] Z (zM ⟨.of_eq (lW (gl _ l)),rfl,ac⟩ ac))
def jX(f:Fact):Bool:=iE f.rel&&(lc (f.args.length<=8)&&f.args.all fun v=>lc (cR v=0))
theorem FF(l:List dG):(l.any fun x:dG=>!lc (cR x=0))=!l.all fun v=>lc (cR v=0):=by
 induction l with
 |nil=>rfl
 |cons x r ih=>simp only[SJ,Sq,ih];cases lc (cR x=0)<;>rfl
theorem c98(l:List dG):Pure prog 94 [.iv (bN 3 l dG.c)] (pB (l.all fun v=>lc (cR v=0))):=by
 refine ai ab func94 Z (by decide) ntmps94 Z (by simp) Z ?_;refine gA Z (zq [] (d141 l) ?_);refine gA Z (zL (.of_eq ?_));refine(lW ?_:pB _=pB _);rw[FF,Bool.not_not]
theorem c55(f:Fact):Pure prog 74 [ag f.c] (pI (if jX f then 0 else 20)):=by
 refine ai ab func74 Z (by decide) ntmps74 Z (by simp) Z ?_
 repeat' (first|(refine gA Z (zI (fun _=>?_) (fun _=>?_)))|(refine gA Z (zp (Oi f.rel) ?_))|(refine gA Z (zp (c98 f.args) ?_))|(refine gA Z (zL (.of_eq ?_))))
 all_goals(refine(CW ?_:pI _=pI _))
 all_goals(simp only[jX];simp_all)
 all_goals omega
section
theorem Rel.zb{M:Mem}{N:Nm}{U:Nat->Prop}{h u:AH}{w:World}(hr:Rel M N U h w)(e: ∀i,AH.get u i=h.get i):Rel M N U u w:=
 ⟨hr.dZ,fun i o b=>hr.used i o (by rw[<-e];exact b),fun i o b=>hr.dM i o (by rw[<-e];exact b),fun i o b=>hr.obj i o (by rw[<-e];exact b),fun i j o p b x=>hr.inj i j o p (by rw[<-e];exact b) (by rw[<-e];exact x)⟩
theorem Ext.zb{M j:Mem}{N u:Nm}{U x:Nat->Prop}{h0 h y:AH}{w A:World}(b:Ext M N U h0 w j u x h A)(e: ∀i,AH.get y i=h.get i):Ext M N U h0 w j u x y A:=
 ⟨b.os,b.tape,b.output,b.size,b.fN,b.ov,b.gx,b.nm,b.ule,fun i o B=>b.fK i o (by rw[<-e];exact B)⟩
structure WS where
 fr:Bool
 l:List UInt8
 bad:Bool
 br:Int
abbrev WS.ph(w:WS)(i j:Nat):AO:= .cells [.ej w.fr i,.sl j 0 w.l.length 1,pB w.bad,pI w.br] (io 225)
abbrev WS.c(w:WS):AO:=w.ph 0 1
abbrev WS.O(w:WS):List AO:=[w.c,.bp w.l 5]
abbrev WS.H(w:WS):AH:=[(0,io (w.ph 0 2)),(2,io (.bp w.l 5))]
theorem d204(w:WS):bD prog 213 [.ptr 0 0] w.O (.bq []) [(0,io ({w with fr:=kw}:WS).c),(1,io (.bp w.l 5))] 2:=by
 refine⟨bf func213 Z (by decide),fun M N wd vs J A hv=>?_⟩;obtain⟨v,rfl⟩: ∃v,vs=[v]:=by
  cases vs with
  |nil=>cases A
  |cons v r=>cases r with
   |nil=>exact⟨v,rfl⟩
   |cons a b=>simp at A
 have R:VR M N (· <2) (.ptr 0 0) v:=hv 0 _ Z;have Y:v= .pointer (io ⟨N.az 0,0,is⟩):=by cases R;rfl
 subst Y;have G:AH.get (c8 0 w.O) 0=io w.c:=rfl;obtain⟨c,T,h1,h2,h3,h4,h5⟩:=J.obj 0 _ G;have hT:=h5 225 Z;subst hT;have B:c.size=4:=h3.symm;have a0:N.az 0<wd.heap.size:=(Qr.1 h1).1;have I:c.getD 0 undef= .pointer (bif w.fr then is else io ⟨N.az 0,0,is⟩):=by
  have:=h4 0 _ Z;generalize c.getD 0 undef=x at this;cases this;rfl
 have u:wd.cell? ⟨N.az 0,0,is⟩=io (c.getD 0 undef):=by
  rw[Lib.cell_of_heap h1,Pg,PR (by omega)];rfl
 rw[I]at u;show Calls prog 213 #[_] wd _;cases hfr:w.fr with
 |false=>
  rw[hfr]at u;refine(Iz (N.az 0) wd u).mono ?_;rintro e w' ⟨rfl,rfl⟩;have hw:({w with fr:=kw}:WS)=w:=by cases w;simp_all
  rw[hw];exact⟨_,M,N,.bq [],_,2,rfl,⟨rfl,rfl,rfl⟩,.refl _ _ _ _ _,J,.bq [] #[] Z (by simp)⟩
 |true=>
  rw[hfr]at u;refine(Fv (N.az 0) wd u (by simp[World.shape?,h1,B]) (Lib.frozen_of_heap h1 0)).mono ?_;rintro e w' ⟨rfl,rfl⟩;have C:(wd.setCell ⟨N.az 0,0,is⟩ (.pointer (io ⟨N.az 0,0,is⟩))).heap[N.az 0]? =io (.cells (c.setIfInBounds 0 (.pointer (io ⟨N.az 0,0,is⟩))) 225 (0,0)):=by
   simp[World.setCell,PZ,h1]
  obtain⟨g1,g2⟩:=J.write (i:=0) (o0:=w.c) G Z (wd.setCell ⟨N.az 0,0,is⟩ (.pointer (io ⟨N.az 0,0,is⟩))) ({w with fr:=kw}:WS).c Z Z Z (by simp[World.setCell]) (fun b hb=>by
   simp only[World.setCell,PZ]
   rw[be (fun e=>hb e.symm)]) ⟨_,225,C,by simpa using h2,by simp[B],fun j p D=>by
    match j,D with
    |0,D=>
     cases D;rw[Pg,PM];simp only[if_true,B];exact .ej kw 0 (by show 0<2;decide)
    |j+1,D=>
     have:=h4 (j+1) p (by exact D);rw[Pg,PM,be (by omega)];rw[Pg]at this
     exact this,h5⟩
  have y: ∀i,AH.get [(0,io ({w with fr:=kw}:WS).c),(1,io (.bp w.l 5))] i=AH.get ((0,io ({w with fr:=kw}:WS).c)::c8 0 w.O) i:=by
   intro i
   match i with
   |0=>rfl
   |1=>rfl
   |i+2=>rfl
  exact⟨_,M,N,.bq [],_,2,rfl,⟨rfl,rfl,rfl⟩,Ext.zb g1 y,Rel.zb g2 y,.bq [] #[] Z (by simp)⟩
theorem d150(w:WS):bD prog 189 [.ptr 0 0] w.O (pS ⟨w.l.toArray⟩) [] 2:=by
 refine⟨bf func189 Z (by decide),fun M N wd vs hr D hv=>?_⟩;obtain⟨v,rfl⟩: ∃v,vs=[v]:=by
  cases vs with
  |nil=>cases D
  |cons v r=>cases r with
   |nil=>exact⟨v,rfl⟩
   |cons a b=>simp at D
 have j0:VR M N (· <2) (.ptr 0 0) v:=hv 0 _ Z;have k0:v= .pointer (io ⟨N.az 0,0,is⟩):=by cases j0;rfl
 subst k0;have i0:AH.get (c8 0 w.O) 0=io w.c:=rfl;have G:AH.get (c8 0 w.O) 1=io (.bp w.l 5):=rfl;obtain⟨c,T,h1,h2,h3,h4,h5⟩:=hr.obj 0 _ i0;have hT:=h5 225 Z;subst hT;have e0:c.size=4:=h3.symm;have b0: ∀(x1:Value),c.getD 1 undef=x1-> ∃p x y,c= #[p,x1,x,y]:=by
  intro x1 B;refine⟨c.getD 0 undef,c.getD 2 undef,c.getD 3 undef,?_⟩;apply Array.ext
  .simpa using e0
  .intro i u m0
   match i,u with
   |0,u=>simp[Pg,u]
   |1,u=>rw[<-B];simp[Pg,u]
   |2,u=>simp[Pg,u]
   |3,u=>simp[Pg,u]
   |i+4,u=>omega
 have A:=h4 1 _ Z;have I:=hr.obj 1 _ G;show Calls prog 189 #[_] wd _;by_cases hl:w.l=[]
 .have B:c.getD 1 undef= .slice is 0 0:=by
   generalize c.getD 1 undef=x at A;rw[hl]at A;generalize J:PV.sl 1 0 ([]:List UInt8).length 1=q at A;cases A with
   |sl i off len sz a0 h h0 h1 hc he=>cases J;simp at h0
   |lR i sz h=>rfl
   |_=>cases J
  obtain⟨p,x,y,rfl⟩:=b0 _ B;refine(L3 (N.az 0) p x y wd h1).mono ?_;rintro e w' ⟨rfl,rfl⟩;refine⟨.string ⟨#[]⟩,M,N,pS ⟨w.l.toArray⟩,[],2,rfl,⟨rfl,rfl,rfl⟩,?_,?_,.iv _ _ (by rw[hl];exact .v _)⟩
  .have:=Ext.drew (M:=M) (N:=N) (U:=(· <w.O.length)) (h:=c8 0 w.O) (w:=wd);exact⟨this.os,this.tape,this.output,this.size,this.fN,this.ov,this.gx,this.nm,this.ule,fun i o u=>(nomatch u)⟩
  .exact⟨hr.drew.dZ,fun i o u=>(nomatch u),fun i o u=>(nomatch u),fun i o u=>(nomatch u),fun i j o p u=>(nomatch u)⟩
 .have Y:0<w.l.length:=Qv.2 hl;obtain⟨a0,B,R,f0⟩: ∃a0,c.getD 1 undef= .slice (io ⟨N.az 1,0,is⟩) w.l.length a0∧w.l.length<=a0∧a0<=maxLen:=by
   generalize c.getD 1 undef=x at A;generalize hn:w.l.length=n at A Y;generalize J:PV.sl 1 0 n 1=q at A;cases A with
   |sl i off len sz a0 h h0 hl hc he=>cases J;exact⟨a0,by simp,hl,hc⟩
   |lR i sz h=>cases J;omega
   |_=>cases J
  rcases I with I|⟨d0,q1,q2,q3,q4⟩
  .exact absurd I hl
  obtain⟨p,x,y,rfl⟩:=b0 _ B;refine(IC (N.az 0) (N.az 1) a0 p x y d0 w.l wd h1 q1 q3 R f0 q4 hl).mono ?_;rintro e w' ⟨rfl,rfl⟩;have c0:(AO.bp w.l 5).real=jp:=by cases hll:w.l with
   |nil=>exact absurd hll hl
   |cons=>rfl
  have hk: ∀b,b≠N.az 1->(wd.drew.freeze ⟨N.az 1,0,is⟩ w.l.length).heap[b]? =wd.heap[b]? :=by
   intro b hb;unfold World.freeze;split
   .rfl
   .show(wd.heap.modify _ _)[b]? =_;simp only[PZ];rw[be (fun e=>hb e.symm)]
  have C:(wd.drew.freeze ⟨N.az 1,0,is⟩ w.l.length).os=wd.os∧(wd.drew.freeze ⟨N.az 1,0,is⟩ w.l.length).tape=wd.tape∧(wd.drew.freeze ⟨N.az 1,0,is⟩ w.l.length).output=wd.output∧(wd.drew.freeze ⟨N.az 1,0,is⟩ w.l.length).heap.size=wd.heap.size:=by
   unfold World.freeze;split
   .exact⟨rfl,rfl,rfl,rfl⟩
   .exact⟨rfl,rfl,rfl,by show(wd.heap.modify _ _).size=_;simp⟩
  refine⟨_,M,N,pS ⟨w.l.toArray⟩,[],2,rfl,⟨rfl,rfl,rfl⟩,?_,?_,.iv _ _ (.v _)⟩
  .exact⟨C.1,C.2.1,⟨C.2.2.1,by unfold World.freeze;split<;>exact QO _⟩,by rw[C.2.2.2];exact Ps _,fun b hb hn=>hk b fun e=>hn 1 _ G c0 e.symm,.refl _,fun b c h1 h2=>by simp[h1]at h2,.refl _ _,fun _ h=>h,fun i o u=>(nomatch u)⟩
  .refine⟨fun b d hb=>?_,fun i o u=>(nomatch u),fun i o u=>(nomatch u),fun i o u=>(nomatch u),fun i j o p u=>(nomatch u)⟩;have g0:b≠N.az 1:=fun e=>by
    have:=hr.dM 1 _ G c0;rw[<-e,hb]at this;cases this
   exact(hr.dZ b d hb).mono (hk b g0)
section
variable {nt:Nat} {Q:AQ} {k:List KI} {s:AS}
def wS(s:AS)(b:WS)(i j:Nat):AS:=match s with|⟨f,h,n⟩=>⟨f,(i,io (b.ph i n))::(n,io (.bp b.l 5))::(i,is)::(j,is)::h,n+1⟩
theorem Mj(s:AS)(b:WS)(i j:Nat):wS s b i j=⟨s.f,(i,io (b.ph i s.nx))::(s.nx,io (.bp b.l 5))::(i,is)::(j,is)::s.h,s.nx+1⟩:=by cases s;rfl
def Mi(s:AS)(b:WS)(i j m:Nat):AS:=match s with|⟨f,h,n⟩=>⟨f,(i,io (b.ph i n))::(n,io (.bp b.l 5))::(i,is)::(j,is)::(m,is)::h,n+1⟩
theorem Kd(s:AS)(b:WS)(i j m:Nat):Mi s b i j m=⟨s.f,(i,io (b.ph i s.nx))::(s.nx,io (.bp b.l 5))::(i,is)::(j,is)::(m,is)::s.h,s.nx+1⟩:=by cases s;rfl
theorem w4{o:Oper}{c:Call}{g:FuncId}{args u:List PV}{w C:WS}{r:PV}{i j:Nat}{s':AS}(hc:bD prog g (.ptr 0 0::args) w.O r C.H 3)(ho:o.op= .call c)(ha:bM s.f c=io (g,.ptr i 0::u))
  (hi:s.h.get i=io (w.ph i j)) (hj:s.h.get j=io (.bp w.l 5)) (hlt:PI i s.nx=jp) (hlj:PI j s.nx=jp) (hne:PJ i j=kw) (has:u=args) (hlow:bm 0 args=jp) (hr:r.low 0=jp)
  (hp:putDst nt o r (wS s C i j)=io s'):OT prog nt o s (fun t=>t=s'):=by
 have y:i≠j:=fun e=>by subst e;simp at hne
 have A:([i,j]:List Nat).Nodup:=by simp[y]
 have D: ∀x∈ [i,j],x<s.nx:=by
  intro x B;simp only[Px,Sc,or_false]at B;rcases B with rfl|rfl
  .exact Pf hlt
  .exact Pf hlj
 subst has;have b: ∀σ,dy σ u=u:=fun σ=>gf σ u hlow;refine lv ho ha hc A D ?_ ?_ ?_
 .simp only[Py,Qb,hi,hj];rfl
 .simp only[dy,b];rfl
 .rintro q G n0 ⟨rfl,rfl,rfl⟩;rw[PV.jC _ _ hr];rw[Mj]at hp;exact⟨s',hp,rfl⟩
theorem NJ{all rest:List Oper}{o:Oper}{c:Call}{g:FuncId}{args b:List PV}{w u:WS}{r:PV}{i j:Nat}{s':AS}(hc:bD prog g (.ptr 0 0::args) w.O r u.H 3)(ho:o.op= .call c)(hg:o.guard=is)(ha:bM s.f c=io (g,.ptr i 0::b))
  (hi:s.h.get i=io (w.ph i j)) (hj:s.h.get j=io (.bp w.l 5)) (hlt:PI i s.nx=jp) (hlj:PI j s.nx=jp) (hne:PJ i j=kw) (has:b=args) (hlow:bm 0 args=jp) (hr:r.low 0=jp)
  (hp:putDst nt o r (wS s u i j)=io s') (h:GO prog nt (.ops all rest::k) Q s'):GO prog nt (.ops all (o::rest)::k) Q s:=
 cz hg (w4 hc ho ha hi hj hlt hlj hne has hlow hr hp) fun t x=>by subst x;exact h
theorem gm{all rest:List Oper}{o:Oper}{c:Call}{g:FuncId}{args b:List PV}{w u:WS}{r:PV}{i j:Nat}{s':AS}(hc:bD prog g (.ptr 0 0::args) w.O r u.H 3)(h:GO prog nt (.ops all rest::k) Q s')(ho:o.op= .call c:=by exact rfl)(hg:o.guard=is:=by exact rfl)(ha:bM s.f c=io (g,.ptr i 0::b):=by exact rfl)(hi:s.h.get i=io (w.ph i j):=by exact rfl)(hj:s.h.get j=io (.bp w.l 5):=by exact rfl)(hlt:PI i s.nx=jp:=by exact rfl)(hlj:PI j s.nx=jp:=by exact rfl)(hne:PJ i j=kw:=by exact rfl)(has:b=args:=by exact rfl)(hlow:bm 0 args=jp:=by exact rfl)(hr:r.low 0=jp:=by exact rfl)(hp:putDst nt o r (wS s u i j)=io s':=by exact rfl):GO prog nt (.ops all (o::rest)::k) Q s:=NJ (hc:=hc) (ho:=ho) (hg:=hg) (ha:=ha) (hi:=hi) (hj:=hj) (hlt:=hlt) (hlj:=hlj) (hne:=hne) (has:=has) (hlow:=hlow) (hr:=hr) (hp:=hp) (h:=h)
theorem Ae{o:Oper}{c:Call}{g:FuncId}{b:List an}{w u:WS}{i j m n:Nat}{s':AS}(hc:bD prog g [.ptr 0 0,.sl 2 0 b.length 1] [w.c,.bp w.l 5,aF 1 b cS] (.bq []) [(0,io (u.ph 0 3)),(3,io (.bp u.l 5))] 4)(ho:o.op= .call c)(ha:bM s.f c=io (g,[.ptr i 0,.sl m 0 n 1]))
  (hi:s.h.get i=io (w.ph i j)) (hj:s.h.get j=io (.bp w.l 5)) (hm:s.h.get m=io (aF 1 b cS)) (hn:n=b.length) (hlt:PI i s.nx=jp) (hlj:PI j s.nx=jp) (hlm:PI m s.nx=jp) (hnd:cC [i,j,m]=jp)
  (hp:putDst nt o (.bq []) (Mi s u i j m)=io s'):OT prog nt o s (fun t=>t=s'):=by
 have A: ∀x∈ [i,j,m],x<s.nx:=by
  intro x y;simp only[Px,Sc,or_false]at y;rcases y with rfl|rfl|rfl
  .exact Pf hlt
  .exact Pf hlj
  .exact Pf hlm
 subst hn;refine lv ho ha hc (fe hnd) A ?_ Z ?_
 .simp only[Py,Qb,hi,hj,hm,b3];rfl
 .rintro q B n0 ⟨rfl,rfl,rfl⟩;rw[Kd]at hp;exact⟨s',hp,rfl⟩
theorem go_wp{all rest:List Oper}{o:Oper}{c:Call}{g:FuncId}{b:List an}{w u:WS}{i j m n:Nat}{s':AS}(hc:bD prog g [.ptr 0 0,.sl 2 0 b.length 1] [w.c,.bp w.l 5,aF 1 b cS] (.bq []) [(0,io (u.ph 0 3)),(3,io (.bp u.l 5))] 4)(ho:o.op= .call c)(hg:o.guard=is)(ha:bM s.f c=io (g,[.ptr i 0,.sl m 0 n 1]))
  (hi:s.h.get i=io (w.ph i j)) (hj:s.h.get j=io (.bp w.l 5)) (hm:s.h.get m=io (aF 1 b cS)) (hn:n=b.length) (hlt:PI i s.nx=jp) (hlj:PI j s.nx=jp) (hlm:PI m s.nx=jp) (hnd:cC [i,j,m]=jp)
  (hp:putDst nt o (.bq []) (Mi s u i j m)=io s')
  (h:GO prog nt (.ops all rest::k) Q s'):GO prog nt (.ops all (o::rest)::k) Q s:=
 cz hg (Ae hc ho ha hi hj hm hn hlt hlj hlm hnd hp) fun t x=>by subst x;exact h
theorem ic{all rest:List Oper}{o:Oper}{c:Call}{g:FuncId}{b:List an}{w u:WS}{i j m n:Nat}{s':AS}(hc:bD prog g [.ptr 0 0,.sl 2 0 b.length 1] [w.c,.bp w.l 5,aF 1 b cS] (.bq []) [(0,io (u.ph 0 3)),(3,io (.bp u.l 5))] 4)(h:GO prog nt (.ops all rest::k) Q s')(ho:o.op= .call c:=by exact rfl)(hg:o.guard=is:=by exact rfl)(ha:bM s.f c=io (g,[.ptr i 0,.sl m 0 n 1]):=by exact rfl)(hi:s.h.get i=io (w.ph i j):=by exact rfl)(hj:s.h.get j=io (.bp w.l 5):=by exact rfl)(hm:s.h.get m=io (aF 1 b cS):=by exact rfl)(hn:n=b.length:=by exact rfl)(hlt:PI i s.nx=jp:=by exact rfl)(hlj:PI j s.nx=jp:=by exact rfl)(hlm:PI m s.nx=jp:=by exact rfl)(hnd:cC [i,j,m]=jp:=by exact rfl)(hp:putDst nt o (.bq []) (Mi s u i j m)=io s':=by exact rfl):GO prog nt (.ops all (o::rest)::k) Q s:=go_wp (hc:=hc) (ho:=ho) (hg:=hg) (ha:=ha) (hi:=hi) (hj:=hj) (hm:=hm) (hn:=hn) (hlt:=hlt) (hlj:=hlj) (hlm:=hlm) (hnd:=hnd) (hp:=hp) (h:=h)
theorem wC{all:List Oper}{todo pend:List (Nat×Oper)}{u:Nat}{B A:Prop}{o:Oper}{c:Call}{g:FuncId}{b:List an}{w y:WS}{i j m n:Nat}{s':AS}(hc:bD prog g [.ptr 0 0,.sl 2 0 b.length 1] [w.c,.bp w.l 5,aF 1 b cS] (.bq []) [(0,io (y.ph 0 3)),(3,io (.bp y.l 5))] 4)
  (hrd:eL todo=[(u,o)]) (ho:o.op= .call c) (ha:bM s.f c=io (g,[.ptr i 0,.sl m 0 n 1]))
  (hi:s.h.get i=io (w.ph i j)) (hj:s.h.get j=io (.bp w.l 5)) (hm:s.h.get m=io (aF 1 b cS)) (hn:n=b.length) (hlt:PI i s.nx=jp) (hlj:PI j s.nx=jp) (hlm:PI m s.nx=jp) (hnd:cC [i,j,m]=jp)
  (hp:putDst nt o (.bq []) (Mi s y i j m)=io s')
  (hg:bX nt all s.f o=io jp) (hpb:gZ all pend o=jp) (hE:mW todo [u]=jp)
  (hag:mX nD nt all s todo pend=io B) (hCA:B) (hag2:dD nD nt all s' (aZ pend o)=io A) (hC2:A)
  (h:GO prog nt (.bW all (todo.filter fun x=>!PJ x.1 u) (aZ pend o)::k) Q s'):GO prog nt (.bW all todo pend::k) Q s:=
 lj ab hrd hg hpb hE hag hCA (Ae hc ho ha hi hj hm hn hlt hlj hlm hnd hp) hag2 hC2 h
theorem NK{all:List Oper}{todo pend:List (Nat×Oper)}{b:Nat}{y u:Prop}{o:Oper}{c:Call}{g:FuncId}{args A:List PV}{w B:WS}{r:PV}{i j:Nat}{s':AS}(hc:bD prog g (.ptr 0 0::args) w.O r B.H 3)
  (hrd:eL todo=[(b,o)]) (ho:o.op= .call c) (ha:bM s.f c=io (g,.ptr i 0::A))
  (hi:s.h.get i=io (w.ph i j)) (hj:s.h.get j=io (.bp w.l 5)) (hlt:PI i s.nx=jp) (hlj:PI j s.nx=jp) (hne:PJ i j=kw) (has:A=args) (hlow:bm 0 args=jp) (hr:r.low 0=jp)
  (hp:putDst nt o r (wS s B i j)=io s')
  (hg:bX nt all s.f o=io jp) (hpb:gZ all pend o=jp) (hE:mW todo [b]=jp)
  (hag:mX nD nt all s todo pend=io y) (hCA:y) (hag2:dD nD nt all s' (aZ pend o)=io u) (hC2:u)
  (h:GO prog nt (.bW all (todo.filter fun x=>!PJ x.1 b) (aZ pend o)::k) Q s'):GO prog nt (.bW all todo pend::k) Q s:=
 lj ab hrd hg hpb hE hag hCA (w4 hc ho ha hi hj hlt hlj hne has hlow hr hp) hag2 hC2 h
theorem uc{all:List Oper}{todo pend:List (Nat×Oper)}{b:Nat}{y u:Prop}{o:Oper}{c:Call}{g:FuncId}{args A:List PV}{w B:WS}{r:PV}{i j:Nat}{s':AS}(hc:bD prog g (.ptr 0 0::args) w.O r B.H 3)(h:GO prog nt (.bW all (todo.filter fun x=>!PJ x.1 b) (aZ pend o)::k) Q s')(hrd:eL todo=[(b,o)]:=by exact rfl)(ho:o.op= .call c:=by exact rfl)(ha:bM s.f c=io (g,.ptr i 0::A):=by exact rfl)(hi:s.h.get i=io (w.ph i j):=by exact rfl)(hj:s.h.get j=io (.bp w.l 5):=by exact rfl)(hlt:PI i s.nx=jp:=by exact rfl)(hlj:PI j s.nx=jp:=by exact rfl)(hne:PJ i j=kw:=by exact rfl)(has:A=args:=by exact rfl)(hlow:bm 0 args=jp:=by exact rfl)(hr:r.low 0=jp:=by exact rfl)(hp:putDst nt o r (wS s B i j)=io s':=by exact rfl)(hg:bX nt all s.f o=io jp:=by exact rfl)(hpb:gZ all pend o=jp:=by exact rfl)(hE:mW todo [b]=jp:=by exact rfl)(hag:mX nD nt all s todo pend=io y:=by exact rfl)(hCA:y:=by(repeat' (first|exact ac|exact rfl|exact ah.refl _|exact ah.bk (by assumption)|apply Pm))<;>first|omega|(simp only[Po];omega)|(simp;done)|(simp;omega))(hag2:dD nD nt all s' (aZ pend o)=io u:=by exact rfl)(hC2:u:=by(repeat' (first|exact ac|exact rfl|exact ah.refl _|exact ah.bk (by assumption)|apply Pm))<;>first|omega|(simp only[Po];omega)|(simp;done)|(simp;omega)):GO prog nt (.bW all todo pend::k) Q s:=NK (hc:=hc) (hrd:=hrd) (ho:=ho) (ha:=ha) (hi:=hi) (hj:=hj) (hlt:=hlt) (hlj:=hlj) (hne:=hne) (has:=has) (hlow:=hlow) (hr:=hr) (hp:=hp) (hg:=hg) (hpb:=hpb) (hE:=hE) (hag:=hag) (hCA:=hCA) (hag2:=hag2) (hC2:=hC2) (h:=h)
theorem E4{l:List ResultVar}{r r0 a b c d:PV}{e:Exit}{u:WS}{j n:Nat}(he:e= .normal∨e= .ret)(hr:iU nD s l=io r0)(hi:s.h.get 0=io (.cells [a,b,c,d] (io 225)))(ha:a= .ej u.fr 0)(hb:b= .sl j 0 n 1)(hn:n=u.l.length)(hc:ah c (pB u.bad))(hd:ah d (pI u.br))
  (hj:s.h.get j=io (.bp u.l 5)) (hlj:PI j s.nx=jp) (hne:PJ 0 j=kw) (hns:Rw 2 s.nx=jp)
  (hrl:ah r0 r) (hlow:r.low 0=jp) (hlow3:r.low 3=jp):Ac nD l 2 r u.H 3 e s:=by
 subst ha;subst hb;subst hn;refine aY [j] he hr ⟨rfl,Pf hns,fun x y=>?_,⟨?_,hlow3,ac⟩,⟨⟨_,hi,.cells ⟨.refl _,.refl _,hc,hd,ac⟩⟩,Pf Z,rfl,⟨.bp u.l 5,hj,.of_eq Z⟩,Pf Z,ac,ac⟩,?_⟩
 .simp only[Pw]at y;subst y;exact Pf hlj
 .rw[PV.jC _ _ hlow];exact hrl
 .have:(0:Nat)≠j:=fun e=>by subst e;simp at hne
  show([0,j]:List Nat).Nodup;simpa using this
theorem gP{l:List ResultVar}{r r0 a b c d:PV}{e:Exit}{u:WS}{j n:Nat}(he:e= .normal∨e= .ret:=by first|exact .inr Z|exact .inl Z)(hr:iU nD s l=io r0:=by exact rfl)(hi:s.h.get 0=io (.cells [a,b,c,d] (io 225)):=by exact rfl)(ha:a= .ej u.fr 0:=by exact rfl)(hb:b= .sl j 0 n 1:=by exact rfl)(hn:n=u.l.length:=by exact rfl)(hc:ah c (pB u.bad):=by first|exact .refl _|exact .kb _)(hd:ah d (pI u.br):=by first|exact .refl _|exact .kb _)(hj:s.h.get j=io (.bp u.l 5):=by exact rfl)(hlj:PI j s.nx=jp:=by exact rfl)(hne:PJ 0 j=kw:=by exact rfl)(hns:Rw 2 s.nx=jp:=by exact rfl)(hrl:ah r0 r:=by exact .refl _)(hlow:r.low 0=jp:=by exact rfl)(hlow3:r.low 3=jp:=by exact rfl):Ac nD l 2 r u.H 3 e s:=E4 (he:=he) (hr:=hr) (hi:=hi) (ha:=ha) (hb:=hb) (hn:=hn) (hc:=hc) (hd:=hd) (hj:=hj) (hlj:=hlj) (hne:=hne) (hns:=hns) (hrl:=hrl) (hlow:=hlow) (hlow3:=hlow3)
theorem Oo{n0 j m:Nat}{C:AF}{w A:WS}{a b c d:PV}(hw:w=A)(hi:s.h.get 0=io (.cells [a,b,c,d] (io 225)))(ha:a= .ej w.fr 0)(hb:b= .sl j 0 m 1)(hm:m=w.l.length)(hc:ah c (pB w.bad))(hd:ah d (pI w.br))(hj:s.h.get j=io (.bp w.l 5))
  (hlj:PI j s.nx=jp) (hne:PJ 0 j=kw) (h0:PI 0 n0=jp) (hns:Rw n0 s.nx=jp) (hf:C3 (n0+1) (sg n0 [j]) s.f C):Wk n0 [j] s ⟨C,[(0,io (A.ph 0 n0)),(n0,io (.bp A.l 5))],n0+1⟩:=by
 subst hw;subst ha;subst hb;subst hm;have u:0<n0:=Pf h0;have s0:sg n0 [j] 0=0:=fi u;have D:PI n0 n0=kw:=RR.2 fun e=>absurd (Pf e) (by omega);have G:PI 0 (n0+1)=jp:=Qh (by omega);have I:PI n0 (n0+1)=jp:=Qh (by omega);have y:sg n0 [j] n0=j:=by simp[sg,D]
 refine⟨rfl,Pf hns,fun x B=>?_,hf,⟨⟨_,by rw[s0];exact hi,?_⟩,QR u,?_,⟨.bp w.l 5,by rw[y];exact hj,.of_eq Z⟩,Q9 _,ac,ac⟩,?_⟩
 .simp only[Pw]at B;subst B;exact Pf hlj
 .simp only[AO.cv,dy,PV.cv,s0,y];exact .cells ⟨.refl _,.refl _,hc,hd,ac⟩
 .simp[AO.low,bm,PV.low,G,I]
 .have:(0:Nat)≠j:=fun e=>by subst e;simp at hne
  simp only[ei,s0,y];simpa using this
theorem ox{n0 j m:Nat}{x:AF}{w u:WS}{a b c d:PV}(hw:w=u)(hi:s.h.get 0=io (.cells [a,b,c,d] (io 225)):=by exact rfl)(ha:a= .ej w.fr 0:=by exact rfl)(hb:b= .sl j 0 m 1:=by exact rfl)(hm:m=w.l.length:=by exact rfl)(hc:ah c (pB w.bad):=by first|exact .refl _|exact .kb _)(hd:ah d (pI w.br):=by first|exact .refl _|exact .kb _)(hj:s.h.get j=io (.bp w.l 5):=by exact rfl)(hlj:PI j s.nx=jp:=by exact rfl)(hne:PJ 0 j=kw:=by exact rfl)(h0:PI 0 n0=jp:=by exact rfl)(hns:Rw n0 s.nx=jp:=by exact rfl)(hf:C3 (n0+1) (sg n0 [j]) s.f x:=by repeat' (first|exact ac|exact ah.refl _|exact rfl|apply Pm)):Wk n0 [j] s ⟨x,[(0,io (u.ph 0 n0)),(n0,io (.bp u.l 5))],n0+1⟩:=Oo (hw:=hw) (hi:=hi) (ha:=ha) (hb:=hb) (hm:=hm) (hc:=hc) (hd:=hd) (hj:=hj) (hlj:=hlj) (hne:=hne) (h0:=h0) (hns:=hns) (hf:=hf)
end
end
def xE(w:WS)(s:an):WS:=⟨kw,w.l++s.data.toList,w.bad,w.br⟩
theorem d183(w:WS)(s:an)(hb:w.l.length+s.size<=140737488355328):bD prog 205 [.ptr 0 0,pS s] w.O (.bq [pI s.size,.iv (.v .nilIface)]) (xE w s).H 3:=by
 refine au ab func205 Z (by decide) ntmps205 Z (by simp) ?_;refine gA Z (zq [0,1] (d204 w) ?_);refine gA Z ?_;refine H4 ab Z Z Z Z Z Z Z Z Z Z Z Z Z Z Z Z hb ?_;refine gA Z gP
def aP(w:WS)(b:Bool):WS:=⟨w.fr,w.l,w.bad||!b,w.br⟩
theorem HJ(w:WS){b:Bool}(h:(!b)=kw):aP w b=w:=by cases w;simp_all [aP]
theorem HK(w:WS){b:Bool}(h:(!b)=jp):aP w b=⟨w.fr,w.l,jp,w.br⟩:=by cases w;simp_all [aP]
theorem d146(w:WS)(b:Bool):bD prog 185 [.ptr 0 0,pB b] w.O (.bq []) (aP w b).H 3:=by
 refine au ab func185 Z (by decide) ntmps185 Z (by simp) ?_;refine zJ Z Z (fun h=>?_) fun h=>?_
 .rw[HK w h];refine gA Z gP
 .rw[HJ w h];refine gA Z gP
def aT(w:WS)(b:List an):WS:=b.foldl xE w
def eJ(b:List an):Nat:=(b.map SF).sum
theorem D3(w:WS)(s:an):(xE w s).l.length=w.l.length+s.size:=by simp[xE]
theorem gY: ∀(b:List an) (w:WS),(aT w b).l.length=w.l.length+eJ b
 | [],w=>by simp[aT,eJ]
 |s::r,w=>by
  have:=gY r (xE w s);simp only[aT,Qd]at this ⊢;rw[this,D3];simp[eJ];omega
theorem sb: ∀(b:List an) (i:Nat),i<b.length->eJ (b.take i)+(b.getD i co).size<=eJ b
 | [],i,h=>by simp at h
 |s::r,0,_=>by simp[eJ]
 |s::r,i+1,h=>by
  have:=sb r i (by simpa using h);simp[eJ]at this ⊢;omega
theorem d147(w:WS)(j:List an)(hl:j.length<=1000)(hb:w.l.length+eJ j<=140737488355328):bD prog 186 [.ptr 0 0,.sl 2 0 j.length 1] [w.c,.bp w.l 5,aF 1 j cS] (.bq []) [(0,io ((aT w j).ph 0 3)),(3,io (.bp (aT w j).l 5))] 4:=by
 refine au ab func186 Z (by decide) ntmps186 Z (by simp) ?_;refine gA Z ?_;refine rD 2 (fun k=>cS (j.getD k co)) Z (fD Z) (by simp[AF.qy,PV.c6,mB]) ⟨(by simp[AO.qy,dP,PV.c6]),ac,xw _ _ _ _ _ _,ac⟩ ?_;refine aJ 0 j.length (PA _) (fun i=>⟨[(0,.ptr 0 0),(6,.iv (strs j)),(7,pI j.length),(8,pI i)],[(0,io ((aT w (j.take i)).ph 0 3)),(3,io (.bp (aT w (j.take i)).l 5))],4⟩) (fun _=>True) [1] ac
  (zM (bi ⟨.ct Z (fun k _=>by rw[PO]),rfl,bi (bi trivial)⟩) ⟨⟨_,rfl,.of_eq Z⟩,Pf Z,rfl,⟨_,rfl,.of_eq Z⟩,Pf Z,ac,ac⟩) fun i x _=>?_
 refine zJ Z Z (fun h1=>?_) fun h1=>?_
 .have h1:i<j.length:=zN h1;have hs:aT w (j.take (i+1))=xE (aT w (j.take i)) (j.getD i co):=fU (g:=xE) (b:=w) h1;have u:=gY (j.take i) w;have y:=sb j i h1;refine gA Z (gm (d183 (aT w (j.take i)) (j.getD i co) (by omega)) ?_);refine gA Z ⟨h1,ac,[4],zW ⟨⟨_,rfl,.of_eq (by rw[hs];rfl)⟩,Pf Z,rfl,⟨_,rfl,.of_eq (by rw[hs];rfl)⟩,Pf Z,ac,ac⟩⟩
 .have h1:j.length<=i:=zG h1;rw[Pz h1];refine gA Z (zD [3] Z (zW ⟨⟨_,rfl,.of_eq Z⟩,Pf Z,rfl,⟨_,rfl,.of_eq Z⟩,Pf Z,ac,ac⟩))
end Go.Proofs.YtllkaddcplhklaaGreatDoor
namespace Go.Proofs
open Go.Shelf
def Tryz.wx:Go.Shelf.Ren:=⟨fun|171=>219|243=>221|246=>222|283=>223|284=>224|285=>225|286=>226|129=>104|317=>227|318=>228|319=>229|320=>230|337=>231|338=>232|n=>n,fun|3=>3|9=>9|2=>2|4=>4|171=>295|0=>0|53=>177|37=>221|5=>5|173=>297|212=>300|51=>175|20=>20|213=>301|46=>147|232=>302|233=>303|n=>n,fun|17=>1|18=>2|19=>3|n=>n⟩
theorem Tryz.Ew:Go.Proofs.LaysM.n171 Tryz.prog Tryz.wx:={
 mixed:=by kernel_rfl
 f129:=Tryz.func104.trans (congrArg io (by kernel_rfl))
 f171:=Tryz.func219.trans (congrArg io (by kernel_rfl))
 f243:=Tryz.func221.trans (congrArg io (by kernel_rfl))
 f246:=Tryz.func222.trans (congrArg io (by kernel_rfl))
 f283:=Tryz.func223.trans (congrArg io (by kernel_rfl))
 f284:=Tryz.func224.trans (congrArg io (by kernel_rfl))
 f285:=Tryz.func225.trans (congrArg io (by kernel_rfl))
 f286:=Tryz.func226.trans (congrArg io (by kernel_rfl))
 f317:=Tryz.func227.trans (congrArg io (by kernel_rfl))
 f318:=Tryz.func228.trans (congrArg io (by kernel_rfl))
 f319:=Tryz.func229.trans (congrArg io (by kernel_rfl))
 f320:=Tryz.func230.trans (congrArg io (by kernel_rfl))
 f337:=Tryz.func231.trans (congrArg io (by kernel_rfl))
 f338:=Tryz.func232.trans (congrArg io (by kernel_rfl))
 t0:=Tryz.underlying0
 a0:=Tryz.isAgg0
 z0:=Tryz.sizeOf0
 v0:=Tryz.zeroValue0
 t2:=Tryz.underlying2
 a2:=Tryz.isAgg2
 z2:=Tryz.sizeOf2
 v2:=Tryz.zeroValue2
 t3:=Tryz.underlying3
 a3:=Tryz.isAgg3
 z3:=Tryz.sizeOf3
 v3:=Tryz.zeroValue3
 t4:=Tryz.underlying4
 a4:=Tryz.isAgg4
 z4:=Tryz.sizeOf4
 v4:=Tryz.zeroValue4
 t5:=Tryz.underlying5
 a5:=Tryz.isAgg5
 z5:=Tryz.sizeOf5
 v5:=Tryz.zeroValue5
 t9:=Tryz.underlying9
 a9:=Tryz.isAgg9
 z9:=Tryz.sizeOf9
 v9:=Tryz.zeroValue9
 t20:=Tryz.underlying20
 a20:=Tryz.isAgg20
 z20:=Tryz.sizeOf20
 v20:=Tryz.zeroValue20
 t37:=Tryz.underlying221
 a37:=Tryz.isAgg221
 z37:=Tryz.sizeOf221
 v37:=Tryz.zeroValue221
 t46:=Tryz.underlying147
 a46:=Tryz.isAgg147
 z46:=Tryz.sizeOf147
 v46:=Tryz.zeroValue147
 t51:=Tryz.underlying175
 a51:=Tryz.isAgg175
 z51:=Tryz.sizeOf175
 v51:=Tryz.zeroValue175
 t53:=Tryz.underlying177
 a53:=Tryz.isAgg177
 z53:=Tryz.sizeOf177
 v53:=Tryz.zeroValue177
 t171:=Tryz.underlying295
 a171:=Tryz.isAgg295
 z171:=Tryz.sizeOf295
 v171:=Tryz.zeroValue295
 t173:=Tryz.underlying297
 a173:=Tryz.isAgg297
 z173:=Tryz.sizeOf297
 v173:=Tryz.zeroValue297
 t212:=Tryz.underlying300
 a212:=Tryz.isAgg300
 z212:=Tryz.sizeOf300
 v212:=Tryz.zeroValue300
 t213:=Tryz.underlying301
 a213:=Tryz.isAgg301
 z213:=Tryz.sizeOf301
 t232:=Tryz.underlying302
 a232:=Tryz.isAgg302
 z232:=Tryz.sizeOf302
 v232:=Tryz.zeroValue302
 t233:=Tryz.underlying303
 a233:=Tryz.isAgg303
 z233:=Tryz.sizeOf303
 v233:=Tryz.zeroValue303
 g17:=by kernel_rfl
 g18:=by kernel_rfl
 g19:=by kernel_rfl
 i0:=by kernel_rfl
 i2:=by kernel_rfl
 i3:=by kernel_rfl
 i4:=by kernel_rfl
 i5:=by kernel_rfl
 i9:=by kernel_rfl
 i20:=by kernel_rfl
 i37:=by kernel_rfl
 i46:=by kernel_rfl
 i51:=by kernel_rfl
 i53:=by kernel_rfl
 i171:=by kernel_rfl
 i173:=by kernel_rfl
 i212:=by kernel_rfl
 i232:=by kernel_rfl
 i233:=by kernel_rfl
 m17:=by kernel_rfl
 m18:=by kernel_rfl
 m19:=by kernel_rfl}
theorem YtllkaddcplhklaaGreatDoor.NC (n:Int) (h0: -9223372036854775808<=n) (h1:n<=9223372036854775807) (w:World) (b:Lib.TabIs Tryz.prog w "internal/strconv.uint64pow10" .u64 Lib.pow10Tab):
  Calls Tryz.prog 219 #[.int .i64 n] w fun e j=>e= .returned (.string ⟨(Lib.itoa n).toArray⟩)∧ ∃k os,j=Go.Sort.grow (w.drewN k) os:=Any.strconv_Itoa Tryz.Ew n h0 h1 w b
end Go.Proofs
namespace Go.Proofs.YtllkaddcplhklaaGreatDoor
open Go Go.Al Go.Proofs.Tryz
theorem OE:prog.globalNamed "internal/strconv.uint64pow10" =io 1:=by kernel_rfl
theorem pow_eq:nT=Lib.pow10Tab:=by decide
theorem Ot{M:Mem}{N:Nm}{U:Nat->Prop}{h:AH}{w:World}(hr:Rel M N U h w):Lib.TabIs prog w "internal/strconv.uint64pow10" .u64 Lib.pow10Tab:=by
 obtain⟨T,b,h1⟩:=hr.dZ 1 _ (M.Ie 1 _ Z);show World.var? _ _ _=_;simp only[World.var?,OE,RF,h1,pow_eq]
theorem OV(n:Int)(h0: -9223372036854775808<=n)(h1:n<=9223372036854775807):Pure prog 219 [pI n] (pS ⟨(Lib.itoa n).toArray⟩):=by
 refine⟨bf func219 Z (by decide),fun M N w vs y x D=>?_⟩;obtain⟨v,rfl⟩: ∃v,vs=[v]:=by
  cases vs with
  |nil=>cases x
  |cons v r=>cases r with
   |nil=>exact⟨v,rfl⟩
   |cons a b=>simp at x
 have A:VR M N (· <0) (pI n) v:=D 0 _ Z;have B:v= .int .i64 n:=by
  cases A with
  |iv _ _ h=>cases h;rfl
 subst B;refine(NC n h0 h1 w (Ot y)).mono ?_;rintro e G ⟨rfl,k,os,rfl⟩;have hk: ∀b,b<w.heap.size->(Go.Sort.grow (w.drewN k) os).heap[b]? =w.heap[b]? :=fun b hb=>by
  show(w.heap++os)[b]? =_;rw[P1 hb]
 refine⟨_,M,N,pS ⟨(Lib.itoa n).toArray⟩,[],0,rfl,⟨rfl,rfl,rfl⟩,⟨rfl,rfl,⟨rfl,Sb _ _⟩,?_,fun b hb _=>hk b hb,.refl _,fun b c h1 C=>(nomatch (h1.symm.trans C)),.refl _ _,fun _ h=>h,fun i o u=>(nomatch u)⟩,⟨fun b c hb=>?_,fun i o u=>(nomatch u),fun i o u=>(nomatch u),fun i o u=>(nomatch u),fun i j o p u=>(nomatch u)⟩,.iv _ _ (.v _)⟩
 .show w.heap.size<=(w.heap++os).size;simp
 .exact(y.dZ b c hb).mono (hk b (y.dZ b c hb).lt)
def OD:an:=⟨#[48,49,50,51,52,53,54,55,56,57,65,66,67,68,69,70]⟩
def Mf(c:UInt8):Int:=(c.toNat:Int).fdiv (2 ^ min (Int.toNat 4) IntKind.u8.bits)
def Me(c:UInt8):Int:=IntKind.u8.wrap ((BitVec.ofInt IntKind.u8.bits (c.toNat:Int)&&&BitVec.ofInt IntKind.u8.bits 15).toNat:Int)
theorem LI(c:UInt8):0<=Mf c∧Mf c<16:=by
 have h:c.toNat<256:=c.toNat_lt;have e:Mf c=(c.toNat:Int)/16:=by
  unfold Mf;have:(2:Int) ^ min (Int.toNat 4) IntKind.u8.bits=16:=by decide
  rw[this];exact Int.fdiv_eq_ediv_of_nonneg _ (by decide)
 rw[e];omega
theorem LF: ∀c:UInt8,0<=Me c∧Me c<16:=by
 intro c;have h: ∀n:Fin 256,0<=Me (UInt8.ofNat n.val)∧Me (UInt8.ofNat n.val)<16:=by decide
 have:=h ⟨c.toNat,c.toNat_lt⟩;simpa using this
def NG(n:Int):UInt8:=OD.data.toList.getD n.toNat 0
def qB(c:UInt8):List UInt8:=if c.toNat=34∨c.toNat=92 then[92,c] else if c.toNat=10 then[92,110] else if c.toNat<32∨126<c.toNat then[92,120,NG (Mf c),NG (Me c)] else[c]
theorem Ls(c:UInt8):(qB c).length<=4:=by
 unfold qB
 repeat' split
 all_goals simp
def pL(s:an)(i:Nat):List UInt8:=34::(s.data.toList.take i).flatMap qB
def pH(s:an):an:=⟨(34::s.data.toList.flatMap qB++ [34]).toArray⟩
theorem sy(s:an): ∀i,(pL s i).length<=1+4*i
 |0=>by simp[pL]
 |i+1=>by
  have h:=sy s i;rcases Ql i s.data.toList.length with hi|hi
  .have:=Ls (s.data.toList.getD i co);simp only[pL,PX]at h ⊢;rw[bL hi,Pn];omega
  .simp only[pL,Pz hi]at h;simp only[pL,Pz (by omega:s.data.toList.length<=i+1)];omega
theorem Cc{s:an}{i:Nat}(h:i<s.data.toList.length):pL s (i+1)=pL s i++qB (s.data.toList.getD i co):=by
 simp only[pL,bL h,QN]
theorem OU(s:an)(hs:s.size<=1000):Pure prog 220 [pS s] (pS (pH s)):=by
 have hl:s.data.toList.length=s.size:=by simp
 refine ai ab func220 Z (by decide) ntmps220 Z (by simp) Z ?_;refine gA Z ?_;refine Cz ab Z Z Z Z Z Z Z Z Z Z Z (by omega) ?_;refine gA Z ?_;refine aJ 0 s.data.toList.length (PA _) (fun i=>⟨[(3,.sl 1 0 (pL s i).length 1),(8,.iv (.ct 1 s.data.toList.length fun k=>tp (s.data.toList.getD k co))),(9,pI s.data.toList.length),(10,pI i)],[(1,io (aF 1 (pL s i) tp))],2⟩) (fun _=>True) [0] ac
  (zW (zS trivial)) fun i I _=>?_
 have J:=sy s i;refine zE Z Z (fun h1=>?_) fun h1=>?_
 .have h1:s.data.toList.length<=i:=zG h1;refine gA Z ?_;refine Ic ab (pL s i++ [34]) Z Z Z Z Z Z Z Z Z Z Z Z (by rw[PF];rfl) (by rw[Pn];rfl) ?_;refine gA Z (zL (.of_eq ?_));simp only[pL,pH,Pz h1];rfl
 have h1:i<s.data.toList.length:=zN h1;have b:=Cc h1;have j:s.data.toList.getD (i:Int).toNat co=s.data.toList.getD i co:=rfl;generalize G:s.data.toList.getD i co=c at b j;refine zJ Z Z (fun A=>?_) fun A=>?_
 .have A:c.toNat=34:=by have:=zT A;rw[j]at this;omega
  rw[qB,am (.inl A)]at b;refine gA Z ⟨h1,ac,[3],zM ⟨.row (by rw[b,Pn];rfl),rfl,bi (bi (bi ac))⟩ (hR Z (by rw[b,PF,<-G];rfl) Z ac)⟩
 have A: ¬c.toNat=34:=by have:=zF A;rw[j]at this;omega
 refine zJ Z Z (fun B=>?_) fun B=>?_
 .have B:c.toNat=92:=by have:=zT B;rw[j]at this;omega
  rw[qB,am (.inr B)]at b;refine gA Z ⟨h1,ac,[3],zM ⟨.row (by rw[b,Pn];rfl),rfl,bi (bi (bi ac))⟩ (hR Z (by rw[b,PF,<-G];rfl) Z ac)⟩
 have B: ¬c.toNat=92:=by have:=zF B;rw[j]at this;omega
 rw[qB,be (by omega)]at b;refine zJ Z Z (fun y=>?_) fun y=>?_
 .have y:c.toNat=10:=by have:=zT y;rw[j]at this;omega
  rw[am y]at b;refine gA Z ⟨h1,ac,[3],zM ⟨.row (by rw[b,Pn];rfl),rfl,bi (bi (bi ac))⟩ (hR Z (by rw[b,PF];rfl) Z ac)⟩
 have y: ¬c.toNat=10:=by have:=zF y;rw[j]at this;omega
 rw[be y]at b;have u:=LI c;have x:=LF c;rw[<-G]at u x;simp only[Mf,Me]at u x;refine zJ Z Z (fun C=>?_) fun C=>?_
 .have C:c.toNat<32:=by have:=zT C;rw[j]at this;omega
  rw[am (.inl C)]at b;refine fj Z (by(repeat' (first|exact ac|exact rfl|exact ah.refl _|exact u|exact x|apply Pm))<;>first|omega|exact u.1|exact u.2|exact x.1|exact x.2|simp) ?_;exact⟨h1,ac,[3],zM ⟨.row (by rw[b,Pn];rfl),rfl,bi (bi (bi ac))⟩ (hR Z (by rw[b,PF,<-G];rfl) Z ac)⟩
 have C: ¬c.toNat<32:=by have:=zF C;rw[j]at this;omega
 refine zJ Z Z (fun D=>?_) fun D=>?_
 .have D:126<c.toNat:=by have:=zT D;rw[j]at this;omega
  rw[am (.inr D)]at b;refine fj Z (by(repeat' (first|exact ac|exact rfl|exact ah.refl _|exact u|exact x|apply Pm))<;>first|omega|exact u.1|exact u.2|exact x.1|exact x.2|simp) ?_;exact⟨h1,ac,[3],zM ⟨.row (by rw[b,Pn];rfl),rfl,bi (bi (bi ac))⟩ (hR Z (by rw[b,PF,<-G];rfl) Z ac)⟩
 have D: ¬126<c.toNat:=by have:=zF D;rw[j]at this;omega
 rw[be (by omega)]at b;refine gA Z ⟨h1,ac,[3],zM ⟨.row (by rw[b,Pn];rfl),rfl,bi (bi (bi ac))⟩ (hR Z (by rw[b,PF,<-G];rfl) Z ac)⟩
def uv(v:dG):an:=if v.kind=1 then⟨(Lib.itoa v.num).toArray⟩ else if iE v.sym then v.sym else pH v.sym
theorem rY{v:dG}(h:cR v=0)(h1:v.kind=1): -2147483647<=v.num∧v.num<=2147483647:=by
 unfold cR at h;rw[am h1]at h;split at h
 .rename_i b;exact b.2
 .cases h
theorem rX{v:dG}(h:cR v=0)(h1: ¬v.kind=1):v.sym.size<=64:=by
 unfold cR at h;rw[be h1]at h;split at h
 .split at h
  .rename_i b;exact b.2
  .cases h
 .cases h
theorem OW(v:dG)(j:cR v=0):Pure prog 214 [ag v.c] (pS (uv v)):=by
 refine ai ab func214 Z (by decide) ntmps214 Z (by simp) Z ?_;refine zJ Z Z (fun h1=>?_) fun h1=>?_
 .have h1:v.kind=1:=by simpa using h1
  have:=rY j h1;refine gA Z (zp (OV v.num (by omega) (by omega)) ?_);refine gA Z (zL (.of_eq ?_));rw[uv,am h1];rfl
 have h1: ¬v.kind=1:=by simpa using h1
 have hs:=rX j h1;refine gA Z (zp (Oi v.sym) ?_);refine zJ Z Z (fun b=>?_) fun b=>?_
 .have b:iE v.sym=jp:=b;refine gA Z (zL (.of_eq ?_));rw[uv,be h1,am b];rfl
 .have b:iE v.sym=kw:=b;refine gA Z (zp (OU v.sym (by omega)) ?_);refine gA Z (zL (.of_eq ?_));rw[uv,be h1,be (by rw[b];simp)];rfl
def qn(v:dG):an:=if cR v=0 then uv v else⟨#[]⟩
theorem OZ(v:dG):Pure prog 206 [ag v.c] (.bq [pS (qn v),pI (cR v)]):=by
 refine ai ab func206 Z (by decide) ntmps206 Z (by simp) Z ?_;refine gA Z (zp (NZ v) ?_);refine zJ Z Z (fun h1=>?_) fun h1=>?_
 .have h1: ¬cR v=0:=by simpa using h1
  refine gA Z (zL (.of_eq ?_));rw[qn,be h1];rfl
 .have h1:cR v=0:=by simpa using h1
  refine gA Z (zp (OW v h1) ?_);refine gA Z (zL (.of_eq ?_));rw[qn,am h1,h1];rfl
def lN(w:WS)(v:dG):WS:=aT (aP w (lc (cR v=0))) [qn v]
theorem d149(w:WS)(v:dG)(hb:w.l.length<=1000000000000)(b:(qn v).size<=1000):bD prog 188 [.ptr 0 0,ag v.c] w.O (.bq []) (lN w v).H 3:=by
 refine au ab func188 Z (by decide) ntmps188 Z (by simp) ?_;refine gA Z (zp (OZ v) ?_);refine gA Z (NJ (d146 ⟨_,_,_,_⟩ (lc (cR v=0))) Z Z Z Z Z Z Z Z Z Z Z Z ?_);refine gA Z (go_wp (d147 ⟨_,_,_,_⟩ [qn v] (by simp) (by simp[eJ,aP];omega)) Z Z Z Z Z Z Z Z Z Z Z Z ?_);refine gA Z gP
def cq(op:Int):Int:=if op=1∨op=2 then 1 else if op=3∨op=4∨op=5 then 2 else if op=6 then 3 else 0
theorem IA(op:Int):Pure prog 208 [pI op] (pI (cq op)):=by
 refine ai ab func208 Z (by decide) ntmps208 Z (by simp) Z ?_
 repeat' (first|(refine gA Z (zI (fun _=>?_) (fun _=>?_)))|(refine gA Z (zL (.of_eq ?_))))
 all_goals(refine(CW ?_:pI _=pI _);simp only[RO,Sh,decide_eq_true_eq,decide_eq_false_iff_not] at*;simp_all [cq])
def dC(e:Expr):Int:=if e.kind=4 then cq e.op else 4
theorem CN(e:Expr):Pure prog 216 [ag e.c] (pI (dC e)):=by
 refine ai ab func216 Z (by decide) ntmps216 Z (by simp) Z ?_
 repeat' (first|(refine gA Z (zI (fun _=>?_) (fun _=>?_)))|(refine gA Z (zp (IA e.op) ?_))|(refine gA Z (zL (.of_eq ?_))))
 all_goals(refine(CW ?_:pI _=pI _);simp_all [dC])
def dE(v:dG):Bool:=lc (v.kind=0)&&(lc (v.num=0)&&(lc (v.sym=Pq)&&jp))
def iL(e:Expr):Bool:=lc (e.kind=0)&&(lc (e.var=⟨#[]⟩)&&(dE e.val&&(lc (e.op=0)&&lc ((e.args.length:Int)=0))))
theorem IB(e:Expr):Pure prog 207 [ag e.c] (pB (iL e)):=by
 refine ai ab func207 Z (by decide) ntmps207 Z (by simp) Z ?_
 repeat' (first|(refine gA Z (zI (fun _=>?_) (fun _=>?_)))|(refine gA Z (zL (.of_eq ?_))))
 all_goals(refine(lW ?_:pB _=pB _))
 all_goals(simp only[iL,dE, *];rfl)
def jU(l:Lit):Bool:=
 (lc (l.kind=1)||decide (l.kind=2)||!(!lc (l.atom.rel=⟨#[]⟩)||decide ((l.atom.ak.length:Int)>0)))&&
 ((!(!lc (l.kind=3))||!(!lc (l.op=0)||(!iL l.left||!iL l.right)))&&
 (lc (l.kind=4)||(lc (l.dS=0)&&(lc (l.bB=⟨#[]⟩)&&(iL l.jx&&lc ((l.ar.length:Int)=0))))))
set_option maxHeartbeats 4000000 in
theorem OY(l:Lit):Pure prog 190 [ag l.c] (pB (jU l)):=by
 refine ai ab func190 Z (by decide) ntmps190 Z (by simp) Z ?_
 repeat' (first|(refine gA Z (zI (fun _=>?_) (fun _=>?_)))|(refine gA Z (zp (IB l.left) ?_))|(refine gA Z (zp (IB l.right) ?_))|(refine gA Z (zp (IB l.jx) ?_))|(refine gA Z (zL (.of_eq ?_))))
 all_goals(refine(lW ?_:pB _=pB _))
 all_goals(try simp only[RO,Sh] at*)
 all_goals(simp_all [jU])
def lE(op:Int):an:=if op=1 then⟨#[43]⟩ else if op=2 then⟨#[45]⟩ else if op=3 then⟨#[42]⟩ else if op=4 then⟨#[47]⟩ else⟨#[109,111,100]⟩
def sgL:an:=⟨#[43,45,42,47]⟩
theorem OS(op:Int):Pure prog 217 [pI op] (pS (lE op)):=by
 refine ai ab func217 Z (by decide) ntmps217 Z (by simp) Z ?_;refine gA Z ?_;refine vc ab Z Z Z Z Z Z Z ?_;refine gA Z ?_;refine aJ 0 4 (by decide) (fun i=>⟨[(0,pI op),(5,.ptr 0 0)],[(0,io (.dJ sgL i))],1⟩) (fun i=> ∀k:Nat,k<i-> ¬(k:Int)+1=op) [] (by simp)
  (zW ⟨⟨_,rfl,.of_eq Z⟩,Pf Z,ac,ac⟩) fun i B b=>?_
 have u:i=0∨i=1∨i=2∨i=3∨i=4:=by omega
 rcases u with rfl|rfl|rfl|rfl|rfl
 .refine gA Z ?_;refine kz Z Z Z Z Z Z (fun h=>absurd h (by decide)) (fun _=>?_);refine zJ Z Z (fun h=>?_) fun h=>?_
  .have h:op=1:=by have:=zT h;omega
   refine gA Z ?_;refine rC ab Z Z Z Z Z Z Z Z Z ?_;refine gA Z (zL (.of_eq ?_));refine(congrArg pS ?_:pS _=pS _);subst h;decide
  .have h: ¬op=1:=by have:=zF h;omega
   refine gA Z ⟨by decide,fun k hk=>(by rcases(by omega:k<0∨k=0) with j|rfl;exact b k j;omega),[],zW ⟨⟨_,rfl,.of_eq Z⟩,Pf Z,ac,ac⟩⟩
 .refine gA Z ?_;refine kz Z Z Z Z Z Z (fun h=>absurd h (by decide)) (fun _=>?_);refine zJ Z Z (fun h=>?_) fun h=>?_
  .have h:op=2:=by have:=zT h;omega
   refine gA Z ?_;refine rC ab Z Z Z Z Z Z Z Z Z ?_;refine gA Z (zL (.of_eq ?_));refine(congrArg pS ?_:pS _=pS _);subst h;decide
  .have h: ¬op=2:=by have:=zF h;omega
   refine gA Z ⟨by decide,fun k hk=>(by rcases(by omega:k<1∨k=1) with j|rfl;exact b k j;omega),[],zW ⟨⟨_,rfl,.of_eq Z⟩,Pf Z,ac,ac⟩⟩
 .refine gA Z ?_;refine kz Z Z Z Z Z Z (fun h=>absurd h (by decide)) (fun _=>?_);refine zJ Z Z (fun h=>?_) fun h=>?_
  .have h:op=3:=by have:=zT h;omega
   refine gA Z ?_;refine rC ab Z Z Z Z Z Z Z Z Z ?_;refine gA Z (zL (.of_eq ?_));refine(congrArg pS ?_:pS _=pS _);subst h;decide
  .have h: ¬op=3:=by have:=zF h;omega
   refine gA Z ⟨by decide,fun k hk=>(by rcases(by omega:k<2∨k=2) with j|rfl;exact b k j;omega),[],zW ⟨⟨_,rfl,.of_eq Z⟩,Pf Z,ac,ac⟩⟩
 .refine gA Z ?_;refine kz Z Z Z Z Z Z (fun h=>absurd h (by decide)) (fun _=>?_);refine zJ Z Z (fun h=>?_) fun h=>?_
  .have h:op=4:=by have:=zT h;omega
   refine gA Z ?_;refine rC ab Z Z Z Z Z Z Z Z Z ?_;refine gA Z (zL (.of_eq ?_));refine(congrArg pS ?_:pS _=pS _);subst h;decide
  .have h: ¬op=4:=by have:=zF h;omega
   refine gA Z ⟨by decide,fun k hk=>(by rcases(by omega:k<3∨k=3) with j|rfl;exact b k j;omega),[],zW ⟨⟨_,rfl,.of_eq Z⟩,Pf Z,ac,ac⟩⟩
 .refine gA Z ?_;refine kz Z Z Z Z Z Z (fun _=>?_) (fun h=>absurd h (by decide));refine gA Z (zL (.of_eq ?_));have h1:=b 0 (by decide);have x:=b 1 (by decide);have y:=b 2 (by decide);have A:=b 3 (by decide);rw[lE,be (by omega),be (by omega),be (by omega),be (by omega)];rfl
theorem y7(s:an):(pH s).size<=2+4*s.size:=by
 have h:=sy s s.data.toList.length;simp only[pL,Rk,PX]at h;have e:(pH s).size=(34::s.data.toList.flatMap qB++ [34]).length:=by simp[pH,SF]
 have:s.data.toList.length=s.size:=by simp
 rw[e,Pn,PX,Qn];omega
theorem pq(v:dG):(qn v).size<=300:=by
 unfold qn;split
 .rename_i b;unfold uv;split
  .rename_i h1;have:=rY b h1;have j:=Lib.itoa_length_le v.num (by omega) (by omega);have e:(⟨(Lib.itoa v.num).toArray⟩:ByteArray).size=(Lib.itoa v.num).length:=by simp[SF]
   omega
  .rename_i h1;have j:=rX b h1;split
   .omega
   .have:=y7 v.sym;omega
 .decide
mutual
def Expr.ts:Expr->Nat
 | .mk _ v _ _ args=>v.size+400+Expr.lD args
def Expr.lD:List Expr->Nat
 | []=>0
 |e::r=>e.ts+Expr.lD r
end
theorem Expr.qm(e:Expr):e.ts=e.var.size+400+Expr.lD e.args:=by cases e;rfl
theorem Expr.vJ: ∀(l:List Expr) (k:Nat),k<l.length->(l.getD k co).ts<=Expr.lD l
 |e::r,0,_=>by simp[Expr.lD]
 |e::r,k+1,h=>by
  have:=Expr.vJ r k (by simpa using h);simp only[QI,Expr.lD];omega
 | [],k,h=>by simp at h
theorem Expr.Ak: ∀(l:List Expr),l.length=2->(l.getD 0 co).ts+(l.getD 1 co).ts<=Expr.lD l
 | [a,b],_=>by simp[Expr.lD]
 | [],h=>by simp at h
 | [a],h=>by simp at h
 |a::b::c::r,h=>by simp at h
def sM:an:=⟨#[45]⟩
def sO:an:=⟨#[40]⟩
def sC:an:=⟨#[41]⟩
def Au:an:=⟨#[32]⟩
def mA(w:WS):WS:=⟨w.fr,w.l,jp,w.br⟩
def nh(e:Expr):Bool:=eZ e.var&&(dE e.val&&(lc (e.op=0)&&lc ((e.args.length:Int)=0)))
def oM(e:Expr):Bool:=lc (e.var=⟨#[]⟩)&&(lc (e.op=0)&&lc ((e.args.length:Int)=0))
def qY(e:Expr):Bool:=lc (e.var=⟨#[]⟩)&&(dE e.val&&lc (cq e.op>0))
def bY(e:Expr):Expr:=e.args.getD 0 co
def wR(e:Expr):Expr:=e.args.getD 1 co
def wg(e:Expr):Bool:=lc (e.kind=2)&&lc (e.val.kind=1)
def lF(a:Expr):Bool:=lc (dC a<3)||(wg a&&lc (a.val.num>0))
def iX(w:WS)(e:Expr)(k:WS):WS:=
 if w.bad=jp then mA w else if e.kind=1 then aT (aP w (nh e)) [e.var] else if e.kind=2 then lN (aP w (oM e)) e.val else if e.kind=4 then k else mA w
def kh(a0:Bool->WS->Expr->WS)(w:WS)(e:Expr):WS:=
 if w.bad=jp then mA w else if e.op=6 then
  (if e.args.length=1 then a0 (lF (bY e)) (if(wg (bY e)&&lc ((bY e).val.num=0))=jp then aT (aT w [sM]) [sM] else aT w [sM]) (bY e) else mA w)
 else if e.args.length=2 then a0 (lc (dC (wR e)<=cq e.op)) (aT (a0 (lc (dC (bY e)<cq e.op)) w (bY e)) [Au,lE e.op,Au]) (wR e) else mA w
def cJ:Nat->WS->Expr->WS
 |0,w,_=>mA w
 |1,w,e=>iX w e (mA (aP w (qY e)))
 |m+2,w,e=>iX w e (kh (fun b w a=>if b=jp then aT (cJ m (aT w [sO]) a) [sC] else cJ (m+1) w a) (aP w (qY e)) e)
def ui(m:Nat)(b:Bool)(w:WS)(a:Expr):WS:=if b=jp then aT (cJ m (aT w [sO]) a) [sC] else cJ (m+1) w a
theorem aN(w:WS)(b:Bool):(aP w b).l=w.l:=rfl
theorem eY(w:WS):(mA w).l=w.l:=rfl
theorem bF(s:an):eJ [s]=s.size:=by simp[eJ]
theorem xn(op:Int):(lE op).size<=3:=by
 unfold lE
 repeat' split
 all_goals decide
theorem aI(w:WS)(s:an):(aT w [s]).l.length=w.l.length+s.size:=by rw[gY,bF]
theorem rW(w:WS)(v:dG):(lN w v).l.length<=w.l.length+300:=by
 have:=pq v;rw[lN,aI,aN];omega
theorem u1(w k:WS)(e:Expr)(h:k.l.length<=w.l.length+e.ts):(iX w e k).l.length<=w.l.length+e.ts:=by
 have:=e.qm;unfold iX
 repeat' split
 .rw[eY];omega
 .rw[aI,aN];omega
 .have:=rW (aP w (oM e)) e.val;rw[aN]at this;omega
 .exact h
 .rw[eY];omega
theorem Cf(a0:Bool->WS->Expr->WS)(j: ∀b w a,(a0 b w a).l.length<=w.l.length+(2+a.ts))(w:WS)(e:Expr):(kh a0 w e).l.length<=w.l.length+e.ts:=by
 have B:=e.qm;unfold kh;split
 .rw[eY];omega
 split
 .split
  .rename_i h1;have y:=Expr.vJ e.args 0 (by omega);have u:sM.size=1:=rfl;split
   .have:=j (lF (bY e)) (aT (aT w [sM]) [sM]) (bY e);rw[aI,aI]at this;simp only[bY]at this ⊢;omega
   .have:=j (lF (bY e)) (aT w [sM]) (bY e);rw[aI]at this;simp only[bY]at this ⊢;omega
  .rw[eY];omega
 .split
  .rename_i h1;have y:=Expr.Ak e.args h1;have x:=j (lc (dC (wR e)<=cq e.op)) (aT (a0 (lc (dC (bY e)<cq e.op)) w (bY e)) [Au,lE e.op,Au]) (wR e);have C:=j (lc (dC (bY e)<cq e.op)) w (bY e);have D:=xn e.op;have u:Au.size=1:=rfl;rw[gY]at x;have A:eJ [Au,lE e.op,Au]=1+((lE e.op).size+1):=by simp[eJ,u]
   simp only[bY,wR] at*;omega
  .rw[eY];omega
theorem cZ: ∀(n:Nat) (w:WS) (e:Expr),(cJ n w e).l.length<=w.l.length+e.ts
 |0,w,e=>by rw[cJ,eY];omega
 |1,w,e=>by rw[cJ];exact u1 _ _ _ (by rw[eY,aN];omega)
 |m+2,w,e=>by
  rw[cJ];refine u1 _ _ _ ?_
  have:=Cf (fun j w a=>if j=jp then aT (cJ m (aT w [sO]) a) [sC] else cJ (m+1) w a) (fun b w a=>by
   split
   .have h1:=cZ m (aT w [sO]) a;have u:sO.size=1:=rfl;have x:sC.size=1:=rfl;rw[aI]at h1 ⊢;omega
   .have:=cZ (m+1) w a
    omega) (aP w (qY e)) e
  rwa[aN]at this
theorem FB(m:Nat)(b:Bool)(w:WS)(a:Expr):(ui m b w a).l.length<=w.l.length+(2+a.ts):=by
 unfold ui;split
 .have h1:=cZ m (aT w [sO]) a;have j:sO.size=1:=rfl;have u:sC.size=1:=rfl;rw[aI]at h1 ⊢;omega
 .have:=cZ (m+1) w a;omega
def PE(n:Nat):Prop:= ∀(d:Int) (w:WS) (e:Expr),d+1=n->w.l.length+e.ts<=1000000000->bD prog 191 [.ptr 0 0,ag e.c,pI d] w.O (.bq []) (cJ n w e).H 3
theorem d225(n:Nat)(hn:n<=1000)(x:PE (n+1))(y:PE n)(b:Bool)(d:Int)(hd:d=n)(w:WS)(e:Expr)(hb:w.l.length+e.ts+2<=1000000000):bD prog 215 [.ptr 0 0,ag e.c,pB b,pI d] w.O (.bq []) (ui n b w e).H 3:=by
 refine au ab func215 Z (by decide) ntmps215 Z (by simp) ?_;refine zJ Z Z (fun h=>?_) fun h=>?_
 .have h:b=kw:=by simpa using h
  rw[ui,be (by rw[h];simp)];refine gA Z (gm (x d w e (by omega) (by omega)) ?_);refine gA Z gP
 .have h:b=jp:=by simpa using h
  rw[ui,am h];have j:sO.size=1:=rfl;have u:sC.size=1:=rfl;have hl:=cZ n (aT w [sO]) e;have A:=aI w sO;refine gA Z (ic (d147 w [sO] (by simp) (by rw[bF,j];omega)) ?_);refine gA Z (gm (y (d-1) (aT w [sO]) e (by omega) (by omega)) ?_);refine gA Z (ic (d147 (cJ n (aT w [sO]) e) [sC] (by simp) (by rw[bF,u];omega)) ?_);refine gA Z gP
theorem NT(d:Int)(hd:d<0)(w:WS)(e:Expr):bD prog 209 [.ptr 0 0,ag e.c,pI d] w.O (.bq []) (mA w).H 3:=by
 refine au ab func209 Z (by decide) ntmps209 Z (by simp) ?_
 repeat' (first
  |((rename_i h;exact absurd hd (zF h)))
  |(refine gA Z (zI (fun _=>?_) (fun _=>?_)))
  |(refine gA Z (E4 (by first|exact .inr Z|exact .inl Z) Z Z Z Z Z (by first|exact .refl _|exact .kb _) (by first|exact .refl _|exact .kb _) Z Z Z Z (.refl _) Z Z)))
set_option maxHeartbeats 2000000 in
theorem d213(m:Nat)(hm:m<=900)(G:PE (m+1))(I:PE m)(d:Int)(hd:d=m)(w:WS)(e:Expr)(hb:w.l.length+e.ts<=1000000000):bD prog 209 [.ptr 0 0,ag e.c,pI d] w.O (.bq []) (kh (ui m) w e).H 3:=by
 refine bD.le (aa:=[.ptr 0 0,ag e.c,pI d]) (args:=[.ptr 0 0,ag e.c1,pI d]) ?_ ⟨.refl _,e.AZ,.refl _,ac⟩;have e0:=e.qm;have D:sM.size=1:=rfl;have x:m<=1000:=by omega
 refine au ab func209 Z (by decide) ntmps209 Z (by simp) ?_;refine zJ Z Z (fun J=>?_) fun J=>?_
 .have J:e.op=6:=zT J;refine zE Z Z (fun h1=>?_) fun h1=>?_
  .have h1:w.bad=jp:=h1;rw[kh,am h1];refine gA Z gP
  have h1: ¬w.bad=jp:=by rw[show w.bad=kw from h1];simp
  refine zE Z Z (fun B=>?_) fun B=>?_
  .have B: ¬e.args.length=1:=by simp at B;omega
   rw[kh,be h1,am J,be B];refine gA Z gP
  have B:e.args.length=1:=by simp at B;omega
  have hg:(bY e).ts<=_:=Expr.vJ e.args 0 (by omega);have j:kh (ui m) w e=ui m (lF (bY e)) (if(wg (bY e)&&lc ((bY e).val.num=0))=jp then aT (aT w [sM]) [sM] else aT w [sM]) (bY e):=by rw[kh,be h1,am J,am B]
  have b0:e.args.getD 0 co=bY e:=rfl;refine zJ Z Z (fun h3=>?_) fun h3=>?_
  .exact absurd (zT h3) (by omega)
  refine zE Z Z (fun h7=>?_) fun h7=>?_
  .exact absurd (zF h7) (by simp)
  have y:=aI w sM;refine zJ Z Z (fun hk=>?_) fun hk=>?_
  .have a0:(bY e).kind=2:=zT hk;refine gA Z (ic (d147 w [sM] (by simp) (by rw[bF,D];omega)) ?_);refine zE Z Z (fun hv=>?_) fun hv=>?_
   .have C: ¬(bY e).val.kind=1:=zF hv;have A:wg (bY e)=kw:=by rw[wg,decide_eq_false C,RV]
    rw[A,Q5,be (by simp)]at j;refine gA Z (Ad (CN (bY e)) ?_);refine zJ Z Z (fun u=>?_) fun u=>?_
    .have b:dC (bY e)<3:=zT u;rw[lF,decide_eq_true b,Sg]at j;rw[j];refine gA Z (uc (d225 m x G I jp d hd (aT w [sM]) (bY e) (by rw[y,D];omega)) ?_);refine gA Z gP
    .have b: ¬dC (bY e)<3:=zF u;refine zJ Z Z (fun R=>?_) fun R=>?_
     .exact absurd (zT R) C
     rw[lF,decide_eq_false b,Rm,A,Q5]at j;rw[j];refine gA Z (uc (d225 m x G I kw d hd (aT w [sM]) (bY e) (by rw[y,D];omega)) ?_);refine gA Z gP
   .have C:(bY e).val.kind=1:=zT hv;have A:wg (bY e)=jp:=by rw[wg,decide_eq_true C,decide_eq_true a0];rfl
    rw[A,RP]at j;refine zJ Z Z (fun h0=>?_) fun h0=>?_
    .have Y:(bY e).val.num=0:=zT h0;rw[am (decide_eq_true Y)]at j;refine gA Z (ic (d147 (aT w [sM]) [sM] (by simp) (by rw[bF,y,D];omega)) ?_);refine gA Z (Ad (CN (bY e)) ?_);refine zJ Z Z (fun u=>?_) fun u=>?_
     .have b:dC (bY e)<3:=zT u;rw[lF,decide_eq_true b,Sg]at j;rw[j];refine gA Z (uc (d225 m x G I jp d hd (aT (aT w [sM]) [sM]) (bY e) (by rw[aI,y,D];omega)) ?_);refine gA Z gP
     .have b: ¬dC (bY e)<3:=zF u;refine zE Z Z (fun R=>?_) fun R=>?_
      .exact absurd C (zF R)
      rw[lF,decide_eq_false b,Rm,A,RP]at j;rw[j];refine gA Z (uc (d225 m x G I (lc ((bY e).val.num>0)) d hd (aT (aT w [sM]) [sM]) (bY e) (by rw[aI,y,D];omega)) ?_);refine gA Z gP
    .have Y: ¬(bY e).val.num=0:=zF h0;rw[be (by simpa using Y)]at j;refine gA Z (Ad (CN (bY e)) ?_);refine zJ Z Z (fun u=>?_) fun u=>?_
     .have b:dC (bY e)<3:=zT u;rw[lF,decide_eq_true b,Sg]at j;rw[j];refine gA Z (uc (d225 m x G I jp d hd (aT w [sM]) (bY e) (by rw[y,D];omega)) ?_);refine gA Z gP
     .have b: ¬dC (bY e)<3:=zF u;refine zE Z Z (fun R=>?_) fun R=>?_
      .exact absurd C (zF R)
      rw[lF,decide_eq_false b,Rm,A,RP]at j;rw[j];refine gA Z (uc (d225 m x G I (lc ((bY e).val.num>0)) d hd (aT w [sM]) (bY e) (by rw[y,D];omega)) ?_);refine gA Z gP
  .have a0: ¬(bY e).kind=2:=zF hk;have A:wg (bY e)=kw:=by rw[wg,decide_eq_false a0];rfl
   rw[A,Q5,be (by simp)]at j;refine gA Z (ic (d147 w [sM] (by simp) (by rw[bF,D];omega)) ?_);refine gA Z (Ad (CN (bY e)) ?_);refine zJ Z Z (fun u=>?_) fun u=>?_
   .have b:dC (bY e)<3:=zT u;rw[lF,decide_eq_true b,Sg]at j;rw[j];refine gA Z (uc (d225 m x G I jp d hd (aT w [sM]) (bY e) (by rw[y,D];omega)) ?_);refine gA Z gP
   .have b: ¬dC (bY e)<3:=zF u;rw[lF,decide_eq_false b,Rm,A,Q5]at j;rw[j];refine gA Z (uc (d225 m x G I kw d hd (aT w [sM]) (bY e) (by rw[y,D];omega)) ?_);refine gA Z gP
 .have J: ¬e.op=6:=zF J;refine zE Z Z (fun h1=>?_) fun h1=>?_
  .have h1:w.bad=jp:=h1;rw[kh,am h1];refine gA Z gP
  have h1: ¬w.bad=jp:=by rw[show w.bad=kw from h1];simp
  refine zE Z Z (fun B=>?_) fun B=>?_
  .have B: ¬e.args.length=2:=by simp at B;omega
   rw[kh,be h1,be J,be B];refine gA Z gP
  have B:e.args.length=2:=by simp at B;omega
  have hg:(bY e).ts+(wR e).ts<=_:=Expr.Ak e.args B;rw[kh,be h1,be J,am B];refine zJ Z Z (fun h3=>?_) fun h3=>?_
  .exact absurd (zT h3) (by omega)
  refine zJ Z Z (fun h7=>?_) fun h7=>?_
  .exact absurd (zT h7) (by simp)
  refine gA Z (Ad (CN (bY e)) ?_);refine gA Z (Ad (IA e.op) ?_);refine gA Z (uc (d225 m x G I (lc (dC (bY e)<cq e.op)) d hd w (bY e) (by omega)) ?_);refine gA Z (zp (OS e.op) ?_);have c0:=FB m (lc (dC (bY e)<cq e.op)) w (bY e);have d0:=xn e.op;have e2:Au.size=1:=rfl;have e3:eJ [Au,lE e.op,Au]=1+((lE e.op).size+1):=by simp[eJ,e2]
  refine gA Z (ic (d147 (ui m (lc (dC (bY e)<cq e.op)) w (bY e)) [Au,lE e.op,Au] (by simp) (by rw[e3];omega)) ?_);refine gA Z (Ad (CN (wR e)) ?_);refine gA Z (Ad (IA e.op) ?_);refine gA Z (uc (d225 m x G I (lc (dC (wR e)<=cq e.op)) d hd (aT (ui m (lc (dC (bY e)<cq e.op)) w (bY e)) [Au,lE e.op,Au]) (wR e) (by rw[gY,e3];omega)) ?_);refine gA Z gP
theorem d189(d:Int)(I:0<=d)(J:d<=1000)(w:WS)(e:Expr)(hb:w.l.length+e.ts<=1000000000)(k:WS)(hk:bD prog 209 [.ptr 0 0,ag e.c,pI (d-1)] (aP w (qY e)).O (.bq []) k.H 3):bD prog 191 [.ptr 0 0,ag e.c,pI d] w.O (.bq []) (iX w e k).H 3:=by
 have R:=e.qm;refine au ab func191 Z (by decide) ntmps191 Z (by simp) ?_;refine zE Z Z (fun h1=>?_) fun h1=>?_
 .have h1:w.bad=jp:=h1;rw[iX,am h1];refine gA Z gP
 have A: ¬w.bad=jp:=by rw[show w.bad=kw from h1];simp
 refine zJ Z Z (fun G=>?_) fun G=>?_
 .exact absurd (zT G) (by omega)
 refine zJ Z Z (fun B=>?_) fun B=>?_
 .have j:e.kind=1:=zT B;have y:iX w e k=aT (aP w (nh e)) [e.var]:=by rw[iX,be A,am j]
  rw[y];refine gA Z (zp (z8 e.var) ?_);refine zE Z Z (fun g0=>?_) fun g0=>?_
  .have b:nh e=kw:=by simp only[nh,dE, *];rfl
   rw[b];refine gA Z (gm (d146 w kw) ?_);refine gA Z (ic (d147 (aP w kw) [e.var] (by simp) (by rw[bF,aN];omega)) ?_);refine gA Z gP
  refine zE Z Z (fun g1=>?_) fun g1=>?_
  .have b:nh e=kw:=by simp only[nh,dE, *];rfl
   rw[b];refine gA Z (gm (d146 w kw) ?_);refine gA Z (ic (d147 (aP w kw) [e.var] (by simp) (by rw[bF,aN];omega)) ?_);refine gA Z gP
  refine zE Z Z (fun g2=>?_) fun g2=>?_
  .have b:nh e=kw:=by simp only[nh,dE, *];rfl
   rw[b];refine gA Z (gm (d146 w kw) ?_);refine gA Z (ic (d147 (aP w kw) [e.var] (by simp) (by rw[bF,aN];omega)) ?_);refine gA Z gP
  have b:nh e=lc ((e.args.length:Int)=0):=by simp only[nh,dE, *];rfl
  rw[b];refine gA Z (gm (d146 w (lc ((e.args.length:Int)=0))) ?_);refine gA Z (ic (d147 (aP w (lc ((e.args.length:Int)=0))) [e.var] (by simp) (by rw[bF,aN];omega)) ?_);refine gA Z gP
 have j: ¬e.kind=1:=zF B;refine zJ Z Z (fun C=>?_) fun C=>?_
 .have u:e.kind=2:=zT C;have y:iX w e k=lN (aP w (oM e)) e.val:=by rw[iX,be A,be j,am u]
  rw[y];have Y:=pq e.val;refine zE Z Z (fun g0=>?_) fun g0=>?_
  .have b:oM e=kw:=by simp only[oM,dE, *];rfl
   rw[b];refine gA Z (gm (d146 w kw) ?_);refine gA Z (gm (d149 (aP w kw) e.val (by rw[aN];omega) (by omega)) ?_);refine gA Z gP
  refine zE Z Z (fun g1=>?_) fun g1=>?_
  .have b:oM e=kw:=by simp only[oM,dE, *];rfl
   rw[b];refine gA Z (gm (d146 w kw) ?_);refine gA Z (gm (d149 (aP w kw) e.val (by rw[aN];omega) (by omega)) ?_);refine gA Z gP
  have b:oM e=lc ((e.args.length:Int)=0):=by simp only[oM,dE, *];rfl
  rw[b];refine gA Z (gm (d146 w (lc ((e.args.length:Int)=0))) ?_);refine gA Z (gm (d149 (aP w (lc ((e.args.length:Int)=0))) e.val (by rw[aN];omega) (by omega)) ?_);refine gA Z gP
 have u: ¬e.kind=2:=zF C;refine zJ Z Z (fun D=>?_) fun D=>?_
 .have x:e.kind=4:=zT D;have y:iX w e k=k:=by rw[iX,be A,be j,be u,am x]
  rw[y];refine zE Z Z (fun g0=>?_) fun g0=>?_
  .have b:qY e=kw:=by simp only[qY,dE, *];rfl
   rw[b]at hk;refine gA Z (gm (d146 w kw) ?_);refine gA Z (gm (hk) ?_);refine gA Z gP
  refine zE Z Z (fun g1=>?_) fun g1=>?_
  .have b:qY e=kw:=by simp only[qY,dE, *];rfl
   rw[b]at hk;refine gA Z (gm (d146 w kw) ?_);refine gA Z (gm (hk) ?_);refine gA Z gP
  refine gA Z (zp (IA e.op) ?_);have b:qY e=lc (cq e.op>0):=by simp only[qY,dE, *];rfl
  rw[b]at hk;refine gA Z (gm (d146 w (lc (cq e.op>0))) ?_);refine gA Z (gm (hk) ?_);refine gA Z gP
 have x: ¬e.kind=4:=zF D;rw[iX,be A,be j,be u,be x];refine gA Z gP
theorem pe0:PE 0:=fun d w e hd hb=>by
 refine au ab func191 Z (by decide) ntmps191 Z (by simp) ?_;rw[cJ]
 repeat' (first
  |((rename_i h;exact absurd (by omega:d<0) (zF h)))
  |(refine gA Z (zI (fun _=>?_) (fun _=>?_)))
  |(refine gA Z (E4 (by first|exact .inr Z|exact .inl Z) Z Z Z Z Z (by first|exact .refl _|exact .kb _) (by first|exact .refl _|exact .kb _) Z Z Z Z (.refl _) Z Z)))
theorem y8: ∀n,n<=900->PE n
 |0,_=>pe0
 |1,_=>fun d w e hd hb=>d189 d (by omega) (by omega) w e hb _ (NT (d-1) (by omega) (aP w (qY e)) e)
 |m+2,h=>fun d w e hd hb=>d189 d (by omega) (by omega) w e (by omega) _ (d213 m (by omega) (y8 (m+1) (by omega)) (y8 m (by omega)) (d-1) (by omega) (aP w (qY e)) e (by rw[aN];omega))
theorem nu(w:WS)(e:Expr)(hb:w.l.length+e.ts<=900000000):bD prog 191 [.ptr 0 0,ag e.c,pI 16] w.O (.bq []) (cJ 17 w e).H 3:=y8 17 (by omega) 16 w e (by omega) (by omega)
def xt:an:=⟨#[44,32]⟩
def K9:an:=⟨#[95]⟩
def gu(i:Nat)(w:WS):WS:=if i=0 then w else aT w [xt]
def wc(t:Term):Bool:=eZ t.var&&dE t.val
def we(t:Term):Bool:=lc (t.var=⟨#[]⟩)&&dE t.val
def jA(w:WS)(t:Term):WS:=
 if t.kind=1 then aT (aP w (wc t)) [t.var] else if t.kind=2 then lN (aP w (lc (t.var=⟨#[]⟩))) t.val else if t.kind=3 then aT (aP w (we t)) [K9] else mA w
def fk(l:List Term)(w:WS):Nat->WS
 |0=>w
 |i+1=>jA (gu i (fk l w i)) (l.getD i co)
def jm(w:WS)(a:Atom):WS:=aT (fk a.ak (aT (aP w (iE a.rel)) [a.rel,sO]) a.ak.length) [sC]
def Term.ts(t:Term):Nat:=t.var.size+310
def Atom.ts(a:Atom):Nat:=a.rel.size+10+(a.ak.map Term.ts).sum
theorem lq(i:Nat)(w:WS):(gu i w).l.length<=w.l.length+2:=by
 have e:xt.size=2:=rfl;unfold gu;split
 .omega
 .rw[aI,e];omega
theorem BL(w:WS)(t:Term):(jA w t).l.length<=w.l.length+300+t.var.size:=by
 have e:K9.size=1:=rfl;unfold jA
 repeat' split
 .rw[aI,aN];omega
 .have:=rW (aP w (lc (t.var=⟨#[]⟩))) t.val;rw[aN]at this;omega
 .rw[aI,aN,e];omega
 .rw[eY];omega
theorem ux: ∀(l:List Term) (i:Nat),i<l.length->((l.take i).map Term.ts).sum+(l.getD i co).ts<=(l.map Term.ts).sum
 | [],i,h=>by simp at h
 |s::r,0,_=>by simp
 |s::r,i+1,h=>by
  have:=ux r i (by simpa using h);simp at this ⊢;omega
theorem Am: ∀(l:List Term) (i:Nat),((l.take i).map Term.ts).sum<=(l.map Term.ts).sum
 | [],i=>by simp
 |s::r,0=>by simp
 |s::r,i+1=>by have:=Am r i;simp at this ⊢;omega
theorem nF(l:List Term)(w:WS): ∀i,i<=l.length->(fk l w i).l.length<=w.l.length+((l.take i).map Term.ts).sum
 |0,_=>by simp[fk]
 |i+1,h=>by
  have h1:=nF l w i (by omega);have b:=lq i (fk l w i);have j:=BL (gu i (fk l w i)) (l.getD i co);have u:(l.getD i co).ts=(l.getD i co).var.size+310:=rfl;have x:((l.take (i+1)).map Term.ts).sum=((l.take i).map Term.ts).sum+(l.getD i co).ts:=by
   rw[cm (by omega),PF,List.sum_append];simp
  rw[fk];omega
theorem vA(w:WS)(a:Atom):(jm w a).l.length<=w.l.length+a.ts:=by
 have b:sO.size=1:=rfl;have j:sC.size=1:=rfl;have u:eJ [a.rel,sO]=a.rel.size+1:=by simp[eJ,b]
 have h1:=nF a.ak (aT (aP w (iE a.rel)) [a.rel,sO]) a.ak.length (Ps _);rw[gY,u,aN,Rk]at h1;rw[jm,aI,j];unfold Atom.ts;omega
theorem u0: ∀l:List Term,l.length<=(l.map Term.ts).sum
 | []=>by simp
 |t::r=>by have:=u0 r;simp[Term.ts]at this ⊢;omega
set_option maxHeartbeats 1000000 in
theorem d104(w:WS)(a:Atom)(hb:w.l.length+a.ts<=900000000):bD prog 153 [.ptr 0 0,ag a.c] w.O (.bq []) (jm w a).H 3:=by
 have J:sO.size=1:=rfl;have R:sC.size=1:=rfl;have y:xt.size=2:=rfl;have e5:K9.size=1:=rfl;have I:eJ [a.rel,sO]=a.rel.size+1:=by simp[eJ,J]
 have i0:a.ts=a.rel.size+10+(a.ak.map Term.ts).sum:=rfl;have d0:=u0 a.ak;have b0:(aT (aP w (iE a.rel)) [a.rel,sO]).l.length=w.l.length+(a.rel.size+1):=by rw[gY,I,aN]
 refine au ab func153 Z (by decide) ntmps153 Z (by simp) ?_;refine gA Z (zp (Oi a.rel) ?_);refine gA Z (gm (d146 w (iE a.rel)) ?_);refine gA Z (ic (d147 (aP w (iE a.rel)) [a.rel,sO] (by simp) (by rw[I,aN];omega)) ?_);generalize Y:aT (aP w (iE a.rel)) [a.rel,sO]=w1 at*
 refine gA Z ?_;refine aJ 0 a.ak.length (PA _) (fun i=>⟨[(0,.ptr 0 0),(17,.iv (bN 5 a.ak Term.c)),(18,pI a.ak.length),(19,pI i)],[(0,io ((fk a.ak w1 i).ph 0 6)),(6,io (.bp (fk a.ak w1 i).l 5))],7⟩) (fun _=>True) _ ac
  (Oo (w:=w1) Z Z Z Z Z (.refl _) (.refl _) Z Z Z Z Z (bi (bi (bi (bi trivial))))) fun i hi _=>?_
 have c0:=nF a.ak w1 i hi;have e0:=Am a.ak i;refine zE Z Z (fun h1=>?_) fun h1=>?_
 .have h1:a.ak.length<=i:=zG h1;have G:i=a.ak.length:=by omega
  subst G;refine gA Z (ic (d147 (fk a.ak w1 a.ak.length) [sC] (by simp) (by rw[bF,R];omega)) ?_);rw[jm,Y];refine gA Z gP
 have h1:i<a.ak.length:=zN h1;have f0:=ux a.ak i h1;have hs:fk a.ak w1 (i+1)=jA (gu i (fk a.ak w1 i)) (a.ak.getD i co):=rfl;have ht:(a.ak.getD i co).ts=(a.ak.getD i co).var.size+310:=rfl;have j0:=pq (a.ak.getD i co).val;have a0:=lq i (fk a.ak w1 i);generalize hT:fk a.ak w1 i=w2 at*
 refine zJ Z Z (fun A=>?_) fun A=>?_
 .have A: ¬i=0:=by have:=zT A;omega
  rw[gu,be A]at hs;refine gA Z (ic (d147 w2 [xt] (by simp) (by rw[bF,y];omega)) ?_);refine zJ Z Z (fun B=>?_) fun B=>?_
  .have b:(a.ak.getD i co).kind=1:=zT B;rw[jA,am b]at hs;refine gA Z (zp (z8 (a.ak.getD i co).var) ?_);refine zE Z Z (fun g0=>?_) fun g0=>?_
   .have u:wc (a.ak.getD i co)=kw:=by have g:eZ (a.ak.getD i co).var=kw:=g0;rw[wc,g];rfl
    rw[u]at hs;refine gA Z (gm (d146 (aT w2 [xt]) kw) ?_);refine gA Z (ic (d147 (aP (aT w2 [xt]) kw) [(a.ak.getD i co).var] (by simp) (by rw[bF,aN];first|omega|(rw[aI,y];omega))) ?_);refine gA Z ⟨h1,ac,_,ox (hs.symm)⟩
   have u:wc (a.ak.getD i co)=dE (a.ak.getD i co).val:=by have g:eZ (a.ak.getD i co).var=jp:=g0;rw[wc,g];rfl
   rw[u]at hs;refine gA Z (gm (d146 (aT w2 [xt]) (dE (a.ak.getD i co).val)) ?_);refine gA Z (ic (d147 (aP (aT w2 [xt]) (dE (a.ak.getD i co).val)) [(a.ak.getD i co).var] (by simp) (by rw[bF,aN];first|omega|(rw[aI,y];omega))) ?_);refine gA Z ⟨h1,ac,_,ox (hs.symm)⟩
  have b: ¬(a.ak.getD i co).kind=1:=zF B;refine zJ Z Z (fun C=>?_) fun C=>?_
  .have j:(a.ak.getD i co).kind=2:=zT C;rw[jA,be b,am j]at hs;refine gA Z (gm (d146 (aT w2 [xt]) (lc ((a.ak.getD i co).var=⟨#[]⟩))) ?_);refine gA Z (gm (d149 (aP (aT w2 [xt]) (lc ((a.ak.getD i co).var=⟨#[]⟩))) (a.ak.getD i co).val (by rw[aN];first|omega|(rw[aI,y];omega)) (by omega)) ?_);refine gA Z ⟨h1,ac,_,ox (hs.symm)⟩
  have j: ¬(a.ak.getD i co).kind=2:=zF C;refine zJ Z Z (fun D=>?_) fun D=>?_
  .have x:(a.ak.getD i co).kind=3:=zT D;rw[jA,be b,be j,am x]at hs;refine zE Z Z (fun g0=>?_) fun g0=>?_
   .have u:we (a.ak.getD i co)=kw:=by have g:lc ((a.ak.getD i co).var=⟨#[]⟩)=kw:=g0;rw[we,g];rfl
    rw[u]at hs;refine gA Z (gm (d146 (aT w2 [xt]) kw) ?_);refine gA Z (ic (d147 (aP (aT w2 [xt]) kw) [K9] (by simp) (by rw[bF,aN];first|omega|(rw[aI,y];omega))) ?_);refine gA Z ⟨h1,ac,_,ox (hs.symm)⟩
   have u:we (a.ak.getD i co)=dE (a.ak.getD i co).val:=by have g:lc ((a.ak.getD i co).var=⟨#[]⟩)=jp:=g0;rw[we,g];rfl
   rw[u]at hs;refine gA Z (gm (d146 (aT w2 [xt]) (dE (a.ak.getD i co).val)) ?_);refine gA Z (ic (d147 (aP (aT w2 [xt]) (dE (a.ak.getD i co).val)) [K9] (by simp) (by rw[bF,aN];first|omega|(rw[aI,y];omega))) ?_);refine gA Z ⟨h1,ac,_,ox (hs.symm)⟩
  have x: ¬(a.ak.getD i co).kind=3:=zF D;rw[jA,be b,be j,be x]at hs;refine gA Z ⟨h1,ac,_,ox (hs.symm)⟩
 .have A:i=0:=by have:=zF A;omega
  rw[gu,am A]at hs;refine zJ Z Z (fun B=>?_) fun B=>?_
  .have b:(a.ak.getD i co).kind=1:=zT B;rw[jA,am b]at hs;refine gA Z (zp (z8 (a.ak.getD i co).var) ?_);refine zE Z Z (fun g0=>?_) fun g0=>?_
   .have u:wc (a.ak.getD i co)=kw:=by have g:eZ (a.ak.getD i co).var=kw:=g0;rw[wc,g];rfl
    rw[u]at hs;refine gA Z (gm (d146 w2 kw) ?_);refine gA Z (ic (d147 (aP w2 kw) [(a.ak.getD i co).var] (by simp) (by rw[bF,aN];first|omega|(rw[aI,y];omega))) ?_);refine gA Z ⟨h1,ac,_,ox (hs.symm)⟩
   have u:wc (a.ak.getD i co)=dE (a.ak.getD i co).val:=by have g:eZ (a.ak.getD i co).var=jp:=g0;rw[wc,g];rfl
   rw[u]at hs;refine gA Z (gm (d146 w2 (dE (a.ak.getD i co).val)) ?_);refine gA Z (ic (d147 (aP w2 (dE (a.ak.getD i co).val)) [(a.ak.getD i co).var] (by simp) (by rw[bF,aN];first|omega|(rw[aI,y];omega))) ?_);refine gA Z ⟨h1,ac,_,ox (hs.symm)⟩
  have b: ¬(a.ak.getD i co).kind=1:=zF B;refine zJ Z Z (fun C=>?_) fun C=>?_
  .have j:(a.ak.getD i co).kind=2:=zT C;rw[jA,be b,am j]at hs;refine gA Z (gm (d146 w2 (lc ((a.ak.getD i co).var=⟨#[]⟩))) ?_);refine gA Z (gm (d149 (aP w2 (lc ((a.ak.getD i co).var=⟨#[]⟩))) (a.ak.getD i co).val (by rw[aN];first|omega|(rw[aI,y];omega)) (by omega)) ?_);refine gA Z ⟨h1,ac,_,ox (hs.symm)⟩
  have j: ¬(a.ak.getD i co).kind=2:=zF C;refine zJ Z Z (fun D=>?_) fun D=>?_
  .have x:(a.ak.getD i co).kind=3:=zT D;rw[jA,be b,be j,am x]at hs;refine zE Z Z (fun g0=>?_) fun g0=>?_
   .have u:we (a.ak.getD i co)=kw:=by have g:lc ((a.ak.getD i co).var=⟨#[]⟩)=kw:=g0;rw[we,g];rfl
    rw[u]at hs;refine gA Z (gm (d146 w2 kw) ?_);refine gA Z (ic (d147 (aP w2 kw) [K9] (by simp) (by rw[bF,aN];first|omega|(rw[aI,y];omega))) ?_);refine gA Z ⟨h1,ac,_,ox (hs.symm)⟩
   have u:we (a.ak.getD i co)=dE (a.ak.getD i co).val:=by have g:lc ((a.ak.getD i co).var=⟨#[]⟩)=jp:=g0;rw[we,g];rfl
   rw[u]at hs;refine gA Z (gm (d146 w2 (dE (a.ak.getD i co).val)) ?_);refine gA Z (ic (d147 (aP w2 (dE (a.ak.getD i co).val)) [K9] (by simp) (by rw[bF,aN];first|omega|(rw[aI,y];omega))) ?_);refine gA Z ⟨h1,ac,_,ox (hs.symm)⟩
  have x: ¬(a.ak.getD i co).kind=3:=zF D;rw[jA,be b,be j,be x]at hs;refine gA Z ⟨h1,ac,_,ox (hs.symm)⟩
end Go.Proofs.YtllkaddcplhklaaGreatDoor
namespace Go.Proofs.YtllkaddcplhklaaGreatDoor
open Go Go.Al
def yV:an:=⟨#[110,111,116,32]⟩
def pz:an:=⟨#[32,61,32]⟩
def pA:an:=⟨#[32,123,32]⟩
def CV:an:=⟨#[32,58,32]⟩
def xr:an:=⟨#[32,125]⟩
def tk(op:Int):an:=if op=1 then⟨#[32,61,32]⟩ else if op=2 then⟨#[32,33,61,32]⟩ else if op=3 then⟨#[32,60,32]⟩ else if op=4 then⟨#[32,60,61,32]⟩ else if op=5 then⟨#[32,62,32]⟩ else⟨#[32,62,61,32]⟩
def iA(f:Int):an:=if f=1 then⟨#[99,111,117,110,116]⟩ else if f=2 then⟨#[115,117,109]⟩ else if f=3 then⟨#[109,105,110]⟩ else⟨#[109,97,120]⟩
def tN(w:WS)(n:Int):WS:=⟨w.fr,w.l,w.bad,w.br+n⟩
def cX(f:Lit->WS->WS)(l:List Lit)(w:WS):Nat->WS
 |0=>w
 |i+1=>if(cX f l w i).bad=jp then cX f l w i else f (l.getD i co) (gu i (cX f l w i))
def nW(w:WS)(a:fw):WS:=if a.func=1 then aP w (iL a.iD) else aT (cJ 17 w a.iD) [CV]
def wV(f:Lit->WS->WS)(w:WS)(a:fw):WS:=
 if a.func<1∨5<=a.func∨16<=w.br∨a.body.length=0 then mA w
 else aT (tN (cX f a.body (tN (nW (aT (aP w (eZ a.var)) [a.var,pz,iA a.func,pA]) a) 1) a.body.length) (-1)) [xr]
def zi(f:Lit->WS->WS)(l:Lit)(w:WS):WS:=
 if l.kind=2 then jm (aT w [yV]) l.atom else if l.kind=1 then jm w l.atom
 else if l.kind=3 then(if l.op<1∨7<=l.op then mA (cJ 17 w l.left) else cJ 17 (aT (cJ 17 w l.left) [tk l.op]) l.right)
 else if l.kind=4 then wV f w l.agg else mA w
def dz:Nat->Lit->WS->WS
 |0,_,w=>w
 |n+1,l,w=>zi (dz n) l (aP w (jU l))
theorem cN: ∀(b:List an) (w:WS),(aT w b).br=w.br
 | [],w=>rfl
 |s::r,w=>cN r (xE w s)
theorem sJ(w:WS)(b:Bool):(aP w b).br=w.br:=rfl
theorem IF(w:WS):(mA w).br=w.br:=rfl
theorem uq(w:WS)(v:dG):(lN w v).br=w.br:=by rw[lN,cN];rfl
theorem ya(w k:WS)(e:Expr)(h:k.br=w.br):(iX w e k).br=w.br:=by
 unfold iX
 repeat' split
 .rfl
 .rw[cN];rfl
 .rw[uq];rfl
 .exact h
 .rfl
theorem D9(a0:Bool->WS->Expr->WS)(j: ∀b w a,(a0 b w a).br=w.br)(w:WS)(e:Expr):(kh a0 w e).br=w.br:=by
 unfold kh
 repeat' split
 .rfl
 .rw[j,cN,cN]
 .rw[j,cN]
 .rfl
 .rw[j,cN,j]
 .rfl
theorem kH: ∀(n:Nat) (w:WS) (e:Expr),(cJ n w e).br=w.br
 |0,w,e=>rfl
 |1,w,e=>by rw[cJ];exact ya _ _ _ Z
 |m+2,w,e=>by
  rw[cJ];refine ya _ _ _ ?_;rw[D9 _ (fun b w a=>?_)]
  .rfl
  .split
   .rw[cN,kH m,cN]
   .exact kH (m+1) _ _
theorem p9(i:Nat)(w:WS):(gu i w).br=w.br:=by
 unfold gu;split
 .rfl
 .exact cN _ _
theorem Dh(w:WS)(t:Term):(jA w t).br=w.br:=by
 unfold jA
 repeat' split
 .rw[cN];rfl
 .rw[uq];rfl
 .rw[cN];rfl
 .rfl
theorem uw(l:List Term)(w:WS): ∀i,(fk l w i).br=w.br
 |0=>rfl
 |i+1=>by rw[fk,Dh,p9,uw l w i]
theorem yC(w:WS)(a:Atom):(jm w a).br=w.br:=by rw[jm,cN,uw,cN];rfl
theorem mz(f:Lit->WS->WS)(hf: ∀l w,(f l w).br=w.br)(l:List Lit)(w:WS): ∀i,(cX f l w i).br=w.br
 |0=>rfl
 |i+1=>by
  rw[cX];split
  .exact mz f hf l w i
  .rw[hf,p9,mz f hf l w i]
theorem Ec(w:WS)(a:fw):(nW w a).br=w.br:=by
 unfold nW;split
 .rfl
 .rw[cN,kH]
theorem IL(f:Lit->WS->WS)(hf: ∀l w,(f l w).br=w.br)(w:WS)(a:fw):(wV f w a).br=w.br:=by
 unfold wV;split
 .rfl
 .rw[cN];show(cX _ _ _ _).br+ -1=_;rw[mz f hf];show(nW _ _).br+1+ -1=_;rw[Ec,cN,sJ];omega
theorem HT(f:Lit->WS->WS)(hf: ∀l w,(f l w).br=w.br)(l:Lit)(w:WS):(zi f l w).br=w.br:=by
 unfold zi
 repeat' split
 .rw[yC,cN]
 .exact yC _ _
 .rw[IF,kH]
 .rw[kH,cN,kH]
 .exact IL f hf _ _
 .rfl
theorem wv: ∀(n:Nat) (l:Lit) (w:WS),(dz n l w).br=w.br
 |0,_,_=>rfl
 |n+1,l,w=>by rw[dz,HT (dz n) (wv n)];rfl
mutual
def Lit.ts:Lit->Nat
 | .mk _ a _ l r _ v o b _=>100+a.ts+l.ts+r.ts+v.size+o.ts+Lit.lD b
def Lit.lD:List Lit->Nat
 | []=>0
 |e::r=>e.ts+Lit.lD r
end
theorem Lit.qm(l:Lit):l.ts=100+l.atom.ts+l.left.ts+l.right.ts+l.bB.size+l.jx.ts+Lit.lD l.ar:=by cases l;rfl
theorem Lit.w9: ∀(l:List Lit) (i:Nat),i<l.length->Lit.lD (l.take i)+(l.getD i co).ts<=Lit.lD l
 | [],i,h=>by simp at h
 |s::r,0,_=>by simp[Lit.lD]
 |s::r,i+1,h=>by
  have:=Lit.w9 r i (by simpa using h);simp only[QQ,Lit.lD,QI];omega
theorem Lit.Dd: ∀(l:List Lit) (i:Nat),Lit.lD (l.take i)<=Lit.lD l
 | [],i=>by simp
 |s::r,0=>by simp[Lit.lD]
 |s::r,i+1=>by have:=Lit.Dd r i;simp only[QQ,Lit.lD];omega
theorem Lit.KT(l:Lit):100<=l.ts:=by rw[l.qm];omega
theorem Fl(op:Int):(tk op).size<=4:=by
 unfold tk
 repeat' split
 all_goals decide
theorem yr(op:Int):(iA op).size<=5:=by
 unfold iA
 repeat' split
 all_goals decide
def IN(f:Lit->WS->WS):Prop:= ∀l w,(f l w).l.length+4<=w.l.length+l.ts
theorem mO(f:Lit->WS->WS)(hf:IN f)(l:List Lit)(w:WS): ∀i,i<=l.length->(cX f l w i).l.length<=w.l.length+Lit.lD (l.take i)
 |0,_=>by simp[cX,Lit.lD]
 |i+1,h=>by
  have h1:=mO f hf l w i (by omega);have y:Lit.lD (l.take (i+1))=Lit.lD (l.take i)+(l.getD i co).ts:=by
   rw[cm (by omega)];have: ∀(a:List Lit) (b:Lit),Lit.lD (a++ [b])=Lit.lD a+b.ts:=by
    intro a b
    induction a with
    |nil=>simp[Lit.lD]
    |cons x r ih=>simp only[QN,Lit.lD,ih];omega
   exact this _ _
  rw[cX];split
  .omega
  .have j:=hf (l.getD i co) (gu i (cX f l w i));have u:=lq i (cX f l w i);omega
theorem AP(w:WS)(a:fw):(nW w a).l.length<=w.l.length+a.iD.ts+3:=by
 have e:CV.size=3:=rfl;unfold nW;split
 .rw[aN];omega
 .have:=cZ 17 w a.iD;rw[aI,e];omega
theorem u6(w:WS)(a:fw):(aT (aP w (eZ a.var)) [a.var,pz,iA a.func,pA]).l.length<=w.l.length+a.var.size+11:=by
 have b:pz.size=3:=rfl;have j:pA.size=3:=rfl;have h:=yr a.func;have e:eJ [a.var,pz,iA a.func,pA]=a.var.size+(3+((iA a.func).size+3)):=by simp[eJ,b,j]
 rw[gY,aN,e];omega
theorem FG(f:Lit->WS->WS)(hf:IN f)(w:WS)(a:fw):(wV f w a).l.length<=w.l.length+a.var.size+a.iD.ts+Lit.lD a.body+20:=by
 have e:xr.size=2:=rfl;unfold wV;split
 .rw[eY];omega
 .rw[aI,e];show(cX _ _ _ _).l.length+2<=_;have h1:=mO f hf a.body (tN (nW (aT (aP w (eZ a.var)) [a.var,pz,iA a.func,pA]) a) 1) a.body.length (Ps _);rw[Rk]at h1;have b:=AP (aT (aP w (eZ a.var)) [a.var,pz,iA a.func,pA]) a;have j:=u6 w a;have u:(tN (nW (aT (aP w (eZ a.var)) [a.var,pz,iA a.func,pA]) a) 1).l.length=(nW (aT (aP w (eZ a.var)) [a.var,pz,iA a.func,pA]) a).l.length:=rfl;omega
theorem Et(f:Lit->WS->WS)(hf:IN f)(l:Lit)(w:WS):(zi f l w).l.length+4<=w.l.length+l.ts:=by
 have x:=l.qm;have e:yV.size=4:=rfl;unfold zi
 repeat' split
 .have h1:=vA (aT w [yV]) l.atom;rw[aI,e]at h1;omega
 .have h1:=vA w l.atom;omega
 .have h1:=cZ 17 w l.left;rw[eY];omega
 .have h1:=cZ 17 w l.left;have b:=cZ 17 (aT (cJ 17 w l.left) [tk l.op]) l.right;have j:=Fl l.op;rw[aI]at b;omega
 .have h1:=FG f hf w l.agg;have b:l.agg.var=l.bB:=rfl;have j:l.agg.iD=l.jx:=rfl;have u:l.agg.body=l.ar:=rfl;rw[b,j,u]at h1;omega
 .rw[eY];omega
theorem sP: ∀n,IN (dz n)
 |0=>fun l w=>by have:=l.KT;rw[dz];omega
 |n+1=>fun l w=>Et (dz n) (sP n) l (aP w (jU l))
theorem vw{f:Lit->WS->WS}{l:List Lit}{w:WS}{i:Nat}(h:(cX f l w i).bad=jp): ∀k,cX f l w (i+k)=cX f l w i
 |0=>rfl
 |k+1=>by
  have:=vw h k;rw[<-QY,cX,this,am h]
end Go.Proofs.YtllkaddcplhklaaGreatDoor
namespace Go.Proofs.YtllkaddcplhklaaGreatDoor
open Go Go.Al Go.Proofs.Tryz
def FI(n:Nat):Prop:= ∀(l:Lit) (w:WS),l.size<=n->0<=w.br->w.br<=16->w.l.length+l.ts<=900000000->bD prog 155 [.ptr 0 0,ag l.c] w.O (.bq []) (dz n l w).H 3
set_option maxHeartbeats 1000000 in
theorem d214(n:Nat)(C:FI n)(w:WS)(b:List Lit)(hs:Lit.aB b<=n)(G:0<=w.br)(I:w.br<=16)(hb:w.l.length+Lit.lD b+2<=900000000)(hn:n<=100000000):
  bD prog 210 [.ptr 0 0,.iv (lits b)] w.O (.bq []) (cX (dz n) b w b.length).H 3:=by
 have D:xt.size=2:=rfl;have a0:=Lit.aG b;refine au ab func210 Z (by decide) ntmps210 Z (by simp) ?_;refine gA Z ?_;refine aJ 0 b.length (PA _) (fun i=>⟨[(0,.ptr 0 0),(6,.iv (lits b)),(7,pI b.length),(8,pI i)],[(0,io ((cX (dz n) b w i).ph 0 2)),(2,io (.bp (cX (dz n) b w i).l 5))],3⟩) (fun _=>True) _ ac
  (Oo (w:=w) Z Z Z Z Z (.refl _) (.refl _) Z Z Z Z Z (bi (bi (bi (bi trivial))))) fun i R _=>?_
 have Y:=mO (dz n) (sP n) b w i R;have J:=mz (dz n) (wv n) b w i;have c0:=Lit.Dd b i;refine zE Z Z (fun h1=>?_) fun h1=>?_
 .have h1:b.length<=i:=zG h1;have B:i=b.length:=by omega
  subst B;refine gA Z gP
 have h1:i<b.length:=zN h1;have d0:=Lit.w9 b i h1;have b0:=Lit.bT b i h1;have j:cX (dz n) b w (i+1)=if(cX (dz n) b w i).bad=jp then cX (dz n) b w i else dz n (b.getD i co) (gu i (cX (dz n) b w i)):=rfl;have u:=fun h=>vw (f:=dz n) (l:=b) (w:=w) (i:=i) h (b.length-i);rw[Nat.add_sub_cancel' (Nat.le_of_lt h1)]at u;have A:=lq i (cX (dz n) b w i);have y:=p9 i (cX (dz n) b w i);generalize cX (dz n) b w i=w2 at*
 refine zJ Z Z (fun g=>?_) fun g=>?_
 .have g:w2.bad=jp:=g;rw[u g];refine gA Z gP
 have g: ¬w2.bad=jp:=by
  have g:w2.bad=kw:=g;rw[g];decide
 rw[be g]at j;refine zJ Z Z (fun x=>?_) fun x=>?_
 .have x: ¬i=0:=by have:=zT x;omega
  rw[gu,be x]at j A y;refine gA Z (ic (d147 w2 [xt] (by simp) (by rw[bF,D];omega)) ?_);refine gA Z (gm (C (b.getD i co) (aT w2 [xt]) (by omega) (by omega) (by omega) (by omega)) ?_);refine gA Z ⟨h1,ac,_,ox (j.symm)⟩
 .have x:i=0:=by have:=zF x;omega
  rw[gu,am x]at j A y;refine gA Z (gm (C (b.getD i co) w2 (by omega) (by omega) (by omega) (by omega)) ?_);refine gA Z ⟨h1,ac,_,ox (j.symm)⟩
def fw.ts(a:fw):Nat:=a.var.size+a.iD.ts+Lit.lD a.body
set_option maxHeartbeats 4000000 in
theorem d190(n:Nat)(ih:FI n)(w:WS)(a:fw)(hs:Lit.aB a.body<=n)(a0:0<=w.br)(b0:w.br<=16)(hb:w.l.length+a.ts+30<=900000000)(hn:n<=100000000):
  bD prog 192 [.ptr 0 0,ag a.c] w.O (.bq []) (wV (dz n) w a).H 3:=by
 refine bD.le (args:=[.ptr 0 0,ag a.c1]) ?_ ⟨.refl _,a.AZ,ac⟩;have Y:xr.size=2:=rfl;have e5:CV.size=3:=rfl;have c0:=Lit.aG a.body;have d0:a.ts=a.var.size+a.iD.ts+Lit.lD a.body:=rfl;have hW: ¬(a.func<1∨5<=a.func∨16<=w.br∨a.body.length=0)->wV (dz n) w a=aT (tN (cX (dz n) a.body (tN (nW (aT (aP w (eZ a.var)) [a.var,pz,iA a.func,pA]) a) 1) a.body.length) (-1)) [xr]:=fun h=>be h;have R:a.func<1∨5<=a.func∨16<=w.br∨a.body.length=0->wV (dz n) w a=mA w:=fun h=>am h;have hh:=u6 w a;have y:=AP (aT (aP w (eZ a.var)) [a.var,pz,iA a.func,pA]) a;have u:=Ec (aT (aP w (eZ a.var)) [a.var,pz,iA a.func,pA]) a;rw[cN,sJ]at u;have A:(tN (nW (aT (aP w (eZ a.var)) [a.var,pz,iA a.func,pA]) a) 1).l.length=(nW (aT (aP w (eZ a.var)) [a.var,pz,iA a.func,pA]) a).l.length:=rfl;have B:(tN (nW (aT (aP w (eZ a.var)) [a.var,pz,iA a.func,pA]) a) 1).br=(nW (aT (aP w (eZ a.var)) [a.var,pz,iA a.func,pA]) a).br+1:=rfl;have x:=mO (dz n) (sP n) a.body (tN (nW (aT (aP w (eZ a.var)) [a.var,pz,iA a.func,pA]) a) 1) a.body.length (Ps _);rw[Rk]at x;have C:=mz (dz n) (wv n) a.body (tN (nW (aT (aP w (eZ a.var)) [a.var,pz,iA a.func,pA]) a) 1) a.body.length;have D:eJ [a.var,pz,iA a.func,pA]=a.var.size+(3+((iA a.func).size+3)):=by simp[eJ,pz,pA];rfl
 have G:=yr a.func;obtain⟨j,var,b,body⟩:=a;dsimp only at*
 refine au ab func192 Z (by decide) ntmps192 Z (by simp) ?_;refine zE Z Z (fun g1=>?_) fun g1=>?_
 .rw[R (.inl (zT g1))];refine gA Z gP
 refine zE Z Z (fun g2=>?_) fun g2=>?_
 .rw[R (.inr (.inl (zT g2)))];refine gA Z gP
 refine zE Z Z (fun g3=>?_) fun g3=>?_
 .rw[R (.inr (.inr (.inl (zT g3))))];refine gA Z gP
 refine zJ Z Z (fun g4=>?_) fun g4=>?_
 .rw[R (.inr (.inr (.inr (SO.1 (zT g4)))))];refine gA Z gP
 have g1: ¬j<1:=zF g1;have g2: ¬j>=5:=zF g2;have g3: ¬w.br>=16:=zF g3;have g4: ¬body.length=0:=fun h=>zF g4 (SO.2 h);rw[hW (by rintro(h|h|h|h)<;>omega)];have hf:j=1∨j=2∨j=3∨j=4:=by omega
 clear hW R;rcases hf with rfl|rfl|rfl|rfl
 .have e:iA 1=⟨#[99,111,117,110,116]⟩:=rfl;rw[e]at hh y u A B x C D G ⊢;refine gA Z (zp (z8 var) ?_);refine gA Z (gm (d146 w (eZ var)) ?_);refine gA Z (wC (d147 (aP w (eZ var)) [var,pz,⟨#[99,111,117,110,116]⟩,pA] (by simp) (by rw[D,aN];omega)) Z Z Z Z Z Z Z Z Z Z Z Z Z Z Z Z (by(repeat' (first|exact ac|exact rfl|exact ah.refl _|exact ah.bk (by assumption)|apply Pm))<;>first|omega|(simp only[Po];omega)|(simp;done)|(simp;omega)) Z (by(repeat' (first|exact ac|exact rfl|exact ah.refl _|exact ah.bk (by assumption)|apply Pm))<;>first|omega|(simp only[Po];omega)|(simp;done)|(simp;omega)) ?_);generalize J:aT (aP w (eZ var)) [var,pz,⟨#[99,111,117,110,116]⟩,pA]=w1 at*
  have I:nW w1 ⟨1,var,b,body⟩=aP w1 (iL b):=rfl;rw[I]at y u A B x C ⊢;refine zE Z Z (fun q=>?_) fun q=>?_
  .exact absurd (show jp=kw from q) (by decide)
  refine gA Z (zp (IB b) ?_);refine gA Z (gm (d146 w1 (iL b)) ?_);generalize aP w1 (iL b)=w2 at*
  refine gA Z (gm (d214 n ih (tN w2 1) body hs (by omega) (by omega) (by omega) hn) ?_);generalize cX (dz n) body (tN w2 1) body.length=w3 at*
  refine gA Z (go_wp (d147 (tN w3 (-1)) [xr] (by simp) (by rw[bF,Y];show w3.l.length+2<=_;omega)) Z Z Z Z Z Z Z Z Z Z Z Z ?_);refine gA Z gP
 .have e:iA 2=⟨#[115,117,109]⟩:=rfl;rw[e]at hh y u A B x C D G ⊢;refine gA Z (zp (z8 var) ?_);refine gA Z (gm (d146 w (eZ var)) ?_);refine gA Z (wC (d147 (aP w (eZ var)) [var,pz,⟨#[115,117,109]⟩,pA] (by simp) (by rw[D,aN];omega)) Z Z Z Z Z Z Z Z Z Z Z Z Z Z Z Z (by(repeat' (first|exact ac|exact rfl|exact ah.refl _|exact ah.bk (by assumption)|apply Pm))<;>first|omega|(simp only[Po];omega)|(simp;done)|(simp;omega)) Z (by(repeat' (first|exact ac|exact rfl|exact ah.refl _|exact ah.bk (by assumption)|apply Pm))<;>first|omega|(simp only[Po];omega)|(simp;done)|(simp;omega)) ?_);generalize J:aT (aP w (eZ var)) [var,pz,⟨#[115,117,109]⟩,pA]=w1 at*
  have I:nW w1 ⟨2,var,b,body⟩=aT (cJ 17 w1 b) [CV]:=rfl;rw[I]at y u A B x C ⊢;refine zJ Z Z (fun q=>?_) fun q=>?_
  .exact absurd (show kw=jp from q) (by decide)
  have hx:=cZ 17 w1 b;refine gA Z (gm (nu w1 b (by omega)) ?_);refine gA Z (ic (d147 (cJ 17 w1 b) [CV] (by simp) (by rw[bF,e5];omega)) ?_);generalize aT (cJ 17 w1 b) [CV]=w2 at*
  refine gA Z (gm (d214 n ih (tN w2 1) body hs (by omega) (by omega) (by omega) hn) ?_);generalize cX (dz n) body (tN w2 1) body.length=w3 at*
  refine gA Z (go_wp (d147 (tN w3 (-1)) [xr] (by simp) (by rw[bF,Y];show w3.l.length+2<=_;omega)) Z Z Z Z Z Z Z Z Z Z Z Z ?_);refine gA Z gP
 .have e:iA 3=⟨#[109,105,110]⟩:=rfl;rw[e]at hh y u A B x C D G ⊢;refine gA Z (zp (z8 var) ?_);refine gA Z (gm (d146 w (eZ var)) ?_);refine gA Z (wC (d147 (aP w (eZ var)) [var,pz,⟨#[109,105,110]⟩,pA] (by simp) (by rw[D,aN];omega)) Z Z Z Z Z Z Z Z Z Z Z Z Z Z Z Z (by(repeat' (first|exact ac|exact rfl|exact ah.refl _|exact ah.bk (by assumption)|apply Pm))<;>first|omega|(simp only[Po];omega)|(simp;done)|(simp;omega)) Z (by(repeat' (first|exact ac|exact rfl|exact ah.refl _|exact ah.bk (by assumption)|apply Pm))<;>first|omega|(simp only[Po];omega)|(simp;done)|(simp;omega)) ?_);generalize J:aT (aP w (eZ var)) [var,pz,⟨#[109,105,110]⟩,pA]=w1 at*
  have I:nW w1 ⟨3,var,b,body⟩=aT (cJ 17 w1 b) [CV]:=rfl;rw[I]at y u A B x C ⊢;refine zJ Z Z (fun q=>?_) fun q=>?_
  .exact absurd (show kw=jp from q) (by decide)
  have hx:=cZ 17 w1 b;refine gA Z (gm (nu w1 b (by omega)) ?_);refine gA Z (ic (d147 (cJ 17 w1 b) [CV] (by simp) (by rw[bF,e5];omega)) ?_);generalize aT (cJ 17 w1 b) [CV]=w2 at*
  refine gA Z (gm (d214 n ih (tN w2 1) body hs (by omega) (by omega) (by omega) hn) ?_);generalize cX (dz n) body (tN w2 1) body.length=w3 at*
  refine gA Z (go_wp (d147 (tN w3 (-1)) [xr] (by simp) (by rw[bF,Y];show w3.l.length+2<=_;omega)) Z Z Z Z Z Z Z Z Z Z Z Z ?_);refine gA Z gP
 .have e:iA 4=⟨#[109,97,120]⟩:=rfl;rw[e]at hh y u A B x C D G ⊢;refine gA Z (zp (z8 var) ?_);refine gA Z (gm (d146 w (eZ var)) ?_);refine gA Z (wC (d147 (aP w (eZ var)) [var,pz,⟨#[109,97,120]⟩,pA] (by simp) (by rw[D,aN];omega)) Z Z Z Z Z Z Z Z Z Z Z Z Z Z Z Z (by(repeat' (first|exact ac|exact rfl|exact ah.refl _|exact ah.bk (by assumption)|apply Pm))<;>first|omega|(simp only[Po];omega)|(simp;done)|(simp;omega)) Z (by(repeat' (first|exact ac|exact rfl|exact ah.refl _|exact ah.bk (by assumption)|apply Pm))<;>first|omega|(simp only[Po];omega)|(simp;done)|(simp;omega)) ?_);generalize J:aT (aP w (eZ var)) [var,pz,⟨#[109,97,120]⟩,pA]=w1 at*
  have I:nW w1 ⟨4,var,b,body⟩=aT (cJ 17 w1 b) [CV]:=rfl;rw[I]at y u A B x C ⊢;refine zJ Z Z (fun q=>?_) fun q=>?_
  .exact absurd (show kw=jp from q) (by decide)
  have hx:=cZ 17 w1 b;refine gA Z (gm (nu w1 b (by omega)) ?_);refine gA Z (ic (d147 (cJ 17 w1 b) [CV] (by simp) (by rw[bF,e5];omega)) ?_);generalize aT (cJ 17 w1 b) [CV]=w2 at*
  refine gA Z (gm (d214 n ih (tN w2 1) body hs (by omega) (by omega) (by omega) hn) ?_);generalize cX (dz n) body (tN w2 1) body.length=w3 at*
  refine gA Z (go_wp (d147 (tN w3 (-1)) [xr] (by simp) (by rw[bF,Y];show w3.l.length+2<=_;omega)) Z Z Z Z Z Z Z Z Z Z Z Z ?_);refine gA Z gP
set_option maxHeartbeats 4000000 in
theorem CI(n:Nat)(ih:FI n)(hn:n<=100000000):FI (n+1):=by
 intro l w hs J R hb;have D:yV.size=4:=rfl;have B:=l.size_eq;have C:=l.qm;have A:l.agg.ts=l.bB.size+l.jx.ts+Lit.lD l.ar:=rfl;have I:dz (n+1) l w=zi (dz n) l (aP w (jU l)):=rfl;rw[I];have Y:(aP w (jU l)).l.length=w.l.length:=rfl;have a0:=sJ w (jU l);have hx:=cZ 17 (aP w (jU l)) l.left;obtain⟨kind,atom,op,left,right,dS,bB,jx,ar,at_⟩:=l;dsimp only[Lit.atom,Lit.left,Lit.right,Lit.bB,Lit.jx,Lit.ar]at B C A hx;refine au ab func155 Z (by decide) ntmps155 Z (by simp) ?_;refine gA Z (zp (OY (.mk kind atom op left right dS bB jx ar at_)) ?_);refine gA Z (gm (d146 w (jU (.mk kind atom op left right dS bB jx ar at_))) ?_);generalize aP w (jU (.mk kind atom op left right dS bB jx ar at_))=w1 at*
 have G:zi (dz n) (.mk kind atom op left right dS bB jx ar at_) w1=if kind=2 then jm (aT w1 [yV]) atom else if kind=1 then jm w1 atom
  else if kind=3 then(if op<1∨7<=op then mA (cJ 17 w1 left) else cJ 17 (aT (cJ 17 w1 left) [tk op]) right)
  else if kind=4 then wV (dz n) w1 (Lit.mk kind atom op left right dS bB jx ar at_).agg else mA w1:=rfl
 rw[G];refine zJ Z Z (fun u=>?_) fun u=>?_
 .have u:kind=2:=zT u;rw[am u];refine gA Z (ic (d147 w1 [yV] (by simp) (by rw[bF,D];omega)) ?_);refine gA Z (gm (d104 (aT w1 [yV]) atom (by rw[aI,D];omega)) ?_);refine gA Z gP
 have u: ¬kind=2:=zF u;rw[be u];refine zJ Z Z (fun j=>?_) fun j=>?_
 .have j:kind=1:=zT j;rw[am j];refine gA Z (gm (d104 w1 atom (by omega)) ?_);refine gA Z gP
 have j: ¬kind=1:=zF j;rw[be j];refine zE Z Z (fun x=>?_) fun x=>?_
 .have x: ¬kind=3:=zF x;rw[be x];refine zJ Z Z (fun y=>?_) fun y=>?_
  .have y:kind=4:=zT y;rw[am y];refine gA Z (gm (d190 n ih w1 (Lit.mk kind atom op left right dS bB jx ar at_).agg (by show Lit.aB ar<=n;omega) (by omega) (by omega) (by omega) hn) ?_);refine gA Z gP
  .have y: ¬kind=4:=zF y;rw[be y];refine gA Z gP
 have x:kind=3:=zT x;rw[am x];refine gA Z (gm (nu w1 left (by omega)) ?_);refine zE Z Z (fun g1=>?_) fun g1=>?_
 .rw[am (.inl (zT g1))];refine gA Z gP
 refine zJ Z Z (fun g2=>?_) fun g2=>?_
 .rw[am (.inr (zT g2))];refine gA Z gP
 have g1: ¬op<1:=zF g1;have g2: ¬op>=7:=zF g2;rw[be (by rintro(h|h)<;>omega)];generalize cJ 17 w1 left=w2 at*
 have ho:op=1∨op=2∨op=3∨op=4∨op=5∨op=6:=by omega
 clear G I;rcases ho with rfl|rfl|rfl|rfl|rfl|rfl
 .have e:tk 1=⟨#[32,61,32]⟩:=rfl;have b:((⟨#[32,61,32]⟩:an)).size=3:=rfl;rw[e];refine fj Z (by dsimp only[Lit.op];exact(by(repeat' (first|exact ac|exact rfl|exact ah.refl _|exact ah.bk (by assumption)|apply Pm))<;>first|omega|(simp only[Po];omega)|(simp;done)|(simp;omega))) (go_wp (d147 w2 [⟨#[32,61,32]⟩] (by simp) (by rw[bF,b];omega)) Z Z Z Z Z Z Z Z Z Z Z Z ?_);refine gA Z (gm (nu (aT w2 [⟨#[32,61,32]⟩]) right (by rw[aI,b];omega)) ?_);refine gA Z gP
 .have e:tk 2=⟨#[32,33,61,32]⟩:=rfl;have b:((⟨#[32,33,61,32]⟩:an)).size=4:=rfl;rw[e];refine fj Z (by dsimp only[Lit.op];exact(by(repeat' (first|exact ac|exact rfl|exact ah.refl _|exact ah.bk (by assumption)|apply Pm))<;>first|omega|(simp only[Po];omega)|(simp;done)|(simp;omega))) (go_wp (d147 w2 [⟨#[32,33,61,32]⟩] (by simp) (by rw[bF,b];omega)) Z Z Z Z Z Z Z Z Z Z Z Z ?_);refine gA Z (gm (nu (aT w2 [⟨#[32,33,61,32]⟩]) right (by rw[aI,b];omega)) ?_);refine gA Z gP
 .have e:tk 3=⟨#[32,60,32]⟩:=rfl;have b:((⟨#[32,60,32]⟩:an)).size=3:=rfl;rw[e];refine fj Z (by dsimp only[Lit.op];exact(by(repeat' (first|exact ac|exact rfl|exact ah.refl _|exact ah.bk (by assumption)|apply Pm))<;>first|omega|(simp only[Po];omega)|(simp;done)|(simp;omega))) (go_wp (d147 w2 [⟨#[32,60,32]⟩] (by simp) (by rw[bF,b];omega)) Z Z Z Z Z Z Z Z Z Z Z Z ?_);refine gA Z (gm (nu (aT w2 [⟨#[32,60,32]⟩]) right (by rw[aI,b];omega)) ?_);refine gA Z gP
 .have e:tk 4=⟨#[32,60,61,32]⟩:=rfl;have b:((⟨#[32,60,61,32]⟩:an)).size=4:=rfl;rw[e];refine fj Z (by dsimp only[Lit.op];exact(by(repeat' (first|exact ac|exact rfl|exact ah.refl _|exact ah.bk (by assumption)|apply Pm))<;>first|omega|(simp only[Po];omega)|(simp;done)|(simp;omega))) (go_wp (d147 w2 [⟨#[32,60,61,32]⟩] (by simp) (by rw[bF,b];omega)) Z Z Z Z Z Z Z Z Z Z Z Z ?_);refine gA Z (gm (nu (aT w2 [⟨#[32,60,61,32]⟩]) right (by rw[aI,b];omega)) ?_);refine gA Z gP
 .have e:tk 5=⟨#[32,62,32]⟩:=rfl;have b:((⟨#[32,62,32]⟩:an)).size=3:=rfl;rw[e];refine fj Z (by dsimp only[Lit.op];exact(by(repeat' (first|exact ac|exact rfl|exact ah.refl _|exact ah.bk (by assumption)|apply Pm))<;>first|omega|(simp only[Po];omega)|(simp;done)|(simp;omega))) (go_wp (d147 w2 [⟨#[32,62,32]⟩] (by simp) (by rw[bF,b];omega)) Z Z Z Z Z Z Z Z Z Z Z Z ?_);refine gA Z (gm (nu (aT w2 [⟨#[32,62,32]⟩]) right (by rw[aI,b];omega)) ?_);refine gA Z gP
 .have e:tk 6=⟨#[32,62,61,32]⟩:=rfl;have b:((⟨#[32,62,61,32]⟩:an)).size=4:=rfl;rw[e];refine fj Z (by dsimp only[Lit.op];exact(by(repeat' (first|exact ac|exact rfl|exact ah.refl _|exact ah.bk (by assumption)|apply Pm))<;>first|omega|(simp only[Po];omega)|(simp;done)|(simp;omega))) (go_wp (d147 w2 [⟨#[32,62,61,32]⟩] (by simp) (by rw[bF,b];omega)) Z Z Z Z Z Z Z Z Z Z Z Z ?_);refine gA Z (gm (nu (aT w2 [⟨#[32,62,61,32]⟩]) right (by rw[aI,b];omega)) ?_);refine gA Z gP
theorem NA: ∀n,n<=100000001->FI n
 |0,_=>fun l w hs=>by have:=l.size_pos;omega
 |n+1,h=>CI n (NA n (by omega)) (by omega)
section
abbrev WS.o:WS:=⟨jp,[],kw,0⟩
section
variable {nt:Nat} {Q:AQ} {k:List KI} {s:AS}
def wN(s:AS)(i:Nat):AS:=match s with|⟨f,h,n⟩=>⟨f,(i,io (WS.o.ph i n))::(n,io (.bp [] 5))::h,n+1⟩
theorem Be{P:Program}{c:Code}{s':AS}(i:Nat)(hi:s.h.get i=io (.cells [.iv (.v (.pointer is)),.iv (.v (.slice is 0 0)),pB kw,pI 0] (io 225)))
  (hs:wN s i=s') (h:GO P nt (.code c::k) Q s'):GO P nt (.code c::k) Q s:=by
 subst hs;intro M N a w B;obtain⟨sf,sh,u⟩:=s;obtain⟨h1,Y⟩:=B.1.IU 5;have G:i<u:=B.1.used i _ hi;have I:i≠u:=fun e=>by omega
 have x:AH.get ((u,io (AO.bp [] 5))::sh) i=io (.cells [.iv (.v (.pointer is)),.iv (.v (.slice is 0 0)),pB kw,pI 0] (io 225)):=by
  rw[AH.ay,be I];exact hi
 obtain⟨y,T,e1,e2,e3,A,e5⟩:=Y.obj i _ x;have hv: ∀(j:Nat) (p:PV),[PV.ej jp i,.sl u 0 0 1,pB kw,pI 0][j]? =io p->VR M N (· <u+1) p (y.getD j undef):=by
  intro j p b
  match j,b with
  |0,b=>
   cases b;have:=A 0 _ Z;generalize y.getD 0 undef=v at this ⊢;cases this with
   |iv _ _ h=>cases h with
    |v=>exact .ej jp i (QR G)
  |1,b=>
   cases b;have:=A 1 _ Z;generalize y.getD 1 undef=v at this ⊢;cases this with
   |iv _ _ h=>cases h with
    |v=>exact .lR _ _ (Q9 _)
  |2,b=>exact A 2 p b
  |3,b=>exact A 3 p b
  |j+4,b=>cases b
 obtain⟨g1,g2⟩:=Y.write (i:=i) (o0:= .cells [.iv (.v (.pointer is)),.iv (.v (.slice is 0 0)),pB kw,pI 0] (io 225)) x Z w (WS.o.ph i u) Z Z Z Z (fun _ _=>rfl) ⟨y,T,e1,e2,e3,hv,e5⟩;have C:Fits M N ⟨sf,(i,io (WS.o.ph i u))::(u,io (.bp [] 5))::sh,u+1⟩ nt a w:=
  ⟨g2,fun k=>(B.2.1 k).mono (.refl _) (.refl _ _) (fun i hi=>QR hi),B.2.2⟩
 exact AW.then h C fun e a2 w2 M2 N2 s2 R D J=>⟨M2,N2,s2,(h1.trans g1).trans R,D,J⟩
end
def WS.told(w:WS):PV:= .bq [pS (if w.bad=jp then⟨#[]⟩ else⟨w.l.toArray⟩),pI (if w.bad=jp then 50 else 0)]
theorem d105(w:WS):bD prog 154 [.ptr 0 0] w.O w.told [] 2:=by
 refine au ab func154 Z (by decide) ntmps154 Z (by simp) ?_;refine zJ Z Z (fun g=>?_) fun g=>?_
 .have g:w.bad=jp:=g;unfold WS.told;rw[am g,am g];refine gA Z (zD [] Z (zW ac))
 .have g: ¬w.bad=jp:=by
   have g:w.bad=kw:=g;rw[g];decide
  unfold WS.told;rw[be g,be g];refine gA Z (zq [0,1] (d150 w) ?_);refine gA Z (zD [] Z (zW ac))
def N6(a:Atom):PV:=(jm WS.o a).told
def Oz(l:Lit):PV:=(dz l.size l WS.o).told
theorem c61(a:Atom)(hb:a.ts<=900000000):Pure prog 118 [ag a.c] (N6 a):=by
 refine ai ab func118 Z (by decide) ntmps118 Z (by simp) Z ?_;refine gM 12 Z (Be 1 Z Z ?_);refine gA Z (gm (d104 WS.o a (by simpa using hb)) ?_);refine gA Z (zq [1,3] (d105 (jm WS.o a)) ?_);exact zU Z
theorem O9(l:Lit)(hb:l.ts<=900000000)(hs:l.size<=100000000):Pure prog 119 [ag l.c] (Oz l):=by
 refine ai ab func119 Z (by decide) ntmps119 Z (by simp) Z ?_;refine gM 12 Z (Be 1 Z Z ?_);refine gA Z (gm (NA l.size (by omega) l WS.o (Ps _) (by decide) (by decide) (by simpa using hb)) ?_);refine gA Z (zq [1,3] (d105 (dz l.size l WS.o)) ?_);exact zU Z
end
def nQ(d:Decl)(i k:Int):Int:=
 if(d.types.any fun x=>!lc (x=1)&&!lc (x=2))=jp∨iE d.name=kw then 1
 else if i>=64∨(d.types.length:Int)>8 then 66 else if k>0 then 60 else 0
theorem Pa(d:Decl)(i k:Int):Pure prog 82 [ag d.c,pI i,pI k] (pI (nQ d i k)):=by
 refine ai ab func82 Z (by decide) ntmps82 Z (by simp) Z ?_;refine gA Z (zq [] (d153 d.types) ?_);refine zE Z Z (fun g1=>?_) fun g1=>?_
 .rw[nQ,am (.inl (by simpa using g1))];exact zU Z
 have g1: ¬(d.types.any fun x=>!lc (x=1)&&!lc (x=2))=jp:=by
  have g1:(d.types.any fun x=>!lc (x=1)&&!lc (x=2))=kw:=g1;rw[g1];decide
 refine gA Z (zp (Oi d.name) ?_);refine zJ Z Z (fun g2=>?_) fun g2=>?_
 .have g2:iE d.name=kw:=by simpa using g2
  rw[nQ,am (.inr g2)];exact zU Z
 have g2: ¬iE d.name=kw:=by
  have g2:iE d.name=jp:=by simpa using g2
  rw[g2];decide
 rw[nQ,be (by rintro(h|h);exact g1 h;exact g2 h)];refine zE Z Z (fun g3=>?_) fun g3=>?_
 .rw[am (.inl (by simpa using g3))];exact zU Z
 have g3: ¬i>=64:=zF g3;refine zJ Z Z (fun g4=>?_) fun g4=>?_
 .rw[am (.inr (zT g4))];exact zU Z
 have g4: ¬(d.types.length:Int)>8:=zF g4;rw[be (by rintro(h|h);exact g3 h;exact g4 h)];refine zJ Z Z (fun g5=>?_) fun g5=>?_
 .rw[am (zT g5)];exact zU Z
 .rw[be (zF g5)];exact zU Z
abbrev b6:=(KC.si .i64).K
def b6.z:b6:=(Pq,0)
def b6.c(s:b6):List IV:=[iS s.1,iI s.2]
def spE(s:b6):IV:= .agg s.c
def spZ:Value:= .agg #[.string Pq,.int .i64 0]
def dvP:PV->b6
 | .agg [.iv (.v (.string s)),.iv (.v (.int _ a))]=>(s,a)
 |_=>b6.z
abbrev UM:=List (b6×b6)
abbrev KM:=List (b6×Int)
abbrev mY(m:UM):AO:= .map (.si .i64) spE b6.z spZ dvP m
abbrev upI(m:UM):IV:= .dQ (.si .i64) spE b6.z spZ m
abbrev nk(m:KM):AO:= .map (.si .i64) wY 0 (.int .i64 0) OF m
abbrev kdI(m:KM):IV:= .dQ (.si .i64) wY 0 (.int .i64 0) m
structure Want where
 lit:Int
 at_:b6
 kind:Int
 has:Int
 deriving Inhabited
def Want.c(w:Want):List IV:=[iI w.lit,iS w.at_.1,iI w.at_.2,iI w.kind,iI w.has]
structure TS where
 up:UM
 ws:List Want
 kind:KM
abbrev TS.cell(r:ax)(u j n k:Nat):AO:= .cells [.iv (ck r),.mp u,.sl j 0 n 5,.mp k]
abbrev TS.O(r:ax)(t:TS):List AO:=[TS.cell r 1 2 t.ws.length 3,mY t.up,aF 5 t.ws Want.c,nk t.kind]
abbrev TS.K(r:ax)(t:TS):AH:=[(0,io (TS.cell r 1 2 t.ws.length 3)),(1,io (mY t.up)),(2,io (aF 5 t.ws Want.c)),(3,io (nk t.kind))]
abbrev TS.H(r:ax)(t:TS):AH:=[(0,io (TS.cell r 1 4 t.ws.length 3)),(1,io (mY t.up)),(4,io (aF 5 t.ws Want.c)),(3,io (nk t.kind))]
def dF(r:ax)(s:an)(w:Int):b6:=(s,if dt .str (aD (aC r)) s 0>0 then-1 else w)
theorem d136(r:ax)(t:TS)(s:an)(w:Int):bD prog 195 [.ptr 0 0,pS s,pI w] (t.O r) (ag (dF r s w).c) (t.K r) 4:=by
 refine au ab func195 Z (by decide) ntmps195 Z (by simp) ?_;refine zJ Z Z (fun g=>?_) fun g=>?_
 .have e:dF r s w=(s, -1):=by unfold dF;rw[am (zT g)]
  rw[e];refine gA Z (zD [] Z (zW (zO (zC ⟨⟨_,rfl,.of_eq (b3 _).symm⟩,Pf Z,dK _,zC ac⟩))))
 .have e:dF r s w=(s,w):=by unfold dF;rw[be (zF g)]
  rw[e];refine gA Z (zD [] Z (zW (zO (zC ⟨⟨_,rfl,.of_eq (b3 _).symm⟩,Pf Z,dK _,zC ac⟩))))
def bG:UM->b6->b6
 | [],v=>v
 |(x,y)::r,v=>if x=v then bG r y else bG r v
def gv:UM->Prop
 | []=>True
 |(x,y)::r=>x≠y∧(∀q∈r,q.1≠x)∧(∀q∈r,q.2≠x)∧gv r
def BH:UM->b6->Nat
 | [],_=>0
 |(x,_)::r,v=>if x=v then r.length+1 else BH r v
theorem C9: ∀(m:UM) (v:b6),BH m v<=m.length
 | [],_=>Ps _
 |(x,y)::r,v=>by
  have:=C9 r v;unfold BH;split
  .simp
  .simp;omega
theorem oJ: ∀(m:UM) (v:b6),cU (.si .i64) m v=kw->bG m v=v
 | [],_,_=>rfl
 |(x,y)::r,v,h=>by
  unfold cU at h;unfold bG;split at h
  .cases h
  .rename_i b;rw[be b];exact oJ r v h
theorem lU: ∀(m:UM) (v:b6),gv m->cU (.si .i64) m v=jp->bG m (dt (.si .i64) m v b6.z)=bG m v∧BH m (dt (.si .i64) m v b6.z)<BH m v
 | [],_,_,h=>nomatch h
 |(x,y)::r,v,ok,h=>by
  obtain⟨D,J,G,I⟩:=ok;by_cases u:x=v
  .subst u;have e:dt (.si .i64) ((x,y)::r) x b6.z=y:=am Z;rw[e];refine⟨?_,?_⟩
   .show(if x=y then bG r y else bG r y)=if x=x then bG r y else bG r x;rw[am Z];split<;>rfl
   .show(if x=y then r.length+1 else BH r y)<if x=x then r.length+1 else BH r x;rw[am Z,be D];have:=C9 r y;omega
  .have e:dt (.si .i64) ((x,y)::r) v b6.z=dt (.si .i64) r v b6.z:=be u;have A:cU (.si .i64) r v=jp:=by
    unfold cU at h;rw[be u]at h;exact h
   rw[e];obtain⟨g1,g2⟩:=lU r v I A;have j:dt (.si .i64) r v b6.z≠x:=by
    have: ∀(m:UM),(∀q∈m,q.2≠x)->cU (.si .i64) m v=jp->dt (.si .i64) m v b6.z≠x:=by
     intro m
     induction m with
     |nil=>intro _ h;cases h
     |cons a r ih=>
      obtain⟨R,Y⟩:=a;intro B h;unfold cU at h;unfold dt;split at h
      .rename_i b;rw[am b];exact B _ Pv
      .rename_i b;rw[be b];exact ih (fun q C=>B q (Pu _ C)) h
    exact this r G A
   refine⟨?_,?_⟩
   .show(if x=_ then bG r y else bG r _)=if x=v then bG r y else bG r v;rw[be (fun e=>j e.symm),be u];exact g1
   .show(if x=_ then r.length+1 else BH r _)<if x=v then r.length+1 else BH r v;rw[be (fun e=>j e.symm),be u];exact g2
theorem d52(r:ax)(t:TS)(v0:b6)(ok:gv t.up):bD prog 167 [.ptr 0 0,ag v0.c] (t.O r) (ag (bG t.up v0).c) (t.K r) 4:=by
 refine au ab func167 Z (by decide) ntmps167 Z (by simp) ?_;refine gA Z ?_
 refine gn (σ:={v:b6//bG t.up v=bG t.up v0}) (fun v=>⟨[(0,.ptr 0 0),(3,.ptr 4 0),(4,.ptr 5 0)],
  [(0,io (TS.cell r 1 2 t.ws.length 3)),(1,io (mY t.up)),(2,io (aF 5 t.ws Want.c)),(3,io (nk t.kind)),(4,io (.cells [pS v.1.1,pI v.1.2])),(5,io (.cells [pS ⟨#[]⟩,pI 0]))],6⟩) (fun v=>BH t.up v.1) ⟨v0,rfl⟩ []
  (zW (zO (zC ⟨⟨_,rfl,.of_eq (b3 _).symm⟩,Pf Z,dK _,zC ⟨⟨_,rfl,.of_eq Z⟩,Pf Z,rfl,⟨_,rfl,.of_eq Z⟩,Pf Z,rfl,ac⟩⟩))) fun v=>?_
 obtain⟨v,b⟩:=v;refine zJ Z Z (fun g=>?_) fun g=>?_
 .have h:cU (.si .i64) t.up v=kw:=by simpa using g
  have e:bG t.up v0=v:=by rw[<-b];exact oJ t.up v h
  refine gA Z (zD [] Z (zM ⟨.of_eq (congrArg (fun x:b6=>ag x.c) e.symm),rfl,ac⟩ (zO (zC ⟨⟨_,rfl,.of_eq (b3 _).symm⟩,Pf Z,dK _,zC ac⟩))))
 .have h:cU (.si .i64) t.up v=jp:=by simpa using g
  obtain⟨h1,j⟩:=lU t.up v ok h;refine gA Z ⟨⟨dt (.si .i64) t.up v b6.z,h1.trans b⟩,[],j,zW (zO (zC ⟨⟨_,rfl,.of_eq (b3 _).symm⟩,Pf Z,dK _,zC ⟨⟨_,rfl,.of_eq Z⟩,Pf Z,rfl,⟨_,rfl,.of_eq Z⟩,Pf Z,rfl,ac⟩⟩))⟩
def KS(r:ax)(t:TS):IV:= .jv [ck r,upI t.up,bN 5 t.ws Want.c,kdI t.kind]
theorem c52(r:ax)(t:TS)(v0:b6)(ok:gv t.up):Pure prog 167 [.iv (KS r t),ag v0.c] (ag (bG t.up v0).c):=by
 refine ai ab func167 Z (by decide) ntmps167 Z (by simp) Z ?_;refine gA Z ?_
 refine gn (σ:={v:b6//bG t.up v=bG t.up v0}) (fun v=>⟨[(0,.iv (KS r t)),(3,.ptr 0 0),(4,.ptr 1 0)],
  [(0,io (.cells [pS v.1.1,pI v.1.2])),(1,io (.cells [pS ⟨#[]⟩,pI 0]))],2⟩) (fun v=>BH t.up v.1) ⟨v0,rfl⟩ []
  (zW ⟨⟨_,rfl,.of_eq Z⟩,Pf Z,rfl,⟨_,rfl,.of_eq Z⟩,Pf Z,rfl,ac⟩) fun v=>?_
 obtain⟨v,b⟩:=v;refine zJ Z Z (fun g=>?_) fun g=>?_
 .have h:cU (.si .i64) t.up v=kw:=by simpa using g
  have e:bG t.up v0=v:=by rw[<-b];exact oJ t.up v h
  refine gA Z (zL (.of_eq ?_));exact congrArg (fun x:b6=>ag x.c) e.symm
 .have h:cU (.si .i64) t.up v=jp:=by simpa using g
  obtain⟨h1,j⟩:=lU t.up v ok h;refine gA Z ⟨⟨dt (.si .i64) t.up v b6.z,h1.trans b⟩,[],j,zW ⟨⟨_,rfl,.of_eq Z⟩,Pf Z,rfl,⟨_,rfl,.of_eq Z⟩,Pf Z,rfl,ac⟩⟩
def rU(t:TS)(w:Want):Int:=if w.has=0 then dt (.si .i64) t.kind (bG t.up w.at_) 0 else w.has
def qk(t:TS)(lit:Int)(w:Want):Bool:=lc (w.lit=lit)&&!lc (rU t w=w.kind)
def pn(t:TS)(lit:Int):Bool:=t.ws.any (qk t lit)
theorem O6(r:ax)(t:TS)(lit:Int)(ok:gv t.up)(hb:t.ws.length<=1000000000000):Pure prog 131 [.iv (KS r t),pI lit] (pB (pn t lit)):=by
 refine ai ab func131 Z (by decide) ntmps131 Z (by simp) Z ?_;refine gA Z ?_;refine aJ 0 t.ws.length (PA _) (fun i=>⟨[(0,.iv (KS r t)),(1,pI lit),(11,.iv (bN 5 t.ws Want.c)),(12,pI t.ws.length),(13,pI i)],[],0⟩) (fun i=>(t.ws.take i).any (qk t lit)=kw) [] Z
  (zW trivial) fun i A y=>?_
 refine zJ Z Z (fun h1=>?_) fun h1=>?_
 .have h1:i<t.ws.length:=by simpa using h1
  have x:=cK y h1;refine zJ Z Z (fun u=>?_) fun u=>?_
  .have u:(t.ws.getD i co).has=0:=zT u;refine gA Z (Ad (c52 r t (t.ws.getD i co).at_ ok) ?_);have hk:rU t (t.ws.getD i co)=dt (.si .i64) t.kind (bG t.up (t.ws.getD i co).at_) 0:=am u;refine zJ Z Z (fun b=>?_) fun b=>?_
   .have b:(t.ws.getD i co).lit=lit:=zT b;refine zJ Z Z (fun j=>?_) fun j=>?_
    .have j: ¬rU t (t.ws.getD i co)=(t.ws.getD i co).kind:=by rw[hk];simpa using j
     have e:pn t lit=jp:=Qz.2 ⟨t.ws.getD i co,by rw[Pk,Pl h1];exact P3 h1,by rw[qk,decide_eq_true b,decide_eq_false j];rfl⟩;refine gA Z (zL (.of_eq ?_));rw[e]
    .have j:rU t (t.ws.getD i co)=(t.ws.getD i co).kind:=by rw[hk];simpa using j
     refine gA Z ⟨h1,x.2 (by rw[qk,decide_eq_true j,RO,RV]),[],zW ac⟩
   .have b: ¬(t.ws.getD i co).lit=lit:=by simpa using b
    refine gA Z ⟨h1,x.2 (by rw[qk,decide_eq_false b];rfl),[],zW ac⟩
  .have u: ¬(t.ws.getD i co).has=0:=zF u;have hk:rU t (t.ws.getD i co)=(t.ws.getD i co).has:=be u;refine zJ Z Z (fun b=>?_) fun b=>?_
   .have b:(t.ws.getD i co).lit=lit:=zT b;refine zJ Z Z (fun j=>?_) fun j=>?_
    .have j: ¬rU t (t.ws.getD i co)=(t.ws.getD i co).kind:=by rw[hk];simpa using j
     have e:pn t lit=jp:=Qz.2 ⟨t.ws.getD i co,by rw[Pk,Pl h1];exact P3 h1,by rw[qk,decide_eq_true b,decide_eq_false j];rfl⟩;refine gA Z (zL (.of_eq ?_));rw[e]
    .have j:rU t (t.ws.getD i co)=(t.ws.getD i co).kind:=by rw[hk];simpa using j
     refine gA Z ⟨h1,x.2 (by rw[qk,decide_eq_true j,RO,RV]),[],zW ac⟩
   .have b: ¬(t.ws.getD i co).lit=lit:=by simpa using b
    refine gA Z ⟨h1,x.2 (by rw[qk,decide_eq_false b];rfl),[],zW ac⟩
 .have h1:t.ws.length<=i:=by simpa using h1
  rw[Pz h1]at y;refine gA Z (zL (.of_eq ?_));rw[pn,y]
section
section
variable (r:ax) (lit w:Int)
def kY(e:Expr):List Want:=if e.kind=1 then[⟨lit,dF r e.var w,1,0⟩] else if e.kind=2 then[⟨lit,b6.z,1,e.val.kind⟩] else[]
mutual
def fo:Expr->List Want
 | .mk k v val op args=>kY r lit w (.mk k v val op args)++(if k=4 then qz args else[])
def qz:List Expr->List Want
 | []=> []
 |e::s=>fo e++qz s
end
theorem xT: ∀l:List Expr,qz r lit w l=l.flatMap (fo r lit w)
 | []=>rfl
 |e::s=>by rw[qz,Qs,xT s]
def gG(e:Expr):List Want:=if e.kind=4 then e.args.flatMap (fo r lit w) else[]
theorem AR(e:Expr):fo r lit w e=kY r lit w e++gG r lit w e:=by
 cases e;rw[fo,xT];rfl
end
abbrev TS.add(t:TS)(l:List Want):TS:=⟨t.up,t.ws++l,t.kind⟩
section
variable {nt:Nat} {Q:AQ} {k:List KI} {s:AS}
def tS(s:AS)(r:ax)(t:TS)(i u j m:Nat):AS:=match s with|⟨f,h,n⟩=>⟨f,(i,io (TS.cell r u n t.ws.length m))::(u,io (mY t.up))::(n,io (aF 5 t.ws Want.c))::(m,io (nk t.kind))::(i,is)::(u,is)::(j,is)::(m,is)::h,n+1⟩
theorem M5(s:AS)(r:ax)(t:TS)(i u j m:Nat):tS s r t i u j m=⟨s.f,(i,io (TS.cell r u s.nx t.ws.length m))::(u,io (mY t.up))::(s.nx,io (aF 5 t.ws Want.c))::(m,io (nk t.kind))::(i,is)::(u,is)::(j,is)::(m,is)::s.h,s.nx+1⟩:=by cases s;rfl
def tR(s:AS)(r:ax)(t:TS)(i u j m:Nat):AS:=match s with|⟨f,h,n⟩=>⟨f,(i,io (TS.cell r u j t.ws.length m))::(u,io (mY t.up))::(j,io (aF 5 t.ws Want.c))::(m,io (nk t.kind))::(i,is)::(u,is)::(j,is)::(m,is)::h,n⟩
theorem M6(s:AS)(r:ax)(t:TS)(i u j m:Nat):tR s r t i u j m=⟨s.f,(i,io (TS.cell r u j t.ws.length m))::(u,io (mY t.up))::(j,io (aF 5 t.ws Want.c))::(m,io (nk t.kind))::(i,is)::(u,is)::(j,is)::(m,is)::s.h,s.nx⟩:=by cases s;rfl
theorem Di{o:Oper}{c:Call}{g:FuncId}{args A:List PV}{r:ax}{t B:TS}{y:PV}{i u j m n:Nat}{es:List (List PV)}{s':AS}(hc:bD prog g (.ptr 0 0::args) (t.O r) y (B.H r) 5)(ho:o.op= .call c)(ha:bM s.f c=io (g,.ptr i 0::A))
  (hi:s.h.get i=io (TS.cell r u j n m)) (hu:s.h.get u=io (mY t.up)) (hj:s.h.get j=io (.row 5 es)) (hm:s.h.get m=io (nk t.kind)) (hn:n=t.ws.length) (he:es=t.ws.map fun x=>(Want.c x).map .iv)
  (hlt:[i,u,j,m].all (fun x=>PI x s.nx)=jp) (hnd:cC [i,u,j,m]=jp) (has:A=args) (hlow:bm 0 args=jp) (hr:y.low 0=jp)
  (hp:putDst nt o y (tS s r B i u j m)=io s'):OT prog nt o s (fun t=>t=s'):=by
 subst has;subst hn;subst he;have b: ∀σ,dy σ A=A:=fun σ=>gf σ A hlow;refine lv ho ha hc (fe hnd) (fun j hj=>Pf (P4.1 hlt j hj)) ?_ ?_ ?_
 .simp only[Py,Qb,hi,hu,hj,hm,b3];rfl
 .simp only[dy,b];rfl
 .rintro q C n0 ⟨rfl,rfl,rfl⟩;rw[PV.jC _ _ hr];rw[M5]at hp;refine⟨s',?_,rfl⟩;rw[<-hp];simp only[TS.H,aX,vU,Qt,b3];rfl
theorem De{o:Oper}{c:Call}{g:FuncId}{args A:List PV}{r:ax}{t:TS}{y:PV}{i u j m n:Nat}{es:List (List PV)}{s':AS}(hc:bD prog g (.ptr 0 0::args) (t.O r) y (t.K r) 4)(ho:o.op= .call c)(ha:bM s.f c=io (g,.ptr i 0::A))
  (hi:s.h.get i=io (TS.cell r u j n m)) (hu:s.h.get u=io (mY t.up)) (hj:s.h.get j=io (.row 5 es)) (hm:s.h.get m=io (nk t.kind)) (hn:n=t.ws.length) (he:es=t.ws.map fun x=>(Want.c x).map .iv)
  (hlt:[i,u,j,m].all (fun x=>PI x s.nx)=jp) (hnd:cC [i,u,j,m]=jp) (has:A=args) (hlow:bm 0 args=jp) (hr:y.low 0=jp)
  (hp:putDst nt o y (tR s r t i u j m)=io s'):OT prog nt o s (fun t=>t=s'):=by
 subst has;subst hn;subst he;have b: ∀σ,dy σ A=A:=fun σ=>gf σ A hlow;refine lv ho ha hc (fe hnd) (fun j hj=>Pf (P4.1 hlt j hj)) ?_ ?_ ?_
 .simp only[Py,Qb,hi,hu,hj,hm,b3];rfl
 .simp only[dy,b];rfl
 .rintro q B n0 ⟨rfl,rfl,rfl⟩;rw[PV.jC _ _ hr];rw[M6]at hp;refine⟨s',?_,rfl⟩;rw[<-hp];simp only[TS.K,aX,vU,Qt,b3];rfl
theorem yl{all rest:List Oper}{o:Oper}{c:Call}{g:FuncId}{args y:List PV}{r:ax}{t A:TS}{b:PV}{i u j m n:Nat}{es:List (List PV)}{s':AS}(hc:bD prog g (.ptr 0 0::args) (t.O r) b (A.H r) 5)(ho:o.op= .call c)(hg:o.guard=is)(ha:bM s.f c=io (g,.ptr i 0::y))
  (hi:s.h.get i=io (TS.cell r u j n m)) (hu:s.h.get u=io (mY t.up)) (hj:s.h.get j=io (.row 5 es)) (hm:s.h.get m=io (nk t.kind)) (hn:n=t.ws.length) (he:es=t.ws.map fun x=>(Want.c x).map .iv)
  (hlt:[i,u,j,m].all (fun x=>PI x s.nx)=jp) (hnd:cC [i,u,j,m]=jp) (has:y=args) (hlow:bm 0 args=jp) (hr:b.low 0=jp)
  (hp:putDst nt o b (tS s r A i u j m)=io s') (h:GO prog nt (.ops all rest::k) Q s'):GO prog nt (.ops all (o::rest)::k) Q s:=
 cz hg (Di hc ho ha hi hu hj hm hn he hlt hnd has hlow hr hp) fun t B=>by subst B;exact h
theorem Bd{all rest:List Oper}{o:Oper}{c:Call}{g:FuncId}{args y:List PV}{r:ax}{t A:TS}{b:PV}{i u j m n:Nat}{es:List (List PV)}{s':AS}(hc:bD prog g (.ptr 0 0::args) (t.O r) b (A.H r) 5)(h:GO prog nt (.ops all rest::k) Q s')(ho:o.op= .call c:=by exact rfl)(hg:o.guard=is:=by exact rfl)(ha:bM s.f c=io (g,.ptr i 0::y):=by exact rfl)(hi:s.h.get i=io (TS.cell r u j n m):=by exact rfl)(hu:s.h.get u=io (mY t.up):=by exact rfl)(hj:s.h.get j=io (.row 5 es):=by exact rfl)(hm:s.h.get m=io (nk t.kind):=by exact rfl)(hn:n=t.ws.length:=by first|rfl|(rw[Pn];rfl)|simp)(he:es=t.ws.map fun x=>(Want.c x).map .iv:=by first|rfl|(rw[PF];rfl)|(simp only[PF,PH];rfl))(hlt:[i,u,j,m].all (fun x=>PI x s.nx)=jp:=by exact rfl)(hnd:cC [i,u,j,m]=jp:=by exact rfl)(has:y=args:=by exact rfl)(hlow:bm 0 args=jp:=by exact rfl)(hr:b.low 0=jp:=by exact rfl)(hp:putDst nt o b (tS s r A i u j m)=io s':=by exact rfl):GO prog nt (.ops all (o::rest)::k) Q s:=yl (hc:=hc) (ho:=ho) (hg:=hg) (ha:=ha) (hi:=hi) (hu:=hu) (hj:=hj) (hm:=hm) (hn:=hn) (he:=he) (hlt:=hlt) (hnd:=hnd) (has:=has) (hlow:=hlow) (hr:=hr) (hp:=hp) (h:=h)
theorem LO{all:List Oper}{todo pend:List (Nat×Oper)}{y:Nat}{B A:Prop}{o:Oper}{c:Call}{g:FuncId}{args C:List PV}{r:ax}{t:TS}{b:PV}{i u j m n:Nat}{es:List (List PV)}{s':AS}(hc:bD prog g (.ptr 0 0::args) (t.O r) b (t.K r) 4)
  (hrd:eL todo=[(y,o)]) (ho:o.op= .call c) (ha:bM s.f c=io (g,.ptr i 0::C))
  (hi:s.h.get i=io (TS.cell r u j n m)) (hu:s.h.get u=io (mY t.up)) (hj:s.h.get j=io (.row 5 es)) (hm:s.h.get m=io (nk t.kind)) (hn:n=t.ws.length) (he:es=t.ws.map fun x=>(Want.c x).map .iv)
  (hlt:[i,u,j,m].all (fun x=>PI x s.nx)=jp) (hnd:cC [i,u,j,m]=jp) (has:C=args) (hlow:bm 0 args=jp) (hr:b.low 0=jp)
  (hp:putDst nt o b (tR s r t i u j m)=io s')
  (hg:bX nt all s.f o=io jp) (hpb:gZ all pend o=jp) (hE:mW todo [y]=jp)
  (hag:mX nD nt all s todo pend=io B) (hCA:B) (hag2:dD nD nt all s' (aZ pend o)=io A) (hC2:A)
  (h:GO prog nt (.bW all (todo.filter fun x=>!PJ x.1 y) (aZ pend o)::k) Q s'):GO prog nt (.bW all todo pend::k) Q s:=
 lj ab hrd hg hpb hE hag hCA (De hc ho ha hi hu hj hm hn he hlt hnd has hlow hr hp) hag2 hC2 h
theorem mb{all:List Oper}{todo pend:List (Nat×Oper)}{y:Nat}{B A:Prop}{o:Oper}{c:Call}{g:FuncId}{args C:List PV}{r:ax}{t:TS}{b:PV}{i u j m n:Nat}{es:List (List PV)}{s':AS}(hc:bD prog g (.ptr 0 0::args) (t.O r) b (t.K r) 4)(h:GO prog nt (.bW all (todo.filter fun x=>!PJ x.1 y) (aZ pend o)::k) Q s')(hrd:eL todo=[(y,o)]:=by exact rfl)(ho:o.op= .call c:=by exact rfl)(ha:bM s.f c=io (g,.ptr i 0::C):=by exact rfl)(hi:s.h.get i=io (TS.cell r u j n m):=by exact rfl)(hu:s.h.get u=io (mY t.up):=by exact rfl)(hj:s.h.get j=io (.row 5 es):=by exact rfl)(hm:s.h.get m=io (nk t.kind):=by exact rfl)(hn:n=t.ws.length:=by first|rfl|(rw[Pn];rfl)|simp)(he:es=t.ws.map fun x=>(Want.c x).map .iv:=by first|rfl|(rw[PF];rfl)|(simp only[PF,PH];rfl))(hlt:[i,u,j,m].all (fun x=>PI x s.nx)=jp:=by exact rfl)(hnd:cC [i,u,j,m]=jp:=by exact rfl)(has:C=args:=by exact rfl)(hlow:bm 0 args=jp:=by exact rfl)(hr:b.low 0=jp:=by exact rfl)(hp:putDst nt o b (tR s r t i u j m)=io s':=by exact rfl)(hg:bX nt all s.f o=io jp:=by exact rfl)(hpb:gZ all pend o=jp:=by exact rfl)(hE:mW todo [y]=jp:=by exact rfl)(hag:mX nD nt all s todo pend=io B:=by exact rfl)(hCA:B:=by(repeat' (first|exact ac|exact rfl|exact ah.refl _|exact ah.bk (by assumption)|apply Pm))<;>first|omega|(simp only[Po];omega)|(simp;done)|(simp;omega))(hag2:dD nD nt all s' (aZ pend o)=io A:=by exact rfl)(hC2:A:=by(repeat' (first|exact ac|exact rfl|exact ah.refl _|exact ah.bk (by assumption)|apply Pm))<;>first|omega|(simp only[Po];omega)|(simp;done)|(simp;omega)):GO prog nt (.bW all todo pend::k) Q s:=LO (hc:=hc) (hrd:=hrd) (ho:=ho) (ha:=ha) (hi:=hi) (hu:=hu) (hj:=hj) (hm:=hm) (hn:=hn) (he:=he) (hlt:=hlt) (hnd:=hnd) (has:=has) (hlow:=hlow) (hr:=hr) (hp:=hp) (hg:=hg) (hpb:=hpb) (hE:=hE) (hag:=hag) (hCA:=hCA) (hag2:=hag2) (hC2:=hC2) (h:=h)
theorem J1{l:List ResultVar}{r0:PV}{e:Exit}{r:ax}{u:TS}{b:PV}{j n:Nat}{es:List (List PV)}(he:e= .normal∨e= .ret)(hr:iU nD s l=io r0)(hi:s.h.get 0=io (TS.cell r 1 j n 3))(hu:s.h.get 1=io (mY u.up))(hj:s.h.get j=io (.row 5 es))(hm:s.h.get 3=io (nk u.kind))
  (hn:n=u.ws.length) (hes:es=u.ws.map fun x=>(Want.c x).map .iv) (hlt:PI j s.nx=jp) (hnd:cC [0,1,j,3]=jp) (hns:Rw 4 s.nx=jp) (hrl:ah r0 b) (hlow:b.low 0=jp) (hlow5:b.low 5=jp):Ac nD l 4 b (u.H r) 5 e s:=by
 subst hn;subst hes;refine aY [j] he hr ⟨rfl,Pf hns,fun x y=>?_,⟨?_,hlow5,ac⟩,⟨⟨_,hi,.of_eq Z⟩,Pf Z,rfl,⟨_,hu,.of_eq Z⟩,Pf Z,ac,⟨_,hj,.of_eq (b3 _).symm⟩,Pf Z,dK _,⟨_,hm,.of_eq Z⟩,Pf Z,ac,ac⟩,?_⟩
 .simp only[Pw]at y;subst y;exact Pf hlt
 .rw[PV.jC _ _ hlow];exact hrl
 .exact fe hnd
theorem tV{l:List ResultVar}{r0:PV}{e:Exit}{r:ax}{u:TS}{b:PV}{j n:Nat}{es:List (List PV)}(he:e= .normal∨e= .ret:=by first|exact .inr Z|exact .inl Z)(hr:iU nD s l=io r0:=by exact rfl)(hi:s.h.get 0=io (TS.cell r 1 j n 3):=by exact rfl)(hu:s.h.get 1=io (mY u.up):=by exact rfl)(hj:s.h.get j=io (.row 5 es):=by exact rfl)(hm:s.h.get 3=io (nk u.kind):=by exact rfl)(hn:n=u.ws.length:=by first|rfl|(rw[Pn];rfl)|simp)(hes:es=u.ws.map fun x=>(Want.c x).map .iv:=by first|rfl|(rw[PF];rfl)|(simp only[PF,PH];rfl))(hlt:PI j s.nx=jp:=by exact rfl)(hnd:cC [0,1,j,3]=jp:=by exact rfl)(hns:Rw 4 s.nx=jp:=by exact rfl)(hrl:ah r0 b:=by exact .refl _)(hlow:b.low 0=jp:=by exact rfl)(hlow5:b.low 5=jp:=by exact rfl):Ac nD l 4 b (u.H r) 5 e s:=J1 (he:=he) (hr:=hr) (hi:=hi) (hu:=hu) (hj:=hj) (hm:=hm) (hn:=hn) (hes:=hes) (hlt:=hlt) (hnd:=hnd) (hns:=hns) (hrl:=hrl) (hlow:=hlow) (hlow5:=hlow5)
theorem IS{n0 i u j m n:Nat}{es:List (List PV)}{J:AF}{r:ax}{t b:TS}(hw:t=b)(hi:s.h.get i=io (TS.cell r u j n m))(hu:s.h.get u=io (mY t.up))(hj:s.h.get j=io (.row 5 es))(hm:s.h.get m=io (nk t.kind))
  (hn:n=t.ws.length) (hes:es=t.ws.map fun x=>(Want.c x).map .iv) (hlt:PI j s.nx=jp) (hnd:cC [i,u,j,m]=jp) (h0:[i,u,m].all (fun x=>PI x n0)=jp) (hns:Rw n0 s.nx=jp) (hf:C3 (n0+1) (sg n0 [j]) s.f J):
  Wk n0 [j] s ⟨J,[(i,io (TS.cell r u n0 b.ws.length m)),(u,io (mY b.up)),(n0,io (aF 5 b.ws Want.c)),(m,io (nk b.kind))],n0+1⟩:=by
 subst hw;subst hn;subst hes;simp only[Sq,List.all_nil,Bool.and_true,Qc]at h0;have y:i<n0:=Pf h0.1;have B:u<n0:=Pf h0.2.1;have A:m<n0:=Pf h0.2.2;have s0:sg n0 [j] i=i:=fi y;have C:sg n0 [j] u=u:=fi B;have D:sg n0 [j] m=m:=fi A;have R:PI n0 n0=kw:=RR.2 fun e=>absurd (Pf e) (by omega);have G:sg n0 [j] n0=j:=by simp[sg,R]
 have c1:PI u (n0+1)=jp:=Qh (by omega);have Y:PI m (n0+1)=jp:=Qh (by omega);have cn:PI n0 (n0+1)=jp:=Qh (by omega);refine⟨rfl,Pf hns,fun x I=>?_,hf,⟨⟨_,by rw[s0];exact hi,?_⟩,by show i<n0+1;omega,?_,⟨_,by rw[C];exact hu,.of_eq Z⟩,by show u<n0+1;omega,ac,⟨_,by rw[G];exact hj,.of_eq (b3 _).symm⟩,Q9 _,dK _,⟨_,by rw[D];exact hm,.of_eq Z⟩,by show m<n0+1;omega,ac,ac⟩,?_⟩
 .simp only[Pw]at I;subst I;exact Pf hlt
 .simp only[AO.cv,dy,PV.cv,C,D,G];exact .of_eq Z
 .simp[AO.low,bm,PV.low,c1,Y,cn]
 .simp only[ei,s0,C,D,G];exact fe hnd
theorem nB{n0 i u j m n:Nat}{es:List (List PV)}{y:AF}{r:ax}{t b:TS}(hw:t=b)(hi:s.h.get i=io (TS.cell r u j n m):=by exact rfl)(hu:s.h.get u=io (mY t.up):=by exact rfl)(hj:s.h.get j=io (.row 5 es):=by exact rfl)(hm:s.h.get m=io (nk t.kind):=by exact rfl)(hn:n=t.ws.length:=by first|rfl|(rw[Pn];rfl)|simp)(hes:es=t.ws.map fun x=>(Want.c x).map .iv:=by first|rfl|(rw[PF];rfl)|(simp only[PF,PH];rfl))(hlt:PI j s.nx=jp:=by exact rfl)(hnd:cC [i,u,j,m]=jp:=by exact rfl)(h0:[i,u,m].all (fun x=>PI x n0)=jp:=by exact rfl)(hns:Rw n0 s.nx=jp:=by exact rfl)(hf:C3 (n0+1) (sg n0 [j]) s.f y:=by repeat' (first|exact ac|exact ah.refl _|exact rfl|apply Pm)):Wk n0 [j] s ⟨y,[(i,io (TS.cell r u n0 b.ws.length m)),(u,io (mY b.up)),(n0,io (aF 5 b.ws Want.c)),(m,io (nk b.kind))],n0+1⟩:=IS (hw:=hw) (hi:=hi) (hu:=hu) (hj:=hj) (hm:=hm) (hn:=hn) (hes:=hes) (hlt:=hlt) (hnd:=hnd) (h0:=h0) (hns:=hns) (hf:=hf)
end
theorem TS.add_add(t:TS)(a b:List Want):(t.add a).add b=t.add (a++b):=by simp[TS.add]
theorem TS.add_nil(t:TS):t.add []=t:=by simp[TS.add]
def IP(r:ax)(n:Nat):Prop:= ∀(t:TS) (e:Expr) (lit w:Int),e.size<=n->t.ws.length+Expr.aB e.args<=1000000000->bD prog 196 [.ptr 0 0,ag e.c,pI lit,pI w] (t.O r) (.bq []) ((t.add (gG r lit w e)).H r) 5
def L8(r:ax)(n:Nat):Prop:= ∀(t:TS) (e:Expr) (lit w:Int),e.size<=n->t.ws.length+e.size<=1000000000->bD prog 165 [.ptr 0 0,ag e.c,pI lit,pI w] (t.O r) (.bq []) ((t.add (fo r lit w e)).H r) 5
theorem d92(r:ax)(n:Nat)(u:IP r n):L8 r n:=by
 intro t e lit w hs hb;have x:=e.size_eq;rw[AR,<-TS.add_add];refine au ab func165 Z (by decide) ntmps165 Z (by simp) ?_;refine zJ Z Z (fun b=>?_) fun b=>?_
 .have b:e.kind=1:=zT b;have hl:kY r lit w e=[⟨lit,dF r e.var w,1,0⟩]:=am b;rw[hl];refine gA Z (mb (d136 r t e.var w) ?_);refine gA Z (yl (u (t.add [⟨lit,dF r e.var w,1,0⟩]) e lit w hs (by show(t.ws++_).length+_<=_;rw[Pn,Qn];omega)) Z Z Z Z Z Z Z (by first|rfl|(rw[Pn];rfl)|simp) (by first|rfl|(rw[PF];rfl)|(simp only[PF,PH];rfl)) Z Z Z Z Z Z ?_);refine gA Z tV
 have b: ¬e.kind=1:=zF b;refine zJ Z Z (fun j=>?_) fun j=>?_
 .have j:e.kind=2:=zT j;have hl:kY r lit w e=[⟨lit,b6.z,1,e.val.kind⟩]:=by unfold kY;rw[be b,am j]
  rw[hl];refine gA Z (yl (u (t.add [⟨lit,b6.z,1,e.val.kind⟩]) e lit w hs (by show(t.ws++_).length+_<=_;rw[Pn,Qn];omega)) Z Z Z Z Z Z Z (by first|rfl|(rw[Pn];rfl)|simp) (by first|rfl|(rw[PF];rfl)|(simp only[PF,PH];rfl)) Z Z Z Z Z Z ?_);refine gA Z tV
 .have j: ¬e.kind=2:=zF j;have hl:kY r lit w e=[]:=by unfold kY;rw[be b,be j]
  rw[hl,TS.add_nil];refine gA Z (Bd (u t e lit w hs (by omega)) ?_);refine gA Z tV
theorem gi(r:ax)(lit w:Int): ∀e:Expr,(fo r lit w e).length<=e.size
 | .mk k v val op args=>by
  rw[fo,Expr.size,Pn];have h1:(kY r lit w (.mk k v val op args)).length<=1:=by
   unfold kY
   repeat' split
   all_goals simp
  have b:(if k=4 then qz r lit w args else[]).length<=Expr.aB args:=by
   split
   .exact numRs_len args
   .simp
  omega
where
 numRs_len: ∀l:List Expr,(qz r lit w l).length<=Expr.aB l
 | []=>by simp[qz]
 |e::s=>by
  have h1:=gi r lit w e;have h2:=numRs_len s;rw[qz,Expr.aB,Pn];omega
theorem Ed(r:ax)(lit w:Int)(l:List Expr)(i:Nat)(h:i<l.length):((l.take i).flatMap (fo r lit w)).length+(l.getD i co).size<=Expr.aB l:=by
 have h1: ∀l:List Expr,(l.flatMap (fo r lit w)).length<=Expr.aB l:=by
  intro l
  induction l with
  |nil=>simp
  |cons e s ih=>
   have:=gi r lit w e;rw[Qs,Pn,Expr.aB];omega
 have j:=h1 (l.take i);have b: ∀(l:List Expr) (i:Nat),i<l.length->Expr.aB (l.take i)+(l.getD i co).size<=Expr.aB l:=by
  intro l
  induction l with
  |nil=>intro i h;simp at h
  |cons e s ih=>
   intro i h;cases i with
   |zero=>simp[Expr.aB]
   |succ i=>
    have:=ih i (by simpa using h);simp only[QQ,QI,Expr.aB];omega
 have:=b l i h;omega
theorem d137(r:ax)(n:Nat)(x:L8 r n):IP r (n+1):=by
 intro t e lit w hs hb;have u:=e.size_eq;refine bD.le (args:=[.ptr 0 0,ag e.c1,pI lit,pI w]) ?_ ⟨.refl _,e.AZ,.refl _,.refl _,ac⟩;have j:=Expr.aG e.args;refine au ab func196 Z (by decide) ntmps196 Z (by simp) ?_;refine zE Z Z (fun k=>?_) fun k=>?_
 .have k: ¬e.kind=4:=zF k;have hl:gG r lit w e=[]:=be k;rw[hl,TS.add_nil];refine gA Z tV
 have k:e.kind=4:=zT k;have hl:gG r lit w e=e.args.flatMap (fo r lit w):=am k;rw[hl];refine gA Z ?_
 refine aJ 0 e.args.length (PA _) (fun i=>⟨[(0,.ptr 0 0),(2,pI lit),(3,pI w),(14,.iv (bN 7 e.args Expr.c)),(15,pI e.args.length),(16,pI i)],
  [(0,io (TS.cell r 1 5 (t.add ((e.args.take i).flatMap (fo r lit w))).ws.length 3)),(1,io (mY (t.add ((e.args.take i).flatMap (fo r lit w))).up)),(5,io (aF 5 (t.add ((e.args.take i).flatMap (fo r lit w))).ws Want.c)),(3,io (nk (t.add ((e.args.take i).flatMap (fo r lit w))).kind))],6⟩) (fun _=>True) _ ac
  (IS (t:=t) (TS.add_nil t).symm Z Z Z Z Z Z Z Z Z Z (bi (bi (bi (bi (bi (bi trivial))))))) fun i A _=>?_
 refine zJ Z Z (fun h1=>?_) fun h1=>?_
 .have h1:i<e.args.length:=by simpa using h1
  have b:=bL (f:=fo r lit w) h1;have B:=Ed r lit w e.args i h1;have y:=Expr.bT e.args i h1;refine gA Z (yl (x (t.add ((e.args.take i).flatMap (fo r lit w))) (e.args.getD i co) lit w (by omega) (by show(t.ws++_).length+_<=_;rw[Pn];omega)) Z Z Z Z Z Z Z (by first|rfl|(rw[Pn];rfl)|simp) (by first|rfl|(rw[PF];rfl)|(simp only[PF,PH];rfl)) Z Z Z Z Z Z ?_);refine gA Z ⟨h1,ac,_,IS ((by rw[TS.add_add,b])) Z Z Z Z (by first|rfl|(rw[Pn];rfl)|simp) (by first|rfl|(rw[PF];rfl)|(simp only[PF,PH];rfl)) Z Z Z Z (bi (bi (bi (bi (bi (bi ac))))))⟩
 .have h1:e.args.length<=i:=by simpa using h1
  rw[Pz h1];refine gA Z tV
end
theorem pM(r:ax): ∀n,L8 r n∧IP r n
 |0=>by
  have b:IP r 0:=fun t e lit w hs=>by have:=e.size_pos;omega
  exact⟨d92 r 0 b,b⟩
 |n+1=>by
  have h1:=d137 r n (pM r n).1;exact⟨d92 r (n+1) h1,h1⟩
theorem Fg(r:ax)(t:TS)(e:Expr)(lit w:Int)(hb:t.ws.length+e.size<=1000000000):bD prog 165 [.ptr 0 0,ag e.c,pI lit,pI w] (t.O r) (.bq []) ((t.add (fo r lit w e)).H r) 5:=(pM r e.size).1 t e lit w (Ps _) hb
theorem J5(r:ax)(t:TS)(e:Expr)(lit w:Int)(hb:t.ws.length+e.size<=1000000000):bD prog 196 [.ptr 0 0,ag e.c,pI lit,pI w] (t.O r) (.bq []) ((t.add (gG r lit w e)).H r) 5:=(pM r e.size).2 t e lit w (Ps _) (by have:=e.size_eq;omega)
def typeAt(p:Prog)(a:Atom)(i:Nat):Int:=(fO p a.rel).types.getD i co
def kK(p:Prog)(a:Atom)(i:Nat):Bool:=lc (i<(fO p a.rel).types.length)&&(lc (typeAt p a i=1)||decide (typeAt p a i=2))
def jO(p:Prog)(r:ax)(a:Atom)(lit w:Int)(i:Nat):List Want:=
 if kK p a i=kw then[]
 else if(a.ak.getD i co).kind=1 then[⟨lit,dF r (a.ak.getD i co).var w,typeAt p a i,0⟩]
 else if(a.ak.getD i co).kind=2 then[⟨lit,b6.z,typeAt p a i,(a.ak.getD i co).val.kind⟩] else[]
def ft(p:Prog)(r:ax)(a:Atom)(lit w:Int):Nat->List Want
 |0=> []
 |i+1=>ft p r a lit w i++jO p r a lit w i
theorem yN(p:Prog)(r:ax)(a:Atom)(lit w:Int)(i:Nat):(jO p r a lit w i).length<=1:=by
 unfold jO
 repeat' split
 all_goals simp
theorem ly(p:Prog)(r:ax)(a:Atom)(lit w:Int): ∀i,(ft p r a lit w i).length<=i
 |0=>Ps _
 |i+1=>by
  have h1:=ly p r a lit w i;have b:=yN p r a lit w i;rw[ft,Pn];omega
set_option maxHeartbeats 1000000 in
theorem d90(p:Prog)(r:ax)(t:TS)(a:Atom)(lit w:Int)(hb:t.ws.length+a.ak.length<=1000000000):bD prog 163 [.ptr 0 0,.iv (cD p),ag a.c,pI lit,pI w] (t.O r) (.bq []) ((t.add (ft p r a lit w a.ak.length)).H r) 5:=by
 refine au ab func163 Z (by decide) ntmps163 Z (by simp) ?_;refine gA Z ?_
 refine aJ 0 a.ak.length (PA _) (fun i=>⟨[(0,.ptr 0 0),(3,pI lit),(4,pI w),(10,.iv (bN 1 (fO p a.rel).types jV)),(19,.iv (bN 5 a.ak Term.c)),(20,pI a.ak.length),(21,pI i)],
  [(0,io (TS.cell r 1 5 (t.add (ft p r a lit w i)).ws.length 3)),(1,io (mY (t.add (ft p r a lit w i)).up)),(5,io (aF 5 (t.add (ft p r a lit w i)).ws Want.c)),(3,io (nk (t.add (ft p r a lit w i)).kind))],6⟩) (fun _=>True) _ ac
  (IS (t:=t) (TS.add_nil t).symm Z Z Z Z Z Z Z Z Z Z (bi (bi (bi (bi (bi (bi (bi trivial)))))))) fun i B _=>?_
 refine zE Z Z (fun h1=>?_) fun h1=>?_
 .have h1:a.ak.length<=i:=by simpa using h1
  have:i=a.ak.length:=by omega
  subst this;refine gA Z tV
 have h1:i<a.ak.length:=by simpa using h1
 have hl:=ly p r a lit w i;have hs:t.add (ft p r a lit w (i+1))=(t.add (ft p r a lit w i)).add (jO p r a lit w i):=by rw[TS.add_add];rfl
 have A:(t.add (ft p r a lit w i)).ws.length<=t.ws.length+i:=by show(t.ws++_).length<=_;rw[Pn];omega
 generalize t.add (ft p r a lit w i)=t1 at*
 refine zE Z Z (fun g1=>?_) fun g1=>?_
 .have g1: ¬i<(fO p a.rel).types.length:=by have g:=zT (show lc ((i:Int)>=((fO p a.rel).types.length:Int))=jp from g1);omega
  have x:kK p a i=kw:=by rw[kK,decide_eq_false g1];rfl
  have u:jO p r a lit w i=[]:=am x;rw[u,TS.add_nil]at hs;refine gA Z ⟨h1,ac,_,nB (hs.symm)⟩
 have g1:i<(fO p a.rel).types.length:=by have g:=zF (show lc ((i:Int)>=((fO p a.rel).types.length:Int))=kw from g1);omega
 refine zJ Z Z (fun g2=>?_) fun g2=>?_
 .have g2: ¬typeAt p a i=1:=by simpa[typeAt]using g2
  refine zJ Z Z (fun g3=>?_) fun g3=>?_
  .have g3: ¬typeAt p a i=2:=by simpa[typeAt]using g3
   have x:kK p a i=kw:=by rw[kK,decide_eq_true g1,decide_eq_false g2,decide_eq_false g3];rfl
   have u:jO p r a lit w i=[]:=am x;rw[u,TS.add_nil]at hs;refine gA Z ⟨h1,ac,_,nB (hs.symm)⟩
  .have g3:typeAt p a i=2:=by simpa[typeAt]using g3
   have y:kK p a i=jp:=by rw[kK,decide_eq_true g1,decide_eq_true g3,Bool.or_true];rfl
   have u:jO p r a lit w i=if(a.ak.getD i co).kind=1 then[⟨lit,dF r (a.ak.getD i co).var w,typeAt p a i,0⟩]
    else if(a.ak.getD i co).kind=2 then[⟨lit,b6.z,typeAt p a i,(a.ak.getD i co).val.kind⟩] else[]:=by unfold jO;rw[y];exact be (by decide)
   rw[u]at hs;refine zJ Z Z (fun b=>?_) fun b=>?_
   .have b:(a.ak.getD i co).kind=1:=zT b;rw[am b]at hs;refine gA Z (mb (d136 r t1 (a.ak.getD i co).var w) ?_);refine gA Z ⟨h1,ac,_,nB (hs.symm)⟩
   have b: ¬(a.ak.getD i co).kind=1:=zF b;rw[be b]at hs;refine zJ Z Z (fun j=>?_) fun j=>?_
   .have j:(a.ak.getD i co).kind=2:=zT j;rw[am j]at hs;refine gA Z ⟨h1,ac,_,nB (hs.symm)⟩
   .have j: ¬(a.ak.getD i co).kind=2:=zF j;rw[be j,TS.add_nil]at hs;refine gA Z ⟨h1,ac,_,nB (hs.symm)⟩
 .have g2:typeAt p a i=1:=by simpa[typeAt]using g2
  have y:kK p a i=jp:=by rw[kK,decide_eq_true g1,decide_eq_true g2];rfl
  have u:jO p r a lit w i=if(a.ak.getD i co).kind=1 then[⟨lit,dF r (a.ak.getD i co).var w,typeAt p a i,0⟩]
   else if(a.ak.getD i co).kind=2 then[⟨lit,b6.z,typeAt p a i,(a.ak.getD i co).val.kind⟩] else[]:=by unfold jO;rw[y];exact be (by decide)
  rw[u]at hs;refine zJ Z Z (fun b=>?_) fun b=>?_
  .have b:(a.ak.getD i co).kind=1:=zT b;rw[am b]at hs;refine gA Z (mb (d136 r t1 (a.ak.getD i co).var w) ?_);refine gA Z ⟨h1,ac,_,nB (hs.symm)⟩
  have b: ¬(a.ak.getD i co).kind=1:=zF b;rw[be b]at hs;refine zJ Z Z (fun j=>?_) fun j=>?_
  .have j:(a.ak.getD i co).kind=2:=zT j;rw[am j]at hs;refine gA Z ⟨h1,ac,_,nB (hs.symm)⟩
  .have j: ¬(a.ak.getD i co).kind=2:=zF j;rw[be j,TS.add_nil]at hs;refine gA Z ⟨h1,ac,_,nB (hs.symm)⟩
def tU(t:TS)(u v:b6):TS:=if u=v then t else⟨cA (.si .i64) t.up u v,t.ws,t.kind⟩
def q6(y:Expr):Int:=if y.kind=2 then y.val.kind else 1
def fu(r:ax)(lit w:Int)(t:TS)(x y:Expr):TS:=
 if y.kind=1 then tU t (bG t.up (dF r x.var w)) (bG t.up (dF r y.var w))
 else t.add (if x.kind=1 then[⟨lit,dF r x.var w,q6 y,0⟩] else if x.kind=2 then[⟨lit,b6.z,q6 y,x.val.kind⟩] else[⟨lit,b6.z,q6 y,1⟩])
def gK(r:ax)(lit w:Int)(t:TS)(a b:Expr):TS:=
 if b.kind=1 then fu r lit w ((t.add (gG r lit w a)).add (gG r lit w b)) b a else fu r lit w ((t.add (gG r lit w a)).add (gG r lit w b)) a b
theorem G6{u v:b6}(h:(!(lc (u.1=v.1)&&(lc (u.2=v.2)&&jp)))=jp):u≠v:=by
 rintro rfl;simp at h
theorem G7{u v:b6}(h:(!(lc (u.1=v.1)&&(lc (u.2=v.2)&&jp)))=kw):u=v:=by
 simp at h;exact Prod.ext h.1 h.2
theorem oW(r:ax)(lit w:Int)(e:Expr):(gG r lit w e).length<=e.size:=by
 have h1:=gi r lit w e;rw[AR,Pn]at h1;omega
set_option maxHeartbeats 1000000 in
theorem d93(r:ax)(t:TS)(a b:Expr)(lit w:Int)(ok:gv t.up)(hb:t.ws.length+a.size+b.size<=1000000000):bD prog 166 [.ptr 0 0,ag a.c,ag b.c,pI lit,pI w] (t.O r) (.bq []) ((gK r lit w t a b).H r) 5:=by
 have h1:=oW r lit w a;have I:=oW r lit w b;have G:gK r lit w t a b=if b.kind=1 then fu r lit w ((t.add (gG r lit w a)).add (gG r lit w b)) b a else fu r lit w ((t.add (gG r lit w a)).add (gG r lit w b)) a b:=rfl;rw[G];have C:gv ((t.add (gG r lit w a)).add (gG r lit w b)).up:=ok;refine au ab func166 Z (by decide) ntmps166 Z (by simp) ?_;refine gA Z (Bd (J5 r t a lit w (by omega)) ?_);refine gA Z (yl (J5 r (t.add (gG r lit w a)) b lit w (by show(t.ws++_).length+_<=_;rw[Pn];omega)) Z Z Z Z Z Z Z (by first|rfl|(rw[Pn];rfl)|simp) (by first|rfl|(rw[PF];rfl)|(simp only[PF,PH];rfl)) Z Z Z Z Z Z ?_);have hl:((t.add (gG r lit w a)).add (gG r lit w b)).ws.length<=t.ws.length+a.size+b.size:=by
  show((t.ws++_)++_).length<=_;rw[Pn,Pn];omega
 generalize(t.add (gG r lit w a)).add (gG r lit w b)=t1 at*
 refine zJ Z Z (fun x=>?_) fun x=>?_
 .have x:b.kind=1:=zT x;rw[am x];refine zJ Z Z (fun u=>?_) fun u=>?_
  .have u:a.kind=2:=zT u;have D: ¬a.kind=1:=by omega
   have hh:q6 a=a.val.kind:=am u;have A:fu r lit w t1 b a=t1.add [⟨lit,dF r b.var w,q6 a,0⟩]:=by unfold fu;rw[be D,am x]
   rw[A,hh];refine zJ Z Z (fun y=>?_) fun y=>?_
   .exact absurd (zT y) D
   refine zE Z Z (fun j=>?_) fun j=>?_
   .exact absurd x (zF j)
   refine gA Z (mb (d136 r t1 b.var w) ?_);refine gA Z tV
  .have u: ¬a.kind=2:=zF u;refine zJ Z Z (fun y=>?_) fun y=>?_
   .have y:a.kind=1:=zT y;have A:fu r lit w t1 b a=tU t1 (bG t1.up (dF r b.var w)) (bG t1.up (dF r a.var w)):=am y;rw[A];refine gA Z (mb (d136 r t1 b.var w) ?_);refine gA Z (mb (d52 r t1 (dF r b.var w) C) ?_);refine gA Z (mb (d136 r t1 a.var w) ?_);refine gA Z (mb (d52 r t1 (dF r a.var w) C) ?_);refine zJ Z Z (fun j=>?_) fun j=>?_
    .have e:tU t1 (bG t1.up (dF r b.var w)) (bG t1.up (dF r a.var w))=⟨cA (.si .i64) t1.up (bG t1.up (dF r b.var w)) (bG t1.up (dF r a.var w)),t1.ws,t1.kind⟩:=be (G6 j);rw[e];refine fj Z (by repeat' (first|exact ac|exact rfl|exact Oj (b6.c (bG t1.up (dF r a.var w)))|exact ah.refl _|apply Pm)) (J1 (by first|exact .inr Z|exact .inl Z) Z Z Z Z Z Z Z Z Z Z (.refl _) Z Z)
    .have e:tU t1 (bG t1.up (dF r b.var w)) (bG t1.up (dF r a.var w))=t1:=am (G7 j);rw[e];refine gA Z tV
   .have D: ¬a.kind=1:=zF y;have hh:q6 a=1:=be u;have A:fu r lit w t1 b a=t1.add [⟨lit,dF r b.var w,q6 a,0⟩]:=by unfold fu;rw[be D,am x]
    rw[A,hh];refine zE Z Z (fun j=>?_) fun j=>?_
    .exact absurd x (zF j)
    refine gA Z (mb (d136 r t1 b.var w) ?_);refine gA Z tV
 have x: ¬b.kind=1:=zF x;rw[be x];have A:fu r lit w t1 a b=t1.add (if a.kind=1 then[⟨lit,dF r a.var w,q6 b,0⟩] else if a.kind=2 then[⟨lit,b6.z,q6 b,a.val.kind⟩] else[⟨lit,b6.z,q6 b,1⟩]):=be x;rw[A];refine zJ Z Z (fun u=>?_) fun u=>?_
 .have u:b.kind=2:=zT u;have hh:q6 b=b.val.kind:=am u;rw[hh];refine zJ Z Z (fun y=>?_) fun y=>?_
  .exact absurd (zT y) x
  refine zJ Z Z (fun j=>?_) fun j=>?_
  .rw[am (zT j)];refine gA Z (mb (d136 r t1 a.var w) ?_);refine gA Z tV
  rw[be (zF j)];refine zJ Z Z (fun B=>?_) fun B=>?_
  .rw[am (zT B)];refine gA Z tV
  .rw[be (zF B)];refine gA Z tV
 .have u: ¬b.kind=2:=zF u;have hh:q6 b=1:=be u;rw[hh];refine zJ Z Z (fun y=>?_) fun y=>?_
  .exact absurd (zT y) x
  refine zJ Z Z (fun j=>?_) fun j=>?_
  .rw[am (zT j)];refine gA Z (mb (d136 r t1 a.var w) ?_);refine gA Z tV
  rw[be (zF j)];refine zJ Z Z (fun B=>?_) fun B=>?_
  .rw[am (zT B)];refine gA Z tV
  .rw[be (zF B)];refine gA Z tV
def mV(p:Prog)(r:ax)(lit w:Int)(t:TS)(l:Lit):TS:=
 if l.kind=1∨l.kind=2 then t.add (ft p r l.atom lit w l.atom.ak.length)
 else if l.kind=3 then(if l.op=1∨l.op=2 then gK r lit w t l.left l.right else(t.add (fo r lit w l.left)).add (fo r lit w l.right)) else t
theorem d91(p:Prog)(r:ax)(t:TS)(l:Lit)(lit w:Int)(ok:gv t.up)(hb:t.ws.length+l.size<=1000000000):bD prog 164 [.ptr 0 0,.iv (cD p),ag l.c,pI lit,pI w] (t.O r) (.bq []) ((mV p r lit w t l).H r) 5:=by
 have B:=l.size_eq;have C:=gi r lit w l.left;refine au ab func164 Z (by decide) ntmps164 Z (by simp) ?_;refine zE Z Z (fun j=>?_) fun j=>?_
 .have j:l.kind=1:=by simpa using j
  have b:mV p r lit w t l=t.add (ft p r l.atom lit w l.atom.ak.length):=am (.inl j);rw[b];refine gA Z (Bd (d90 p r t l.atom lit w (by omega)) ?_);refine gA Z tV
 have j: ¬l.kind=1:=zF j;refine zJ Z Z (fun u=>?_) fun u=>?_
 .have u:l.kind=2:=zT u;have b:mV p r lit w t l=t.add (ft p r l.atom lit w l.atom.ak.length):=am (.inr u);rw[b];refine gA Z (Bd (d90 p r t l.atom lit w (by omega)) ?_);refine gA Z tV
 have u: ¬l.kind=2:=zF u;have b:mV p r lit w t l=if l.kind=3 then(if l.op=1∨l.op=2 then gK r lit w t l.left l.right else(t.add (fo r lit w l.left)).add (fo r lit w l.right)) else t:=be (by rintro(h|h);exact j h;exact u h);refine zJ Z Z (fun x=>?_) fun x=>?_
 .have x: ¬l.kind=3:=by simpa using x
  rw[be x]at b;rw[b];refine gA Z tV
 have x:l.kind=3:=by simpa using x
 rw[am x]at b;refine zE Z Z (fun y=>?_) fun y=>?_
 .have y:l.op=1:=by simpa using y
  rw[am (.inl y)]at b;rw[b];refine gA Z (Bd (d93 r t l.left l.right lit w ok (by omega)) ?_);refine gA Z tV
 have y: ¬l.op=1:=zF y;refine zJ Z Z (fun A=>?_) fun A=>?_
 .have A:l.op=2:=zT A;rw[am (.inr A)]at b;rw[b];refine gA Z (Bd (d93 r t l.left l.right lit w ok (by omega)) ?_);refine gA Z tV
 .have A: ¬l.op=2:=zF A;rw[be (by rintro(h|h);exact y h;exact A h)]at b;rw[b];refine gA Z (Bd (Fg r t l.left lit w (by omega)) ?_);refine gA Z (yl (Fg r (t.add (fo r lit w l.left)) l.right lit w (by show(t.ws++_).length+_<=_;rw[Pn];omega)) Z Z Z Z Z Z Z (by first|rfl|(rw[Pn];rfl)|simp) (by first|rfl|(rw[PF];rfl)|(simp only[PF,PH];rfl)) Z Z Z Z Z Z ?_);refine gA Z tV
theorem nM: ∀(n:Nat) (m:UM) (v:b6),gv m->BH m v<=n->cU (.si .i64) m (bG m v)=kw
 |n,m,v,ok,hn=>by
  cases h:cU (.si .i64) m v with
  |false=>rw[oJ m v h];exact h
  |true=>
   obtain⟨h1,b⟩:=lU m v ok h;cases n with
   |zero=>omega
   |succ n=>rw[<-h1];exact nM n m _ ok (by omega)
theorem xF: ∀(m:UM) (u v:b6),cU (.si .i64) m u=kw->cA (.si .i64) m u v=m++ [(u,v)]
 | [],_,_,_=>rfl
 |(x,y)::r,u,v,h=>by
  unfold cU at h;split at h
  .cases h
  .rename_i b;show(if x=u then _ else(x,y)::cA (.si .i64) r u v)=_;rw[be b,xF r u v h];rfl
theorem yk{m:UM}{u:b6}(h:cU (.si .i64) m u=kw): ∀q∈m,q.1≠u:=by
 induction m with
 |nil=>intro q hq;cases hq
 |cons a r ih=>
  obtain⟨x,y⟩:=a;unfold cU at h;split at h
  .cases h
  .rename_i b;intro q hq;rcases Px.1 hq with rfl|hq
   .exact b
   .exact ih h q hq
theorem uu: ∀{m:UM} {u v:b6},gv m->(∀q∈m,q.1≠u)->(∀q∈m,q.1≠v)->u≠v->gv (m++ [(u,v)])
 | [],u,v,_,_,_,hne=>⟨hne,fun q hq=>(nomatch hq),fun q hq=>(nomatch hq),ac⟩
 |(x,y)::r,u,v,⟨o1,o2,o3,o4⟩,hu,hv,hne=>by
  refine⟨o1,fun q hq=>?_,fun q hq=>?_,uu o4 (fun q hq=>hu q (Pu _ hq)) (fun q hq=>hv q (Pu _ hq)) hne⟩
  .rcases PG.1 hq with hq|hq
   .exact o2 q hq
   .simp only[Pw]at hq;subst hq;exact fun e=>hu _ Pv e.symm
  .rcases PG.1 hq with hq|hq
   .exact o3 q hq
   .simp only[Pw]at hq;subst hq;exact fun e=>hv _ Pv e.symm
theorem KX{t:TS}(ok:gv t.up)(a b:b6):gv (tU t (bG t.up a) (bG t.up b)).up:=by
 unfold tU;split
 .exact ok
 .rename_i j;have h1:=nM _ t.up a ok (Ps _);have u:=nM _ t.up b ok (Ps _);show gv (cA _ _ _ _);rw[xF _ _ _ h1];exact uu ok (yk h1) (yk u) j
theorem vC(r:ax)(lit w:Int){t:TS}(ok:gv t.up)(x y:Expr):gv (fu r lit w t x y).up:=by
 unfold fu;split
 .exact KX ok _ _
 .exact ok
theorem yG(r:ax)(lit w:Int){t:TS}(ok:gv t.up)(a b:Expr):gv (gK r lit w t a b).up:=by
 unfold gK;split
 .exact vC r lit w (t:=(t.add (gG r lit w a)).add (gG r lit w b)) ok _ _
 .exact vC r lit w (t:=(t.add (gG r lit w a)).add (gG r lit w b)) ok _ _
theorem Es(p:Prog)(r:ax)(lit w:Int){t:TS}(ok:gv t.up)(l:Lit):gv (mV p r lit w t l).up:=by
 unfold mV
 repeat' split
 .exact ok
 .exact yG r lit w ok _ _
 .exact ok
 .exact ok
theorem KW(t:TS)(u v:b6):(tU t u v).ws=t.ws:=by unfold tU;split<;>rfl
theorem tD(r:ax)(lit w:Int)(t:TS)(x y:Expr):(fu r lit w t x y).ws.length<=t.ws.length+1:=by
 unfold fu
 repeat' split
 .rw[KW];omega
 all_goals(show(t.ws++_).length<=_;rw[Pn,Qn];omega)
theorem vB(r:ax)(lit w:Int)(t:TS)(a b:Expr):(gK r lit w t a b).ws.length<=t.ws.length+a.size+b.size+1:=by
 have h1:=oW r lit w a;have j:=oW r lit w b;have u:((t.add (gG r lit w a)).add (gG r lit w b)).ws.length<=t.ws.length+a.size+b.size:=by
  show((t.ws++_)++_).length<=_;rw[Pn,Pn];omega
 unfold gK;split
 .exact Qa (tD _ _ _ _ _ _) (by omega)
 .exact Qa (tD _ _ _ _ _ _) (by omega)
theorem AY(p:Prog)(r:ax)(lit w:Int)(t:TS)(l:Lit):(mV p r lit w t l).ws.length<=t.ws.length+l.size:=by
 have b:=l.size_eq;have h1:=ly p r l.atom lit w l.atom.ak.length;have j:=vB r lit w t l.left l.right;have u:=gi r lit w l.left;have x:=gi r lit w l.right;unfold mV
 repeat' split
 .show(t.ws++_).length<=_;rw[Pn];omega
 .omega
 .show((t.ws++_)++_).length<=_;rw[Pn,Pn];omega
 .omega
theorem ae{P:Program}{nt:Nat}{Q:AQ}{k:List KI}{s t:AS}{c:Code}(L:List Nat)(h0:Wk s.nx L s t)(h:GO P nt (.code c::k) Q t):GO P nt (.code c::k) Q s:=by
 intro M N a w x;exact AW.then h (h0.fits x) fun e B C j u s' A b y=>⟨j,u,s',(h0.ext (.refl _ _ _ _ _)).trans A,b,y⟩
theorem HM:dT .ff (mY []):=⟨id,fun M N U w j b=>⟨#[],0,b,⟨rfl,by simp,by simp,by simp,by simp⟩,.agg _ _ Z fun j p b=>by
 match j,b with
 |0,b=>cases b;exact .v _
 |1,b=>cases b;exact .v _
 |j+2,b=>simp[b6.c]at b⟩⟩
theorem HN:dT .ff (nk []):=⟨id,fun M N U w j b=>⟨#[],0,b,⟨rfl,by simp,by simp,by simp,by simp⟩,eW M⟩⟩
def mR(s:an):Expr:= .mk 1 s ⟨0,0,Pq⟩ 0 []
abbrev FW(s:an):PV:= .agg [pI 1,pS s,pI 0,pI 0,pS Pq,pI 0,.iv (.v (.slice is 0 0))]
theorem vH(s:an):ah (FW s) (ag (mR s).c):= .agg ⟨.refl _,.refl _,.refl _,.refl _,.refl _,.refl _,.nil _ _,ac⟩
theorem j5(s:an):(mR s).size=1:=rfl
def tT(r:ax)(i:Int)(t:TS)(f:Int)(v:an)(o:Expr):TS:=
 if f=2 then(t.add (fo r i i o)).add (fo r i i (mR v)) else if f=1 then t.add (fo r i i (mR v)) else gK r i i t (mR v) o
def n4(p:Prog)(r:ax)(i:Int)(t:TS)(b:List Lit):Nat->TS
 |0=>t
 |k+1=>mV p r i i (n4 p r i t b k) (b.getD k co)
def stepT(p:Prog)(r:ax)(i:Int)(t:TS)(l:Lit):TS:=
 if l.kind=4 then n4 p r i (tT r i t l.dS l.bB l.jx) l.ar l.ar.length else mV p r i (-1) t l
def TS.o:TS:=⟨[],[],[]⟩
def dU(p:Prog)(r:ax):Nat->TS
 |0=>TS.o.add (ft p r r.head (-1) (-1) r.head.ak.length)
 |k+1=>stepT p r k (dU p r k) (r.body.getD k co)
def cy(b:UM)(m:KM)(w:Want):KM:=if w.has=0∧dt (.si .i64) m (bG b w.at_) 0=0 then cA (.si .i64) m (bG b w.at_) w.kind else m
def lO(p:Prog)(r:ax):TS:=⟨(dU p r r.body.length).up,(dU p r r.body.length).ws,(dU p r r.body.length).ws.foldl (cy (dU p r r.body.length).up) []⟩
theorem C6(r:ax)(i:Int){t:TS}(ok:gv t.up)(f:Int)(v:an)(o:Expr):gv (tT r i t f v o).up:=by
 unfold tT
 repeat' split
 .exact ok
 .exact ok
 .exact yG r i i ok _ _
theorem yi(p:Prog)(r:ax)(i:Int){t:TS}(ok:gv t.up)(b:List Lit): ∀k,gv (n4 p r i t b k).up
 |0=>ok
 |k+1=>Es p r i i (yi p r i ok b k) _
theorem G3(p:Prog)(r:ax)(i:Int){t:TS}(ok:gv t.up)(l:Lit):gv (stepT p r i t l).up:=by
 unfold stepT;split
 .exact yi p r i (C6 r i ok _ _ _) _ _
 .exact Es p r i (-1) ok l
theorem wM(p:Prog)(r:ax): ∀k,gv (dU p r k).up
 |0=>trivial
 |k+1=>G3 p r k (wM p r k) _
theorem tC(r:ax)(lit w:Int)(t:TS)(a b:Expr):(gK r lit w t a b).kind=t.kind:=by
 have h1: ∀(t:TS) u v,(tU t u v).kind=t.kind:=fun t u v=>by unfold tU;split<;>rfl
 have j: ∀(t:TS) x y,(fu r lit w t x y).kind=t.kind:=fun t x y=>by
  unfold fu;split
  .exact h1 _ _ _
  .rfl
 unfold gK;split<;>exact j _ _ _
theorem x9(p:Prog)(r:ax)(lit w:Int)(t:TS)(l:Lit):(mV p r lit w t l).kind=t.kind:=by
 unfold mV
 repeat' split
 .rfl
 .exact tC r lit w t _ _
 .rfl
 .rfl
theorem A9(p:Prog)(r:ax)(i:Int)(t:TS)(b:List Lit): ∀k,(n4 p r i t b k).kind=t.kind
 |0=>rfl
 |k+1=>by rw[n4,x9,A9 p r i t b k]
theorem BP(p:Prog)(r:ax)(i:Int)(t:TS)(l:Lit):(stepT p r i t l).kind=t.kind:=by
 unfold stepT;split
 .rw[A9];unfold tT
  repeat' split
  .rfl
  .rfl
  .exact tC r i i t _ _
 .exact x9 p r i (-1) t l
theorem vv(p:Prog)(r:ax): ∀k,(dU p r k).kind=[]
 |0=>rfl
 |k+1=>by rw[dU,BP,vv p r k]
theorem Ai(r:ax)(i:Int)(t:TS)(f:Int)(v:an)(o:Expr):(tT r i t f v o).ws.length<=t.ws.length+o.size+2:=by
 have h1:=gi r i i o;have b:=gi r i i (mR v);have j:=vB r i i t (mR v) o;rw[j5]at b j;unfold tT
 repeat' split
 .show((t.ws++_)++_).length<=_;rw[Pn,Pn];omega
 .show(t.ws++_).length<=_;rw[Pn];omega
 .omega
theorem gU: ∀(l:List Lit) (i:Nat),i<l.length->Lit.aB (l.take i)+(l.getD i co).size<=Lit.aB l
 | [],i,h=>by simp at h
 |s::r,0,_=>by simp[Lit.aB]
 |s::r,i+1,h=>by
  have:=gU r i (by simpa using h);simp only[QQ,QI,Lit.aB];omega
theorem Lit.sa(l:List Lit)(i:Nat)(h:i<l.length):Lit.aB (l.take (i+1))=Lit.aB (l.take i)+(l.getD i co).size:=by
 rw[cm h];have: ∀(a:List Lit) (b:Lit),Lit.aB (a++ [b])=Lit.aB a+b.size:=by
  intro a b
  induction a with
  |nil=>simp[Lit.aB]
  |cons x r ih=>simp only[QN,Lit.aB,ih];omega
 exact this _ _
theorem sV(p:Prog)(r:ax)(i:Int)(t:TS)(b:List Lit): ∀k,k<=b.length->(n4 p r i t b k).ws.length<=t.ws.length+Lit.aB (b.take k)
 |0,_=>by simp[n4,Lit.aB]
 |k+1,h=>by
  have h1:=sV p r i t b k (by omega);have j:=AY p r i i (n4 p r i t b k) (b.getD k co);rw[n4,Lit.sa b k (by omega)];omega
theorem Dq(p:Prog)(r:ax)(i:Int)(t:TS)(l:Lit):(stepT p r i t l).ws.length<=t.ws.length+l.size:=by
 have b:=l.size_eq;unfold stepT;split
 .have h1:=sV p r i (tT r i t l.dS l.bB l.jx) l.ar l.ar.length (Ps _);have j:=Ai r i t l.dS l.bB l.jx;rw[Rk]at h1;omega
 .exact AY p r i (-1) t l
theorem tq(p:Prog)(r:ax): ∀k,k<=r.body.length->(dU p r k).ws.length<=r.head.ak.length+Lit.aB (r.body.take k)
 |0,_=>by
  have:=ly p r r.head (-1) (-1) r.head.ak.length;show([]++_).length<=_;simp only[Rc];omega
 |k+1,h=>by
  have h1:=tq p r k (by omega);have b:=Dq p r k (dU p r k) (r.body.getD k co);rw[dU,Lit.sa r.body k (by omega)];omega
theorem OO(r:ax)(b:UM)(j:KM)(W:IV)(v0:b6)(ok:gv b):bD prog 167 [.ptr 0 0,ag v0.c] [.cells [.iv (ck r),.mp 1,.iv W,.mp 2],mY b,nk j] (ag (bG b v0).c) [(0,io (.cells [.iv (ck r),.mp 1,.iv W,.mp 2])),(1,io (mY b)),(2,io (nk j))] 3:=by
 refine au ab func167 Z (by decide) ntmps167 Z (by simp) ?_;refine gA Z ?_
 refine gn (σ:={v:b6//bG b v=bG b v0}) (fun v=>⟨[(0,.ptr 0 0),(3,.ptr 3 0),(4,.ptr 4 0)],
  [(0,io (.cells [.iv (ck r),.mp 1,.iv W,.mp 2])),(1,io (mY b)),(2,io (nk j)),(3,io (.cells [pS v.1.1,pI v.1.2])),(4,io (.cells [pS ⟨#[]⟩,pI 0]))],5⟩) (fun v=>BH b v.1) ⟨v0,rfl⟩ []
  (zW (zO (zC (zC ⟨⟨_,rfl,.of_eq Z⟩,Pf Z,rfl,⟨_,rfl,.of_eq Z⟩,Pf Z,rfl,ac⟩)))) fun v=>?_
 obtain⟨v,u⟩:=v;refine zJ Z Z (fun g=>?_) fun g=>?_
 .have h:cU (.si .i64) b v=kw:=by simpa using g
  have e:bG b v0=v:=by rw[<-u];exact oJ b v h
  refine gA Z (zD [] Z (zM ⟨.of_eq (congrArg (fun x:b6=>ag x.c) e.symm),rfl,ac⟩ (zO (zC (zC ac)))))
 .have h:cU (.si .i64) b v=jp:=by simpa using g
  obtain⟨h1,y⟩:=lU b v ok h;refine gA Z ⟨⟨dt (.si .i64) b v b6.z,h1.trans u⟩,[],y,zW (zO (zC (zC ⟨⟨_,rfl,.of_eq Z⟩,Pf Z,rfl,⟨_,rfl,.of_eq Z⟩,Pf Z,rfl,ac⟩)))⟩
set_option maxHeartbeats 2000000 in
theorem c49(p:Prog)(r:ax)(hb:r.size<=100000000):Pure prog 130 [.iv (cD p),.iv (ck r)] (.iv (KS r (lO p r))):=by
 unfold ax.size at hb;have Y:=Lit.aG r.body;have g0:r.body.length<=Lit.aB r.body:=Y;refine ai ab func130 Z (by decide) ntmps130 Z (by simp) Z ?_;refine gM 14 Z (oZ 2 2 5 Z Z ?_);refine ae [] (t:=⟨[(0,.iv (cD p)),(1,.iv (ck r)),(5,.ptr 2 0)],[(2,io (TS.cell r 0 3 TS.o.ws.length 1)),(0,io (mY TS.o.up)),(3,io (aF 5 TS.o.ws Want.c)),(1,io (nk TS.o.kind))],4⟩)
  (zW ⟨⟨_,rfl,.of_eq Z⟩,Pf Z,rfl,⟨_,rfl,HM⟩,Pf Z,ac,⟨_,rfl,.of_eq Z⟩,Pf Z,dK _,⟨_,rfl,HN⟩,Pf Z,ac,ac⟩) ?_
 refine gA Z (yl (d90 p r TS.o r.head (-1) (-1) (by show 0+_<=_;omega)) Z Z Z Z Z Z Z (by first|rfl|(rw[Pn];rfl)|simp) (by first|rfl|(rw[PF];rfl)|(simp only[PF,PH];rfl)) Z Z Z Z Z Z ?_);refine gA Z ?_
 refine aJ 0 r.body.length (PA _) (fun i=>⟨[(0,.iv (cD p)),(1,.iv (ck r)),(5,.ptr 2 0),(31,.iv (lits r.body)),(32,pI r.body.length),(33,pI i)],
  [(2,io (TS.cell r 0 5 (dU p r i).ws.length 1)),(0,io (mY (dU p r i).up)),(5,io (aF 5 (dU p r i).ws Want.c)),(1,io (nk (dU p r i).kind))],6⟩) (fun _=>True) _ ac
  (IS (t:=dU p r 0) Z Z Z Z Z Z Z Z Z Z Z (bi (bi (bi (bi (bi (bi trivial))))))) fun i hi _=>?_
 have d0:=tq p r i hi;have hok:=wM p r i;refine zJ Z Z (fun h1=>?_) fun h1=>?_
 .have h1:i<r.body.length:=by simpa using h1
  have j0:=gU r.body i h1;have hs:dU p r (i+1)=stepT p r i (dU p r i) (r.body.getD i co):=rfl;generalize dU p r i=t1 at*
  have k0:=(r.body.getD i co).size_eq;refine zJ Z Z (fun B=>?_) fun B=>?_
  .have B: ¬(r.body.getD i co).kind=4:=by have g:(!lc ((r.body.getD i co).kind=4))=jp:=B;simpa only[Qp,decide_eq_false_iff_not]using g
   have hS:stepT p r i t1 (r.body.getD i co)=mV p r i (-1) t1 (r.body.getD i co):=be B;rw[hS]at hs;refine gA Z (Bd (d91 p r t1 (r.body.getD i co) i (-1) hok (by omega)) ?_);refine gA Z ⟨h1,ac,_,nB (hs.symm)⟩
  have B:(r.body.getD i co).kind=4:=by have g:(!lc ((r.body.getD i co).kind=4))=kw:=B;simpa only[Q8,decide_eq_true_eq]using g
  have hS:stepT p r i t1 (r.body.getD i co)=n4 p r i (tT r i t1 (r.body.getD i co).dS (r.body.getD i co).bB (r.body.getD i co).jx) (r.body.getD i co).ar (r.body.getD i co).ar.length:=am B;rw[hS]at hs;have J:tT r i t1 (r.body.getD i co).dS (r.body.getD i co).bB (r.body.getD i co).jx=if(r.body.getD i co).dS=2 then(t1.add (fo r i i (r.body.getD i co).jx)).add (fo r i i (mR (r.body.getD i co).bB)) else if(r.body.getD i co).dS=1 then t1.add (fo r i i (mR (r.body.getD i co).bB)) else gK r i i t1 (mR (r.body.getD i co).bB) (r.body.getD i co).jx:=rfl;have A:=C6 r i hok (r.body.getD i co).dS (r.body.getD i co).bB (r.body.getD i co).jx;have f0:=Ai r i t1 (r.body.getD i co).dS (r.body.getD i co).bB (r.body.getD i co).jx;have a0:=Lit.aG (r.body.getD i co).ar;have m0:=j5 (r.body.getD i co).bB;have i0:=gi r i i (r.body.getD i co).jx;generalize tT r i t1 (r.body.getD i co).dS (r.body.getD i co).bB (r.body.getD i co).jx=V at*
  refine zJ Z Z (fun f2=>?_) fun f2=>?_
  .have f2:(r.body.getD i co).dS=2:=zT f2;have I:V=(t1.add (fo r i i (r.body.getD i co).jx)).add (fo r i i (mR (r.body.getD i co).bB)):=by rw[J,am f2]
   refine gA Z (Bd (Fg r t1 (r.body.getD i co).jx i i (by omega)) ?_);refine gA Z (yl (bD.le (aa:=[.ptr 0 0,FW (r.body.getD i co).bB,pI i,pI i]) (Fg r (t1.add (fo r i i (r.body.getD i co).jx)) (mR (r.body.getD i co).bB) i i (by show(t1.ws++_).length+_<=_;rw[Pn,j5];omega)) ⟨.refl _,vH _,.refl _,.refl _,ac⟩) Z Z Z Z Z Z Z (by first|rfl|(rw[Pn];rfl)|simp) (by first|rfl|(rw[PF];rfl)|(simp only[PF,PH];rfl)) Z Z Z Z Z Z ?_);refine gA Z ?_;refine aJ 0 (r.body.getD i co).ar.length (PA _) (fun k=>⟨[(0,.iv (cD p)),(1,.iv (ck r)),(5,.ptr 2 0),(6,pI i),(31,.iv (lits r.body)),(32,pI r.body.length),(33,pI i),(79,.iv (lits (r.body.getD i co).ar)),(80,pI (r.body.getD i co).ar.length),(81,pI k)],[(2,io (TS.cell r 0 10 (n4 p r i V (r.body.getD i co).ar k).ws.length 1)),(0,io (mY (n4 p r i V (r.body.getD i co).ar k).up)),(10,io (aF 5 (n4 p r i V (r.body.getD i co).ar k).ws Want.c)),(1,io (nk (n4 p r i V (r.body.getD i co).ar k).kind))],11⟩) (fun _=>True) _ ac
    (IS I.symm Z Z Z Z Z Z Z Z Z Z (bi (bi (bi (bi (bi (bi (bi ⟨.iv (l9 _),rfl,bi (bi trivial)⟩)))))))) fun k hk _=>?_
   have C:=sV p r i V (r.body.getD i co).ar k hk;have u:=yi p r i A (r.body.getD i co).ar k;have D:n4 p r i V (r.body.getD i co).ar (k+1)=mV p r i i (n4 p r i V (r.body.getD i co).ar k) ((r.body.getD i co).ar.getD k co):=rfl;refine zJ Z Z (fun j=>?_) fun j=>?_
   .have j:k<(r.body.getD i co).ar.length:=zN j;have G:=gU (r.body.getD i co).ar k j;refine gA Z (Bd (d91 p r (n4 p r i V (r.body.getD i co).ar k) ((r.body.getD i co).ar.getD k co) i i u (by omega)) ?_);refine gA Z ⟨j,ac,_,nB (rfl)⟩
   .have j:(r.body.getD i co).ar.length<=k:=zG j;have x:k=(r.body.getD i co).ar.length:=by omega
    subst x;refine gA Z ⟨h1,ac,_,nB (hs.symm)⟩
  have f2: ¬(r.body.getD i co).dS=2:=zF f2;rw[be f2]at J;refine zJ Z Z (fun f1=>?_) fun f1=>?_
  .have f1:(r.body.getD i co).dS=1:=zT f1;have I:V=t1.add (fo r i i (mR (r.body.getD i co).bB)):=by rw[J,am f1]
   refine gA Z (Bd (bD.le (aa:=[.ptr 0 0,FW (r.body.getD i co).bB,pI i,pI i]) (Fg r t1 (mR (r.body.getD i co).bB) i i (by rw[j5];omega)) ⟨.refl _,vH _,.refl _,.refl _,ac⟩) ?_);refine gA Z ?_;refine aJ 0 (r.body.getD i co).ar.length (PA _) (fun k=>⟨[(0,.iv (cD p)),(1,.iv (ck r)),(5,.ptr 2 0),(6,pI i),(31,.iv (lits r.body)),(32,pI r.body.length),(33,pI i),(79,.iv (lits (r.body.getD i co).ar)),(80,pI (r.body.getD i co).ar.length),(81,pI k)],[(2,io (TS.cell r 0 9 (n4 p r i V (r.body.getD i co).ar k).ws.length 1)),(0,io (mY (n4 p r i V (r.body.getD i co).ar k).up)),(9,io (aF 5 (n4 p r i V (r.body.getD i co).ar k).ws Want.c)),(1,io (nk (n4 p r i V (r.body.getD i co).ar k).kind))],10⟩) (fun _=>True) _ ac
    (IS I.symm Z Z Z Z Z Z Z Z Z Z (bi (bi (bi (bi (bi (bi (bi ⟨.iv (l9 _),rfl,bi (bi trivial)⟩)))))))) fun k hk _=>?_
   have C:=sV p r i V (r.body.getD i co).ar k hk;have u:=yi p r i A (r.body.getD i co).ar k;have D:n4 p r i V (r.body.getD i co).ar (k+1)=mV p r i i (n4 p r i V (r.body.getD i co).ar k) ((r.body.getD i co).ar.getD k co):=rfl;refine zJ Z Z (fun j=>?_) fun j=>?_
   .have j:k<(r.body.getD i co).ar.length:=zN j;have G:=gU (r.body.getD i co).ar k j;refine gA Z (Bd (d91 p r (n4 p r i V (r.body.getD i co).ar k) ((r.body.getD i co).ar.getD k co) i i u (by omega)) ?_);refine gA Z ⟨j,ac,_,nB (rfl)⟩
   .have j:(r.body.getD i co).ar.length<=k:=zG j;have x:k=(r.body.getD i co).ar.length:=by omega
    subst x;refine gA Z ⟨h1,ac,_,nB (hs.symm)⟩
  .have f1: ¬(r.body.getD i co).dS=1:=zF f1;have I:V=gK r i i t1 (mR (r.body.getD i co).bB) (r.body.getD i co).jx:=by rw[J,be f1]
   refine gA Z (Bd (bD.le (aa:=[.ptr 0 0,FW (r.body.getD i co).bB,ag (r.body.getD i co).jx.c,pI i,pI i]) (d93 r t1 (mR (r.body.getD i co).bB) (r.body.getD i co).jx i i hok (by rw[j5];omega)) ⟨.refl _,vH _,.refl _,.refl _,.refl _,ac⟩) ?_);refine gA Z ?_;refine aJ 0 (r.body.getD i co).ar.length (PA _) (fun k=>⟨[(0,.iv (cD p)),(1,.iv (ck r)),(5,.ptr 2 0),(6,pI i),(31,.iv (lits r.body)),(32,pI r.body.length),(33,pI i),(79,.iv (lits (r.body.getD i co).ar)),(80,pI (r.body.getD i co).ar.length),(81,pI k)],[(2,io (TS.cell r 0 9 (n4 p r i V (r.body.getD i co).ar k).ws.length 1)),(0,io (mY (n4 p r i V (r.body.getD i co).ar k).up)),(9,io (aF 5 (n4 p r i V (r.body.getD i co).ar k).ws Want.c)),(1,io (nk (n4 p r i V (r.body.getD i co).ar k).kind))],10⟩) (fun _=>True) _ ac
    (IS I.symm Z Z Z Z Z Z Z Z Z Z (bi (bi (bi (bi (bi (bi (bi ⟨.iv (l9 _),rfl,bi (bi trivial)⟩)))))))) fun k hk _=>?_
   have C:=sV p r i V (r.body.getD i co).ar k hk;have u:=yi p r i A (r.body.getD i co).ar k;have D:n4 p r i V (r.body.getD i co).ar (k+1)=mV p r i i (n4 p r i V (r.body.getD i co).ar k) ((r.body.getD i co).ar.getD k co):=rfl;refine zJ Z Z (fun j=>?_) fun j=>?_
   .have j:k<(r.body.getD i co).ar.length:=zN j;have G:=gU (r.body.getD i co).ar k j;refine gA Z (Bd (d91 p r (n4 p r i V (r.body.getD i co).ar k) ((r.body.getD i co).ar.getD k co) i i u (by omega)) ?_);refine gA Z ⟨j,ac,_,nB (rfl)⟩
   .have j:(r.body.getD i co).ar.length<=k:=zG j;have x:k=(r.body.getD i co).ar.length:=by omega
    subst x;refine gA Z ⟨h1,ac,_,nB (hs.symm)⟩
 .have h1:r.body.length<=i:=by simpa using h1
  have b0:i=r.body.length:=by omega
  subst b0;have hT:lO p r=⟨(dU p r r.body.length).up,(dU p r r.body.length).ws,(dU p r r.body.length).ws.foldl (cy (dU p r r.body.length).up) []⟩:=rfl;rw[hT];rw[Rk]at d0;have c0:(dU p r r.body.length).kind=[]:=vv p r _;generalize dU p r r.body.length=t1 at*
  have R:t1.kind=(t1.ws.take 0).foldl (cy t1.up) []:=c0;refine gA Z ?_;refine rD 5 (fun k=>Want.c (t1.ws.getD k co)) Z (fD Z) (by simp[AF.qy,PV.c6,mB]) ⟨(by simp[AO.qy,dP,PV.c6]),ac,xw _ _ _ _ _ _,ac,ac⟩ ?_
  refine aJ 0 t1.ws.length (PA _) (fun i=>⟨[(5,.ptr 2 0),(96,.iv (bN 5 t1.ws Want.c)),(97,pI t1.ws.length),(98,pI i)],
   [(2,io (.cells [.iv (ck r),.mp 0,.iv (bN 5 t1.ws Want.c),.mp 1])),(0,io (mY t1.up)),(1,io (nk ((t1.ws.take i).foldl (cy t1.up) [])))],6⟩) (fun _=>True) [] ac
   (zM (bi ⟨.ct Z (fun k _=>by rw[PO]),rfl,bi (bi trivial)⟩) ⟨⟨_,rfl,.cells ⟨.refl _,.refl _,.ct Z (fun k _=>by rw[PO]),.refl _,ac⟩⟩,Pf Z,rfl,zC (hM Z R Z trivial)⟩) fun i hi _=>?_
  refine zJ Z Z (fun j=>?_) fun j=>?_
  .have j:i<t1.ws.length:=zN j;have y:=fU (g:=cy t1.up) (b:=[]) j;refine gA Z (zq [2,0,1] (OO r t1.up ((t1.ws.take i).foldl (cy t1.up) []) (bN 5 t1.ws Want.c) (t1.ws.getD i co).at_ hok) ?_);refine zJ Z Z (fun g1=>?_) fun g1=>?_
   .have g1:(t1.ws.getD i co).has=0:=zT g1;refine zJ Z Z (fun g2=>?_) fun g2=>?_
    .have g2:dt (.si .i64) ((t1.ws.take i).foldl (cy t1.up) []) (bG t1.up (t1.ws.getD i co).at_) 0=0:=zT g2;have hk:cy t1.up ((t1.ws.take i).foldl (cy t1.up) []) (t1.ws.getD i co)=cA (.si .i64) ((t1.ws.take i).foldl (cy t1.up) []) (bG t1.up (t1.ws.getD i co).at_) (t1.ws.getD i co).kind:=am ⟨g1,g2⟩;rw[hk]at y;refine gA Z ⟨j,ac,[],zW (zO (zC (hM Z (by first|exact y.symm|(rw[y];rfl)) Z ac)))⟩
    .have g2: ¬dt (.si .i64) ((t1.ws.take i).foldl (cy t1.up) []) (bG t1.up (t1.ws.getD i co).at_) 0=0:=zF g2;have hk:cy t1.up ((t1.ws.take i).foldl (cy t1.up) []) (t1.ws.getD i co)=(t1.ws.take i).foldl (cy t1.up) []:=be fun h=>g2 h.2;rw[hk]at y;refine gA Z ⟨j,ac,[],zW (zO (zC (hM Z (by first|exact y.symm|(rw[y];rfl)) Z ac)))⟩
   .have g1: ¬(t1.ws.getD i co).has=0:=zF g1;have hk:cy t1.up ((t1.ws.take i).foldl (cy t1.up) []) (t1.ws.getD i co)=(t1.ws.take i).foldl (cy t1.up) []:=be fun h=>g1 h.1;rw[hk]at y;refine gA Z ⟨j,ac,[],zW (zO (zC (hM Z (by first|exact y.symm|(rw[y];rfl)) Z ac)))⟩
  .have j:t1.ws.length<=i:=zG j;have e0:t1.ws.take i=t1.ws:=Pz j;refine fj Z ac (ln (.inr Z) Z (.map 0 Z (.map 1 Z (.cells 2 _ Z (show _=List.map PV.iv [ck r,upI t1.up,bN 5 t1.ws Want.c,kdI (t1.ws.foldl (cy t1.up) [])] by rw[e0];rfl) (.done (.of_eq Z))))))
def rN(a:Atom):Bool:=(jm WS.o a).bad
def pQ(l:Lit):Bool:=(dz l.size l WS.o).bad
def rT(l:Lit):Bool:=lc (l.kind=4)&&lc ((l.ar.length:Int)>12)
def gB(n:Nat):List Int:=(PT (n+1)).map fun k:Nat=>(k:Int)-1
theorem pP(n:Nat):(gB n).length=n+1:=by simp[gB]
theorem uZ(n k:Nat)(h:k<n+1):(gB n).getD k co=(k:Int)-1:=by simp[gB,h]
def zH(f:Int->Bool)(n:Nat):Option Int:=(gB n).find? f
abbrev fh:=Int×Pos
def fh.c(d:fh):List IV:=[iI d.1,iI d.2.line,iI d.2.FP]
def l4(r:ax)(e:Int)(f:Int->Bool)(k:fh):fh:=match zH f r.body.length with
 |some lit=>(e,pK r lit)
 |none=>k
def wo(p:Prog)(r:ax):fh:=
 l4 r 61 (fun lit=>(eA r lit).any fun x=>tG p x)<|l4 r 62 (fun lit=>(eA r lit).any fun x=>wP p x)<|l4 r 65 (kM r)<|l4 r 63 (pn (lO p r))<|l4 r 64 (jT r) (0,⟨0,0⟩)
def uD(p:Prog)(r:ax)(n:Int):fh:=
 if rN r.head=jp then(1,r.at_) else match r.body.find? pQ with
 |some l=>(1,l.at)
 |none=>if n>256∨(r.body.length:Int)>12 then(66,r.at_) else if(Dv r:Int)>24 then(66,r.at_) else match r.body.find? rT with
  |some l=>(66,l.at)
  |none=>wo p r
def ax.fit(r:ax):Prop:=r.size<=10000000∧r.head.ts<=900000000∧ ∀l∈r.body,l.ts<=900000000
theorem kD{α:Type}{p:α->Bool}{l:List α}(h:l.any p=kw):l.find? p=is:=by
 rw[Rv];intro x b;have:=Qk.1 h x b;simpa using this
theorem mj{α:Type}[Inhabited α]{p:α->Bool}{l:List α}{i:Nat}(h:(l.take i).any p=kw)(hi:i<l.length)(hp:p (l.getD i co)=jp):l.find? p=io (l.getD i co):=by
 have b:l.getD i co=l[i]:=by simp[hi]
 rw[b]at hp ⊢;rw[List.find?_eq_some_iff_getElem];refine⟨hp,i,hi,rfl,fun j u=>?_⟩;have:=Qk.1 h l[j] (Sz.2 ⟨j,by rw[P8,am u,Pl (by omega)]⟩);simpa using this
def hZ(p:Prog)(r:ax):List (List PV):=[[pI 61,.b5 (.func 122) [] [.ptr 1 0,.ptr 0 0]],[pI 62,.b5 (.func 126) [] [.ptr 1 0,.ptr 0 0]],[pI 65,.b5 (.func 128) [] [.ptr 1 0]],[pI 63,.b5 (.func 131) [.iv (KS r (lO p r))] []],[pI 64,.b5 (.func 132) [.iv (ck r)] []]]
theorem b8(p:Prog)(r:ax)(n:Nat)(h:PI 1 n=jp):(AO.row 2 (hZ p r)).low n:=by
 have b:PI 0 n=jp:=Qh (by have:=Pf h;omega);intro k e hk
 match k,hk with
 |0,hk=>cases hk;simp[bm,PV.low,h,b]
 |1,hk=>cases hk;simp[bm,PV.low,h,b]
 |2,hk=>cases hk;simp[bm,PV.low,h,b]
 |3,hk=>cases hk;simp[bm,PV.low,h,b]
 |4,hk=>cases hk;simp[bm,PV.low,h,b]
 |k+5,hk=>simp[hZ]at hk
theorem l0{r:ax}{e:Int}{f:Int->Bool}{k:fh}{i:Nat}(b:((gB r.body.length).take i).any f=kw)(hi:i<r.body.length+1)(h:f ((i:Int)-1)=jp):l4 r e f k=(e,pK r ((i:Int)-1)):=by
 have h1:=uZ r.body.length i hi;have:=mj b (by rw[pP];exact hi) (by rw[h1];exact h);rw[h1]at this;rw[l4,zH,this]
theorem kr{r:ax}{e:Int}{f:Int->Bool}{k:fh}{i:Nat}(b:((gB r.body.length).take i).any f=kw)(hi:r.body.length+1<=i):l4 r e f k=k:=by
 rw[Pz (by rw[pP];exact hi)]at b;rw[l4,zH,kD b]
theorem kq{r:ax}{f:Int->Bool}{i:Nat}(b:((gB r.body.length).take i).any f=kw)(hi:i<r.body.length+1)(h:f ((i:Int)-1)=kw):((gB r.body.length).take (i+1)).any f=kw:=by
 refine(cK b (by rw[pP];exact hi)).2 ?_;rw[uZ _ _ hi];exact h
set_option maxHeartbeats 4000000 in
theorem c65(p:Prog)(r:ax)(n:Int)(hb:r.fit):Pure prog 83 [.iv (cD p),ag r.c,pI n] (ag (uD p r n).c):=by
 obtain⟨hb,G,I⟩:=hb;have b0:r.size=r.head.ak.length+Lit.aB r.body:=rfl;have R:=Lit.aG r.body;refine ai ab func83 Z (by decide) ntmps83 Z (by simp) Z ?_;refine gA Z (zp (c61 r.head G) ?_);refine zJ Z Z (fun g1=>?_) fun g1=>?_
 .have g1:rN r.head=jp:=by
   cases h:rN r.head with
   |true=>rfl
   |false=>
    have h:(jm WS.o r.head).bad=kw:=h;rw[h]at g1;simp at g1
  rw[uD,am g1];exact zU Z
 have g1: ¬rN r.head=jp:=by
  intro h;have h:(jm WS.o r.head).bad=jp:=h;rw[h]at g1;simp at g1
 rw[uD,be g1];refine gA Z ?_;refine aJ 0 r.body.length (PA _) (fun i=>⟨[(2,pI n),(3,.ptr 0 0),(4,.ptr 1 0),(6,.ptr 2 0),(32,.iv (lits r.body)),(33,pI r.body.length),(34,pI i)],[(0,io (.cells [.iv (cD p)])),(1,io (aw r.c)),(2,io (.cells [pI 0,pI 0,pI 0]))],3⟩) (fun i=>(r.body.take i).any pQ=kw) [] (by simp)
  (zW ⟨⟨_,rfl,.of_eq Z⟩,Pf Z,rfl,⟨_,rfl,.of_eq Z⟩,Pf Z,rfl,⟨_,rfl,.of_eq Z⟩,Pf Z,rfl,ac⟩) fun i Y u=>?_
 refine zJ Z Z (fun h1=>?_) fun h1=>?_
 .have h1:i<r.body.length:=zN h1;have D:=cK u h1;have hm:r.body.getD i co∈r.body:=by rw[Pk,Pl h1];exact P3 h1
  have a0:=Lit.bT r.body i h1;refine gA Z (aE (O9 (r.body.getD i co) (I _ hm) (by omega)) Z Z Z Z Z Z ?_);refine zJ Z Z (fun A=>?_) fun A=>?_
  .have A:pQ (r.body.getD i co)=jp:=by
    cases h:pQ (r.body.getD i co) with
    |true=>rfl
    |false=>
     have h:(dz (r.body.getD i co).size (r.body.getD i co) WS.o).bad=kw:=h;have g:(!lc ((if(dz (r.body.getD i co).size (r.body.getD i co) WS.o).bad=jp then(50:Int) else 0)=0))=jp:=A;rw[h]at g;simp at g
   rw[mj u h1 A];exact zU Z
  .have A:pQ (r.body.getD i co)=kw:=by
    cases h:pQ (r.body.getD i co) with
    |false=>rfl
    |true=>
     have h:(dz (r.body.getD i co).size (r.body.getD i co) WS.o).bad=jp:=h;have g:(!lc ((if(dz (r.body.getD i co).size (r.body.getD i co) WS.o).bad=jp then(50:Int) else 0)=0))=kw:=A;rw[h]at g;simp at g
   refine gA Z ⟨h1,D.2 A,[],zW ⟨⟨_,rfl,.of_eq Z⟩,Pf Z,rfl,⟨_,rfl,.of_eq Z⟩,Pf Z,rfl,⟨_,rfl,.of_eq Z⟩,Pf Z,rfl,ac⟩⟩
 have h1:r.body.length<=i:=zG h1;rw[Pz h1]at u;rw[kD u];refine zE Z Z (fun g2=>?_) fun g2=>?_
 .have g2:n>256:=by simpa using g2
  rw[am (.inl g2)];exact zU Z
 have g2: ¬n>256:=zF g2;refine zJ Z Z (fun g3=>?_) fun g3=>?_
 .rw[am (.inr (zT g3))];exact zU Z
 have g3: ¬(r.body.length:Int)>12:=zF g3;rw[be (by rintro(h|h);exact g2 h;exact g3 h)];refine gA Z (zp (c48 r (by omega)) ?_);refine gA Z (zp (O8 r (by omega)) ?_);refine zJ Z Z (fun g4=>?_) fun g4=>?_
 .rw[am (zT g4)];exact zU Z
 have g4: ¬(Dv r:Int)>24:=zF g4;rw[be g4];refine gA Z ?_;refine aJ 0 r.body.length (PA _) (fun i=>⟨[(3,.ptr 0 0),(4,.ptr 1 0),(6,.ptr 2 0),(13,.iv (ck r)),(69,.iv (lits r.body)),(70,pI r.body.length),(71,pI i)],[(0,io (.cells [.iv (cD p)])),(1,io (aw r.c)),(2,io (.cells [pI 0,pI 0,pI 0]))],3⟩) (fun i=>(r.body.take i).any rT=kw) [] (by simp)
  (zW ⟨⟨_,rfl,.of_eq Z⟩,Pf Z,rfl,⟨_,rfl,.of_eq Z⟩,Pf Z,rfl,⟨_,rfl,.of_eq Z⟩,Pf Z,rfl,ac⟩) fun i Y u=>?_
 refine zJ Z Z (fun A=>?_) fun A=>?_
 .have A:i<r.body.length:=zN A;have D:=cK u A;refine zJ Z Z (fun B=>?_) fun B=>?_
  .have B:(r.body.getD i co).kind=4:=zT B;refine zJ Z Z (fun C=>?_) fun C=>?_
   .have C:rT (r.body.getD i co)=jp:=by rw[rT,decide_eq_true B];exact C
    rw[mj u A C];exact zU Z
   .have C:rT (r.body.getD i co)=kw:=by rw[rT,decide_eq_true B];exact C
    refine gA Z ⟨A,D.2 C,[],zW ⟨⟨_,rfl,.of_eq Z⟩,Pf Z,rfl,⟨_,rfl,.of_eq Z⟩,Pf Z,rfl,⟨_,rfl,.of_eq Z⟩,Pf Z,rfl,ac⟩⟩
  .have B: ¬(r.body.getD i co).kind=4:=zF (by have g:lc ((r.body.getD i co).kind=4)=kw:=B;exact g);refine gA Z ⟨A,D.2 (by rw[rT,decide_eq_false B];rfl),[],zW ⟨⟨_,rfl,.of_eq Z⟩,Pf Z,rfl,⟨_,rfl,.of_eq Z⟩,Pf Z,rfl,⟨_,rfl,.of_eq Z⟩,Pf Z,rfl,ac⟩⟩
 have A:r.body.length<=i:=zG A;rw[Pz A]at u;rw[kD u];refine gA Z (zp (c49 p r (by omega)) ?_);refine gA Z ?_;refine ae [] (t:=⟨[(3,.ptr 0 0),(4,.ptr 1 0),(6,.ptr 2 0),(104,.sl 3 0 5 2),(105,pI 5),(106,pI 0)],[(0,io (.cells [.iv (cD p)])),(1,io (aw r.c)),(2,io (.cells [pI 0,pI 0,pI 0])),(3,io (.row 2 (hZ p r)))],4⟩)
  (zW (zO (zO (zO ⟨⟨_,rfl,.of_eq Z⟩,Pf Z,b8 p r _ Z,ac⟩)))) ?_
 have J:(lO p r).ws.length<=1000000000000:=by have:=tq p r r.body.length (Ps _);rw[Rk]at this;show(dU p r r.body.length).ws.length<=_;omega
 rw[wo];refine ob (n:=6) ?_;refine zE Z Z (fun q=>?_) fun q=>?_
 .exact absurd (show jp=kw from q) (by decide)
 refine gA Z ?_;refine aJ 0 (r.body.length+1) (PA _) (fun k=>⟨[(3,.ptr 0 0),(4,.ptr 1 0),(6,.ptr 2 0),(18,.ptr 4 0),(19,pI ((k:Int)-1)),(104,.sl 3 0 5 2),(105,pI 5),(106,pI 0)],[(0,io (.cells [.iv (cD p)])),(1,io (aw r.c)),(2,io (.cells [pI 0,pI 0,pI 0])),(3,io (.row 2 (hZ p r))),(4,io (.cells [pI 61,.b5 (.func 122) [] [.ptr 1 0,.ptr 0 0]]))],5⟩) (fun k=>((gB r.body.length).take k).any (fun lit=>(eA r lit).any fun x=>tG p x)=kw) [] Z
  (zW (zO (zO (zO ⟨⟨_,rfl,.of_eq Z⟩,Pf Z,b8 p r _ Z,(zO trivial)⟩)))) fun k hk u=>?_
 refine zJ Z Z (fun j=>?_) fun j=>?_
 .have j:(k:Int)-1<r.body.length:=zT j;have b:k<r.body.length+1:=by omega
  refine gA Z (zq [1,0] (d110 p r ((k:Int)-1) (by omega) (by omega)) ?_);refine zJ Z Z (fun y=>?_) fun y=>?_
  .rw[l0 u b y];refine gA Z (Ad (Fx r ((k:Int)-1) j) ?_);exact zU Z
  .refine gA Z ?_;exact⟨b,kq u b y,[],zM (bi (bi (bi (bi ⟨.of_eq (CW (by omega)),rfl,bi (bi (bi ac))⟩)))) (zO (zO (zO ⟨⟨_,rfl,.of_eq Z⟩,Pf Z,b8 p r _ Z,(zO ac)⟩)))⟩
 have j: ¬(k:Int)-1<r.body.length:=zF j;rw[kr u (by omega)];clear u hk j;refine zE Z Z (fun q=>?_) fun q=>?_
 .exact absurd (show jp=kw from q) (by decide)
 refine gA Z ?_;refine aJ 0 (r.body.length+1) (PA _) (fun k=>⟨[(3,.ptr 0 0),(4,.ptr 1 0),(6,.ptr 2 0),(18,.ptr 5 0),(19,pI ((k:Int)-1)),(104,.sl 3 0 5 2),(105,pI 5),(106,pI 1)],[(0,io (.cells [.iv (cD p)])),(1,io (aw r.c)),(2,io (.cells [pI 0,pI 0,pI 0])),(3,io (.row 2 (hZ p r))),(5,io (.cells [pI 62,.b5 (.func 126) [] [.ptr 1 0,.ptr 0 0]]))],6⟩) (fun k=>((gB r.body.length).take k).any (fun lit=>(eA r lit).any fun x=>wP p x)=kw) [] Z
  (zW (zO (zO (zO ⟨⟨_,rfl,.of_eq Z⟩,Pf Z,b8 p r _ Z,(zO trivial)⟩)))) fun k hk u=>?_
 refine zJ Z Z (fun j=>?_) fun j=>?_
 .have j:(k:Int)-1<r.body.length:=zT j;have b:k<r.body.length+1:=by omega
  refine gA Z (zq [1,0] (d114 p r ((k:Int)-1) (by omega) (by omega)) ?_);refine zJ Z Z (fun y=>?_) fun y=>?_
  .rw[l0 u b y];refine gA Z (Ad (Fx r ((k:Int)-1) j) ?_);exact zU Z
  .refine gA Z ?_;exact⟨b,kq u b y,[],zM (bi (bi (bi (bi ⟨.of_eq (CW (by omega)),rfl,bi (bi (bi ac))⟩)))) (zO (zO (zO ⟨⟨_,rfl,.of_eq Z⟩,Pf Z,b8 p r _ Z,(zO ac)⟩)))⟩
 have j: ¬(k:Int)-1<r.body.length:=zF j;rw[kr u (by omega)];clear u hk j;refine zE Z Z (fun q=>?_) fun q=>?_
 .exact absurd (show jp=kw from q) (by decide)
 refine gA Z ?_;refine aJ 0 (r.body.length+1) (PA _) (fun k=>⟨[(3,.ptr 0 0),(4,.ptr 1 0),(6,.ptr 2 0),(18,.ptr 6 0),(19,pI ((k:Int)-1)),(104,.sl 3 0 5 2),(105,pI 5),(106,pI 2)],[(0,io (.cells [.iv (cD p)])),(1,io (aw r.c)),(2,io (.cells [pI 0,pI 0,pI 0])),(3,io (.row 2 (hZ p r))),(6,io (.cells [pI 65,.b5 (.func 128) [] [.ptr 1 0]]))],7⟩) (fun k=>((gB r.body.length).take k).any (kM r)=kw) [] Z
  (zW (zO (zO (zO ⟨⟨_,rfl,.of_eq Z⟩,Pf Z,b8 p r _ Z,(zO trivial)⟩)))) fun k hk u=>?_
 refine zJ Z Z (fun j=>?_) fun j=>?_
 .have j:(k:Int)-1<r.body.length:=zT j;have b:k<r.body.length+1:=by omega
  refine gA Z (zq [1] (d116 r ((k:Int)-1) (by omega) (by omega)) ?_);refine zJ Z Z (fun y=>?_) fun y=>?_
  .rw[l0 u b y];refine gA Z (Ad (Fx r ((k:Int)-1) j) ?_);exact zU Z
  .refine gA Z ?_;exact⟨b,kq u b y,[],zM (bi (bi (bi (bi ⟨.of_eq (CW (by omega)),rfl,bi (bi (bi ac))⟩)))) (zO (zO (zO ⟨⟨_,rfl,.of_eq Z⟩,Pf Z,b8 p r _ Z,(zO ac)⟩)))⟩
 have j: ¬(k:Int)-1<r.body.length:=zF j;rw[kr u (by omega)];clear u hk j;refine zE Z Z (fun q=>?_) fun q=>?_
 .exact absurd (show jp=kw from q) (by decide)
 refine gA Z ?_;refine aJ 0 (r.body.length+1) (PA _) (fun k=>⟨[(3,.ptr 0 0),(4,.ptr 1 0),(6,.ptr 2 0),(18,.ptr 7 0),(19,pI ((k:Int)-1)),(104,.sl 3 0 5 2),(105,pI 5),(106,pI 3)],[(0,io (.cells [.iv (cD p)])),(1,io (aw r.c)),(2,io (.cells [pI 0,pI 0,pI 0])),(3,io (.row 2 (hZ p r))),(7,io (.cells [pI 63,.b5 (.func 131) [.iv (KS r (lO p r))] []]))],8⟩) (fun k=>((gB r.body.length).take k).any (pn (lO p r))=kw) [] Z
  (zW (zO (zO (zO ⟨⟨_,rfl,.of_eq Z⟩,Pf Z,b8 p r _ Z,(zO trivial)⟩)))) fun k hk u=>?_
 refine zJ Z Z (fun j=>?_) fun j=>?_
 .have j:(k:Int)-1<r.body.length:=zT j;have b:k<r.body.length+1:=by omega
  refine gA Z (aE (O6 r (lO p r) ((k:Int)-1) (wM p r _) J) Z Z Z Z Z Z ?_);refine zJ Z Z (fun y=>?_) fun y=>?_
  .rw[l0 u b y];refine gA Z (Ad (Fx r ((k:Int)-1) j) ?_);exact zU Z
  .refine gA Z ?_;exact⟨b,kq u b y,[],zM (bi (bi (bi (bi ⟨.of_eq (CW (by omega)),rfl,bi (bi (bi ac))⟩)))) (zO (zO (zO ⟨⟨_,rfl,.of_eq Z⟩,Pf Z,b8 p r _ Z,(zO ac)⟩)))⟩
 have j: ¬(k:Int)-1<r.body.length:=zF j;rw[kr u (by omega)];clear u hk j;refine zE Z Z (fun q=>?_) fun q=>?_
 .exact absurd (show jp=kw from q) (by decide)
 refine gA Z ?_;refine aJ 0 (r.body.length+1) (PA _) (fun k=>⟨[(3,.ptr 0 0),(4,.ptr 1 0),(6,.ptr 2 0),(18,.ptr 8 0),(19,pI ((k:Int)-1)),(104,.sl 3 0 5 2),(105,pI 5),(106,pI 4)],[(0,io (.cells [.iv (cD p)])),(1,io (aw r.c)),(2,io (.cells [pI 0,pI 0,pI 0])),(3,io (.row 2 (hZ p r))),(8,io (.cells [pI 64,.b5 (.func 132) [.iv (ck r)] []]))],9⟩) (fun k=>((gB r.body.length).take k).any (jT r)=kw) [] Z
  (zW (zO (zO (zO ⟨⟨_,rfl,.of_eq Z⟩,Pf Z,b8 p r _ Z,(zO trivial)⟩)))) fun k hk u=>?_
 refine zJ Z Z (fun j=>?_) fun j=>?_
 .have j:(k:Int)-1<r.body.length:=zT j;have b:k<r.body.length+1:=by omega
  refine gA Z (zp (O5 r ((k:Int)-1) (by omega) (by omega)) ?_);refine zJ Z Z (fun y=>?_) fun y=>?_
  .rw[l0 u b y];refine gA Z (Ad (Fx r ((k:Int)-1) j) ?_);exact zU Z
  .refine gA Z ?_;exact⟨b,kq u b y,[],zM (bi (bi (bi (bi ⟨.of_eq (CW (by omega)),rfl,bi (bi (bi ac))⟩)))) (zO (zO (zO ⟨⟨_,rfl,.of_eq Z⟩,Pf Z,b8 p r _ Z,(zO ac)⟩)))⟩
 have j: ¬(k:Int)-1<r.body.length:=zF j;rw[kr u (by omega)];clear u hk j;refine zJ Z Z (fun q=>?_) fun q=>?_
 .exact absurd (show kw=jp from q) (by decide)
 exact zU Z
end Go.Proofs.YtllkaddcplhklaaGreatDoor
