/-
  What the proofs of the claims need: part 5 of 5.
-/
import Derived.Test.YtllkaddcplhklaaGreatDoorPart4
open And renaming intro→Pm
open Bool renaming and_eq_true→Qc,and_false→RV,eq_iff_iff→QJ,false_and→Q5,false_eq_true→Q7,not_eq_false'→Q8,true_and→RP
open ByteArray renaming empty→Pq
open Int renaming toNat_natCast→Po
open List renaming any_eq_true→Qz,append_assoc→PH,append_nil→Qm,drop_eq_getElem_cons→Rf,flatMap_cons→Qs,getD_eq_getElem?_getD→Pk,getElem?_eq_getElem→Pl,getElem?_eq_some_iff→Pj,getElem?_map→Pp,getElem?_of_mem→P9,getElem_map→Q3,getElem_mem→P3,length_append→Pn,length_cons→PX,length_map→PS,length_nil→Q6,map_append→PF,map_congr_left→PK,map_cons→Py,map_map→PQ,map_nil→Qb,mem_cons→Px,mem_cons_of_mem→Pu,mem_cons_self→Pv,mem_map→PW,mem_of_getElem?→PY,mem_singleton→Pw,mem_singleton_self→Rq,nodup_cons→P0,nodup_nil→P6,pairwise_iff_getElem→Qu,pairwise_singleton→RG,perm_ext_iff_of_nodup→QX,sum_cons→Qq,take_of_length_le→Pz
open Nat renaming le_of_ble_eq_true→Pf,le_refl→Ps,le_succ→QO,lt_succ_iff_lt_or_eq→Rn,lt_trichotomy→Rz,not_lt_zero→Rr,sub_zero→RX,zero_add→PO,zero_le→PA
open Option renaming getD_some→Qf
open Option.some renaming inj→P7
set_option maxRecDepth 100000
open Bool renaming false→kw,true→jp
open Decidable renaming decide→lc
open Inhabited renaming default→co
open Option renaming none→is,some→io
open Array renaming getD_eq_getD_getElem?→Pg
open Option.some renaming injEq→Ph
open Array renaming range→Sk
open Array renaming getElem?_map→RI
open Option renaming map_some→Qt
open Array renaming getElem?_eq_getElem→PR
open Nat renaming mul_le_mul_right→PL
open Nat renaming add_mul→Qo
open Array renaming getElem?_append_left→P1
open List renaming getElem?_append_right→PB
open Array renaming getElem?_append_right→RS
open List renaming getElem?_take→P8
open Array renaming getElem?_toList→PN
namespace Go.Proofs.YtllkaddcplhklaaGreatDoor
open Go Go.Al Go.Proofs.Tryz
theorem Li(l:List an)(s:an):Pure prog 89 [.iv (strs l),pS s] (pI (n9 (fun x:an=>lc (s=x)) l)):=by
 refine D4 (bf func89 Z (by decide)) ⟨_,_,Pv⟩ fun j=>?_;simp only[maxLen]at j;refine ai ab func89 Z (by decide) ntmps89 Z (by simp) Z ?_;refine gA Z ?_
 refine aJ 0 l.length (PA _) (fun i=>⟨[(0,.iv (strs l)),(1,pS s),(7,pI l.length),(8,pI i)],[],0⟩) (fun i=>(l.take i).any (fun x:an=>lc (s=x))=kw) [] (by simp)
  (wk0 Z Z (bi (bi (bi (bi trivial)))) Z) fun i y u=>?_
 refine zJ Z Z (fun h1=>?_) fun h1=>?_
 .have h1:i<l.length:=by simpa using h1
  refine zJ Z Z (fun b=>?_) fun b=>?_
  .have b:(fun x:an=>lc (s=x)) (l.getD i co)=jp:=b;rw[gk u h1 b];exact zU Z
  .have b:(fun x:an=>lc (s=x)) (l.getD i co)=kw:=b;refine gA Z ⟨h1,(cK u h1).2 b,[],wk0 Z Z (bi (bi (bi (bi ac)))) Z⟩
 .have h1:l.length<=i:=by simpa using h1
  rw[fg (any_none u h1)];exact zU Z
theorem IK(l:List an)(s:an):(l.any fun x=>lc (s=x))=du l s:=by
 rw[QJ,bA,Qz];constructor
 .rintro⟨x,hx,h⟩;exact(zT h)▸hx
 .exact fun h=>⟨s,h,decide_eq_true Z⟩
theorem B1(l:List an)(s:an):Pure prog 69 [.iv (strs l),pS s] (pB (du l s)):=by
 refine ai ab func69 Z (by decide) ntmps69 Z (by simp) Z ?_;refine gA Z (zp (Li l s) ?_);refine gA Z (zL (.of_eq ?_));exact lW (by rw[<-IK];exact gl _ l)
def mT(m:NM)(r:ax)(l:Lit):Bool:=lc (l.kind=1)&&lc (dt .str m l.atom.rel 0=dt .str m r.head.rel 0)
abbrev Ln(m:NM)(r:ax):List AO:=[.cells [.iv (xW m)],aw r.c]
abbrev Hn(m:NM)(r:ax):AH:=[(0,io (.cells [.iv (xW m)])),(1,io (aw r.c))]
theorem Hd(m:NM)(r:ax)(l:Lit):bD prog 91 [ag l.c,.ptr 0 0,.ptr 1 0] (Ln m r) (pB (mT m r l)) (Hn m r) 2:=by
 refine au ab func91 Z (by decide) ntmps91 Z (by simp) ?_;refine zJ Z Z (fun h1=>?_) fun h1=>?_
 .have h1:l.kind=1:=zT h1;refine gA Z (zD [] Z (zM ⟨.of_eq (lW (by rw[mT,decide_eq_true h1,RP])),rfl,ac⟩ ((zO (zK ac)))))
 .have h1: ¬l.kind=1:=zF h1;refine gA Z (zD [] Z (zM ⟨.of_eq (lW (by rw[mT,decide_eq_false h1,Q5])),rfl,ac⟩ ((zO (zK ac)))))
abbrev DU:PV:= .b5 (.func 91) [] [.ptr 0 0,.ptr 1 0]
theorem Hb(m:NM)(r:ax)(l:List Lit):bD prog 137 [.iv (bN 30 l Lit.c),DU] (Ln m r) (pI (n9 (mT m r) l)) (Hn m r) 2:=by
 refine oi (bf func137 Z (by decide)) ⟨_,_,Pv⟩ fun j=>?_;simp only[maxLen]at j;refine au ab func137 Z (by decide) ntmps137 Z (by simp) ?_;refine gA Z ?_
 refine aJ 0 l.length (PA _) (fun i=>⟨[(0,.iv (bN 30 l Lit.c)),(1,DU),(7,pI l.length),(8,pI i)],Hn m r,2⟩) (fun i=>(l.take i).any (mT m r)=kw) [] (by simp)
  (zW ((zO (zK trivial)))) fun i x u=>?_
 refine zJ Z Z (fun h1=>?_) fun h1=>?_
 .have h1:i<l.length:=by simpa using h1
  refine gA Z (zq [0,1] (Hd m r (l.getD i co)) ?_);refine zJ Z Z (fun b=>?_) fun b=>?_
  .have b:mT m r (l.getD i co)=jp:=b;rw[gk u h1 b];refine gA Z (zD [] Z (zW ((zO (zK ac)))))
  .have b:mT m r (l.getD i co)=kw:=b;refine gA Z ⟨h1,(cK u h1).2 b,[],zW ((zO (zK ac)))⟩
 .have h1:l.length<=i:=by simpa using h1
  rw[fg (any_none u h1)];refine gA Z (zD [] Z (zW ((zO (zK ac)))))
theorem Hc(m:NM)(r:ax)(l:List Lit):bD prog 90 [.iv (bN 30 l Lit.c),DU] (Ln m r) (pB (l.any (mT m r))) (Hn m r) 2:=by
 refine au ab func90 Z (by decide) ntmps90 Z (by simp) ?_;refine gA Z (zq [0,1] (Hb m r l) ?_);refine gA Z (zD [] Z (zM ⟨.of_eq (lW (gl _ l)),rfl,ac⟩ ((zO (zK ac)))))
theorem La(m:NM)(r:ax):Pure prog 70 [ag r.c,.iv (xW m)] (pB (r.body.any (mT m r))):=by
 refine ai ab func70 Z (by decide) ntmps70 Z (by simp) Z ?_;refine gA Z (zq [1,0] (Hc m r r.body) ?_);exact zU Z
def tW(m:NM)(r:ax)(l:Lit):Bool:=lc (l.kind≠1)&&(named l).any fun t=>lc (dt .str m t 0=dt .str m r.head.rel 0)
def uh(m:NM)(r:ax)(t:Term):Bool:=lc (t.kind=1)&&!du (jR r) t.var&&r.body.any (mT m r)
def iq(m:NM)(r:ax):fh:=match r.body.find? (tW m r) with
 |some l=>(70,l.at)
 |none=>if r.head.ak.any (uh m r)=jp then(71,r.at_) else fh.z
theorem K8(m:NM)(r:ax)(hb:r.size<=10000000):Pure prog 41 [ag r.c,.iv (xW m)] (ag (iq m r).c):=by
 have B:r.body.length<=10000000:=by have:=Lit.aG r.body;unfold ax.size at hb;omega
 have G:r.head.ak.length<=10000000:=by unfold ax.size at hb;omega
 refine ai ab func41 Z (by decide) ntmps41 Z (by simp) Z ?_;refine gA Z ?_;refine aJ 0 r.body.length (PA _) (fun i=>⟨[(1,.iv (xW m)),(2,.ptr 0 0),(4,.ptr 1 0),(13,.iv (lits r.body)),(14,pI r.body.length),(15,pI i)],[(0,io (aw r.c)),(1,io (aw fh.z.c))],2⟩) (fun i=>(r.body.take i).any (tW m r)=kw) [] (by simp)
  (zW (zK (zK trivial))) fun i I y=>?_
 refine zJ Z Z (fun h1=>?_) fun h1=>?_
 .have h1:i<r.body.length:=by simpa using h1
  have D:(r.body.getD i co).size<=10000000:=by have:=Lit.bT r.body i h1;unfold ax.size at hb;omega
  have C:=km (r.body.getD i co);refine gA Z (zp (Ax (r.body.getD i co) (by omega)) ?_);refine gA Z ?_;refine aJ 0 (named (r.body.getD i co)).length (PA _) (fun k=>⟨[(1,.iv (xW m)),(2,.ptr 0 0),(4,.ptr 1 0),(6,.ptr 2 0),(13,.iv (lits r.body)),(14,pI r.body.length),(15,pI i),(20,.iv (strs (named (r.body.getD i co)))),(21,pI (named (r.body.getD i co)).length),(22,pI k)],[(0,io (aw r.c)),(1,io (aw fh.z.c)),(2,io (aw (r.body.getD i co).c))],3⟩)
   (fun k=>lc ((r.body.getD i co).kind≠1)=kw∨((named (r.body.getD i co)).take k).any (fun t=>lc (dt .str m t 0=dt .str m r.head.rel 0))=kw) [] (.inr (by simp))
   (zW (zK (zK (zK trivial)))) fun k hk hK=>?_
  refine zJ Z Z (fun b=>?_) fun b=>?_
  .have b:k<(named (r.body.getD i co)).length:=by simpa using b
   refine zJ Z Z (fun j=>?_) fun j=>?_
   .have j: ¬(r.body.getD i co).kind=1:=by simpa using j
    have hK:=hK.resolve_left (by simpa using j);refine zJ Z Z (fun u=>?_) fun u=>?_
    .have u:dt .str m ((named (r.body.getD i co)).getD k co) 0=dt .str m r.head.rel 0:=zT u;have hs:tW m r (r.body.getD i co)=jp:=by
      rw[tW,decide_eq_true j,RP];exact BE b (decide_eq_true u)
     rw[iq,mj y h1 hs];exact zU Z
    .have u: ¬dt .str m ((named (r.body.getD i co)).getD k co) 0=dt .str m r.head.rel 0:=zF u;refine gA Z ⟨b,.inr ((cK hK b).2 (decide_eq_false u)),[],zW (zK (zK (zK ac)))⟩
   .have j:(r.body.getD i co).kind=1:=by simpa using j
    refine gA Z ⟨b,.inl (decide_eq_false fun h=>h j),[],zW (zK (zK (zK ac)))⟩
  .have b:(named (r.body.getD i co)).length<=k:=by simpa using b
   have hs:tW m r (r.body.getD i co)=kw:=by
    rcases hK with hK|hK
    .rw[tW,hK,Q5]
    .rw[tW,any_none hK b,RV]
   refine gA Z ⟨h1,(cK y h1).2 hs,[],zW (zK (zK ac))⟩
 have h1:r.body.length<=i:=by simpa using h1
 have A:r.body.find? (tW m r)=is:=kD (any_none y h1);rw[iq,A];refine gA Z (zp (OQ r hb) ?_);refine gA Z ?_;refine aJ 0 r.head.ak.length (PA _) (fun k=>⟨[(1,.iv (xW m)),(2,.ptr 0 0),(4,.ptr 1 0),(9,.iv (strs (jR r))),(49,.iv (bN 5 r.head.ak Term.c)),(50,pI r.head.ak.length),(51,pI k)],[(0,io (aw r.c)),(1,io (aw fh.z.c))],2⟩) (fun k=>(r.head.ak.take k).any (uh m r)=kw) [] (by simp)
  (zW (zK (zK trivial))) fun k hk hK=>?_
 refine zJ Z Z (fun b=>?_) fun b=>?_
 .have b:k<r.head.ak.length:=by simpa using b
  have no:uh m r (r.head.ak.getD k co)=kw->(r.head.ak.take (k+1)).any (uh m r)=kw:=(cK hK b).2;refine zJ Z Z (fun j=>?_) fun j=>?_
  .have j:(r.head.ak.getD k co).kind=1:=zT j;refine gA Z (zp (B1 (jR r) (r.head.ak.getD k co).var) ?_);refine zJ Z Z (fun u=>?_) fun u=>?_
   .have u:(!du (jR r) (r.head.ak.getD k co).var)=jp:=u;refine gA Z (zp (La m r) ?_);refine zJ Z Z (fun x=>?_) fun x=>?_
    .have x:r.body.any (mT m r)=jp:=x;rw[am (BE b (by rw[uh,decide_eq_true j,u,x];rfl))];exact zU Z
    .have x:r.body.any (mT m r)=kw:=x;refine gA Z ⟨b,no (by rw[uh,x,RV]),[],zW (zK (zK ac))⟩
   .have u:(!du (jR r) (r.head.ak.getD k co).var)=kw:=u;refine gA Z ⟨b,no (by rw[uh,u,RV,Q5]),[],zW (zK (zK ac))⟩
  .have j: ¬(r.head.ak.getD k co).kind=1:=zF j;refine gA Z ⟨b,no (by rw[uh,decide_eq_false j,Q5,Q5]),[],zW (zK (zK ac))⟩
 .have b:r.head.ak.length<=k:=by simpa using b
  rw[be (by rw[any_none hK b];decide)];exact zU Z
theorem find_congr{α:Type}{f g:α->Bool}: ∀{l:List α},(∀x∈l,f x=g x)->l.find? f=l.find? g
 | [],_=>rfl
 |x::l,h=>by
  rw[List.find?_cons,List.find?_cons,h x Pv,find_congr fun y b=>h y (Pu _ b)]
theorem tB{α:Type}{f g:α->Bool}{l:List α}(h: ∀x∈l,f x=g x):l.any f=l.any g:=by
 rw[QJ,Qz,Qz];exact⟨fun⟨x,hx,h1⟩=>⟨x,hx,by rw[<-h x hx];exact h1⟩,fun⟨x,hx,h1⟩=>⟨x,hx,by rw[h x hx];exact h1⟩⟩
theorem wh{p:Prog}{a:an}(h:a∈p.aR.map Decl.name):a∈ns p:=by rw[ns,kn];exact h
theorem Lm{p:Prog}(hf:eF p){m:NM}(hR:Go.Rg.tJ (ns p) (eg p) (fun a=>dt .str m a 0)){r:ax}(hr:r∈p.rules):r.body.any (mT m r)=y0 p r:=by
 refine tB fun l hl=>?_;rw[mT];by_cases hk:l.kind=1
 .have b:l.atom.rel∈named l:=by rw[oP,am (.inl hk)];exact Rq _
  rw[qs hR (wh (hf.lits r hr l hl _ b)) (wh (hf.Ba r hr))]
 .rw[decide_eq_false hk];rfl
theorem CZ{p:Prog}(hf:eF p){m:NM}(hR:Go.Rg.tJ (ns p) (eg p) (fun a=>dt .str m a 0)){r:ax}(hr:r∈p.rules):iq m r=vE p r:=by
 have h1:r.body.find? (tW m r)=vN p r:=find_congr fun l hl=>by
  rw[tW];congr 1;exact tB fun t j=>(qs hR (wh (hf.lits r hr l hl t j)) (wh (hf.Ba r hr))).symm
 have b:r.head.ak.any (uh m r)=(p8 r&&y0 p r):=by
  rw[<-Lm hf hR hr,p8];have:uh m r=fun t=>(lc (t.kind=1)&&!du (jR r) t.var)&&r.body.any (mT m r):=rfl;rw[this];generalize r.body.any (mT m r)=c;cases c<;>simp
 rw[iq,vE,h1];cases vN p r with
 |some l=>rfl
 |none=>
  simp only[b,Qc]
theorem Ld(hS:fC){p:Prog}(hb:p.fit)(h: ¬(dR p).1=0):Pure prog 38 [ag p.c] (.bq [.iv (.v (.map is)),pB kw]):=by
 have:=JS hS p hb;rwa[sY,be h,decide_eq_false h]at this
theorem Lc(hS:fC){p:Prog}(hb:p.fit)(h:(dR p).1=0):Pure prog 38 [ag p.c] (.bq [.iv (vd (bZ p (cI p))),pB jp]):=by
 have:=JS hS p hb;rwa[sY,am h,decide_eq_true h]at this
theorem r6{α β:Type}(f:α->List β)(g:α->Nat)(h: ∀a,(f a).length<=g a): ∀l:List α,(l.flatMap f).length<=(l.map g).sum
 | []=>Ps _
 |a::l=>by
  have h1:=r6 f g h l;have b:=h a;rw[Qs,Pn,Py,Qq];omega
theorem fb: ∀l:List Lit,Lit.aB l=(l.map Lit.size).sum
 | []=>rfl
 |x::l=>by rw[Lit.aB,fb l,Py,Qq]
theorem Cx{p:Prog}(hs:p.size<=10000000):(cI p).length<=100000000:=by
 have h1:=r6 (fun r:ax=>r.body.flatMap fun l=>(named l).map fun t=>(r.head.rel,t,lg l)) ax.size (fun r=>by
  have:=r6 (fun l=>(named l).map fun t=>(r.head.rel,t,lg l)) Lit.size (fun l=>by rw[PS];exact km l) r.body;rw[<-fb]at this
  unfold ax.size;omega) p.rules
 unfold Prog.size at hs;show(p.rules.flatMap _).length<=_;omega
theorem DN(hS:fC)(p:Prog)(hb:p.fit)(hs:p.size<=10000000):Pure prog 23 [ag p.c] (ag (oq p).c):=by
 by_cases y:(dR p).1=0;rotate_left
 .rw[oq,am y];refine ai ab func23 Z (by decide) ntmps23 Z (by simp) Z ?_;refine gA Z (zp (Ld hS hb y) ?_);refine zE Z Z (fun A=>?_) fun A=>?_
  .cases A
  refine gA Z (zp (c24 p hb) ?_);exact zU Z
 have G:=Bk y;have R:p.rules.length<=1000000000:=hb.2.1;rw[oq,be (by simpa using y)];refine ai ab func23 Z (by decide) ntmps23 Z (by simp) Z ?_;refine gA Z (zp (Lc hS hb y) ?_);refine zJ Z Z (fun A=>?_) fun A=>?_
 .cases A
 refine gA Z (sZ [] (Lb hS G (Cx hs)) Z Z Z Z Z Z Z ?_);rintro r Y n' ⟨m,hR,rfl,rfl,rfl⟩;refine⟨_,rfl,?_⟩;have I:p.rules.map (iq m)=p.rules.map (vE p):=PK fun r J=>CZ G hR J;rw[<-I]
 have x: ∀i,i<p.rules.length->(p.rules.map (iq m)).getD i co=iq m (p.rules.getD i co):=fun i D=>by
  rw[Pk,Pp,Pl D,Pk,Pl D];rfl
 have b:(p.rules.map (iq m)).length=p.rules.length:=PS _;refine gA Z ?_;refine aJ 0 p.rules.length (PA _) (fun i=>⟨[(1,.ptr 0 0),(2,.ptr 1 0),(5,.iv (xW m)),(21,.iv (bN 5 p.rules ax.c)),(22,pI p.rules.length),(23,pI i)],[(0,io (aw p.c)),(1,io (aw fh.z.c))],2⟩) (fun i=>((p.rules.map (iq m)).take i).any (fun d=>lc (d.1≠0))=kw) [] (by simp)
  (zW (zK (zK trivial))) fun i D B=>?_
 refine zJ Z Z (fun h1=>?_) fun h1=>?_
 .have h1:i<p.rules.length:=by simpa using h1
  have u:=hb.2.2 _ (kB h1);have C:=x i h1;refine gA Z (zp (K8 m (p.rules.getD i co) u.1) ?_);refine zJ Z Z (fun j=>?_) fun j=>?_
  .have j: ¬(iq m (p.rules.getD i co)).1=0:=by simpa using j
   rw[mj B (by rw[b];exact h1) (by rw[C];exact decide_eq_true j),C];exact zU Z
  .have j:(iq m (p.rules.getD i co)).1=0:=by simpa using j
   refine gA Z ⟨h1,(cK B (by rw[b];exact h1)).2 (by rw[C];simpa using j),[],zW (zK (zK ac))⟩
 .have h1:p.rules.length<=i:=by simpa using h1
  rw[kD (any_none B (by rw[b];exact h1))];exact zU Z
end Go.Proofs.YtllkaddcplhklaaGreatDoor
namespace Go.Proofs.YtllkaddcplhklaaGreatDoor
open Go Go.Al Go.Proofs.Tryz Go.Bo
section
theorem Ng(hS:fC)(p:Prog)(hb:p.fit)(hs:p.size<=10000000)(h0:(oq p).1=0):bD prog 8 [ag p.c] [] (.bq [.ptr 1 0,pI 0]) (bH p 0 []) 2:=by
 refine au ab func8 Z (by decide) ntmps8 Z (by simp) ?_;refine gA Z (aE (DN hS p hb hs) Z Z Z Z Z Z ?_);refine gA Z ?_;refine Pm (fun b=>?_) (fun b=>?_)
 .exact absurd h0 (by simpa using b)
 refine gA Z (aE (Lf p (by omega)) Z Z Z Z Z Z ?_);refine gA Z (aY [1,2] (by first|exact .inr Z|exact .inl Z) Z (wk Z Z Z ⟨.of_eq Z,rfl,ac⟩ (LK Z EZ Z ⟨⟨_,rfl,.of_eq Z⟩,Pf Z,rfl,ac⟩) Z))
theorem DB(hS:fC)(p:Prog)(hb:p.fit)(hs:p.size<=10000000)(h0: ¬(oq p).1=0):Pure prog 8 [ag p.c] (.bq [Oy,pI 4]):=by
 refine ai ab func8 Z (by decide) ntmps8 Z (by simp) Z ?_;refine gA Z (aE (DN hS p hb hs) Z Z Z Z Z Z ?_);refine gA Z ?_;refine Pm (fun b=>?_) (fun b=>?_)
 .refine gA Z (aQ (by first|exact .inr Z|exact .inl Z) Z (.of_eq ?_));rfl
 .exact absurd (by simpa using b) h0
abbrev wi(p:Prog)(S:List Fact)(l:List (bP Fact)):PV:= .bq [.iv (bN 3 (if jS bb (okF p) S l=0 then c4 bb S l else[]) en),pI (jS bb (okF p) S l)]
theorem B4{p:Prog}{S:List Fact}{l:List (bP Fact)}(h:jS bb (okF p) S l=0):(((mapOf (bU S l)).map (·.2)).Perm (c4 bb S l))∧qj bb (c4 bb S l)∧(∀x∈c4 bb S l,x.2.args.length<=1000000000)∧(c4 bb S l).length<=100000000:=by
 have b:=mL.1 h;refine⟨?_,j9 mS S l,fun x j=>?_,by have:=Dg (c:=bb) S l;omega⟩
 .rw[PQ];have:(Prod.snd ∘ fun x:bP Fact=>(bu x.2,x))=id:=rfl;rw[this,List.map_id];exact kZ mS S l
 .have:x.2.args.length<=8:=gh (b.2.1 _ (fS ((gj mS (a:=x.1) (f:=x.2)).1 j).1));omega
section
variable (p:Prog) (n:Nat) {m:FM} {S:List Fact} (l:List (bP Fact)) (hb:p.aR.length<=1000000000) (hk:cE bu m S) (hS:Go.Bo.eF bb (okF p) S) (hF: ∀x∈l,x.2.args.length<=1000000000)
include hb hk hS hF
end
end
section
def xl(m:FM)(x:bP Fact):FM:=if x.1=jp then cA kF m (bu x.2) x.2 else jw kF m (bu x.2)
def Dr(S:List Fact)(x:bP Fact):List Fact:=if x.1=jp then x.2::S else S.erase x.2
def lz(m:FM)(M:CM):List Nat->FM
 | []=>m
 |j::vs=>xl (lz m M vs) (kI M j)
def j3(S:List Fact)(M:CM):List Nat->List Fact
 | []=>S
 |j::vs=>Dr (j3 S M vs) (kI M j)
section
variable {S:List Fact} {T:List (bP Fact)}
theorem zR{j:Nat}(hj:j<T.length): ∃x,T[j]? =io x∧kI (mapOf T) j=x:=by
 refine⟨T[j],Pl hj,?_⟩;unfold kI mapOf;rw[Pk,Pp,Pl hj];rfl
structure Oa (S:List Fact) (T:List (bP Fact)):Prop where
 nd:(T.map (·.2)).Nodup
 Of: ∀x∈T,lc (x.2∈S)≠x.1
 s8: ∀f∈S,f.args.length<=8
 t8: ∀x∈T,x.2.args.length<=8
theorem Oa.one(h:Oa S T){i j:Nat}{x y:bP Fact}(hi:T[i]? =io x)(hj:T[j]? =io y)(e:x.2=y.2):i=j:=by
 have C:=Qu.1 h.nd;obtain⟨u,b⟩:=Pj.1 hi;obtain⟨B,A⟩:=Pj.1 hj;rcases Rz i j with g|g|g
 .exact absurd (by rw[Q3,Q3,b,A];exact e) (C i j (by simpa using u) (by simpa using B) g)
 .exact g
 .exact absurd (by rw[Q3,Q3,b,A];exact e.symm) (C j i (by simpa using B) (by simpa using u) g)
theorem ou(h:Oa S T)(hS:S.Nodup): ∀{vs:List Nat},vs.Nodup->(∀j∈vs,j<T.length)->(j3 S (mapOf T) vs).Nodup∧ ∀f,f∈j3 S (mapOf T) vs↔(∃j∈vs,T[j]? =io (jp,f))∨(f∈S∧ ¬ ∃j∈vs,T[j]? =io (kw,f))
 | [],_,_=>⟨hS,fun f=>by simp[j3]⟩
 |j::vs,hn,hv=>by
  rw[P0]at hn;obtain⟨i1,i2⟩:=ou h hS hn.2 fun i hi=>hv i (Pu _ hi);obtain⟨x,y,D⟩:=zR (hv j (Pv ..));have C:=h.Of x (PY y);have u: ∀i∈vs,∀b,T[i]? ≠io (b,x.2):=fun i hi b e=>hn.1 ((h.one e y Z)▸hi);simp only[j3,D,Dr];obtain⟨b,g⟩:=x
  cases b with
  |true=>
   simp only[if_true];have A:g∉S:=fun m=>C (decide_eq_true m)
   have B:g∉j3 S (mapOf T) vs:=fun m=>by
    rcases(i2 g).1 m with⟨i,hi,e⟩|⟨m2,_⟩
    .exact u i hi jp e
    .exact A m2
   refine⟨P0.2 ⟨B,i1⟩,fun f=>?_⟩;rw[Px,i2];constructor
   .rintro(rfl|⟨i,hi,e⟩|⟨m,k⟩)
    .exact .inl ⟨j,Pv ..,y⟩
    .exact .inl ⟨i,Pu _ hi,e⟩
    .refine .inr ⟨m,?_⟩;rintro⟨i,hi,e⟩;rcases Px.1 hi with rfl|hi
     .rw[y]at e;cases e
     .exact k ⟨i,hi,e⟩
   .rintro(⟨i,hi,e⟩|⟨m,k⟩)
    .rcases Px.1 hi with rfl|hi
     .rw[y]at e;cases e;exact .inl Z
     .exact .inr (.inl ⟨i,hi,e⟩)
    .exact .inr (.inr ⟨m,fun⟨i,hi,e⟩=>k ⟨i,Pu _ hi,e⟩⟩)
  |false=>
   simp only[Q7,if_false];refine⟨i1.erase g,fun f=>?_⟩;rw[i1.mem_erase_iff,i2];constructor
   .rintro⟨hne,⟨i,hi,e⟩|⟨m,k⟩⟩
    .exact .inl ⟨i,Pu _ hi,e⟩
    .refine .inr ⟨m,?_⟩;rintro⟨i,hi,e⟩;rcases Px.1 hi with rfl|hi
     .rw[y]at e;cases e;exact hne Z
     .exact k ⟨i,hi,e⟩
   .rintro(⟨i,hi,e⟩|⟨m,k⟩)
    .rcases Px.1 hi with rfl|hi
     .rw[y]at e;cases e
     .refine⟨?_,.inl ⟨i,hi,e⟩⟩;rintro rfl;exact u i hi jp e
    .refine⟨?_,.inr ⟨m,fun⟨i,hi,e⟩=>k ⟨i,Pu _ hi,e⟩⟩⟩;rintro rfl;exact k ⟨j,Pv ..,y⟩
theorem qU{m:FM}(hk:cE bu m S)(h:Oa S T)(hS:S.Nodup): ∀{vs:List Nat},vs.Nodup->(∀j∈vs,j<T.length)->cE bu (lz m (mapOf T) vs) (j3 S (mapOf T) vs)∧ ∀f∈j3 S (mapOf T) vs,f.args.length<=8
 | [],_,_=>⟨hk,h.s8⟩
 |j::vs,hn,hv=>by
  have y:=P0.1 hn;obtain⟨I,D⟩:=qU hk h hS y.2 fun i A=>hv i (Pu _ A);have R:=(ou h hS y.2 fun i A=>hv i (Pu _ A)).2;obtain⟨x,G,J⟩:=zR (hv j (Pv ..));have B:=PY G;have C:=h.Of x B;have b: ∀u∈j3 S (mapOf T) vs,bu u=bu x.2->u=x.2:=fun u hu e=>oV (D u hu) e;simp only[lz,j3,J,xl,Dr];by_cases hb:x.1=jp
  .rw[am hb,am hb];refine⟨I.put b fun m2=>?_,fun f hf=>?_⟩
   .rcases(R x.2).1 m2 with⟨i,A,e⟩|⟨m3,_⟩
    .exact y.1 (h.one e G Z▸A)
    .exact C (by rw[hb];exact decide_eq_true m3)
   .rcases Px.1 hf with rfl|hf
    .exact h.t8 x B
    .exact D f hf
  .rw[be hb,be hb];exact⟨I.del b,fun f hf=>D f (List.mem_of_mem_erase hf)⟩
end
theorem E5{p:Prog}{S:List Fact}{l:List (bP Fact)}(hS:Go.Bo.eF bb (okF p) S)(h:jS bb (okF p) S l=0):Oa S (bU S l):=by
 have u:(bU S l).Perm (c4 bb S l):=kZ mS S l;have y:=mL.1 h;have j: ∀x∈bU S l,df l x.2=io x.1∧lc (x.2∈S)≠x.1:=fun x b=>(gj mS (a:=x.1) (f:=x.2)).1 (u.mem_iff.1 b);exact⟨((u.map (·.2)).nodup_iff).2 ((qj.facts (j9 mS S l)).nodup mS),fun x b=>(j x b).2,fun f A=>gh (hS.ok f A),fun x b=>gh (y.2.1 _ (fS (j x b).1))⟩
theorem CP{p:Prog}{m:FM}{S:List Fact}{l:List (bP Fact)}(hk:cE bu m S)(hS:Go.Bo.eF bb (okF p) S)(h:jS bb (okF p) S l=0){vs:List Nat}(A:vs.Nodup)(v2: ∀j∈vs,j<(bU S l).length)(v3: ∀j,j<(bU S l).length->j∈vs):
  cE bu (lz m (mapOf (bU S l)) vs) (hQ bb S l):=by
 have x:=E5 hS h;have u:=hS.yQ.nodup mS;have B:(bU S l).Perm (c4 bb S l):=kZ mS S l;obtain⟨C,_⟩:=qU hk x u A v2;obtain⟨G,I⟩:=ou x u A v2;refine C.perm ((QX G ((oD mS S l).nodup mS)).2 fun f=>?_);have hT: ∀b:Bool,(∃j∈vs,(bU S l)[j]? =io (b,f))↔df l f=io b∧lc (f∈S)≠b:=fun b=>by
  rw[<-gj mS,<-B.mem_iff];constructor
  .rintro⟨j,_,e⟩;exact PY e
  .intro D;obtain⟨j,y⟩:=P9 D;exact⟨j,v3 j (Pj.1 y).1,y⟩
 rw[I,oS mS,hT,hT];cases e:df l f with
 |none=>simp
 |some b=>cases b<;>by_cases g:f∈S<;>simp[g]
theorem yY(p:Prog)(n:Nat){m:FM}{S:List Fact}(l:List (bP Fact))(hb:p.aR.length<=1000000000)(hk:cE bu m S)(hS:Go.Bo.eF bb (okF p) S)(hF: ∀x∈l,x.2.args.length<=1000000000)(hn:n<=1000000000000):
  Al.Fn prog 10 [.ptr 1 0,.iv (bN 3 l en)] (bO p n m) fun r h k=> ∃m',cE bu m' (jk bb (okF p) (S,n) l).1∧r=wi p S l∧h=bH p (jk bb (okF p) (S,n) l).2 m'∧k=2:=by
 have h1:=Ou p n l hb hk hS hF;by_cases b:jS bb (okF p) S l=0;rotate_left
 .rw[rr Z b]at h1;have e:wi p S l= .bq [.iv (bN 3 [] en),pI (jS bb (okF p) S l)]:=by unfold wi;rw[be b]
  have J:jk bb (okF p) (S,n) l=(S,n):=by unfold jk;rw[be b]
  rw[e,J];refine oe ab func10 Z (by decide) ntmps10 Z (by simp) ?_;refine gA Z (bQ [0,1] (h1) Z Z Z Z Z Z Z Z ?_);refine gA Z ?_;refine Pm (fun I=>?_) (fun I=>?_);rotate_left
  .exact absurd (by simpa using I) b
  refine gA Z (rG [] (.inr Z) Z ⟨m,hk,rfl,rfl,rfl⟩ (wk Z Z Z ⟨.bq ⟨.nil _ _,.refl _,ac⟩,rfl,ac⟩ (hM Z Z Z ⟨⟨_,rfl,.of_eq Z⟩,Pf Z,rfl,ac⟩) Z))
 obtain⟨q1,q2,q3,q4⟩:=B4 b;have b0:=q1.length_eq;rw[PS,PS]at b0;rw[AU b]at h1;have e:wi p S l= .bq [.iv (bN 3 (c4 bb S l) en),pI 0]:=by unfold wi;rw[am b,b]
 have J:jk bb (okF p) (S,n) l=(hQ bb S l,n+1):=by unfold jk;rw[am b]
 rw[e,J];have R: ∀x∈bU S l,x.2.args.length<=8:=(E5 hS b).t8;refine oe ab func10 Z (by decide) ntmps10 Z (by simp) ?_;refine gA Z (bQ [0,1] (h1) Z Z Z Z Z Z Z Z ?_);refine gA Z ?_;refine Pm (fun I=>?_) (fun I=>?_)
 .exact absurd I (by decide)
 refine gA Z ?_;refine eU (mapOf (bU S l)) (fun vs=>⟨[(0,.ptr 1 0),(6,.iv (yx (mapOf (bU S l)))),(20,.ptr 2 0)],[(0,io (aS (lz m (mapOf (bU S l)) vs))),(1,io (bj p n 0)),(2,io (.bI kF yy (mapOf (bU S l)) vs is))],3⟩) (fun vs=>vs.Nodup∧ ∀j∈vs,j<(mapOf (bU S l)).length) [] ⟨P6,by simp⟩
  (wk Z Z Z (bi (bi (bi trivial))) (hM Z Z Z ⟨⟨_,rfl,.of_eq Z⟩,Pf Z,rfl,hI Z Z (.inl Z) Z trivial⟩) Z) fun vs hJ=>?_
 obtain⟨v1,v2⟩:=hJ;refine fj Z ac (dm Z Z Z Z Z (by decide) (fun C=>?_) fun j x A B=>?_)
 .have Y:=CP hk hS b v1 (fun j B=>by have:=v2 j B;rwa[PS]at this) (fun j B=>C j (by rwa[PS]));refine gA Z (aE (Nc q1 q2 q3 q4) Z Z Z Z Z Z ?_);refine gA Z (rG [] (.inr Z) Z ⟨_,Y,rfl,rfl,rfl⟩ (wk Z Z Z (bi ac) (hM Z Z Z ⟨⟨_,rfl,.of_eq Z⟩,Pf Z,rfl,ac⟩) Z))
 .have e0:x.2=kI (mapOf (bU S l)) j:=by rw[kI,Pk,A];rfl
  have a0: ∀u,u=j::vs->u.Nodup∧ ∀i∈u,i<(mapOf (bU S l)).length:=fun u e=>e▸⟨P0.2 ⟨B,v1⟩,fun i hi=>(Px.1 hi).elim (fun h=>h▸(Pj.1 A).1) (v2 i)⟩;have D:=(Pj.1 A).1;rw[PS]at D;obtain⟨y,hy,d0⟩:=zR D
  have c0:x=(bu y.2,y):=by
   have:(mapOf (bU S l))[j]? =io (bu y.2,y):=by unfold mapOf;rw[Pp,hy];rfl
   rw[this]at A;exact(P7 A).symm
  subst c0;have f0:=R y (PY hy);have G:lz m (mapOf (bU S l)) (j::vs)=xl (lz m (mapOf (bU S l)) vs) y:=by rw[lz,d0]
  refine gA Z ?_;refine Pm (fun g1=>?_) (fun g1=>?_)
  .have g1:y.1=jp:=g1;refine gA Z (bh ab [] (Pure.rK (kN y.2 (by omega))) Z Z Z Z Z Z Z Z Z Z Z Z (by(repeat' (first|exact ac|exact rfl|exact ah.refl _|exact ah.bk (by assumption)|apply Pm))<;>first|omega|(simp only[Po];omega)|(simp;done)|(simp;omega)) Z (by(repeat' (first|exact ac|exact rfl|exact ah.refl _|exact ah.bk (by assumption)|apply Pm))<;>first|omega|(simp only[Po];omega)|(simp;done)|(simp;omega)) ?_);refine fj Z ?_ ?_
   .repeat' (first|exact ac|exact rfl|exact E1 _|exact ah.refl _|apply Pm)
   exact⟨j,_,A,B,a0 _ Z,[],wk Z Z Z (bi (bi (bi ac))) (hM Z (by rw[G,xl,am g1];exact congrArg (cA kF (lz m (mapOf (bU S l)) vs) (bu y.2)) (E6 y.2)) Z ⟨⟨_,rfl,.of_eq Z⟩,Pf Z,rfl,hI Z Z (.inr Z) Z ac⟩) Z⟩
  .have g1:y.1=kw:=g1;refine gA Z ⟨j,_,A,B,a0 _ Z,[],wk Z Z Z (bi (bi (bi ac))) (hM Z (by rw[G,xl,be (by rw[g1];decide)];rfl) Z ⟨⟨_,rfl,.of_eq Z⟩,Pf Z,rfl,hI Z Z (.inr Z) Z ac⟩) Z⟩
end
section
abbrev Fm:AO:= .cells [aA]
theorem Ov(x y:Fact)(b:x.args.length<=1000000000)(j:y.args.length<=1000000000):bD prog 58 [ag x.c,ag y.c,.ptr 0 0] [Fm] (pB (lc (bb x y=0))) [(0,io Fm)] 1:=by
 refine au ab func58 Z (by decide) ntmps58 Z (by simp) ?_;refine gA Z (aE (oH x y b j) Z Z Z Z Z Z ?_);refine gA Z (aY [] (by first|exact .inr Z|exact .inl Z) Z (wk Z Z Z (bi ac) ⟨⟨_,rfl,.of_eq Z⟩,Pf Z,rfl,ac⟩ Z))
section
variable {L:List Fact} (hs:pj bb L) (hF:tQ L) (hl:L.length<=1000000000)
include hs hF hl
theorem DH:bD prog 57 [ba L,.b5 (.func 58) [] [.ptr 0 0]] [Fm] (ba L) [(0,io Fm)] 1:=by
 refine au ab func57 Z (by decide) ntmps57 Z (by simp) ?_;refine gA Z ?_;refine Pm (fun x=>?_) (fun x=>?_)
 .refine gA Z (aY [] (by first|exact .inr Z|exact .inl Z) Z (wk Z Z Z (bi ac) ⟨⟨_,rfl,.of_eq Z⟩,Pf Z,rfl,ac⟩ Z))
 refine gA Z ?_;refine aJ 1 (max 1 L.length) (Nat.le_max_left _ _) (fun i=>⟨[(0,ba L),(1,.b5 (.func 58) [] [.ptr 0 0]),(5,pI i)],[(0,io Fm)],1⟩) (fun i=>1<=i) [] (Ps _)
  (wk Z Z Z (bi (bi (bi trivial))) ⟨⟨_,rfl,.of_eq Z⟩,Pf Z,rfl,ac⟩ Z) fun i A y=>?_
 refine gA Z ?_;refine Pm (fun h1=>?_) (fun h1=>?_)
 .have h1:i<L.length:=by simpa using h1
  have e:((i:Int)-1).toNat=i-1:=by omega
  refine gA Z (bh ab [0] (Ov (L.getD i co) (L.getD ((i:Int)-1).toNat co) (hF.at (by omega)) (hF.at (by omega))) Z Z Z Z Z Z Z Z Z Z Z Z (by(repeat' (first|exact ac|exact rfl|exact ah.refl _|exact ah.bk (by assumption)|apply Pm))<;>first|omega|(simp only[Po];omega)|(simp;done)|(simp;omega)) Z (by(repeat' (first|exact ac|exact rfl|exact ah.refl _|exact ah.bk (by assumption)|apply Pm))<;>first|omega|(simp only[Po];omega)|(simp;done)|(simp;omega)) ?_);refine gA Z ?_;refine Pm (fun b=>?_) (fun b=>?_)
  .have b:bb (L.getD i co) (L.getD ((i:Int)-1).toNat co)=0:=of_decide_eq_true b;rw[e]at b;have u:=(Qu.1 hs) (i-1) i (by omega) h1 (by omega);have j:=(mS.eq _ _).1 b;rw[Pk,Pk,Pl h1,Pl (by omega:i-1<L.length)]at j;have j:L[i]=L[i-1]:=j;rw[j]at u;exact absurd u (mS.H2 _)
  .refine gA Z ?_;exact⟨by omega,by omega,[],wk Z Z Z (bi (bi (bi ac))) ⟨⟨_,rfl,.of_eq Z⟩,Pf Z,rfl,ac⟩ Z⟩
 .refine gA Z (aY [] (by first|exact .inr Z|exact .inl Z) Z (wk Z Z Z (bi ac) ⟨⟨_,rfl,.of_eq Z⟩,Pf Z,rfl,ac⟩ Z))
omit hs hF in
theorem Nr:Pure prog 56 [ba L] (ba L):=by
 refine ai ab func56 Z (by decide) ntmps56 Z (by simp) Z ?_;refine gA Z (aQ (by first|exact .inr Z|exact .inl Z) Z ?_);exact .ct (by simp) (fun k _=>rfl)
theorem Av:Pure prog 33 [ba L,aA] (ba L):=by
 refine ai ab func33 Z (by decide) ntmps33 Z (by simp) Z ?_;refine gA Z (aE (Hi L (by omega)) Z Z Z Z Z Z ?_);refine gA Z (aE (Dy (Mm hs) hF (by omega)) Z Z Z Z Z Z ?_);refine gA Z (bQ [0] (DH hs hF hl) Z Z Z Z Z Z Z Z ?_);refine gA Z (aE (Nr hl) Z Z Z Z Z Z ?_);refine gA Z (aQ (by first|exact .inr Z|exact .inl Z) Z (.of_eq ?_));rfl
end
def LR:List Fact->List Fact->Int
 | [],_=>1
 |_::_,[]=> -1
 |x::_,y::_=>bb x y
theorem yW: ∀(A B:List Fact) (u:tQ A) (C:tQ B),Pure prog 35 [ba A,ba B] (pI (LR A B))
 | [],B,_,_=>by
  refine ai ab func35 Z (by decide) ntmps35 Z (by simp) Z ?_;refine gA Z ?_;refine Pm (fun b=>?_) (fun b=>?_)
  .refine gA Z (aQ (by first|exact .inr Z|exact .inl Z) Z (.of_eq ?_));rfl
  .exact absurd b (by simp)
 |x::A,[],_,_=>by
  refine ai ab func35 Z (by decide) ntmps35 Z (by simp) Z ?_;refine gA Z ?_;refine Pm (fun b=>?_) (fun b=>?_)
  .exact absurd b (by simp;omega)
  refine gA Z ?_;refine Pm (fun j=>?_) (fun j=>?_)
  .refine gA Z (aQ (by first|exact .inr Z|exact .inl Z) Z (.of_eq ?_));rfl
  .exact absurd j (by simp)
 |x::A,y::B,u,C=>by
  refine ai ab func35 Z (by decide) ntmps35 Z (by simp) Z ?_;refine gA Z ?_;refine Pm (fun b=>?_) (fun b=>?_)
  .exact absurd b (by simp;omega)
  refine gA Z ?_;refine Pm (fun j=>?_) (fun j=>?_)
  .exact absurd j (by simp;omega)
  refine gA Z (bh ab [] (Pure.rK (oH x y (u x (Pv ..)) (C y (Pv ..)))) Z Z Z Z Z Z Z Z Z Z Z Z (by(repeat' (first|exact ac|exact rfl|exact ah.refl _|exact ah.bk (by assumption)|apply Pm))<;>first|omega|(simp only[Po];omega)|(simp;done)|(simp;omega)) Z (by(repeat' (first|exact ac|exact rfl|exact ah.refl _|exact ah.bk (by assumption)|apply Pm))<;>first|omega|(simp only[Po];omega)|(simp;done)|(simp;omega)) ?_);refine gA Z (aQ (by first|exact .inr Z|exact .inl Z) Z (.of_eq ?_));rfl
end
theorem kG{x:Fact}{A:List Fact}(h:tQ (x::A)):tQ A:=fun f b=>h f (Pu _ b)
theorem pR(x:Fact)(A:List Fact):ah (.iv (.ct 2 ((x::A).length-(1:Int).toNat) fun k=>(fun k=>Fact.c ((x::A).getD k co)) ((1:Int).toNat+k))) (ba A):=
 .ct (by simp) fun k _=>by
  show Fact.c ((x::A).getD (1+k) co)=_;rw[Nat.add_comm];rfl
abbrev btS(A B:List Fact)(out:List (bP Fact)):AS:=⟨[(5,ba A),(6,ba B),(7,.sl 1 0 out.length 3)],[(1,io (aF 3 out en))],2⟩
theorem DO(A B:List Fact)(hA:pj bb A)(hB:pj bb B)(Y:tQ A)(fB:tQ B)(lA:A.length<=1000000)(lB:B.length<=1000000):Pure prog 19 [ba A,ba B] (.iv (bN 3 (c9 bb A B) en)):=by
 obtain⟨R,J⟩: ∃R,R=c9 bb A B:=⟨_,rfl⟩
 rw[<-J];refine ai ab func19 Z (by decide) ntmps19 Z (by simp) Z ?_;refine gA Z (aE (Av hA Y (by omega)) Z Z Z Z Z Z ?_);refine gA Z (aE (Av hB fB (by omega)) Z Z Z Z Z Z ?_);refine gM 6 Z (lh 7 3 Z ?_)
 refine gA Z (gn (σ:={s:List Fact×List Fact×List (bP Fact)//tQ s.1∧tQ s.2.1∧R=s.2.2++c9 bb s.1 s.2.1∧s.1.length+s.2.1.length+s.2.2.length<=2000000}) (fun s=>btS s.1.1 s.1.2.1 s.1.2.2) (fun s=>s.1.1.length+s.1.2.1.length) ⟨(A,B,[]),Y,fB,J,by simp;omega⟩ [0]
  (wk Z Z Z (bi (bi (bi ac))) (hR Z Z Z ac) Z) fun s=>?_)
 obtain⟨⟨C,D,a0⟩,b,j,G,u⟩:=s;have b:tQ C:=b;have j:tQ D:=j;have G:R=a0++c9 bb C D:=G;have u:C.length+D.length+a0.length<=2000000:=u;show GO _ _ _ _ (btS C D a0)
 match C,D,b,j,G,u with
 | [],[],b,j,G,u=>
  refine gA Z ?_;refine Pm (fun g1=>?_) (fun g1=>?_);rotate_left
  .exact absurd g1 (by simp)
  refine gA Z ?_;refine Pm (fun g2=>?_) (fun g2=>?_)
  .exact absurd g2 (by simp)
  rw[kS,Qb,Qm]at G;subst G;refine gA Z (dq (by first|exact .inr Z|exact .inl Z) Z Z (rfl) (rfl))
 | [],y::D,b,j,G,u=>
  have hy:=j y (Pv ..);have I:R=(a0++ [(jp,y)])++c9 bb [] D:=by rw[G,kS,kS,Py,PH];rfl
  simp only[PX,Q6]at u;refine gA Z ?_;refine Pm (fun g1=>?_) (fun g1=>?_);rotate_left
  .exact absurd g1 (by simp)
  refine gA Z ?_;refine Pm (fun g2=>?_) (fun g2=>?_);rotate_left
  .exact absurd g2 (by simp)
  refine gA Z (aE (yW [] (y::D) b j) Z Z Z Z Z Z ?_);refine gA Z ?_;refine Pm (fun g3=>?_) (fun g3=>?_)
  .exact absurd (of_decide_eq_true g3) (by show¬(1:Int)<0;decide)
  refine gA Z ?_;refine Pm (fun g4=>?_) (fun g4=>?_);rotate_left
  .exact absurd (show(1:Int)>0 by decide) (of_decide_eq_false g4)
  refine gA Z (aE (kN y (by omega)) Z Z Z Z Z Z ?_);refine gA Z ?_;exact⟨⟨([],D,a0++ [(jp,y)]),b,kG j,I,by simp;omega⟩,[3],by show _<_;simp,wk Z Z Z (bi ⟨pR y D,rfl,.row (by simp),rfl,ac⟩) (LJ Z (by rw[PF];exact(c7.refl _).app ⟨⟨.kb _,.refl _,.refl _,ac⟩,ac⟩) Z ac) Z⟩
 |x::C,[],b,j,G,u=>
  have hx:=b x (Pv ..);have I:R=(a0++ [(kw,x)])++c9 bb C []:=by rw[G,qC,qC,Py,PH];rfl
  simp only[PX,Q6]at u;refine gA Z ?_;refine Pm (fun g1=>?_) (fun g1=>?_)
  .exact absurd g1 (by simp)
  refine gA Z (aE (yW (x::C) [] b j) Z Z Z Z Z Z ?_);refine gA Z ?_;refine Pm (fun g3=>?_) (fun g3=>?_);rotate_left
  .exact absurd (show(-1:Int)<0 by decide) (of_decide_eq_false g3)
  refine gA Z (aE (kN x (by omega)) Z Z Z Z Z Z ?_);refine gA Z ?_;exact⟨⟨(C,[],a0++ [(kw,x)]),kG b,j,I,by simp;omega⟩,[3],by show _<_;simp,wk Z Z Z ⟨pR x C,rfl,bi ⟨.row (by simp),rfl,ac⟩⟩ (LJ Z (by rw[PF];exact(c7.refl _).app ⟨⟨.refl _,.refl _,.refl _,ac⟩,ac⟩) Z ac) Z⟩
 |x::C,y::D,b,j,G,u=>
  have hx:=b x (Pv ..);have hy:=j y (Pv ..);simp only[PX]at u;rw[qD]at G;refine gA Z ?_;refine Pm (fun g1=>?_) (fun g1=>?_)
  .exact absurd g1 (by simp)
  refine gA Z (aE (yW (x::C) (y::D) b j) Z Z Z Z Z Z ?_);refine gA Z ?_;refine Pm (fun g3=>?_) (fun g3=>?_)
  .have g3:bb x y<0:=of_decide_eq_true g3;rw[am g3]at G;have I:R=(a0++ [(kw,x)])++c9 bb C (y::D):=by rw[G,PH];rfl
   refine gA Z (aE (kN x (by omega)) Z Z Z Z Z Z ?_);refine gA Z ⟨⟨(C,y::D,a0++ [(kw,x)]),kG b,j,I,by simp;omega⟩,[3],by show _<_;simp,wk Z Z Z ⟨pR x C,rfl,bi ⟨.row (by simp),rfl,ac⟩⟩ (LJ Z (by rw[PF];exact(c7.refl _).app ⟨⟨.refl _,.refl _,.refl _,ac⟩,ac⟩) Z ac) Z⟩
  have g3: ¬bb x y<0:=of_decide_eq_false g3;rw[be g3]at G;refine gA Z ?_;refine Pm (fun g4=>?_) (fun g4=>?_)
  .have g4:0<bb x y:=of_decide_eq_true g4;rw[am g4]at G;have I:R=(a0++ [(jp,y)])++c9 bb (x::C) D:=by rw[G,PH];rfl
   refine gA Z (aE (kN y (by omega)) Z Z Z Z Z Z ?_);refine gA Z ⟨⟨(x::C,D,a0++ [(jp,y)]),b,kG j,I,by simp;omega⟩,[3],by show _<_;simp,wk Z Z Z (bi ⟨pR y D,rfl,.row (by simp),rfl,ac⟩) (LJ Z (by rw[PF];exact(c7.refl _).app ⟨⟨.kb _,.refl _,.refl _,ac⟩,ac⟩) Z ac) Z⟩
  .have g4: ¬0<bb x y:=of_decide_eq_false g4;rw[be g4]at G;refine gA Z ⟨⟨(C,D,a0),kG b,kG j,G,by simp;omega⟩,[1],by show _<_;simp;omega,wk Z Z Z ⟨pR x C,rfl,pR y D,rfl,bi ac⟩ (hR Z Z Z ac) Z⟩
theorem xa{α:Type}[Inhabited α]{a b:List α}(hl:a.length=b.length)(h: ∀j,j<a.length->a.getD j co=b.getD j co):a=b:=by
 refine List.ext_getElem hl fun i h1 u=>?_;have:=h i h1;rwa[Pk,Pk,Pl h1,Pl u]at this
theorem xU{α:Type}[Inhabited α]{a b:List α}{i:Nat}(h: ¬a.getD i co=b.getD i co):a≠b:=fun e=>h (by rw[e])
theorem yT(a b:List dG)(ha:a.length<=1000000000):Pure prog 37 [.iv (bN 3 a dG.c),.iv (bN 3 b dG.c)] (pB (lc (a=b))):=by
 refine ai ab func37 Z (by decide) ntmps37 Z (by simp) Z ?_;refine gA Z ?_;refine Pm (fun u=>?_) (fun u=>?_)
 .have u: ¬a.length=b.length:=by
   intro e;have g:(!lc ((a.length:Int)=(b.length:Int)))=jp:=u;rw[e]at g;simp at g
  rw[decide_eq_false fun e=>u (by rw[e])];refine gA Z (aQ (by first|exact .inr Z|exact .inl Z) Z (.of_eq ?_));rfl
 have u:a.length=b.length:=by
  have g:(!lc ((a.length:Int)=(b.length:Int)))=kw:=u;rw[Q8,decide_eq_true_eq]at g;exact Int.ofNat_inj.1 g
 refine gA Z ?_;refine aJ 0 a.length (PA _) (fun i=>⟨[(0,.iv (bN 3 a dG.c)),(1,.iv (bN 3 b dG.c)),(5,pI i)],[],0⟩) (fun i=> ∀j,j<i->a.getD j co=b.getD j co) [] (fun j A=>absurd A (Rr j))
  (wk Z Z Z (bi (bi (bi trivial))) trivial Z) fun i G C=>?_
 refine gA Z ?_;refine Pm (fun h1=>?_) (fun h1=>?_)
 .have h1:i<a.length:=by simpa using h1
  have D:(lc ((a.getD i co).kind=(b.getD i co).kind)&&(lc ((a.getD i co).num=(b.getD i co).num)&&(lc ((a.getD i co).sym=(b.getD i co).sym)&&jp)))=lc (a.getD i co=b.getD i co):=by
   generalize a.getD i co=x;generalize b.getD i co=y;cases x;cases y;simp[dG.mk.injEq]
  refine gA Z ?_;refine Pm (fun B=>?_) (fun B=>?_)
  .have g:(!(lc ((a.getD i co).kind=(b.getD i co).kind)&&(lc ((a.getD i co).num=(b.getD i co).num)&&(lc ((a.getD i co).sym=(b.getD i co).sym)&&jp))))=jp:=B;rw[D]at g;have g: ¬a.getD i co=b.getD i co:=by simpa using g
   rw[decide_eq_false (xU g)];refine gA Z (aQ (by first|exact .inr Z|exact .inl Z) Z (.of_eq ?_));rfl
  .have g:(!(lc ((a.getD i co).kind=(b.getD i co).kind)&&(lc ((a.getD i co).num=(b.getD i co).num)&&(lc ((a.getD i co).sym=(b.getD i co).sym)&&jp))))=kw:=B;rw[D]at g;have g:a.getD i co=b.getD i co:=by simpa using g
   refine gA Z ⟨h1,fun j A=>by rcases Rn.1 A with h|h;exact C j h;exact h▸g,[],wk Z Z Z (bi (bi (bi ac))) ac Z⟩
 .have h1:a.length<=i:=by simpa using h1
  rw[decide_eq_true (xa u fun j A=>C j (by omega))];refine gA Z (aQ (by first|exact .inr Z|exact .inl Z) Z (.of_eq ?_));rfl
theorem uC(a b:Fact)(ha:a.args.length<=1000000000):Pure prog 22 [ag a.c,ag b.c] (pB (lc (a=b))):=by
 have u:lc (a=b)=(lc (a.rel=b.rel)&&lc (a.args=b.args)):=by
  cases a;cases b;simp[Fact.mk.injEq]
 rw[u];refine ai ab func22 Z (by decide) ntmps22 Z (by simp) Z ?_;refine gA Z ?_;refine Pm (fun j=>?_) (fun j=>?_)
 .have j:a.rel=b.rel:=of_decide_eq_true j;refine gA Z (aE (yT a.args b.args ha) Z Z Z Z Z Z ?_);refine gA Z (aQ (by first|exact .inr Z|exact .inl Z) Z (.of_eq ?_));rw[decide_eq_true j,RP];rfl
 .have j: ¬a.rel=b.rel:=of_decide_eq_false j;refine gA Z (aQ (by first|exact .inr Z|exact .inl Z) Z ?_);rw[decide_eq_false j,Q5];exact .of_eq Z
theorem yU(a b:List Fact)(hl:a.length<=1000000000)(ha: ∀f∈a,f.args.length<=1000000000):Pure prog 16 [.iv (bN 2 a Fact.c),.iv (bN 2 b Fact.c)] (pB (lc (a=b))):=by
 refine ai ab func16 Z (by decide) ntmps16 Z (by simp) Z ?_;refine gA Z ?_;refine Pm (fun u=>?_) (fun u=>?_)
 .have u: ¬a.length=b.length:=by
   intro e;have g:(!lc ((a.length:Int)=(b.length:Int)))=jp:=u;rw[e]at g;simp at g
  rw[decide_eq_false fun e=>u (by rw[e])];refine gA Z (aQ (by first|exact .inr Z|exact .inl Z) Z (.of_eq ?_));rfl
 have u:a.length=b.length:=by
  have g:(!lc ((a.length:Int)=(b.length:Int)))=kw:=u;rw[Q8,decide_eq_true_eq]at g;exact Int.ofNat_inj.1 g
 refine gA Z ?_;refine aJ 0 a.length (PA _) (fun i=>⟨[(0,.iv (bN 2 a Fact.c)),(1,.iv (bN 2 b Fact.c)),(5,pI i)],[],0⟩) (fun i=> ∀j,j<i->a.getD j co=b.getD j co) [] (fun j x=>absurd x (Rr j))
  (wk Z Z Z (bi (bi (bi trivial))) trivial Z) fun i C B=>?_
 refine gA Z ?_;refine Pm (fun h1=>?_) (fun h1=>?_)
 .have h1:i<a.length:=by simpa using h1
  have A:(a.getD i co).args.length<=1000000000:=ha _ (by rw[Pk,Pl h1];exact P3 h1);refine gA Z (bh ab [] (Pure.rK (uC (a.getD i co) (b.getD i co) A)) Z Z Z Z Z Z Z Z Z Z Z Z (by(repeat' (first|exact ac|exact rfl|exact ah.refl _|exact ah.bk (by assumption)|apply Pm))<;>first|omega|(simp only[Po];omega)|(simp;done)|(simp;omega)) Z (by(repeat' (first|exact ac|exact rfl|exact ah.refl _|exact ah.bk (by assumption)|apply Pm))<;>first|omega|(simp only[Po];omega)|(simp;done)|(simp;omega)) ?_);refine gA Z ?_;refine Pm (fun y=>?_) (fun y=>?_)
  .have g: ¬a.getD i co=b.getD i co:=by
    have g:(!lc (a.getD i co=b.getD i co))=jp:=y;simpa using g
   rw[decide_eq_false (xU g)];refine gA Z (aQ (by first|exact .inr Z|exact .inl Z) Z (.of_eq ?_));rfl
  .have g:a.getD i co=b.getD i co:=by
    have g:(!lc (a.getD i co=b.getD i co))=kw:=y;simpa using g
   refine gA Z ⟨h1,fun j x=>by rcases Rn.1 x with h|h;exact B j h;exact h▸g,[],wk Z Z Z (bi (bi (bi ac))) ac Z⟩
 .have h1:a.length<=i:=by simpa using h1
  rw[decide_eq_true (xa u fun j x=>B j (by omega))];refine gA Z (aQ (by first|exact .inr Z|exact .inl Z) Z (.of_eq ?_));rfl
end Go.Proofs.YtllkaddcplhklaaGreatDoor
namespace Go.Proofs.YtllkaddcplhklaaGreatDoor
open Go Go.Al Go.Bo
section
def LA:an:=⟨#[112]⟩
def gy(n:Int):Fact:=⟨LA,[⟨1,n,Pq⟩]⟩
theorem Ij(a b:Int):bb (gy a) (gy b)=jZ a b:=by
 have j:nV LA LA=0:=Oc.refl _;have u:nV Pq Pq=0:=Oc.refl _;have x:jZ 1 1=0:=TO.int.refl _;simp only[bb,gy,rh,cmpL,wJ,j,u,x];unfold rn;rw[am Z,am Z];split
 .rename_i q;rw[am Z,q]
 .rfl
theorem Fo{a b:Int}:jZ a b<0↔a<b:=by
 unfold jZ;split
 .simp;assumption
 .split<;>simp<;>omega
section
variable {ok:Fact->Bool} (hok: ∀n:Int, -1<=n->n<=65536->ok (gy n)=jp)
include hok
end
def more:List (bP Fact):=[(jp,gy 65536),(jp,gy (-1)),(kw,gy 0),(kw,gy 1)]
end
end Go.Proofs.YtllkaddcplhklaaGreatDoor
namespace Go.Proofs.YtllkaddcplhklaaGreatDoor
open Go Go.Al Go.Proofs.Tryz Go.Bo
theorem B0(n:Int):Pure prog 9 [pI n] (ag (gy n).c):=by
 refine ai ab func9 Z (by decide) ntmps9 Z (by simp) Z ?_;refine gA Z (ln (.inr Z) Z (iC.DS 1 [(⟨1,n,Pq⟩:dG)] dG.c Z Z (by simp[PV.c6,dP]) (.done (.of_eq (by simp only[PV.dZ,p4,PO];rfl)))))
def pX:Prog:=⟨[⟨LA,[1],⟨0,0⟩⟩],[]⟩
theorem Lv:pX.fit:=⟨by decide,by decide,fun r h=>nomatch h⟩
theorem D6:(oq pX).1=0:=by decide+kernel
theorem HD:pX.size<=10000000:=by decide
def l3:List (bP Fact):=[(jp,gy 2),(jp,gy 1),(kw,gy 2)]
theorem zm:jS bb (okF pX) [] l3=0:=by decide+kernel
theorem HW:c4 bb [] l3=[(jp,gy 1)]:=by decide+kernel
theorem HX:hQ bb [] l3=[gy 1]:=by decide+kernel
theorem N5:c9 bb [gy 1] [gy 2]=[(kw,gy 1),(jp,gy 2)]:=by
 have h:bb (gy 1) (gy 2)<0:=by rw[Ij,Fo];decide
 rw[qD,am h,kS];rfl
theorem OB:wi pX [] l3= .bq [.iv (bN 3 [(jp,gy 1)] en),pI 0]:=by unfold wi;rw[am zm,HW,zm]
theorem HY:jk bb (okF pX) ([],0) l3=([gy 1],1):=by unfold jk;rw[am zm,HX]
theorem NP(n:Int):tQ [gy n]:=fun f b=>by rw[Pw.1 b];show 1<=_;decide
theorem M9(n:Int):pj bb [gy n]:=RG _ _
theorem uS{i sz n b:Nat}{es:List (List PV)}(h: ∀e∈es,dP i sz n e):(AO.row b es).tZ i sz n:=h
theorem ki{i sz n:Nat}{p:Prog}{a b:Nat}:(bj p a b).tZ i sz n:=⟨ac,ac,ac,ac,ac⟩
theorem gF{α:Type}(i sz n b:Nat)(l:List α)(f:α->List IV):(aF b l f).tZ i sz n:=uS fun e j=>by
 obtain⟨x,_,rfl⟩:=PW.1 j;exact y9 _ _ _ _
abbrev LG(F:AF)(d i j k:Nat):AS:=⟨(d,.agg [.sl j 0 1 4,.iv (.v (.slice is 0 0))])::F,[(i,io (aF 1 [(1:Int)] jV)),(j,io (.row 4 [[pS LA,.sl i 0 1 1,pI 0,pI 0]]))],k⟩
theorem KV:To (LG [] 10 0 1 2) ⟨[(10,ag pX.c)],[],2⟩:=by
 refine(To.row (s:=LG [] 10 0 1 2) 0 (fun k=>jV ([(1:Int)].getD k co)) Z (fD Z) (by simp[AF.qy,PV.c6,dP]) ⟨gF _ _ _ _ _ _,uS (by simp[PV.c6,dP]),ac⟩).trans ?_;refine(To.wk (L:=[]) (t:=⟨[(10,.agg [.sl 1 0 1 4,.iv (.v (.slice is 0 0))])],[(1,io (aF 4 pX.aR Decl.c))],2⟩) (wk Z Z Z (bi ac) (LJ Z (show c7 [[pS LA,.iv (.ct 1 1 fun k=>jV ([(1:Int)].getD (0+k) co)),pI 0,pI 0]] [[pS LA,.iv (bN 1 [(1:Int)] jV),pI 0,pI 0]] from⟨⟨.refl _,.ct Z fun k _=>by rw[PO],.refl _,.refl _,ac⟩,ac⟩) Z ac) Z)).trans ?_;refine(To.row (s:=⟨[(10,.agg [.sl 1 0 1 4,.iv (.v (.slice is 0 0))])],[(1,io (aF 4 pX.aR Decl.c))],2⟩) 1 (fun k=>Decl.c (pX.aR.getD k co)) Z (fD Z) (by simp[AF.qy,PV.c6,dP,pX]) ⟨gF _ _ _ _ _ _,ac⟩).trans ?_;exact To.wk (L:=[]) (wk Z Z Z ⟨.agg ⟨.ct Z fun k _=>by rw[PO],.nil _ _,ac⟩,rfl,ac⟩ ac Z)
set_option maxHeartbeats 1000000 in
theorem DP(hS:fC):Pure prog 7 [] (pB jp):=by
 have B:=Ng hS pX Lv HD D6;have j:=DO [gy 1] [gy 2] (M9 1) (M9 2) (NP 1) (NP 2) (by decide) (by decide);rw[N5]at j
 have b:=yY pX 0 l3 (m:=[]) (S:=[]) (by decide) cE.nil (Go.Bo.eF.nil _ _) (fun x u=>by
  simp only[l3,Px,List.mem_nil_iff,or_false]at u
  rcases u with rfl|rfl|rfl<;>(show 1<=_;decide)) (by decide)
 simp only[OB,HY]at b;refine ai ab func7 Z (by decide) ntmps7 Z (by simp) Z ?_;refine gA Z (wB (t:=⟨[(10,ag pX.c)],[],2⟩) ((To.wk (L:=[]) (t:=LG [] 10 0 1 2) (wk Z Z Z (bi ac) (hR Z Z Z ⟨⟨_,rfl,.of_eq Z⟩,Pf Z,Hl Z,ac⟩) Z)).trans KV) ?_);refine gA Z (bQ [] (B) Z Z Z Z Z Z Z Z ?_);refine gA Z ?_;refine Pm (fun y=>?_) (fun y=>?_);rotate_left
 .exact absurd y (by decide)
 refine gA Z ?_;refine Pm (fun A=>?_) (fun A=>?_)
 .exact absurd A (by decide)
 refine gA Z (aE (B0 2) Z Z Z Z Z Z ?_);refine gA Z (aE (B0 1) Z Z Z Z Z Z ?_);refine gA Z (aE (B0 2) Z Z Z Z Z Z ?_)
 refine gA Z (wB (t:=⟨[(1,.ptr 3 0),(21,.ptr 3 0),(28,.iv (bN 3 l3 en))],[(2,io (aS [])),(3,io (bj pX 0 2))],5⟩) (((To.wk (L:=[]) (t:=⟨[(1,.ptr 3 0),(21,.ptr 3 0),(28,.sl 4 0 3 3)],[(2,io (aS [])),(3,io (bj pX 0 2)),(4,io (aF 3 l3 en))],5⟩) (wk Z Z Z (bi (bi (bi ac))) (hM Z Z Z ⟨⟨_,rfl,.of_eq Z⟩,Pf Z,rfl,(LJ Z (show c7 [[PV.kb jp,.iv (iS (gy 2).rel),.iv (bN 3 (gy 2).args dG.c)],[PV.kb jp,.iv (iS (gy 1).rel),.iv (bN 3 (gy 1).args dG.c)],[pB kw,.iv (iS (gy 2).rel),.iv (bN 3 (gy 2).args dG.c)]] [[pB jp,.iv (iS (gy 2).rel),.iv (bN 3 (gy 2).args dG.c)],[pB jp,.iv (iS (gy 1).rel),.iv (bN 3 (gy 1).args dG.c)],[pB kw,.iv (iS (gy 2).rel),.iv (bN 3 (gy 2).args dG.c)]] from⟨⟨.kb _,.refl _,.refl _,ac⟩,⟨.kb _,.refl _,.refl _,ac⟩,⟨.refl _,.refl _,.refl _,ac⟩,ac⟩) Z ac)⟩) Z)).trans
  (To.row (s:=⟨[(1,.ptr 3 0),(21,.ptr 3 0),(28,.sl 4 0 3 3)],[(2,io (aS [])),(3,io (bj pX 0 2)),(4,io (aF 3 l3 en))],5⟩) 4 (fun k=>en (l3.getD k co)) Z (fD Z) (by simp[AF.qy,PV.c6,l3]) ⟨ac,ki,gF _ _ _ _ _ _,ac⟩)).trans
  (To.wk (L:=[]) (wk Z Z Z (bi (bi ⟨.ct Z (fun k _=>by rw[PO]),rfl,ac⟩)) (hM Z Z Z ⟨⟨_,rfl,.of_eq Z⟩,Pf Z,rfl,ac⟩) Z))) ?_)
 refine gA Z (sZ [2,3] b Z Z Z Z Z Z Z ?_);rintro r C D ⟨m1,hk1,rfl,rfl,rfl⟩;refine⟨_,rfl,?_⟩;refine gA Z (aE (B0 1) Z Z Z Z Z Z ?_);refine gA Z (aE (B0 2) Z Z Z Z Z Z ?_)
 refine gA Z (wB (t:=⟨[(1,.ptr 3 0),(3,.iv (bN 3 [((jp,gy 1):bP Fact)] en)),(4,pI 0),(33,ba [gy 1]),(35,ba [gy 2])],[(2,io (aS m1)),(3,io (bj pX 1 2))],7⟩) ((((To.wk (L:=[]) (t:=⟨[(1,.ptr 3 0),(3,.iv (bN 3 [((jp,gy 1):bP Fact)] en)),(4,pI 0),(33,.sl 5 0 1 2),(35,.sl 6 0 1 2)],[(2,io (aS m1)),(3,io (bj pX 1 2)),(5,io (aF 2 [gy 1] Fact.c)),(6,io (aF 2 [gy 2] Fact.c))],7⟩) (wk Z Z Z (bi (bi (bi (bi (bi ac))))) (hM Z Z Z ⟨⟨_,rfl,.of_eq Z⟩,Pf Z,rfl,(hR Z Z Z (hR Z Z Z ac))⟩) Z)).trans
  (To.row (s:=⟨[(1,.ptr 3 0),(3,.iv (bN 3 [((jp,gy 1):bP Fact)] en)),(4,pI 0),(33,.sl 5 0 1 2),(35,.sl 6 0 1 2)],[(2,io (aS m1)),(3,io (bj pX 1 2)),(5,io (aF 2 [gy 1] Fact.c)),(6,io (aF 2 [gy 2] Fact.c))],7⟩) 5 (fun k=>Fact.c ([gy 1].getD k co)) Z (fD Z) (by simp[AF.qy,PV.c6]) ⟨ac,ki,gF _ _ _ _ _ _,gF _ _ _ _ _ _,ac⟩)).trans
  (To.wk (L:=[]) (t:=⟨[(1,.ptr 3 0),(3,.iv (bN 3 [((jp,gy 1):bP Fact)] en)),(4,pI 0),(33,ba [gy 1]),(35,.sl 6 0 1 2)],[(2,io (aS m1)),(3,io (bj pX 1 2)),(6,io (aF 2 [gy 2] Fact.c))],7⟩) (wk Z Z Z (bi (bi (bi ⟨.ct Z (fun k _=>by rw[PO]),rfl,bi ac⟩))) (hM Z Z Z ⟨⟨_,rfl,.of_eq Z⟩,Pf Z,rfl,(hR Z Z Z ac)⟩) Z))).trans
  ((To.row (s:=⟨[(1,.ptr 3 0),(3,.iv (bN 3 [((jp,gy 1):bP Fact)] en)),(4,pI 0),(33,ba [gy 1]),(35,.sl 6 0 1 2)],[(2,io (aS m1)),(3,io (bj pX 1 2)),(6,io (aF 2 [gy 2] Fact.c))],7⟩) 6 (fun k=>Fact.c ([gy 2].getD k co)) Z (fD Z) (by simp[AF.qy,PV.c6]) ⟨ac,ki,gF _ _ _ _ _ _,ac⟩).trans
  (To.wk (L:=[]) (wk Z Z Z (bi (bi (bi (bi ⟨.ct Z (fun k _=>by rw[PO]),rfl,ac⟩)))) (hM Z Z Z ⟨⟨_,rfl,.of_eq Z⟩,Pf Z,rfl,ac⟩) Z)))) ?_)
 refine gA Z (aE (j) Z Z Z Z Z Z ?_);refine gA Z ?_;refine Pm (fun g1=>?_) (fun g1=>?_);rotate_left
 .exact absurd g1 (by decide)
 refine gA Z ?_;refine Pm (fun g2=>?_) (fun g2=>?_);rotate_left
 .exact absurd g2 (by decide)
 refine gA Z ?_;refine Pm (fun g3=>?_) (fun g3=>?_);rotate_left
 .exact absurd g3 (by decide)
 refine gA Z (bh ab [] (Pure.rK (B0 1)) Z Z Z Z Z Z Z Z Z Z Z Z (by(repeat' (first|exact ac|exact rfl|exact ah.refl _|exact ah.bk (by assumption)|apply Pm))<;>first|omega|(simp only[Po];omega)|(simp;done)|(simp;omega)) Z (by(repeat' (first|exact ac|exact rfl|exact ah.refl _|exact ah.bk (by assumption)|apply Pm))<;>first|omega|(simp only[Po];omega)|(simp;done)|(simp;omega)) ?_);refine gA Z (bh ab [] (Pure.rK (uC (gy 1) (gy 1) (by show 1<=_;decide))) Z Z Z Z Z Z Z Z Z Z Z Z (by(repeat' (first|exact ac|exact rfl|exact ah.refl _|exact ah.bk (by assumption)|apply Pm))<;>first|omega|(simp only[Po];omega)|(simp;done)|(simp;omega)) Z (by(repeat' (first|exact ac|exact rfl|exact ah.refl _|exact ah.bk (by assumption)|apply Pm))<;>first|omega|(simp only[Po];omega)|(simp;done)|(simp;omega)) ?_);refine gA Z ?_;refine Pm (fun g4=>?_) (fun g4=>?_);rotate_left
 .exact absurd g4 (by simp)
 refine gA Z (bh ab [2,3] (Aw pX 1 m1) Z Z Z Z Z Z Z Z Z Z Z Z (by(repeat' (first|exact ac|exact rfl|exact ah.refl _|exact ah.bk (by assumption)|apply Pm))<;>first|omega|(simp only[Po];omega)|(simp;done)|(simp;omega)) Z (by(repeat' (first|exact ac|exact rfl|exact ah.refl _|exact ah.bk (by assumption)|apply Pm))<;>first|omega|(simp only[Po];omega)|(simp;done)|(simp;omega)) ?_);refine gA Z ?_;refine Pm (fun g5=>?_) (fun g5=>?_);rotate_left
 .exact absurd g5 (by decide)
 refine gA Z (aQ (by first|exact .inr Z|exact .inl Z) Z (.of_eq ?_));rfl
abbrev Fy(l:List (bP Fact)):List IV:=[bN 3 l en]
def yI(p:Prog)(bs:List (List (bP Fact)))(i:Nat):Ol Fact:=(bs.take i).foldl (jk bb (okF p)) ([],0)
theorem r8{p:Prog}{bs:List (List (bP Fact))}{i:Nat}(h:i<bs.length):yI p bs (i+1)=jk bb (okF p) (yI p bs i) (bs.getD i co):=by
 unfold yI;rw[fU h]
theorem oC{p:Prog}{bs:List (List (bP Fact))}: ∀i,Go.Bo.eF bb (okF p) (yI p bs i).1
 |0=>Go.Bo.eF.nil _ _
 |i+1=>by
  by_cases h:i<bs.length
  .rw[r8 h];exact(oC i).done mS _
  .have:yI p bs (i+1)=yI p bs i:=by unfold yI;rw[Pz (by omega),Pz (by omega)]
   rw[this];exact oC i
theorem rk{p:Prog}{bs:List (List (bP Fact))}: ∀i,(yI p bs i).2<=i
 |0=>Ps _
 |i+1=>by
  by_cases h:i<bs.length
  .rw[r8 h];have:=rk (p:=p) (bs:=bs) i;unfold jk;split
   .show(yI p bs i).2+1<=_;omega
   .omega
  .have:yI p bs (i+1)=yI p bs i:=by unfold yI;rw[Pz (by omega),Pz (by omega)]
   rw[this];have:=rk (p:=p) (bs:=bs) i;omega
theorem vl{p:Prog}{S:List Fact}(h:Go.Bo.eF bb (okF p) S)(k:Nat):Go.Bo.eF bb (okF p) (S.drop k):=
 ⟨List.Pairwise.sublist (List.drop_sublist _ _) h.yQ,fun f b=>h.ok f (List.mem_of_mem_drop b),by have:=h.Oe;rw[List.length_drop];omega⟩
theorem EX{p:Prog}{S:List Fact}(h:Go.Bo.eF bb (okF p) S):tQ S:=fun f b=>by have:=gh (h.ok f b);omega
theorem Bb{p:Prog}{m:FM}{S:List Fact}(hk:cE bu m S)(h:Go.Bo.eF bb (okF p) S)(f:Fact):hasB m f=(lc (f.args.length<=8)&&lc (f∈S)):=by
 unfold hasB;rw[u4 hk (fun g b=>gh (h.ok g b))]
theorem Nx{p:Prog}{S:List Fact}{x:Fact}(h:Go.Bo.eF bb (okF p) (x::S))(j:Nat):wi p S [(jp,x)]= .bq [.iv (bN 3 [((jp,x):bP Fact)] en),pI 0]∧jk bb (okF p) (S,j) [(jp,x)]=(x::S,j+1):=by
 have h1:=Eh mS h;refine⟨?_,?_⟩
 .unfold wi;rw[am h1,BJ mS h.yQ,h1]
 .unfold jk;rw[am h1,uU mS h.yQ]
set_option maxHeartbeats 4000000 in
theorem B2(hS:fC)(p:Prog)(bs:List (List (bP Fact)))(f:Fact)(hb:p.fit)(hs:p.size<=10000000)(hl:bs.length<=1000000000)(hF: ∀l∈bs,∀x∈l,x.2.args.length<=1000000000):
  Pure prog 4 [ag p.c,.iv (bN 1 bs Fy),ag f.c] (pB jp):=by
 by_cases J:(oq p).1=0;rotate_left
 .refine ai ab func4 Z (by decide) ntmps4 Z (by simp) Z ?_;refine gA Z (aE (DP hS) Z Z Z Z Z Z ?_);refine gA Z (aE (DB hS p hb hs J) Z Z Z Z Z Z ?_);refine gA Z (aE (DB hS p hb hs J) Z Z Z Z Z Z ?_);refine gA Z ?_;refine Pm (fun b=>?_) (fun b=>?_)<;>(try(exact absurd b (by decide)))
  refine gA Z ?_;refine Pm (fun b=>?_) (fun b=>?_)<;>(try(exact absurd b (by decide)))
  refine gA Z ?_;refine Pm (fun b=>?_) (fun b=>?_)<;>(try(exact absurd b (by decide)))
  refine gA Z ?_;refine Pm (fun b=>?_) (fun b=>?_)<;>(try(exact absurd b (by decide)))
  refine gA Z ?_;refine Pm (fun b=>?_) (fun b=>?_)<;>(try(exact absurd b (by decide)))
  refine gA Z (aQ (by first|exact .inr Z|exact .inl Z) Z (.of_eq ?_));rfl
 have hN:=Ng hS p hb hs J;have G:p.aR.length<=1000000000:=hb.1;have a0:=oC (p:=p) (bs:=bs) bs.length;have g0:=rk (p:=p) (bs:=bs) bs.length;have y:=a0.Oe;have u:=EX a0;refine ai ab func4 Z (by decide) ntmps4 Z (by simp) Z ?_;refine gA Z (aE (DP hS) Z Z Z Z Z Z ?_);refine gA Z (bQ [] (hN) Z Z Z Z Z Z Z Z ?_);refine gA Z (bQ [] (hN) Z Z Z Z Z Z Z Z ?_);refine gA Z ?_;refine Pm (fun b=>?_) (fun b=>?_)<;>(try(exact absurd b (by decide)))
 refine gA Z ?_;refine Pm (fun b=>?_) (fun b=>?_)<;>(try(exact absurd b (by decide)))
 refine gA Z ?_;refine Pm (fun b=>?_) (fun b=>?_)<;>(try(exact absurd b (by decide)))
 refine gA Z ?_;refine Pm (fun b=>?_) (fun b=>?_)<;>(try(exact absurd b (by decide)))
 refine gA Z ?_;refine Pm (fun b=>?_) (fun b=>?_)<;>(try(exact absurd b (by decide)))
 refine gA Z ?_;refine rE 0 bs.length (PA _) (fun i m=>⟨[(1,.iv (bN 1 bs Fy)),(5,.ptr 1 0),(8,.ptr 3 0),(10,.ptr 5 0),(12,pI i)],[(1,io (aw f.c)),(2,io (aS m)),(3,io (bj p (yI p bs i).2 2)),(4,io (aS [])),(5,io (bj p 0 4))],6⟩) (fun i m=>cE bu m (yI p bs i).1) ([]:FM) [] cE.nil
  (wk Z Z Z (bi (bi (bi (bi (bi trivial))))) (hC Z Z Z (hM Z Z Z ⟨⟨_,rfl,.of_eq Z⟩,Pf Z,rfl,(hM Z Z Z ⟨⟨_,rfl,.of_eq Z⟩,Pf Z,rfl,ac⟩)⟩)) Z) fun i m hi hk=>?_
 have i0:=rk (p:=p) (bs:=bs) i;refine gA Z ?_;refine Pm (fun g1=>?_) (fun g1=>?_)
 .have g1:i<bs.length:=by simpa using g1
  have B:bs.getD i co∈bs:=by rw[Pk,Pl g1];exact P3 g1
  have I:=r8 (p:=p) g1;refine gA Z (sZ [2,3] (yY p (yI p bs i).2 (bs.getD i co) G hk (oC i) (hF _ B) (by omega)) Z Z Z Z Z Z Z ?_);rintro r h' n' ⟨m1,hk1,rfl,rfl,rfl⟩;refine⟨_,rfl,?_⟩;refine gA Z ⟨g1,m1,[],by rw[I];exact hk1,wk Z Z Z (bi (bi (bi (bi (bi ac))))) (hC Z Z Z (hM Z Z Z ⟨⟨_,rfl,.of_eq (by rw[I];rfl)⟩,Pf Z,rfl,(hM Z Z Z ⟨⟨_,rfl,.of_eq Z⟩,Pf Z,rfl,ac⟩)⟩)) Z⟩
 .have g1:bs.length<=i:=by simpa using g1
  have c0:i=bs.length:=by omega
  subst c0;obtain⟨S,N,R⟩: ∃S N,yI p bs bs.length=(S,N):=⟨_,_,rfl⟩
  rw[R]at a0 g0 y u hk ⊢;have a0:Go.Bo.eF bb (okF p) S:=a0;have hk:cE bu m S:=hk;have y:S.length<=65536:=y;have u:tQ S:=u;have B:=hk.len;refine gA Z (bQ [2,3] (DG p N hk a0.yQ u (by omega)) Z Z Z Z Z Z Z Z ?_);refine gA Z ?_;refine rE 0 S.length (PA _) (fun j m2=>⟨[(5,.ptr 1 0),(8,.ptr 3 0),(10,.ptr 5 0),(13,ba S),(14,pI ((S.length:Int)-1-(j:Int)))],[(1,io (aw f.c)),(2,io (aS m)),(3,io (bj p N 2)),(4,io (aS m2)),(5,io (bj p j 4))],6⟩) (fun j m2=>cE bu m2 (S.drop (S.length-j))) ([]:FM) [] (by rw[RX,List.drop_length];exact cE.nil)
   (wk Z Z Z (bi (bi (bi (bi ⟨bt (by omega),rfl,ac⟩)))) (hC Z Z Z (hM Z Z Z ⟨⟨_,rfl,.of_eq Z⟩,Pf Z,rfl,(hM Z Z Z ⟨⟨_,rfl,.of_eq Z⟩,Pf Z,rfl,ac⟩)⟩)) Z) fun j m2 hj A=>?_
  refine gA Z ?_;refine Pm (fun g2=>?_) (fun g2=>?_)
  .have g2:j<S.length:=by have:=of_decide_eq_true g2;omega
   obtain⟨q,hq⟩: ∃q,q=S.length-1-j:=⟨_,rfl⟩
   have f0:((S.length:Int)-1-(j:Int)).toNat=q:=by omega
   have C:S.drop q=S.getD q co::S.drop (S.length-j):=by
    rw[Pk,Pl (by omega:q<S.length),Qf,Rf (by omega:q<S.length),show q+1=S.length-j by omega]
   have D:=vl a0 q;rw[C]at D;obtain⟨o1,o2⟩:=Nx D j;have hA:=yY p j [(jp,S.getD q co)] G A (vl a0 _) (fun x hx=>by rw[Pw.1 hx];exact u _ (ve (by omega))) (by omega);simp only[o1,o2]at hA
   refine gA Z (wB (t:=⟨[(5,.ptr 1 0),(8,.ptr 3 0),(10,.ptr 5 0),(13,ba S),(14,pI ((S.length:Int)-1-(j:Int))),(74,.ptr 5 0),(80,.iv (bN 3 [((jp,S.getD q co):bP Fact)] en))],[(1,io (aw f.c)),(2,io (aS m)),(3,io (bj p N 2)),(4,io (aS m2)),(5,io (bj p j 4))],7⟩)
    (((To.wk (L:=[]) (t:=⟨[(5,.ptr 1 0),(8,.ptr 3 0),(10,.ptr 5 0),(13,ba S),(14,pI ((S.length:Int)-1-(j:Int))),(74,.ptr 5 0),(80,.sl 6 0 1 3)],[(1,io (aw f.c)),(2,io (aS m)),(3,io (bj p N 2)),(4,io (aS m2)),(5,io (bj p j 4)),(6,io (aF 3 [((jp,S.getD q co):bP Fact)] en))],7⟩)
     (wk Z Z Z (bi (bi (bi (bi (bi (bi (bi ac))))))) (hC Z Z Z (hM Z Z Z ⟨⟨_,rfl,.of_eq Z⟩,Pf Z,rfl,(hM Z Z Z ⟨⟨_,rfl,.of_eq Z⟩,Pf Z,rfl,(LJ Z (show c7 [[PV.kb jp,.iv (iS (S.getD ((S.length:Int)-1-(j:Int)).toNat co).rel),.iv (bN 3 (S.getD ((S.length:Int)-1-(j:Int)).toNat co).args dG.c)]] [[pB jp,.iv (iS (S.getD q co).rel),.iv (bN 3 (S.getD q co).args dG.c)]] from by rw[f0];exact⟨⟨.kb _,.refl _,.refl _,ac⟩,ac⟩) Z ac)⟩)⟩)) Z)).trans
    (To.row (s:=⟨[(5,.ptr 1 0),(8,.ptr 3 0),(10,.ptr 5 0),(13,ba S),(14,pI ((S.length:Int)-1-(j:Int))),(74,.ptr 5 0),(80,.sl 6 0 1 3)],[(1,io (aw f.c)),(2,io (aS m)),(3,io (bj p N 2)),(4,io (aS m2)),(5,io (bj p j 4)),(6,io (aF 3 [((jp,S.getD q co):bP Fact)] en))],7⟩) 6 (fun k=>en ([((jp,S.getD q co):bP Fact)].getD k co)) Z (fD Z) (by simp[AF.qy,PV.c6]) ⟨y9 _ _ _ _,ac,ki,ac,ki,gF _ _ _ _ _ _,ac⟩)).trans
    (To.wk (L:=[]) (wk Z Z Z (bi (bi (bi (bi (bi (bi ⟨.ct Z (fun k _=>by rw[PO]),rfl,ac⟩)))))) (hC Z Z Z (hM Z Z Z ⟨⟨_,rfl,.of_eq Z⟩,Pf Z,rfl,(hM Z Z Z ⟨⟨_,rfl,.of_eq Z⟩,Pf Z,rfl,ac⟩)⟩)) Z))) ?_)
   refine gA Z (sZ [4,5] hA Z Z Z Z Z Z Z ?_);rintro r h' n' ⟨m3,hk3,rfl,rfl,rfl⟩;refine⟨_,rfl,?_⟩;refine gA Z ?_;refine Pm (fun b=>?_) (fun b=>?_)<;>(try(exact absurd b (by decide)))
   refine gA Z ?_;refine Pm (fun b=>?_) (fun b=>?_)<;>(try(exfalso;revert b;simp;done))
   refine gA Z ⟨g2,m3,[],by rw[show S.length-(j+1)=q by omega,C];exact hk3,wk Z Z Z (bi (bi (bi (bi ⟨bt (by omega),rfl,ac⟩)))) (hC Z Z Z (hM Z Z Z ⟨⟨_,rfl,.of_eq Z⟩,Pf Z,rfl,(hM Z Z Z ⟨⟨_,rfl,.of_eq Z⟩,Pf Z,rfl,ac⟩)⟩)) Z⟩
  .have g2: ¬j<S.length:=by have:=of_decide_eq_false g2;omega
   have d0:j=S.length:=by omega
   subst d0;rw[Nat.sub_self,List.drop_zero]at A;have e0:=A.len;have Y:=Bb hk a0 f;have b0:=Bb A a0 f;refine gA Z (bQ [4,5] (Aw p S.length m2) Z Z Z Z Z Z Z Z ?_);refine gA Z ?_;refine Pm (fun b=>?_) (fun b=>?_)<;>(try(exfalso;revert b;simp;done))
   refine gA Z (bh ab [2,3] (iw p N m) Z Z Z Z Z Z Z Z Z Z Z Z (by(repeat' (first|exact ac|exact rfl|exact ah.refl _|exact ah.bk (by assumption)|apply Pm))<;>first|omega|(simp only[Po];omega)|(simp;done)|(simp;omega)) Z (by(repeat' (first|exact ac|exact rfl|exact ah.refl _|exact ah.bk (by assumption)|apply Pm))<;>first|omega|(simp only[Po];omega)|(simp;done)|(simp;omega)) ?_);refine gA Z ?_;refine Pm (fun b=>?_) (fun b=>?_)<;>(try(exfalso;revert b;simp;omega))
   refine gA Z (bh ab [4,5] (DG p S.length A a0.yQ u (by omega)) Z Z Z Z Z Z Z Z Z Z Z Z (by(repeat' (first|exact ac|exact rfl|exact ah.refl _|exact ah.bk (by assumption)|apply Pm))<;>first|omega|(simp only[Po];omega)|(simp;done)|(simp;omega)) Z (by(repeat' (first|exact ac|exact rfl|exact ah.refl _|exact ah.bk (by assumption)|apply Pm))<;>first|omega|(simp only[Po];omega)|(simp;done)|(simp;omega)) ?_);refine gA Z (bh ab [] (Pure.rK (yU S S (by omega) u)) Z Z Z Z Z Z Z Z Z Z Z Z (by(repeat' (first|exact ac|exact rfl|exact ah.refl _|exact ah.bk (by assumption)|apply Pm))<;>first|omega|(simp only[Po];omega)|(simp;done)|(simp;omega)) Z (by(repeat' (first|exact ac|exact rfl|exact ah.refl _|exact ah.bk (by assumption)|apply Pm))<;>first|omega|(simp only[Po];omega)|(simp;done)|(simp;omega)) ?_);refine gA Z ?_;refine Pm (fun b=>?_) (fun b=>?_)<;>(try(exfalso;revert b;simp;done))
   refine gA Z (bh ab [2,3] (No p N m f) Z Z Z Z Z Z Z Z Z Z Z Z (by(repeat' (first|exact ac|exact rfl|exact ah.refl _|exact ah.bk (by assumption)|apply Pm))<;>first|omega|(simp only[Po];omega)|(simp;done)|(simp;omega)) Z (by(repeat' (first|exact ac|exact rfl|exact ah.refl _|exact ah.bk (by assumption)|apply Pm))<;>first|omega|(simp only[Po];omega)|(simp;done)|(simp;omega)) ?_);refine gA Z (bh ab [4,5] (No p S.length m2 f) Z Z Z Z Z Z Z Z Z Z Z Z (by(repeat' (first|exact ac|exact rfl|exact ah.refl _|exact ah.bk (by assumption)|apply Pm))<;>first|omega|(simp only[Po];omega)|(simp;done)|(simp;omega)) Z (by(repeat' (first|exact ac|exact rfl|exact ah.refl _|exact ah.bk (by assumption)|apply Pm))<;>first|omega|(simp only[Po];omega)|(simp;done)|(simp;omega)) ?_);refine gA Z (aQ (by first|exact .inr Z|exact .inl Z) Z (.of_eq ?_));show pB (hasB m f==hasB m2 f)=pB jp;rw[Y,b0];simp
end Go.Proofs.YtllkaddcplhklaaGreatDoor
namespace Go.Proofs.YtllkaddcplhklaaGreatDoor
open Go Go.Al Go.Proofs.Tryz Go.Bo Go.ChangeShapes Go.WideShapes Go.RowKit
section
theorem L2:prog.cellsOf 4=1:=by kernel_rfl
theorem Iu:prog.cellsOf 36=1:=by kernel_rfl
theorem By:prog.cellsOf 42=3:=by kernel_rfl
section
variable {H:Type} {enc:TypeId×Value->H} {W:World} {hT:kJ W} {sp:Nat->Bool} {held:Bool}
def QC(x:bP Fact)(d:DataW H):Prop:=x.2.args.length<=bk d
theorem Hv(n:Nat):Rd enc prog W hT sp held 4 (fun b=> [.v (.bool b)]) (fun _ _=>True) n:=by
 intro m _ j y h;obtain⟨b,rfl,rfl⟩:=DataW.trod_bool underlying4 h;exact⟨b,.one (.v _),ac⟩
theorem Lo(n:Nat):Rd enc prog W hT sp held 42 en QC n:=by
 intro m _ D y h;obtain⟨C,k,rfl,rfl,hl,A,j⟩:=DataW.trod_struct underlying42 h
 match C,A with
 | [x0,x1],_=>
  obtain⟨a,u,_⟩:=Hv (hT:=hT) k k (Ps _) _ _ (lJ j 0 Z Z Z L2 Z);obtain⟨b,x,B⟩:=AG (hT:=hT) k k (Ps _) _ _ (lJ j 1 Z Z Z Bz Z);refine⟨(a,b),u.ef (o':=1) Z (x.ef (o':=3) Z (.end_ (hl.trans By))),?_⟩;simp only[QF,bk]at B;simp only[QC,bk,Py,Qb,Rows.uptoBulk,Rows.uptoBulkAll];omega
theorem Hu(n:Nat):Rd enc prog W hT sp held 36 Fy (QL QC) n:=
 (fy (hT:=hT) underlying36 By (by decide) (fun _=>rfl) (Lo n)).mono (QO n)
theorem y6(n:Nat):Rd enc prog W hT sp held 47 (fun l:List (List (bP Fact))=> [bN 1 l Fy]) (QL (QL QC)) n:=
 (fy (hT:=hT) underlying47 Iu (by decide) (fun _=>rfl) (Hu n)).mono (QO n)
end
theorem Io{H:Type}{x:List (bP Fact)}{d:DataW H}(h:QL QC x d)(hb:bk d<=1048576): ∀y∈x,y.2.args.length<=1000000000:=fun y b=>by
 obtain⟨e,h1,j⟩:=h.all y b;simp only[QC]at h1;omega
theorem IE{H:Type}{x:List (List (bP Fact))}{d:DataW H}(h:QL (QL QC) x d)(hb:bk d<=1048576): ∀l∈x,∀y∈l,y.2.args.length<=1000000000:=fun l hl=>by
 obtain⟨e,h1,b⟩:=h.all l hl;exact Io h1 (by omega)
theorem FA{H:Type}{enc:TypeId×Value->H}{W:World}(hT:kJ W){v:Value}{d:DataW H}{p:List MemPlace}(b: ∃base,Value.okWide prog W .any base 39 v)(h:DataW.Trod enc prog W 0 (fun _=>jp) jp 39 v d p):
  ∃x:Fact,QF x d∧VR (Mem.nW W hT) Md (· <0) (ag x.c) v:=by
 obtain⟨base,b⟩:=b;obtain⟨y,rfl,_⟩:=okWide_struct underlying39 b;obtain⟨n,u⟩:=h;obtain⟨r,h1,j⟩:=AG (hT:=hT) n n (Ps _) _ _ u;exact⟨r,j,h1.agg⟩
theorem yD{H:Type}{enc:TypeId×Value->H}{W:World}(hT:kJ W){v:Value}{d:DataW H}{p:List MemPlace}(b: ∃base,Value.okWide prog W .any base 47 v)(h:DataW.Trod enc prog W 0 (fun _=>jp) jp 47 v d p):
  ∃x:List (List (bP Fact)),QL (QL QC) x d∧VR (Mem.nW W hT) Md (· <0) (.iv (bN 1 x Fy)) v:=by
 obtain⟨base,b⟩:=b;obtain⟨a,len,a0,rfl⟩:=okWide_slice underlying47 b;obtain⟨n,u⟩:=h;obtain⟨r,h1,j⟩:=y6 (hT:=hT) n n (Ps _) _ _ u;exact⟨r,j,Ke h1⟩
end
end Go.Proofs.YtllkaddcplhklaaGreatDoor
namespace Go.Proofs.YtllkaddcplhklaaGreatDoor
open Go Go.Al Go.Proofs.Tryz Go.ChangeShapes Go.WideShapes Go.RowKit
theorem jQ:prog.closure 4=[4,7,8,23,38,39,64,63,82,116,152,117,93,138,179,204,212,180,73,83,118,153,185,186,205,213,218,187,188,206,141,214,219,221,222,223,224,104,227,228,225,226,229,230,231,232,220,154,189,119,155,190,207,191,208,209,216,215,217,192,210,120,135,156,193,121,157,162,122,124,125,123,158,126,127,128,129,159,194,160,90,137,161,130,163,195,164,166,196,165,167,131,132,168,197,198,85,136,169,199,133,62,40,65,66,84,76,103,134,170,176,203,171,200,172,143,144,173,201,202,211,174,175,177,178,67,41,68,86,87,88,69,89,70,91,24,42,43,44,71,72,92,9,10,25,45,74,94,139,181,140,46,48,47,26,49,27,50,75,95,96,142,97,98,145,146,182,99,100,101,102,51,34,60,79,114,61,80,81,115,151,59,19,33,54,55,78,105,113,150,184,58,57,56,35,22,37,13,15,28,31,52,77,106,147,107,108,148,149,183,109,110,111,112,12,29,16,14,30]:=by kernel_rfl
theorem tm:joinedFacts prog 4 f4 (Rows.OpenSpec.upto Rows.baseSameSpec).bare Rows.baseSameUptoRow=jp:=by
 have h1:prog.inPlace 4=Rows.baseSameUptoRow.inPlace:=by unfold Program.inPlace;rw[jQ];kernel_rfl
 have b:prog.unfollowed 4=jp:=by unfold Program.unfollowed;rw[jQ];kernel_rfl
 have j:prog.varsNamed 4=Rows.baseSameUptoRow.named:=by unfold Program.varsNamed;rw[jQ];kernel_rfl
 have u:prog.recurses 4=jp:=by unfold Program.recurses;rw[b];rfl
 unfold joinedFacts;rw[h1,b,j,u];show(_:Bool)=jp
 kernel_rfl
end Go.Proofs.YtllkaddcplhklaaGreatDoor
