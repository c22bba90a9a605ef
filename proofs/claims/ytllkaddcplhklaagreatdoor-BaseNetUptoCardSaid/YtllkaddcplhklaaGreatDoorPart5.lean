/-
  What the proofs of the claims need: part 5 of 5.
-/
import Derived.Test.YtllkaddcplhklaaGreatDoorPart4
open And renaming intro→Pq
open Bool renaming and_eq_true→Qf,and_false→RW,eq_iff_iff→QN,false_and→Ri,false_eq_true→Rb,not_eq_false'→Q5,true_and→R4
open ByteArray renaming empty→Pt
open Int renaming ofNat_inj→SO,toNat_natCast→Pr
open List renaming any_eq_true→QJ,append_assoc→PK,append_nil→Qp,flatMap_cons→Qv,getD_eq_getElem?_getD→Pn,getElem?_eq_getElem→Po,getElem?_eq_some_iff→Pm,getElem?_map→Ps,getElem?_of_mem→Qd,getElem_map→Q8,getElem_mem→P7,length_append→Pp,length_cons→PO,length_map→PX,length_nil→Ra,map_append→PH,map_congr_left→PN,map_cons→PB,map_map→PW,map_nil→Qe,mem_cons→Px,mem_cons_of_mem→Py,mem_cons_self→Pz,mem_map→P1,mem_of_getElem?→P0,mem_singleton→PA,mem_singleton_self→Ru,nodup_cons→P2,nodup_nil→Qa,pairwise_iff_getElem→Qx,perm_ext_iff_of_nodup→Q4,sum_cons→Qt
open Nat renaming le_of_ble_eq_true→Pj,le_refl→Pv,le_succ→QZ,le_trans→P9,lt_succ_iff_lt_or_eq→Q9,lt_trichotomy→RC,not_lt_zero→Rl,zero_add→PT,zero_le→PC
open Option.some renaming inj→Qb
set_option maxRecDepth 100000
open Bool renaming false→kw,true→jp
open Decidable renaming decide→lc
open Inhabited renaming default→co
open Option renaming none→is,some→io
open Array renaming getD_eq_getD_getElem?→Pk
open Option.some renaming injEq→Pl
open Array renaming range→Sn
open Array renaming getElem?_map→RL
open Option renaming map_some→Qw
open Option renaming getD_some→Qn
open Array renaming getElem?_eq_getElem→PU
open Nat renaming mul_le_mul_right→PQ
open Nat renaming add_mul→Qr
open Array renaming getElem?_append_left→P5
open List renaming getElem?_append_right→PD
open Array renaming getElem?_append_right→RU
open List renaming getElem?_take→Qc
open Array renaming getElem?_toList→PS
namespace Go.Proofs.YtllkaddcplhklaaGreatDoor
open Go Go.Al Go.Proofs.Tryz
theorem Lm(l:List ak)(s:ak):Pure prog 89 [.iv (strs l),pS s] (pI (oj (fun x:ak=>lc (s=x)) l)):=by
 refine D7 (ba func89 Z (by decide)) ⟨_,_,Pz⟩ fun j=>?_;simp only[maxLen]at j;refine ah ab func89 Z (by decide) ntmps89 Z (by simp) Z ?_;refine gA Z ?_
 refine aJ 0 l.length (PC _) (fun i=>⟨[(0,.iv (strs l)),(1,pS s),(7,pI l.length),(8,pI i)],[],0⟩) (fun i=>(l.take i).any (fun x:ak=>lc (s=x))=kw) [] (by simp)
  (wk0 Z Z (bi (bi (bi (bi trivial)))) Z) fun i y u=>?_
 refine zJ Z Z (fun h1=>?_) fun h1=>?_
 .have h1:i<l.length:=by simpa using h1
  refine zJ Z Z (fun b=>?_) fun b=>?_
  .have b:(fun x:ak=>lc (s=x)) (l.getD i co)=jp:=b;rw[gp u h1 b];exact zU Z
  .have b:(fun x:ak=>lc (s=x)) (l.getD i co)=kw:=b;refine gA Z ⟨h1,(cM u h1).2 b,[],wk0 Z Z (bi (bi (bi (bi ac)))) Z⟩
 .have h1:l.length<=i:=by simpa using h1
  rw[fh (any_none u h1)];exact zU Z
theorem IL(l:List ak)(s:ak):(l.any fun x=>lc (s=x))=dx l s:=by
 rw[QN,bB,QJ];constructor
 .rintro⟨x,hx,h⟩;exact(zT h)▸hx
 .exact fun h=>⟨s,h,decide_eq_true Z⟩
theorem B9(l:List ak)(s:ak):Pure prog 69 [.iv (strs l),pS s] (pB (dx l s)):=by
 refine ah ab func69 Z (by decide) ntmps69 Z (by simp) Z ?_;refine gA Z (zp (Lm l s) ?_);refine gA Z (zL (.of_eq ?_));exact ma (by rw[<-IL];exact gq _ l)
def ni(m:NM)(r:aw)(l:Lit):Bool:=lc (l.kind=1)&&lc (dw .str m l.atom.rel 0=dw .str m r.head.rel 0)
abbrev Ls(m:NM)(r:aw):List AO:=[.cells [.iv (xZ m)],az r.c]
abbrev Ho(m:NM)(r:aw):AH:=[(0,io (.cells [.iv (xZ m)])),(1,io (az r.c))]
theorem He(m:NM)(r:aw)(l:Lit):bF prog 91 [ag l.c,.ptr 0 0,.ptr 1 0] (Ls m r) (pB (ni m r l)) (Ho m r) 2:=by
 refine au ab func91 Z (by decide) ntmps91 Z (by simp) ?_;refine zJ Z Z (fun h1=>?_) fun h1=>?_
 .have h1:l.kind=1:=zT h1;refine gA Z (zD [] Z (zM ⟨.of_eq (ma (by rw[ni,decide_eq_true h1,R4])),rfl,ac⟩ ((zO (zK ac)))))
 .have h1: ¬l.kind=1:=zF h1;refine gA Z (zD [] Z (zM ⟨.of_eq (ma (by rw[ni,decide_eq_false h1,Ri])),rfl,ac⟩ ((zO (zK ac)))))
abbrev DX:PV:= .b7 (.func 91) [] [.ptr 0 0,.ptr 1 0]
theorem Hc(m:NM)(r:aw)(l:List Lit):bF prog 137 [.iv (bu 30 l Lit.c),DX] (Ls m r) (pI (oj (ni m r) l)) (Ho m r) 2:=by
 refine ox (ba func137 Z (by decide)) ⟨_,_,Pz⟩ fun j=>?_;simp only[maxLen]at j;refine au ab func137 Z (by decide) ntmps137 Z (by simp) ?_;refine gA Z ?_
 refine aJ 0 l.length (PC _) (fun i=>⟨[(0,.iv (bu 30 l Lit.c)),(1,DX),(7,pI l.length),(8,pI i)],Ho m r,2⟩) (fun i=>(l.take i).any (ni m r)=kw) [] (by simp)
  (zW ((zO (zK trivial)))) fun i x u=>?_
 refine zJ Z Z (fun h1=>?_) fun h1=>?_
 .have h1:i<l.length:=by simpa using h1
  refine gA Z (zq [0,1] (He m r (l.getD i co)) ?_);refine zJ Z Z (fun b=>?_) fun b=>?_
  .have b:ni m r (l.getD i co)=jp:=b;rw[gp u h1 b];refine gA Z (zD [] Z (zW ((zO (zK ac)))))
  .have b:ni m r (l.getD i co)=kw:=b;refine gA Z ⟨h1,(cM u h1).2 b,[],zW ((zO (zK ac)))⟩
 .have h1:l.length<=i:=by simpa using h1
  rw[fh (any_none u h1)];refine gA Z (zD [] Z (zW ((zO (zK ac)))))
theorem Hd(m:NM)(r:aw)(l:List Lit):bF prog 90 [.iv (bu 30 l Lit.c),DX] (Ls m r) (pB (l.any (ni m r))) (Ho m r) 2:=by
 refine au ab func90 Z (by decide) ntmps90 Z (by simp) ?_;refine gA Z (zq [0,1] (Hc m r l) ?_);refine gA Z (zD [] Z (zM ⟨.of_eq (ma (gq _ l)),rfl,ac⟩ ((zO (zK ac)))))
theorem Ld(m:NM)(r:aw):Pure prog 70 [ag r.c,.iv (xZ m)] (pB (r.body.any (ni m r))):=by
 refine ah ab func70 Z (by decide) ntmps70 Z (by simp) Z ?_;refine gA Z (zq [1,0] (Hd m r r.body) ?_);exact zU Z
def ua(m:NM)(r:aw)(l:Lit):Bool:=lc (l.kind≠1)&&(named l).any fun t=>lc (dw .str m t 0=dw .str m r.head.rel 0)
def um(m:NM)(r:aw)(t:Term):Bool:=lc (t.kind=1)&&!dx (jX r) t.var&&r.body.any (ni m r)
def ix(m:NM)(r:aw):fi:=match r.body.find? (ua m r) with
 |some l=>(70,l.at)
 |none=>if r.head.aj.any (um m r)=jp then(71,r.at_) else fi.z
theorem Lb(m:NM)(r:aw)(hb:r.size<=10000000):Pure prog 41 [ag r.c,.iv (xZ m)] (ag (ix m r).c):=by
 have B:r.body.length<=10000000:=by have:=Lit.aG r.body;unfold aw.size at hb;omega
 have G:r.head.aj.length<=10000000:=by unfold aw.size at hb;omega
 refine ah ab func41 Z (by decide) ntmps41 Z (by simp) Z ?_;refine gA Z ?_;refine aJ 0 r.body.length (PC _) (fun i=>⟨[(1,.iv (xZ m)),(2,.ptr 0 0),(4,.ptr 1 0),(13,.iv (lits r.body)),(14,pI r.body.length),(15,pI i)],[(0,io (az r.c)),(1,io (az fi.z.c))],2⟩) (fun i=>(r.body.take i).any (ua m r)=kw) [] (by simp)
  (zW (zK (zK trivial))) fun i I y=>?_
 refine zJ Z Z (fun h1=>?_) fun h1=>?_
 .have h1:i<r.body.length:=by simpa using h1
  have D:(r.body.getD i co).size<=10000000:=by have:=Lit.bU r.body i h1;unfold aw.size at hb;omega
  have C:=kr (r.body.getD i co);refine gA Z (zp (AG (r.body.getD i co) (by omega)) ?_);refine gA Z ?_;refine aJ 0 (named (r.body.getD i co)).length (PC _) (fun k=>⟨[(1,.iv (xZ m)),(2,.ptr 0 0),(4,.ptr 1 0),(6,.ptr 2 0),(13,.iv (lits r.body)),(14,pI r.body.length),(15,pI i),(20,.iv (strs (named (r.body.getD i co)))),(21,pI (named (r.body.getD i co)).length),(22,pI k)],[(0,io (az r.c)),(1,io (az fi.z.c)),(2,io (az (r.body.getD i co).c))],3⟩)
   (fun k=>lc ((r.body.getD i co).kind≠1)=kw∨((named (r.body.getD i co)).take k).any (fun t=>lc (dw .str m t 0=dw .str m r.head.rel 0))=kw) [] (.inr (by simp))
   (zW (zK (zK (zK trivial)))) fun k hk hK=>?_
  refine zJ Z Z (fun b=>?_) fun b=>?_
  .have b:k<(named (r.body.getD i co)).length:=by simpa using b
   refine zJ Z Z (fun j=>?_) fun j=>?_
   .have j: ¬(r.body.getD i co).kind=1:=by simpa using j
    have hK:=hK.resolve_left (by simpa using j);refine zJ Z Z (fun u=>?_) fun u=>?_
    .have u:dw .str m ((named (r.body.getD i co)).getD k co) 0=dw .str m r.head.rel 0:=zT u;have hs:ua m r (r.body.getD i co)=jp:=by
      rw[ua,decide_eq_true j,R4];exact BM b (decide_eq_true u)
     rw[ix,mA y h1 hs];exact zU Z
    .have u: ¬dw .str m ((named (r.body.getD i co)).getD k co) 0=dw .str m r.head.rel 0:=zF u;refine gA Z ⟨b,.inr ((cM hK b).2 (decide_eq_false u)),[],zW (zK (zK (zK ac)))⟩
   .have j:(r.body.getD i co).kind=1:=by simpa using j
    refine gA Z ⟨b,.inl (decide_eq_false fun h=>h j),[],zW (zK (zK (zK ac)))⟩
  .have b:(named (r.body.getD i co)).length<=k:=by simpa using b
   have hs:ua m r (r.body.getD i co)=kw:=by
    rcases hK with hK|hK
    .rw[ua,hK,Ri]
    .rw[ua,any_none hK b,RW]
   refine gA Z ⟨h1,(cM y h1).2 hs,[],zW (zK (zK ac))⟩
 have h1:r.body.length<=i:=by simpa using h1
 have A:r.body.find? (ua m r)=is:=kJ (any_none y h1);rw[ix,A];refine gA Z (zp (OS r hb) ?_);refine gA Z ?_;refine aJ 0 r.head.aj.length (PC _) (fun k=>⟨[(1,.iv (xZ m)),(2,.ptr 0 0),(4,.ptr 1 0),(9,.iv (strs (jX r))),(49,.iv (bu 5 r.head.aj Term.c)),(50,pI r.head.aj.length),(51,pI k)],[(0,io (az r.c)),(1,io (az fi.z.c))],2⟩) (fun k=>(r.head.aj.take k).any (um m r)=kw) [] (by simp)
  (zW (zK (zK trivial))) fun k hk hK=>?_
 refine zJ Z Z (fun b=>?_) fun b=>?_
 .have b:k<r.head.aj.length:=by simpa using b
  have no:um m r (r.head.aj.getD k co)=kw->(r.head.aj.take (k+1)).any (um m r)=kw:=(cM hK b).2;refine zJ Z Z (fun j=>?_) fun j=>?_
  .have j:(r.head.aj.getD k co).kind=1:=zT j;refine gA Z (zp (B9 (jX r) (r.head.aj.getD k co).var) ?_);refine zJ Z Z (fun u=>?_) fun u=>?_
   .have u:(!dx (jX r) (r.head.aj.getD k co).var)=jp:=u;refine gA Z (zp (Ld m r) ?_);refine zJ Z Z (fun x=>?_) fun x=>?_
    .have x:r.body.any (ni m r)=jp:=x;rw[am (BM b (by rw[um,decide_eq_true j,u,x];rfl))];exact zU Z
    .have x:r.body.any (ni m r)=kw:=x;refine gA Z ⟨b,no (by rw[um,x,RW]),[],zW (zK (zK ac))⟩
   .have u:(!dx (jX r) (r.head.aj.getD k co).var)=kw:=u;refine gA Z ⟨b,no (by rw[um,u,RW,Ri]),[],zW (zK (zK ac))⟩
  .have j: ¬(r.head.aj.getD k co).kind=1:=zF j;refine gA Z ⟨b,no (by rw[um,decide_eq_false j,Ri,Ri]),[],zW (zK (zK ac))⟩
 .have b:r.head.aj.length<=k:=by simpa using b
  rw[be (by rw[any_none hK b];decide)];exact zU Z
theorem find_congr{α:Type}{f g:α->Bool}: ∀{l:List α},(∀x∈l,f x=g x)->l.find? f=l.find? g
 | [],_=>rfl
 |x::l,h=>by
  rw[List.find?_cons,List.find?_cons,h x Pz,find_congr fun y b=>h y (Py _ b)]
theorem tG{α:Type}{f g:α->Bool}{l:List α}(h: ∀x∈l,f x=g x):l.any f=l.any g:=by
 rw[QN,QJ,QJ];exact⟨fun⟨x,hx,h1⟩=>⟨x,hx,by rw[<-h x hx];exact h1⟩,fun⟨x,hx,h1⟩=>⟨x,hx,by rw[h x hx];exact h1⟩⟩
theorem wo{p:Prog}{a:ak}(h:a∈p.aS.map Decl.name):a∈ns p:=by rw[ns,ku];exact h
theorem Lr{p:Prog}(hf:fz p){m:NM}(hR:Go.Rg.tP (ns p) (eg p) (fun a=>dw .str m a 0)){r:aw}(hr:r∈p.rules):r.body.any (ni m r)=y6 p r:=by
 refine tG fun l hl=>?_;rw[ni];by_cases hk:l.kind=1
 .have b:l.atom.rel∈named l:=by rw[o5,am (.inl hk)];exact Ru _
  rw[qy hR (wo (hf.lits r hr l hl _ b)) (wo (hf.Bg r hr))]
 .rw[decide_eq_false hk];rfl
theorem Db{p:Prog}(hf:fz p){m:NM}(hR:Go.Rg.tP (ns p) (eg p) (fun a=>dw .str m a 0)){r:aw}(hr:r∈p.rules):ix m r=vI p r:=by
 have h1:r.body.find? (ua m r)=vQ p r:=find_congr fun l hl=>by
  rw[ua];congr 1;exact tG fun t j=>(qy hR (wo (hf.lits r hr l hl t j)) (wo (hf.Bg r hr))).symm
 have b:r.head.aj.any (um m r)=(qn r&&y6 p r):=by
  rw[<-Lr hf hR hr,qn];have:um m r=fun t=>(lc (t.kind=1)&&!dx (jX r) t.var)&&r.body.any (ni m r):=rfl;rw[this];generalize r.body.any (ni m r)=c;cases c<;>simp
 rw[ix,vI,h1];cases vQ p r with
 |some l=>rfl
 |none=>
  simp only[b,Qf]
theorem Lh(hS:fF){p:Prog}(hb:p.fit)(h: ¬(dS p).1=0):Pure prog 38 [ag p.c] (.bm [.iv (.v (.map is)),pB kw]):=by
 have:=JU hS p hb;rwa[ta,be h,decide_eq_false h]at this
theorem Lg(hS:fF){p:Prog}(hb:p.fit)(h:(dS p).1=0):Pure prog 38 [ag p.c] (.bm [.iv (vi (b3 p (cK p))),pB jp]):=by
 have:=JU hS p hb;rwa[ta,am h,decide_eq_true h]at this
theorem sb{α β:Type}(f:α->List β)(g:α->Nat)(h: ∀a,(f a).length<=g a): ∀l:List α,(l.flatMap f).length<=(l.map g).sum
 | []=>Pv _
 |a::l=>by
  have h1:=sb f g h l;have b:=h a;rw[Qv,Pp,PB,Qt];omega
theorem fe: ∀l:List Lit,Lit.aB l=(l.map Lit.size).sum
 | []=>rfl
 |x::l=>by rw[Lit.aB,fe l,PB,Qt]
theorem CF{p:Prog}(hs:p.size<=10000000):(cK p).length<=100000000:=by
 have h1:=sb (fun r:aw=>r.body.flatMap fun l=>(named l).map fun t=>(r.head.rel,t,ln l)) aw.size (fun r=>by
  have:=sb (fun l=>(named l).map fun t=>(r.head.rel,t,ln l)) Lit.size (fun l=>by rw[PX];exact kr l) r.body;rw[<-fe]at this
  unfold aw.size;omega) p.rules
 unfold Prog.size at hs;show(p.rules.flatMap _).length<=_;omega
theorem DQ(hS:fF)(p:Prog)(hb:p.fit)(hs:p.size<=10000000):Pure prog 23 [ag p.c] (ag (oA p).c):=by
 by_cases y:(dS p).1=0;rotate_left
 .rw[oA,am y];refine ah ab func23 Z (by decide) ntmps23 Z (by simp) Z ?_;refine gA Z (zp (Lh hS hb y) ?_);refine zE Z Z (fun A=>?_) fun A=>?_
  .cases A
  refine gA Z (zp (c24 p hb) ?_);exact zU Z
 have G:=Br y;have R:p.rules.length<=1000000000:=hb.2.1;rw[oA,be (by simpa using y)];refine ah ab func23 Z (by decide) ntmps23 Z (by simp) Z ?_;refine gA Z (zp (Lg hS hb y) ?_);refine zJ Z Z (fun A=>?_) fun A=>?_
 .cases A
 refine gA Z (qM [] (Lf hS G (CF hs)) Z Z Z Z Z Z Z ?_);rintro r Y n' ⟨m,hR,rfl,rfl,rfl⟩;refine⟨_,rfl,?_⟩;have I:p.rules.map (ix m)=p.rules.map (vI p):=PN fun r J=>Db G hR J;rw[<-I]
 have x: ∀i,i<p.rules.length->(p.rules.map (ix m)).getD i co=ix m (p.rules.getD i co):=fun i D=>by
  rw[Pn,Ps,Po D,Pn,Po D];rfl
 have b:(p.rules.map (ix m)).length=p.rules.length:=PX _;refine gA Z ?_;refine aJ 0 p.rules.length (PC _) (fun i=>⟨[(1,.ptr 0 0),(2,.ptr 1 0),(5,.iv (xZ m)),(21,.iv (bu 5 p.rules aw.c)),(22,pI p.rules.length),(23,pI i)],[(0,io (az p.c)),(1,io (az fi.z.c))],2⟩) (fun i=>((p.rules.map (ix m)).take i).any (fun d=>lc (d.1≠0))=kw) [] (by simp)
  (zW (zK (zK trivial))) fun i D B=>?_
 refine zJ Z Z (fun h1=>?_) fun h1=>?_
 .have h1:i<p.rules.length:=by simpa using h1
  have u:=hb.2.2 _ (kH h1);have C:=x i h1;refine gA Z (zp (Lb m (p.rules.getD i co) u.1) ?_);refine zJ Z Z (fun j=>?_) fun j=>?_
  .have j: ¬(ix m (p.rules.getD i co)).1=0:=by simpa using j
   rw[mA B (by rw[b];exact h1) (by rw[C];exact decide_eq_true j),C];exact zU Z
  .have j:(ix m (p.rules.getD i co)).1=0:=by simpa using j
   refine gA Z ⟨h1,(cM B (by rw[b];exact h1)).2 (by rw[C];simpa using j),[],zW (zK (zK ac))⟩
 .have h1:p.rules.length<=i:=by simpa using h1
  rw[kJ (any_none B (by rw[b];exact h1))];exact zU Z
end Go.Proofs.YtllkaddcplhklaaGreatDoor
namespace Go.Proofs.YtllkaddcplhklaaGreatDoor
open Go Go.Al Go.Proofs.Tryz Go.Bo
section
theorem Ni(hS:fF)(p:Prog)(hb:p.fit)(hs:p.size<=10000000)(h0:(oA p).1=0):bF prog 8 [ag p.c] [] (.bm [.ptr 1 0,pI 0]) (bH p 0 []) 2:=by
 refine au ab func8 Z (by decide) ntmps8 Z (by simp) ?_;refine gA Z (aC (DQ hS p hb hs) Z Z Z Z Z Z ?_);refine gA Z ?_;refine Pq (fun b=>?_) (fun b=>?_)
 .exact absurd h0 (by simpa using b)
 refine gA Z (aC (Li p (by omega)) Z Z Z Z Z Z ?_);refine gA Z (bd [1,2] (by first|exact .inr Z|exact .inl Z) Z (wk Z Z Z ⟨.of_eq Z,rfl,ac⟩ (LO Z E1 Z ⟨⟨_,rfl,.of_eq Z⟩,Pj Z,rfl,ac⟩) Z))
theorem Lj(hS:fF)(p:Prog)(hb:p.fit)(hs:p.size<=10000000)(h0: ¬(oA p).1=0):Pure prog 8 [ag p.c] (.bm [Oy,pI 4]):=by
 refine ah ab func8 Z (by decide) ntmps8 Z (by simp) Z ?_;refine gA Z (aC (DQ hS p hb hs) Z Z Z Z Z Z ?_);refine gA Z ?_;refine Pq (fun b=>?_) (fun b=>?_)
 .refine gA Z (aN (by first|exact .inr Z|exact .inl Z) Z (.of_eq ?_));rfl
 .exact absurd (by simpa using b) h0
abbrev mb(p:Prog)(S:List Fact)(l:List (bM Fact)):PV:= .bm [.iv (bu 3 (if ft aT (okF p) S l=0 then bK aT S l else[]) b6),pI (ft aT (okF p) S l)]
theorem uM{p:Prog}{S:List Fact}{l:List (bM Fact)}(h:ft aT (okF p) S l=0):(((mapOf (bV S l)).map (·.2)).Perm (bK aT S l))∧np aT (bK aT S l)∧(∀x∈bK aT S l,x.2.args.length<=1000000000)∧(bK aT S l).length<=100000000:=by
 have b:=iT.1 h;refine⟨?_,fU lR S l,fun x j=>?_,by have:=r8 (c:=aT) S l;omega⟩
 .rw[PW];have:(Prod.snd ∘ fun x:bM Fact=>(bt x.2,x))=id:=rfl;rw[this,List.map_id];exact lj lR S l
 .have:x.2.args.length<=8:=gm (b.2.1 _ (eA ((di lR (a:=x.1) (f:=x.2)).1 j).1));omega
section
variable (p:Prog) (n:Nat) {m:FM} {S:List Fact} (l:List (bM Fact)) (hb:p.aS.length<=1000000000) (hk:cQ bt m S) (hS:Go.Bo.fz aT (okF p) S) (hF: ∀x∈l,x.2.args.length<=1000000000)
include hb hk hS hF
theorem Nj:bF prog 11 [.ptr 1 0,.iv (bu 3 l b6)] (bO p n m) (mb p S l) (bH p n m) 2:=by
 have h1:=Nk p n l hb hk hS hF;by_cases b:ft aT (okF p) S l=0
 .obtain⟨u,x,y,A⟩:=uM b;rw[wq b]at h1;have e:mb p S l= .bm [.iv (bu 3 (bK aT S l) b6),pI 0]:=by unfold mb;rw[am b,b]
  rw[e];refine au ab func11 Z (by decide) ntmps11 Z (by simp) ?_;refine gA Z (bx [0,1] (h1) Z Z Z Z Z Z Z Z ?_);refine gA Z ?_;refine Pq (fun j=>?_) (fun j=>?_)
  .exact absurd j (by decide)
  refine gA Z (aC (JT u x y A) Z Z Z Z Z Z ?_);refine gA Z (bd [] (by first|exact .inr Z|exact .inl Z) Z (wk Z Z Z (bi ac) (hM Z Z Z ⟨⟨_,rfl,.of_eq Z⟩,Pj Z,rfl,ac⟩) Z))
 .rw[oZ Z b]at h1;have e:mb p S l= .bm [.iv (bu 3 [] b6),pI (ft aT (okF p) S l)]:=by unfold mb;rw[be b]
  rw[e];refine au ab func11 Z (by decide) ntmps11 Z (by simp) ?_;refine gA Z (bx [0,1] (h1) Z Z Z Z Z Z Z Z ?_);refine gA Z ?_;refine Pq (fun j=>?_) (fun j=>?_);rotate_left
  .exact absurd (by simpa using j) b
  refine gA Z (bd [] (by first|exact .inr Z|exact .inl Z) Z (wk Z Z Z ⟨.bm ⟨.nil _ _,.refl _,ac⟩,rfl,ac⟩ (hM Z Z Z ⟨⟨_,rfl,.of_eq Z⟩,Pj Z,rfl,ac⟩) Z))
end
theorem Ln(p:Prog)(n:Nat)(m:FM):bF prog 17 [.ptr 1 0] (bO p n m) (.ptr 3 0) [(0,io (aI m)),(1,io (aY p n 0)),(2,io (aI m)),(3,io (aY p n 2))] 4:=by
 refine au ab func17 Z (by decide) ntmps17 Z (by simp) ?_;refine gA Z ?_;refine Pq (fun b=>?_) (fun b=>?_)
 .exact absurd b (by decide)
 refine gA Z (bD ab [0] (Fs (o:=aI m) L5 (ba func32 Z (by decide)) Z) Z Z Z Z Z Z Z Z Z Z Z Z (by(repeat' (first|exact ac|exact rfl|exact an.refl _|exact an.bk (by assumption)|apply Pq))<;>first|omega|(simp only[Pr];omega)|(simp;done)|(simp;omega)) Z (by(repeat' (first|exact ac|exact rfl|exact an.refl _|exact an.bk (by assumption)|apply Pq))<;>first|omega|(simp only[Pr];omega)|(simp;done)|(simp;omega)) ?_);refine gA Z (bd [2,3] (by first|exact .inr Z|exact .inl Z) Z (wk Z Z Z ⟨.of_eq Z,rfl,ac⟩ (hM Z Z Z ⟨⟨_,rfl,.of_eq Z⟩,Pj Z,rfl,hM Z Z Z ⟨⟨_,rfl,.of_eq Z⟩,Pj Z,rfl,ac⟩⟩) Z))
end
section
def xn(m:FM)(x:bM Fact):FM:=if x.1=jp then cD kF m (bt x.2) x.2 else jA kF m (bt x.2)
def Dz(S:List Fact)(x:bM Fact):List Fact:=if x.1=jp then x.2::S else S.erase x.2
def lG(m:FM)(M:CM):List Nat->FM
 | []=>m
 |j::vs=>xn (lG m M vs) (kN M j)
def j8(S:List Fact)(M:CM):List Nat->List Fact
 | []=>S
 |j::vs=>Dz (j8 S M vs) (kN M j)
section
variable {S:List Fact} {T:List (bM Fact)}
theorem z8{j:Nat}(hj:j<T.length): ∃x,T[j]? =io x∧kN (mapOf T) j=x:=by
 refine⟨T[j],Po hj,?_⟩;unfold kN mapOf;rw[Pn,Ps,Po hj];rfl
structure Od (S:List Fact) (T:List (bM Fact)):Prop where
 nd:(T.map (·.2)).Nodup
 Oh: ∀x∈T,lc (x.2∈S)≠x.1
 s8: ∀f∈S,f.args.length<=8
 t8: ∀x∈T,x.2.args.length<=8
theorem Od.one(h:Od S T){i j:Nat}{x y:bM Fact}(hi:T[i]? =io x)(hj:T[j]? =io y)(e:x.2=y.2):i=j:=by
 have C:=Qx.1 h.nd;obtain⟨u,b⟩:=Pm.1 hi;obtain⟨B,A⟩:=Pm.1 hj;rcases RC i j with g|g|g
 .exact absurd (by rw[Q8,Q8,b,A];exact e) (C i j (by simpa using u) (by simpa using B) g)
 .exact g
 .exact absurd (by rw[Q8,Q8,b,A];exact e.symm) (C j i (by simpa using B) (by simpa using u) g)
theorem oC(h:Od S T)(hS:S.Nodup): ∀{vs:List Nat},vs.Nodup->(∀j∈vs,j<T.length)->(j8 S (mapOf T) vs).Nodup∧ ∀f,f∈j8 S (mapOf T) vs↔(∃j∈vs,T[j]? =io (jp,f))∨(f∈S∧ ¬ ∃j∈vs,T[j]? =io (kw,f))
 | [],_,_=>⟨hS,fun f=>by simp[j8]⟩
 |j::vs,hn,hv=>by
  rw[P2]at hn;obtain⟨i1,i2⟩:=oC h hS hn.2 fun i hi=>hv i (Py _ hi);obtain⟨x,y,D⟩:=z8 (hv j (Pz ..));have C:=h.Oh x (P0 y);have u: ∀i∈vs,∀b,T[i]? ≠io (b,x.2):=fun i hi b e=>hn.1 ((h.one e y Z)▸hi);simp only[j8,D,Dz];obtain⟨b,g⟩:=x
  cases b with
  |true=>
   simp only[if_true];have A:g∉S:=fun m=>C (decide_eq_true m)
   have B:g∉j8 S (mapOf T) vs:=fun m=>by
    rcases(i2 g).1 m with⟨i,hi,e⟩|⟨m2,_⟩
    .exact u i hi jp e
    .exact A m2
   refine⟨P2.2 ⟨B,i1⟩,fun f=>?_⟩;rw[Px,i2];constructor
   .rintro(rfl|⟨i,hi,e⟩|⟨m,k⟩)
    .exact .inl ⟨j,Pz ..,y⟩
    .exact .inl ⟨i,Py _ hi,e⟩
    .refine .inr ⟨m,?_⟩;rintro⟨i,hi,e⟩;rcases Px.1 hi with rfl|hi
     .rw[y]at e;cases e
     .exact k ⟨i,hi,e⟩
   .rintro(⟨i,hi,e⟩|⟨m,k⟩)
    .rcases Px.1 hi with rfl|hi
     .rw[y]at e;cases e;exact .inl Z
     .exact .inr (.inl ⟨i,hi,e⟩)
    .exact .inr (.inr ⟨m,fun⟨i,hi,e⟩=>k ⟨i,Py _ hi,e⟩⟩)
  |false=>
   simp only[Rb,if_false];refine⟨i1.erase g,fun f=>?_⟩;rw[i1.mem_erase_iff,i2];constructor
   .rintro⟨hne,⟨i,hi,e⟩|⟨m,k⟩⟩
    .exact .inl ⟨i,Py _ hi,e⟩
    .refine .inr ⟨m,?_⟩;rintro⟨i,hi,e⟩;rcases Px.1 hi with rfl|hi
     .rw[y]at e;cases e;exact hne Z
     .exact k ⟨i,hi,e⟩
   .rintro(⟨i,hi,e⟩|⟨m,k⟩)
    .rcases Px.1 hi with rfl|hi
     .rw[y]at e;cases e
     .refine⟨?_,.inl ⟨i,hi,e⟩⟩;rintro rfl;exact u i hi jp e
    .refine⟨?_,.inr ⟨m,fun⟨i,hi,e⟩=>k ⟨i,Py _ hi,e⟩⟩⟩;rintro rfl;exact k ⟨j,Pz ..,y⟩
theorem qY{m:FM}(hk:cQ bt m S)(h:Od S T)(hS:S.Nodup): ∀{vs:List Nat},vs.Nodup->(∀j∈vs,j<T.length)->cQ bt (lG m (mapOf T) vs) (j8 S (mapOf T) vs)∧ ∀f∈j8 S (mapOf T) vs,f.args.length<=8
 | [],_,_=>⟨hk,h.s8⟩
 |j::vs,hn,hv=>by
  have y:=P2.1 hn;obtain⟨I,D⟩:=qY hk h hS y.2 fun i A=>hv i (Py _ A);have R:=(oC h hS y.2 fun i A=>hv i (Py _ A)).2;obtain⟨x,G,J⟩:=z8 (hv j (Pz ..));have B:=P0 G;have C:=h.Oh x B;have b: ∀u∈j8 S (mapOf T) vs,bt u=bt x.2->u=x.2:=fun u hu e=>pb (D u hu) e;simp only[lG,j8,J,xn,Dz];by_cases hb:x.1=jp
  .rw[am hb,am hb];refine⟨I.put b fun m2=>?_,fun f hf=>?_⟩
   .rcases(R x.2).1 m2 with⟨i,A,e⟩|⟨m3,_⟩
    .exact y.1 (h.one e G Z▸A)
    .exact C (by rw[hb];exact decide_eq_true m3)
   .rcases Px.1 hf with rfl|hf
    .exact h.t8 x B
    .exact D f hf
  .rw[be hb,be hb];exact⟨I.del b,fun f hf=>D f (List.mem_of_mem_erase hf)⟩
end
theorem E7{p:Prog}{S:List Fact}{l:List (bM Fact)}(hS:Go.Bo.fz aT (okF p) S)(h:ft aT (okF p) S l=0):Od S (bV S l):=by
 have u:(bV S l).Perm (bK aT S l):=lj lR S l;have y:=iT.1 h;have j: ∀x∈bV S l,cz l x.2=io x.1∧lc (x.2∈S)≠x.1:=fun x b=>(di lR (a:=x.1) (f:=x.2)).1 (u.mem_iff.1 b);exact⟨((u.map (·.2)).nodup_iff).2 ((np.facts (fU lR S l)).nodup lR),fun x b=>(j x b).2,fun f A=>gm (hS.ok f A),fun x b=>gm (y.2.1 _ (eA (j x b).1))⟩
theorem C3{p:Prog}{m:FM}{S:List Fact}{l:List (bM Fact)}(hk:cQ bt m S)(hS:Go.Bo.fz aT (okF p) S)(h:ft aT (okF p) S l=0){vs:List Nat}(A:vs.Nodup)(v2: ∀j∈vs,j<(bV S l).length)(v3: ∀j,j<(bV S l).length->j∈vs):
  cQ bt (lG m (mapOf (bV S l)) vs) (eV aT S l):=by
 have x:=E7 hS h;have u:=hS.yQ.nodup lR;have B:(bV S l).Perm (bK aT S l):=lj lR S l;obtain⟨C,_⟩:=qY hk x u A v2;obtain⟨G,I⟩:=oC x u A v2;refine C.perm ((Q4 G ((lY lR S l).nodup lR)).2 fun f=>?_);have hT: ∀b:Bool,(∃j∈vs,(bV S l)[j]? =io (b,f))↔cz l f=io b∧lc (f∈S)≠b:=fun b=>by
  rw[<-di lR,<-B.mem_iff];constructor
  .rintro⟨j,_,e⟩;exact P0 e
  .intro D;obtain⟨j,y⟩:=Qd D;exact⟨j,v3 j (Pm.1 y).1,y⟩
 rw[I,kv lR,hT,hT];cases e:cz l f with
 |none=>simp
 |some b=>cases b<;>by_cases g:f∈S<;>simp[g]
theorem vU(p:Prog)(n:Nat){m:FM}{S:List Fact}(l:List (bM Fact))(hb:p.aS.length<=1000000000)(hk:cQ bt m S)(hS:Go.Bo.fz aT (okF p) S)(hF: ∀x∈l,x.2.args.length<=1000000000)(hn:n<=1000000000000):
  Al.Fn prog 10 [.ptr 1 0,.iv (bu 3 l b6)] (bO p n m) fun r h k=> ∃m',cQ bt m' (fY aT (okF p) (S,n) l).1∧r=mb p S l∧h=bH p (fY aT (okF p) (S,n) l).2 m'∧k=2:=by
 have h1:=Nk p n l hb hk hS hF;by_cases b:ft aT (okF p) S l=0;rotate_left
 .rw[oZ Z b]at h1;have e:mb p S l= .bm [.iv (bu 3 [] b6),pI (ft aT (okF p) S l)]:=by unfold mb;rw[be b]
  have J:fY aT (okF p) (S,n) l=(S,n):=by unfold fY;rw[be b]
  rw[e,J];refine ou ab func10 Z (by decide) ntmps10 Z (by simp) ?_;refine gA Z (bx [0,1] (h1) Z Z Z Z Z Z Z Z ?_);refine gA Z ?_;refine Pq (fun I=>?_) (fun I=>?_);rotate_left
  .exact absurd (by simpa using I) b
  refine gA Z (rK [] (.inr Z) Z ⟨m,hk,rfl,rfl,rfl⟩ (wk Z Z Z ⟨.bm ⟨.nil _ _,.refl _,ac⟩,rfl,ac⟩ (hM Z Z Z ⟨⟨_,rfl,.of_eq Z⟩,Pj Z,rfl,ac⟩) Z))
 obtain⟨q1,q2,q3,q4⟩:=uM b;have b0:=q1.length_eq;rw[PX,PX]at b0;rw[wq b]at h1;have e:mb p S l= .bm [.iv (bu 3 (bK aT S l) b6),pI 0]:=by unfold mb;rw[am b,b]
 have J:fY aT (okF p) (S,n) l=(eV aT S l,n+1):=by unfold fY;rw[am b]
 rw[e,J];have R: ∀x∈bV S l,x.2.args.length<=8:=(E7 hS b).t8;refine ou ab func10 Z (by decide) ntmps10 Z (by simp) ?_;refine gA Z (bx [0,1] (h1) Z Z Z Z Z Z Z Z ?_);refine gA Z ?_;refine Pq (fun I=>?_) (fun I=>?_)
 .exact absurd I (by decide)
 refine gA Z ?_;refine eY (mapOf (bV S l)) (fun vs=>⟨[(0,.ptr 1 0),(6,.iv (yE (mapOf (bV S l)))),(20,.ptr 2 0)],[(0,io (aI (lG m (mapOf (bV S l)) vs))),(1,io (aY p n 0)),(2,io (.bL kF yF (mapOf (bV S l)) vs is))],3⟩) (fun vs=>vs.Nodup∧ ∀j∈vs,j<(mapOf (bV S l)).length) [] ⟨Qa,by simp⟩
  (wk Z Z Z (bi (bi (bi trivial))) (hM Z Z Z ⟨⟨_,rfl,.of_eq Z⟩,Pj Z,rfl,hI Z Z (.inl Z) Z trivial⟩) Z) fun vs hJ=>?_
 obtain⟨v1,v2⟩:=hJ;refine fk Z ac (dq Z Z Z Z Z (by decide) (fun C=>?_) fun j x A B=>?_)
 .have Y:=C3 hk hS b v1 (fun j B=>by have:=v2 j B;rwa[PX]at this) (fun j B=>C j (by rwa[PX]));refine gA Z (aC (JT q1 q2 q3 q4) Z Z Z Z Z Z ?_);refine gA Z (rK [] (.inr Z) Z ⟨_,Y,rfl,rfl,rfl⟩ (wk Z Z Z (bi ac) (hM Z Z Z ⟨⟨_,rfl,.of_eq Z⟩,Pj Z,rfl,ac⟩) Z))
 .have e0:x.2=kN (mapOf (bV S l)) j:=by rw[kN,Pn,A];rfl
  have a0: ∀u,u=j::vs->u.Nodup∧ ∀i∈u,i<(mapOf (bV S l)).length:=fun u e=>e▸⟨P2.2 ⟨B,v1⟩,fun i hi=>(Px.1 hi).elim (fun h=>h▸(Pm.1 A).1) (v2 i)⟩;have D:=(Pm.1 A).1;rw[PX]at D;obtain⟨y,hy,d0⟩:=z8 D
  have c0:x=(bt y.2,y):=by
   have:(mapOf (bV S l))[j]? =io (bt y.2,y):=by unfold mapOf;rw[Ps,hy];rfl
   rw[this]at A;exact(Qb A).symm
  subst c0;have f0:=R y (P0 hy);have G:lG m (mapOf (bV S l)) (j::vs)=xn (lG m (mapOf (bV S l)) vs) y:=by rw[lG,d0]
  refine gA Z ?_;refine Pq (fun g1=>?_) (fun g1=>?_)
  .have g1:y.1=jp:=g1;refine gA Z (bD ab [] (Pure.rN (kS y.2 (by omega))) Z Z Z Z Z Z Z Z Z Z Z Z (by(repeat' (first|exact ac|exact rfl|exact an.refl _|exact an.bk (by assumption)|apply Pq))<;>first|omega|(simp only[Pr];omega)|(simp;done)|(simp;omega)) Z (by(repeat' (first|exact ac|exact rfl|exact an.refl _|exact an.bk (by assumption)|apply Pq))<;>first|omega|(simp only[Pr];omega)|(simp;done)|(simp;omega)) ?_);refine fk Z ?_ ?_
   .repeat' (first|exact ac|exact rfl|exact E3 _|exact an.refl _|apply Pq)
   exact⟨j,_,A,B,a0 _ Z,[],wk Z Z Z (bi (bi (bi ac))) (hM Z (by rw[G,xn,am g1];exact congrArg (cD kF (lG m (mapOf (bV S l)) vs) (bt y.2)) (E8 y.2)) Z ⟨⟨_,rfl,.of_eq Z⟩,Pj Z,rfl,hI Z Z (.inr Z) Z ac⟩) Z⟩
  .have g1:y.1=kw:=g1;refine gA Z ⟨j,_,A,B,a0 _ Z,[],wk Z Z Z (bi (bi (bi ac))) (hM Z (by rw[G,xn,be (by rw[g1];decide)];rfl) Z ⟨⟨_,rfl,.of_eq Z⟩,Pj Z,rfl,hI Z Z (.inr Z) Z ac⟩) Z⟩
end
section
abbrev Fp:AO:= .cells [aA]
theorem Ov(x y:Fact)(b:x.args.length<=1000000000)(j:y.args.length<=1000000000):bF prog 58 [ag x.c,ag y.c,.ptr 0 0] [Fp] (pB (lc (aT x y=0))) [(0,io Fp)] 1:=by
 refine au ab func58 Z (by decide) ntmps58 Z (by simp) ?_;refine gA Z (aC (oQ x y b j) Z Z Z Z Z Z ?_);refine gA Z (bd [] (by first|exact .inr Z|exact .inl Z) Z (wk Z Z Z (bi ac) ⟨⟨_,rfl,.of_eq Z⟩,Pj Z,rfl,ac⟩ Z))
section
variable {L:List Fact} (hs:oD aT L) (hF:uv L) (hl:L.length<=1000000000)
include hs hF hl
theorem DK:bF prog 57 [a8 L,.b7 (.func 58) [] [.ptr 0 0]] [Fp] (a8 L) [(0,io Fp)] 1:=by
 refine au ab func57 Z (by decide) ntmps57 Z (by simp) ?_;refine gA Z ?_;refine Pq (fun x=>?_) (fun x=>?_)
 .refine gA Z (bd [] (by first|exact .inr Z|exact .inl Z) Z (wk Z Z Z (bi ac) ⟨⟨_,rfl,.of_eq Z⟩,Pj Z,rfl,ac⟩ Z))
 refine gA Z ?_;refine aJ 1 (max 1 L.length) (Nat.le_max_left _ _) (fun i=>⟨[(0,a8 L),(1,.b7 (.func 58) [] [.ptr 0 0]),(5,pI i)],[(0,io Fp)],1⟩) (fun i=>1<=i) [] (Pv _)
  (wk Z Z Z (bi (bi (bi trivial))) ⟨⟨_,rfl,.of_eq Z⟩,Pj Z,rfl,ac⟩ Z) fun i A y=>?_
 refine gA Z ?_;refine Pq (fun h1=>?_) (fun h1=>?_)
 .have h1:i<L.length:=by simpa using h1
  have e:((i:Int)-1).toNat=i-1:=by omega
  refine gA Z (bD ab [0] (Ov (L.getD i co) (L.getD ((i:Int)-1).toNat co) (hF.at (by omega)) (hF.at (by omega))) Z Z Z Z Z Z Z Z Z Z Z Z (by(repeat' (first|exact ac|exact rfl|exact an.refl _|exact an.bk (by assumption)|apply Pq))<;>first|omega|(simp only[Pr];omega)|(simp;done)|(simp;omega)) Z (by(repeat' (first|exact ac|exact rfl|exact an.refl _|exact an.bk (by assumption)|apply Pq))<;>first|omega|(simp only[Pr];omega)|(simp;done)|(simp;omega)) ?_);refine gA Z ?_;refine Pq (fun b=>?_) (fun b=>?_)
  .have b:aT (L.getD i co) (L.getD ((i:Int)-1).toNat co)=0:=of_decide_eq_true b;rw[e]at b;have u:=(Qx.1 hs) (i-1) i (by omega) h1 (by omega);have j:=(lR.eq _ _).1 b;rw[Pn,Pn,Po h1,Po (by omega:i-1<L.length)]at j;have j:L[i]=L[i-1]:=j;rw[j]at u;exact absurd u (lR.Bc _)
  .refine gA Z ?_;exact⟨by omega,by omega,[],wk Z Z Z (bi (bi (bi ac))) ⟨⟨_,rfl,.of_eq Z⟩,Pj Z,rfl,ac⟩ Z⟩
 .refine gA Z (bd [] (by first|exact .inr Z|exact .inl Z) Z (wk Z Z Z (bi ac) ⟨⟨_,rfl,.of_eq Z⟩,Pj Z,rfl,ac⟩ Z))
omit hs hF in
theorem Nt:Pure prog 56 [a8 L] (a8 L):=by
 refine ah ab func56 Z (by decide) ntmps56 Z (by simp) Z ?_;refine gA Z (aN (by first|exact .inr Z|exact .inl Z) Z ?_);exact .cB (by simp) (fun k _=>rfl)
theorem AE:Pure prog 33 [a8 L,aA] (a8 L):=by
 refine ah ab func33 Z (by decide) ntmps33 Z (by simp) Z ?_;refine gA Z (aC (Hj L (by omega)) Z Z Z Z Z Z ?_);refine gA Z (aC (DF (Mq hs) hF (by omega)) Z Z Z Z Z Z ?_);refine gA Z (bx [0] (DK hs hF hl) Z Z Z Z Z Z Z Z ?_);refine gA Z (aC (Nt hl) Z Z Z Z Z Z ?_);refine gA Z (aN (by first|exact .inr Z|exact .inl Z) Z (.of_eq ?_));rfl
end
def LW:List Fact->List Fact->Int
 | [],_=>1
 |_::_,[]=> -1
 |x::_,y::_=>aT x y
theorem y2: ∀(A B:List Fact) (u:uv A) (C:uv B),Pure prog 35 [a8 A,a8 B] (pI (LW A B))
 | [],B,_,_=>by
  refine ah ab func35 Z (by decide) ntmps35 Z (by simp) Z ?_;refine gA Z ?_;refine Pq (fun b=>?_) (fun b=>?_)
  .refine gA Z (aN (by first|exact .inr Z|exact .inl Z) Z (.of_eq ?_));rfl
  .exact absurd b (by simp)
 |x::A,[],_,_=>by
  refine ah ab func35 Z (by decide) ntmps35 Z (by simp) Z ?_;refine gA Z ?_;refine Pq (fun b=>?_) (fun b=>?_)
  .exact absurd b (by simp;omega)
  refine gA Z ?_;refine Pq (fun j=>?_) (fun j=>?_)
  .refine gA Z (aN (by first|exact .inr Z|exact .inl Z) Z (.of_eq ?_));rfl
  .exact absurd j (by simp)
 |x::A,y::B,u,C=>by
  refine ah ab func35 Z (by decide) ntmps35 Z (by simp) Z ?_;refine gA Z ?_;refine Pq (fun b=>?_) (fun b=>?_)
  .exact absurd b (by simp;omega)
  refine gA Z ?_;refine Pq (fun j=>?_) (fun j=>?_)
  .exact absurd j (by simp;omega)
  refine gA Z (bD ab [] (Pure.rN (oQ x y (u x (Pz ..)) (C y (Pz ..)))) Z Z Z Z Z Z Z Z Z Z Z Z (by(repeat' (first|exact ac|exact rfl|exact an.refl _|exact an.bk (by assumption)|apply Pq))<;>first|omega|(simp only[Pr];omega)|(simp;done)|(simp;omega)) Z (by(repeat' (first|exact ac|exact rfl|exact an.refl _|exact an.bk (by assumption)|apply Pq))<;>first|omega|(simp only[Pr];omega)|(simp;done)|(simp;omega)) ?_);refine gA Z (aN (by first|exact .inr Z|exact .inl Z) Z (.of_eq ?_));rfl
end
theorem kL{x:Fact}{A:List Fact}(h:uv (x::A)):uv A:=fun f b=>h f (Py _ b)
theorem p5(x:Fact)(A:List Fact):an (.iv (.cB 2 ((x::A).length-(1:Int).toNat) fun k=>(fun k=>Fact.c ((x::A).getD k co)) ((1:Int).toNat+k))) (a8 A):=
 .cB (by simp) fun k _=>by
  show Fact.c ((x::A).getD (1+k) co)=_;rw[Nat.add_comm];rfl
abbrev btS(A B:List Fact)(out:List (bM Fact)):AS:=⟨[(5,a8 A),(6,a8 B),(7,.sl 1 0 out.length 3)],[(1,io (aF 3 out b6))],2⟩
theorem xx(A B:List Fact)(hA:oD aT A)(hB:oD aT B)(Y:uv A)(fB:uv B)(lA:A.length<=1000000)(lB:B.length<=1000000):Pure prog 19 [a8 A,a8 B] (.iv (bu 3 (cS aT A B) b6)):=by
 obtain⟨R,J⟩: ∃R,R=cS aT A B:=⟨_,rfl⟩
 rw[<-J];refine ah ab func19 Z (by decide) ntmps19 Z (by simp) Z ?_;refine gA Z (aC (AE hA Y (by omega)) Z Z Z Z Z Z ?_);refine gA Z (aC (AE hB fB (by omega)) Z Z Z Z Z Z ?_);refine gM 6 Z (lq 7 3 Z ?_)
 refine gA Z (gu (σ:={s:List Fact×List Fact×List (bM Fact)//uv s.1∧uv s.2.1∧R=s.2.2++cS aT s.1 s.2.1∧s.1.length+s.2.1.length+s.2.2.length<=2000000}) (fun s=>btS s.1.1 s.1.2.1 s.1.2.2) (fun s=>s.1.1.length+s.1.2.1.length) ⟨(A,B,[]),Y,fB,J,by simp;omega⟩ [0]
  (wk Z Z Z (bi (bi (bi ac))) (hR Z Z Z ac) Z) fun s=>?_)
 obtain⟨⟨C,D,a0⟩,b,j,G,u⟩:=s;have b:uv C:=b;have j:uv D:=j;have G:R=a0++cS aT C D:=G;have u:C.length+D.length+a0.length<=2000000:=u;show GO _ _ _ _ (btS C D a0)
 match C,D,b,j,G,u with
 | [],[],b,j,G,u=>
  refine gA Z ?_;refine Pq (fun g1=>?_) (fun g1=>?_);rotate_left
  .exact absurd g1 (by simp)
  refine gA Z ?_;refine Pq (fun g2=>?_) (fun g2=>?_)
  .exact absurd g2 (by simp)
  rw[gK,Qe,Qp]at G;subst G;refine gA Z (dt (by first|exact .inr Z|exact .inl Z) Z Z (rfl) (rfl))
 | [],y::D,b,j,G,u=>
  have hy:=j y (Pz ..);have I:R=(a0++ [(jp,y)])++cS aT [] D:=by rw[G,gK,gK,PB,PK];rfl
  simp only[PO,Ra]at u;refine gA Z ?_;refine Pq (fun g1=>?_) (fun g1=>?_);rotate_left
  .exact absurd g1 (by simp)
  refine gA Z ?_;refine Pq (fun g2=>?_) (fun g2=>?_);rotate_left
  .exact absurd g2 (by simp)
  refine gA Z (aC (y2 [] (y::D) b j) Z Z Z Z Z Z ?_);refine gA Z ?_;refine Pq (fun g3=>?_) (fun g3=>?_)
  .exact absurd (of_decide_eq_true g3) (by show¬(1:Int)<0;decide)
  refine gA Z ?_;refine Pq (fun g4=>?_) (fun g4=>?_);rotate_left
  .exact absurd (show(1:Int)>0 by decide) (of_decide_eq_false g4)
  refine gA Z (aC (kS y (by omega)) Z Z Z Z Z Z ?_);refine gA Z ?_;exact⟨⟨([],D,a0++ [(jp,y)]),b,kL j,I,by simp;omega⟩,[3],by show _<_;simp,wk Z Z Z (bi ⟨p5 y D,rfl,.row (by simp),rfl,ac⟩) (Mj Z (by rw[PH];exact(db.refl _).app ⟨⟨.kb _,.refl _,.refl _,ac⟩,ac⟩) Z ac) Z⟩
 |x::C,[],b,j,G,u=>
  have hx:=b x (Pz ..);have I:R=(a0++ [(kw,x)])++cS aT C []:=by rw[G,jI,jI,PB,PK];rfl
  simp only[PO,Ra]at u;refine gA Z ?_;refine Pq (fun g1=>?_) (fun g1=>?_)
  .exact absurd g1 (by simp)
  refine gA Z (aC (y2 (x::C) [] b j) Z Z Z Z Z Z ?_);refine gA Z ?_;refine Pq (fun g3=>?_) (fun g3=>?_);rotate_left
  .exact absurd (show(-1:Int)<0 by decide) (of_decide_eq_false g3)
  refine gA Z (aC (kS x (by omega)) Z Z Z Z Z Z ?_);refine gA Z ?_;exact⟨⟨(C,[],a0++ [(kw,x)]),kL b,j,I,by simp;omega⟩,[3],by show _<_;simp,wk Z Z Z ⟨p5 x C,rfl,bi ⟨.row (by simp),rfl,ac⟩⟩ (Mj Z (by rw[PH];exact(db.refl _).app ⟨⟨.refl _,.refl _,.refl _,ac⟩,ac⟩) Z ac) Z⟩
 |x::C,y::D,b,j,G,u=>
  have hx:=b x (Pz ..);have hy:=j y (Pz ..);simp only[PO]at u;rw[jJ]at G;refine gA Z ?_;refine Pq (fun g1=>?_) (fun g1=>?_)
  .exact absurd g1 (by simp)
  refine gA Z (aC (y2 (x::C) (y::D) b j) Z Z Z Z Z Z ?_);refine gA Z ?_;refine Pq (fun g3=>?_) (fun g3=>?_)
  .have g3:aT x y<0:=of_decide_eq_true g3;rw[am g3]at G;have I:R=(a0++ [(kw,x)])++cS aT C (y::D):=by rw[G,PK];rfl
   refine gA Z (aC (kS x (by omega)) Z Z Z Z Z Z ?_);refine gA Z ⟨⟨(C,y::D,a0++ [(kw,x)]),kL b,j,I,by simp;omega⟩,[3],by show _<_;simp,wk Z Z Z ⟨p5 x C,rfl,bi ⟨.row (by simp),rfl,ac⟩⟩ (Mj Z (by rw[PH];exact(db.refl _).app ⟨⟨.refl _,.refl _,.refl _,ac⟩,ac⟩) Z ac) Z⟩
  have g3: ¬aT x y<0:=of_decide_eq_false g3;rw[be g3]at G;refine gA Z ?_;refine Pq (fun g4=>?_) (fun g4=>?_)
  .have g4:0<aT x y:=of_decide_eq_true g4;rw[am g4]at G;have I:R=(a0++ [(jp,y)])++cS aT (x::C) D:=by rw[G,PK];rfl
   refine gA Z (aC (kS y (by omega)) Z Z Z Z Z Z ?_);refine gA Z ⟨⟨(x::C,D,a0++ [(jp,y)]),b,kL j,I,by simp;omega⟩,[3],by show _<_;simp,wk Z Z Z (bi ⟨p5 y D,rfl,.row (by simp),rfl,ac⟩) (Mj Z (by rw[PH];exact(db.refl _).app ⟨⟨.kb _,.refl _,.refl _,ac⟩,ac⟩) Z ac) Z⟩
  .have g4: ¬0<aT x y:=of_decide_eq_false g4;rw[be g4]at G;refine gA Z ⟨⟨(C,D,a0),kL b,kL j,G,by simp;omega⟩,[1],by show _<_;simp;omega,wk Z Z Z ⟨p5 x C,rfl,p5 y D,rfl,bi ac⟩ (hR Z Z Z ac) Z⟩
theorem r9{α:Type}[Inhabited α]{a b:List α}(hl:a.length=b.length)(h: ∀j,j<a.length->a.getD j co=b.getD j co):a=b:=by
 refine List.ext_getElem hl fun i h1 u=>?_;have:=h i h1;rwa[Pn,Pn,Po h1,Po u]at this
theorem oX{α:Type}[Inhabited α]{a b:List α}{i:Nat}(h: ¬a.getD i co=b.getD i co):a≠b:=fun e=>h (by rw[e])
theorem y0(a b:List dU)(ha:a.length<=1000000000):Pure prog 37 [.iv (bu 3 a dU.c),.iv (bu 3 b dU.c)] (pB (lc (a=b))):=by
 refine ah ab func37 Z (by decide) ntmps37 Z (by simp) Z ?_;refine gA Z ?_;refine Pq (fun u=>?_) (fun u=>?_)
 .have u: ¬a.length=b.length:=by
   intro e;have g:(!lc ((a.length:Int)=(b.length:Int)))=jp:=u;rw[e]at g;simp at g
  rw[decide_eq_false fun e=>u (by rw[e])];refine gA Z (aN (by first|exact .inr Z|exact .inl Z) Z (.of_eq ?_));rfl
 have u:a.length=b.length:=by
  have g:(!lc ((a.length:Int)=(b.length:Int)))=kw:=u;rw[Q5,decide_eq_true_eq]at g;exact SO.1 g
 refine gA Z ?_;refine aJ 0 a.length (PC _) (fun i=>⟨[(0,.iv (bu 3 a dU.c)),(1,.iv (bu 3 b dU.c)),(5,pI i)],[],0⟩) (fun i=> ∀j,j<i->a.getD j co=b.getD j co) [] (fun j A=>absurd A (Rl j))
  (wk Z Z Z (bi (bi (bi trivial))) trivial Z) fun i G C=>?_
 refine gA Z ?_;refine Pq (fun h1=>?_) (fun h1=>?_)
 .have h1:i<a.length:=by simpa using h1
  have D:(lc ((a.getD i co).kind=(b.getD i co).kind)&&(lc ((a.getD i co).num=(b.getD i co).num)&&(lc ((a.getD i co).sym=(b.getD i co).sym)&&jp)))=lc (a.getD i co=b.getD i co):=by
   generalize a.getD i co=x;generalize b.getD i co=y;cases x;cases y;simp[dU.mk.injEq]
  refine gA Z ?_;refine Pq (fun B=>?_) (fun B=>?_)
  .have g:(!(lc ((a.getD i co).kind=(b.getD i co).kind)&&(lc ((a.getD i co).num=(b.getD i co).num)&&(lc ((a.getD i co).sym=(b.getD i co).sym)&&jp))))=jp:=B;rw[D]at g;have g: ¬a.getD i co=b.getD i co:=by simpa using g
   rw[decide_eq_false (oX g)];refine gA Z (aN (by first|exact .inr Z|exact .inl Z) Z (.of_eq ?_));rfl
  .have g:(!(lc ((a.getD i co).kind=(b.getD i co).kind)&&(lc ((a.getD i co).num=(b.getD i co).num)&&(lc ((a.getD i co).sym=(b.getD i co).sym)&&jp))))=kw:=B;rw[D]at g;have g:a.getD i co=b.getD i co:=by simpa using g
   refine gA Z ⟨h1,fun j A=>by rcases Q9.1 A with h|h;exact C j h;exact h▸g,[],wk Z Z Z (bi (bi (bi ac))) ac Z⟩
 .have h1:a.length<=i:=by simpa using h1
  rw[decide_eq_true (r9 u fun j A=>C j (by omega))];refine gA Z (aN (by first|exact .inr Z|exact .inl Z) Z (.of_eq ?_));rfl
theorem pJ(a b:Fact)(ha:a.args.length<=1000000000):Pure prog 22 [ag a.c,ag b.c] (pB (lc (a=b))):=by
 have u:lc (a=b)=(lc (a.rel=b.rel)&&lc (a.args=b.args)):=by
  cases a;cases b;simp[Fact.mk.injEq]
 rw[u];refine ah ab func22 Z (by decide) ntmps22 Z (by simp) Z ?_;refine gA Z ?_;refine Pq (fun j=>?_) (fun j=>?_)
 .have j:a.rel=b.rel:=of_decide_eq_true j;refine gA Z (aC (y0 a.args b.args ha) Z Z Z Z Z Z ?_);refine gA Z (aN (by first|exact .inr Z|exact .inl Z) Z (.of_eq ?_));rw[decide_eq_true j,R4];rfl
 .have j: ¬a.rel=b.rel:=of_decide_eq_false j;refine gA Z (aN (by first|exact .inr Z|exact .inl Z) Z ?_);rw[decide_eq_false j,Ri];exact .of_eq Z
theorem sv(a b:List Fact)(hl:a.length<=1000000000)(ha: ∀f∈a,f.args.length<=1000000000):Pure prog 16 [.iv (bu 2 a Fact.c),.iv (bu 2 b Fact.c)] (pB (lc (a=b))):=by
 refine ah ab func16 Z (by decide) ntmps16 Z (by simp) Z ?_;refine gA Z ?_;refine Pq (fun u=>?_) (fun u=>?_)
 .have u: ¬a.length=b.length:=by
   intro e;have g:(!lc ((a.length:Int)=(b.length:Int)))=jp:=u;rw[e]at g;simp at g
  rw[decide_eq_false fun e=>u (by rw[e])];refine gA Z (aN (by first|exact .inr Z|exact .inl Z) Z (.of_eq ?_));rfl
 have u:a.length=b.length:=by
  have g:(!lc ((a.length:Int)=(b.length:Int)))=kw:=u;rw[Q5,decide_eq_true_eq]at g;exact SO.1 g
 refine gA Z ?_;refine aJ 0 a.length (PC _) (fun i=>⟨[(0,.iv (bu 2 a Fact.c)),(1,.iv (bu 2 b Fact.c)),(5,pI i)],[],0⟩) (fun i=> ∀j,j<i->a.getD j co=b.getD j co) [] (fun j x=>absurd x (Rl j))
  (wk Z Z Z (bi (bi (bi trivial))) trivial Z) fun i C B=>?_
 refine gA Z ?_;refine Pq (fun h1=>?_) (fun h1=>?_)
 .have h1:i<a.length:=by simpa using h1
  have A:(a.getD i co).args.length<=1000000000:=ha _ (by rw[Pn,Po h1];exact P7 h1);refine gA Z (bD ab [] (Pure.rN (pJ (a.getD i co) (b.getD i co) A)) Z Z Z Z Z Z Z Z Z Z Z Z (by(repeat' (first|exact ac|exact rfl|exact an.refl _|exact an.bk (by assumption)|apply Pq))<;>first|omega|(simp only[Pr];omega)|(simp;done)|(simp;omega)) Z (by(repeat' (first|exact ac|exact rfl|exact an.refl _|exact an.bk (by assumption)|apply Pq))<;>first|omega|(simp only[Pr];omega)|(simp;done)|(simp;omega)) ?_);refine gA Z ?_;refine Pq (fun y=>?_) (fun y=>?_)
  .have g: ¬a.getD i co=b.getD i co:=by
    have g:(!lc (a.getD i co=b.getD i co))=jp:=y;simpa using g
   rw[decide_eq_false (oX g)];refine gA Z (aN (by first|exact .inr Z|exact .inl Z) Z (.of_eq ?_));rfl
  .have g:a.getD i co=b.getD i co:=by
    have g:(!lc (a.getD i co=b.getD i co))=kw:=y;simpa using g
   refine gA Z ⟨h1,fun j x=>by rcases Q9.1 x with h|h;exact B j h;exact h▸g,[],wk Z Z Z (bi (bi (bi ac))) ac Z⟩
 .have h1:a.length<=i:=by simpa using h1
  rw[decide_eq_true (r9 u fun j x=>B j (by omega))];refine gA Z (aN (by first|exact .inr Z|exact .inl Z) Z (.of_eq ?_));rfl
theorem kR(a b:List (bM Fact))(hl:a.length<=1000000000)(ha: ∀f∈a,f.2.args.length<=1000000000):Pure prog 18 [.iv (bu 3 a b6),.iv (bu 3 b b6)] (pB (lc (a=b))):=by
 refine ah ab func18 Z (by decide) ntmps18 Z (by simp) Z ?_;refine gA Z ?_;refine Pq (fun u=>?_) (fun u=>?_)
 .have u: ¬a.length=b.length:=by
   intro e;have g:(!lc ((a.length:Int)=(b.length:Int)))=jp:=u;rw[e]at g;simp at g
  rw[decide_eq_false fun e=>u (by rw[e])];refine gA Z (aN (by first|exact .inr Z|exact .inl Z) Z (.of_eq ?_));rfl
 have u:a.length=b.length:=by
  have g:(!lc ((a.length:Int)=(b.length:Int)))=kw:=u;rw[Q5,decide_eq_true_eq]at g;exact SO.1 g
 refine gA Z ?_;refine aJ 0 a.length (PC _) (fun i=>⟨[(0,.iv (bu 3 a b6)),(1,.iv (bu 3 b b6)),(5,pI i)],[],0⟩) (fun i=> ∀j,j<i->a.getD j co=b.getD j co) [] (fun j x=>absurd x (Rl j))
  (wk Z Z Z (bi (bi (bi trivial))) trivial Z) fun i I C=>?_
 refine gA Z ?_;refine Pq (fun h1=>?_) (fun h1=>?_)
 .have h1:i<a.length:=by simpa using h1
  have B:(a.getD i co).2.args.length<=1000000000:=ha _ (by rw[Pn,Po h1];exact P7 h1);have a0:(a.getD i co).1=(b.getD i co).1->(a.getD i co).2=(b.getD i co).2->a.getD i co=b.getD i co:=fun D G=>Prod.ext D G;refine gA Z ?_;refine Pq (fun y=>?_) (fun y=>?_)
  .have g: ¬a.getD i co=b.getD i co:=by
    intro e;have g:(!((a.getD i co).1==(b.getD i co).1))=jp:=y;rw[e]at g;simp at g
   rw[decide_eq_false (oX g)];refine gA Z (aN (by first|exact .inr Z|exact .inl Z) Z (.of_eq ?_));rfl
  .have g1:(a.getD i co).1=(b.getD i co).1:=by
    have g:(!((a.getD i co).1==(b.getD i co).1))=kw:=y;simpa using g
   refine gA Z (bD ab [] (Pure.rN (pJ (a.getD i co).2 (b.getD i co).2 B)) Z Z Z Z Z Z Z Z Z Z Z Z (by(repeat' (first|exact ac|exact rfl|exact an.refl _|exact an.bk (by assumption)|apply Pq))<;>first|omega|(simp only[Pr];omega)|(simp;done)|(simp;omega)) Z (by(repeat' (first|exact ac|exact rfl|exact an.refl _|exact an.bk (by assumption)|apply Pq))<;>first|omega|(simp only[Pr];omega)|(simp;done)|(simp;omega)) ?_);refine gA Z ?_;refine Pq (fun A=>?_) (fun A=>?_)
   .have g: ¬a.getD i co=b.getD i co:=by
     intro e;have g:(!lc ((a.getD i co).2=(b.getD i co).2))=jp:=A;rw[e]at g;simp at g
    rw[decide_eq_false (oX g)];refine gA Z (aN (by first|exact .inr Z|exact .inl Z) Z (.of_eq ?_));rfl
   .have g:a.getD i co=b.getD i co:=a0 g1 (by
     have g:(!lc ((a.getD i co).2=(b.getD i co).2))=kw:=A
     simpa using g)
    refine gA Z ⟨h1,fun j x=>by rcases Q9.1 x with h|h;exact C j h;exact h▸g,[],wk Z Z Z (bi (bi (bi ac))) ac Z⟩
 .have h1:a.length<=i:=by simpa using h1
  rw[decide_eq_true (r9 u fun j x=>C j (by omega))];refine gA Z (aN (by first|exact .inr Z|exact .inl Z) Z (.of_eq ?_));rfl
end Go.Proofs.YtllkaddcplhklaaGreatDoor
namespace Go.Proofs.YtllkaddcplhklaaGreatDoor
open Go Go.Al Go.Bo
section
def LG:ak:=⟨#[112]⟩
def gF(n:Int):Fact:=⟨LG,[⟨1,n,Pt⟩]⟩
theorem Im(a b:Int):aT (gF a) (gF b)=j7 a b:=by
 have j:od LG LG=0:=Of.refl _;have u:od Pt Pt=0:=Of.refl _;have x:j7 1 1=0:=TO.int.refl _;simp only[aT,gF,rq,cmpL,wM,j,u,x];unfold ry;rw[am Z,am Z];split
 .rename_i q;rw[am Z,q]
 .rfl
theorem Fq{a b:Int}:j7 a b<0↔a<b:=by
 unfold j7;split
 .simp;assumption
 .split<;>simp<;>omega
section
variable {ok:Fact->Bool} (hok: ∀n:Int, -1<=n->n<=65536->ok (gF n)=jp)
include hok
end
def more:List (bM Fact):=[(jp,gF 65536),(jp,gF (-1)),(kw,gF 0),(kw,gF 1)]
end
end Go.Proofs.YtllkaddcplhklaaGreatDoor
namespace Go.Proofs.YtllkaddcplhklaaGreatDoor
open Go Go.Al Go.Proofs.Tryz Go.Bo
theorem B8(n:Int):Pure prog 9 [pI n] (ag (gF n).c):=by
 refine ah ab func9 Z (by decide) ntmps9 Z (by simp) Z ?_;refine gA Z (lx (.inr Z) Z (iE.DV 1 [(⟨1,n,Pt⟩:dU)] dU.c Z Z (by simp[PV.da,dQ]) (.done (.of_eq (by simp only[PV.eh,qk,PT];rfl)))))
def pX:Prog:=⟨[⟨LG,[1],⟨0,0⟩⟩],[]⟩
theorem LA:pX.fit:=⟨by decide,by decide,fun r h=>nomatch h⟩
theorem D9:(oA pX).1=0:=by decide+kernel
theorem HF:pX.size<=10000000:=by decide
def l3:List (bM Fact):=[(jp,gF 2),(jp,gF 1),(kw,gF 2)]
theorem zu:ft aT (okF pX) [] l3=0:=by decide+kernel
theorem H0:bK aT [] l3=[(jp,gF 1)]:=by decide+kernel
theorem H2:eV aT [] l3=[gF 1]:=by decide+kernel
theorem N7:cS aT [gF 1] [gF 2]=[(kw,gF 1),(jp,gF 2)]:=by
 have h:aT (gF 1) (gF 2)<0:=by rw[Im,Fq];decide
 rw[jJ,am h,gK];rfl
theorem OB:mb pX [] l3= .bm [.iv (bu 3 [(jp,gF 1)] b6),pI 0]:=by unfold mb;rw[am zu,H0,zu]
theorem H3:fY aT (okF pX) ([],0) l3=([gF 1],1):=by unfold fY;rw[am zu,H2]
theorem NR(n:Int):uv [gF n]:=fun f b=>by rw[PA.1 b];show 1<=_;decide
theorem Nc(n:Int):oD aT [gF n]:=List.pairwise_singleton _ _
theorem uZ{i sz n b:Nat}{es:List (List PV)}(h: ∀e∈es,dQ i sz n e):(AO.row b es).uc i sz n:=h
theorem pW{i sz n:Nat}{p:Prog}{a b:Nat}:(aY p a b).uc i sz n:=⟨ac,ac,ac,ac,ac⟩
theorem iR{α:Type}(i sz n b:Nat)(l:List α)(f:α->List IV):(aF b l f).uc i sz n:=uZ fun e j=>by
 obtain⟨x,_,rfl⟩:=P1.1 j;exact Ee _ _ _ _
abbrev LL(F:AF)(d i j k:Nat):AS:=⟨(d,.agg [.sl j 0 1 4,.iv (.v (.slice is 0 0))])::F,[(i,io (aF 1 [(1:Int)] j3)),(j,io (.row 4 [[pS LG,.sl i 0 1 1,pI 0,pI 0]]))],k⟩
theorem KY:To (LL [] 10 0 1 2) ⟨[(10,ag pX.c)],[],2⟩:=by
 refine(To.row (s:=LL [] 10 0 1 2) 0 (fun k=>j3 ([(1:Int)].getD k co)) Z (gj Z) (by simp[AF.q9,PV.da,dQ]) ⟨iR _ _ _ _ _ _,uZ (by simp[PV.da,dQ]),ac⟩).trans ?_;refine(To.wk (L:=[]) (t:=⟨[(10,.agg [.sl 1 0 1 4,.iv (.v (.slice is 0 0))])],[(1,io (aF 4 pX.aS Decl.c))],2⟩) (wk Z Z Z (bi ac) (Mj Z (show db [[pS LG,.iv (.cB 1 1 fun k=>j3 ([(1:Int)].getD (0+k) co)),pI 0,pI 0]] [[pS LG,.iv (bu 1 [(1:Int)] j3),pI 0,pI 0]] from⟨⟨.refl _,.cB Z fun k _=>by rw[PT],.refl _,.refl _,ac⟩,ac⟩) Z ac) Z)).trans ?_;refine(To.row (s:=⟨[(10,.agg [.sl 1 0 1 4,.iv (.v (.slice is 0 0))])],[(1,io (aF 4 pX.aS Decl.c))],2⟩) 1 (fun k=>Decl.c (pX.aS.getD k co)) Z (gj Z) (by simp[AF.q9,PV.da,dQ,pX]) ⟨iR _ _ _ _ _ _,ac⟩).trans ?_;exact To.wk (L:=[]) (wk Z Z Z ⟨.agg ⟨.cB Z fun k _=>by rw[PT],.nil _ _,ac⟩,rfl,ac⟩ ac Z)
set_option maxHeartbeats 1000000 in
theorem DS(hS:fF):Pure prog 7 [] (pB jp):=by
 have B:=Ni hS pX LA HF D9;have j:=xx [gF 1] [gF 2] (Nc 1) (Nc 2) (NR 1) (NR 2) (by decide) (by decide);rw[N7]at j
 have b:=vU pX 0 l3 (m:=[]) (S:=[]) (by decide) cQ.nil (Go.Bo.fz.nil _ _) (fun x u=>by
  simp only[l3,Px,List.mem_nil_iff,or_false]at u
  rcases u with rfl|rfl|rfl<;>(show 1<=_;decide)) (by decide)
 simp only[OB,H3]at b;refine ah ab func7 Z (by decide) ntmps7 Z (by simp) Z ?_;refine gA Z (zP (t:=⟨[(10,ag pX.c)],[],2⟩) ((To.wk (L:=[]) (t:=LL [] 10 0 1 2) (wk Z Z Z (bi ac) (hR Z Z Z ⟨⟨_,rfl,.of_eq Z⟩,Pj Z,Hm Z,ac⟩) Z)).trans KY) ?_);refine gA Z (bx [] (B) Z Z Z Z Z Z Z Z ?_);refine gA Z ?_;refine Pq (fun y=>?_) (fun y=>?_);rotate_left
 .exact absurd y (by decide)
 refine gA Z ?_;refine Pq (fun A=>?_) (fun A=>?_)
 .exact absurd A (by decide)
 refine gA Z (aC (B8 2) Z Z Z Z Z Z ?_);refine gA Z (aC (B8 1) Z Z Z Z Z Z ?_);refine gA Z (aC (B8 2) Z Z Z Z Z Z ?_)
 refine gA Z (zP (t:=⟨[(1,.ptr 3 0),(21,.ptr 3 0),(28,.iv (bu 3 l3 b6))],[(2,io (aI [])),(3,io (aY pX 0 2))],5⟩) (((To.wk (L:=[]) (t:=⟨[(1,.ptr 3 0),(21,.ptr 3 0),(28,.sl 4 0 3 3)],[(2,io (aI [])),(3,io (aY pX 0 2)),(4,io (aF 3 l3 b6))],5⟩) (wk Z Z Z (bi (bi (bi ac))) (hM Z Z Z ⟨⟨_,rfl,.of_eq Z⟩,Pj Z,rfl,(Mj Z (show db [[PV.kb jp,.iv (iS (gF 2).rel),.iv (bu 3 (gF 2).args dU.c)],[PV.kb jp,.iv (iS (gF 1).rel),.iv (bu 3 (gF 1).args dU.c)],[pB kw,.iv (iS (gF 2).rel),.iv (bu 3 (gF 2).args dU.c)]] [[pB jp,.iv (iS (gF 2).rel),.iv (bu 3 (gF 2).args dU.c)],[pB jp,.iv (iS (gF 1).rel),.iv (bu 3 (gF 1).args dU.c)],[pB kw,.iv (iS (gF 2).rel),.iv (bu 3 (gF 2).args dU.c)]] from⟨⟨.kb _,.refl _,.refl _,ac⟩,⟨.kb _,.refl _,.refl _,ac⟩,⟨.refl _,.refl _,.refl _,ac⟩,ac⟩) Z ac)⟩) Z)).trans
  (To.row (s:=⟨[(1,.ptr 3 0),(21,.ptr 3 0),(28,.sl 4 0 3 3)],[(2,io (aI [])),(3,io (aY pX 0 2)),(4,io (aF 3 l3 b6))],5⟩) 4 (fun k=>b6 (l3.getD k co)) Z (gj Z) (by simp[AF.q9,PV.da,l3]) ⟨ac,pW,iR _ _ _ _ _ _,ac⟩)).trans
  (To.wk (L:=[]) (wk Z Z Z (bi (bi ⟨.cB Z (fun k _=>by rw[PT]),rfl,ac⟩)) (hM Z Z Z ⟨⟨_,rfl,.of_eq Z⟩,Pj Z,rfl,ac⟩) Z))) ?_)
 refine gA Z (qM [2,3] b Z Z Z Z Z Z Z ?_);rintro r C D ⟨m1,hk1,rfl,rfl,rfl⟩;refine⟨_,rfl,?_⟩;refine gA Z (aC (B8 1) Z Z Z Z Z Z ?_);refine gA Z (aC (B8 2) Z Z Z Z Z Z ?_)
 refine gA Z (zP (t:=⟨[(1,.ptr 3 0),(3,.iv (bu 3 [((jp,gF 1):bM Fact)] b6)),(4,pI 0),(33,a8 [gF 1]),(35,a8 [gF 2])],[(2,io (aI m1)),(3,io (aY pX 1 2))],7⟩) ((((To.wk (L:=[]) (t:=⟨[(1,.ptr 3 0),(3,.iv (bu 3 [((jp,gF 1):bM Fact)] b6)),(4,pI 0),(33,.sl 5 0 1 2),(35,.sl 6 0 1 2)],[(2,io (aI m1)),(3,io (aY pX 1 2)),(5,io (aF 2 [gF 1] Fact.c)),(6,io (aF 2 [gF 2] Fact.c))],7⟩) (wk Z Z Z (bi (bi (bi (bi (bi ac))))) (hM Z Z Z ⟨⟨_,rfl,.of_eq Z⟩,Pj Z,rfl,(hR Z Z Z (hR Z Z Z ac))⟩) Z)).trans
  (To.row (s:=⟨[(1,.ptr 3 0),(3,.iv (bu 3 [((jp,gF 1):bM Fact)] b6)),(4,pI 0),(33,.sl 5 0 1 2),(35,.sl 6 0 1 2)],[(2,io (aI m1)),(3,io (aY pX 1 2)),(5,io (aF 2 [gF 1] Fact.c)),(6,io (aF 2 [gF 2] Fact.c))],7⟩) 5 (fun k=>Fact.c ([gF 1].getD k co)) Z (gj Z) (by simp[AF.q9,PV.da]) ⟨ac,pW,iR _ _ _ _ _ _,iR _ _ _ _ _ _,ac⟩)).trans
  (To.wk (L:=[]) (t:=⟨[(1,.ptr 3 0),(3,.iv (bu 3 [((jp,gF 1):bM Fact)] b6)),(4,pI 0),(33,a8 [gF 1]),(35,.sl 6 0 1 2)],[(2,io (aI m1)),(3,io (aY pX 1 2)),(6,io (aF 2 [gF 2] Fact.c))],7⟩) (wk Z Z Z (bi (bi (bi ⟨.cB Z (fun k _=>by rw[PT]),rfl,bi ac⟩))) (hM Z Z Z ⟨⟨_,rfl,.of_eq Z⟩,Pj Z,rfl,(hR Z Z Z ac)⟩) Z))).trans
  ((To.row (s:=⟨[(1,.ptr 3 0),(3,.iv (bu 3 [((jp,gF 1):bM Fact)] b6)),(4,pI 0),(33,a8 [gF 1]),(35,.sl 6 0 1 2)],[(2,io (aI m1)),(3,io (aY pX 1 2)),(6,io (aF 2 [gF 2] Fact.c))],7⟩) 6 (fun k=>Fact.c ([gF 2].getD k co)) Z (gj Z) (by simp[AF.q9,PV.da]) ⟨ac,pW,iR _ _ _ _ _ _,ac⟩).trans
  (To.wk (L:=[]) (wk Z Z Z (bi (bi (bi (bi ⟨.cB Z (fun k _=>by rw[PT]),rfl,ac⟩)))) (hM Z Z Z ⟨⟨_,rfl,.of_eq Z⟩,Pj Z,rfl,ac⟩) Z)))) ?_)
 refine gA Z (aC (j) Z Z Z Z Z Z ?_);refine gA Z ?_;refine Pq (fun g1=>?_) (fun g1=>?_);rotate_left
 .exact absurd g1 (by decide)
 refine gA Z ?_;refine Pq (fun g2=>?_) (fun g2=>?_);rotate_left
 .exact absurd g2 (by decide)
 refine gA Z ?_;refine Pq (fun g3=>?_) (fun g3=>?_);rotate_left
 .exact absurd g3 (by decide)
 refine gA Z (bD ab [] (Pure.rN (B8 1)) Z Z Z Z Z Z Z Z Z Z Z Z (by(repeat' (first|exact ac|exact rfl|exact an.refl _|exact an.bk (by assumption)|apply Pq))<;>first|omega|(simp only[Pr];omega)|(simp;done)|(simp;omega)) Z (by(repeat' (first|exact ac|exact rfl|exact an.refl _|exact an.bk (by assumption)|apply Pq))<;>first|omega|(simp only[Pr];omega)|(simp;done)|(simp;omega)) ?_);refine gA Z (bD ab [] (Pure.rN (pJ (gF 1) (gF 1) (by show 1<=_;decide))) Z Z Z Z Z Z Z Z Z Z Z Z (by(repeat' (first|exact ac|exact rfl|exact an.refl _|exact an.bk (by assumption)|apply Pq))<;>first|omega|(simp only[Pr];omega)|(simp;done)|(simp;omega)) Z (by(repeat' (first|exact ac|exact rfl|exact an.refl _|exact an.bk (by assumption)|apply Pq))<;>first|omega|(simp only[Pr];omega)|(simp;done)|(simp;omega)) ?_);refine gA Z ?_;refine Pq (fun g4=>?_) (fun g4=>?_);rotate_left
 .exact absurd g4 (by simp)
 refine gA Z (bD ab [2,3] (ru pX 1 m1) Z Z Z Z Z Z Z Z Z Z Z Z (by(repeat' (first|exact ac|exact rfl|exact an.refl _|exact an.bk (by assumption)|apply Pq))<;>first|omega|(simp only[Pr];omega)|(simp;done)|(simp;omega)) Z (by(repeat' (first|exact ac|exact rfl|exact an.refl _|exact an.bk (by assumption)|apply Pq))<;>first|omega|(simp only[Pr];omega)|(simp;done)|(simp;omega)) ?_);refine gA Z ?_;refine Pq (fun g5=>?_) (fun g5=>?_);rotate_left
 .exact absurd g5 (by decide)
 refine gA Z (aN (by first|exact .inr Z|exact .inl Z) Z (.of_eq ?_));rfl
abbrev Pc(l:List (bM Fact)):List IV:=[bu 3 l b6]
theorem yA{p:Prog}{S:List Fact}(h:Go.Bo.fz aT (okF p) S):uv S:=fun f b=>by have:=gm (h.ok f b);omega
end Go.Proofs.YtllkaddcplhklaaGreatDoor
namespace Go.Proofs.YtllkaddcplhklaaGreatDoor
open Go Go.Al Go.Proofs.Tryz Go.Bo Go.ChangeShapes Go.WideShapes Go.RowKit
section
theorem L7:prog.cellsOf 4=1:=by kernel_rfl
theorem BG:prog.cellsOf 42=3:=by kernel_rfl
section
variable {H:Type} {enc:TypeId×Value->H} {W:World} {hT:lP W} {sp:Nat->Bool} {held:Bool}
def QC(x:bM Fact)(d:DataW H):Prop:=x.2.args.length<=bk d
theorem Hx(n:Nat):Rd enc prog W hT sp held 4 (fun b=> [.v (.bool b)]) (fun _ _=>True) n:=by
 intro m _ j y h;obtain⟨b,rfl,rfl⟩:=DataW.trod_bool underlying4 h;exact⟨b,.one (.v _),ac⟩
theorem Lt(n:Nat):Rd enc prog W hT sp held 42 b6 QC n:=by
 intro m _ D y h;obtain⟨C,k,rfl,rfl,hl,A,j⟩:=DataW.trod_struct underlying42 h
 match C,A with
 | [x0,x1],_=>
  obtain⟨a,u,_⟩:=Hx (hT:=hT) k k (Pv _) _ _ (lO j 0 Z Z Z L7 Z);obtain⟨b,x,B⟩:=Hu (hT:=hT) k k (Pv _) _ _ (lO j 1 Z Z Z BH Z);refine⟨(a,b),u.ei (o':=1) Z (x.ei (o':=3) Z (.end_ (hl.trans BG))),?_⟩;simp only[QF,bk]at B;simp only[QC,bk,PB,Qe,Rows.uptoBulk,Rows.uptoBulkAll];omega
theorem Hw(n:Nat):Rd enc prog W hT sp held 36 Pc (QL QC) n:=
 (gl (hT:=hT) underlying36 BG (by decide) (fun _=>rfl) (Lt n)).mono (QZ n)
end
theorem BD{H:Type}{x:List (bM Fact)}{d:DataW H}(h:QL QC x d)(hb:bk d<=1048576): ∀y∈x,y.2.args.length<=1000000000:=fun y b=>by
 obtain⟨e,h1,j⟩:=h.all y b;simp only[QC]at h1;omega
theorem yL{H:Type}{enc:TypeId×Value->H}{W:World}(hT:lP W){v:Value}{d:DataW H}{p:List MemPlace}(b: ∃base,Value.okWide prog W .any base 36 v)(h:DataW.Trod enc prog W 0 (fun _=>jp) jp 36 v d p):
  ∃x:List (bM Fact),QL QC x d∧VR (Mem.oE W hT) NA (· <0) (.iv (bu 3 x b6)) v:=by
 obtain⟨base,b⟩:=b;obtain⟨a,len,a0,rfl⟩:=okWide_slice underlying36 b;obtain⟨n,u⟩:=h;obtain⟨r,h1,j⟩:=Hw (hT:=hT) n n (Pv _) _ _ u;exact⟨r,j,Kg h1⟩
end
end Go.Proofs.YtllkaddcplhklaaGreatDoor
namespace Go.Proofs.YtllkaddcplhklaaGreatDoor
open Go Go.Al Go.Proofs.Tryz Go.ChangeShapes Go.WideShapes Go.RowKit
theorem kU:prog.closure 5=[5,7,8,23,38,39,64,63,82,116,152,117,93,138,179,204,212,180,73,83,118,153,185,186,205,213,218,187,188,206,141,214,219,221,222,223,224,104,227,228,225,226,229,230,231,232,220,154,189,119,155,190,207,191,208,209,216,215,217,192,210,120,135,156,193,121,157,162,122,124,125,123,158,126,127,128,129,159,194,160,90,137,161,130,163,195,164,166,196,165,167,131,132,168,197,198,85,136,169,199,133,62,40,65,66,84,76,103,134,170,176,203,171,200,172,143,144,173,201,202,211,174,175,177,178,67,41,68,86,87,88,69,89,70,91,24,42,43,44,71,72,92,9,10,25,45,74,94,139,181,140,46,48,47,26,49,27,50,75,95,96,142,97,98,145,146,182,99,100,101,102,51,34,60,79,114,61,80,81,115,151,59,19,33,54,55,78,105,113,150,184,58,57,56,35,22,37,13,17,32,53,15,28,31,52,77,106,147,107,108,148,149,183,109,110,111,112,11,18,16]:=by kernel_rfl
theorem uo:joinedFacts prog 5 f5 (Rows.OpenSpec.upto Rows.baseNetSpec).bare Rows.baseNetUptoRow=jp:=by
 have h1:prog.inPlace 5=Rows.baseNetUptoRow.inPlace:=by unfold Program.inPlace;rw[kU];kernel_rfl
 have b:prog.unfollowed 5=jp:=by unfold Program.unfollowed;rw[kU];kernel_rfl
 have j:prog.varsNamed 5=Rows.baseNetUptoRow.named:=by unfold Program.varsNamed;rw[kU];kernel_rfl
 have u:prog.recurses 5=jp:=by unfold Program.recurses;rw[b];rfl
 unfold joinedFacts;rw[h1,b,j,u];show(_:Bool)=jp
 kernel_rfl
end Go.Proofs.YtllkaddcplhklaaGreatDoor
namespace Go.Proofs.YtllkaddcplhklaaGreatDoor
open Go Go.Al Go.Proofs.Tryz Go.Bo
theorem HK{p:Prog}{S:List Fact}{l:List (bM Fact)}(h:ft aT (okF p) S l=0):mb p S l= .bm [.iv (bu 3 (bK aT S l) b6),pI 0]:=by unfold mb;rw[am h,h]
theorem By{p:Prog}{S:List Fact}{n:Nat}{l:List (bM Fact)}(h:ft aT (okF p) S l=0):fY aT (okF p) (S,n) l=(eV aT S l,n+1):=by unfold fY;rw[am h]
theorem Ip{p:Prog}{S:List Fact}{n:Nat}{l:List (bM Fact)}(h: ¬ft aT (okF p) S l=0):fY aT (okF p) (S,n) l=(S,n):=by unfold fY;rw[be h]
theorem KW{p:Prog}{S:List Fact}{l:List (bM Fact)}(n:Nat)(h:ft aT (okF p) S l=0):mb p S (bK aT S l)= .bm [.iv (bu 3 (bK aT S l) b6),pI 0]∧fY aT (okF p) (S,n) (bK aT S l)=(eV aT S l,n+1):=by
 have h1:=El lR h;exact⟨by rw[HK h1,BR lR],by rw[By h1,u1 lR]⟩
theorem BS{p:Prog}{S:List Fact}{l:List (bM Fact)}(h:ft aT (okF p) S l=0): ∀x∈bK aT S l,x.2.args.length<=1000000000:=fun x b=>by
 have:x.2.args.length<=8:=gm ((iT.1 h).2.1 _ (eA ((di lR (a:=x.1) (f:=x.2)).1 b).1));omega
set_option maxHeartbeats 4000000 in
theorem DR(hS:fF)(p:Prog)(C l:List (bM Fact))(hb:p.fit)(hs:p.size<=10000000)(o0: ∀x∈C,x.2.args.length<=1000000000)(hF: ∀x∈l,x.2.args.length<=1000000000):
  Pure prog 5 [ag p.c,.iv (bu 3 C b6),.iv (bu 3 l b6)] (pB jp):=by
 by_cases h0:(oA p).1=0;rotate_left
 .refine ah ab func5 Z (by decide) ntmps5 Z (by simp) Z ?_;refine gA Z (aC (DS hS) Z Z Z Z Z Z ?_);refine gA Z (aC (Lj hS p hb hs h0) Z Z Z Z Z Z ?_);refine gA Z ?_;refine Pq (fun b=>?_) (fun b=>?_)<;>(try(exact absurd b (by decide)))
  refine gA Z ?_;refine Pq (fun b=>?_) (fun b=>?_)<;>(try(exact absurd b (by decide)))
  refine gA Z (aN (by first|exact .inr Z|exact .inl Z) Z (.of_eq ?_));rfl
 have hN:=Ni hS p hb hs h0;have R:p.aS.length<=1000000000:=hb.1;have g0:=vU p 0 C (m:=[]) (S:=[]) R cQ.nil (Go.Bo.fz.nil _ _) o0 (by decide);have j:Go.Bo.fz aT (okF p) (fY aT (okF p) ([],0) C).1:=(Go.Bo.fz.nil _ _).done lR C;have I:(fY aT (okF p) (([]:List Fact),0) C).2<=1:=by unfold fY;split<;>simp
 obtain⟨S,N,k0⟩: ∃S N,fY aT (okF p) (([]:List Fact),0) C=(S,N):=⟨_,_,rfl⟩
 obtain⟨T1,e1,p0⟩: ∃T1 e1,mb p [] C= .bm [.iv (bu 3 T1 b6),pI e1]:=⟨_,_,rfl⟩
 rw[k0,p0]at g0;rw[k0]at j I;have j:Go.Bo.fz aT (okF p) S:=j;have I:N<=1:=I;have b0:=yA j;have n0:S.length<=65536:=j.OF;refine ah ab func5 Z (by decide) ntmps5 Z (by simp) Z ?_;refine gA Z (aC (DS hS) Z Z Z Z Z Z ?_);refine gA Z (bx [] (hN) Z Z Z Z Z Z Z Z ?_);refine gA Z ?_;refine Pq (fun b=>?_) (fun b=>?_)<;>(try(exact absurd b (by decide)))
 refine gA Z ?_;refine Pq (fun b=>?_) (fun b=>?_)<;>(try(exact absurd b (by decide)))
 refine gA Z ?_;refine Pq (fun b=>?_) (fun b=>?_)<;>(try(exact absurd b (by decide)))
 refine gA Z (qM [1,2] g0 Z Z Z Z Z Z Z ?_);rintro r h' n' ⟨m1,G,rfl,rfl,rfl⟩;refine⟨_,rfl,?_⟩;have G:cQ bt m1 S:=G;refine gM 2 Z ?_;refine ae (L:=[]) (t:=⟨[(2,.iv (bu 3 l b6)),(8,.ptr 2 0)],[(1,io (aI m1)),(2,io (aY p N 1))],3⟩) ?_ ?_
 .refine wk Z Z Z ?_ ?_ ?_
  .exact(bi (bi ac))
  .exact hM Z Z Z ⟨⟨_,rfl,.of_eq Z⟩,Pj Z,rfl,ac⟩
  .rfl
 obtain⟨B,Y,y⟩: ∃B Y,fY aT (okF p) (S,N) l=(B,Y):=⟨_,_,rfl⟩
 have u:Go.Bo.fz aT (okF p) B:=by have:=j.done (s:=(S,N)) lR l;rwa[y]at this
 have A:=yA u;have a0:B.length<=65536:=u.OF;obtain⟨T,e,D,e0,m0⟩: ∃T e,T=(if ft aT (okF p) S l=0 then bK aT S l else[])∧e=ft aT (okF p) S l∧mb p S l= .bm [.iv (bu 3 T b6),pI e]:=⟨_,_,rfl,rfl,rfl⟩
 have i0:=vU p N l R G j hF (by omega);rw[y,m0]at i0;have j0:=Nj p N l R G j hF;rw[m0]at j0;refine gA Z (bx [1,2] (Ln p N m1) Z Z Z Z Z Z Z Z ?_);refine gM 2 Z ?_;refine ae (L:=[]) (t:=⟨[(2,.iv (bu 3 l b6)),(8,.ptr 2 0),(10,.ptr 4 0)],[(1,io (aI m1)),(2,io (aY p N 1)),(3,io (aI m1)),(4,io (aY p N 3))],5⟩) ?_ ?_
 .refine wk Z Z Z ?_ ?_ ?_
  .exact(bi (bi (bi ac)))
  .exact(hM Z Z Z ⟨⟨_,rfl,.of_eq Z⟩,Pj Z,rfl,(hM Z Z Z ⟨⟨_,rfl,.of_eq Z⟩,Pj Z,rfl,ac⟩)⟩)
  .rfl
 refine gA Z (bx [1,2] (y3 p N G j.yQ b0 (by omega)) Z Z Z Z Z Z Z Z ?_);refine gM 2 Z ?_;refine ae (L:=[]) (t:=⟨[(2,.iv (bu 3 l b6)),(8,.ptr 2 0),(10,.ptr 4 0),(11,a8 S)],[(1,io (aI m1)),(2,io (aY p N 1)),(3,io (aI m1)),(4,io (aY p N 3))],5⟩) ?_ ?_
 .refine wk Z Z Z ?_ ?_ ?_
  .exact(bi (bi (bi (bi ac))))
  .exact(hM Z Z Z ⟨⟨_,rfl,.of_eq Z⟩,Pj Z,rfl,(hM Z Z Z ⟨⟨_,rfl,.of_eq Z⟩,Pj Z,rfl,ac⟩)⟩)
  .rfl
 refine gA Z (bx [1,2] (ru p N m1) Z Z Z Z Z Z Z Z ?_);refine gM 2 Z ?_;refine ae (L:=[]) (t:=⟨[(2,.iv (bu 3 l b6)),(8,.ptr 2 0),(10,.ptr 4 0),(11,a8 S),(12,pI N)],[(1,io (aI m1)),(2,io (aY p N 1)),(3,io (aI m1)),(4,io (aY p N 3))],5⟩) ?_ ?_
 .refine wk Z Z Z ?_ ?_ ?_
  .exact(bi (bi (bi (bi (bi ac)))))
  .exact(hM Z Z Z ⟨⟨_,rfl,.of_eq Z⟩,Pj Z,rfl,(hM Z Z Z ⟨⟨_,rfl,.of_eq Z⟩,Pj Z,rfl,ac⟩)⟩)
  .rfl
 refine gA Z (bx [1,2] (j0) Z Z Z Z Z Z Z Z ?_);refine gM 6 Z ?_;refine ae (L:=[]) (t:=⟨[(2,.iv (bu 3 l b6)),(8,.ptr 2 0),(10,.ptr 4 0),(11,a8 S),(12,pI N),(13,.iv (bu 3 T b6)),(14,pI e)],[(1,io (aI m1)),(2,io (aY p N 1)),(3,io (aI m1)),(4,io (aY p N 3))],5⟩) ?_ ?_
 .refine wk Z Z Z ?_ ?_ ?_
  .exact(bi (bi (bi (bi (bi (bi (bi ac)))))))
  .exact(hM Z Z Z ⟨⟨_,rfl,.of_eq Z⟩,Pj Z,rfl,(hM Z Z Z ⟨⟨_,rfl,.of_eq Z⟩,Pj Z,rfl,ac⟩)⟩)
  .rfl
 refine gA Z (qM [1,2] i0 Z Z Z Z Z Z Z ?_);rintro r h' n' ⟨m2,J,rfl,rfl,rfl⟩;refine⟨_,rfl,?_⟩;have J:cQ bt m2 B:=J;refine gM 6 Z ?_;refine ae (L:=[]) (t:=⟨[(8,.ptr 2 0),(10,.ptr 4 0),(11,a8 S),(12,pI N),(13,.iv (bu 3 T b6)),(14,pI e),(15,.iv (bu 3 T b6)),(16,pI e)],[(1,io (aI m2)),(2,io (aY p Y 1)),(3,io (aI m1)),(4,io (aY p N 3))],5⟩) ?_ ?_
 .refine wk Z Z Z ?_ ?_ ?_
  .exact(bi (bi (bi (bi (bi (bi (bi (bi ac))))))))
  .exact(hM Z Z Z ⟨⟨_,rfl,.of_eq Z⟩,Pj Z,rfl,(hM Z Z Z ⟨⟨_,rfl,.of_eq Z⟩,Pj Z,rfl,ac⟩)⟩)
  .rfl
 refine gA Z (bx [1,2] (y3 p Y J u.yQ A (by omega)) Z Z Z Z Z Z Z Z ?_);refine gM 2 Z ?_;refine ae (L:=[]) (t:=⟨[(8,.ptr 2 0),(10,.ptr 4 0),(11,a8 S),(12,pI N),(13,.iv (bu 3 T b6)),(14,pI e),(15,.iv (bu 3 T b6)),(16,pI e),(17,a8 B)],[(1,io (aI m2)),(2,io (aY p Y 1)),(3,io (aI m1)),(4,io (aY p N 3))],5⟩) ?_ ?_
 .refine wk Z Z Z ?_ ?_ ?_
  .exact(bi (bi (bi (bi (bi (bi (bi (bi (bi ac)))))))))
  .exact(hM Z Z Z ⟨⟨_,rfl,.of_eq Z⟩,Pj Z,rfl,(hM Z Z Z ⟨⟨_,rfl,.of_eq Z⟩,Pj Z,rfl,ac⟩)⟩)
  .rfl
 have hT:T.length<=4096∧ ∀x∈T,x.2.args.length<=1000000000:=by
  by_cases g:ft aT (okF p) S l=0
  .rw[D,am g];exact⟨P9 (r8 S l) (iT.1 g).1,BS g⟩
  .rw[D,be g];exact⟨PC _,fun x hx=>nomatch hx⟩
 refine gA Z ?_;refine Pq (fun b=>?_) (fun b=>?_)<;>(try(exact absurd b (by decide)))
 refine gA Z ?_;refine Pq (fun b=>?_) (fun b=>?_)<;>(try(exfalso;revert b;simp;done))
 refine gA Z (aC (kR T T (by omega) hT.2) Z Z Z Z Z Z ?_);refine gA Z ?_;refine Pq (fun b=>?_) (fun b=>?_)<;>(try(exfalso;revert b;simp;done))
 by_cases g:ft aT (okF p) S l=0
 .obtain⟨rfl,rfl⟩:B=eV aT S l∧Y=N+1:=by rw[By g]at y;cases y;exact⟨rfl,rfl⟩
  rw[am g]at D;rw[g]at e0;subst e0;obtain⟨q1,q2⟩:=KW N g;rw[<-D]at q1 q2;have c0:=vU p N T R G j hT.2 (by omega);rw[q1,q2]at c0;have d0:=xx S (eV aT S l) j.yQ u.yQ b0 A (by omega) (by omega);rw[zj lR j.yQ u.yQ,CZ lR,<-D]at d0;obtain⟨B,q0⟩: ∃B,eV aT S l=B:=⟨_,rfl⟩
  rw[q0]at u A a0 J c0 d0 ⊢;refine gA Z ?_;refine Pq (fun b=>?_) (fun b=>?_)<;>(try(exact absurd b (by decide)))
  refine gA Z (bx [1,2] (ru p (N+1) m2) Z Z Z Z Z Z Z Z ?_);refine gA Z ?_;refine Pq (fun b=>?_) (fun b=>?_)<;>(try(exfalso;revert b;simp;done))
  refine gA Z ?_;refine Pq (fun b=>?_) (fun b=>?_)<;>(try(exfalso;revert b;simp;omega))
  refine gA Z (qM [3,4] c0 Z Z Z Z Z Z Z ?_);rintro r h' n' ⟨m3,f0,rfl,rfl,rfl⟩;refine⟨_,rfl,?_⟩;have f0:cQ bt m3 B:=f0;refine gM 6 Z ?_;refine ae (L:=[]) (t:=⟨[(10,.ptr 4 0),(11,a8 S),(15,.iv (bu 3 T b6)),(17,a8 B),(18,.iv (bu 3 T b6)),(19,pI 0)],[(1,io (aI m2)),(2,io (aY p (N+1) 1)),(3,io (aI m3)),(4,io (aY p (N+1) 3))],5⟩) ?_ ?_
  .refine wk Z Z Z ?_ ?_ ?_
   .exact(bi (bi (bi (bi (bi (bi ac))))))
   .exact(hM Z Z Z ⟨⟨_,rfl,.of_eq Z⟩,Pj Z,rfl,(hM Z Z Z ⟨⟨_,rfl,.of_eq Z⟩,Pj Z,rfl,ac⟩)⟩)
   .rfl
  refine gA Z (bx [3,4] (y3 p (N+1) f0 u.yQ A (by omega)) Z Z Z Z Z Z Z Z ?_);refine gM 2 Z ?_;refine ae (L:=[]) (t:=⟨[(11,a8 S),(15,.iv (bu 3 T b6)),(17,a8 B),(18,.iv (bu 3 T b6)),(19,pI 0),(20,a8 B)],[(1,io (aI m2)),(2,io (aY p (N+1) 1)),(3,io (aI m3)),(4,io (aY p (N+1) 3))],5⟩) ?_ ?_
  .refine wk Z Z Z ?_ ?_ ?_
   .exact(bi (bi (bi (bi (bi (bi ac))))))
   .exact(hM Z Z Z ⟨⟨_,rfl,.of_eq Z⟩,Pj Z,rfl,(hM Z Z Z ⟨⟨_,rfl,.of_eq Z⟩,Pj Z,rfl,ac⟩)⟩)
   .rfl
  refine gA Z ?_;refine Pq (fun b=>?_) (fun b=>?_)<;>(try(exact absurd b (by decide)))
  refine gA Z (aC (kR T T (by omega) hT.2) Z Z Z Z Z Z ?_);refine gA Z ?_;refine Pq (fun b=>?_) (fun b=>?_)<;>(try(exfalso;revert b;simp;done))
  refine gA Z (aC (sv B B (by omega) A) Z Z Z Z Z Z ?_);refine gA Z ?_;refine Pq (fun b=>?_) (fun b=>?_)<;>(try(exfalso;revert b;simp;done))
  refine gA Z (aC (d0) Z Z Z Z Z Z ?_);refine gA Z (aC (kR T T (by omega) hT.2) Z Z Z Z Z Z ?_);refine gA Z (aN (by first|exact .inr Z|exact .inl Z) Z (.of_eq ?_));show pB (lc (T=T))=pB jp;simp
 .obtain⟨rfl,rfl⟩:B=S∧Y=N:=by rw[Ip g]at y;cases y;exact⟨rfl,rfl⟩
  rw[be g]at D;subst D;rw[<-e0]at g;refine gA Z ?_;refine Pq (fun b=>?_) (fun b=>?_)<;>(try(exfalso;exact g (by simpa using b)))
  refine gA Z (aC (sv B B (by omega) A) Z Z Z Z Z Z ?_);refine gA Z ?_;refine Pq (fun b=>?_) (fun b=>?_)<;>(try(exfalso;revert b;simp;done))
  refine gA Z (bx [1,2] (ru p Y m2) Z Z Z Z Z Z Z Z ?_);refine gA Z ?_;refine Pq (fun b=>?_) (fun b=>?_)<;>(try(exfalso;revert b;simp;done))
  refine gA Z (aN (by first|exact .inr Z|exact .inl Z) Z (.of_eq ?_));rfl
end Go.Proofs.YtllkaddcplhklaaGreatDoor
