/-
  What the proofs of the claims need: part 4 of 7.
-/
import Derived.Test.YtflegjieadkonaaGreatDoorPart3
import Derived.KernelRfl
import Derived.Test.YtflegjieadkonaaGreatDoorRows
import Derived.WalkKit
import Derived.ProofKit
import Derived.OpenShut
import Derived.Deep.DeepHandedRow
import Derived.Lib.LaidTab
import Derived.LaidSub
import Derived.MakeChecks
import Derived.Test.YtflegjieadkonaaGreatDoorCards
import Derived.Test.YtflegjieadkonaaGreatDoorTie
open And renaming intro→ZU
open Bool renaming and_eq_true→Zw,and_false→aaa,eq_iff_iff→ZW,false_and→aad,false_eq_true→aaG,false_ne_true→ZN,false_or→aan,not_eq_false'→aaM,not_eq_true→aaC,not_eq_true'→aae,not_false→abC,or_eq_false_iff→ZG,or_eq_true→aas,or_false→aaK,true_and→ZR
open ByteArray renaming empty→Zd
open Classical renaming byContradiction→aao
open Int renaming le_refl→abj,toNat_natCast→Zx
open List.Nodup renaming length_le_of_subset→aaP
open List.Pairwise renaming imp→acs,nil→aaT
open List renaming all_eq_false→aaV,all_eq_true→ZA,any_cons→ab6,any_eq_false→Z3,any_eq_true→ZZ,append_assoc→Zj,append_eq_nil_iff→aby,append_nil→ZL,concat_eq_append→aci,cons_append→aaJ,eq_nil_of_length_eq_zero→ZY,ext_getElem?→aaU,filter_append→abk,filter_cons→aaD,find?_append→abU,find?_cons→aaY,find?_cons_of_neg→acg,find?_eq_none→aaz,find?_eq_some_iff_getElem→abu,findSome?_append→abV,flatMap_append→abf,flatMap_cons→ZX,flatMap_nil→abX,foldl_append→aaE,foldl_cons→ZD,getD_cons_succ→aav,getD_eq_getElem?_getD→Y6,getElem?_append_left→Zp,getElem?_cons_succ→abd,getElem?_cons_zero→abS,getElem?_eq_getElem→Za,getElem?_eq_none→abl,getElem?_eq_some_iff→Zb,getElem?_map→Zg,getElem?_of_mem→Z7,getElem?_range→aa7,getElem?_replicate→abe,getElem?_set→ZV,getElem?_take→Z6,getElem?_zipWith→acj,getElem_inj→abH,getElem_map→abW,getElem_mem→ZQ,length→abB,length_append→Y8,length_cons→ZI,length_eq_zero_iff→aaZ,length_filter_le→aak,length_map→ZE,length_nil→aai,length_set→aaO,length_singleton→ZH,length_take→ZP,map_append→Ze,map_congr_left→aaB,map_cons→Zr,map_map→aa4,map_nil→Z0,map_set→aaR,mem_append→Zm,mem_append_left→ZJ,mem_append_right→aaA,mem_cons→Zq,mem_cons_of_mem→Zn,mem_cons_self→Zo,mem_filter→ZM,mem_flatMap→aa0,mem_iff_getElem→aaf,mem_map→ZK,mem_map_of_mem→abt,mem_of_getElem?→ZC,mem_of_mem_take→abD,mem_or_eq_of_mem_set→abL,mem_range→aam,mem_singleton→Zk,mem_singleton_self→aa1,mem_take_iff_getElem→abM,nil_append→aaN,nodup_append→aa6,nodup_cons→aat,nodup_nil→aab,pairwise_append→abc,pairwise_cons→aay,pairwise_iff_getElem→abI,range→Zy,range_succ→abo,range_succ_eq_map→abz,replicate→aa5,sum_cons→aaW,take_append_drop→abm,take_length→aaQ,take_of_length_le→Zh,take_succ_cons→aau,zipWith→ace,zipWith_cons_cons→acf
open Nat renaming add_assoc→aaI,beq→Zz,ble→aa2,ble_eq_true_of_le→ZO,blt→Zs,eq_of_beq_eq_true→Zt,le_of_ble_eq_true→Y5,le_of_eq→acu,le_of_not_lt→aba,le_refl→Zc,le_succ→abv,le_trans→Z1,lt_or_ge→aag,lt_succ_iff_lt_or_eq→ZS,lt_succ_self→aax,max_eq_right→acx,not_lt_zero→aaj,zero_add→Zu,zero_le→Zf
open Option renaming bind_some→ab8,getD_some→aaw,map_eq_none_iff→abh,map_eq_some_iff→Zi
open Option.some renaming inj→Z5,injEq→Y9
open Prod renaming fst→ZB
set_option maxRecDepth 100000
open Bool renaming false→lc,true→kw
open Decidable renaming decide→li
open Inhabited renaming default→em
open Option renaming none→jp,some→io
open Array renaming getD_eq_getD_getElem?→Y7
open Array renaming range→ab0
open Array renaming getElem?_map→abw
open Option renaming map_some→Z8
open Array renaming getElem?_eq_getElem→Z4
open Nat renaming mul_le_mul_right→ZF
open Nat renaming add_mul→aal
open Array renaming getElem?_append_left→aac
open List renaming getElem?_append_right→Zv
open Array renaming getElem?_toList→aah
namespace Go.Proofs.YtflegjieadkonaaGreatDoor
open Go Go.Al Go.Proofs.Tryz
theorem fO{P:Program}{nt:Nat}{Q:AQ}{k:List KI}{s t:AS}{c:Code}(L:List Nat)(h0:Wk s.nx L s t)(h:GO P nt (.code c::k) Q t):GO P nt (.code c::k) Q s:=by
 intro M N a w u;exact AW.then h (h0.fits u) fun e A B d j s' y b x=>⟨d,j,s',(h0.ext (.refl _ _ _ _ _)).trans y,b,x⟩
theorem P3:fb .gP (rZ []):=⟨id,fun M N U w j b=>⟨#[],0,b,⟨rfl,by simp,by simp,by simp,by simp⟩,.agg _ _ Z fun j p b=>by
 match j,b with
 |0,b=>cases b;exact .v _
 |1,b=>cases b;exact .v _
 |j+2,b=>simp[aN.c]at b⟩⟩
theorem P4:fb .gP (sk []):=⟨id,fun M N U w j b=>⟨#[],0,b,⟨rfl,by simp,by simp,by simp,by simp⟩,iu M⟩⟩
def jm(s:ak):Expr:= .mk 1 s ⟨0,0,Zd⟩ 0 []
abbrev Fk(s:ak):PV:= .agg [pI 1,pS s,pI 0,pI 0,pS Zd,pI 0,.iv (.v (.slice jp 0 0))]
theorem rh(s:ak):aK (Fk s) (ag (jm s).c):= .agg ⟨.refl _,.refl _,.refl _,.refl _,.refl _,.refl _,.nil _ _,ac⟩
theorem jF(s:ak):(jm s).size=1:=rfl
def wF(r:ah)(i:Int)(t:TS)(f:Int)(v:ak)(o:Expr):TS:=
 if f=2 then(t.add (gy r i i o)).add (gy r i i (jm v)) else if f=1 then t.add (gy r i i (jm v)) else jB r i i t (jm v) o
def sr(p:Prog)(r:ah)(i:Int)(t:TS)(b:List Lit):Nat->TS
 |0=>t
 |k+1=>pR p r i i (sr p r i t b k) (b.getD k em)
def stepT(p:Prog)(r:ah)(i:Int)(t:TS)(l:Lit):TS:=
 if l.kind=4 then sr p r i (wF r i t l.c7 l.a8 l.jT) l.ar l.ar.length else pR p r i (-1) t l
def TS.o:TS:=⟨[],[],[]⟩
def fj(p:Prog)(r:ah):Nat->TS
 |0=>TS.o.add (gC p r r.head (-1) (-1) r.head.ad.length)
 |k+1=>stepT p r k (fj p r k) (r.body.getD k em)
def cN(b:UM)(m:KM)(w:Want):KM:=if w.has=0∧bU (.si .i64) m (aQ b w.at_) 0=0 then cH (.si .i64) m (aQ b w.at_) w.kind else m
def oO(p:Prog)(r:ah):TS:=⟨(fj p r r.body.length).up,(fj p r r.body.length).ws,(fj p r r.body.length).ws.foldl (cN (fj p r r.body.length).up) []⟩
theorem JV(r:ah)(i:Int){t:TS}(ok:iX t.up)(f:Int)(v:ak)(o:Expr):iX (wF r i t f v o).up:=by
 unfold wF
 repeat' split
 .exact ok
 .exact ok
 .exact Fc r i i ok _ _
theorem El(p:Prog)(r:ah)(i:Int){t:TS}(ok:iX t.up)(b:List Lit): ∀k,iX (sr p r i t b k).up
 |0=>ok
 |k+1=>Ln p r i i (El p r i ok b k) _
theorem O1(p:Prog)(r:ah)(i:Int){t:TS}(ok:iX t.up)(l:Lit):iX (stepT p r i t l).up:=by
 unfold stepT;split
 .exact El p r i (JV r i ok _ _ _) _ _
 .exact Ln p r i (-1) ok l
theorem CH(p:Prog)(r:ah): ∀k,iX (fj p r k).up
 |0=>trivial
 |k+1=>O1 p r k (CH p r k) _
theorem y9(r:ah)(lit w:Int)(t:TS)(a b:Expr):(jB r lit w t a b).kind=t.kind:=by
 have d: ∀(t:TS) u v,(sP t u v).kind=t.kind:=fun t u v=>by unfold sP;split<;>rfl
 have j: ∀(t:TS) x y,(gk r lit w t x y).kind=t.kind:=fun t x y=>by
  unfold gk;split
  .exact d _ _ _
  .rfl
 unfold jB;split<;>exact j _ _ _
theorem Eb(p:Prog)(r:ah)(lit w:Int)(t:TS)(l:Lit):(pR p r lit w t l).kind=t.kind:=by
 unfold pR
 repeat' split
 .rfl
 .exact y9 r lit w t _ _
 .rfl
 .rfl
theorem Hu(p:Prog)(r:ah)(i:Int)(t:TS)(b:List Lit): ∀k,(sr p r i t b k).kind=t.kind
 |0=>rfl
 |k+1=>by rw[sr,Eb,Hu p r i t b k]
theorem Is(p:Prog)(r:ah)(i:Int)(t:TS)(l:Lit):(stepT p r i t l).kind=t.kind:=by
 unfold stepT;split
 .rw[Hu];unfold wF
  repeat' split
  .rfl
  .rfl
  .exact y9 r i i t _ _
 .exact Eb p r i (-1) t l
theorem Be(p:Prog)(r:ah): ∀k,(fj p r k).kind=[]
 |0=>rfl
 |k+1=>by rw[fj,Is,Be p r k]
theorem GA(r:ah)(i:Int)(t:TS)(f:Int)(v:ak)(o:Expr):(wF r i t f v o).ws.length<=t.ws.length+o.size+2:=by
 have j:=j7 r i i o;have b:=j7 r i i (jm v);have d:=Bn r i i t (jm v) o;rw[jF]at b d;unfold wF
 repeat' split
 .show((t.ws++_)++_).length<=_;rw[Y8,Y8];omega
 .show(t.ws++_).length<=_;rw[Y8];omega
 .omega
theorem eR: ∀(l:List Lit) (i:Nat),i<l.length->Lit.az (l.take i)+(l.getD i em).size<=Lit.az l
 | [],i,h=>by simp at h
 |s::r,0,_=>by simp[Lit.az]
 |s::r,i+1,h=>by
  have:=eR r i (by simpa using h);simp only[aau,aav,Lit.az];omega
theorem Lit.oQ(l:List Lit)(i:Nat)(h:i<l.length):Lit.az (l.take (i+1))=Lit.az (l.take i)+(l.getD i em).size:=by
 rw[ba h];have: ∀(a:List Lit) (b:Lit),Lit.az (a++ [b])=Lit.az a+b.size:=by
  intro a b
  induction a with
  |nil=>simp[Lit.az]
  |cons x r ih=>simp only[aaJ,Lit.az,ih];omega
 exact this _ _
theorem yp(p:Prog)(r:ah)(i:Int)(t:TS)(b:List Lit): ∀k,k<=b.length->(sr p r i t b k).ws.length<=t.ws.length+Lit.az (b.take k)
 |0,_=>by simp[sr,Lit.az]
 |k+1,h=>by
  have d:=yp p r i t b k (by omega);have j:=Hk p r i i (sr p r i t b k) (b.getD k em);rw[sr,Lit.oQ b k (by omega)];omega
theorem Ki(p:Prog)(r:ah)(i:Int)(t:TS)(l:Lit):(stepT p r i t l).ws.length<=t.ws.length+l.size:=by
 have d:=l.size_eq;unfold stepT;split
 .have b:=yp p r i (wF r i t l.c7 l.a8 l.jT) l.ar l.ar.length (Zc _);have j:=GA r i t l.c7 l.a8 l.jT;rw[aaQ]at b;omega
 .exact Hk p r i (-1) t l
theorem yP(p:Prog)(r:ah): ∀k,k<=r.body.length->(fj p r k).ws.length<=r.head.ad.length+Lit.az (r.body.take k)
 |0,_=>by
  have:=pt p r r.head (-1) (-1) r.head.ad.length;show([]++_).length<=_;simp only[aaN];omega
 |k+1,h=>by
  have b:=yP p r k (by omega);have d:=Ki p r k (fj p r k) (r.body.getD k em);rw[fj,Lit.oQ r.body k (by omega)];omega
theorem XZ(r:ah)(b:UM)(d:KM)(W:IV)(v0:aN)(ok:iX b):bW prog 201 [.ptr 0 0,ag v0.c] [.cells [.iv (db r),.mp 1,.iv W,.mp 2],rZ b,sk d] (ag (aQ b v0).c) [(0,io (.cells [.iv (db r),.mp 1,.iv W,.mp 2])),(1,io (rZ b)),(2,io (sk d))] 3:=by
 refine aB ab func201 Z (by decide) ntmps201 Z (by simp) ?_;refine gA Z ?_
 refine oC (σ:={v:aN//aQ b v=aQ b v0}) (fun v=>⟨[(0,.ptr 0 0),(3,.ptr 3 0),(4,.ptr 4 0)],
  [(0,io (.cells [.iv (db r),.mp 1,.iv W,.mp 2])),(1,io (rZ b)),(2,io (sk d)),(3,io (.cells [pS v.1.1,pI v.1.2])),(4,io (.cells [pS ⟨#[]⟩,pI 0]))],5⟩) (fun v=>Ig b v.1) ⟨v0,rfl⟩ []
  (zW (zO (zC (zC ⟨⟨_,rfl,.of_eq Z⟩,Y5 Z,rfl,⟨_,rfl,.of_eq Z⟩,Y5 Z,rfl,ac⟩)))) fun v=>?_
 obtain⟨v,j⟩:=v;refine zJ Z Z (fun g=>?_) fun g=>?_
 .have h:eh (.si .i64) b v=lc:=by simpa using g
  have e:aQ b v0=v:=by rw[<-j];exact ud b v h
  refine gA Z (zD [] Z (zM ⟨.of_eq (congrArg (fun x:aN=>ag x.c) e.symm),rfl,ac⟩ (zO (zC (zC ac)))))
 .have h:eh (.si .i64) b v=kw:=by simpa using g
  obtain⟨u,y⟩:=qh b v ok h;refine gA Z ⟨⟨bU (.si .i64) b v aN.z,u.trans j⟩,[],y,zW (zO (zC (zC ⟨⟨_,rfl,.of_eq Z⟩,Y5 Z,rfl,⟨_,rfl,.of_eq Z⟩,Y5 Z,rfl,ac⟩)))⟩
set_option maxHeartbeats 2000000 in
theorem c49(p:Prog)(r:ah)(hb:r.size<=100000000):Pure prog 168 [.iv (di p),.iv (db r)] (.iv (TB r (oO p r))):=by
 unfold ah.size at hb;have c0:=Lit.au r.body;have j0:r.body.length<=Lit.az r.body:=c0;refine ae ab func168 Z (by decide) ntmps168 Z (by simp) Z ?_;refine gM 14 Z (jg 2 2 5 Z Z ?_);refine fO [] (t:=⟨[(0,.iv (di p)),(1,.iv (db r)),(5,.ptr 2 0)],[(2,io (TS.cell r 0 3 TS.o.ws.length 1)),(0,io (rZ TS.o.up)),(3,io (aE 5 TS.o.ws Want.c)),(1,io (sk TS.o.kind))],4⟩)
  (zW ⟨⟨_,rfl,.of_eq Z⟩,Y5 Z,rfl,⟨_,rfl,P3⟩,Y5 Z,ac,⟨_,rfl,.of_eq Z⟩,Y5 Z,cM _,⟨_,rfl,P4⟩,Y5 Z,ac,ac⟩) ?_
 refine gA Z (Es (d90 p r TS.o r.head (-1) (-1) (by show 0+_<=_;omega)) Z Z Z Z Z Z Z (by first|rfl|(rw[Y8];rfl)|simp) (by first|rfl|(rw[Ze];rfl)|(simp only[Ze,Zj];rfl)) Z Z Z Z Z Z ?_);refine gA Z ?_
 refine aw 0 r.body.length (Zf _) (fun i=>⟨[(0,.iv (di p)),(1,.iv (db r)),(5,.ptr 2 0),(31,.iv (lits r.body)),(32,pI r.body.length),(33,pI i)],
  [(2,io (TS.cell r 0 5 (fj p r i).ws.length 1)),(0,io (rZ (fj p r i).up)),(5,io (aE 5 (fj p r i).ws Want.c)),(1,io (sk (fj p r i).kind))],6⟩) (fun _=>True) _ ac
  (Rh (t:=fj p r 0) Z Z Z Z Z Z Z Z Z Z Z (bv (bv (bv (bv (bv (bv trivial))))))) fun i hi _=>?_
 have g0:=yP p r i hi;have B:=CH p r i;refine zJ Z Z (fun y=>?_) fun y=>?_
 .have y:=ci y;have m0:=eR r.body i y;have G:fj p r (i+1)=stepT p r i (fj p r i) (r.body.getD i em):=rfl;generalize fj p r i=t1 at*
  have n0:=(r.body.getD i em).size_eq;refine zJ Z Z (fun F=>?_) fun F=>?_
  .have F: ¬(r.body.getD i em).kind=4:=by have g:(!li ((r.body.getD i em).kind=4))=kw:=F;simpa only[aae,decide_eq_false_iff_not]using g
   have hS:stepT p r i t1 (r.body.getD i em)=pR p r i (-1) t1 (r.body.getD i em):=be F;rw[hS]at G;refine gA Z (Hy (d91 p r t1 (r.body.getD i em) i (-1) B (by omega)) ?_);refine gA Z ⟨y,ac,_,sG (G.symm)⟩
  have F:(r.body.getD i em).kind=4:=by have g:(!li ((r.body.getD i em).kind=4))=lc:=F;simpa only[aaM,decide_eq_true_eq]using g
  have hS:stepT p r i t1 (r.body.getD i em)=sr p r i (wF r i t1 (r.body.getD i em).c7 (r.body.getD i em).a8 (r.body.getD i em).jT) (r.body.getD i em).ar (r.body.getD i em).ar.length:=am F;rw[hS]at G;have hV:wF r i t1 (r.body.getD i em).c7 (r.body.getD i em).a8 (r.body.getD i em).jT=if(r.body.getD i em).c7=2 then(t1.add (gy r i i (r.body.getD i em).jT)).add (gy r i i (jm (r.body.getD i em).a8)) else if(r.body.getD i em).c7=1 then t1.add (gy r i i (jm (r.body.getD i em).a8)) else jB r i i t1 (jm (r.body.getD i em).a8) (r.body.getD i em).jT:=rfl;have D:=JV r i B (r.body.getD i em).c7 (r.body.getD i em).a8 (r.body.getD i em).jT;have i0:=GA r i t1 (r.body.getD i em).c7 (r.body.getD i em).a8 (r.body.getD i em).jT;have b0:=Lit.au (r.body.getD i em).ar;have o0:=jF (r.body.getD i em).a8;have k0:=j7 r i i (r.body.getD i em).jT;generalize wF r i t1 (r.body.getD i em).c7 (r.body.getD i em).a8 (r.body.getD i em).jT=V at*
  refine zJ Z Z (fun f2=>?_) fun f2=>?_
  .have f2:(r.body.getD i em).c7=2:=zT f2;have Y:V=(t1.add (gy r i i (r.body.getD i em).jT)).add (gy r i i (jm (r.body.getD i em).a8)):=by rw[hV,am f2]
   refine gA Z (Hy (Mv r t1 (r.body.getD i em).jT i i (by omega)) ?_);refine gA Z (Es (bW.le (aa:=[.ptr 0 0,Fk (r.body.getD i em).a8,pI i,pI i]) (Mv r (t1.add (gy r i i (r.body.getD i em).jT)) (jm (r.body.getD i em).a8) i i (by show(t1.ws++_).length+_<=_;rw[Y8,jF];omega)) ⟨.refl _,rh _,.refl _,.refl _,ac⟩) Z Z Z Z Z Z Z (by first|rfl|(rw[Y8];rfl)|simp) (by first|rfl|(rw[Ze];rfl)|(simp only[Ze,Zj];rfl)) Z Z Z Z Z Z ?_);refine gA Z ?_;refine aw 0 (r.body.getD i em).ar.length (Zf _) (fun k=>⟨[(0,.iv (di p)),(1,.iv (db r)),(5,.ptr 2 0),(6,pI i),(31,.iv (lits r.body)),(32,pI r.body.length),(33,pI i),(79,.iv (lits (r.body.getD i em).ar)),(80,pI (r.body.getD i em).ar.length),(81,pI k)],[(2,io (TS.cell r 0 10 (sr p r i V (r.body.getD i em).ar k).ws.length 1)),(0,io (rZ (sr p r i V (r.body.getD i em).ar k).up)),(10,io (aE 5 (sr p r i V (r.body.getD i em).ar k).ws Want.c)),(1,io (sk (sr p r i V (r.body.getD i em).ar k).kind))],11⟩) (fun _=>True) _ ac
    (Rh Y.symm Z Z Z Z Z Z Z Z Z Z (bv (bv (bv (bv (bv (bv (bv ⟨.iv (kG _),rfl,bv (bv trivial)⟩)))))))) fun k u _=>?_
   have I:=yp p r i V (r.body.getD i em).ar k u;have j:=El p r i D (r.body.getD i em).ar k;have J:sr p r i V (r.body.getD i em).ar (k+1)=pR p r i i (sr p r i V (r.body.getD i em).ar k) ((r.body.getD i em).ar.getD k em):=rfl;refine zJ Z Z (fun d=>?_) fun d=>?_
   .have d:k<(r.body.getD i em).ar.length:=zN d;have S:=eR (r.body.getD i em).ar k d;refine gA Z (Hy (d91 p r (sr p r i V (r.body.getD i em).ar k) ((r.body.getD i em).ar.getD k em) i i j (by omega)) ?_);refine gA Z ⟨d,ac,_,sG (rfl)⟩
   .have d:(r.body.getD i em).ar.length<=k:=zG d;have x:k=(r.body.getD i em).ar.length:=by omega
    subst x;refine gA Z ⟨y,ac,_,sG (G.symm)⟩
  have f2: ¬(r.body.getD i em).c7=2:=zF f2;rw[be f2]at hV;refine zJ Z Z (fun f1=>?_) fun f1=>?_
  .have f1:(r.body.getD i em).c7=1:=zT f1;have Y:V=t1.add (gy r i i (jm (r.body.getD i em).a8)):=by rw[hV,am f1]
   refine gA Z (Hy (bW.le (aa:=[.ptr 0 0,Fk (r.body.getD i em).a8,pI i,pI i]) (Mv r t1 (jm (r.body.getD i em).a8) i i (by rw[jF];omega)) ⟨.refl _,rh _,.refl _,.refl _,ac⟩) ?_);refine gA Z ?_;refine aw 0 (r.body.getD i em).ar.length (Zf _) (fun k=>⟨[(0,.iv (di p)),(1,.iv (db r)),(5,.ptr 2 0),(6,pI i),(31,.iv (lits r.body)),(32,pI r.body.length),(33,pI i),(79,.iv (lits (r.body.getD i em).ar)),(80,pI (r.body.getD i em).ar.length),(81,pI k)],[(2,io (TS.cell r 0 9 (sr p r i V (r.body.getD i em).ar k).ws.length 1)),(0,io (rZ (sr p r i V (r.body.getD i em).ar k).up)),(9,io (aE 5 (sr p r i V (r.body.getD i em).ar k).ws Want.c)),(1,io (sk (sr p r i V (r.body.getD i em).ar k).kind))],10⟩) (fun _=>True) _ ac
    (Rh Y.symm Z Z Z Z Z Z Z Z Z Z (bv (bv (bv (bv (bv (bv (bv ⟨.iv (kG _),rfl,bv (bv trivial)⟩)))))))) fun k u _=>?_
   have I:=yp p r i V (r.body.getD i em).ar k u;have j:=El p r i D (r.body.getD i em).ar k;have J:sr p r i V (r.body.getD i em).ar (k+1)=pR p r i i (sr p r i V (r.body.getD i em).ar k) ((r.body.getD i em).ar.getD k em):=rfl;refine zJ Z Z (fun d=>?_) fun d=>?_
   .have d:k<(r.body.getD i em).ar.length:=zN d;have S:=eR (r.body.getD i em).ar k d;refine gA Z (Hy (d91 p r (sr p r i V (r.body.getD i em).ar k) ((r.body.getD i em).ar.getD k em) i i j (by omega)) ?_);refine gA Z ⟨d,ac,_,sG (rfl)⟩
   .have d:(r.body.getD i em).ar.length<=k:=zG d;have x:k=(r.body.getD i em).ar.length:=by omega
    subst x;refine gA Z ⟨y,ac,_,sG (G.symm)⟩
  .have f1: ¬(r.body.getD i em).c7=1:=zF f1;have Y:V=jB r i i t1 (jm (r.body.getD i em).a8) (r.body.getD i em).jT:=by rw[hV,be f1]
   refine gA Z (Hy (bW.le (aa:=[.ptr 0 0,Fk (r.body.getD i em).a8,ag (r.body.getD i em).jT.c,pI i,pI i]) (d93 r t1 (jm (r.body.getD i em).a8) (r.body.getD i em).jT i i B (by rw[jF];omega)) ⟨.refl _,rh _,.refl _,.refl _,.refl _,ac⟩) ?_);refine gA Z ?_;refine aw 0 (r.body.getD i em).ar.length (Zf _) (fun k=>⟨[(0,.iv (di p)),(1,.iv (db r)),(5,.ptr 2 0),(6,pI i),(31,.iv (lits r.body)),(32,pI r.body.length),(33,pI i),(79,.iv (lits (r.body.getD i em).ar)),(80,pI (r.body.getD i em).ar.length),(81,pI k)],[(2,io (TS.cell r 0 9 (sr p r i V (r.body.getD i em).ar k).ws.length 1)),(0,io (rZ (sr p r i V (r.body.getD i em).ar k).up)),(9,io (aE 5 (sr p r i V (r.body.getD i em).ar k).ws Want.c)),(1,io (sk (sr p r i V (r.body.getD i em).ar k).kind))],10⟩) (fun _=>True) _ ac
    (Rh Y.symm Z Z Z Z Z Z Z Z Z Z (bv (bv (bv (bv (bv (bv (bv ⟨.iv (kG _),rfl,bv (bv trivial)⟩)))))))) fun k u _=>?_
   have I:=yp p r i V (r.body.getD i em).ar k u;have j:=El p r i D (r.body.getD i em).ar k;have J:sr p r i V (r.body.getD i em).ar (k+1)=pR p r i i (sr p r i V (r.body.getD i em).ar k) ((r.body.getD i em).ar.getD k em):=rfl;refine zJ Z Z (fun d=>?_) fun d=>?_
   .have d:k<(r.body.getD i em).ar.length:=zN d;have S:=eR (r.body.getD i em).ar k d;refine gA Z (Hy (d91 p r (sr p r i V (r.body.getD i em).ar k) ((r.body.getD i em).ar.getD k em) i i j (by omega)) ?_);refine gA Z ⟨d,ac,_,sG (rfl)⟩
   .have d:(r.body.getD i em).ar.length<=k:=zG d;have x:k=(r.body.getD i em).ar.length:=by omega
    subst x;refine gA Z ⟨y,ac,_,sG (G.symm)⟩
 .have y:=co y;have d0:i=r.body.length:=by omega
  subst d0;have hT:oO p r=⟨(fj p r r.body.length).up,(fj p r r.body.length).ws,(fj p r r.body.length).ws.foldl (cN (fj p r r.body.length).up) []⟩:=rfl;rw[hT];rw[aaQ]at g0;have f0:(fj p r r.body.length).kind=[]:=Be p r _;generalize fj p r r.body.length=t1 at*
  have a0:t1.kind=(t1.ws.take 0).foldl (cN t1.up) []:=f0;refine gA Z ?_;refine rE 5 (fun k=>Want.c (t1.ws.getD k em)) Z (eE Z) (by simp[AF.rR,PV.bX,q6]) ⟨(by simp[AO.rR,da,PV.bX]),ac,jZ _ _ _ _ _ _,ac,ac⟩ ?_
  refine aw 0 t1.ws.length (Zf _) (fun i=>⟨[(5,.ptr 2 0),(96,.iv (cZ 5 t1.ws Want.c)),(97,pI t1.ws.length),(98,pI i)],
   [(2,io (.cells [.iv (db r),.mp 0,.iv (cZ 5 t1.ws Want.c),.mp 1])),(0,io (rZ t1.up)),(1,io (sk ((t1.ws.take i).foldl (cN t1.up) [])))],6⟩) (fun _=>True) [] ac
   (zM (bv ⟨.de Z (fun k _=>by rw[Zu]),rfl,bv (bv trivial)⟩) ⟨⟨_,rfl,.cells ⟨.refl _,.refl _,.de Z (fun k _=>by rw[Zu]),.refl _,ac⟩⟩,Y5 Z,rfl,zC (hM Z a0 Z trivial)⟩) fun i hi _=>?_
  refine zJ Z Z (fun d=>?_) fun d=>?_
  .have d:i<t1.ws.length:=zN d;have A:=cK (g:=cN t1.up) (b:=[]) d;refine gA Z (zq [2,0,1] (XZ r t1.up ((t1.ws.take i).foldl (cN t1.up) []) (cZ 5 t1.ws Want.c) (t1.ws.getD i em).at_ B) ?_);refine zJ Z Z (fun g1=>?_) fun g1=>?_
   .have g1:(t1.ws.getD i em).has=0:=zT g1;refine zJ Z Z (fun g2=>?_) fun g2=>?_
    .have g2:bU (.si .i64) ((t1.ws.take i).foldl (cN t1.up) []) (aQ t1.up (t1.ws.getD i em).at_) 0=0:=zT g2;have u:cN t1.up ((t1.ws.take i).foldl (cN t1.up) []) (t1.ws.getD i em)=cH (.si .i64) ((t1.ws.take i).foldl (cN t1.up) []) (aQ t1.up (t1.ws.getD i em).at_) (t1.ws.getD i em).kind:=am ⟨g1,g2⟩;rw[u]at A;refine gA Z ⟨d,ac,[],zW (zO (zC (hM Z (by first|exact A.symm|(rw[A];rfl)) Z ac)))⟩
    .have g2: ¬bU (.si .i64) ((t1.ws.take i).foldl (cN t1.up) []) (aQ t1.up (t1.ws.getD i em).at_) 0=0:=zF g2;have u:cN t1.up ((t1.ws.take i).foldl (cN t1.up) []) (t1.ws.getD i em)=(t1.ws.take i).foldl (cN t1.up) []:=be fun h=>g2 h.2;rw[u]at A;refine gA Z ⟨d,ac,[],zW (zO (zC (hM Z (by first|exact A.symm|(rw[A];rfl)) Z ac)))⟩
   .have g1: ¬(t1.ws.getD i em).has=0:=zF g1;have u:cN t1.up ((t1.ws.take i).foldl (cN t1.up) []) (t1.ws.getD i em)=(t1.ws.take i).foldl (cN t1.up) []:=be fun h=>g1 h.1;rw[u]at A;refine gA Z ⟨d,ac,[],zW (zO (zC (hM Z (by first|exact A.symm|(rw[A];rfl)) Z ac)))⟩
  .have d:t1.ws.length<=i:=zG d;have e0:t1.ws.take i=t1.ws:=Zh d;refine nV Z ac (kh (.inr Z) Z (.map 0 Z (.map 1 Z (.cells 2 _ Z (show _=List.map PV.iv [db r,upI t1.up,cZ 5 t1.ws Want.c,kdI (t1.ws.foldl (cN t1.up) [])] by rw[e0];rfl) (.done (.of_eq Z))))))
def lX(a:Atom):Bool:=(ky WS.o a).bad
def iR(l:Lit):Bool:=(eF l.size l WS.o).bad
def pA(l:Lit):Bool:=li (l.kind=4)&&li ((l.ar.length:Int)>12)
def jd(n:Nat):List Int:=(Zy (n+1)).map fun k:Nat=>(k:Int)-1
theorem rA(n:Nat):(jd n).length=n+1:=by simp[jd]
theorem rB(n k:Nat)(h:k<n+1):(jd n).getD k em=(k:Int)-1:=by simp[jd,h]
def vL(f:Int->Bool)(n:Nat):Option Int:=(jd n).find? f
abbrev aZ:=Int×Pos
def aZ.c(d:aZ):List IV:=[iI d.1,iI d.2.line,iI d.2.zy]
def bJ(r:ah)(e:Int)(f:Int->Bool)(k:aZ):aZ:=match vL f r.body.length with
 |some lit=>(e,fx r lit)
 |none=>k
def yg(p:Prog)(r:ah):aZ:=
 bJ r 61 (fun lit=>(bu r lit).any fun x=>lZ p x)<|bJ r 62 (fun lit=>(bu r lit).any fun x=>nj p x)<|bJ r 65 (dF r)<|bJ r 63 (nJ (oO p r))<|bJ r 64 (dN r) (0,⟨0,0⟩)
def pG(p:Prog)(r:ah)(n:Int):aZ:=
 if lX r.head=kw then(1,r.at_) else match r.body.find? iR with
 |some l=>(1,l.at)
 |none=>if n>256∨(r.body.length:Int)>12 then(66,r.at_) else if(tZ r:Int)>24 then(66,r.at_) else match r.body.find? pA with
  |some l=>(66,l.at)
  |none=>yg p r
def ah.fit(r:ah):Prop:=r.size<=10000000∧r.head.ts<=900000000∧ ∀l∈r.body,l.ts<=900000000
theorem eN{α:Type}{p:α->Bool}{l:List α}(h:l.any p=lc):l.find? p=jp:=by
 rw[aaz];intro x b;have:=Z3.1 h x b;simpa using this
theorem kZ{α:Type}[Inhabited α]{p:α->Bool}{l:List α}{i:Nat}(h:(l.take i).any p=lc)(hi:i<l.length)(hp:p (l.getD i em)=kw):l.find? p=io (l.getD i em):=by
 have b:l.getD i em=l[i]:=by simp[hi]
 rw[b]at hp ⊢;rw[abu];refine⟨hp,i,hi,rfl,fun j d=>?_⟩;have:=Z3.1 h l[j] (List.mem_iff_getElem?.2 ⟨j,by rw[Z6,am d,Za (by omega)]⟩);simpa using this
def kU(p:Prog)(r:ah):List (List PV):=[[pI 61,.du (.func 160) [] [.ptr 1 0,.ptr 0 0]],[pI 62,.du (.func 164) [] [.ptr 1 0,.ptr 0 0]],[pI 65,.du (.func 166) [] [.ptr 1 0]],[pI 63,.du (.func 169) [.iv (TB r (oO p r))] []],[pI 64,.du (.func 170) [.iv (db r)] []]]
theorem c9(p:Prog)(r:ah)(n:Nat)(h:Zs 1 n=kw):(AO.row 2 (kU p r)).low n:=by
 have d:Zs 0 n=kw:=ZO (by have:=Y5 h;omega);intro k e b
 match k,b with
 |0,b=>cases b;simp[bq,PV.low,h,d]
 |1,b=>cases b;simp[bq,PV.low,h,d]
 |2,b=>cases b;simp[bq,PV.low,h,d]
 |3,b=>cases b;simp[bq,PV.low,h,d]
 |4,b=>cases b;simp[bq,PV.low,h,d]
 |k+5,b=>simp[kU]at b
theorem mE{r:ah}{e:Int}{f:Int->Bool}{k:aZ}{i:Nat}(d:((jd r.body.length).take i).any f=lc)(hi:i<r.body.length+1)(h:f ((i:Int)-1)=kw):bJ r e f k=(e,fx r ((i:Int)-1)):=by
 have b:=rB r.body.length i hi;have:=kZ d (by rw[rA];exact hi) (by rw[b];exact h);rw[b]at this;rw[bJ,vL,this]
theorem oy{r:ah}{e:Int}{f:Int->Bool}{k:aZ}{i:Nat}(b:((jd r.body.length).take i).any f=lc)(hi:r.body.length+1<=i):bJ r e f k=k:=by
 rw[Zh (by rw[rA];exact hi)]at b;rw[bJ,vL,eN b]
theorem ox{r:ah}{f:Int->Bool}{i:Nat}(b:((jd r.body.length).take i).any f=lc)(hi:i<r.body.length+1)(h:f ((i:Int)-1)=lc):((jd r.body.length).take (i+1)).any f=lc:=by
 refine(aW b (by rw[rA];exact hi)).2 ?_;rw[rB _ _ hi];exact h
set_option maxHeartbeats 4000000 in
theorem c65(p:Prog)(r:ah)(n:Int)(hb:r.fit):Pure prog 125 [.iv (di p),ag r.c,pI n] (ag (pG p r n).c):=by
 obtain⟨hb,G,I⟩:=hb;have b0:r.size=r.head.ad.length+Lit.az r.body:=rfl;have S:=Lit.au r.body;refine ae ab func125 Z (by decide) ntmps125 Z (by simp) Z ?_;refine gA Z (zp (c61 r.head G) ?_);refine zJ Z Z (fun g1=>?_) fun g1=>?_
 .have g1:lX r.head=kw:=by
   cases h:lX r.head with
   |true=>rfl
   |false=>
    have h:(ky WS.o r.head).bad=lc:=h;rw[h]at g1;simp at g1
  rw[pG,am g1];exact zU Z
 have g1: ¬lX r.head=kw:=by
  intro h;have h:(ky WS.o r.head).bad=kw:=h;rw[h]at g1;simp at g1
 rw[pG,be g1];refine gA Z ?_;refine aw 0 r.body.length (Zf _) (fun i=>⟨[(2,pI n),(3,.ptr 0 0),(4,.ptr 1 0),(6,.ptr 2 0),(32,.iv (lits r.body)),(33,pI r.body.length),(34,pI i)],[(0,io (.cells [.iv (di p)])),(1,io (aj r.c)),(2,io (.cells [pI 0,pI 0,pI 0]))],3⟩) (fun i=>(r.body.take i).any iR=lc) [] (by simp)
  (zW ⟨⟨_,rfl,.of_eq Z⟩,Y5 Z,rfl,⟨_,rfl,.of_eq Z⟩,Y5 Z,rfl,⟨_,rfl,.of_eq Z⟩,Y5 Z,rfl,ac⟩) fun i Y j=>?_
 refine zJ Z Z (fun A=>?_) fun A=>?_
 .have A:i<r.body.length:=zN A;have F:=aW j A;have hm:r.body.getD i em∈r.body:=by rw[Y6,Za A];exact ZQ A
  have a0:=Lit.aF r.body i A;refine gA Z (bg (YP (r.body.getD i em) (I _ hm) (by omega)) Z Z Z Z Z Z ?_);refine zJ Z Z (fun y=>?_) fun y=>?_
  .have y:iR (r.body.getD i em)=kw:=by
    cases h:iR (r.body.getD i em) with
    |true=>rfl
    |false=>
     have h:(eF (r.body.getD i em).size (r.body.getD i em) WS.o).bad=lc:=h;have g:(!li ((if(eF (r.body.getD i em).size (r.body.getD i em) WS.o).bad=kw then(50:Int) else 0)=0))=kw:=y;rw[h]at g;simp at g
   rw[kZ j A y];exact zU Z
  .have y:iR (r.body.getD i em)=lc:=by
    cases h:iR (r.body.getD i em) with
    |false=>rfl
    |true=>
     have h:(eF (r.body.getD i em).size (r.body.getD i em) WS.o).bad=kw:=h;have g:(!li ((if(eF (r.body.getD i em).size (r.body.getD i em) WS.o).bad=kw then(50:Int) else 0)=0))=lc:=y;rw[h]at g;simp at g
   refine gA Z ⟨A,F.2 y,[],zW ⟨⟨_,rfl,.of_eq Z⟩,Y5 Z,rfl,⟨_,rfl,.of_eq Z⟩,Y5 Z,rfl,⟨_,rfl,.of_eq Z⟩,Y5 Z,rfl,ac⟩⟩
 have A:r.body.length<=i:=zG A;rw[Zh A]at j;rw[eN j];refine zE Z Z (fun g2=>?_) fun g2=>?_
 .have g2:n>256:=by simpa using g2
  rw[am (.inl g2)];exact zU Z
 have g2: ¬n>256:=zF g2;refine zJ Z Z (fun g3=>?_) fun g3=>?_
 .rw[am (.inr (zT g3))];exact zU Z
 have g3: ¬(r.body.length:Int)>12:=zF g3;rw[be (by rintro(h|h);exact g2 h;exact g3 h)];refine gA Z (zp (c48 r (by omega)) ?_);refine gA Z (zp (YO r (by omega)) ?_);refine zJ Z Z (fun g4=>?_) fun g4=>?_
 .rw[am (zT g4)];exact zU Z
 have g4: ¬(tZ r:Int)>24:=zF g4;rw[be g4];refine gA Z ?_;refine aw 0 r.body.length (Zf _) (fun i=>⟨[(3,.ptr 0 0),(4,.ptr 1 0),(6,.ptr 2 0),(13,.iv (db r)),(69,.iv (lits r.body)),(70,pI r.body.length),(71,pI i)],[(0,io (.cells [.iv (di p)])),(1,io (aj r.c)),(2,io (.cells [pI 0,pI 0,pI 0]))],3⟩) (fun i=>(r.body.take i).any pA=lc) [] (by simp)
  (zW ⟨⟨_,rfl,.of_eq Z⟩,Y5 Z,rfl,⟨_,rfl,.of_eq Z⟩,Y5 Z,rfl,⟨_,rfl,.of_eq Z⟩,Y5 Z,rfl,ac⟩) fun i Y j=>?_
 refine zJ Z Z (fun y=>?_) fun y=>?_
 .have y:i<r.body.length:=zN y;have F:=aW j y;refine zJ Z Z (fun k1=>?_) fun k1=>?_
  .have k1:(r.body.getD i em).kind=4:=zT k1;refine zJ Z Z (fun D=>?_) fun D=>?_
   .have D:pA (r.body.getD i em)=kw:=by rw[pA,decide_eq_true k1];exact D
    rw[kZ j y D];exact zU Z
   .have D:pA (r.body.getD i em)=lc:=by rw[pA,decide_eq_true k1];exact D
    refine gA Z ⟨y,F.2 D,[],zW ⟨⟨_,rfl,.of_eq Z⟩,Y5 Z,rfl,⟨_,rfl,.of_eq Z⟩,Y5 Z,rfl,⟨_,rfl,.of_eq Z⟩,Y5 Z,rfl,ac⟩⟩
  .have k1: ¬(r.body.getD i em).kind=4:=zF (by have g:li ((r.body.getD i em).kind=4)=lc:=k1;exact g);refine gA Z ⟨y,F.2 (by rw[pA,decide_eq_false k1];rfl),[],zW ⟨⟨_,rfl,.of_eq Z⟩,Y5 Z,rfl,⟨_,rfl,.of_eq Z⟩,Y5 Z,rfl,⟨_,rfl,.of_eq Z⟩,Y5 Z,rfl,ac⟩⟩
 have y:r.body.length<=i:=zG y;rw[Zh y]at j;rw[eN j];refine gA Z (zp (c49 p r (by omega)) ?_);refine gA Z ?_;refine fO [] (t:=⟨[(3,.ptr 0 0),(4,.ptr 1 0),(6,.ptr 2 0),(104,.sl 3 0 5 2),(105,pI 5),(106,pI 0)],[(0,io (.cells [.iv (di p)])),(1,io (aj r.c)),(2,io (.cells [pI 0,pI 0,pI 0])),(3,io (.row 2 (kU p r)))],4⟩)
  (zW (zO (zO (zO ⟨⟨_,rfl,.of_eq Z⟩,Y5 Z,c9 p r _ Z,ac⟩)))) ?_
 have J:(oO p r).ws.length<=1000000000000:=by have:=yP p r r.body.length (Zc _);rw[aaQ]at this;show(fj p r r.body.length).ws.length<=_;omega
 rw[yg];refine LW (n:=6) ?_;refine zE Z Z (fun q=>?_) fun q=>?_
 .exact absurd (show kw=lc from q) (by decide)
 refine gA Z ?_;refine aw 0 (r.body.length+1) (Zf _) (fun k=>⟨[(3,.ptr 0 0),(4,.ptr 1 0),(6,.ptr 2 0),(18,.ptr 4 0),(19,pI ((k:Int)-1)),(104,.sl 3 0 5 2),(105,pI 5),(106,pI 0)],[(0,io (.cells [.iv (di p)])),(1,io (aj r.c)),(2,io (.cells [pI 0,pI 0,pI 0])),(3,io (.row 2 (kU p r))),(4,io (.cells [pI 61,.du (.func 160) [] [.ptr 1 0,.ptr 0 0]]))],5⟩) (fun k=>((jd r.body.length).take k).any (fun lit=>(bu r lit).any fun x=>lZ p x)=lc) [] Z
  (zW (zO (zO (zO ⟨⟨_,rfl,.of_eq Z⟩,Y5 Z,c9 p r _ Z,(zO trivial)⟩)))) fun k B j=>?_
 refine zJ Z Z (fun d=>?_) fun d=>?_
 .have d:(k:Int)-1<r.body.length:=zT d;have b:k<r.body.length+1:=by omega
  refine gA Z (zq [1,0] (d110 p r ((k:Int)-1) (by omega) (by omega)) ?_);refine zJ Z Z (fun u=>?_) fun u=>?_
  .rw[mE j b u];refine gA Z (n9 (MM r ((k:Int)-1) d) ?_);exact zU Z
  .refine gA Z ?_;exact⟨b,ox j b u,[],zM (bv (bv (bv (bv ⟨.of_eq (FG (by omega)),rfl,bv (bv (bv ac))⟩)))) (zO (zO (zO ⟨⟨_,rfl,.of_eq Z⟩,Y5 Z,c9 p r _ Z,(zO ac)⟩)))⟩
 have d: ¬(k:Int)-1<r.body.length:=zF d;rw[oy j (by omega)];clear j B d;refine zE Z Z (fun q=>?_) fun q=>?_
 .exact absurd (show kw=lc from q) (by decide)
 refine gA Z ?_;refine aw 0 (r.body.length+1) (Zf _) (fun k=>⟨[(3,.ptr 0 0),(4,.ptr 1 0),(6,.ptr 2 0),(18,.ptr 5 0),(19,pI ((k:Int)-1)),(104,.sl 3 0 5 2),(105,pI 5),(106,pI 1)],[(0,io (.cells [.iv (di p)])),(1,io (aj r.c)),(2,io (.cells [pI 0,pI 0,pI 0])),(3,io (.row 2 (kU p r))),(5,io (.cells [pI 62,.du (.func 164) [] [.ptr 1 0,.ptr 0 0]]))],6⟩) (fun k=>((jd r.body.length).take k).any (fun lit=>(bu r lit).any fun x=>nj p x)=lc) [] Z
  (zW (zO (zO (zO ⟨⟨_,rfl,.of_eq Z⟩,Y5 Z,c9 p r _ Z,(zO trivial)⟩)))) fun k B j=>?_
 refine zJ Z Z (fun d=>?_) fun d=>?_
 .have d:(k:Int)-1<r.body.length:=zT d;have b:k<r.body.length+1:=by omega
  refine gA Z (zq [1,0] (d114 p r ((k:Int)-1) (by omega) (by omega)) ?_);refine zJ Z Z (fun u=>?_) fun u=>?_
  .rw[mE j b u];refine gA Z (n9 (MM r ((k:Int)-1) d) ?_);exact zU Z
  .refine gA Z ?_;exact⟨b,ox j b u,[],zM (bv (bv (bv (bv ⟨.of_eq (FG (by omega)),rfl,bv (bv (bv ac))⟩)))) (zO (zO (zO ⟨⟨_,rfl,.of_eq Z⟩,Y5 Z,c9 p r _ Z,(zO ac)⟩)))⟩
 have d: ¬(k:Int)-1<r.body.length:=zF d;rw[oy j (by omega)];clear j B d;refine zE Z Z (fun q=>?_) fun q=>?_
 .exact absurd (show kw=lc from q) (by decide)
 refine gA Z ?_;refine aw 0 (r.body.length+1) (Zf _) (fun k=>⟨[(3,.ptr 0 0),(4,.ptr 1 0),(6,.ptr 2 0),(18,.ptr 6 0),(19,pI ((k:Int)-1)),(104,.sl 3 0 5 2),(105,pI 5),(106,pI 2)],[(0,io (.cells [.iv (di p)])),(1,io (aj r.c)),(2,io (.cells [pI 0,pI 0,pI 0])),(3,io (.row 2 (kU p r))),(6,io (.cells [pI 65,.du (.func 166) [] [.ptr 1 0]]))],7⟩) (fun k=>((jd r.body.length).take k).any (dF r)=lc) [] Z
  (zW (zO (zO (zO ⟨⟨_,rfl,.of_eq Z⟩,Y5 Z,c9 p r _ Z,(zO trivial)⟩)))) fun k B j=>?_
 refine zJ Z Z (fun d=>?_) fun d=>?_
 .have d:(k:Int)-1<r.body.length:=zT d;have b:k<r.body.length+1:=by omega
  refine gA Z (zq [1] (d116 r ((k:Int)-1) (by omega) (by omega)) ?_);refine zJ Z Z (fun u=>?_) fun u=>?_
  .rw[mE j b u];refine gA Z (n9 (MM r ((k:Int)-1) d) ?_);exact zU Z
  .refine gA Z ?_;exact⟨b,ox j b u,[],zM (bv (bv (bv (bv ⟨.of_eq (FG (by omega)),rfl,bv (bv (bv ac))⟩)))) (zO (zO (zO ⟨⟨_,rfl,.of_eq Z⟩,Y5 Z,c9 p r _ Z,(zO ac)⟩)))⟩
 have d: ¬(k:Int)-1<r.body.length:=zF d;rw[oy j (by omega)];clear j B d;refine zE Z Z (fun q=>?_) fun q=>?_
 .exact absurd (show kw=lc from q) (by decide)
 refine gA Z ?_;refine aw 0 (r.body.length+1) (Zf _) (fun k=>⟨[(3,.ptr 0 0),(4,.ptr 1 0),(6,.ptr 2 0),(18,.ptr 7 0),(19,pI ((k:Int)-1)),(104,.sl 3 0 5 2),(105,pI 5),(106,pI 3)],[(0,io (.cells [.iv (di p)])),(1,io (aj r.c)),(2,io (.cells [pI 0,pI 0,pI 0])),(3,io (.row 2 (kU p r))),(7,io (.cells [pI 63,.du (.func 169) [.iv (TB r (oO p r))] []]))],8⟩) (fun k=>((jd r.body.length).take k).any (nJ (oO p r))=lc) [] Z
  (zW (zO (zO (zO ⟨⟨_,rfl,.of_eq Z⟩,Y5 Z,c9 p r _ Z,(zO trivial)⟩)))) fun k B j=>?_
 refine zJ Z Z (fun d=>?_) fun d=>?_
 .have d:(k:Int)-1<r.body.length:=zT d;have b:k<r.body.length+1:=by omega
  refine gA Z (bg (YM r (oO p r) ((k:Int)-1) (CH p r _) J) Z Z Z Z Z Z ?_);refine zJ Z Z (fun u=>?_) fun u=>?_
  .rw[mE j b u];refine gA Z (n9 (MM r ((k:Int)-1) d) ?_);exact zU Z
  .refine gA Z ?_;exact⟨b,ox j b u,[],zM (bv (bv (bv (bv ⟨.of_eq (FG (by omega)),rfl,bv (bv (bv ac))⟩)))) (zO (zO (zO ⟨⟨_,rfl,.of_eq Z⟩,Y5 Z,c9 p r _ Z,(zO ac)⟩)))⟩
 have d: ¬(k:Int)-1<r.body.length:=zF d;rw[oy j (by omega)];clear j B d;refine zE Z Z (fun q=>?_) fun q=>?_
 .exact absurd (show kw=lc from q) (by decide)
 refine gA Z ?_;refine aw 0 (r.body.length+1) (Zf _) (fun k=>⟨[(3,.ptr 0 0),(4,.ptr 1 0),(6,.ptr 2 0),(18,.ptr 8 0),(19,pI ((k:Int)-1)),(104,.sl 3 0 5 2),(105,pI 5),(106,pI 4)],[(0,io (.cells [.iv (di p)])),(1,io (aj r.c)),(2,io (.cells [pI 0,pI 0,pI 0])),(3,io (.row 2 (kU p r))),(8,io (.cells [pI 64,.du (.func 170) [.iv (db r)] []]))],9⟩) (fun k=>((jd r.body.length).take k).any (dN r)=lc) [] Z
  (zW (zO (zO (zO ⟨⟨_,rfl,.of_eq Z⟩,Y5 Z,c9 p r _ Z,(zO trivial)⟩)))) fun k B j=>?_
 refine zJ Z Z (fun d=>?_) fun d=>?_
 .have d:(k:Int)-1<r.body.length:=zT d;have b:k<r.body.length+1:=by omega
  refine gA Z (zp (YL r ((k:Int)-1) (by omega) (by omega)) ?_);refine zJ Z Z (fun u=>?_) fun u=>?_
  .rw[mE j b u];refine gA Z (n9 (MM r ((k:Int)-1) d) ?_);exact zU Z
  .refine gA Z ?_;exact⟨b,ox j b u,[],zM (bv (bv (bv (bv ⟨.of_eq (FG (by omega)),rfl,bv (bv (bv ac))⟩)))) (zO (zO (zO ⟨⟨_,rfl,.of_eq Z⟩,Y5 Z,c9 p r _ Z,(zO ac)⟩)))⟩
 have d: ¬(k:Int)-1<r.body.length:=zF d;rw[oy j (by omega)];clear j B d;refine zJ Z Z (fun q=>?_) fun q=>?_
 .exact absurd (show lc=kw from q) (by decide)
 exact zU Z
section
theorem iV:prog.cellsOf 3=1:=by kernel_rfl
theorem qU:prog.cellsOf 9=1:=by kernel_rfl
theorem CE:prog.cellsOf 98=3:=by kernel_rfl
theorem EU:prog.cellsOf 143=5:=by kernel_rfl
theorem Qy:prog.cellsOf 71=1:=by kernel_rfl
theorem CF:prog.cellsOf 73=2:=by kernel_rfl
theorem Qx:prog.cellsOf 99=1:=by kernel_rfl
theorem qV:prog.cellsOf 101=7:=by kernel_rfl
theorem EW:prog.cellsOf 103=10:=by kernel_rfl
theorem HZ:prog.cellsOf 74=1:=by kernel_rfl
theorem yM:prog.cellsOf 105=30:=by kernel_rfl
theorem xl:prog.cellsOf 35=2:=by kernel_rfl
theorem HY:prog.cellsOf 76=5:=by kernel_rfl
theorem H2:prog.cellsOf 47=1:=by kernel_rfl
theorem H0:prog.cellsOf 49=4:=by kernel_rfl
theorem QJ:prog.cellsOf 22=1:=by kernel_rfl
theorem QI:prog.cellsOf 23=1:=by kernel_rfl
theorem QH:prog.cellsOf 25=2:=by kernel_rfl
section
variable {H:Type}
abbrev bk(d:DataW H):Nat:=Rows.uptoBulk d
theorem Gn(d:DataW H):1<=bk d:=by
 cases d with
 |lit l=>cases l<;>simp[bk,Rows.uptoBulk]
 |nil=>simp[bk,Rows.uptoBulk]
 |ptr d=>simp[bk,Rows.uptoBulk]
 |slice elems spare=>simp[bk,Rows.uptoBulk]
 |agg parts=>simp[bk,Rows.uptoBulk]
 |iface t d=>simp[bk,Rows.uptoBulk]
 |map entries=>simp[bk,Rows.uptoBulk]
 |held h=>simp[bk,Rows.uptoBulk]
theorem yR(s:ByteArray):bk (DataW.lit (H:=H) (.string s.data.toList))=s.size+1:=by
 simp[bk,Rows.uptoBulk]
theorem _root_.Go.Al.QL.sum{α:Type}{Q:α->DataW H->Prop}{l:List α}{d:DataW H}(h:QL Q l d){f:α->Nat}{c:Nat}(hf: ∀x e,Q x e->f x<=c*bk e):(l.map f).sum<=c*bk d:=by
 obtain⟨el,hd,b,u⟩:=h;have key: ∀(l:List α) (el:List (DataW H)),l.length=el.length->(∀(i:Nat) (x:α) (e:DataW H),l[i]? =io x->el[i]? =io e->Q x e)->(l.map f).sum<=c*Rows.uptoBulkAll el:=by
  intro l
  induction l with
  |nil=>intro el _ _;simp
  |cons x r ih=>
   intro el y u;cases el with
   |nil=>simp at y
   |cons e el=>
    have j:=hf x e (u 0 x e Z Z);have D:=ih el (by simpa using y) fun i x e B A=>u (i+1) x e (by simpa using B) (by simpa using A);simp only[Zr,aaW,Rows.uptoBulkAll,Nat.mul_add];simp only[bk]at j;omega
 have j:=key l el b u;rcases hd with⟨rfl,rfl⟩|⟨sp,rfl⟩
 .simp[Rows.uptoBulkAll]at j;omega
 .refine Z1 j (Nat.mul_le_mul_left c ?_);simp only[bk,Rows.uptoBulk];omega
theorem Dd{α:Type}: ∀l:List α,(l.map fun _=>1).sum=l.length
 | []=>rfl
 |x::r=>by simp only[Zr,aaW,ZI,Dd r];omega
theorem _root_.Go.Al.QL.len{α:Type}{Q:α->DataW H->Prop}{l:List α}{d:DataW H}(h:QL Q l d):l.length<=bk d:=by
 have:=h.sum (f:=fun _=>1) (c:=1) fun x e _=>by have:=Gn e;omega
 have e:=Dd l;omega
theorem _root_.Go.Al.QL.all{α:Type}{Q:α->DataW H->Prop}{l:List α}{d:DataW H}(h:QL Q l d): ∀x∈l,∃e,Q x e∧bk e<=bk d:=by
 intro x D;obtain⟨el,hd,j,B⟩:=h;obtain⟨i,A,rfl⟩:=aaf.1 D;have b:i<el.length:=by omega
 refine⟨el[i],B i _ _ (Za A) (Za b),?_⟩;have key: ∀(el:List (DataW H)),∀e∈el,bk e<=Rows.uptoBulkAll el:=by
  intro el
  induction el with
  |nil=>intro e he;cases he
  |cons y r ih=>
   intro e he;simp only[Rows.uptoBulkAll];rcases Zq.1 he with rfl|he
   .simp only[bk];omega
   .have:=ih e he;omega
 have u:=key el el[i] (ZQ b);rcases hd with⟨rfl,rfl⟩|⟨sp,rfl⟩
 .simp at b
 .refine Z1 u ?_;simp only[bk,Rows.uptoBulk];omega
end
theorem Expr.iG: ∀l:List Expr,Expr.az l=(l.map Expr.size).sum
 | []=>rfl
 |e::r=>by simp only[Expr.az,Zr,aaW,Expr.iG r]
theorem Expr.tQ: ∀l:List Expr,Expr.lK l=(l.map Expr.ts).sum
 | []=>rfl
 |e::r=>by simp only[Expr.lK,Zr,aaW,Expr.tQ r]
theorem Lit.iG: ∀l:List Lit,Lit.az l=(l.map Lit.size).sum
 | []=>rfl
 |e::r=>by simp only[Lit.az,Zr,aaW,Lit.iG r]
theorem Lit.tQ: ∀l:List Lit,Lit.lK l=(l.map Lit.ts).sum
 | []=>rfl
 |e::r=>by simp only[Lit.lK,Zr,aaW,Lit.tQ r]
section
variable {H:Type} {enc:TypeId×Value->H} {W:World} {hT:pL W} {sp:Nat->Bool} {held:Bool}
def QV(v:tK)(d:DataW H):Prop:=v.sym.size<=bk d
def QT(t:Term)(d:DataW H):Prop:=t.ts<=400*bk d
def QA(a:Atom)(d:DataW H):Prop:=a.ts<=400*bk d∧a.ad.length<=bk d
def QE(e:Expr)(d:DataW H):Prop:=e.ts<=400*bk d∧e.size<=bk d
def QP(_:Pos)(_:DataW H):Prop:=True
def Pos.c(p:Pos):List IV:=[iI p.line,iI p.zy]
def QG(g:eO)(d:DataW H):Prop:=g.var.size+g.dZ.ts+Lit.lK g.body<=400*bk d∧g.dZ.size+Lit.az g.body<=bk d
def QB(l:Lit)(d:DataW H):Prop:=l.ts<=400*bk d∧l.size<=bk d
theorem rd_val(n:Nat):Rd enc prog W hT sp held 98 tK.c QV n:=by
 intro m _ G y h;obtain⟨F,k,rfl,rfl,A,B,d⟩:=DataW.trod_struct underlying98 h
 match F,B with
 | [x0,x1,x2],_=>
  obtain⟨a,j,I,_⟩:=js (hT:=hT) underlying3 k k (Zc _) _ _ (n8 d 0 Z Z Z iV Z);obtain⟨b,u,J,_⟩:=js (hT:=hT) underlying3 k k (Zc _) _ _ (n8 d 1 Z Z Z iV Z);obtain⟨c,x,D,_⟩:=jL (hT:=hT) underlying9 k k (Zc _) _ _ (n8 d 2 Z Z Z qU Z);refine⟨⟨a,b,c⟩,j.fm (o':=1) Z (u.fm (o':=2) Z (x.fm (o':=3) Z (.end_ (A.trans CE)))),?_⟩;simp only[QV,bk,Zr,Z0,Rows.uptoBulk,Rows.uptoBulkAll];have:=yR (H:=H) c;rw[<-D]at this;simp only[bk]at this;omega
theorem FC(n:Nat):Rd enc prog W hT sp held 35 Pos.c QP n:=by
 intro m _ D y h;obtain⟨B,k,rfl,rfl,x,A,d⟩:=DataW.trod_struct underlying35 h
 match B,A with
 | [x0,x1],_=>
  obtain⟨a,j,F,_⟩:=js (hT:=hT) underlying3 k k (Zc _) _ _ (n8 d 0 Z Z Z iV Z);obtain⟨b,u,G,_⟩:=js (hT:=hT) underlying3 k k (Zc _) _ _ (n8 d 1 Z Z Z iV Z);exact⟨⟨a,b⟩,j.fm (o':=1) Z (u.fm (o':=2) Z (.end_ (x.trans xl))),ac⟩
theorem PB(n:Nat):Rd enc prog W hT sp held 143 Term.c QT n:=by
 intro m _ G y h;obtain⟨F,k,rfl,rfl,A,B,d⟩:=DataW.trod_struct underlying143 h
 match F,B with
 | [x0,x1,x2],_=>
  obtain⟨a,j,I,_⟩:=js (hT:=hT) underlying3 k k (Zc _) _ _ (n8 d 0 Z Z Z iV Z);obtain⟨b,u,D,_⟩:=jL (hT:=hT) underlying9 k k (Zc _) _ _ (n8 d 1 Z Z Z qU Z);obtain⟨c,x,J⟩:=rd_val (hT:=hT) k k (Zc _) _ _ (n8 d 2 Z Z Z CE Z);refine⟨⟨a,b,c⟩,j.fm (o':=1) Z (u.fm (o':=2) Z (x.fm (o':=5) Z (.end_ (A.trans EU)))),?_⟩;simp only[QT,Term.ts,bk,Zr,Z0,Rows.uptoBulk,Rows.uptoBulkAll];have:=yR (H:=H) b;rw[<-D]at this;simp only[bk]at this;omega
theorem G7(n:Nat):Rd enc prog W hT sp held 73 Atom.c QA n:=by
 intro m _ S y h;obtain⟨J,k,rfl,rfl,F,G,j⟩:=DataW.trod_struct underlying73 h
 match J,G with
 | [x0,x1],_=>
  obtain⟨a,x,I,_⟩:=jL (hT:=hT) underlying9 k k (Zc _) _ _ (n8 j 0 Z Z Z qU Z);obtain⟨b,A,u⟩:=(iZ (hT:=hT) underlying71 EU (by decide) (fun _=>rfl) (PB k)).mono (abv k) k (Zc _) _ _ (n8 j 1 Z Z Z Qy Z);refine⟨⟨a,b⟩,x.fm (o':=1) Z (A.fm (o':=2) Z (.end_ (F.trans CF))),?_⟩;have d:=yR (H:=H) a;rw[<-I]at d;have B:=u.sum (f:=Term.ts) (c:=400) fun _ _ h=>h;have D:=u.len;simp only[bk]at d B D;simp only[QA,Atom.ts,bk,Zr,Z0,Rows.uptoBulk,Rows.uptoBulkAll];omega
theorem w4: ∀n:Nat,Rd enc prog W hT sp held 101 Expr.c QE n
 |0=>fun m hm S y h=>by
  obtain rfl:m=0:=by omega
  simp[DataW.trod]at h
 |n+1=>fun m hm S y h=>by
  obtain⟨xs,k,rfl,rfl,Y,hx,j⟩:=DataW.trod_struct underlying101 h;have hs:=iZ (hT:=hT) underlying99 qV (by decide) (fun _=>rfl) (w4 n)
  match xs,hx with
  | [x0,x1,x2,x3,x4],_=>
   obtain⟨a,D,qa,_⟩:=js (hT:=hT) underlying3 k k (Zc _) _ _ (n8 j 0 Z Z Z iV Z);obtain⟨b,F,qb,_⟩:=jL (hT:=hT) underlying9 k k (Zc _) _ _ (n8 j 1 Z Z Z qU Z);obtain⟨c,G,qc⟩:=rd_val (hT:=hT) k k (Zc _) _ _ (n8 j 2 Z Z Z CE Z);obtain⟨d,I,qd,_⟩:=js (hT:=hT) underlying3 k k (Zc _) _ _ (n8 j 3 Z Z Z iV Z);obtain⟨e,J,B⟩:=hs k (by omega) _ _ (n8 j 4 Z Z Z Qx Z);refine⟨.mk a b c d e,D.fm (o':=1) Z (F.fm (o':=2) Z (G.fm (o':=5) Z (I.fm (o':=6) Z ((J.xd (HP (.mk a b c d e))).fm (o':=7) Z (.end_ (Y.trans qV)))))),?_⟩;have u:=yR (H:=H) b;rw[<-qb]at u;have x:=B.sum (f:=Expr.ts) (c:=400) fun _ _ h=>h.1;have A:=B.sum (f:=Expr.size) (c:=1) fun _ _ h=>by have:=h.2;omega
   rw[<-Expr.tQ]at x;rw[<-Expr.iG]at A;simp only[bk]at u x A;simp only[QE,Expr.ts,Expr.size,bk,Zr,Z0,Rows.uptoBulk,Rows.uptoBulkAll];omega
theorem Uc{n:Nat}(hb:Rd enc prog W hT sp held 74 (fun l:List Lit=> [cZ 30 l Lit.c]) (QL QB) n):Rd enc prog W hT sp held 103 eO.c QG (n+1):=by
 intro m hm cs y h;obtain⟨xs,k,rfl,rfl,Y,hx,j⟩:=DataW.trod_struct underlying103 h
 match xs,hx with
 | [x0,x1,x2,x3],_=>
  obtain⟨a,D,qa,_⟩:=js (hT:=hT) underlying3 k k (Zc _) _ _ (n8 j 0 Z Z Z iV Z);obtain⟨b,F,qb,_⟩:=jL (hT:=hT) underlying9 k k (Zc _) _ _ (n8 j 1 Z Z Z qU Z);obtain⟨c,G,qc⟩:=w4 (hT:=hT) k k (Zc _) _ _ (n8 j 2 Z Z Z qV Z);obtain⟨d,I,B⟩:=hb k (by omega) _ _ (n8 j 3 Z Z Z HZ Z);refine⟨⟨a,b,c,d⟩,D.fm (o':=1) Z (F.fm (o':=2) Z (G.fm (o':=9) Z ((I.xd (FX d)).fm (o':=10) Z (.end_ (Y.trans EW))))),?_⟩;have u:=yR (H:=H) b;rw[<-qb]at u;have x:=B.sum (f:=Lit.ts) (c:=400) fun _ _ h=>h.1;have A:=B.sum (f:=Lit.size) (c:=1) fun _ _ h=>by have:=h.2;omega
  rw[<-Lit.tQ]at x;rw[<-Lit.iG]at A;obtain⟨J,S⟩:=qc;simp only[bk]at u x A J S;simp only[QG,bk,Zr,Z0,Rows.uptoBulk,Rows.uptoBulkAll];omega
theorem KQ: ∀n:Nat,Rd enc prog W hT sp held 105 Lit.c QB n
 |0=>fun m hm J y h=>by
  obtain rfl:m=0:=by omega
  simp[DataW.trod]at h
 |n+1=>fun m hm J y h=>by
  obtain⟨xs,k,rfl,rfl,hl,hx,j⟩:=DataW.trod_struct underlying105 h;have hs:=Uc (iZ (hT:=hT) underlying74 yM (by decide) (fun _=>rfl) (KQ n))
  match xs,hx with
  | [x0,x1,x2,x3,x4,x5,x6],_=>
   obtain⟨a,x,qa,_⟩:=js (hT:=hT) underlying3 k k (Zc _) _ _ (n8 j 0 Z Z Z iV Z);obtain⟨b,A,qb⟩:=G7 (hT:=hT) k k (Zc _) _ _ (n8 j 1 Z Z Z CF Z);obtain⟨c,B,qc,_⟩:=js (hT:=hT) underlying3 k k (Zc _) _ _ (n8 j 2 Z Z Z iV Z);obtain⟨d,D,qd⟩:=w4 (hT:=hT) k k (Zc _) _ _ (n8 j 3 Z Z Z qV Z);obtain⟨e,F,qe⟩:=w4 (hT:=hT) k k (Zc _) _ _ (n8 j 4 Z Z Z qV Z);obtain⟨g,G,qg⟩:=hs k (by omega) _ _ (n8 j 5 Z Z Z EW Z);obtain⟨p,I,_⟩:=FC (hT:=hT) k k (Zc _) _ _ (n8 j 6 Z Z Z xl Z);refine⟨.mk a b c d e g.func g.var g.dZ g.body p,x.fm (o':=1) Z (A.fm (o':=3) Z (B.fm (o':=4) Z (D.fm (o':=11) Z (F.fm (o':=18) Z (G.fm (o':=28) Z (I.fm (o':=30) Z (.end_ (hl.trans yM)))))))),?_⟩;obtain⟨S,Y⟩:=qb;obtain⟨h3,h4⟩:=qd;obtain⟨h5,h6⟩:=qe;obtain⟨h7,h8⟩:=qg;have h9:=Gn x0.1;have u:=Gn x2.1;simp only[bk]at S Y h3 h4 h5 h6 h7 h8 h9 u;simp only[QB,Lit.ts,Lit.size,bk,Zr,Z0,Rows.uptoBulk,Rows.uptoBulkAll];omega
theorem PF(n:Nat):Rd enc prog W hT sp held 74 (fun l:List Lit=> [lits l]) (QL QB) n:=
 (iZ (hT:=hT) underlying74 yM (by decide) (fun _=>rfl) (KQ n)).mono (abv n)
end
end
end Go.Proofs.YtflegjieadkonaaGreatDoor
namespace Go.Proofs.YtflegjieadkonaaGreatDoor
open Go Go.Al Go.Proofs.Tryz Go.ChangeShapes Go.WideShapes Go.RowKit
theorem own:ownKnob prog.godebug=jp:=by kernel_rfl
theorem WH:prog.globalNamed "internal/strconv.uint64pow10" =io 0:=by kernel_rfl
theorem Mb:(prog.globals[0]?).map (·.type)=io 343:=by kernel_rfl
theorem MF:prog.cellsOf 343=20:=by kernel_rfl
theorem MG:prog.cellsOf 205=1:=by kernel_rfl
theorem JY:prog.underlying 343=io (.array 20 205):=by kernel_rfl
theorem JZ:prog.underlying 205=io (.int .u64):=by kernel_rfl
abbrev Lw:List (String×DataW Unit):=[("math/bits.deBruijn32tab",Rows.laid_math_bits_deBruijn32tab),("math/bits.deBruijn64tab",Rows.laid_math_bits_deBruijn64tab),("internal/strconv.uint64pow10",Rows.laid_internal_strconv_uint64pow10)]
theorem J9{W:World}(h:laidMetH prog Lw W):pL W:=by
 have j:=laidMetH.filter (fun x=>x.1== "internal/strconv.uint64pow10") h;have y:laidMet prog [("internal/strconv.uint64pow10",Lib.tabData .u64 td)] W:=by
  rw[show Lw.filter (fun x=>x.1== "internal/strconv.uint64pow10")=[("internal/strconv.uint64pow10",Lib.tabData .u64 td)] by kernel_rfl]at j;rwa[MakeChecks.laidMetH_plain _ _ _ (by kernel_rfl)]at j
 have d:Lib.TabIs prog W "internal/strconv.uint64pow10" .u64 td:=Lib.tabIs_of_head (rest:=[]) WH Mb JY JZ MG MF y;intro b c hb;unfold Lib.TabIs World.var? at d;rw[WH]at d
 match b with
 |0=>
  have A:(td.map fun z=>Value.int .u64 z).toArray=c:=Z5 hb;rw[A]at d;simp only[ab8]at d;split at d
  .rename_i B T u e;exact⟨T,u,by rw[e,Z5 d]⟩
  .cases d
 |b+1=>exact nomatch hb
theorem kids:Kids prog (· <prog.types.size):=kids_rows (by kernel_rfl) (by kernel_rfl)
theorem full: ∀{t e},t<prog.types.size->prog.underlying t=io (.slice e)->0<prog.cellsOf e:=fun{t e}=>slices_full_of prog (by kernel_rfl) t e
theorem BU{H:Type}{enc:TypeId×Value->H}{W:World}(hT:pL W){k:FuncId}{f:Func}{s:ChangeSpec}{args:List PV}{vs:List Value}{B gs:List (DataW H)}{d:List MemPlace}
  (hp:Al.Pure prog k args (pB kw)) (F:args.length=vs.length) (hv: ∀(j:Nat) (p:PV),args[j]? =io p->VR (Mem.rS W hT) Wo (· <0) p (vs.getD j undef))
  (G: ∀t∈f.params.toList,t<prog.types.size) (y:s.vars=[]) (u:f.resultTypes= #[4])
  (hW:DataW.Whole enc prog f.params.toList s.vars lc W vs.toArray.toList B gs d)
  (I:(s.fn H (B++gs)).results=[.lit (.bool kw)]) (J:(s.fn H (B++gs)).args=B) (S:(s.fn H (B++gs)).vars=[]):
  Calls prog k vs.toArray W fun e W'=> ∃v,e= .returned v∧s.post enc prog f lc kw lc lc W vs.toArray v W':=by
 refine(hp.2 (Mem.rS W hT) Wo W vs (Px W hT) F hv).mono ?_;rintro e W' ⟨x,M',N',r,h',n',rfl,⟨rfl,rfl,rfl⟩,hx,hr,hvr⟩;have Y:x= .bool kw:=by
  cases hvr with
  |iv _ _ h=>cases h;rfl
 subst Y;refine⟨_,rfl,BV kids full G y hW hx.os hx.output (fun b hb=>hx.iT b hb fun i o hi=>(nomatch hi)) (fun b sp hd=>?_) J S ?_⟩
 .rw[I,u];exact trodAll_cons_mk (shut_bool underlying4 _) trodAll_mk0
 .intro j t r A D;rw[u]at A D
  match j,A,D with
  |0,A,D=>
   cases A;cases D;exact okWide_bool_mk underlying4 _
  |j+1,A,D=>simp at A
theorem bound{H:Type}{l:List (DataW H)}(b:Rows.uptoSmall H l=kw):Rows.uptoBulkAll l<=1048576:=of_decide_eq_true b
def Lu(b:Nat)(cs:Array Value)(h:Array Obj):Array Obj:=h.modify b fun
 | .cells _ t frozen=> .cells cs t frozen
 |o=>o
noncomputable def vC(os:Os):World:=
 {World.holding prog os ⟨#[], #[],[]⟩ with
  heap:=Lu 2 #[.int .u8 0,.int .u8 1,.int .u8 56,.int .u8 2,.int .u8 57,.int .u8 49,.int .u8 28,.int .u8 3,.int .u8 61,.int .u8 58,.int .u8 42,.int .u8 50,.int .u8 38,.int .u8 29,.int .u8 17,.int .u8 4,.int .u8 62,.int .u8 47,.int .u8 59,.int .u8 36,.int .u8 45,.int .u8 43,.int .u8 51,.int .u8 22,.int .u8 53,.int .u8 39,.int .u8 33,.int .u8 30,.int .u8 24,.int .u8 18,.int .u8 12,.int .u8 5,.int .u8 63,.int .u8 55,.int .u8 48,.int .u8 27,.int .u8 60,.int .u8 41,.int .u8 37,.int .u8 16,.int .u8 46,.int .u8 35,.int .u8 44,.int .u8 21,.int .u8 52,.int .u8 32,.int .u8 23,.int .u8 11,.int .u8 54,.int .u8 26,.int .u8 40,.int .u8 15,.int .u8 34,.int .u8 20,.int .u8 31,.int .u8 10,.int .u8 25,.int .u8 14,.int .u8 19,.int .u8 9,.int .u8 13,.int .u8 8,.int .u8 7,.int .u8 6] (Lu 1 #[.int .u8 0,.int .u8 1,.int .u8 28,.int .u8 2,.int .u8 29,.int .u8 14,.int .u8 24,.int .u8 3,.int .u8 30,.int .u8 22,.int .u8 20,.int .u8 15,.int .u8 25,.int .u8 17,.int .u8 4,.int .u8 8,.int .u8 31,.int .u8 27,.int .u8 13,.int .u8 23,.int .u8 21,.int .u8 19,.int .u8 16,.int .u8 7,.int .u8 26,.int .u8 12,.int .u8 18,.int .u8 6,.int .u8 11,.int .u8 5,.int .u8 10,.int .u8 9] (Lu 0 (td.map fun z=>Value.int .u64 z).toArray (World.holding prog os ⟨#[], #[],[]⟩).heap))}
end Go.Proofs.YtflegjieadkonaaGreatDoor
namespace Go.Proofs.YtflegjieadkonaaGreatDoor
open Go Go.Al Go.Proofs.Tryz
def aZ.z:aZ:=(0,⟨0,0⟩)
theorem d64(d e:aZ):bW prog 97 [ag d.c,.ptr 0 0] [aj e.c] (pB lc) [(0,io (aj d.c))] 1:=by
 refine aB ab func97 Z (by decide) ntmps97 Z (by simp) ?_;refine gA Z (zD [] Z (zW (zO ac)))
def dM(p:Prog)(i:Nat):List ak:=(p.aD.take i).map Decl.name
def dJ(p:Prog)(i:Nat):Int:=s9 (p.aD.getD i em) i (bU .str (aC (dM p i)) (p.aD.getD i em).name 0)
def jq(p:Prog):Nat->List aZ
 |0=> []
 |i+1=>jq p i++(if dJ p i=0 then[] else[(dJ p i,(p.aD.getD i em).at_)])
def p8(p:Prog)(i:Nat):aZ:=pG p (p.rules.getD i em) ((i:Int)+1)
def kq(p:Prog):Nat->List aZ
 |0=> []
 |i+1=>kq p i++(if(p8 p i).1=0 then[] else[p8 p i])
def jl(p:Prog):List aZ:=jq p p.aD.length++kq p p.rules.length
def dB(p:Prog):aZ:=(jl p).headD aZ.z
theorem DD(p:Prog)(i:Nat): ∀k,∃t,jq p (i+k)=jq p i++t
 |0=>⟨[],by simp⟩
 |k+1=>by
  obtain⟨t,h⟩:=DD p i k;exact⟨_,by rw[<-aaI,jq,h,Zj]⟩
theorem Du(p:Prog)(i:Nat): ∀k,∃t,kq p (i+k)=kq p i++t
 |0=>⟨[],by simp⟩
 |k+1=>by
  obtain⟨t,h⟩:=Du p i k;exact⟨_,by rw[<-aaI,kq,h,Zj]⟩
theorem Jx{p:Prog}{i:Nat}(d:jq p i=[])(hi:i<p.aD.length)(h: ¬dJ p i=0):dB p=(dJ p i,(p.aD.getD i em).at_):=by
 obtain⟨t,b⟩:=DD p (i+1) (p.aD.length-(i+1));have e:i+1+(p.aD.length-(i+1))=p.aD.length:=by omega
 rw[e,jq,d,be h]at b;rw[dB,jl,b];rfl
theorem Jw{p:Prog}{i:Nat}(h0:jq p p.aD.length=[])(d:kq p i=[])(hi:i<p.rules.length)(h: ¬(p8 p i).1=0):dB p=p8 p i:=by
 obtain⟨t,b⟩:=Du p (i+1) (p.rules.length-(i+1));have e:i+1+(p.rules.length-(i+1))=p.rules.length:=by omega
 rw[e,kq,d,be h]at b;rw[dB,jl,b,h0];rfl
theorem MD{p:Prog}(h0:jq p p.aD.length=[])(h1:kq p p.rules.length=[]):dB p=aZ.z:=by
 rw[dB,jl,h0,h1];rfl
theorem BQ{p:Prog}{i:Nat}(h:i<p.aD.length):aC (dM p (i+1))=bump (aC (dM p i)) (p.aD.getD i em).name:=by
 rw[dM,ba h,Ze];exact cU _ _
theorem FB(p:Prog)(i:Nat)(s:ak):0<=bU .str (aC (dM p i)) s 0∧bU .str (aC (dM p i)) s 0<=i:=by
 have h:=fa (dM p i) s;have b:(dM p i).length<=i:=by simp[dM];omega
 rw[bz];omega
def Prog.fit(p:Prog):Prop:=p.aD.length<=1000000000∧p.rules.length<=1000000000∧ ∀r∈p.rules,r.fit
theorem XY(p:Prog)(hb:p.fit):bW prog 96 [ag p.c,.du (.func 97) [] [.ptr 0 0]] [aj aZ.z.c] (.bQ []) [(0,io (aj (dB p).c))] 1:=by
 obtain⟨A,B,y⟩:=hb;refine aB ab func96 Z (by decide) ntmps96 Z (by simp) ?_;refine gA Z ?_;refine aw 0 p.aD.length (Zf _) (fun i=>⟨[(1,.du (.func 97) [] [.ptr 0 0]),(2,.ptr 1 0),(4,.mp 2),(13,.iv (cZ 4 p.aD Decl.c)),(14,pI p.aD.length),(15,pI i)],[(0,io (aj aZ.z.c)),(1,io (aj p.c)),(2,io (cx (aC (dM p i))))],3⟩) (fun i=>jq p i=[]) [] Z
  (zW ⟨⟨_,rfl,.of_eq Z⟩,Y5 Z,rfl,⟨_,rfl,.of_eq Z⟩,Y5 Z,rfl,Jf Z iu Z trivial⟩) fun i D u=>?_
 refine zJ Z Z (fun d=>?_) fun d=>?_
 .have d:i<p.aD.length:=zN d;have I:=FB p i (p.aD.getD i em).name;have G:=BQ d;refine gA Z (zp (YQ (p.aD.getD i em) i (bU .str (aC (dM p i)) (p.aD.getD i em).name 0)) ?_);refine zJ Z Z (fun g=>?_) fun g=>?_
  .have g: ¬dJ p i=0:=by
    have g:(!li (dJ p i=0))=kw:=g;simpa only[aae,decide_eq_false_iff_not]using g
   rw[Jx u d g];refine gA Z (zq [0] (d64 (dJ p i,(p.aD.getD i em).at_) aZ.z) ?_);refine zE Z Z (fun q=>?_) fun q=>?_
   .exact absurd (show kw=lc from q) (by decide)
   refine gA Z (zD [] Z (zW (zO ac)))
  .have g:dJ p i=0:=by
    have g:(!li (dJ p i=0))=lc:=g;simpa only[aaM,decide_eq_true_eq]using g
   refine gA Z ⟨d,by rw[jq,u,am g];rfl,[],zW (zO (zO (hM Z (by rw[G];rfl) Z trivial)))⟩
 have d:p.aD.length<=i:=zG d;have j:i=p.aD.length:=by omega
 subst j;refine gA Z (zq [] (d50 p (by omega)) ?_);refine gA Z ?_;refine xh 3 Z ?_;refine aw 0 p.rules.length (Zf _) (fun i=>⟨[(1,.du (.func 97) [] [.ptr 0 0]),(2,.ptr 1 0),(8,.iv (di p)),(47,.iv (cZ 5 p.rules ah.c)),(48,pI p.rules.length),(49,pI i)],[(0,io (aj aZ.z.c)),(1,io (aj p.c))],4⟩) (fun i=>kq p i=[]) [] Z
  (zW (zO (zO trivial))) fun i D x=>?_
 refine zJ Z Z (fun b=>?_) fun b=>?_
 .have b:i<p.rules.length:=zN b;have F:p.rules.getD i em∈p.rules:=by rw[Y6,Za b];exact ZQ b
  refine gA Z (bg (c65 p (p.rules.getD i em) ((i:Int)+1) (y _ F)) Z Z Z Z Z Z ?_);refine zJ Z Z (fun g=>?_) fun g=>?_
  .have g: ¬(p8 p i).1=0:=by
    have g:(!li ((p8 p i).1=0))=kw:=g;simpa only[aae,decide_eq_false_iff_not]using g
   rw[Jw u x b g];refine gA Z (zq [0] (d64 (p8 p i) aZ.z) ?_);refine zE Z Z (fun q=>?_) fun q=>?_
   .exact absurd (show kw=lc from q) (by decide)
   refine gA Z (zD [] Z (zW (zO ac)))
  .have g:(p8 p i).1=0:=by
    have g:(!li ((p8 p i).1=0))=lc:=g;simpa only[aaM,decide_eq_true_eq]using g
   refine gA Z ⟨b,by rw[kq,x,am g];rfl,[],zW (zO (zO trivial))⟩
 have b:p.rules.length<=i:=zG b;have j:i=p.rules.length:=by omega
 subst j;rw[MD u x];refine gA Z (zD [] Z (zW (zO ac)))
theorem c24(p:Prog)(hb:p.fit):Pure prog 56 [ag p.c] (ag (dB p).c):=by
 refine ae ab func56 Z (by decide) ntmps56 Z (by simp) Z ?_;refine gA Z (zq [2] (XY p hb) ?_);exact zU Z
end Go.Proofs.YtflegjieadkonaaGreatDoor
namespace Go.Proofs.YtflegjieadkonaaGreatDoor
open Go Go.Al Go.Proofs.Tryz Go.ChangeShapes Go.WideShapes Go.RowKit
section
theorem Dc{α:Type}(f:α->Nat): ∀l:List α,(l.map fun x=>f x+1).sum=(l.map f).sum+l.length
 | []=>rfl
 |x::r=>by simp only[Zr,aaW,ZI,Dc f r];omega
section
variable {H:Type} {enc:TypeId×Value->H} {W:World} {hT:pL W} {sp:Nat->Bool} {held:Bool}
def QD(x:Decl)(d:DataW H):Prop:=x.types.length+1<=bk d
def QR1(r:ah)(d:DataW H):Prop:=r.size+1<=bk d∧r.head.ts<=400*bk d∧ ∀l∈r.body,l.ts<=400*bk d
def Y2(p:Prog)(d:DataW H):Prop:=p.size<=bk d∧p.aD.length<=bk d∧p.rules.length<=bk d∧ ∀r∈p.rules,r.size<=bk d∧r.head.ts<=400*bk d∧ ∀l∈r.body,l.ts<=400*bk d
theorem KP(n:Nat):Rd enc prog W hT sp held 76 ah.c QR1 n:=by
 intro m _ cs y h;obtain⟨xs,k,rfl,rfl,j,S,d⟩:=DataW.trod_struct underlying76 h
 match xs,S with
 | [x0,x1,x2],_=>
  obtain⟨a,A,Y⟩:=G7 (hT:=hT) k k (Zc _) _ _ (n8 d 0 Z Z Z CF Z);obtain⟨b,B,x⟩:=PF (hT:=hT) k k (Zc _) _ _ (n8 d 1 Z Z Z HZ Z);obtain⟨c,D,qc⟩:=FC (hT:=hT) k k (Zc _) _ _ (n8 d 2 Z Z Z xl Z);refine⟨⟨a,b,c⟩,A.fm (o':=2) Z (B.fm (o':=3) Z (D.fm (o':=5) Z (.end_ (j.trans HY)))),?_⟩;have u:=x.sum (f:=Lit.size) (c:=1) fun _ _ h=>by have:=h.2;omega
  rw[<-Lit.iG]at u;obtain⟨F,G⟩:=Y;simp only[bk]at u F G;refine⟨?_,?_,fun l j=>?_⟩
  .simp only[ah.size,bk,Zr,Z0,Rows.uptoBulk,Rows.uptoBulkAll];omega
  .simp only[bk,Zr,Z0,Rows.uptoBulk,Rows.uptoBulkAll];omega
  .obtain⟨e,⟨I,_⟩,J⟩:=x.all l j;simp only[bk]at I J;simp only[bk,Zr,Z0,Rows.uptoBulk,Rows.uptoBulkAll];omega
theorem G6(n:Nat):Rd enc prog W hT sp held 3 aY (fun _ _=>True) n:=by
 intro m d b y h;obtain⟨z,j,_⟩:=js (hT:=hT) underlying3 n m d b y h;exact⟨z,j,ac⟩
theorem PG(n:Nat):Rd enc prog W hT sp held 49 Decl.c QD n:=by
 intro m _ I y h;obtain⟨G,k,rfl,rfl,B,D,d⟩:=DataW.trod_struct underlying49 h
 match G,D with
 | [x0,x1,x2],_=>
  obtain⟨a,j,J,_⟩:=jL (hT:=hT) underlying9 k k (Zc _) _ _ (n8 d 0 Z Z Z qU Z);obtain⟨b,u,F⟩:=(iZ (hT:=hT) underlying47 iV (by decide) (fun _=>rfl) (G6 k)).mono (abv k) k (Zc _) _ _ (n8 d 1 Z Z Z H2 Z);obtain⟨c,x,S⟩:=FC (hT:=hT) k k (Zc _) _ _ (n8 d 2 Z Z Z xl Z);refine⟨⟨a,b,c⟩,j.fm (o':=1) Z (u.fm (o':=2) Z (x.fm (o':=4) Z (.end_ (B.trans H0)))),?_⟩;have A:=F.len;simp only[bk]at A;simp only[QD,bk,Zr,Z0,Rows.uptoBulk,Rows.uptoBulkAll];omega
theorem PD(n:Nat):Rd enc prog W hT sp held 25 Prog.c Y2 n:=by
 intro m _ cs y h;obtain⟨xs,k,rfl,rfl,j,hx,B⟩:=DataW.trod_struct underlying25 h
 match xs,hx with
 | [x0,x1],_=>
  obtain⟨a,F,qa⟩:=(iZ (hT:=hT) underlying22 H0 (by decide) (fun _=>rfl) (PG k)).mono (abv k) k (Zc _) _ _ (n8 B 0 Z Z Z QJ Z);obtain⟨b,G,D⟩:=(iZ (hT:=hT) underlying23 HY (by decide) (fun _=>rfl) (KP k)).mono (abv k) k (Zc _) _ _ (n8 B 1 Z Z Z QI Z);refine⟨⟨a,b⟩,F.fm (o':=1) Z (G.fm (o':=2) Z (.end_ (j.trans QH))),?_⟩;have u:=qa.sum (f:=fun d=>d.types.length+1) (c:=1) fun _ _ h=>by
   simp only[QD]at h;omega
  have x:=D.sum (f:=fun r=>r.size+1) (c:=1) fun _ _ h=>by have:=h.1;omega
  rw[Dc]at u x;simp only[bk]at u x;refine⟨?_,?_,?_,fun r Y=>?_⟩
  .simp only[Prog.size,bk,Zr,Z0,Rows.uptoBulk,Rows.uptoBulkAll];omega
  .simp only[bk,Zr,Z0,Rows.uptoBulk,Rows.uptoBulkAll];omega
  .simp only[bk,Zr,Z0,Rows.uptoBulk,Rows.uptoBulkAll];omega
  .obtain⟨e,⟨I,J,A⟩,S⟩:=D.all r Y;simp only[bk]at I J A S;refine⟨?_,?_,fun l j=>?_⟩
   .simp only[bk,Zr,Z0,Rows.uptoBulk,Rows.uptoBulkAll];omega
   .simp only[bk,Zr,Z0,Rows.uptoBulk,Rows.uptoBulkAll];omega
   .have:=A l j;simp only[bk,Zr,Z0,Rows.uptoBulk,Rows.uptoBulkAll];omega
end
theorem UG{H:Type}{p:Prog}{d:DataW H}(h:Y2 p d)(hb:bk d<=1048576):p.fit:=by
 obtain⟨y,A,B,b⟩:=h;refine⟨by omega,by omega,fun r x=>?_⟩;obtain⟨D,F,j⟩:=b r x;exact⟨by omega,by omega,fun l u=>by have:=j l u;omega⟩
theorem MU{H:Type}{enc:TypeId×Value->H}{W:World}(hT:pL W){v:Value}{d:DataW H}{p:List MemPlace}(b: ∃base,Value.okWide prog W .any base 25 v)(h:DataW.Trod enc prog W 0 (fun _=>kw) kw 25 v d p):
  ∃x:Prog,Y2 x d∧VR (Mem.rS W hT) Wo (· <0) (ag x.c) v:=by
 obtain⟨base,b⟩:=b;obtain⟨A,rfl,_⟩:=okWide_struct underlying25 b;obtain⟨n,y⟩:=h;obtain⟨r,j,u⟩:=PD (hT:=hT) n n (Zc _) _ _ y;exact⟨r,u,j.agg⟩
end
end Go.Proofs.YtflegjieadkonaaGreatDoor
namespace Go.Proofs.YtflegjieadkonaaGreatDoor
open Go Go.Al
section
structure dI where
 kind:Int
 lit:Int
 dh:List Int
 var:ak
 deriving Inhabited,DecidableEq
structure nh where
 dY:Int
 first:Int
 given:List ak
 steps:List dI
 deriving Inhabited,DecidableEq
def dI.c(s:dI):List IV:=[iI s.kind,iI s.lit,cZ 1 s.dh aY,iS s.var]
def nh.c(p:nh):List IV:=[iI p.dY,iI p.first,strs p.given,cZ 4 p.steps dI.c]
def dI.z:dI:=⟨0,0,[],Zd⟩
def nh.z:nh:=⟨0,0,[],[]⟩
section
variable (K:ak->Bool)
def Fh(t:Term):Bool:=li (t.kind=2)||(li (t.kind=1)&&K t.var)
def ki(a:Atom):List Int:=((Zy a.ad.length).filter fun i=>Fh K (a.ad.getD i em)).map fun(i:Nat)=>(i:Int)
def fH(e o:Expr):Bool:=li (e.kind=1)&&!K e.var&&(aI o).all K
def vO(l:Lit)(i:Int):Option dI:=
 if((aI l.left).all K&&(aI l.right).all K)=kw then io ⟨2,i,[],Zd⟩
 else if l.op≠1 then jp
 else if fH K l.left l.right=kw then io ⟨3,i,[],l.left.var⟩
 else if fH K l.right l.left=kw then io ⟨3,i,[],l.right.var⟩
 else jp
def Gt(r:ah)(l:Lit)(i:Int):Option dI:=
 if((aG l.agg).all fun v=>!aH (outer r) v||K v)=kw then(if K l.a8=kw then io ⟨2,i,[],Zd⟩ else io ⟨3,i,[],l.a8⟩) else jp
def uK(r:ah)(l:Lit)(i:Int):Option dI:=
 if l.kind=1 then io ⟨1,i,ki K l.atom,Zd⟩
 else if l.kind=2 then(if(bn l.atom).all K=kw then io ⟨2,i,[],Zd⟩ else jp)
 else if l.kind=3 then vO K l i
 else if l.kind=4 then Gt K r l i
 else jp
def iz(r:ah)(i:Nat):Option dI:=uK K r (r.body.getD i em) i
end
def IQ(o:Option dI):dI×Bool:=match o with
 |some s=>(s,kw)
 |none=>(dI.z,lc)
def rX(r:ah)(s:dI):List ak:=if s.kind=1 then bn (r.body.getD s.lit.toNat em).atom else if s.kind=3 then[s.var] else[]
section
variable (K:ak->Bool) (r:ah) (dn:Nat->Bool)
def pD(i:Nat):Option dI:=if !dn i&&li ((r.body.getD i em).kind≠1) then iz K r i else jp
def wA(b:Int×Int)(i:Nat):Int×Int:=if(!dn i&&li ((r.body.getD i em).kind=1))=kw∧((ki K (r.body.getD i em).atom).length:Int)>b.2 then((i:Int),((ki K (r.body.getD i em).atom).length:Int)) else b
def wz:Int×Int:=(Zy r.body.length).foldl (wA K r dn) (-1, -1)
def ov(fstv:Int):Option dI:=match(Zy r.body.length).findSome? (pD K r dn) with
 |some s=>io s
 |none=>if 0<=fstv∧dn fstv.toNat=lc then iz K r fstv.toNat
  else if(wz K r dn).1<0 then jp else iz K r (wz K r dn).1.toNat
end
def oP(r:ah)(fstv:Int):Nat->(Nat->Bool)->(ak->Bool)->List dI
 |0,_,_=> []
 |n+1,dn,K=>match ov K r dn fstv with
  |none=> []
  |some s=>s::oP r fstv n (fun j=>dn j||decide ((j:Int)=s.lit)) (fun x=>K x||aH (rX r s) x)
theorem uJ{K:ak->Bool}{r:ah}{l:Lit}{i:Int}{s:dI}(h:uK K r l i=io s):s.lit=i:=by
 unfold uK vO Gt at h
 repeat' split at h
 all_goals first
  |(cases h;rfl)
  |cases h
theorem H5(K:ak->Bool)(r:ah)(dn:Nat->Bool): ∀(l:List Nat) (b:Int×Int),(l.foldl (wA K r dn) b).1=b.1∨ ∃i∈l,(l.foldl (wA K r dn) b).1=(i:Int)∧dn i=lc∧(r.body.getD i em).kind=1
 | [],_=> .inl Z
 |i::l,b=>by
  rw[ZD];rcases H5 K r dn l (wA K r dn b i) with h|⟨j,u,h⟩
  .rw[h];unfold wA;split
   .rename_i d;refine .inr ⟨i,Zo,rfl,?_⟩;simpa using d.1
   .exact .inl Z
  .exact .inr ⟨j,Zn _ u,h⟩
theorem La{K:ak->Bool}{r:ah}{dn:Nat->Bool}{fstv:Int}{s:dI}(hf:fstv<r.body.length)(h:ov K r dn fstv=io s): ∃i:Nat,s.lit=i∧i<r.body.length∧dn i=lc:=by
 unfold ov at h;cases hg:(Zy r.body.length).findSome? (pD K r dn) with
 |some s'=>
  rw[hg]at h;cases h;obtain⟨i,u,j⟩:=List.exists_of_findSome?_eq_some hg;unfold pD at j;split at j
  .rename_i d;exact⟨i,uJ j,aam.1 u,by simp at d;exact d.1⟩
  .cases j
 |none=>
  rw[hg]at h;dsimp only at h;split at h
  .rename_i d;exact⟨fstv.toNat,uJ h,by omega,d.2⟩
  .split at h
   .cases h
   .rename_i hb;rcases H5 K r dn (Zy r.body.length) (-1, -1) with b|⟨i,u,b,x,_⟩
    .exact absurd (show(wz K r dn).1<0 by unfold wz;rw[b];decide) hb
    .refine⟨(wz K r dn).1.toNat,uJ h,?_,?_⟩
     .have:(wz K r dn).1=i:=b;have:=aam.1 u;omega
     .have:(wz K r dn).1=i:=b;rw[this];exact x
end
theorem DF(p:Prog): ∀i,(jq p i).length<=i
 |0=>Zc _
 |i+1=>by
  have:=DF p i;unfold jq;split<;>simp<;>omega
theorem Dv(p:Prog): ∀i,(kq p i).length<=i
 |0=>Zc _
 |i+1=>by
  have:=Dv p i;unfold kq;split<;>simp<;>omega
section
section
variable {r t:ah} (hh:t.head=r.head) (hb: ∀x,x∈t.body↔x∈r.body)
include hh hb
end
section
variable {r t:ah} (hh:t.head=r.head) (hb: ∀x,x∈t.body↔x∈r.body)
include hh hb
end
structure YY (r t u:ah) (i k:Int):Prop where
 XK: ∀x∈fi (aC (ch r)),x∈fi (aC (aA r))
 Wg: ∀x∈fi (aC (r7 r)),x∈fi (aC (ch r))
 outer:fi (aC (aA t))=fi (aC (aA r))
 lim:fi (aC (ch t))=fi (aC (ch r))
 plain:fi (aC (r7 t))=fi (aC (r7 r))
 loc:tm t i=tm r k
 tm: ∀x∈tm r k,x∉fi (aC (aA r))
 more: ∀x∈fi (aC (ch r)),x∈fi (aC (ch u))
 hasX:Uo [88]∈fi (aC (ch u))
end
end Go.Proofs.YtflegjieadkonaaGreatDoor
namespace Go.Proofs.YtflegjieadkonaaGreatDoor
open Go Go.Al Go.Proofs.Tryz
def HA(p:Prog)(a:Atom)(i:Nat):Int:=(iy p a.rel).types.getD i em
def LV(p:Prog)(a:Atom)(i:Nat)(m:NM):Option NM:=
 if(a.ad.getD i em).kind=2 then(if(a.ad.getD i em).val.kind=HA p a i then io m else jp)
 else if(a.ad.getD i em).kind=1 then(if eh .str m (a.ad.getD i em).var=kw∧ ¬bU .str m (a.ad.getD i em).var 0=HA p a i then jp else io (cH .str m (a.ad.getD i em).var (HA p a i)))
 else io m
def SK(p:Prog)(a:Atom):Nat->Option NM
 |0=>io []
 |i+1=>(SK p a i).bind (LV p a i)
theorem Pq{n sz:Nat}{es:List (List PV)}(h:es.all (bq n)=kw):(AO.row sz es).low n:=fun _ e b=>ZA.1 h e (ZC b)
def zk:List IV->List IV->Prop
 | [],[]=>True
 |p::r,q::s=>n6 p q∧zk r s
 |_,_=>False
theorem zk.length: ∀{a b:List IV},zk a b->a.length=b.length
 | [],[],_=>rfl
 |_::_,_::_,h=>congrArg (· +1) (zk.length h.2)
 | [],_::_,h=>h.elim
 |_::_,[],h=>h.elim
theorem zk.get: ∀{a b:List IV},zk a b-> ∀(j:Nat) (q:IV),b[j]? =io q-> ∃p,a[j]? =io p∧n6 p q
 | [],[],_,j,q,h=>by simp at h
 |p::r,q0::s,hh,j,q,h=>by
  cases j with
  |zero=>simp at h;subst h;exact⟨p,rfl,hh.1⟩
  |succ j=>simpa using zk.get hh.2 j q (by simpa using h)
 | [],_::_,hh,_,_,_=>hh.elim
 |_::_,[],hh,_,_,_=>hh.elim
def yN(i sz n:Nat):PV->Bool
 | .iv _=>kw
 | .sl j off len s=>bif Zz j i then Zz s sz&&aa2 (off+len) n else kw
 |_=>lc
theorem Jz{i sz n:Nat}{p:PV}(h:yN i sz n p=kw):p.bX i sz n:=by
 cases p with
 |iv=>trivial
 |sl j off len s=>
  simp only[yN]at h;show if j=i then s=sz∧off+len<=n else True;split
  .rename_i e;subst e;simp only[Nat.beq_refl,cond_true,Zw]at h;exact⟨Zt h.1,Y5 h.2⟩
  .trivial
 |_=>cases h
theorem xP{i sz n:Nat}: ∀{l:List PV},l.all (yN i sz n)=kw->da i sz n l
 | [],_=>trivial
 |p::r,h=>by
  rw[List.all_cons,Zw]at h;exact⟨Jz h.1,xP h.2⟩
def xX(i sz n:Nat):AH->Bool
 | []=>kw
 |(_,jp)::r=>xX i sz n r
 |(_,io (.cells cs _))::r=>cs.all (yN i sz n)&&xX i sz n r
 |(_,io (.row _ es))::r=>(es.all fun e=>e.all (yN i sz n))&&xX i sz n r
 |_::_=>lc
theorem ny{i sz n:Nat}: ∀{h:AH},xX i sz n h=kw->h.vn i sz n
 | [],_=>trivial
 |(_,jp)::r,h=>ny (h:=r) h
 |(_,io (.cells cs _))::r,h=>by
  simp only[xX,Zw]at h;exact⟨xP h.1,ny h.2⟩
 |(_,io (.row _ es))::r,h=>by
  simp only[xX,Zw]at h;exact⟨fun e b=>xP (ZA.1 h.1 e b),ny h.2⟩
 |(_,io (.bS _ _))::r,h=>by simp[xX]at h
 |(_,io .gP)::r,h=>by simp[xX]at h
 |(_,io (.map ..))::r,h=>by simp[xX]at h
 |(_,io (.cF ..))::r,h=>by simp[xX]at h
 |(_,io (.eS ..))::r,h=>by simp[xX]at h
theorem L4{P:Program}{nt:Nat}{Q:AQ}{k:List KI}{s:AS}{all rest:List Oper}(i:Nat){kc:KC}{V:Type}{e:V->IV}{z:V}{b:Value}{y:PV->V}{m:List (kc.K×V)}(hi:s.h.get i=io (.map kc e z b y m))
  (h:GO P nt (.ops all rest::k) Q ⟨s.f.gd i (.eI kc e z b m),(i,jp)::s.h.gd i (.eI kc e z b m),s.nx⟩):GO P nt (.ops all rest::k) Q s:=by
 intro M N a w j;obtain⟨x,A,B,F,D⟩:=qE j.1 hi
 have u:Fits x N ⟨s.f.gd i (.eI kc e z b m),(i,jp)::s.h.gd i (.eI kc e z b m),s.nx⟩ nt a w:=⟨B,fun d=>by
  rw[AF.kY];exact D _ _ (j.2.1 d),j.2.2⟩
 exact gT (fun e a2 G ⟨M2,N2,s2,hx2,hf2,hr2⟩=>⟨M2,N2,s2,A.trans hx2,hf2,hr2⟩) _ _ _ (h x N a w u)
theorem G5(p:Prog): ∀i,∀d∈jq p i,¬d.1=0
 |0,d,h=>by cases h
 |i+1,d,h=>by
  rw[jq]at h;rcases Zm.1 h with h|h
  .exact G5 p i d h
  .split at h
   .cases h
   .rename_i g;rw[Zk]at h;subst h;exact g
theorem G1(p:Prog): ∀i,∀d∈kq p i,¬d.1=0
 |0,d,h=>by cases h
 |i+1,d,h=>by
  rw[kq]at h;rcases Zm.1 h with h|h
  .exact G1 p i d h
  .split at h
   .cases h
   .rename_i g;rw[Zk]at h;subst h;exact g
theorem Jn(p:Prog): ∀d∈jl p,¬d.1=0:=fun d h=>by
 rcases Zm.1 h with h|h
 .exact G5 p _ d h
 .exact G1 p _ d h
theorem yL(p:Prog):(dB p).1=0↔jl p=[]:=by
 unfold dB;cases h:jl p with
 |nil=>exact⟨fun _=>rfl,fun _=>rfl⟩
 |cons d l=>exact⟨fun e=>absurd e (Jn p d (by rw[h];exact Zo)),fun e=>nomatch e⟩
theorem xM(p:Prog): ∀n,kq p n=[]↔ ∀i,i<n->(p8 p i).1=0
 |0=>⟨fun _ i h=>absurd h (aaj i),fun _=>rfl⟩
 |n+1=>by
  rw[kq,aby,xM p n];constructor
  .rintro⟨h1,h2⟩ i b;rcases ZS.1 b with h|h
   .exact h1 i h
   .subst h;by_cases g:(p8 p i).1=0
    .exact g
    .rw[be g]at h2;cases h2
  .intro h;exact⟨fun i b=>h i (by omega),am (h n (by omega))⟩
theorem cv{α:Type}[Inhabited α]{l:List α}{i:Nat}(hi:i<l.length):l.getD i em∈l:=by rw[Y6,Za hi];exact ZQ hi
theorem Dt(l:List ak)(s:ak):Pure prog 110 [.iv (strs l),pS s] (pB (aH l s)):=by
 refine mA (bF func110 Z (by decide)) ⟨_,_,Zo⟩ fun j=>?_;simp only[maxLen]at j;refine ae ab func110 Z (by decide) ntmps110 Z (by simp) Z ?_;refine gA Z ?_
 refine aw 0 l.length (Zf _) (fun i=>⟨[(0,.iv (strs l)),(1,pS s),(5,pI i)],[],0⟩) (fun i=>(l.take i).any (fun x=>li (x=s))=lc) [] Z
  (lJ Z Z (bv (bv (bv trivial))) Z) fun i y u=>?_
 refine zJ Z Z (fun b=>?_) fun b=>?_
 .have b:=ci b;refine zJ Z Z (fun d=>?_) fun d=>?_
  .have d:li (l.getD i em=s)=kw:=d;rw[show aH l s=kw from iN b d];exact zU Z
  .have d:li (l.getD i em=s)=lc:=d;refine gA Z ⟨b,(aW u b).2 d,[],lJ Z Z (bv (bv (bv ac))) Z⟩
 .have b:=co b;rw[show aH l s=lc from any_none u b];exact zU Z
theorem G0(l m:List ak):Pure prog 116 [.iv (strs l),.iv (strs m)] (pB (m.all (aH l))):=by
 refine mA (bF func116 Z (by decide)) ⟨_,_,Zn _ Zo⟩ fun j=>?_;simp only[maxLen]at j;refine ae ab func116 Z (by decide) ntmps116 Z (by simp) Z ?_;refine gA Z ?_
 refine aw 0 m.length (Zf _) (fun i=>⟨[(0,.iv (strs l)),(1,.iv (strs m)),(5,pI i)],[],0⟩) (fun i=>(m.take i).all (aH l)=kw) [] Z
  (lJ Z Z (bv (bv (bv trivial))) Z) fun i x u=>?_
 refine zJ Z Z (fun b=>?_) fun b=>?_
 .have b:=ci b;refine gA Z (zp (Dt l (m.getD i em)) ?_);refine zJ Z Z (fun d=>?_) fun d=>?_
  .have d:aH l (m.getD i em)=lc:=zA d;rw[show m.all (aH l)=lc from aaV.2 ⟨_,cv b,by rw[d];exact ZN⟩];exact zU Z
  .have d:aH l (m.getD i em)=kw:=zB d;refine gA Z ⟨b,(lg u b).2 d,[],lJ Z Z (bv (bv (bv ac))) Z⟩
 .have b:=co b;rw[Zh b]at u;rw[u];exact zU Z
theorem Sz(k v:List ak)(hb:k.length+v.length<=8000000000000):Pure prog 76 [.iv (strs k),.iv (strs v)] (.iv (strs (k++v))):=by
 refine ae ab func76 Z (by decide) ntmps76 Z (by simp) Z ?_;refine gA Z (cS (by first|exact .inr Z|exact .inl Z) Z Z (by simp only[lL,Ze,aaN]) (by simp))
theorem T4(k:List ak)(v:ak)(hb:k.length<=5000000000000):bW prog 76 [.iv (strs k),.sl 0 0 1 1] [aE 1 [v] cz] (.sl 1 0 (k.length+1) 1) [(0,io (aE 1 [v] cz)),(1,io (aE 1 (k++ [v]) cz))] 2:=by
 refine aB ab func76 Z (by decide) ntmps76 Z (by simp) ?_;refine gA Z (zD [3] Z (zM ⟨.row (by simp),rfl,ac⟩ (zS (hR Z (by simp only[lL,Ze,aaN];rfl) Z ac))))
def mU(K:ak->Bool)(a:Atom)(i:Nat):List Int:=((Zy i).filter fun i=>Fh K (a.ad.getD i em)).map fun(i:Nat)=>(i:Int)
theorem EP{K:ak->Bool}{a:Atom}{i:Nat}(h:Fh K (a.ad.getD i em)=kw):mU K a (i+1)=mU K a i++ [(i:Int)]:=by
 unfold mU;rw[abo,abk,Ze,aaD,h];rfl
theorem HV{K:ak->Bool}{a:Atom}{i:Nat}(h:Fh K (a.ad.getD i em)=lc):mU K a (i+1)=mU K a i:=by
 unfold mU;rw[abo,abk,Ze,aaD,h];simp
theorem ER(K:ak->Bool)(a:Atom)(i:Nat):(mU K a i).length<=i:=by
 unfold mU;rw[ZE];exact Z1 (aak _ _) (by rw[List.length_range];exact Zc _)
theorem T1(a:Atom)(k:List ak)(hb:a.ad.length<=10000000):Pure prog 115 [ag a.c,.iv (strs k)] (.iv (cZ 1 (ki (aH k) a) aY)):=by
 refine ae ab func115 Z (by decide) ntmps115 Z (by simp) Z ?_;refine gA Z ?_;refine fY 5 1 Z ?_;refine aw 0 a.ad.length (Zf _) (fun i=>⟨[(1,.iv (strs k)),(2,.ptr 0 0),(5,.sl 2 0 (mU (aH k) a i).length 1),(6,pI i)],[(0,io (aj a.c)),(2,io (aE 1 (mU (aH k) a i) aY))],3⟩) (fun _=>True) [1] ac
  (zW (zK (zS trivial))) fun i D _=>?_
 have B:=ER (aH k) a i;refine zE Z Z (fun b=>?_) fun b=>?_
 .have b:=co b;have A:i=a.ad.length:=by omega
  rw[A];refine gA Z (cS (by first|exact .inr Z|exact .inl Z) Z Z (rfl) (rfl))
 have b:=ci b;refine gA Z (zp (Dt k (a.ad.getD i em).var) ?_);have y:Fh (aH k) (a.ad.getD i em)=lc->mU (aH k) a (i+1)=mU (aH k) a i:=HV;have d:Fh (aH k) (a.ad.getD i em)=kw->mU (aH k) a (i+1)=mU (aH k) a i++ [(i:Int)]:=EP;refine zJ Z Z (fun j=>?_) fun j=>?_
 .have j:li ((a.ad.getD i em).kind=2)=lc:=j;refine zJ Z Z (fun u=>?_) fun u=>?_
  .have u:li ((a.ad.getD i em).kind=1)=kw:=u;refine zJ Z Z (fun x=>?_) fun x=>?_
   .have x:aH k (a.ad.getD i em).var=kw:=x;have h:=d (by unfold Fh;rw[u,x];simp);refine gA Z ⟨b,ac,[5],zM (bv (bv ⟨.row (by rw[h,Y8];rfl),rfl,bv ac⟩)) (zK (hR Z (by rw[h,Ze];rfl) Z ac))⟩
   .have x:aH k (a.ad.getD i em).var=lc:=x;have h:=y (by unfold Fh;rw[j,x];simp);refine gA Z ⟨b,ac,[2],zM (bv (bv ⟨.row (by rw[h]),rfl,bv ac⟩)) (zK (hR Z (by rw[h]) Z ac))⟩
  .have u:li ((a.ad.getD i em).kind=1)=lc:=u;have h:=y (by unfold Fh;rw[j,u];rfl);refine gA Z ⟨b,ac,[2],zM (bv (bv ⟨.row (by rw[h]),rfl,bv ac⟩)) (zK (hR Z (by rw[h]) Z ac))⟩
 .have j:li ((a.ad.getD i em).kind=2)=kw:=j;have h:=d (by unfold Fh;rw[j];rfl);refine gA Z ⟨b,ac,[5],zM (bv (bv ⟨.row (by rw[h,Y8];rfl),rfl,bv ac⟩)) (zK (hR Z (by rw[h,Ze];rfl) Z ac))⟩
theorem BK(e o:Expr)(k:List ak)(hb:o.size<=100000000000):Pure prog 142 [ag e.c,ag o.c,.iv (strs k)] (pB (fH (aH k) e o)):=by
 refine ae ab func142 Z (by decide) ntmps142 Z (by simp) Z ?_;refine gA Z (bg (ML _ o (Zc _) (by omega)) Z Z Z Z Z Z ?_);refine gA Z (zp (G0 k (aI o)) ?_);refine gA Z (zp (Dt k e.var) ?_);refine zJ Z Z (fun b=>?_) fun b=>?_
 .have b:li (e.kind=1)=kw:=b;refine zJ Z Z (fun d=>?_) fun d=>?_
  .have d:(!aH k e.var)=kw:=d;refine gA Z (zL (.of_eq ?_));unfold fH;rw[b,d];rfl
  .have d:(!aH k e.var)=lc:=d;refine gA Z (zL (.of_eq ?_));unfold fH;rw[b,d];rfl
 .have b:li (e.kind=1)=lc:=b;refine gA Z (zL (.of_eq ?_));unfold fH;rw[b];rfl
theorem IY:aK (.bQ [.agg [pI 0,pI 0,.iv (.v (.slice jp 0 0)),pS Zd],pB lc]) (.bQ [ag dI.z.c,pB lc]):= .bQ ⟨.agg ⟨.refl _,.refl _,.nil _ _,.refl _,ac⟩,.refl _,ac⟩
theorem sE(a b:Int)(v:ak)(t:Bool):aK (.bQ [.agg [pI a,pI b,.iv (.v (.slice jp 0 0)),pS v],pB t]) (.bQ [ag (dI.mk a b [] v).c,pB t]):= .bQ ⟨.agg ⟨.refl _,.refl _,.nil _ _,.refl _,ac⟩,.refl _,ac⟩
abbrev CG(o:Option dI):PV:= .bQ [ag (IQ o).1.c,pB (IQ o).2]
theorem Wc(l:Lit)(i:Int)(k:List ak)(hb:l.size<=10000000):Pure prog 117 [ag l.c,pI i,.iv (strs k)] (CG (vO (aH k) l i)):=by
 have A:=l.size_eq;refine ae ab func117 Z (by decide) ntmps117 Z (by simp) Z ?_;refine gA Z (bg (ML _ l.left (Zc _) (by omega)) Z Z Z Z Z Z ?_);refine gA Z (bg (ML _ l.right (Zc _) (by omega)) Z Z Z Z Z Z ?_);refine gA Z (zp (G0 k (aI l.left)) ?_);refine gA Z (zp (G0 k (aI l.right)) ?_);refine zE Z Z (fun x=>?_) fun x=>?_
 .have x:(aI l.left).all (aH k)=lc:=x;have u:vO (aH k) l i=if l.op≠1 then jp else if fH (aH k) l.left l.right=kw then io ⟨3,i,[],l.left.var⟩ else if fH (aH k) l.right l.left=kw then io ⟨3,i,[],l.right.var⟩ else jp:=by
   unfold vO;rw[be (by rw[x];simp)]
  refine zJ Z Z (fun b=>?_) fun b=>?_
  .have b: ¬l.op=1:=zX b;rw[u,am b];refine gA Z (zL ?_);exact IY
  have b: ¬ ¬l.op=1:=by
   have b:(!li (l.op=1))=lc:=b;simpa using b
  rw[be b]at u;refine gA Z (zp (BK l.left l.right k (by omega)) ?_);refine zJ Z Z (fun d=>?_) fun d=>?_
  .have d:fH (aH k) l.left l.right=kw:=d;rw[u,am d];refine gA Z (zL ?_);exact sE _ _ _ _
  have d: ¬fH (aH k) l.left l.right=kw:=by
   have d:fH (aH k) l.left l.right=lc:=d;simp[d]
  rw[be d]at u;refine gA Z (zp (BK l.right l.left k (by omega)) ?_);refine zJ Z Z (fun j=>?_) fun j=>?_
  .have j:fH (aH k) l.right l.left=kw:=j;rw[u,am j];refine gA Z (zL ?_);exact sE _ _ _ _
  have j: ¬fH (aH k) l.right l.left=kw:=by
   have j:fH (aH k) l.right l.left=lc:=j;simp[j]
  rw[u,be j];refine gA Z (zL ?_);exact IY
 have x:(aI l.left).all (aH k)=kw:=x;refine zJ Z Z (fun y=>?_) fun y=>?_
 .have y:(aI l.right).all (aH k)=kw:=y;rw[show vO (aH k) l i=io ⟨2,i,[],Zd⟩ by unfold vO;rw[x,y];rfl];refine gA Z (zL ?_);exact sE _ _ _ _
 have y:(aI l.right).all (aH k)=lc:=y;have u:vO (aH k) l i=if l.op≠1 then jp else if fH (aH k) l.left l.right=kw then io ⟨3,i,[],l.left.var⟩ else if fH (aH k) l.right l.left=kw then io ⟨3,i,[],l.right.var⟩ else jp:=by
  unfold vO;rw[be (by rw[x,y];simp)]
 refine zJ Z Z (fun b=>?_) fun b=>?_
 .have b: ¬l.op=1:=zX b;rw[u,am b];refine gA Z (zL ?_);exact IY
 have b: ¬ ¬l.op=1:=by
  have b:(!li (l.op=1))=lc:=b;simpa using b
 rw[be b]at u;refine gA Z (zp (BK l.left l.right k (by omega)) ?_);refine zJ Z Z (fun d=>?_) fun d=>?_
 .have d:fH (aH k) l.left l.right=kw:=d;rw[u,am d];refine gA Z (zL ?_);exact sE _ _ _ _
 have d: ¬fH (aH k) l.left l.right=kw:=by
  have d:fH (aH k) l.left l.right=lc:=d;simp[d]
 rw[be d]at u;refine gA Z (zp (BK l.right l.left k (by omega)) ?_);refine zJ Z Z (fun j=>?_) fun j=>?_
 .have j:fH (aH k) l.right l.left=kw:=j;rw[u,am j];refine gA Z (zL ?_);exact sE _ _ _ _
 have j: ¬fH (aH k) l.right l.left=kw:=by
  have j:fH (aH k) l.right l.left=lc:=j;simp[j]
 rw[u,be j];refine gA Z (zL ?_);exact IY
abbrev SE:List IV:=[iI 0,iI 0,.v (.slice jp 0 0),iS Zd]
theorem Wd(r:ah)(i:Nat)(k:List ak)(hi:i<r.body.length)(hb:r.size<=10000000):Pure prog 84 [ag r.c,pI i,.iv (strs k)] (CG (iz (aH k) r i)):=by
 have J:r.body.length<=10000000:=by have:=Lit.au r.body;unfold ah.size at hb;omega
 have D:(r.body.getD i em).size<=10000000:=by have:=Lit.aF r.body i hi;unfold ah.size at hb;omega
 have S:=(r.body.getD i em).size_eq;refine ae ab func84 Z (by decide) ntmps84 Z (by simp) Z ?_;refine zJ Z Z (fun u=>?_) fun u=>?_
 .have u:(r.body.getD i em).kind=1:=zT u;refine gA Z (zp (T1 (r.body.getD i em).atom k (by omega)) ?_);rw[show iz (aH k) r i=io ⟨1,i,ki (aH k) (r.body.getD i em).atom,Zd⟩ by unfold iz uK;rw[am u]];refine gA Z (zL ?_);exact .bQ ⟨.agg ⟨.refl _,.refl _,.refl _,.refl _,ac⟩,.refl _,ac⟩
 have u: ¬(r.body.getD i em).kind=1:=zF u;refine zJ Z Z (fun y=>?_) fun y=>?_
 .have y:(r.body.getD i em).kind=2:=zT y;have x:iz (aH k) r i=if(bn (r.body.getD i em).atom).all (aH k)=kw then io ⟨2,i,[],Zd⟩ else jp:=by unfold iz uK;rw[be u,am y]
  refine gA Z (zp (S0 (r.body.getD i em).atom (by omega)) ?_);refine gA Z (zp (G0 k (bn (r.body.getD i em).atom)) ?_);refine zJ Z Z (fun b=>?_) fun b=>?_
  .have b:(bn (r.body.getD i em).atom).all (aH k)=kw:=b;rw[x,am b];refine gA Z (zL ?_);exact sE _ _ _ _
  .have b:(bn (r.body.getD i em).atom).all (aH k)=lc:=b;rw[x,be (by rw[b];exact ZN)];refine gA Z (zL ?_);exact IY
 have y: ¬(r.body.getD i em).kind=2:=zF y;refine zJ Z Z (fun b=>?_) fun b=>?_
 .have b:(r.body.getD i em).kind=3:=zT b;refine gA Z (zp (Wc (r.body.getD i em) i k D) ?_);rw[show iz (aH k) r i=vO (aH k) (r.body.getD i em) i by unfold iz uK;rw[be u,be y,am b]];refine gA Z (zL ?_);exact .refl _
 have b: ¬(r.body.getD i em).kind=3:=zF b;refine zE Z Z (fun A=>?_) fun A=>?_
 .have A: ¬(r.body.getD i em).kind=4:=zF A;rw[show iz (aH k) r i=jp by unfold iz uK;rw[be u,be y,be b,be A]];refine gA Z (zL ?_);exact IY
 have A:(r.body.getD i em).kind=4:=zT A;have I:(r.body.getD i em).agg.size<=10000000:=by unfold eO.size Lit.agg;dsimp only;omega
 have x:iz (aH k) r i=Gt (aH k) r (r.body.getD i em) i:=by unfold iz uK;rw[be u,be y,be b,am A]
 unfold Gt at x;refine gA Z (zp (S1 r (by omega)) ?_);refine gA Z (zp (Vl (r.body.getD i em).agg (by omega)) ?_);have G:=gv (r.body.getD i em).agg;generalize aG (r.body.getD i em).agg=v at x G;refine gA Z ?_;refine aw 0 v.length (Zf _) (fun j=>⟨[(1,pI i),(2,.iv (strs k)),(6,.ptr 1 0),(8,.ptr 2 0),(12,.iv (strs (outer r))),(13,.iv (strs v)),(14,pI j)],[(0,io (aj r.c)),(1,io (aj SE)),(2,io (aj (r.body.getD i em).c))],3⟩) (fun j=>(v.take j).all (fun v=>!aH (outer r) v||aH k v)=kw) [] Z
  (zW (zK (zK (zK trivial)))) fun j Y F=>?_
 refine zE Z Z (fun d=>?_) fun d=>?_
 .have d:=co d;rw[Zh d]at F;rw[am F]at x;refine gA Z (zp (Dt k (r.body.getD i em).a8) ?_);refine zJ Z Z (fun B=>?_) fun B=>?_
  .have B:aH k (r.body.getD i em).a8=kw:=B;rw[x,am B];refine gA Z (zL ?_);exact sE _ _ _ _
  .have B:aH k (r.body.getD i em).a8=lc:=B;rw[x,be (by rw[B];exact ZN)];refine gA Z (zL ?_);exact sE _ _ _ _
 have d:=ci d;refine gA Z (zp (Dt (outer r) (v.getD j em)) ?_);refine gA Z (zp (Dt k (v.getD j em)) ?_);refine zJ Z Z (fun g1=>?_) fun g1=>?_
 .have g1:aH (outer r) (v.getD j em)=kw:=g1;refine zJ Z Z (fun g2=>?_) fun g2=>?_
  .have g2:aH k (v.getD j em)=lc:=zA g2
   rw[x,be (by
    rw[aaC]
    exact aaV.2 ⟨_,cv d,by rw[g1,g2];exact ZN⟩)]
   refine gA Z (zL ?_);exact IY
  .have g2:aH k (v.getD j em)=kw:=zB g2;refine gA Z ⟨d,(lg F d).2 (by rw[g1,g2];rfl),[],zW (zK (zK (zK ac)))⟩
 .have g1:aH (outer r) (v.getD j em)=lc:=g1;refine gA Z ⟨d,(lg F d).2 (by rw[g1];rfl),[],zW (zK (zK (zK ac)))⟩
theorem Po(r:ah)(b:Int)(i:Nat)(u:List Int)(d:ak)(k:List ak)(hi:i<r.body.length)(hb:r.size<=10000000)(G:k.length<=5000000000000):Pure prog 85 [ag r.c,ag (dI.mk b i u d).c,.iv (strs k)] (.iv (strs (k++rX r (dI.mk b i u d)))):=by
 have D:r.body.length<=10000000:=by have:=Lit.au r.body;unfold ah.size at hb;omega
 have A:(r.body.getD i em).size<=10000000:=by have:=Lit.aF r.body i hi;unfold ah.size at hb;omega
 have F:=(r.body.getD i em).size_eq;have B:=dw (r.body.getD i em).atom;by_cases j:b=1
 .have e:rX r (dI.mk b i u d)=bn (r.body.getD i em).atom:=by unfold rX;rw[am j];rfl
  rw[e];refine ae ab func85 Z (by decide) ntmps85 Z (by simp) Z ?_;refine zJ Z Z (fun q=>?_) fun q=>?_
  .refine gA Z (zp (S0 (r.body.getD i em).atom (by omega)) ?_);refine gA Z (zp (Sz k (bn (r.body.getD i em).atom) (by omega)) ?_);exact zU Z
  .exact absurd j (zF q)
 by_cases y:b=3
 .have e:rX r (dI.mk b i u d)=[d]:=by unfold rX;rw[be j,am y]
  rw[e];refine ae ab func85 Z (by decide) ntmps85 Z (by simp) Z ?_;refine zJ Z Z (fun q=>?_) fun q=>?_
  .exact absurd (zT q) j
  refine zE Z Z (fun g=>?_) fun g=>?_
  .exact absurd y (zF g)
  refine gA Z (zq [2] (T4 k d (by omega)) ?_);refine gA Z (cS (by first|exact .inr Z|exact .inl Z) Z Z ((by rw[aa4];exact aaB fun x _=>uf _ _)) ((by simp)))
 have e:rX r (dI.mk b i u d)=[]:=by unfold rX;rw[be j,be y]
 rw[e,ZL];refine ae ab func85 Z (by decide) ntmps85 Z (by simp) Z ?_;refine zJ Z Z (fun q=>?_) fun q=>?_
 .exact absurd (zT q) j
 refine zJ Z Z (fun g=>?_) fun g=>?_
 .exact absurd (zT g) y
 exact zU Z
end Go.Proofs.YtflegjieadkonaaGreatDoor
namespace Go.Tj
section
section
variable {α:Type}
inductive pV (succ:α->List α):α->α->Prop
 |refl (a:α):pV succ a a
 |step {a b c:α}:pV succ a b->c∈succ b->pV succ a c
theorem pV.trans{succ:α->List α}{a b c:α}(h:pV succ a b)(g:pV succ b c):pV succ a c:=by
 induction g with
 |refl=>exact h
 |step _ he ih=>exact .step ih he
theorem pV.one{succ:α->List α}{a b:α}(h:b∈succ a):pV succ a b:= .step (.refl a) h
structure St (α:Type) where
 low:α->Int
 on:α->Int
 ring:α->Int
 n:Nat
 stack:List α
section
variable [DecidableEq α]
def By(f:α->Int)(a:α)(v:Int):α->Int:=fun x=>if x=a then v else f x
theorem mj(f:α->Int)(a:α)(v:Int):By f a v a=v:=am Z
theorem nL{f:α->Int}{a x:α}{v:Int}(h: ¬x=a):By f a v x=f x:=be h
def push(s:St α)(a:α):St α:=⟨By s.low a ((s.n:Int)+1),By s.on a 1,s.ring,s.n+1,s.stack++ [a]⟩
def BY(d:Int)(s:St α):St α:=match s.stack.getLast? with
 |some b=>⟨s.low,By s.on b 2,By s.ring b d,s.n,s.stack.dropLast⟩
 |none=>s
def ie(a:α)(b:Int):Nat->St α->St α
 |0,s=>s
 |k+1,s=>if s.on a=1 then ie a b k (BY b s) else s
def fG(d:α->St α->Int×St α)(q:Int×St α)(b:α):Int×St α:=
 if q.2.low b=0 then(min q.1 (d b q.2).1,(d b q.2).2) else if q.2.on b=1 then(min q.1 (q.2.low b),q.2) else q
def wU(a:α)(b:Int)(q:Int×St α):Int×St α:=if q.1=b then(q.1,ie a b q.2.stack.length q.2) else q
def ft(succ:α->List α):Nat->α->St α->Int×St α
 |0,_,s=>(0,s)
 |f+1,a,s=>wU a ((s.n:Int)+1) ((succ a).foldl (fG (ft succ f)) ((s.n:Int)+1,push s a))
def jo(succ:α->List α)(f:Nat)(V:List α)(s:St α):St α:=V.foldl (fun s a=>if s.low a=0 then(ft succ f a s).2 else s) s
end
def St.o:St α:=⟨fun _=>0,fun _=>0,fun _=>0,0,[]⟩
structure Inv (succ:α->List α) (path:List α) (s:St α):Prop where
 pH: ∀a,0<=s.low a∧s.low a<=s.n
 inj: ∀a b,s.low a=s.low b->s.low a≠0->a=b
 Nk: ∀a,s.on a=0↔s.low a=0
 IU: ∀a,s.on a=0∨s.on a=1∨s.on a=2
 Ae: ∀a,s.on a=1↔a∈s.stack
 Vi:s.stack.Pairwise fun x y=>s.low x<s.low y
 Qu: ∀a,s.on a=2-> ∀b∈succ a,s.on b=2
 Ug: ∀g∈path,s.on g=1
 up: ∀y,s.on y=1-> ∃g∈path,s.low g<=s.low y∧pV succ y g
 dn: ∀g∈path,∀y,s.on y=1->s.low g<=s.low y->pV succ g y
 aL: ∀y,s.low y≠0->y∉path-> ∀z∈succ y,s.low z≠0
 Wf: ∀a,s.on a=2-> ∃r,s.on r=2∧s.low r=s.ring a∧pV succ a r∧pV succ r a
 cmp: ∀a b,s.on a=2->s.on b=2->pV succ a b->pV succ b a->s.ring a=s.ring b
structure Le (s s':St α):Prop where
 low: ∀x,s.low x≠0->s'.low x=s.low x
 Qu: ∀x,s.on x=2->s'.on x=2
 n:s.n<=s'.n
theorem Le.refl(s:St α):Le s s:=⟨fun _ _=>rfl,fun _ h=>h,Zc _⟩
theorem Le.trans{s t u:St α}(h:Le s t)(g:Le t u):Le s u:=
 ⟨fun x b=>by rw[g.low x (by rw[h.low x b];exact b),h.low x b],fun x b=>g.Qu x (h.Qu x b),Z1 h.n g.n⟩
structure Va (succ:α->List α) (path:List α) (a:α) (s:St α) (least:Int) (s':St α) (t:List α):Prop where
 inv:Inv succ path s'
 le:Le s s'
 stack:s'.stack=s.stack++t
 new: ∀y∈t,s.low y=0
 at_:(s.n:Int)<s'.low a
 Uv:least<=s'.low a
 l1: ∀y∈t,∀z∈succ y,s'.on z=1->least<=s'.low z
 l2:(s'.on a=2∧least=s'.low a)∨ ∃z∈s.stack,s'.low z=least∧pV succ a z
theorem xW{succ:α->List α}{path:List α}{s:St α}(h:Inv succ path s){x:α}(b:s.on x=1):s.low x≠0:=fun g=>by
 have:=(h.Nk x).2 g;omega
theorem K2{succ:α->List α}{p:List α}{s s':St α}(h:Inv succ p s)(b:Le s s'){x:α}(d:s.low x≠0)(ho:s'.on x=1):s.on x=1:=by
 rcases h.IU x with g|g|g
 .exact absurd ((h.Nk x).1 g) d
 .exact g
 .have:=b.Qu x g;omega
section
variable [DecidableEq α]
theorem DI{succ:α->List α}{path:List α}{s:St α}{a:α}(h:Inv succ path s)(ha:s.low a=0)(hp: ∀g∈path,pV succ g a):Inv succ (path++ [a]) (push s a):=by
 have a0:s.on a=0:=(h.Nk a).2 ha;have I:a∉s.stack:=fun g=>by have:=(h.Ae a).2 g;omega
 have u: ∀x,¬x=a->(push s a).low x=s.low x:=fun x d=>nL d;have la:(push s a).low a=(s.n:Int)+1:=mj _ _ _;have D: ∀x,¬x=a->(push s a).on x=s.on x:=fun x d=>nL d;have F:(push s a).on a=1:=mj _ _ _;have hn:((push s a).n:Int)=(s.n:Int)+1:=by show((s.n+1:Nat):Int)=_;omega
 refine⟨fun x=>?_,fun x y B d=>?_,fun x=>?_,fun x=>?_,fun x=>?_,?_,fun x d b hb=>?_,fun g Y=>?_,fun y A=>?_,fun g Y y A G=>?_,fun y A J z hz=>?_,fun x d=>?_,fun x y d A h1 h2=>?_⟩
 .have:=h.pH x;by_cases e:x=a
  .subst e;rw[la,hn];omega
  .rw[u x e,hn];omega
 .have h1:=h.pH x;have h2:=h.pH y;by_cases e:x=a
  .by_cases j:y=a
   .rw[e,j]
   .rw[e,la,u y j]at B;omega
  .by_cases j:y=a
   .rw[j,la,u x e]at B;omega
   .rw[u x e,u y j]at B;rw[u x e]at d;exact h.inj x y B d
 .by_cases e:x=a
  .subst e;rw[F,la];constructor<;>intro g<;>omega
  .rw[D x e,u x e];exact h.Nk x
 .by_cases e:x=a
  .subst e;exact .inr (.inl F)
  .rw[D x e];exact h.IU x
 .show _↔x∈s.stack++ [a];rw[Zm,Zk];by_cases e:x=a
  .subst e;simp[F]
  .rw[D x e,h.Ae x];simp[e]
 .show(s.stack++ [a]).Pairwise _;rw[abc];refine⟨h.Vi.imp_of_mem ?_,List.pairwise_singleton _ _,fun x d y A=>?_⟩
  .intro x y d A B;rw[u x (fun e=>I (e▸d)),u y (fun e=>I (e▸A))];exact B
  .rw[Zk]at A;subst A;rw[la,u x (fun e=>I (e▸d))];have:=h.pH x;omega
 .have e: ¬x=a:=fun e=>by subst e;rw[F]at d;omega
  rw[D x e]at d;have S:=h.Qu x d b hb;have j: ¬b=a:=fun e=>by subst e;omega
  rw[D b j];exact S
 .rcases Zm.1 Y with g1|g1
  .have:=h.Ug g g1;rw[D g (fun e=>by subst e;omega)];exact this
  .rw[Zk]at g1;subst g1;exact F
 .by_cases e:y=a
  .subst e;exact⟨y,aaA _ Zo,abj _,.refl _⟩
  .rw[D y e]at A;obtain⟨g,g1,g2,g3⟩:=h.up y A;have j: ¬g=a:=fun e=>by have:=h.Ug g g1;subst e;omega
   exact⟨g,ZJ _ g1,by rw[u g j,u y e];exact g2,g3⟩
 .rcases Zm.1 Y with g1|g1
  .have j: ¬g=a:=fun e=>by have:=h.Ug g g1;subst e;omega
   by_cases e:y=a
   .subst e;exact hp g g1
   .rw[u g j,u y e]at G;rw[D y e]at A;exact h.dn g g1 y A G
  .rw[Zk]at g1;subst g1;by_cases e:y=g
   .subst e;exact .refl _
   .rw[la,u y e]at G;have:=h.pH y;omega
 .have e: ¬y=a:=fun e=>J (aaA _ (by rw[e];exact Zo))
  rw[u y e]at A;have:=h.aL y A (fun g=>J (ZJ _ g)) z hz;by_cases j:z=a
  .rw[j,la];omega
  .rw[u z j];exact this
 .have e: ¬x=a:=fun e=>by subst e;rw[F]at d;omega
  rw[D x e]at d;obtain⟨r,r1,r2,r3⟩:=h.Wf x d;have j: ¬r=a:=fun e=>by subst e;omega
  exact⟨r,by rw[D r j];exact r1,by rw[u r j];exact r2,r3⟩
 .have e: ¬x=a:=fun e=>by subst e;rw[F]at d;omega
  have j: ¬y=a:=fun e=>by subst e;rw[F]at A;omega
  rw[D x e]at d;rw[D y j]at A;exact h.cmp x y d A h1 h2
theorem PN{succ:α->List α}{path:List α}{s:St α}{a:α}(h:Inv succ path s)(ha:s.low a=0):Le s (push s a):=by
 have d:s.on a=0:=(h.Nk a).2 ha;refine⟨fun x b=>nL fun e=>b (e▸ha),fun x b=>?_,by show s.n<=s.n+1;omega⟩;have: ¬x=a:=fun e=>by subst e;omega
 show By s.on a 1 x=2;rw[nL this];exact b
def BW(s:St α)(u c:List α)(b:Int):St α:=⟨s.low,fun x=>if x∈c then 2 else s.on x,fun x=>if x∈c then b else s.ring x,s.n,u⟩
theorem DJ{a:α}{b:Int}{s:St α}(h: ¬s.on a=1): ∀k,ie a b k s=s
 |0=>rfl
 |k+1=>be h
theorem Ao(a:α)(d:Int)(u:List α): ∀(k:Nat) (t:List α) (s:St α),t.length<k->s.stack=u++a::t->a∉t->s.on a=1->(ie a d k s).low=s.low∧(ie a d k s).n=s.n∧(ie a d k s).stack=u∧(∀x,(ie a d k s).on x=if x∈a::t then 2 else s.on x)∧ ∀x,(ie a d k s).ring x=if x∈a::t then d else s.ring x
 |0,t,s,h,_,_,_=>absurd h (aaj _)
 |k+1,t,s,hk,hs,hn,ho=>by
  rw[ie,am ho];rcases t.eq_nil_or_concat with e|⟨t0,b,e⟩
  .subst e;have F:s.stack.getLast? =io a:=by rw[hs];simp
   have hd:s.stack.dropLast=u:=by rw[hs];simp
   have G:BY d s=⟨s.low,By s.on a 2,By s.ring a d,s.n,u⟩:=by unfold BY;rw[F,hd]
   rw[G,DJ (by show¬By s.on a 2 a=1;rw[mj];decide)];exact⟨rfl,rfl,rfl,fun x=>by simp[By],fun x=>by simp[By]⟩
  .rw[aci]at e;subst e;have A:s.stack=(u++a::t0)++ [b]:=by rw[hs];simp
   have F:s.stack.getLast? =io b:=by rw[A];exact List.getLast?_concat
   have hd:s.stack.dropLast=u++a::t0:=by rw[A];exact List.dropLast_concat
   have G:BY d s=⟨s.low,By s.on b 2,By s.ring b d,s.n,u++a::t0⟩:=by unfold BY;rw[F,hd]
   have D: ¬a=b:=fun e=>hn (by rw[e];simp);have B:=Ao a d u k t0 ⟨s.low,By s.on b 2,By s.ring b d,s.n,u++a::t0⟩ (by simp at hk;omega) Z (fun g=>hn (ZJ _ g)) (by show By s.on b 2 a=1;rw[nL D];exact ho);rw[G];refine⟨B.1,B.2.1,B.2.2.1,fun x=>?_,fun x=>?_⟩
   .rw[B.2.2.2.1 x];by_cases j:x∈a::t0
    .rw[am j,am (by rw[<-aaJ];exact ZJ _ j)]
    .rw[be j];by_cases y:x=b
     .subst y;rw[am (by simp)];exact mj _ _ _
     .rw[be (by rw[<-aaJ,Zm,Zk];exact fun g=>g.elim j y)];exact nL y
   .rw[B.2.2.2.2 x];by_cases j:x∈a::t0
    .rw[am j,am (by rw[<-aaJ];exact ZJ _ j)]
    .rw[be j];by_cases y:x=b
     .subst y;rw[am (by simp)];exact mj _ _ _
     .rw[be (by rw[<-aaJ,Zm,Zk];exact fun g=>g.elim j y)];exact nL y
theorem St.eq{β:Type}{s t:St β}(h1:s.low=t.low)(h2:s.on=t.on)(h3:s.ring=t.ring)(b:s.n=t.n)(d:s.stack=t.stack):s=t:=by
 cases s;cases t;simp_all
theorem vk{a:α}{b:Int}{u t:List α}{k:Nat}{s:St α}(B:t.length<k)(hs:s.stack=u++a::t)(hn:a∉t)(ho:s.on a=1):ie a b k s=BW s u (a::t) b:=by
 obtain⟨d,j,x,y,A⟩:=Ao a b u k t s B hs hn ho;exact St.eq d (funext y) (funext A) j x
theorem A9{β:Type}{succ:β->List β}{path:List β}{s:St β}(h:Inv succ path s){a b:β}(ha:s.on a=2)(hr:pV succ a b):s.on b=2:=by
 induction hr with
 |refl=>exact ha
 |step _ he ih=>exact h.Qu _ ih _ he
theorem PO{succ:α->List α}{path:List α}{s:St α}{a:α}{u t:List α}(h:Inv succ (path++ [a]) s)(hs:s.stack=u++a::t)(S: ∀g∈path,s.low g<s.low a)(i0: ∀z∈succ a,s.low z≠0)
  (d0: ∀y∈a::t,∀z∈succ y,s.on z=1->s.low a<=s.low z):Inv succ path (BW s u (a::t) (s.low a)):=by
 have I:=h.Vi;rw[hs,abc]at I;obtain⟨hu,hc,b0⟩:=I;have e0:=(aay.1 hc).1;have g0:s.on a=1:=(h.Ae a).2 (by rw[hs];simp);have hC: ∀x,x∈a::t↔(s.on x=1∧s.low a<=s.low x):=by
  intro x;constructor
  .intro d;refine⟨(h.Ae x).2 (by rw[hs];exact aaA _ d),?_⟩;rcases Zq.1 d with e|e
   .rw[e];exact abj _
   .have:=e0 x e;omega
  .rintro⟨D,F⟩;have:=(h.Ae x).1 D;rw[hs]at this;rcases Zm.1 this with g|g
   .have:=b0 x g a Zo;omega
   .exact g
 have Y:a∈a::t:=Zo;have j: ∀x,x∈a::t->(BW s u (a::t) (s.low a)).on x=2:=fun x d=>am d;have no: ∀x,x∉a::t->(BW s u (a::t) (s.low a)).on x=s.on x:=fun x d=>be d
 have J: ∀x,x∈a::t->pV succ x a:=by
  intro x d;obtain⟨D,F⟩:=(hC x).1 d;obtain⟨g,g1,g2,g3⟩:=h.up x D;refine g3.trans (h.dn g g1 a g0 ?_);rcases Zm.1 g1 with e|e
  .have:=S g e;omega
  .rw[Zk]at e;rw[e];exact abj _
 have G: ∀x,x∈a::t->pV succ a x:=by
  intro x d;obtain⟨D,F⟩:=(hC x).1 d;exact h.dn a (by simp) x D F
 have a0: ∀y,s.low y≠0->y∉path-> ∀z∈succ y,s.low z≠0:=by
  intro y A j0 z hz;by_cases e:y=a
  .rw[e]at hz;exact i0 z hz
  .exact h.aL y A (by rw[Zm,Zk];exact fun g=>g.elim j0 e) z hz
 refine⟨h.pH,h.inj,fun x=>?_,fun x=>?_,fun x=>?_,hu,fun x d b hb=>?_,fun g hg=>?_,fun y A=>?_,fun g hg y A f0=>?_,a0,fun x d=>?_,fun x y d A D F=>?_⟩
 .by_cases e:x∈a::t
  .rw[j x e];have:=xW h ((hC x).1 e).1;exact⟨fun g=>by omega,fun g=>absurd g this⟩
  .rw[no x e];exact h.Nk x
 .by_cases e:x∈a::t
  .exact .inr (.inr (j x e))
  .rw[no x e];exact h.IU x
 .show _↔x∈u;by_cases e:x∈a::t
  .rw[j x e];refine⟨fun g=>by omega,fun g=>?_⟩;have D:=b0 x g a Y;have F:=((hC x).1 e).2;omega
  .rw[no x e,h.Ae x,hs,Zm];exact⟨fun g=>g.elim id fun q=>absurd q e,.inl⟩
 .by_cases e:x∈a::t
  .obtain⟨D,F⟩:=(hC x).1 e;have c0:s.low b≠0:=a0 x (xW h D) (fun g=>by have:=S x g;omega) b hb;rcases h.IU b with g|g|g
   .exact absurd ((h.Nk b).1 g) c0
   .exact j b ((hC b).2 ⟨g,d0 x e b hb g⟩)
   .by_cases B:b∈a::t
    .exact j b B
    .rw[no b B];exact g
  .rw[no x e]at d;have g:=h.Qu x d b hb;by_cases B:b∈a::t
   .exact j b B
   .rw[no b B];exact g
 .have D:=h.Ug g (ZJ _ hg);have F:=S g hg;rw[no g (fun e=>by have:=((hC g).1 e).2;omega)];exact D
 .by_cases e:y∈a::t
  .rw[j y e]at A;omega
  .rw[no y e]at A;obtain⟨g,g1,g2,g3⟩:=h.up y A;rcases Zm.1 g1 with q|q
   .exact⟨g,q,g2,g3⟩
   .rw[Zk]at q;rw[q]at g2;exact absurd ((hC y).2 ⟨A,g2⟩) e
 .by_cases e:y∈a::t
  .rw[j y e]at A;omega
  .rw[no y e]at A;exact h.dn g (ZJ _ hg) y A f0
 .by_cases e:x∈a::t
  .exact⟨a,j a Y,(am e).symm,J x e,G x e⟩
  .rw[no x e]at d;obtain⟨r,r1,r2,r3⟩:=h.Wf x d;have B:r∉a::t:=fun g=>by have:=((hC r).1 g).1;omega
   refine⟨r,by rw[no r B];exact r1,?_,r3⟩;show s.low r=if x∈a::t then s.low a else s.ring x;rw[be e];exact r2
 .show(if x∈a::t then s.low a else s.ring x)=if y∈a::t then s.low a else s.ring y;by_cases e:x∈a::t
  .by_cases B:y∈a::t
   .rw[am e,am B]
   .rw[no y B]at A;have:=A9 h A F;have:=((hC x).1 e).1;omega
  .rw[no x e]at d;by_cases B:y∈a::t
   .have:=A9 h d D;have:=((hC y).1 B).1;omega
   .rw[no y B]at A;rw[be e,be B];exact h.cmp x y d A D F
theorem I9{succ:α->List α}{path:List α}{s:St α}{a z:α}(h:Inv succ (path++ [a]) s)(d: ∀z∈succ a,s.low z≠0)(B:s.on z=1)(A:s.low z<s.low a)(hr:pV succ a z):Inv succ path s:=by
 refine⟨h.pH,h.inj,h.Nk,h.IU,h.Ae,h.Vi,h.Qu,fun g b=>h.Ug g (ZJ _ b),fun y u=>?_,fun g b=>h.dn g (ZJ _ b),fun y u x w j=>?_,h.Wf,h.cmp⟩
 .obtain⟨g,g1,g2,g3⟩:=h.up y u;rcases Zm.1 g1 with q|q
  .exact⟨g,q,g2,g3⟩
  .rw[Zk]at q;subst q;obtain⟨k,k1,F,D⟩:=h.up z B;rcases Zm.1 k1 with q|q
   .exact⟨k,q,by omega,(g3.trans hr).trans D⟩
   .rw[Zk]at q;subst q;omega
 .by_cases e:y=a
  .rw[e]at j;exact d w j
  .exact h.aL y u (by rw[Zm,Zk];exact fun g=>g.elim x e) w j
def mh(V:List α)(s:St α):Nat:=(V.filter fun x=>li (s.low x=0)).length
theorem filter_le{β:Type}{p q:β->Bool}: ∀(l:List β),(∀x∈l,p x=kw->q x=kw)->(l.filter p).length<=(l.filter q).length
 | [],_=>Zc _
 |x::r,h=>by
  have j:=filter_le r fun y d=>h y (Zn _ d);have b:=h x Zo;rw[aaD,aaD];split
  .rename_i g;rw[am (b g)];simp only[ZI];omega
  .split
   .simp only[ZI];omega
   .exact j
theorem filter_lt{β:Type}{p q:β->Bool}{a:β}: ∀(l:List β),(∀x∈l,p x=kw->q x=kw)->a∈l->p a=lc->q a=kw->(l.filter p).length<(l.filter q).length
 | [],_,h,_,_=>nomatch h
 |x::r,h,ha,h1,h2=>by
  have d:=filter_le r fun y b=>h y (Zn _ b);have j:=h x Zo;rw[aaD,aaD];rcases Zq.1 ha with e|e
  .subst e;rw[h1,h2];simp only[aaG,if_false,if_true,ZI];omega
  .have u:=filter_lt r (fun y b=>h y (Zn _ b)) e h1 h2;split
   .rename_i g;rw[am (j g)];simp only[ZI];omega
   .split
    .simp only[ZI];omega
    .exact u
theorem zZ{β:Type}{V:List β}{s s':St β}(h:Le s s'):mh V s'<=mh V s:=
 filter_le V fun x _ b=>by
  refine decide_eq_true (aao fun g=>?_);have:=of_decide_eq_true b;rw[h.low x g]at this;exact g this
theorem np{V:List α}{s:St α}{a:α}(hn: ∀x,0<=s.low x∧s.low x<=s.n)(ha:a∈V)(h0:s.low a=0):mh V (push s a)<mh V s:=by
 have la:(push s a).low a=(s.n:Int)+1:=mj _ _ _;refine filter_lt V (fun x _ b=>?_) ha (decide_eq_false (by rw[la];omega)) (decide_eq_true h0);have:=of_decide_eq_true b;by_cases e:x=a
 .rw[e];exact decide_eq_true h0
 .refine decide_eq_true ?_;rwa[show(push s a).low x=s.low x from nL e]at this
structure gK (succ:α->List α) (path:List α) (a:α) (s0:St α) (done:List α) (q:Int×St α) (t:List α):Prop where
 inv:Inv succ (path++ [a]) q.2
 le:Le (push s0 a) q.2
 stack:q.2.stack=s0.stack++a::t
 new: ∀y∈t,s0.low y=0
 Uv:q.1<=(s0.n:Int)+1
 l1: ∀y∈t,∀z∈succ y,q.2.on z=1->q.1<=q.2.low z
 Wv: ∀z∈done,q.2.on z=1->q.1<=q.2.low z
 proc: ∀z∈done,q.2.low z≠0
 l2: ∃z,q.2.on z=1∧q.2.low z=q.1∧pV succ a z
section
variable {succ:α->List α} {path:List α} {a:α} {s0:St α} {done:List α} {q:Int×St α} {t:List α}
theorem gK.la(h:gK succ path a s0 done q t):q.2.low a=(s0.n:Int)+1:=by
 have e:(push s0 a).low a=(s0.n:Int)+1:=mj _ _ _;rw[h.le.low a (by rw[e];omega),e]
theorem gK.pa(h:gK succ path a s0 done q t)(h0:Inv succ path s0)(ha:s0.low a=0): ∀g∈path,q.2.low g<q.2.low a:=by
 intro g j;have d:=h0.Ug g j;have b:=xW h0 d;have e:(push s0 a).low g=s0.low g:=nL fun e=>b (by rw[e];exact ha);rw[h.la,h.le.low g (by rw[e];exact b),e];have:=h0.pH g;omega
theorem gK.at_(h:gK succ path a s0 done q t):a∉t:=fun g=>by
 have:=h.inv.Vi;rw[h.stack,abc]at this;have:=(aay.1 this.2.1).1 a g;omega
theorem gK.step{V:List α}{j:α->St α->Int×St α}{f:Nat}(hV: ∀a∈V,∀b∈succ a,b∈V)
  (ih: ∀(path:List α) (b:α) (s:St α),Inv succ path s->s.low b=0->b∈V->(∀g∈path,pV succ g b)->mh V s<=f-> ∃t,Va succ path b s (j b s).1 (j b s).2 t)
  (h:gK succ path a s0 done q t) (h0:Inv succ path s0) (ha:s0.low a=0) (Y:a∈V) {b:α} (hb:b∈succ a) (hw:mh V q.2<=f): ∃t',gK succ path a s0 (done++ [b]) (fG j q b) t':=by
 have g0:=h.la;have d0:=h.pa h0 ha;have a0:=h.at_;have c0:q.2.on a=1:=(h.inv.Ae a).2 (by rw[h.stack];simp);unfold fG;by_cases F:q.2.low b=0
 .rw[am F];have I: ∀g∈path++ [a],pV succ g b:=by
   intro g hg;refine .step (h.inv.dn g hg a c0 ?_) hb;rcases Zm.1 hg with e|e
   .have:=d0 g e;omega
   .rw[Zk]at e;rw[e];exact abj _
  obtain⟨tb,u⟩:=ih (path++ [a]) b q.2 h.inv F (hV a Y b hb) I hw;generalize j b q.2=w at u ⊢;obtain⟨G,s'⟩:=w;have B: ∀z,q.2.on z=1->s'.on z=1:=fun z d=>(u.inv.Ae z).2 (by rw[u.stack];exact ZJ _ ((h.inv.Ae z).1 d));have j0:=h.le.n;have i0:(push s0 a).n=s0.n+1:=rfl;refine⟨t++tb,u.inv,h.le.trans u.le,?_,fun y J=>?_,?_,fun y J z d D=>?_,fun z d D=>?_,fun z d=>?_,?_⟩
  .show s'.stack=_;rw[u.stack,h.stack];simp
  .rcases Zm.1 J with g|g
   .exact h.new y g
   .refine aao fun hc=>?_
    have e:(push s0 a).low y=s0.low y:=nL fun e=>hc (by rw[e];exact ha);have:=h.le.low y (by rw[e];exact hc);rw[u.new y g,e]at this;exact hc this.symm
  .have:=h.Uv;show min q.1 G<=_;omega
  .show min q.1 G<=s'.low z;rcases Zm.1 J with g|g
   .have f0:q.2.on y=1:=(h.inv.Ae y).2 (by rw[h.stack];simp[g]);have e0:y∉path++ [a]:=by
     rw[Zm,Zk];rintro(e|e)
     .have h1:=xW h0 (h0.Ug y e);exact h1 (h.new y g)
     .rw[e]at g;exact a0 g
    have x:=h.inv.aL y (xW h.inv f0) e0 z d;have A:=K2 h.inv u.le x D;have:=h.l1 y g z d A;rw[u.le.low z x];omega
   .have:G<=s'.low z:=u.l1 y g z d D;omega
  .show min q.1 G<=s'.low z;rcases Zm.1 d with g|g
   .have x:=h.proc z g;have:=h.Wv z g (K2 h.inv u.le x D);rw[u.le.low z x];omega
   .rw[Zk]at g;subst g;have:G<=s'.low z:=u.Uv;omega
  .show s'.low z≠0;rcases Zm.1 d with g|g
   .have x:=h.proc z g;rw[u.le.low z x];exact x
   .rw[Zk]at g;subst g;have:(q.2.n:Int)<s'.low z:=u.at_;omega
  .obtain⟨z,S,z2,z3⟩:=h.l2;by_cases b0:q.1<=G
   .exact⟨z,B z S,by show s'.low z=min q.1 G;rw[u.le.low z (xW h.inv S)];omega,z3⟩
   .rcases u.l2 with⟨_,g⟩|⟨w,w1,w2,w3⟩
    .have h1:G=s'.low b:=g;have h2:(q.2.n:Int)<s'.low b:=u.at_;have h3:=h.Uv;omega
    .have w2:s'.low w=G:=w2;exact⟨w,B w ((h.inv.Ae w).2 w1),by show s'.low w=min q.1 G;omega,(pV.one hb).trans w3⟩
 .rw[be F];by_cases A:q.2.on b=1
  .rw[am A];refine⟨t,h.inv,h.le,h.stack,h.new,?_,fun y J z d D=>?_,fun z d D=>?_,fun z d=>?_,?_⟩
   .have:=h.Uv;show min q.1 (q.2.low b)<=_;omega
   .have:=h.l1 y J z d D;show min q.1 (q.2.low b)<=q.2.low z;omega
   .show min q.1 (q.2.low b)<=q.2.low z;rcases Zm.1 d with g|g
    .have:=h.Wv z g D;omega
    .rw[Zk]at g;subst g;omega
   .rcases Zm.1 d with g|g
    .exact h.proc z g
    .rw[Zk]at g;subst g;exact F
   .obtain⟨z,S,z2,z3⟩:=h.l2;by_cases b0:q.1<=q.2.low b
    .exact⟨z,S,by show q.2.low z=min q.1 (q.2.low b);omega,z3⟩
    .exact⟨b,A,by show q.2.low b=min q.1 (q.2.low b);omega,.one hb⟩
  .rw[be A];refine⟨t,h.inv,h.le,h.stack,h.new,h.Uv,h.l1,fun z d D=>?_,fun z d=>?_,h.l2⟩
   .rcases Zm.1 d with g|g
    .exact h.Wv z g D
    .rw[Zk]at g;subst g;exact absurd D A
   .rcases Zm.1 d with g|g
    .exact h.proc z g
    .rw[Zk]at g;subst g;exact F
end
theorem vw{succ:α->List α}{path:List α}{a:α}{s0:St α}{V:List α}{d:α->St α->Int×St α}{f:Nat}(hV: ∀a∈V,∀b∈succ a,b∈V)
  (A: ∀(path:List α) (b:α) (s:St α),Inv succ path s->s.low b=0->b∈V->(∀g∈path,pV succ g b)->mh V s<=f-> ∃t,Va succ path b s (d b s).1 (d b s).2 t)
  (h0:Inv succ path s0) (ha:s0.low a=0) (j:a∈V) (u:mh V (push s0 a)<=f):
  ∀(l done:List α) (q:Int×St α) (t:List α),gK succ path a s0 done q t->(∀b∈l,b∈succ a)-> ∃F,gK succ path a s0 (done++l) (l.foldl (fG d) q) F
 | [],done,q,t,h,_=>⟨t,by rw[ZL];exact h⟩
 |b::l,done,q,t,h,hl=>by
  obtain⟨t1,B⟩:=h.step hV A h0 ha j (hl b Zo) (Z1 (zZ h.le) u);obtain⟨t2,y⟩:=vw hV A h0 ha j u l (done++ [b]) _ t1 B fun x D=>hl x (Zn _ D);exact⟨t2,by rw[Zj]at y;exact y⟩
theorem sJ{succ:α->List α}{V:List α}(hV: ∀a∈V,∀b∈succ a,b∈V): ∀(f:Nat) (path:List α) (a:α) (s:St α),Inv succ path s->s.low a=0->a∈V->(∀g∈path,pV succ g a)->mh V s<=f-> ∃t,Va succ path a s (ft succ f a s).1 (ft succ f a s).2 t
 |0,path,a,s,h,ha,haV,_,hw=>by
  have:=np h.pH haV ha;omega
 |f+1,path,a,s,h,ha,haV,hp,hw=>by
  have c0:=np h.pH haV ha;have hi:=DI h ha hp;have la:(push s a).low a=(s.n:Int)+1:=mj _ _ _;have oa:(push s a).on a=1:=mj _ _ _;have I:gK succ path a s [] ((s.n:Int)+1,push s a) []:=
   ⟨hi,.refl _,rfl,fun y j=>(nomatch j),abj _,fun y j=>(nomatch j),fun z B=>(nomatch B),fun z B=>(nomatch B),⟨a,oa,la,.refl _⟩⟩
  obtain⟨t,d⟩:=vw hV (fun p b s'=>sJ hV f p b s') h ha haV (by omega) (succ a) [] _ [] I fun b hb=>hb;rw[aaN]at d;rw[ft];generalize(succ a).foldl (fG (ft succ f)) ((s.n:Int)+1,push s a)=q at d ⊢;have D:=d.la;have a0:=d.pa h ha;have J:=d.at_;have Y:q.2.on a=1:=(d.inv.Ae a).2 (by rw[d.stack];simp);have u:Le s q.2:=(PN h ha).trans d.le;unfold wU;by_cases S:q.1=(s.n:Int)+1
  .rw[am S,vk (by rw[d.stack];simp;omega) d.stack J Y,<-D];refine⟨[],PO d.inv d.stack a0 d.proc fun y j z B F=>?_,⟨u.low,fun x hx=>?_,u.n⟩,by rw[ZL];rfl,fun y j=>(nomatch j),?_,?_,fun y j=>(nomatch j),.inl ⟨am Zo,?_⟩⟩
   .rw[D,<-S];rcases Zq.1 j with e|e
    .rw[e]at B;exact d.Wv z B F
    .exact d.l1 y e z B F
   .show(if x∈a::t then(2:Int) else q.2.on x)=2;split
    .rfl
    .exact u.Qu x hx
   .show(s.n:Int)<q.2.low a;omega
   .show q.1<=q.2.low a;omega
   .show q.1=q.2.low a;omega
  .rw[be S];have b0:q.1<q.2.low a:=by have:=d.Uv;omega
   obtain⟨z,z1,z2,z3⟩:=d.l2;have G:=d.inv.Vi;rw[d.stack,abc]at G;refine⟨a::t,I9 d.inv d.proc z1 (by omega) z3,u,d.stack,fun y j=>?_,by omega,by omega,fun y j w A F=>?_,.inr ⟨z,?_,z2,z3⟩⟩
   .rcases Zq.1 j with e|e
    .rw[e];exact ha
    .exact d.new y e
   .rcases Zq.1 j with e|e
    .rw[e]at A;exact d.Wv w A F
    .exact d.l1 y e w A F
   .have:=(d.inv.Ae z).1 z1;rw[d.stack]at this;rcases Zm.1 this with g|g
    .exact g
    .rcases Zq.1 g with e|e
     .rw[e]at z2;omega
     .have:=(aay.1 G.2.1).1 z e;omega
theorem SC{β:Type}(succ:β->List β):Inv succ [] (St.o:St β):=
 ⟨fun _=>⟨abj _,abj _⟩,fun _ _ _ h=>absurd Z h,fun _=>Iff.rfl,fun _=> .inl Z,fun _=>⟨fun h=>(nomatch h),fun h=>(nomatch h)⟩,.nil,fun _ h=>(nomatch h),fun _ h=>(nomatch h),fun _ h=>(nomatch h),fun _ h=>(nomatch h),fun _ h=>absurd Z h,fun _ h=>(nomatch h),fun _ _ h=>(nomatch h)⟩
theorem vb{succ:α->List α}{V:List α}(hV: ∀a∈V,∀b∈succ a,b∈V){f:Nat}(hf:V.length<=f): ∀(l:List α) (s:St α),(∀a∈l,a∈V)->Inv succ [] s->Inv succ [] (jo succ f l s)∧(∀x,s.low x≠0->(jo succ f l s).low x≠0)∧ ∀a∈l,(jo succ f l s).low a≠0
 | [],s,_,h=>⟨h,fun _ d=>d,fun _ j=>(nomatch j)⟩
 |b::l,s,hl,h=>by
  have key: ∃s',(if s.low b=0 then(ft succ f b s).2 else s)=s'∧Inv succ [] s'∧(∀x,s.low x≠0->s'.low x≠0)∧s'.low b≠0:=by
   by_cases e:s.low b=0
   .obtain⟨t,u⟩:=sJ hV f [] b s h e (hl b Zo) (fun g A=>nomatch A) (Z1 (aak _ _) hf);refine⟨_,am e,u.inv,fun x d=>by rw[u.le.low x d];exact d,?_⟩;have:=u.at_;omega
   .exact⟨s,be e,h,fun _ d=>d,e⟩
  obtain⟨s',e,k1,B,D⟩:=key;obtain⟨i1,i2,i3⟩:=vb hV hf l s' (fun a j=>hl a (Zn _ j)) k1;have y:jo succ f (b::l) s=jo succ f l s':=by
   show jo succ f l (if s.low b=0 then(ft succ f b s).2 else s)=_;rw[e]
  rw[y];refine⟨i1,fun x d=>i2 x (B x d),fun a j=>?_⟩;rcases Zq.1 j with q|q
  .rw[q];exact i2 b D
  .exact i3 a q
theorem IH{succ:α->List α}{V:List α}(hV: ∀a∈V,∀b∈succ a,b∈V){f:Nat}(hf:V.length<=f){a b:α}(ha:a∈V)(hb:b∈V):
  (jo succ f V St.o).ring a=(jo succ f V St.o).ring b↔pV succ a b∧pV succ b a:=by
 obtain⟨h,_,u⟩:=vb hV hf V St.o (fun _ h=>h) (SC succ);generalize jo succ f V St.o=s at h u ⊢;have d: ∀x∈V,s.on x=2:=by
  intro x y;rcases h.IU x with g|g|g
  .exact absurd ((h.Nk x).1 g) (u x y)
  .obtain⟨k,k1,_⟩:=h.up x g;exact nomatch k1
  .exact g
 constructor
 .intro e;obtain⟨r,J,S,D,F⟩:=h.Wf a (d a ha);obtain⟨q,G,I,A,B⟩:=h.Wf b (d b hb);have j:s.low r≠0:=fun g=>by have:=(h.Nk r).2 g;omega
  have:r=q:=h.inj r q (by omega) j;subst this;exact⟨D.trans B,A.trans F⟩
 .rintro⟨h1,h2⟩;exact h.cmp a b (d a ha) (d b hb) h1 h2
end
end
end
end Go.Tj
namespace Go.Wa
section
inductive zf (R:Nat->Nat->Prop):Nat->Nat->Prop
 |refl (a:Nat):zf R a a
 |step {a b c:Nat} (h:R a b) (t:zf R b c):zf R a c
theorem zf.trans{R:Nat->Nat->Prop}{a b c:Nat}(h:zf R a b)(k:zf R b c):zf R a c:=by
 induction h with
 |refl=>exact k
 |step h _ ih=>exact .step h (ih k)
def W(E:Nat->Nat->Bool):Nat->Nat->Nat->Bool
 |0,a,b=>E a b||a==b
 |m+1,a,b=>W E m a b||(W E m a m&&W E m m b)
variable {E:Nat->Nat->Bool}
theorem W.mono(m a b:Nat)(h:W E m a b=kw):W E (m+1) a b=kw:=by simp[W,h]
theorem W.SF{m k a b:Nat}(d:m<=k)(h:W E m a b=kw):W E k a b=kw:=by
 induction d with
 |refl=>exact h
 |step _ ih=>exact W.mono _ _ _ ih
theorem W.self(m a:Nat):W E m a a=kw:=W.SF (Zf m) (by simp[W])
theorem W.trans: ∀(m a k b:Nat),k<m->W E m a k=kw->W E m k b=kw->W E m a b=kw
 |m+1,a,k,b,hk,d,j=>by
  simp only[W,aas,Zw]at d j ⊢;by_cases A:k=m
  .subst A;have B:W E k a k=kw:=by rcases d with h|h;exact h;exact h.1
   have D:W E k k b=kw:=by rcases j with h|h;exact h;exact h.2
   exact .inr ⟨B,D⟩
  .have u:k<m:=by omega
   rcases d with d|⟨d,y⟩<;>rcases j with j|⟨j,x⟩
   .exact .inl (W.trans m a k b u d j)
   .exact .inr ⟨W.trans m a k m u d j,x⟩
   .exact .inr ⟨d,W.trans m m k b u y j⟩
   .exact .inr ⟨d,x⟩
theorem W.sound: ∀(m a b:Nat),W E m a b=kw->zf (fun a b=>E a b=kw) a b
 |0,a,b,h=>by
  simp only[W,aas,beq_iff_eq]at h;rcases h with h|h
  .exact .step h (.refl _)
  .subst h;exact .refl _
 |m+1,a,b,h=>by
  simp only[W,aas,Zw]at h;rcases h with h|⟨d,j⟩
  .exact W.sound m a b h
  .exact(W.sound m a m d).trans (W.sound m m b j)
theorem W.iff{n:Nat}(hE: ∀a b,a<n->E a b=kw->b<n){a b:Nat}(ha:a<n):W E n a b=kw↔zf (fun a b=>E a b=kw) a b:=by
 refine⟨W.sound n a b,fun h=>?_⟩
 induction h with
 |refl a=>exact W.self n a
 |step h _ ih=>
  have hb:=hE _ _ ha h;exact W.trans n _ _ _ hb (W.SF (Zf n) (by simp[W,h])) (ih hb)
def V(E:Nat->Nat->Bool)(m a b x y:Nat):Bool:=if x<a∨x=a∧y<b then W E (m+1) x y else W E m x y
theorem V.zy(m a b x:Nat):V E m a b x m=W E m x m:=by
 unfold V;split
 .simp only[W];cases W E m x m<;>simp
 .rfl
theorem V.row(m a b y:Nat):V E m a b m y=W E m m y:=by
 unfold V;split
 .simp only[W];cases W E m m y<;>simp
 .rfl
theorem V.here(m a b:Nat):V E m a b a b=W E m a b:=by unfold V;rw[be (by omega)]
theorem V.next(m a b x y:Nat):V E m a (b+1) x y=if x=a∧y=b then(V E m a b x y||(V E m a b a m&&V E m a b m b)) else V E m a b x y:=by
 by_cases h:x=a∧y=b
 .obtain⟨rfl,rfl⟩:=h;rw[am ⟨rfl,rfl⟩,V.zy,V.row,V.here];unfold V;rw[am (by omega)];rfl
 .rw[be h];unfold V;by_cases d:x<a∨x=a∧y<b
  .rw[am d,am (by omega)]
  .rw[be d,be (by omega)]
theorem V.line(m a n x y:Nat)(b:y<n):V E m a n x y=V E m (a+1) 0 x y:=by
 unfold V;by_cases h:x<a∨x=a∧y<n
 .rw[am h,am (by omega)]
 .rw[be h,be (by omega)]
theorem V.zero(m x y:Nat):V E m 0 0 x y=W E m x y:=by unfold V;rw[be (by omega)]
theorem V.full(m n x y:Nat)(b:x<n):V E m n 0 x y=W E (m+1) x y:=by unfold V;rw[am (.inl b)]
end
end Go.Wa
namespace Go.Co
section
section
variable {n:Nat} {rV:Nat->Nat->Bool} {e:Nat->Nat->Bool}
structure Far (n:Nat) (e rV:Nat->Nat->Bool):Prop where
 refl: ∀a,a<n->rV a a=kw
 trans: ∀a b c,rV a b=kw->rV b c=kw->rV a c=kw
 XP: ∀a b,a<n->e a b=kw->rV a b=kw
 lt: ∀a b,a<n->rV a b=kw->b<n
 elt: ∀a b,a<n->e a b=kw->b<n
 split: ∀a b (p:Nat->Prop),a<n->rV a b=kw->p a-> ¬p b-> ∃x y,x<n∧rV a x=kw∧p x∧e x y=kw∧ ¬p y∧rV y b=kw
def closed(n:Nat)(rV:Nat->Nat->Bool)(done:Nat->Bool):Prop:= ∀a b,a<n->done a=kw->rV a b=kw->done b=kw
def cls(rV:Nat->Nat->Bool)(a b:Nat):Bool:=rV a b&&rV b a
end
end
end Go.Co
namespace Go.Rg
open Go.Wa Go.Co Go.Tj
section
section
variable {α:Type} [Inhabited α]
def ed(V:List α)(g:α->α->Bool)(i j:Nat):Bool:=li (i<V.length)&&li (j<V.length)&&g (V.getD i em) (V.getD j em)
def rV(V:List α)(g:α->α->Bool):Nat->Nat->Bool:=W (ed V g) V.length
theorem Cy{V:List α}{g:α->α->Bool}{i j:Nat}:ed V g i j=kw↔i<V.length∧j<V.length∧g (V.getD i em) (V.getD j em)=kw:=by
 simp[ed,and_assoc]
theorem rz{V:List α}{a:α}(h:a∈V): ∃i,i<V.length∧V.getD i em=a:=by
 obtain⟨i,b,rfl⟩:=aaf.1 h;exact⟨i,b,by simp[Y6,b]⟩
theorem get_mem{V:List α}{i:Nat}(h:i<V.length):V.getD i em∈V:=by
 rw[Y6,Za h];exact ZQ h
theorem Gz{V:List α}(hn:V.Nodup){g:α->α->Bool}{succ:α->List α}(hs: ∀a∈V,∀b,b∈succ a↔b∈V∧g a b=kw){i j:Nat}(hi:i<V.length)(hj:j<V.length):
  rV V g i j=kw↔pV succ (V.getD i em) (V.getD j em):=by
 have B: ∀{x y:Nat},x<V.length->y<V.length->V.getD x em=V.getD y em->x=y:=by
  intro x y D d h;rw[Y6,Y6,Za D,Za d]at h;exact(abH hn).1 h
 rw[rV,W.iff (n:=V.length) (fun a b _ h=>(Cy.1 h).2.1) hi];constructor
 .intro h;clear hj;have: ∀{a b:Nat},zf (fun a b=>ed V g a b=kw) a b->pV succ (V.getD a em) (V.getD b em):=by
   intro a b h
   induction h with
   |refl a=>exact .refl _
   |step h _ ih=>
    obtain⟨u,A,F⟩:=Cy.1 h;exact(pV.step (.refl _) ((hs _ (get_mem u) _).2 ⟨get_mem A,F⟩)).trans ih
  exact this h
 .intro h;have key: ∀{a b:α},pV succ a b-> ∀x,x<V.length->V.getD x em=a-> ∃y,y<V.length∧V.getD y em=b∧zf (fun a b=>ed V g a b=kw) x y:=by
   intro a b h
   induction h with
   |refl=>exact fun x D G=>⟨x,D,G,.refl _⟩
   |step _ hc ih=>
    intro x D G;obtain⟨y,d,u,A⟩:=ih x D G;subst u;obtain⟨F,J⟩:=(hs _ (get_mem d) _).1 hc;obtain⟨z,I,rfl⟩:=rz F;exact⟨z,I,rfl,A.trans (.step (Cy.2 ⟨d,I,J⟩) (.refl _))⟩
  obtain⟨y,d,u,A⟩:=key h i hi Z;have:=B d hj u;subst this;exact A
def zi(V:List α)(g:α->α->Bool)(ring:α->Int):Prop:= ∀i j,i<V.length->j<V.length->(ring (V.getD i em)=ring (V.getD j em)↔rV V g i j=kw∧rV V g j i=kw)
theorem KK[DecidableEq α]{V:List α}(hn:V.Nodup){g:α->α->Bool}{succ:α->List α}(hs: ∀a∈V,∀b,b∈succ a↔b∈V∧g a b=kw){f:Nat}(hf:V.length<=f):zi V g (jo succ f V St.o).ring:=by
 intro i j d u;rw[IH (fun a x b hb=>((hs a x b).1 hb).1) hf (get_mem d) (get_mem u),Gz hn hs d u,Gz hn hs u d]
def WJ(V:List α)(succ:α->List α)(ring:α->Int)(D:Int->Bool)(a:α):Bool:=(V.filter fun b=>li (ring b=ring a)).all fun b=>(succ b).all fun c=>li (ring c=ring a)||D (ring c)
def Gg(V:List α)(succ:α->List α)(ring:α->Int):Nat->(Int->Bool)->List (List α)
 |0,_=> []
 |f+1,D=>match V.find? (fun a=>!D (ring a)&&WJ V succ ring D a) with
  |none=> []
  |some a=>(V.filter fun b=>li (ring b=ring a))::Gg V succ ring f (fun x=>li (x=ring a)||D x)
end
end
end Go.Rg
namespace Go.Lv
section
variable (e s:Nat->Nat->Bool)
def wt(a b:Nat):Nat:=if s a b then 1 else 0
inductive U8:Nat->Nat->Nat->Prop
 |nil (a:Nat):U8 a 0 0
 |cons {a b k w:Nat} (h:e a b=kw) (t:U8 b k w):U8 a (k+1) (w+wt s a b)
def rx(h:Nat->Nat)(a b:Nat):Nat->Nat:=if e a b=kw∧h a<h b+wt s a b then fun x=>if x=a then h b+wt s a b else h x else h
def row(h:Nat->Nat)(a:Nat):Nat->(Nat->Nat)
 |0=>h
 |b+1=>rx e s (row h a b) a b
variable {e s}
end
end Go.Lv
namespace Go.Le
open Go.Co Go.Lv
section
variable {n:Nat} {e s rV:Nat->Nat->Bool}
structure Xp (n:Nat) (e s rV:Nat->Nat->Bool) (done:Nat->Bool) (h:Nat->Nat):Prop where
 cl:closed n rV done
 zero: ∀x,done x=lc->h x=0
 XP: ∀a b,a<n->done a=kw->e a b=kw->h b+wt s a b<=h a
 ground: ∀S:Nat->Bool,(∃a,a<n∧done a=kw∧S a=lc)-> ∃x,x<n∧done x=kw∧S x=lc∧(h x=0∨ ∃y,y<n∧S y=kw∧e x y=kw∧h x<=h y+wt s x y)
theorem Xp.nil(n:Nat)(e s rV:Nat->Nat->Bool):Xp n e s rV (fun _=>lc) (fun _=>0):=
 ⟨fun _ _ _ h=>(nomatch h),fun _ _=>rfl,fun _ _ _ h=>(nomatch h),fun _ ⟨_,_,h,_⟩=>(nomatch h)⟩
end
end Go.Le
namespace Go.Or
open Go.Co Go.Lv Go.Le
section
variable {n:Nat} {e s rV:Nat->Nat->Bool}
structure YZ (n:Nat) (rV:Nat->Nat->Bool) (done:Nat->Bool) (cs:List (List Nat)) (x i:Nat) (c:List Nat):Prop where
 at_:cs[i]? =io c
 mem:x∈c
 one: ∀(j:Nat) (c':List Nat),cs[j]? =io c'->x∈c'->j=i
 cl: ∀y,y∈c↔y<n∧cls rV x y=kw
 low: ∀y,y<n->rV x y=kw->done y=kw∨ ∃j c',j<=i∧cs[j]? =io c'∧y∈c'
end
end Go.Or
namespace Go.Proofs.YtflegjieadkonaaGreatDoor
open Go Go.Al
mutual
def named:Lit->List ak
 | .mk k a _ _ _ _ _ _ b _=>if k=1∨k=2 then[a.rel] else if k=4 then jv b else[]
def jv:List Lit->List ak
 | []=> []
 |l::r=>named l++jv r
end
def B6(l:Lit):List ak:=if l.kind=1∨l.kind=2 then[l.atom.rel] else if l.kind=4 then(l.ar.filter fun x=>li (x.kind=1∨x.kind=2)).map fun x=>x.atom.rel else[]
theorem qp: ∀l:List Lit,jv l=l.flatMap named
 | []=>rfl
 |x::r=>by simp only[jv,ZX,qp r]
theorem AA: ∀(b:List Lit),(∀x∈b,x.kind≠4)->jv b=(b.filter fun x=>li (x.kind=1∨x.kind=2)).map fun x=>x.atom.rel
 | [],_=>rfl
 | .mk k' a' op' le' ri' af' av' ao' b' at'::b,h=>by
  have j:k'≠4:=h (.mk k' a' op' le' ri' af' av' ao' b' at') (Zo ..);rw[jv,AA b fun y u=>h y (Zn _ u),aaD];by_cases d:k'=1∨k'=2
  .have:li ((Lit.mk k' a' op' le' ri' af' av' ao' b' at').kind=1∨(Lit.mk k' a' op' le' ri' af' av' ao' b' at').kind=2)=kw:=decide_eq_true d;rw[this,named,am d];rfl
  .have:li ((Lit.mk k' a' op' le' ri' af' av' ao' b' at').kind=1∨(Lit.mk k' a' op' le' ri' af' av' ao' b' at').kind=2)=lc:=decide_eq_false d;rw[this,named,be d,be j];rfl
theorem ye(l:Lit)(h:l.kind=4-> ∀x∈l.ar,x.kind≠4):named l=B6 l:=by
 obtain⟨k,a,op,le,A,j,y,u,b,at_⟩:=l;show(if k=1∨k=2 then[a.rel] else if k=4 then jv b else[])=if k=1∨k=2 then[a.rel] else if k=4 then(b.filter fun x=>li (x.kind=1∨x.kind=2)).map fun x=>x.atom.rel else[];by_cases d:k=4
 .rw[AA b (h d)]
 .rw[be d,be d]
def gz(l:Lit):Nat:=if l.kind=1 then 1 else 2
def c5(p:Prog):List (ak×ak×Nat):=p.rules.flatMap fun r=>r.body.flatMap fun l=>(named l).map fun t=>(r.head.rel,t,gz l)
def gD(hs:List (ak×ak×Nat))(a b:ak):Nat:=hs.foldl (fun m x=>if x.1=a∧x.2.1=b then max m x.2.2 else m) 0
theorem HI(hs:List (ak×ak×Nat))(x:ak×ak×Nat)(a b:ak):gD (hs++ [x]) a b=if x.1=a∧x.2.1=b then max (gD hs a b) x.2.2 else gD hs a b:=by
 simp[gD,aaE]
theorem Ct(a b:ak): ∀(hs:List (ak×ak×Nat)) (m:Nat),m<=hs.foldl (fun m x=>if x.1=a∧x.2.1=b then max m x.2.2 else m) m∧(∀k,(a,b,k)∈hs->k<=hs.foldl (fun m x=>if x.1=a∧x.2.1=b then max m x.2.2 else m) m)∧
  (hs.foldl (fun m x=>if x.1=a∧x.2.1=b then max m x.2.2 else m) m=m∨(a,b,hs.foldl (fun m x=>if x.1=a∧x.2.1=b then max m x.2.2 else m) m)∈hs)
 | [],m=>⟨Zc _,fun _ h=>(nomatch h),.inl Z⟩
 |(x,y,k)::hs,m=>by
  obtain⟨j,u,h3⟩:=Ct a b hs (if x=a∧y=b then max m k else m);rw[ZD];refine⟨Z1 ?_ j,fun B A=>?_,?_⟩
  .split<;>omega
  .rcases Zq.1 A with h|h
   .cases h;refine Z1 ?_ j;rw[am ⟨rfl,rfl⟩];exact Nat.le_max_right _ _
   .exact u B h
  .rcases h3 with h3|h3
   .by_cases d:x=a∧y=b
    .rw[am d]at h3;rcases Nat.le_total m k with h4|h4
     .right;rw[acx h4]at h3;obtain⟨rfl,rfl⟩:=d;simp only[and_self,if_true,acx h4]at h3 ⊢;rw[h3];simp
     .left;rw[Nat.max_eq_left h4]at h3;simp only[d,and_self,if_true,Nat.max_eq_left h4]at h3 ⊢;exact h3
    .rw[be d]at h3;left;simp only[be d];exact h3
   .exact .inr (Zn _ h3)
theorem WI{hs:List (ak×ak×Nat)}{a b:ak}{k:Nat}(h:(a,b,k)∈hs):k<=gD hs a b:=(Ct a b hs 0).2.1 k h
theorem SO(hs:List (ak×ak×Nat))(a b:ak):gD hs a b=0∨(a,b,gD hs a b)∈hs:=(Ct a b hs 0).2.2
theorem Hv(l:Lit):gz l<=2:=by unfold gz;split<;>omega
def ns(p:Prog):List ak:=eQ (p.aD.map Decl.name)
theorem pK: ∀(l a:List ak),pX a->pX (l.foldl ins a)
 | [],_,h=>h
 |x::l,a,h=>pK l (ins a x) (tq h x)
theorem uC{x:ak}: ∀(l a:List ak),x∈l.foldl ins a↔x∈a∨x∈l
 | [],a=>by simp
 |y::l,a=>by rw[ZD,uC l,xa,Zq,or_assoc]
theorem I1{p:Prog}(h:(p.aD.map Decl.name).Nodup):(p.aD.map Decl.name).foldl ins []=ns p:=
 mv (pK _ _ aaT) (fS h) fun x=>by rw[uC,ns,gu];simp
theorem pX.K9{l:List ak}(h:pX l):l.Nodup:=by
 refine acs ?_ h;intro a b d e;subst e;exact kE _ d
def eg(p:Prog)(a b:ak):Bool:=li (gD (c5 p) a b≠0)
def jV(p:Prog):Nat->Nat->Bool:=Go.Rg.rV (ns p) (eg p)
theorem KL{p:Prog}(hn:(p.aD.map Decl.name).Nodup){f:Nat}(hf:(ns p).length<=f):Go.Rg.zi (ns p) (eg p) (Go.Tj.jo (fun a=>(ns p).filter (eg p a)) f (ns p) Go.Tj.St.o).ring:=
 Go.Rg.KK (V:=ns p) (pX.K9 (fS hn)) (fun a _ b=>by rw[ZM]) hf
def ringEq(p:Prog)(a b:ak):Bool:=(Zy (ns p).length).any fun i=>(Zy (ns p).length).any fun j=>li ((ns p).getD i em=a)&&li ((ns p).getD j em=b)&&Go.Co.cls (jV p) i j
theorem xT{p:Prog}{a b:ak}:ringEq p a b=kw↔ ∃i j,i<(ns p).length∧j<(ns p).length∧(ns p).getD i em=a∧(ns p).getD j em=b∧jV p i j=kw∧jV p j i=kw:=by
 simp only[ringEq,ZZ,aam,Zw,decide_eq_true_eq,Go.Co.cls];constructor
 .rintro⟨i,hi,j,hj,⟨h1,h2⟩,h3,h4⟩;exact⟨i,j,hi,hj,h1,h2,h3,h4⟩
 .rintro⟨i,j,hi,hj,h1,h2,h3,h4⟩;exact⟨i,hi,j,hj,⟨h1,h2⟩,h3,h4⟩
theorem vS{p:Prog}{ring:ak->Int}(hr:Go.Rg.zi (ns p) (eg p) ring){a b:ak}(ha:a∈ns p)(hb:b∈ns p):ringEq p a b=li (ring a=ring b):=by
 rw[ZW,xT,decide_eq_true_eq];constructor
 .rintro⟨i,j,d,u,rfl,rfl,x,y⟩;exact(hr i j d u).2 ⟨x,y⟩
 .intro h;obtain⟨i,d,rfl⟩:=Go.Rg.rz ha;obtain⟨j,u,rfl⟩:=Go.Rg.rz hb;obtain⟨x,y⟩:=(hr i j d u).1 h;exact⟨i,j,d,u,rfl,rfl,x,y⟩
def nP(p:Prog)(r:ah):Bool:=r.body.any fun l=>li (l.kind=1)&&ringEq p l.atom.rel r.head.rel
def rm(p:Prog)(r:ah):Option Lit:=r.body.find? fun l=>li (l.kind≠1)&&(named l).any fun t=>ringEq p t r.head.rel
def iM(r:ah):Bool:=r.head.ad.any fun t=>li (t.kind=1)&&!aH (fU r) t.var
def gQ(p:Prog)(r:ah):aZ:=match rm p r with
 |some l=>(70,l.at)
 |none=>if iM r=kw∧nP p r=kw then(71,r.at_) else aZ.z
def dU(p:Prog):aZ:=if(dB p).1≠0 then dB p else((p.rules.map (gQ p)).find? fun d=>li (d.1≠0)).getD aZ.z
end Go.Proofs.YtflegjieadkonaaGreatDoor
namespace Go.Re
open Go.Tj
section
variable {α:Type}
structure Mid (succ:α->List α) (S T:α->Prop) (a:α) (l:List α):Prop where
 Wj: ∀x,S x->T x
 here:T a
 new: ∀x,T x->S x∨pV succ a x
 next: ∀x,T x->S x∨x=a∨ ∀y∈succ x,T y
 done: ∀y∈l,T y
structure Top (succ:α->List α) (V:α->Prop) (T:α->Prop) (l:List α):Prop where
 new: ∀x,T x-> ∃r∈l,V r∧pV succ r x
 next: ∀x,T x-> ∀y∈succ x,T y
 done: ∀r∈l,V r->T r
end
end Go.Re
namespace Go.Proofs.YtflegjieadkonaaGreatDoor
open Go Go.Al
structure nk (p:Prog):Prop where
 nodup:(p.aD.map Decl.name).Nodup
 len:p.aD.length<=64
 yr: ∀r∈p.rules,r.head.rel∈p.aD.map Decl.name
 lits: ∀r∈p.rules,∀l∈r.body,∀t∈named l,t∈p.aD.map Decl.name
 flat: ∀r∈p.rules,∀l∈r.body,l.kind=4-> ∀x∈l.ar,x.kind≠4
theorem DE(p:Prog): ∀n,jq p n=[]-> ∀i,i<n->dJ p i=0
 |0,_,i,h=>absurd h (aaj _)
 |n+1,h,i,hi=>by
  rw[jq]at h;obtain⟨d,b⟩:=aby.1 h;rcases ZS.1 hi with h3|h3
  .exact DE p n d i h3
  .subst h3;exact Decidable.byContradiction fun j=>by rw[be j]at b;cases b
theorem vT{d:Decl}{i k:Int}(h:s9 d i k=0): ¬i>=64∧ ¬k>0:=by
 unfold s9 at h;split at h
 .cases h
 .split at h
  .cases h
  .rename_i b;split at h
   .cases h
   .rename_i j;exact⟨fun g=>b (.inl g),j⟩
theorem x9{α:Type}[Inhabited α]: ∀(n:Nat) (l:List α),l.length=n->(∀i,i<l.length->l.getD i em∉l.take i)->l.Nodup
 |0,l,hn,_=>by rw[aaZ.1 hn];exact aab
 |n+1,l,hn,h=>by
  have hd:l=l.take n++ [l.getD n em]:=by rw[<-ba (by omega),Zh (by omega)]
  have d:=x9 n (l.take n) (by rw[ZP];omega) fun i u=>by
   rw[ZP]at u;have:=h i (by omega);rw[List.take_take,Nat.min_eq_left (by omega),Y6,Z6,am (by omega),<-Y6];exact this
  rw[hd,aa6];refine⟨d,by simp,fun a j b hb e=>?_⟩;rw[Zk]at hb;subst e;subst hb;exact h n (by omega) j
theorem DC{s:ak}: ∀(l:List Decl) (m:DM),eh .str (l.foldl iH m) s=kw->s∈m.map ZB∨s∈l.map Decl.name
 | [],m,h=> .inl (qz.1 h)
 |d::l,m,h=>by
  rw[ZD]at h;rcases DC l _ h with h1|h1
  .unfold iH at h1;split at h1
   .exact .inl h1
   .rename_i b;rw[dW (fun g=>b (qz.2 g))]at h1;rcases Zm.1 h1 with h3|h3
    .exact .inl h3
    .rw[Zk]at h3;subst h3;exact .inr Zo
  .exact .inr (Zn _ h1)
theorem Q7{p:Prog}{a:Atom}(h:lZ p a=lc):a.rel∈p.aD.map Decl.name:=by
 unfold lZ at h;rw[aaM]at h;rcases DC p.aD [] h with h1|h1
 .cases h1
 .exact h1
theorem o6{r:ah}{e:Int}(he:e≠0){f:Int->Bool}{k:aZ}(h:(bJ r e f k).1=0):(∀lit∈jd r.body.length,f lit=lc)∧k.1=0:=by
 unfold bJ at h;split at h
 .exact absurd h he
 .rename_i b;refine⟨fun lit d=>?_,h⟩;have:=aaz.1 b lit d;simpa using this
theorem Fz{p:Prog}{r:ah}{n:Int}(h:(pG p r n).1=0):(yg p r).1=0:=by
 unfold pG at h;split at h
 .cases h
 .split at h
  .cases h
  .split at h
   .cases h
   .split at h
    .cases h
    .split at h
     .cases h
     .exact h
theorem P8(n:Nat):(-1:Int)∈jd n:=ZK.2 ⟨0,by simp,by simp⟩
theorem Hi{n i:Nat}(h:i<n):(i:Int)∈jd n:=ZK.2 ⟨i+1,by simp;omega,by simp⟩
theorem I3{l:Lit}{t:ak}(hf:l.kind=4-> ∀x∈l.ar,x.kind≠4)(h:t∈named l): ∃a∈(if l.kind=4 then l.ar else[l]).flatMap b8,a.rel=t:=by
 rw[ye l hf]at h;unfold B6 at h;split at h
 .rename_i u;rw[Zk]at h;have b: ¬l.kind=4:=by omega
  refine⟨l.atom,?_,h.symm⟩;rw[be b,aa0];exact⟨l,aa1 _,by rw[b8,am u];exact aa1 _⟩
 .split at h
  .rename_i b;obtain⟨x,y,rfl⟩:=ZK.1 h;obtain⟨d,j⟩:=ZM.1 y;refine⟨x.atom,?_,rfl⟩;rw[am b,aa0];exact⟨x,d,by rw[b8,am (zT j)];exact aa1 _⟩
  .cases h
theorem Cw{p:Prog}(h:(dB p).1=0):nk p:=by
 have I:=(yL p).1 h;unfold jl at I;obtain⟨B,D⟩:=aby.1 I;have B:=DE p _ B;have D:=(xM p _).1 D;have j: ∀r∈p.rules,(yg p r).1=0:=by
  intro r u;obtain⟨i,b,rfl⟩:=aaf.1 u;have:=Fz (D i b);rwa[Y6,Za b]at this
 have y: ∀r∈p.rules,∀lit∈jd r.body.length,∀a∈bu r lit,a.rel∈p.aD.map Decl.name:=by
  intro r u lit A a F;have:=(o6 (by decide) (j r u)).1 lit A;exact Q7 (by simpa using Z3.1 this a F)
 have d: ∀r∈p.rules,∀l∈r.body,l.kind=4-> ∀x∈l.ar,x.kind≠4:=by
  intro r u l A S x hx;obtain⟨i,b,rfl⟩:=aaf.1 A;have:=(o6 (by decide) (o6 (by decide) (o6 (by decide) (j r u)).2).2).1 _ (Hi b);have e:an r (i:Int)=r.body[i]:=by unfold an;simp[Y6,b]
  unfold dF at this;rw[be (by omega),e,am S,ZG]at this;simpa using Z3.1 this.1 x hx
 refine⟨x9 _ _ Z fun i b J=>?_,?_,fun r u=>?_,fun r u l A t ht=>?_,d⟩
 .rw[ZE]at b;have:=(vT (B i b)).2;rw[bz]at this;have G:rW (dM p i) (p.aD.getD i em).name=0:=by omega
  rw[rJ]at G;apply G;unfold dM;rw[Y6,Zg,Za b,<-List.map_take]at J;rw[Y6,Za b];exact J
 .refine aba fun Y=>?_
  have:=(vT (B 64 Y)).1;omega
 .exact y r u (-1) (P8 _) r.head (by unfold bu;simp)
 .obtain⟨i,b,rfl⟩:=aaf.1 A;obtain⟨a,F,rfl⟩:=I3 (d r u _ A) ht;refine y r u _ (Hi b) a ?_;have e:an r (i:Int)=r.body[i]:=by unfold an;simp[Y6,b]
  unfold bu o8;rw[be (by omega),e];exact F
theorem nk.c5{p:Prog}(h:nk p){x:ak×ak×Nat}(d:x∈c5 p):x.1∈p.aD.map Decl.name∧x.2.1∈p.aD.map Decl.name∧0<x.2.2:=by
 simp only[_root_.Go.Proofs.YtflegjieadkonaaGreatDoor.c5,aa0,ZK]at d;obtain⟨r,b,l,j,t,u,rfl⟩:=d;refine⟨h.yr r b,h.lits r b l j t u,?_⟩;show 0<gz l;unfold gz;split<;>omega
abbrev GM:=List ((KC.str).K×Option NM)
def IP:Option NM->IV
 |none=> .v (.map jp)
 |some r=>CO r
abbrev AY(m:GM):IV:= .eI .str IP jp (.map jp) m
def JJ(row:NM)(t:ak)(b:Int):NM:=cH .str row t (max (bU .str row t 0) b)
def lO(hs:List (ak×ak×Nat))(a:ak):NM:=hs.foldl (fun row x=>if x.1=a then JJ row x.2.1 x.2.2 else row) []
def c4(p:Prog)(hs:List (ak×ak×Nat)):GM:=p.aD.map fun r=>(r.name,io (lO hs r.name))
def yw(p:Prog):IV:=if(dB p).1=0 then AY (c4 p (c5 p)) else .v (.map jp)
theorem rv(hs:List (ak×ak×Nat))(x:ak×ak×Nat)(a:ak):lO (hs++ [x]) a=if x.1=a then JJ (lO hs a) x.2.1 x.2.2 else lO hs a:=by
 simp[lO,aaE]
theorem Ai(hs:List (ak×ak×Nat))(a:ak):((lO hs a).map ZB).Nodup∧ ∀b:ak,b∈(lO hs a).map ZB↔ ∃k,(a,b,k)∈hs:=by
 induction hs using tY with
 |h0=>exact⟨aab,fun b=>by simp[lO]⟩
 |h1 hs x ih=>
  obtain⟨A,d⟩:=ih;obtain⟨y,z,k⟩:=x;rw[rv];by_cases h:y=a
  .rw[am h,JJ];by_cases B:z∈(lO hs a).map ZB
   .rw[pd B];refine⟨A,fun b=>?_⟩;rw[d];constructor
    .rintro⟨j,hj⟩;exact⟨j,ZJ _ hj⟩
    .rintro⟨j,hj⟩;rcases Zm.1 hj with hj|hj
     .exact⟨j,hj⟩
     .rw[Zk]at hj;cases hj;exact(d z).1 B
   .rw[dW B];refine⟨aa6.2 ⟨A,by simp,fun u hu v D e=>?_⟩,fun b=>?_⟩
    .rw[Zk]at D;subst e;subst D;exact B hu
    .rw[Zm,d,Zk];constructor
     .rintro(⟨j,hj⟩|rfl)
      .exact⟨j,ZJ _ hj⟩
      .exact⟨k,aaA _ (by rw[h];exact aa1 _)⟩
     .rintro⟨j,hj⟩;rcases Zm.1 hj with hj|hj
      .exact .inl ⟨j,hj⟩
      .rw[Zk]at hj;cases hj;exact .inr Z
  .rw[be h];refine⟨A,fun b=>?_⟩;rw[d];constructor
   .rintro⟨j,hj⟩;exact⟨j,ZJ _ hj⟩
   .rintro⟨j,hj⟩;rcases Zm.1 hj with hj|hj
    .exact⟨j,hj⟩
    .rw[Zk]at hj;cases hj;exact absurd Z h
theorem KH(hs:List (ak×ak×Nat))(a:ak):(lO hs a).length<=hs.length:=by
 induction hs using tY with
 |h0=>exact Zc _
 |h1 hs x ih=>
  rw[rv,Y8,ZH];split
  .have:=xV (lO hs a) x.2.1 (max (bU .str (lO hs a) x.2.1 0) x.2.2);unfold JJ;omega
  .omega
def bI(p:Prog)(a:ak):List ak:=(ns p).filter (eg p a)
theorem De{p:Prog}(h:nk p)(a:ak):eQ ((lO (c5 p) a).map ZB)=bI p a:=by
 refine mv (fS (Ai _ _).1) (List.Pairwise.filter _ (fS h.nodup)) fun b=>?_;rw[gu,(Ai _ _).2,bI,ZM,ns,gu,eg,decide_eq_true_eq];constructor
 .rintro⟨k,hk⟩;have d:=h.c5 hk;refine⟨d.2.1,?_⟩;have:=WI hk;have h2:0<k:=d.2.2;omega
 .rintro⟨_,d⟩;rcases SO (c5 p) a b with h2|h2
  .exact absurd h2 d
  .exact⟨_,h2⟩
theorem LN(p:Prog)(hs:List (ak×ak×Nat)){a:ak}(h:a∈p.aD.map Decl.name):bU .str (c4 p hs) a jp=io (lO hs a):=by
 unfold c4
 revert h
 generalize p.aD=l
 induction l with
 |nil=>intro h;cases h
 |cons d l ih=>
  intro h;simp only[Zr,bU];by_cases e:d.name=a
  .rw[am e,e]
  .rw[be e];rw[Zr,Zq]at h;exact ih (h.resolve_left fun g=>e g.symm)
theorem F7(p:Prog)(hs:List (ak×ak×Nat)):(c4 p hs).map ZB=p.aD.map Decl.name:=by
 simp[c4]
theorem v7{b:List Lit}{i:Nat}(h:i<b.length):jv (b.take (i+1))=jv (b.take i)++named (b.getD i em):=by
 rw[qp,qp,ba h,abf];simp
mutual
theorem kD: ∀l:Lit,(named l).length<=l.size
 | .mk k a op le ri af av ao b at_=>by
  have:=th b;unfold named Lit.size;split
  .simp;omega
  .split
   .omega
   .simp
theorem th: ∀l:List Lit,(jv l).length<=Lit.az l
 | []=>Zc _
 |l::r=>by
  have b:=kD l;have d:=th r;simp only[jv,Lit.az,Y8];omega
end
theorem I2(b:List Lit)(i:Nat):(jv (b.take i)).length<=Lit.az b:=by
 have d:=th (b.take i);have j: ∀(b:List Lit) (i:Nat),Lit.az (b.take i)<=Lit.az b:=by
  intro b
  induction b with
  |nil=>intro i;simp[Lit.az]
  |cons x r ih=>
   intro i;cases i with
   |zero=>simp[Lit.az]
   |succ i=>have:=ih i;simp only[aau,Lit.az];omega
 exact Z1 d (j b i)
def Ve(n:Nat):Prop:= ∀l:Lit,l.size<=n->Pure Tryz.prog 90 [ag l.c] (.iv (strs (named l)))
theorem qq(l:Lit):named l=if l.kind=1∨l.kind=2 then[l.atom.rel] else if l.kind=4 then jv l.ar else[]:=by cases l;rfl
theorem KD: ∀n:Nat,n<=100000000000->Ve n
 |0,_=>fun l h=>absurd l.size_pos (by omega)
 |n+1,hn=>fun l h=>by
  have B:=l.size_eq;refine Al.Pure.le (aa:=[ag l.c]) (args:=[ag l.c1]) ?_ ⟨l.xd,ac⟩;refine ae ab Tryz.func90 Z (by decide) Tryz.ntmps90 Z (by simp) Z ?_;refine zJ Z Z (fun k1=>?_) fun k1=>?_
  .have k1:l.kind=1:=by simpa using k1
   rw[qq,am (.inl k1)];refine gA Z (cS (by first|exact .inr Z|exact .inl Z) Z Z (rfl) (rfl))
  have k1: ¬l.kind=1:=by simpa using k1
  refine zJ Z Z (fun d=>?_) fun d=>?_
  .have d:l.kind=2:=by simpa using d
   rw[qq,am (.inr d)];refine gA Z (cS (by first|exact .inr Z|exact .inl Z) Z Z (rfl) (rfl))
  have d: ¬l.kind=2:=by simpa using d
  rw[qq,be (by rintro(g|g);exact k1 g;exact d g)];refine zE Z Z (fun j=>?_) fun j=>?_
  .have j: ¬l.kind=4:=by simpa using j
   rw[be j];refine gA Z (zL ?_);exact .nil _ _
  have j:l.kind=4:=by simpa using j
  rw[am j];refine gA Z ?_;refine fY 3 1 Z ?_;refine aw 0 l.ar.length (Zf _) (fun i=>⟨[(3,.sl 2 0 (jv (l.ar.take i)).length 1),(19,.iv (lits l.ar)),(20,pI l.ar.length),(21,pI i)],[(2,io (aE 1 (jv (l.ar.take i)) cz))],3⟩) (fun _=>True) [1] ac
   (zW (zS trivial)) fun i D _=>?_
  have x:=I2 l.ar i;have u:=Lit.au l.ar;refine zJ Z Z (fun b=>?_) fun b=>?_
  .have b:=ci b;have y:=Lit.aF l.ar i b;have A:=kD (l.ar.getD i em);refine gA Z (zp (KD n (by omega) (l.ar.getD i em) (by omega)) ?_);refine gA Z ⟨b,ac,[4],zM ⟨.row (by rw[v7 b,Y8]),rfl,bv (bv (bv ac))⟩ (hR Z (by rw[lL,v7 b,Ze]) Z ac)⟩
  .have b:=co b;rw[Zh b];refine gA Z (cS (by first|exact .inr Z|exact .inl Z) Z Z (rfl) (rfl))
theorem GY(l:Lit)(h:l.size<=100000000000):Pure Tryz.prog 90 [ag l.c] (.iv (strs (named l))):=KD l.size h l (Zc _)
end Go.Proofs.YtflegjieadkonaaGreatDoor
namespace Go.Proofs.YtflegjieadkonaaGreatDoor
open Go Go.Al Go.Proofs.Tryz
section
theorem Su(x:kz)(el:Nat->List IV):Pure prog 91 [.iv (.de 1 0 el)] (.bQ []):=by
 refine⟨bF func91 Z (by decide),fun M N w u y d A=>?_⟩;obtain⟨v,rfl⟩: ∃v,u=[v]:=by
  cases u with
  |nil=>cases d
  |cons v r=>cases r with
   |nil=>exact⟨v,rfl⟩
   |cons a b=>simp at d
 have j:=A 0 _ Z;simp only[List.getD_cons_zero]at j;obtain⟨a,a0,rfl⟩: ∃a a0,v= .slice a 0 a0:=by
  cases j with
  |iv _ _ h=>cases h with
   |j8 _ _ a a0=>exact⟨a,a0,rfl⟩
   |de _ _ _ b off a0=>exact⟨_,a0,rfl⟩
 refine(x.2 a a0 w).mono ?_;rintro e B ⟨rfl,rfl⟩;exact⟨_,M,N,.bQ [],_,_,rfl,⟨rfl,rfl,rfl⟩,.refl _ _ _ _ _,y,.bQ [] #[] Z (by simp)⟩
section
variable {V:Type}
def Hq(m:List ((KC.str).K×V))(vs:List Nat):List ak:=jw (m.map fun x=>(x.1,0)) vs
theorem Ei(m:List ((KC.str).K×V))(vs:List Nat)(j:Nat)(x:(KC.str).K×V)(h:m[j]? =io x):Hq m (j::vs)=Hq m vs++ [x.1]:=
 nC _ _ _ (x.1,0) (by rw[Zg,h];rfl)
theorem Hp(m:List ((KC.str).K×V))(vs:List Nat)(hn:vs.Nodup)(hb: ∀j∈vs,j<m.length)(b: ∀j,j<m.length->j∈vs):(Hq m vs).Perm (m.map (·.1)):=by
 have:=mI (m.map fun x=>(x.1,(0:Int))) vs hn (by simpa using hb) (by simpa using b);rw[aa4]at this;exact this
theorem Ho(m:List ((KC.str).K×V))(vs:List Nat):(Hq m vs).length<=vs.length:=yl _ _
end
def IM(i:Nat):List ak->PV
 | []=> .sl i 1 0 1
 |x::r=> .sl i 0 (x::r).length 1
def zr(n:Nat):List ak->AO
 | []=> .row 1 (aa5 n [pS Zd])
 |x::r=>aE 1 (x::r) cz
theorem Au(i:Nat)(l:List ak)(s:ak):IM i (l++ [s])= .sl i 0 (l.length+1) 1:=by cases l<;>simp[IM]
theorem Av(n:Nat)(l:List ak)(s:ak):zr n (l++ [s])=aE 1 (l++ [s]) cz:=by cases l<;>rfl
theorem DP{i:Nat}{l:List ak}(h:l≠ []):IM i l= .sl i 0 l.length 1:=by cases l with
 |nil=>exact absurd Z h
 |cons=>rfl
theorem DQ{n:Nat}{l:List ak}(h:l≠ []):zr n l=aE 1 l cz:=by cases l with
 |nil=>exact absurd Z h
 |cons=>rfl
theorem KY(n:Nat)(l:List ak)(k:Nat):(zr n l).low k:=by
 cases l with
 |nil=>
  intro j e b;rw[abe]at b;split at b
  .cases b;rfl
  .cases b
 |cons x r=>exact cM k
theorem KX(n:Nat)(l:List ak)(σ:Nat->Nat):(zr n l).dc σ=zr n l:=by
 cases l with
 |nil=>simp only[zr,AO.dc];rw[List.map_replicate];rfl
 |cons x r=>exact bG σ
theorem hO{h r:AH}{σ:Nat->Nat}{i n m:Nat}{o:AO}{l:List ak}(ho:h.get (σ i)=io o)(he:o=zr m l)(hi:Zs i n=kw)(hr:n7 n σ h r):n7 n σ h ((i,io (zr m l))::r):=
 ⟨⟨_,ho,.of_eq (by rw[KX,he])⟩,Y5 hi,KY m l n,hr⟩
theorem uj(i:Nat)(l:List ak){n:Nat}(h:Zs i n=kw):(IM i l).low n=kw:=by cases l<;>exact h
theorem Ky(Y:kz)(m:NM)(hm:m.length<=100000000):Pure prog 52 [.iv (CO m)] (.iv (strs (eQ (m.map (·.1))))):=by
 refine ae ab func52 Z (by decide) ntmps52 Z (by simp) Z ?_;rcases Nat.eq_zero_or_pos m.length with h0|h0
 .have h0:=aaZ.1 h0;subst h0;refine gA Z (F9 ab 1 (fun k=>cz (([]:List ak).getD k em)) Z Z Z Z Z Z Z Z Z Z ?_);refine gA Z ?_;refine jy ([]:List ((KC.str).K×Int)) (fun _=>⟨[(3,.iv (.de 1 0 (fun k=>cz (([]:List ak).getD k em)))),(9,.ptr 1 0)],[(1,io (.cF .str A8 ([]:List ((KC.str).K×Int)) [] jp))],2⟩) (fun _=>True) [] ac
   (zW (hI Z Z (.inl Z) Z trivial)) fun b _=>?_
  refine nV Z ac (fZ Z Z Z Z Z (by decide) (fun _=>?_) fun j x B _=>?_)
  .refine gA Z (bg (Su Y _) Z Z Z Z Z Z ?_);refine gA Z (zL ?_);exact .of_eq (show _=PV.iv (strs (eQ [])) by rw[rq];rfl)
  .cases B
 refine gA Z (Eu ab m.length 0 Z Z Z Z Z Z Z Z Z h0 (by omega) (by show 16*m.length<=_;omega) Z (by decide) Z (.inl ⟨rfl,rfl⟩) Z ?_);refine gA Z ?_;refine jy m (fun b=>⟨[(3,IM 2 (Hq m b)),(9,.ptr 1 0)],[(1,io (.cF .str A8 m b jp)),(2,io (zr m.length (Hq m b)))],3⟩) (fun b=>b.Nodup∧ ∀j∈b,j<m.length) [0] ⟨aab,by simp⟩
  (zW (hI Z Z (.inl Z) Z (hO Z Z Z trivial))) fun b hJ=>?_
 obtain⟨u,y⟩:=hJ;have S:=yb u y;have F:=Ho m b;refine nV Z ac (fZ Z Z Z Z Z (by decide) (fun D=>?_) fun j x B I=>?_)
 .have J:=Hp m b u y D;have G:Hq m b≠ []:=fun e=>by
   have:=J.length_eq;rw[e,ZE]at this;simp at this;omega
  rw[DP G,DQ G];refine nV Z ac (bM [2] (MK Y (Hq m b) (by omega)) Z Z Z Z Z (congrArg (fun o=> [io o]) (bG _).symm) Z Z ?_);refine nV Z ac (cS (.inr Z) Z Z ((xN _ _).trans (by rw[sT J])) ?_);rw[jH,<-J.length_eq]
 .have A:=Ei m b j x B;have a0: ∀d,d=j::b->d.Nodup∧ ∀i∈d,i<m.length:=fun d e=>e▸⟨aat.2 ⟨I,u⟩,fun i hi=>(Zq.1 hi).elim (fun h=>h▸(Zb.1 B).1) (y i)⟩
  cases hl:Hq m b with
  |nil=>
   rw[hl,aaN]at A;refine gA Z (Cs ab Z Z Z Z Z Z Z Z Z (by simp;omega) (by simp) (mY Z) Z ?_);refine gA Z ?_;exact⟨j,x,B,I,a0 _ Z,[4],zM ⟨.of_eq (by rw[A];rfl),uj 2 _ Z,.refl _,rfl,ac⟩ (hI Z Z (.inr Z) Z (hO Z (by rw[A];rfl) Z ac))⟩
  |cons a r=>
   rw[hl]at A F;have b0:(r.length+1)<=m.length:=by simpa using Z1 F S
   refine gA Z ⟨j,x,B,I,a0 _ Z,[4],zM ⟨.of_eq (by rw[A,Au];rfl),uj 2 _ Z,.refl _,rfl,ac⟩ (hI Z Z (.inr Z) Z (hO Z (by rw[A,Av,aE,Ze];rfl) Z ac))⟩
theorem Kz(Y:kz)(m:GM)(hm:m.length<=100000000):Pure prog 51 [.iv (AY m)] (.iv (strs (eQ (m.map (·.1))))):=by
 refine ae ab func51 Z (by decide) ntmps51 Z (by simp) Z ?_;rcases Nat.eq_zero_or_pos m.length with h0|h0
 .have h0:=aaZ.1 h0;subst h0;refine gA Z (F9 ab 1 (fun k=>cz (([]:List ak).getD k em)) Z Z Z Z Z Z Z Z Z Z ?_);refine gA Z ?_;refine jy ([]:List ((KC.str).K×Option NM)) (fun _=>⟨[(3,.iv (.de 1 0 (fun k=>cz (([]:List ak).getD k em)))),(9,.ptr 1 0)],[(1,io (.cF .str IP ([]:List ((KC.str).K×Option NM)) [] jp))],2⟩) (fun _=>True) [] ac
   (zW (hI Z Z (.inl Z) Z trivial)) fun b _=>?_
  refine nV Z ac (fZ Z Z Z Z Z (by decide) (fun _=>?_) fun j x B _=>?_)
  .refine gA Z (bg (Su Y _) Z Z Z Z Z Z ?_);refine gA Z (zL ?_);exact .of_eq (show _=PV.iv (strs (eQ [])) by rw[rq];rfl)
  .cases B
 refine gA Z (Eu ab m.length 0 Z Z Z Z Z Z Z Z Z h0 (by omega) (by show 16*m.length<=_;omega) Z (by decide) Z (.inl ⟨rfl,rfl⟩) Z ?_);refine gA Z ?_;refine jy m (fun b=>⟨[(3,IM 2 (Hq m b)),(9,.ptr 1 0)],[(1,io (.cF .str IP m b jp)),(2,io (zr m.length (Hq m b)))],3⟩) (fun b=>b.Nodup∧ ∀j∈b,j<m.length) [0] ⟨aab,by simp⟩
  (zW (hI Z Z (.inl Z) Z (hO Z Z Z trivial))) fun b hJ=>?_
 obtain⟨u,y⟩:=hJ;have S:=yb u y;have F:=Ho m b;refine nV Z ac (fZ Z Z Z Z Z (by decide) (fun D=>?_) fun j x B I=>?_)
 .have J:=Hp m b u y D;have G:Hq m b≠ []:=fun e=>by
   have:=J.length_eq;rw[e,ZE]at this;simp at this;omega
  rw[DP G,DQ G];refine nV Z ac (bM [2] (MK Y (Hq m b) (by omega)) Z Z Z Z Z (congrArg (fun o=> [io o]) (bG _).symm) Z Z ?_);refine nV Z ac (cS (.inr Z) Z Z ((xN _ _).trans (by rw[sT J])) ?_);rw[jH,<-J.length_eq]
 .have A:=Ei m b j x B;have a0: ∀d,d=j::b->d.Nodup∧ ∀i∈d,i<m.length:=fun d e=>e▸⟨aat.2 ⟨I,u⟩,fun i hi=>(Zq.1 hi).elim (fun h=>h▸(Zb.1 B).1) (y i)⟩
  cases hl:Hq m b with
  |nil=>
   rw[hl,aaN]at A;refine gA Z (Cs ab Z Z Z Z Z Z Z Z Z (by simp;omega) (by simp) (mY Z) Z ?_);refine gA Z ?_;exact⟨j,x,B,I,a0 _ Z,[4],zM ⟨.of_eq (by rw[A];rfl),uj 2 _ Z,.refl _,rfl,ac⟩ (hI Z Z (.inr Z) Z (hO Z (by rw[A];rfl) Z ac))⟩
  |cons a r=>
   rw[hl]at A F;have b0:(r.length+1)<=m.length:=by simpa using Z1 F S
   refine gA Z ⟨j,x,B,I,a0 _ Z,[4],zM ⟨.of_eq (by rw[A,Au];rfl),uj 2 _ Z,.refl _,rfl,ac⟩ (hI Z Z (.inr Z) Z (hO Z (by rw[A,Av,aE,Ze];rfl) Z ac))⟩
end
end Go.Proofs.YtflegjieadkonaaGreatDoor
namespace Go.Proofs.YtflegjieadkonaaGreatDoor
open Go Go.Al
def XH(b:Option Nat):IV:= .v (.map b)
def dvR(p:PV):Option Nat:=match p with
 | .iv (.v (.map b))=>b
 |_=>jp
abbrev RM:=List ((KC.str).K×Option Nat)
abbrev gO(m:RM):AO:= .map .str XH jp (.map jp) dvR m
abbrev CS:=Nat×Nat
def mz(l:List Decl)(B:List CS):RM:=ace (fun d b=>(d.name,io b.1)) l B
def fc(L:List (Nat×Nat×NM)):bf:=fun b=>(L.find? fun y=>y.1==b).map fun y=> .obj (cx y.2.2) y.2.1
theorem jY(L:List (Nat×Nat×NM)):(fc L).still:=by
 intro b i e h;unfold fc at h;cases hf:L.find? fun y=>y.1==b<;>rw[hf]at h<;>cases h
def rowsOf(l:List Decl)(B:List CS)(hs:List (ak×ak×Nat)):List (Nat×Nat×NM):=ace (fun d b=>(b.1,b.2,lO hs d.name)) l B
theorem I4{V:Type}{kc:KC}{ev:V->IV}{z:V}{b:Value}{d:PV->V}(x: ∀M,IR M (ev z) b):fb .gP (.map kc ev z b d []):=
 ⟨id,fun M N U w j u=>⟨#[],0,u,⟨rfl,by simp,by simp,by simp,by simp⟩,x M⟩⟩
structure BOK (l:List Decl) (i:Nat) (B:List CS):Prop where
 len:B.length=i
 nd:(B.map ZB).Nodup
theorem DH(l:List Decl):mz l []=[]:=by cases l<;>rfl
theorem xO(l:List Decl)(hs:List (ak×ak×Nat)):rowsOf l [] hs=[]:=by cases l<;>rfl
theorem Fw(l:List Decl)(hs:List (ak×ak×Nat)):fc (rowsOf l [] hs)=bf.nil:=by rw[xO];rfl
theorem xp{α β γ:Type}[Inhabited α](f:α->β->γ): ∀(l:List α) (B:List β) (x:β),B.length<l.length->ace f l (B++ [x])=ace f l B++ [f (l.getD B.length em) x]
 |a::l,[],x,_=>by simp
 |a::l,b::B,x,h=>by
  have:=xp f l B x (by simpa using h);simp[this]
 | [],B,x,h=>absurd h (aaj _)
theorem P0{B:List CS}{b e:Nat}(h:(B.map ZB).Nodup)(hb:b∉B.map ZB):((B++ [(b,e)]).map ZB).Nodup:=by
 rw[Ze,aa6];exact⟨h,by simp,fun u hu v d g=>hb (by simp at d;subst g;subst d;exact hu)⟩
theorem p9(hs:List (ak×ak×Nat)): ∀(l:List Decl) (B:List CS),B.length<=l.length->(rowsOf l B hs).map ZB=B.map ZB
 |_,[],_=>by simp[xO]
 |d::l,b::B,h=>by
  have:=p9 hs l B (by simpa using h);simp only[rowsOf,acf,Zr]at this ⊢;rw[this]
 | [],b::B,h=>absurd h (by simp)
theorem Iy{l:List Decl}{B:List CS}{hs:List (ak×ak×Nat)}{b:Nat}(d:B.length<=l.length)(h:fc (rowsOf l B hs) b=jp):b∉B.map ZB:=by
 rw[<-p9 hs l B d];intro j;obtain⟨y,u,rfl⟩:=ZK.1 j;unfold fc at h;rw[abh,aaz]at h;exact h y u (by simp)
theorem Dq(L:List (Nat×Nat×NM))(y:Nat×Nat×NM)(h:y.1∉L.map ZB):fc (L++ [y])=(fc L).put y.1 (.obj (cx y.2.2) y.2.1):=by
 funext c
 unfold fc bf.put;rw[abU];by_cases b:c=y.1
 .subst b;rw[am Z];have:L.find? (fun z=>z.1==y.1)=jp:=aaz.2 fun z d=>by
   simp only[beq_iff_eq];exact fun e=>h (e▸abt d)
  rw[this];simp
 .rw[be b];have: ¬y.1=c:=fun e=>b e.symm;cases hf:L.find? (fun z=>z.1==c)<;>simp[this,hf]
theorem Ix{l:List Decl}{B:List CS}{b e:Nat}(d:B.length<l.length)(hb:b∉B.map ZB):fc (rowsOf l (B++ [(b,e)]) [])=(fc (rowsOf l B [])).put b (.obj (cx []) e):=by
 have h:rowsOf l (B++ [(b,e)]) []=rowsOf l B []++ [(b,e,[])]:=xp _ l B (b,e) d;rw[h];exact Dq _ _ (by rw[p9 _ _ _ (Nat.le_of_lt d)];exact hb)
theorem DG: ∀(l:List Decl) (B:List CS),B.length<=l.length->(mz l B).map ZB=(l.take B.length).map Decl.name
 |_,[],_=>by simp[DH]
 |d::l,b::B,h=>by
  have:=DG l B (by simpa using h);simp only[mz,acf,Zr,ZI,aau]at this ⊢;rw[this]
 | [],b::B,h=>absurd h (by simp)
theorem PK{V:Type}{m:List ((KC.str).K×V)}{s:ak}{v:V}(h:s∉m.map ZB):cH .str m s v=m++ [(s,v)]:=by
 induction m with
 |nil=>rfl
 |cons x r ih=>
  obtain⟨a,c⟩:=x;simp only[Zr,Zq,not_or]at h;have: ¬a=s:=fun e=>h.1 e.symm;simp only[cH,be this,ih h.2];rfl
theorem KR{l:List Decl}{B:List CS}{i b e:Nat}(hn:(l.map Decl.name).Nodup)(hi:B.length=i)(d:i<l.length):cH .str (mz l B) (l.getD i em).name (io b)=mz l (B++ [(b,e)]):=by
 subst hi;have h:mz l (B++ [(b,e)])=mz l B++ [((l.getD B.length em).name,io b)]:=xp _ l B (b,e) d;rw[h];apply PK;rw[DG l B (Nat.le_of_lt d)];intro u;have j:l.map Decl.name=(l.take B.length).map Decl.name++(l.drop B.length).map Decl.name:=by rw[<-Ze,abm]
 rw[j,aa6]at hn;refine hn.2.2 _ u _ (ZK.2 ⟨l.getD B.length em,?_,rfl⟩) Z;rw[Y6,Za d];exact List.mem_drop_iff_getElem.2 ⟨0,by simpa using d,by simp⟩
def mN(r:ah)(l:Lit):List (ak×ak×Nat):=(named l).map fun t=>(r.head.rel,t,gz l)
def ux(r:ah):List (ak×ak×Nat):=r.body.flatMap (mN r)
theorem HM: ∀{L:List (Nat×Nat×NM)} {j:Nat} {y:Nat×Nat×NM},(L.map ZB).Nodup->L[j]? =io y->L.find? (fun z=>z.1==y.1)=io y
 | [],_,_,_,h=>by simp at h
 |x::L,0,y,_,h=>by
  simp only[abS,Y9]at h;subst h;simp
 |x::L,j+1,y,hn,h=>by
  rw[abd]at h;rw[Zr,aat]at hn;have b: ¬x.1=y.1:=fun e=>hn.1 (e▸abt (ZC h));rw[acg (by simpa using b)];exact HM hn.2 h
theorem ua{l:List Decl}{B:List CS}{hs:List (ak×ak×Nat)}{j:Nat}{d:Decl}{b:CS}(x:B.length=l.length)(hn:(B.map ZB).Nodup)(hd:l[j]? =io d)(hb:B[j]? =io b):fc (rowsOf l B hs) b.1=io (.obj (cx (lO hs d.name)) b.2):=by
 have h:(rowsOf l B hs)[j]? =io (b.1,b.2,lO hs d.name):=by
  unfold rowsOf;rw[acj,hd,hb]
 have u:=HM (by rw[p9 hs l B (acu x)];exact hn) h;unfold fc;rw[u];rfl
theorem Dp{l:List Decl}{B:List CS}{hs:List (ak×ak×Nat)}{c:Nat}(b:B.length<=l.length)(h:c∉B.map ZB):fc (rowsOf l B hs) c=jp:=by
 rw[<-p9 hs l B b]at h;unfold fc;rw[abh,aaz];intro y d;simp only[beq_iff_eq];exact fun e=>h (e▸abt d)
theorem Iw{l:List Decl}{B:List CS}{hs:List (ak×ak×Nat)}{j h:Nat}{d:Decl}{b:CS}{t:ak}(x:B.length=l.length)(hn:(B.map ZB).Nodup)(S:(l.map Decl.name).Nodup)(hd:l[j]? =io d)(hb:B[j]? =io b):
  (fc (rowsOf l B hs)).put b.1 (.obj (cx (JJ (lO hs d.name) t h)) b.2)=fc (rowsOf l B (hs++ [(d.name,t,h)])):=by
 funext c
 unfold bf.put;by_cases A:c=b.1
 .subst A;rw[am Z,ua x hn hd hb,rv,am Z]
 .rw[be A];by_cases J:c∈B.map ZB
  .obtain⟨b',y,rfl⟩:=ZK.1 J;obtain⟨i,D,rfl⟩:=aaf.1 y;have u:i<l.length:=by omega
   have F:i≠j:=fun e=>A (by subst e;rw[Za D]at hb;cases hb;rfl);rw[ua x hn (Za u) (Za D),ua x hn (Za u) (Za D),rv,be];intro e;have Y:=(Zb.1 hd)
   obtain⟨G,I⟩:=Y;apply F;refine(abH S (h₀:=by simpa using u) (h₁:=by simpa using G)).1 ?_;rw[abW,abW,I];exact e.symm
  .rw[Dp (acu x) J,Dp (acu x) J]
theorem Ud{l:List Decl}{B:List CS}{a:ak}(x:B.length=l.length)(u:(l.map Decl.name).Nodup)(ha:a∈l.map Decl.name): ∃(j:Nat) (d:Decl) (b:CS),l[j]? =io d∧B[j]? =io b∧d.name=a∧bU .str (mz l B) a jp=io b.1:=by
 induction l generalizing B with
 |nil=>cases ha
 |cons d l ih=>
  cases B with
  |nil=>cases x
  |cons b B=>
   by_cases h:d.name=a
   .exact⟨0,d,b,rfl,rfl,h,by simp[mz,bU,h]⟩
   .rw[Zr,aat]at u;rw[Zr,Zq]at ha;obtain⟨j,A,y,D,F,G,I⟩:=ih (by simpa using x) u.2 (ha.resolve_left fun e=>h e.symm);exact⟨j+1,A,y,D,F,G,by simpa[mz,bU,h]using I⟩
def dvG(_:PV):Option NM:=jp
theorem JW{p:Prog}{B:List CS}(u:B.length=p.aD.length)(hn:(B.map ZB).Nodup){hs:List (ak×ak×Nat)}:Np (fc (rowsOf p.aD B hs)) (gO (mz p.aD B)) (.map .str IP jp (.map jp) dvG (c4 p hs)):=by
 refine .map _ _ _ _ _ _ _ _ _ _ (by simp[c4,mz,u]) (fun j D x=>?_) fun M=> .v _
 obtain⟨d,hd,rfl⟩: ∃d,p.aD[j]? =io d∧D=(d.name,io (lO hs d.name)):=by
  unfold c4 at x;rw[Zg,Zi]at x;obtain⟨d,y,A⟩:=x;exact⟨d,y,A.symm⟩
 have b:j<B.length:=by rw[u];exact(Zb.1 hd).1
 refine⟨(d.name,io B[j].1),.map (io B[j].1),?_,rfl,rfl,?_⟩
 .unfold mz;rw[acj,hd,Za b]
 .refine .map B[j].1 B[j].2 .str A8 0 (.int .i64 0) Xw (lO hs d.name) ?_;exact ua u hn hd (Za b)
theorem Sx(hS:kz)(p:Prog)(hb:p.fit):Pure Tryz.prog 50 [ag p.c] (.bQ [.iv (yw p),pB (li ((dB p).1=0))]):=by
 refine ae ab Tryz.func50 Z (by decide) Tryz.ntmps50 Z (by simp) Z ?_;refine gA Z (zp (c24 p hb) ?_);refine zJ Z Z (fun k1=>?_) fun k1=>?_
 .have k1: ¬(dB p).1=0:=by simpa using k1
  rw[yw,be k1,decide_eq_false k1];exact zU Z
 have k1:(dB p).1=0:=by simpa using k1
 have hf:=Cw k1;have v0:=hf.len;rw[yw,am k1,decide_eq_true k1];refine gM 1 Z ?_;refine Hx ?_;refine aJ (bZ ?_);refine gA Z ?_;refine aJ (aJ (fX ⟨[(1,.ptr 0 0),(4,.mp 2),(20,.iv (cZ 4 p.aD Decl.c)),(21,pI p.aD.length),(22,pI 0)],[(0,io (aj p.c)),(2,io (gO []))],3⟩ ?_ ?_))
 .refine gA Z (fN [1] ?_);exact zW (zK (Jf Z (fun _=> .v _) Z ac))
 refine bR (ke 0 p.aD.length (Zf _) (fun i (x:ULift.{1} (List CS))=>⟨[(1,.ptr 0 0),(4,.mp 2),(20,.iv (cZ 4 p.aD Decl.c)),(21,pI p.aD.length),(22,pI i)],[(0,io (aj p.c)),(2,io (gO (mz p.aD x.down)))],3⟩)
  (fun i x Y=>BOK p.aD i x.down∧Y=fc (rowsOf p.aD x.down [])) ⟨[]⟩ [] ⟨⟨rfl,aab⟩,(Fw p.aD []).symm⟩
  (zW (zK (hM Z (DH p.aD).symm Z ac))) (fun _ _ _ h=>h.2▸jY _) fun i x Y hi hJ=>?_)
 obtain⟨hB,rfl⟩:=hJ;obtain⟨B⟩:=x;refine aJ (bZ ?_);refine gA Z ?_;refine aJ (dD Z (fun u=>dQ ?_) (fun u=>gJ ?_))
 .have u:=ci u;refine aJ (bR (aJ (bZ ?_)));refine gA Z ?_;refine iL (bC 4 ?_);refine gA Z ?_;refine eJ (xB (i:=4) (o':=cx []) Z (I4 iu)) fun t Y F=>?_;obtain⟨rfl,rfl⟩:=F;refine eJ (Ip (i:=4) (d:=29) (jY _) Z Z ac Z) fun t Y F=>?_;obtain⟨b,e,o0,rfl,rfl⟩:=F;refine bC 1 ?_;refine gA Z ?_;refine fg (jx (bZ ?_));refine gA Z ?_;have a0:=Iy (by rw[hB.len];exact hi) o0;exact⟨u,⟨B++ [(b,e)]⟩,[],⟨⟨by rw[Y8,hB.len];rfl,P0 hB.nd a0⟩,(Ix (by rw[hB.len];exact u) a0).symm⟩,zW (zK (hM Z (KR hf.nodup hB.len u) Z ac))⟩
 have u:=co u;have J:B.length=p.aD.length:=by have:B.length=i:=hB.len;omega
 have c0:=hB.nd;clear hB;have x0:p.rules.length<=1000000000:=hb.2.1
 let G:Nat->List (ak×ak×Nat):=fun r=>(p.rules.take r).flatMap ux
 change GX _ _ [.code _] _ _ _;refine aJ (aJ (fX ⟨[(1,.ptr 0 0),(4,.mp 2),(32,.iv (cZ 5 p.rules ah.c)),(33,pI p.rules.length),(34,pI 0)],[(0,io (aj p.c)),(2,io (gO (mz p.aD B)))],3⟩ ?_ ?_))
 .refine gA Z (fN [] ?_);exact zW (zK (zC ac))
 refine bR (ke 0 p.rules.length (Zf _) (fun i (_:PUnit.{2})=>⟨[(1,.ptr 0 0),(4,.mp 2),(32,.iv (cZ 5 p.rules ah.c)),(33,pI p.rules.length),(34,pI i)],[(0,io (aj p.c)),(2,io (gO (mz p.aD B)))],3⟩)
  (fun i _ Y=>Y=fc (rowsOf p.aD B (G i))) ⟨⟩ [] Z (zW (zK (zC ac))) (fun _ _ _ h=>h▸jY _) fun n _ Y hn hJ=>?_)
 subst hJ;refine aJ (bZ ?_);refine gA Z ?_;refine aJ (dD Z (fun u=>dQ ?_) (fun u=>gJ ?_));rotate_left
 .have u:=co u;have k0:G n=c5 p:=by show((p.rules.take n).flatMap ux)=_;rw[Zh u];rfl
  rw[k0];change GX _ _ [.code _] _ _ _;refine Eo (BC (i:=2) (o':= .map .str IP jp (.map jp) dvG (c4 p (c5 p))) Z (JW J c0)) fun t Y F=>?_;obtain⟨rfl,rfl⟩:=F;refine bZ ?_;refine gA Z (kh (.inr Z) Z (jC.map 2 Z (.done (.refl _))))
 have u:=ci u;have hR:p.rules.getD n em∈p.rules:=cv u;have f0:G (n+1)=G n++ux (p.rules.getD n em):=by show((p.rules.take (n+1)).flatMap ux)=_;rw[ba u,abf];simp;rfl
 have b0:=hb.2.2 _ hR;have D:=b0.1;have y:=hf.yr _ hR;have A:=hf.lits _ hR;generalize m0:p.rules.getD n em=R at hR f0 b0 D y A;refine aJ (bR (aJ (bZ ?_)));refine gA Z ?_;refine aJ (fX ⟨[(1,.ptr 0 0),(4,.mp 2),(8,.ptr 3 0),(32,.iv (cZ 5 p.rules ah.c)),(33,pI p.rules.length),(34,pI n),(39,.iv (lits R.body)),(40,pI R.body.length),(41,pI 0)],[(0,io (aj p.c)),(2,io (gO (mz p.aD B))),(3,io (aj R.c))],4⟩ ?_ ?_)
 .refine gA Z (fN [] ?_);subst m0;exact zW (zK (zC (zK ac)))
 have s0:R.body.length<=10000000:=by have:=Lit.au R.body;unfold ah.size at D;omega
 refine bR (ke 0 R.body.length (Zf _) (fun i (_:PUnit.{2})=>⟨[(1,.ptr 0 0),(4,.mp 2),(8,.ptr 3 0),(32,.iv (cZ 5 p.rules ah.c)),(33,pI p.rules.length),(34,pI n),(39,.iv (lits R.body)),(40,pI R.body.length),(41,pI i)],[(0,io (aj p.c)),(2,io (gO (mz p.aD B))),(3,io (aj R.c))],4⟩)
  (fun i _ Y=>Y=fc (rowsOf p.aD B (G n++(R.body.take i).flatMap (mN R)))) ⟨⟩ [] (by simp) (zW (zK (zC (zK ac)))) (fun _ _ _ h=>h▸jY _) fun i _ Y t0 hJ=>?_)
 subst hJ;refine aJ (bZ ?_);refine gA Z ?_;refine aJ (dD Z (fun I=>dQ ?_) (fun I=>gJ ?_));rotate_left
 .have I:=co I;rw[Zh I,show G n++R.body.flatMap (mN R)=G (n+1) from f0.symm];change GX _ _ (.code _::_) _ _ _;refine bZ ?_;refine gA Z ⟨u,⟨⟩,[],rfl,zW (zK (zC ac))⟩
 have I:=ci I;have hl:R.body.getD i em∈R.body:=cv I;have g0:(R.body.take (i+1)).flatMap (mN R)=(R.body.take i).flatMap (mN R)++mN R (R.body.getD i em):=by rw[ba I,abf];simp
 have e0:(R.body.getD i em).size<=10000000:=by have:=Lit.aF R.body i I;unfold ah.size at D;omega
 have d0:=A _ hl;generalize q0:R.body.getD i em=l at hl g0 e0 d0;refine aJ (bR (aJ (bZ ?_)));refine gA Z ?_;refine aJ (fX ⟨[(1,.ptr 0 0),(4,.mp 2),(8,.ptr 3 0),(10,.ptr 4 0),(32,.iv (cZ 5 p.rules ah.c)),(33,pI p.rules.length),(34,pI n),(39,.iv (lits R.body)),(40,pI R.body.length),(41,pI i),(46,.iv (strs (named l))),(47,pI (named l).length),(48,pI 0)],[(0,io (aj p.c)),(2,io (gO (mz p.aD B))),(3,io (aj R.c)),(4,io (aj l.c))],5⟩ ?_ ?_)
 .subst q0;refine gA Z (zp (GY (R.body.getD i em) (by omega)) ?_);refine gA Z (fN [] ?_);exact zW (zK (zC (zK (zK ac))))
 have w0:=kD l
 refine bR (ke 0 (named l).length (Zf _) (fun k (_:PUnit.{2})=>⟨[(1,.ptr 0 0),(4,.mp 2),(8,.ptr 3 0),(10,.ptr 4 0),(32,.iv (cZ 5 p.rules ah.c)),(33,pI p.rules.length),(34,pI n),(39,.iv (lits R.body)),(40,pI R.body.length),(41,pI i),(46,.iv (strs (named l))),(47,pI (named l).length),(48,pI k)],[(0,io (aj p.c)),(2,io (gO (mz p.aD B))),(3,io (aj R.c)),(4,io (aj l.c))],5⟩)
  (fun k _ Y=>Y=fc (rowsOf p.aD B ((G n++(R.body.take i).flatMap (mN R))++((named l).take k).map fun t=>(R.head.rel,t,gz l)))) ⟨⟩ [] (by simp) (zW (zK (zC (zK (zK ac))))) (fun _ _ _ h=>h▸jY _) fun k _ Y hk hJ=>?_)
 subst hJ;refine aJ (bZ ?_);refine gA Z ?_;refine aJ (dD Z (fun h3=>dQ ?_) (fun h3=>gJ ?_));rotate_left
 .have h3:=co h3;have eX:(G n++(R.body.take i).flatMap (mN R))++(named l).map (fun t=>(R.head.rel,t,gz l))=G n++(R.body.take (i+1)).flatMap (mN R):=by rw[Zj,g0];rfl
  rw[Zh h3,eX];change GX _ _ (.code _::_) _ _ _;refine bZ ?_;refine gA Z ⟨I,⟨⟩,[],rfl,zW (zK (zC (zK ac)))⟩
 have h3:=ci h3;obtain⟨j,d,b,hd,i0,p0,j0⟩:=Ud J hf.nodup y;have hX:=ua (hs:=(G n++(R.body.take i).flatMap (mN R))++((named l).take k).map fun t=>(R.head.rel,t,gz l)) J c0 hd i0;have S:=Iw (hs:=(G n++(R.body.take i).flatMap (mN R))++((named l).take k).map fun t=>(R.head.rel,t,gz l)) (t:=(named l).getD k em) (h:=gz l) J c0 hf.nodup hd i0;rw[p0]at hX S;have r0:((G n++(R.body.take i).flatMap (mN R))++((named l).take k).map fun t=>(R.head.rel,t,gz l))++ [(R.head.rel,(named l).getD k em,gz l)]=(G n++(R.body.take i).flatMap (mN R))++((named l).take (k+1)).map fun t=>(R.head.rel,t,gz l):=by
  rw[ba h3,Ze,Zj];rfl
 rw[r0]at S;generalize(G n++(R.body.take i).flatMap (mN R))++((named l).take k).map (fun t=>(R.head.rel,t,gz l))=hs at hX S;refine aJ (bR (aJ (bZ ?_)));refine gA Z ?_;refine aJ (bZ ?_);refine gA Z ?_;refine aJ (fX ⟨[(1,.ptr 0 0),(4,.mp 2),(8,.ptr 3 0),(10,.ptr 4 0),(32,.iv (cZ 5 p.rules ah.c)),(33,pI p.rules.length),(34,pI n),(39,.iv (lits R.body)),(40,pI R.body.length),(41,pI i),(46,.iv (strs (named l))),(47,pI (named l).length),(48,pI k),(12,pS ((named l).getD k em)),(13,pI (gz l))],[(0,io (aj p.c)),(2,io (gO (mz p.aD B))),(3,io (aj R.c)),(4,io (aj l.c))],5⟩ ?_ ?_)
 .refine zJ Z Z (fun h4=>?_) fun h4=>?_
  .have h4:l.kind=1:=zT h4;refine gA Z (fN [] ?_);exact zM (bv (bv (bv (bv (bv (bv (bv (bv (bv (bv (bv (bv (bv (bv ⟨.of_eq (by rw[gz,am h4];rfl),rfl,ac⟩)))))))))))))) (zK (zC (zK (zK ac))))
  .have h4: ¬l.kind=1:=zF h4;refine gA Z (fN [] ?_);exact zM (bv (bv (bv (bv (bv (bv (bv (bv (bv (bv (bv (bv (bv (bv ⟨.of_eq (by rw[gz,be h4];rfl),rfl,ac⟩)))))))))))))) (zK (zC (zK (zK ac))))
 refine iL (bC 12 ?_);refine gA Z ?_;refine eJ (Io (d:=65) hX (show PV.iv (.v (.map (bU .str (mz p.aD B) R.head.rel jp)))=_ by rw[j0])) fun t Y F=>?_;obtain⟨rfl,rfl⟩:=F;refine eJ (Kc (b:=b.1) (j:=5) (e:=b.2) (d:=59) (p:= .mp 5) (bf.dz _ _ _) fun M N U x hu n0 _ hv=>?_) fun t Y F=>?_
 .have hv:VR M N U (PV.iv (.v (.map (bU .str (mz p.aD B) R.head.rel jp)))) x:=hv;rw[j0]at hv;cases hv with
  |iv _ _ hi=>cases hi with
   |v=>rw[<-n0];exact .mp 5 hu
 obtain⟨rfl,rfl⟩:=F;refine bC 4 ?_;refine gA Z ?_;refine fg (jx (Eo (xC (b:=b.1) (e:=b.2) (i:=5) (o:=cx (JJ (lO hs R.head.rel) ((named l).getD k em) (gz l))) (bf.dz _ _ _) Z Z ac) fun t Y F=>?_));obtain⟨rfl,rfl⟩:=F;rw[bf.G9];refine bZ ?_;refine gA Z ⟨h3,⟨⟩,[],S,zW (zK (zC (zK (zK ac))))⟩
end Go.Proofs.YtflegjieadkonaaGreatDoor
namespace Go.Proofs.YtflegjieadkonaaGreatDoor
open Go Go.Al Go.Proofs.Tryz Go.Tj
def sR(e:Option ak)(i:Nat)(l:List ak):PV:=match e,l with
 |some _,[]=> .sl i 1 0 1
 |_,l=> .sl i 0 l.length 1
def sS(e:Option ak)(l:List ak):AO:=match e,l with
 |some y,[]=> .row 1 [[pS y]]
 |_,l=>aE 1 l cz
theorem og(σ:Nat->Nat)(e:Option ak)(i:Nat)(l:List ak):(sR e i l).dc σ=sR e (σ i) l:=by cases e<;>cases l<;>rfl
theorem oi(σ:Nat->Nat)(e:Option ak)(l:List ak):(sS e l).dc σ=sS e l:=by
 cases e<;>cases l<;>first|rfl|exact bG σ
theorem Dj{n i:Nat}(h:Zs i n=kw)(e:Option ak)(l:List ak):(sR e i l).low n=kw:=by cases e<;>cases l<;>exact h
theorem Dm(n:Nat)(e:Option ak)(l:List ak):(sS e l).low n:=by
 cases e with
 |none=>exact cM n
 |some y=>
  cases l with
  |nil=>
   intro k e b;cases k with
   |zero=>cases b;rfl
   |succ k=>cases b
  |cons=>exact cM n
theorem Di{e:Option ak}{i:Nat}{l:List ak}(h:e=jp∨l≠ []):sR e i l= .sl i 0 l.length 1:=by
 cases e with
 |none=>rfl
 |some y=>cases l with
  |nil=>exact absurd Z (h.resolve_left (by simp))
  |cons=>rfl
theorem Dk{e:Option ak}{l:List ak}(h:e=jp∨l≠ []):sS e l=aE 1 l cz:=by
 cases e with
 |none=>rfl
 |some y=>cases l with
  |nil=>exact absurd Z (h.resolve_left (by simp))
  |cons=>rfl
structure TW where
 low:NM
 on:NM
 ring:NM
 stack:List ak
 wQ:Option ak
def TW.st(w:TW):St ak:=⟨fun a=>bU .str w.low a 0,fun a=>bU .str w.on a 0,fun a=>bU .str w.ring a 0,w.low.length,w.stack⟩
structure TW.Ok (V:List ak) (w:TW):Prop where
 nz: ∀a∈w.low.map ZB,bU .str w.low a 0≠0
 nd:(w.low.map ZB).Nodup
 sub: ∀a∈w.low.map ZB,a∈V
abbrev CZ:PV:= .du (.func 92) [] [.ptr 0 0,.ptr 1 0,.ptr 2 0,.ptr 3 0,.ptr 4 0,.ptr 5 0]
abbrev tO(G:IV)(w:TW):List AO:=[.cells [.mp 6],.cells [.mp 7],.cells [sR w.wQ 9 w.stack],.cells [.iv G],.cells [CZ],.cells [.mp 8],cx w.low,cx w.on,cx w.ring,sS w.wQ w.stack]
abbrev tH(G:IV)(w:TW)(k:Nat):AH:=[(0,io (.cells [.mp 6])),(1,io (.cells [.mp 7])),(2,io (.cells [sR w.wQ k w.stack])),(3,io (.cells [.iv G])),(4,io (.cells [CZ])),(5,io (.cells [.mp 8])),
 (6,io (cx w.low)),(7,io (cx w.on)),(8,io (cx w.ring)),(k,io (sS w.wQ w.stack))]
theorem xt{n k:Nat}{σ:Nat->Nat}{h:AH}{G:IV}{w:TW}{B:PV}{x y A:NM}{o:AO}(b:aa2 9 n=kw)(bk:Zs k n=kw)(hs: ∀i,i<9->σ i=i)
  (g0:h.get 0=io (.cells [.mp 6])) (g1:h.get 1=io (.cells [.mp 7])) (g2:h.get 2=io (.cells [B])) (g3:h.get 3=io (.cells [.iv G])) (g4:h.get 4=io (.cells [CZ])) (g5:h.get 5=io (.cells [.mp 8]))
  (g6:h.get 6=io (cx x)) (g7:h.get 7=io (cx y)) (g8:h.get 8=io (cx A)) (g9:h.get (σ k)=io o)
  (e2:B=sR w.wQ (σ k) w.stack) (D:x=w.low) (F:y=w.on) (I:A=w.ring) (J:fb o (sS w.wQ w.stack)):n7 n σ h (tH G w k):=by
 have S:=Y5 b;have bk:=Y5 bk;have hb: ∀i,i<9->Zs i n=kw:=fun i d=>ZO (by omega);subst e2 D F I;have r: ∀i,i<9->PV.mp (σ i)=PV.mp i:=fun i d=>by rw[hs i d]
 have j: ∀i,i<9->PV.ptr (σ i) 0=PV.ptr i 0:=fun i d=>by rw[hs i d]
 have u: ∀i,i<9->bq n [PV.mp i]=kw:=fun i d=>by simp only[bq,PV.low,hb i d]
 refine⟨⟨_,by rw[hs 0 (by omega)];exact g0,.of_eq (by simp only[AO.dc,ep,PV.dc,r 6 (by omega)])⟩,by omega,u 6 (by omega),
  ⟨_,by rw[hs 1 (by omega)];exact g1,.of_eq (by simp only[AO.dc,ep,PV.dc,r 7 (by omega)])⟩,by omega,u 7 (by omega),
  ⟨_,by rw[hs 2 (by omega)];exact g2,.of_eq (by simp only[AO.dc,ep,og])⟩,by omega,by simp only[AO.low,bq,Dj (ZO bk)],
  ⟨_,by rw[hs 3 (by omega)];exact g3,.of_eq Z⟩,by omega,rfl,
  ⟨_,by rw[hs 4 (by omega)];exact g4,.of_eq (by simp only[AO.dc,ep,PV.dc,j 0 (by omega),j 1 (by omega),j 2 (by omega),j 3 (by omega),j 4 (by omega),j 5 (by omega)])⟩,by omega,by simp only[AO.low,bq,PV.low,hb 0 (by omega),hb 1 (by omega),hb 2 (by omega),hb 3 (by omega),hb 4 (by omega),hb 5 (by omega)],
  ⟨_,by rw[hs 5 (by omega)];exact g5,.of_eq (by simp only[AO.dc,ep,PV.dc,r 8 (by omega)])⟩,by omega,u 8 (by omega),
  ⟨_,by rw[hs 6 (by omega)];exact g6,.of_eq Z⟩,by omega,ac,
  ⟨_,by rw[hs 7 (by omega)];exact g7,.of_eq Z⟩,by omega,ac,
  ⟨_,by rw[hs 8 (by omega)];exact g8,.of_eq Z⟩,by omega,ac,
  ⟨_,g9,by rw[oi];exact J⟩,bk,Dm _ _ _,ac⟩
theorem BG(m:NM)(b:ak)(v:Int):(fun x=>bU .str (cH .str m b v) x 0)=By (fun x=>bU .str m x 0) b v:=by
 funext x
 rw[kV,By];by_cases h:b=x
 .rw[am h,am h.symm]
 .rw[be h,be fun e=>h e.symm]
def TW.push(w:TW)(a:ak):TW:=⟨cH .str w.low a ((w.low.length:Int)+1),cH .str w.on a 1,w.ring,w.stack++ [a],jp⟩
theorem TW.key{V:List ak}{w:TW}(h:w.Ok V){a:ak}(h0:w.st.low a=0):a∉w.low.map ZB:=fun g=>h.nz a g h0
theorem vV{m:NM}{a:ak}{v:Int}(h:a∉m.map ZB):(cH .str m a v).length=m.length+1:=by
 have:=congrArg abB (dW (v:=v) h);simpa using this
theorem TW.PL{V:List ak}{w:TW}(h:w.Ok V){a:ak}(h0:w.st.low a=0):(w.push a).st=Go.Tj.push w.st a:=
 St.eq (BG _ _ _) (BG _ _ _) Z (vV (TW.key h h0)) Z
theorem TW.PM{V:List ak}{w:TW}(h:w.Ok V){a:ak}(h0:w.st.low a=0)(ha:a∈V):(w.push a).Ok V:=by
 have d:=TW.key h h0;refine⟨fun x b=>?_,?_,fun x b=>?_⟩
 .show bU .str (cH .str w.low a _) x 0≠0;rw[kV];split
  .omega
  .rename_i j;have b:x∈(cH .str w.low a ((w.low.length:Int)+1)).map ZB:=b;rw[dW d,Zm,Zk]at b;exact h.nz x (b.resolve_right fun e=>j e.symm)
 .show((cH .str w.low a _).map ZB).Nodup;rw[dW d,aa6];exact⟨h.nd,by simp,fun u hu v y e=>d (by rw[Zk]at y;subst e;subst y;exact hu)⟩
 .have b:x∈(cH .str w.low a ((w.low.length:Int)+1)).map ZB:=b;rw[dW d,Zm,Zk]at b;rcases b with b|rfl
  .exact h.sub x b
  .exact ha
theorem TW.len{V:List ak}{w:TW}(h:w.Ok V):w.low.length<=V.length:=by
 have:=aaP h.nd (l₂:=V) h.sub;simpa using this
theorem TW.Ae{V:List ak}{w:TW}(h:w.Ok V){succ:ak->List ak}{path:List ak}(hI:Inv succ path w.st):w.stack.length<=V.length:=by
 refine aaP (l₂:=V) ?_ fun y A=>?_
 .refine acs ?_ hI.Vi;intro x y u e;subst e;omega
 .have b:=(hI.Ae y).2 A;have d:w.st.low y≠0:=xW hI b;refine h.sub y (aao fun j=>d (yi j))
def TW.pop(w:TW)(u:List ak)(b:ak)(d:Int):TW:=⟨w.low,cH .str w.on b 2,cH .str w.ring b d,u,io b⟩
theorem TW.KV{w:TW}{u:List ak}{b:ak}(h:w.stack=u++ [b])(d:Int):(w.pop u b d).st=BY d w.st:=by
 have j:w.st.stack.getLast? =io b:=by show w.stack.getLast? =_;rw[h];simp
 have x:w.st.stack.dropLast=u:=by show w.stack.dropLast=_;rw[h];simp
 unfold BY;rw[j];exact St.eq Z (BG _ _ _) (BG _ _ _) Z x.symm
theorem TW.Uh{V:List ak}{w:TW}(h:w.Ok V)(u:List ak)(b:ak)(d:Int):(w.pop u b d).Ok V:=⟨h.nz,h.nd,h.sub⟩
theorem V5(b:kz){p:Prog}(hf:nk p)(d:(c5 p).length<=100000000)(a:ak):Pure prog 52 [.iv (CO (lO (c5 p) a))] (.iv (strs (bI p a))):=by
 rw[<-De hf];exact Ky b _ (Z1 (KH _ _) d)
abbrev Vt(a:ak):List PV:=[pS a,.ptr 0 0,.ptr 1 0,.ptr 2 0,.ptr 3 0,.ptr 4 0,.ptr 5 0]
abbrev vF(a:ak):AF:=[(0,pS a),(1,.ptr 0 0),(2,.ptr 1 0),(3,.ptr 2 0),(4,.ptr 3 0),(5,.ptr 4 0),(6,.ptr 5 0)]
def U9(p:Prog)(f:Nat):Prop:= ∀(path:List ak) (a:ak) (w:TW),w.Ok (ns p)->Inv (bI p) path w.st->w.st.low a=0->a∈ns p->(∀g∈path,pV (bI p) g a)->mh (ns p) w.st<=f->
 Go.Al.Fn prog 92 (Vt a) (tO (AY (c4 p (c5 p))) w) fun r h n=> ∃b:TW,b.Ok (ns p)∧b.st=(ft (bI p) f a w.st).2∧r=pI (ft (bI p) f a w.st).1∧h=tH (AY (c4 p (c5 p))) b 10∧n=11
theorem LM(p:Prog)(hs:List (ak×ak×Nat)){a:ak}(h:a∈p.aD.map Decl.name):(IP (bU .str (c4 p hs) a jp)).pv= .iv (CO (lO hs a)):=by rw[LN p hs h];rfl
theorem TF(G:IV)(w:TW){n:Nat}:[io (AO.cells [PV.mp 6]),io (.cells [.mp 7]),io (.cells [sR w.wQ 11 w.stack]),io (.cells [.iv G]),io (.cells [CZ]),io (.cells [.mp 8]),io (cx w.low),io (cx w.on),io (cx w.ring),io (sS w.wQ w.stack)]=
  (tO G w).map fun o=>io (o.dc (sig [0,1,2,3,4,5,6,7,8,11] n)):=by
 have b:=og (sig [0,1,2,3,4,5,6,7,8,11] n) w.wQ 9 w.stack;have d:=oi (sig [0,1,2,3,4,5,6,7,8,11] n) w.wQ w.stack;show _=[io (AO.cells [PV.mp 6]),io (.cells [.mp 7]),io (.cells [(sR w.wQ 9 w.stack).dc (sig [0,1,2,3,4,5,6,7,8,11] n)]),io (.cells [.iv G]),io (.cells [CZ]),io (.cells [.mp 8]),io (cx w.low),io (cx w.on),io (cx w.ring),io ((sS w.wQ w.stack).dc (sig [0,1,2,3,4,5,6,7,8,11] n))]
 rw[b,d];rfl
theorem Ke(u:List ak)(b:ak):((u++ [b]).map fun x=>(cz x).map PV.iv)[0+((((u.length+1:Nat):Int)-1).toNat)]? =io [pS b]:=by
 rw[Zu,show(((u.length+1:Nat):Int)-1).toNat=u.length by omega];simp[cz]
theorem Kf(i:Nat)(u:List ak)(b:ak):(u.length=0∧sR (io b) i u= .sl i 1 0 1)∨(0<u.length∧sR (io b) i u= .sl i 0 u.length 1):=by
 cases u with
 |nil=>exact .inl ⟨rfl,rfl⟩
 |cons x r=>exact .inr ⟨by simp,rfl⟩
theorem Dl(u:List ak)(b:ak):fb (aE 1 (u++ [b]) cz) (sS (io b) u):=by
 cases u with
 |nil=>exact .of_eq Z
 |cons x r=>
  have e:sS (io b) (x::r)= .row 1 (((x::r++ [b]).map fun y=>(cz y).map PV.iv).take (x::r).length):=by
   rw[<-List.map_take,List.take_left];rfl
  rw[e];exact .take
theorem wZ{p:Prog}: ∀a∈ns p,∀b∈bI p a,b∈ns p:=fun _ _ _ h=>(ZM.1 h).1
theorem vq{p:Prog}(hf:nk p):(ns p).length<=64:=by
 have:=hf.len;rw[ns,jH,ZE];exact this
theorem JU(hS:kz){p:Prog}(hf:nk p)(hl:(c5 p).length<=100000000)(f:Nat)(ih:U9 p f):U9 p (f+1):=by
 intro path a w j0 hI h0 S hp hw;have i0:=vq hf;have f1:=np hI.pH S h0;have n1:=TW.len j0;have q1:=TW.Ae j0 hI;have r0:a∈p.aD.map Decl.name:=by rw[ns,gu]at S;exact S
 have D:=TW.PL j0 h0;have v0:=TW.PM j0 h0 S;have p1:=aak (eg p a) (ns p);refine yD ab func92 Z (by decide) ntmps92 Z (by simp) ?_;refine go_cut 6 (fun _:Unit=>⟨(9,pI ((w.low.length:Int)+1))::(10,pI ((w.low.length:Int)+1))::vF a,tH (AY (c4 p (c5 p))) (w.push a) 10,11⟩) Z ?_ ?_
 .have p0:bU .str (cH .str w.low a ((w.low.length:Int)+1)) a 0=(w.low.length:Int)+1:=by rw[kV,am Z]
  by_cases hu:w.wQ=jp∨w.stack≠ []
  .rw[show tO (AY (c4 p (c5 p))) w=[.cells [.mp 6],.cells [.mp 7],.cells [.sl 9 0 w.stack.length 1],.cells [.iv (AY (c4 p (c5 p)))],.cells [CZ],.cells [.mp 8],cx w.low,cx w.on,cx w.ring,aE 1 w.stack cz] by
    unfold tO;rw[Di hu,Dk hu]]
   refine gA Z (gB () [11] ?_);exact wk Z Z Z ⟨.of_eq (congrArg pI p0),rfl,.of_eq (congrArg pI p0),rfl,bv (bv (bv (bv (bv (bv (bv ac))))))⟩
    (xt (w:=w.push a) Z Z (fun i Y=>gE (by show i<10;omega)) Z Z Z Z Z Z Z Z Z Z (by show _=PV.sl 11 0 (w.stack++ [a]).length 1;rw[Y8];rfl) Z Z Z (.of_eq (by show _=aE 1 (w.stack++ [a]) cz;rw[aE,Ze];rfl))) Z
  .obtain⟨y,hy,w0⟩: ∃y,w.wQ=io y∧w.stack=[]:=by
    cases hg:w.wQ with
    |none=>exact absurd (.inl hg) hu
    |some y=>exact⟨y,rfl,aao fun h=>hu (.inr h)⟩
   rw[show tO (AY (c4 p (c5 p))) w=[.cells [.mp 6],.cells [.mp 7],.cells [.sl 9 1 0 1],.cells [.iv (AY (c4 p (c5 p)))],.cells [CZ],.cells [.mp 8],cx w.low,cx w.on,cx w.ring,.row 1 [[pS y]]] by
    unfold tO;rw[hy,w0];rfl]
   refine gA Z (Cs ab Z Z Z Z Z Z Z Z Z (by simp) (by simp) (mY Z) Z ?_);refine gA Z (gB () [11] ?_);exact wk Z Z Z ⟨.of_eq (congrArg pI p0),rfl,.of_eq (congrArg pI p0),rfl,bv (bv (bv (bv (bv (bv (bv ac))))))⟩
    (xt (w:=w.push a) Z Z (fun i Y=>gE (by show i<10;omega)) Z Z Z Z Z Z Z Z Z Z (by show _=PV.sl 11 0 (w.stack++ [a]).length 1;rw[w0];rfl) Z Z Z (.of_eq (by show _=aE 1 (w.stack++ [a]) cz;rw[w0];rfl))) Z
 intro _;have Y:=DI hI h0 hp;rw[<-D]at f1 Y;have hm:((w.push a).low.length:Int)=(w.low.length:Int)+1:=by
  have:=vV (v:=(w.low.length:Int)+1) (TW.key j0 h0);show(((cH .str w.low a _).length:Nat):Int)=_;rw[this];omega
 have la:(w.push a).st.low a=(w.st.n:Int)+1:=by rw[D];exact mj _ _ _
 have oa:(w.push a).st.on a=1:=by rw[D];exact mj _ _ _
 have i1:gK (bI p) path a w.st [] ((w.st.n:Int)+1,Go.Tj.push w.st a) []:=
  ⟨D▸Y,.refl _,rfl,fun y hy=>(nomatch hy),abj _,fun y hy=>(nomatch hy),fun z hz=>(nomatch hz),fun z hz=>(nomatch hz),⟨a,D▸oa,D▸la,.refl _⟩⟩
 have m0:=fun pa b s=>sJ (succ:=bI p) wZ f pa b s
 let I:Nat->Int×St ak:=fun i=>((bI p a).take i).foldl (Go.Tj.fG (ft (bI p) f)) ((w.st.n:Int)+1,Go.Tj.push w.st a)
 have g0: ∀i,∃t,gK (bI p) path a w.st ((bI p a).take i) (I i) t:=fun i=>by
  have:=vw wZ m0 hI h0 S (by rw[<-D];omega) ((bI p a).take i) [] _ [] i1 fun b hb=>abD hb;rwa[aaN]at this
 refine gM 5 Z (Qj ab (.iv (CO (lO (c5 p) a))) Z Z Z Z (LM p _ r0) Z ?_);refine gA Z (zp (V5 hS hf hl a) ?_);refine gA Z ?_;refine uz 0 (bI p a).length (Zf _) (fun i A=>⟨(9,pI ((w.low.length:Int)+1))::(10,pI (I i).1)::(32,.iv (strs (bI p a)))::(33,pI (bI p a).length)::(34,pI i)::vF a,tH (AY (c4 p (c5 p))) A 11,12⟩)
  (fun i A=>A.Ok (ns p)∧A.st=(I i).2) (w.push a) [10] ⟨v0,D⟩
  (wk Z Z Z (bv (bv (bv (bv (bv (bv (bv (bv (bv (bv (bv (bv trivial))))))))))))
   (xt Z Z (fun i Y=>gE (by show i<11;omega)) Z Z Z Z Z Z Z Z Z Z Z Z Z Z (.refl _)) Z) fun i A t1 hJ=>?_
 obtain⟨B,x⟩:=hJ;obtain⟨t2,j⟩:=g0 i;have o1:(bI p a).length<=64:=Z1 p1 i0;refine zJ Z Z (fun h1=>?_) fun h1=>?_
 .have h1:=ci h1;have d0:I (i+1)=Go.Tj.fG (ft (bI p) f) (I i) ((bI p a).getD i em):=cK h1;have hb:((bI p a).getD i em)∈bI p a:=cv h1;have d:Go.Tj.fG (ft (bI p) f) (I i) ((bI p a).getD i em)=if A.st.low ((bI p a).getD i em)=0 then(min (I i).1 (ft (bI p) f ((bI p a).getD i em) A.st).1,(ft (bI p) f ((bI p a).getD i em) A.st).2)
    else if A.st.on ((bI p a).getD i em)=1 then(min (I i).1 (A.st.low ((bI p a).getD i em)),A.st) else(I i):=by rw[x];rfl
  refine zJ Z Z (fun h2=>?_) fun h2=>?_
  .have h2:A.st.low ((bI p a).getD i em)=0:=zT h2;rw[am h2]at d;have b0: ∀g∈path++ [a],pV (bI p) g ((bI p a).getD i em):=by
    intro g hg;have G:(I i).2.on a=1:=(j.inv.Ae a).2 (by rw[j.stack];simp);refine .step (j.inv.dn g hg a G ?_) hb;rcases Zm.1 hg with e|e
    .have:=j.pa hI h0 g e;omega
    .rw[Zk]at e;rw[e];exact abj _
   have s1:mh (ns p) A.st<=f:=by
    have:=zZ (V:=ns p) j.le;rw[x];rw[D]at f1;omega
   refine gA Z (HD [0,1,2,3,4,5,6,7,8,11] (ih (path++ [a]) ((bI p a).getD i em) A B (x▸j.inv) h2 (wZ a S ((bI p a).getD i em) hb) b0 s1) Z Z Z Z Z (TF _ _) Z ?_);rintro r h' n' ⟨w3,hok3,hst3,rfl,rfl,rfl⟩;refine⟨_,rfl,?_⟩;refine gA Z ⟨h1,w3,[12],⟨hok3,by rw[d0,d];exact hst3⟩,zM (bv ⟨.of_eq (by rw[d0,d];rfl),rfl,bv (bv (bv (bv (bv (bv (bv (bv (bv (bv ac)))))))))⟩) (xt Z Z (fun i Y=>gE (by show i<11;omega)) Z Z Z Z Z Z Z Z Z Z (og _ _ _ _) Z Z Z (.of_eq (oi _ _ _)))⟩
  .have h2: ¬A.st.low ((bI p a).getD i em)=0:=zF h2;rw[be h2]at d;refine zJ Z Z (fun h3=>?_) fun h3=>?_
   .have h3:A.st.on ((bI p a).getD i em)=1:=zT h3;rw[am h3]at d;refine gA Z ⟨h1,A,[11],⟨B,by rw[d0,d]⟩,zM (bv ⟨.of_eq (by rw[d0,d];rfl),rfl,bv (bv (bv (bv (bv (bv (bv (bv (bv (bv ac)))))))))⟩) (xt Z Z (fun i Y=>gE (by show i<11;omega)) Z Z Z Z Z Z Z Z Z Z Z Z Z Z (.refl _))⟩
   .have h3: ¬A.st.on ((bI p a).getD i em)=1:=zF h3;rw[be h3]at d;refine gA Z ⟨h1,A,[11],⟨B,by rw[d0,d];exact x⟩,zM (bv ⟨.of_eq (by rw[d0,d];rfl),rfl,bv (bv (bv (bv (bv (bv (bv (bv (bv (bv ac)))))))))⟩) (xt Z Z (fun i Y=>gE (by show i<11;omega)) Z Z Z Z Z Z Z Z Z Z Z Z Z Z (.refl _))⟩
 .have h1:=co h1;have l1:i=(bI p a).length:=by omega
  subst l1;have o0:ft (bI p) (f+1) a w.st=wU a ((w.st.n:Int)+1) (I (bI p a).length):=by
   show wU a _ ((bI p a).foldl _ _)=wU a _ (((bI p a).take (bI p a).length).foldl _ _);rw[aaQ]
  have a0: ∀(w':TW) (k:Nat) (u:AS) (e:Exit),e= .normal∨e= .ret->10<=k->k<u.nx->ly pC u f92.results.toList=io (pI (I (bI p a).length).1)->w'.Ok (ns p)->w'.st=(wU a ((w.st.n:Int)+1) (I (bI p a).length)).2->
    n7 11 (sg 10 [k]) u.h (tH (AY (c4 p (c5 p))) w' 10)->Rf pC f92.results.toList 10 (fun r h n=> ∃w':TW,w'.Ok (ns p)∧w'.st=(ft (bI p) (f+1) a w.st).2∧r=pI (ft (bI p) (f+1) a w.st).1∧h=tH (AY (c4 p (c5 p))) w' 10∧n=11) e u:=by
   intro w' k u e he hk m1 hr t0 x0 hh;refine HL [k] he hr ⟨w',t0,by rw[o0];exact x0,rfl,rfl,rfl⟩ ⟨rfl,by show 10<=u.nx;omega,by simpa using m1,⟨.of_eq ?_,rfl,ac⟩,hh,?_⟩
   .show pI (I (bI p a).length).1=pI (ft (bI p) (f+1) a w.st).1;rw[o0];unfold wU;split<;>rfl
   .show[0,1,2,3,4,5,6,7,8,k].Nodup;simp;omega
  generalize I (bI p a).length=q at*
  refine zE Z Z (fun h4=>?_) fun h4=>?_
  .have h4: ¬q.1=(w.st.n:Int)+1:=zF h4;refine gA Z (a0 A 11 _ _ (.inr Z) (by omega) (by show 11<12;omega) Z B (by rw[wU,be h4];exact x) ?_);exact xt Z Z (fun i Y=>gE (by omega)) Z Z Z Z Z Z Z Z Z Z Z Z Z Z (.refl _)
  have h4:q.1=(w.st.n:Int)+1:=zT h4;have hE:(wU a ((w.st.n:Int)+1) q).2=ie a ((w.st.n:Int)+1) q.2.stack.length q.2:=by rw[wU,am h4]
  have G:q.2.on a=1:=(j.inv.Ae a).2 (by rw[j.stack];simp);have hF:ie a ((w.st.n:Int)+1) (t2.length+1) q.2=(wU a ((w.st.n:Int)+1) q).2:=by
   rw[hE,vk (by omega) j.stack j.at_ G,vk (by rw[j.stack];simp;omega) j.stack j.at_ G]
  generalize(wU a ((w.st.n:Int)+1) q).2=F at hF a0;refine gA Z ?_;refine oC (σ:={v:TW//v.Ok (ns p)∧((∃t,v.stack=w.stack++a::t∧a∉t∧v.stack.length<=64∧v.st.on a=1∧ie a ((w.st.n:Int)+1) (t.length+1) v.st=F)∨(v.st.on a≠1∧v.st=F))})
   (fun v=>⟨(9,pI ((w.low.length:Int)+1))::(10,pI q.1)::vF a,tH (AY (c4 p (c5 p))) v.1 12,13⟩) (fun v=>v.1.stack.length) ⟨A,B,.inl ⟨t2,by rw[show A.stack=A.st.stack from rfl,x];exact j.stack,j.at_,Z1 (TW.Ae B (x▸j.inv)) i0,by rw[x];exact G,by rw[x];exact hF⟩⟩ [11]
   (zW (xt Z Z (fun i Y=>gE (by show i<12;omega)) Z Z Z Z Z Z Z Z Z Z Z Z Z Z (.refl _))) fun v=>?_
  obtain⟨v,k0,hJ⟩:=v;rcases hJ with⟨t,hs,b1,n0,c0,J⟩|⟨c0,g1⟩
  rotate_left
  .refine zJ Z Z (fun h5=>?_) fun h5=>?_
   .exact absurd (zT h5) c0
   refine gA Z (a0 v 12 _ _ (.inr Z) (by omega) (by show 12<13;omega) Z k0 g1 ?_);exact xt Z Z (fun i Y=>gE (by omega)) Z Z Z Z Z Z Z Z Z Z Z Z Z Z (.refl _)
  have key: ∃u b,v.stack=u++ [b]∧((b=a∧BY ((w.st.n:Int)+1) v.st=F)∨ ∃t',u=w.stack++a::t'∧a∉t'∧b≠a∧ie a ((w.st.n:Int)+1) (t'.length+1) (BY ((w.st.n:Int)+1) v.st)=F):=by
   rcases t.eq_nil_or_concat with e|⟨t',b,e⟩
   .subst e;refine⟨w.stack,a,hs,.inl ⟨rfl,?_⟩⟩;rw[aai,ie,am c0]at J;exact J
   .rw[aci]at e;subst e;refine⟨w.stack++a::t',b,by rw[hs];simp,.inr ⟨t',rfl,fun h=>b1 (by simp[h]),fun h=>b1 (by simp[h]),?_⟩⟩;rw[ie,am c0,Y8]at J;exact J
  obtain⟨u,b,e0,f0⟩:=key;have u1:u.length+1<=64:=by rw[e0,Y8]at n0;exact n0
  have e1:v.stack≠ []:=by rw[e0];simp
  have y0:v.stack.length=u.length+1:=by rw[e0,Y8];rfl
  have r1:tH (AY (c4 p (c5 p))) v 12=[(0,io (.cells [.mp 6])),(1,io (.cells [.mp 7])),(2,io (.cells [.sl 12 0 (u.length+1) 1])),(3,io (.cells [.iv (AY (c4 p (c5 p)))])),(4,io (.cells [CZ])),(5,io (.cells [.mp 8])),
    (6,io (cx v.low)),(7,io (cx v.on)),(8,io (cx v.ring)),(12,io (aE 1 (u++ [b]) cz))]:=by
   unfold tH;rw[Di (.inr e1),Dk (.inr e1),y0,e0]
  show GO prog _ _ _ ⟨_,tH (AY (c4 p (c5 p))) v 12,_⟩;rw[r1];refine zE Z Z (fun h5=>?_) fun h5=>?_
  .exact absurd c0 (zF h5)
  refine gM 9 Z (bB ab Z Z Z Z Z (Ke u b) Z Z ?_);have a1:(v.pop u b ((w.st.n:Int)+1)).Ok (ns p)∧((∃t,(v.pop u b ((w.st.n:Int)+1)).stack=w.stack++a::t∧a∉t∧(v.pop u b ((w.st.n:Int)+1)).stack.length<=64∧(v.pop u b ((w.st.n:Int)+1)).st.on a=1∧ie a ((w.st.n:Int)+1) (t.length+1) (v.pop u b ((w.st.n:Int)+1)).st=F)∨((v.pop u b ((w.st.n:Int)+1)).st.on a≠1∧(v.pop u b ((w.st.n:Int)+1)).st=F)):=by
   refine⟨TW.Uh k0 u b _,?_⟩;rcases f0 with⟨rfl,q0⟩|⟨t',hu,s0,j1,q0⟩
   .refine .inr ⟨?_,by rw[TW.KV e0];exact q0⟩;show bU .str (cH .str v.on b 2) b 0≠1;rw[kV,am Z];decide
   .refine .inl ⟨t',hu,s0,by show u.length<=64;omega,?_,by rw[TW.KV e0];exact q0⟩;show bU .str (cH .str v.on b 2) a 0=1;rw[kV,be j1];exact c0
  have d1:(v.pop u b ((w.st.n:Int)+1)).stack.length<v.stack.length:=by show u.length<v.stack.length;omega
  rcases Kf 12 u b with hc|hc
  .refine gA Z (HE ab u.length Z Z Z Z Z Z Z (by omega) (by omega) (by omega) (.inl ⟨hc.1,rfl⟩) Z ?_);refine gA Z ⟨⟨v.pop u b ((w.st.n:Int)+1),a1⟩,[12],d1,zW (xt Z Z (fun i Y=>gE (by show i<12;omega)) Z Z Z Z Z Z Z Z Z Z hc.2.symm Z Z Z (Dl u b))⟩
  .refine gA Z (HE ab u.length Z Z Z Z Z Z Z (by omega) (by omega) (by omega) (.inr ⟨hc.1,rfl⟩) Z ?_);refine gA Z ⟨⟨v.pop u b ((w.st.n:Int)+1),a1⟩,[12],d1,zW (xt Z Z (fun i Y=>gE (by show i<12;omega)) Z Z Z Z Z Z Z Z Z Z hc.2.symm Z Z Z (Dl u b))⟩
theorem Vs(d:kz){p:Prog}(hf:nk p)(j:(c5 p).length<=100000000): ∀f,U9 p f
 |0=>fun path a w x hI u b y A=>by
  have:=np hI.pH b u;omega
 |f+1=>JU d hf j f (Vs d hf j f)
theorem ID(b:kz){p:Prog}(hf:nk p)(hs:List (ak×ak×Nat)):Pure prog 51 [.iv (AY (c4 p hs))] (.iv (strs (ns p))):=by
 have h:=Kz b (c4 p hs) (by have:=hf.len;simp[c4];omega);rw[show(c4 p hs).map (·.1)=p.aD.map Decl.name from F7 p hs]at h;exact h
abbrev PJ:PV:= .du (.func 92) [] [.ptr 4 0,.ptr 5 0,.ptr 7 0,.ptr 0 0,.ptr 8 0,.ptr 6 0]
abbrev rH(G:IV)(w:TW)(k:Nat):AH:=[(0,io (.cells [.iv G])),(1,io (cx w.low)),(2,io (cx w.on)),(3,io (cx w.ring)),(4,io (.cells [.mp 1])),(5,io (.cells [.mp 2])),(6,io (.cells [.mp 3])),(7,io (.cells [sR w.wQ k w.stack])),(8,io (.cells [PJ])),(k,io (sS w.wQ w.stack))]
theorem S7{n k:Nat}{σ:Nat->Nat}{h:AH}{G:IV}{w:TW}{B:PV}{x y A o:AO}(b:aa2 9 n=kw)(bk:Zs k n=kw)(hs: ∀i,i<9->σ i=i)
  (g0:h.get 0=io (.cells [.iv G])) (g1:h.get 1=io x) (g2:h.get 2=io y) (g3:h.get 3=io A)
  (g4:h.get 4=io (.cells [.mp 1])) (g5:h.get 5=io (.cells [.mp 2])) (g6:h.get 6=io (.cells [.mp 3])) (g7:h.get 7=io (.cells [B])) (g8:h.get 8=io (.cells [PJ])) (g9:h.get (σ k)=io o)
  (e1:fb x (cx w.low)) (e2:fb y (cx w.on)) (e3:fb A (cx w.ring)) (D:B=sR w.wQ (σ k) w.stack) (F:fb o (sS w.wQ w.stack)):n7 n σ h (rH G w k):=by
 have I:=Y5 b;have bk:=Y5 bk;have hb: ∀i,i<9->Zs i n=kw:=fun i d=>ZO (by omega);subst D;have r: ∀i,i<9->PV.mp (σ i)=PV.mp i:=fun i d=>by rw[hs i d]
 have j: ∀i,i<9->PV.ptr (σ i) 0=PV.ptr i 0:=fun i d=>by rw[hs i d]
 have u: ∀i,i<9->bq n [PV.mp i]=kw:=fun i d=>by simp only[bq,PV.low,hb i d]
 refine⟨⟨_,by rw[hs 0 (by omega)];exact g0,.of_eq Z⟩,by omega,rfl,
  ⟨_,by rw[hs 1 (by omega)];exact g1,e1⟩,by omega,ac,
  ⟨_,by rw[hs 2 (by omega)];exact g2,e2⟩,by omega,ac,
  ⟨_,by rw[hs 3 (by omega)];exact g3,e3⟩,by omega,ac,
  ⟨_,by rw[hs 4 (by omega)];exact g4,.of_eq (by simp only[AO.dc,ep,PV.dc,r 1 (by omega)])⟩,by omega,u 1 (by omega),
  ⟨_,by rw[hs 5 (by omega)];exact g5,.of_eq (by simp only[AO.dc,ep,PV.dc,r 2 (by omega)])⟩,by omega,u 2 (by omega),
  ⟨_,by rw[hs 6 (by omega)];exact g6,.of_eq (by simp only[AO.dc,ep,PV.dc,r 3 (by omega)])⟩,by omega,u 3 (by omega),
  ⟨_,by rw[hs 7 (by omega)];exact g7,.of_eq (by simp only[AO.dc,ep,og])⟩,by omega,by simp only[AO.low,bq,Dj (ZO bk)],
  ⟨_,by rw[hs 8 (by omega)];exact g8,.of_eq (by simp only[AO.dc,ep,PV.dc,j 0 (by omega),j 4 (by omega),j 5 (by omega),j 6 (by omega),j 7 (by omega),j 8 (by omega)])⟩,by omega,by simp only[AO.low,bq,PV.low,hb 0 (by omega),hb 4 (by omega),hb 5 (by omega),hb 6 (by omega),hb 7 (by omega),hb 8 (by omega)],
  ⟨_,g9,by rw[oi];exact F⟩,bk,Dm _ _ _,ac⟩
theorem yf{V:Type}{kc:KC}{ev:V->IV}{z:V}{b:Value}{d:PV->V}(x: ∀M,IR M (ev z) b):fb .gP (.map kc ev z b d []):=
 ⟨id,fun M N U w j u=>⟨#[],0,u,⟨rfl,by simp,by simp,by simp,by simp⟩,x M⟩⟩
def TW.o:TW:=⟨[],[],[],[],jp⟩
theorem Ue(G:IV)(w:TW){n:Nat}:[io (AO.cells [PV.mp 1]),io (.cells [.mp 2]),io (.cells [sR w.wQ 10 w.stack]),io (.cells [.iv G]),io (.cells [PJ]),io (.cells [.mp 3]),io (cx w.low),io (cx w.on),io (cx w.ring),io (sS w.wQ w.stack)]=
  (tO G w).map fun o=>io (o.dc (sig [4,5,7,0,8,6,1,2,3,10] n)):=by
 have b:=og (sig [4,5,7,0,8,6,1,2,3,10] n) w.wQ 9 w.stack;have d:=oi (sig [4,5,7,0,8,6,1,2,3,10] n) w.wQ w.stack;show _=[io (AO.cells [PV.mp 1]),io (.cells [.mp 2]),io (.cells [(sR w.wQ 9 w.stack).dc (sig [4,5,7,0,8,6,1,2,3,10] n)]),io (.cells [.iv G]),io (.cells [PJ]),io (.cells [.mp 3]),io (cx w.low),io (cx w.on),io (cx w.ring),io ((sS w.wQ w.stack).dc (sig [4,5,7,0,8,6,1,2,3,10] n))]
 rw[b,d];rfl
theorem TQ(D:kz){p:Prog}(hf:nk p)(Y:(c5 p).length<=100000000):Go.Al.Fn prog 53 [.iv (AY (c4 p (c5 p)))] [] fun r h n=> ∃m:NM,Go.Rg.zi (ns p) (eg p) (fun a=>bU .str m a 0)∧r= .iv (CO m)∧h=[]∧n=0:=by
 have F:=vq hf;refine yD ab func53 Z (by decide) ntmps53 Z (by simp) ?_;refine gA Z (zp (ID D hf (c5 p)) ?_);refine gA Z ?_;refine jg 7 0 1 Z Z ?_
 let x:Nat->St ak:=fun i=>jo (bI p) (ns p).length ((ns p).take i) St.o
 have y: ∀i,Inv (bI p) [] (x i):=fun i=>(vb wZ (Zc _) ((ns p).take i) St.o (fun a h=>abD h) (SC _)).1
 refine uz 0 (ns p).length (Zf _) (fun i w=>⟨[(3,.ptr 4 0),(4,.ptr 5 0),(5,.ptr 6 0),(6,.ptr 7 0),(7,.ptr 8 0),(15,.iv (strs (ns p))),(16,pI (ns p).length),(17,pI i)],rH (AY (c4 p (c5 p))) w 10,11⟩)
  (fun i w=>w.Ok (ns p)∧w.st=x i) TW.o [9] ⟨⟨fun a h=>(nomatch h),aab,fun a h=>(nomatch h)⟩,rfl⟩
  (wk Z Z Z (bv (bv (bv (bv (bv (bv (bv (bv trivial))))))))
   (S7 Z Z (fun i B=>gE (by show i<10;omega)) Z Z Z Z Z Z Z Z Z Z (yf iu) (yf iu) (yf iu) Z (.of_eq Z)) Z) fun i w B J=>?_
 obtain⟨A,u⟩:=J;refine zJ Z Z (fun b=>?_) fun b=>?_
 .have b:=ci b;have j:x (i+1)=if(x i).low ((ns p).getD i em)=0 then(ft (bI p) (ns p).length ((ns p).getD i em) (x i)).2 else x i:=cK b;refine zJ Z Z (fun d=>?_) fun d=>?_
  .have d:w.st.low ((ns p).getD i em)=0:=zT d;rw[<-u,am d]at j;refine gA Z (HD [4,5,7,0,8,6,1,2,3,10] (Vs D hf Y (ns p).length [] ((ns p).getD i em) w A (u▸y i) d (cv b) (fun g S=>nomatch S) (aak _ _)) Z Z Z Z Z (Ue _ _) Z ?_);rintro r h' n' ⟨w3,hok3,hst3,rfl,rfl,rfl⟩;refine⟨_,rfl,?_⟩;refine gA Z ?_
   exact⟨b,w3,[11],⟨hok3,by rw[j];exact hst3⟩,wk Z Z Z (bv (bv (bv (bv (bv (bv (bv (bv ac))))))))
    (S7 Z Z (fun i B=>gE (by show i<10;omega)) Z Z Z Z Z Z Z Z Z Z (.refl _) (.refl _) (.refl _) (og _ _ _ _) (.of_eq (oi _ _ _))) Z⟩
  .have d: ¬w.st.low ((ns p).getD i em)=0:=zF d;rw[<-u,be d]at j;refine gA Z ?_
   exact⟨b,w,[10],⟨A,j.symm⟩,wk Z Z Z (bv (bv (bv (bv (bv (bv (bv (bv ac))))))))
    (S7 Z Z (fun i B=>gE (by show i<10;omega)) Z Z Z Z Z Z Z Z Z Z (.refl _) (.refl _) (.refl _) Z (.refl _)) Z⟩
 .have b:=co b;have hr:Go.Rg.zi (ns p) (eg p) (fun a=>bU .str w.ring a 0):=by
   have d:=KL hf.nodup (Zc (ns p).length);have G:x i=jo (bI p) (ns p).length (ns p) St.o:=by show jo _ _ ((ns p).take i) _=_;rw[Zh b]
   have I:(fun a=>bU .str w.ring a 0)=(jo (bI p) (ns p).length (ns p) St.o).ring:=by rw[<-G,<-u];rfl
   rw[I];exact d
  refine gA Z ⟨.inr Z,_,rfl,jC.map 3 Z (.done ⟨.iv (CO w.ring),[],0,[],⟨w.ring,hr,rfl,rfl,rfl⟩,?_⟩)⟩;exact⟨rfl,Zf _,by simp,⟨.of_eq Z,rfl,ac⟩,ac,aab⟩
end Go.Proofs.YtflegjieadkonaaGreatDoor
namespace Go.Proofs.YtflegjieadkonaaGreatDoor
open Go Go.Al Go.Proofs.Tryz
theorem TY(l:List ak)(s:ak):Pure prog 129 [.iv (strs l),pS s] (pI (tr (fun x:ak=>li (s=x)) l)):=by
 refine mA (bF func129 Z (by decide)) ⟨_,_,Zo⟩ fun j=>?_;simp only[maxLen]at j;refine ae ab func129 Z (by decide) ntmps129 Z (by simp) Z ?_;refine gA Z ?_
 refine aw 0 l.length (Zf _) (fun i=>⟨[(0,.iv (strs l)),(1,pS s),(7,pI l.length),(8,pI i)],[],0⟩) (fun i=>(l.take i).any (fun x:ak=>li (s=x))=lc) [] (by simp)
  (lJ Z Z (bv (bv (bv (bv trivial)))) Z) fun i y u=>?_
 refine zJ Z Z (fun b=>?_) fun b=>?_
 .have b:=ci b;refine zJ Z Z (fun d=>?_) fun d=>?_
  .have d:(fun x:ak=>li (s=x)) (l.getD i em)=kw:=d;rw[jf u b d];exact zU Z
  .have d:(fun x:ak=>li (s=x)) (l.getD i em)=lc:=d;refine gA Z ⟨b,(aW u b).2 d,[],lJ Z Z (bv (bv (bv (bv ac)))) Z⟩
 .have b:=co b;rw[iK (any_none u b)];exact zU Z
theorem Q3(l:List ak)(s:ak):(l.any fun x=>li (s=x))=aH l s:=by
 rw[ZW,aM,ZZ];constructor
 .rintro⟨x,hx,h⟩;exact(zT h)▸hx
 .exact fun h=>⟨s,h,decide_eq_true Z⟩
theorem Ag(l:List ak)(s:ak):Pure prog 99 [.iv (strs l),pS s] (pB (aH l s)):=by
 refine ae ab func99 Z (by decide) ntmps99 Z (by simp) Z ?_;refine gA Z (zp (TY l s) ?_);refine gA Z (zL (.of_eq ?_));exact fV (by rw[<-Q3];exact j9 _ l)
def rQ(m:NM)(r:ah)(l:Lit):Bool:=li (l.kind=1)&&li (bU .str m l.atom.rel 0=bU .str m r.head.rel 0)
abbrev T9(m:NM)(r:ah):List AO:=[.cells [.iv (CO m)],aj r.c]
abbrev Pu(m:NM)(r:ah):AH:=[(0,io (.cells [.iv (CO m)])),(1,io (aj r.c))]
theorem Pd(m:NM)(r:ah)(l:Lit):bW prog 102 [ag l.c,.ptr 0 0,.ptr 1 0] (T9 m r) (pB (rQ m r l)) (Pu m r) 2:=by
 refine aB ab func102 Z (by decide) ntmps102 Z (by simp) ?_;refine zJ Z Z (fun b=>?_) fun b=>?_
 .have b:l.kind=1:=zT b;refine gA Z (zD [] Z (zM ⟨.of_eq (fV (by rw[rQ,decide_eq_true b,ZR])),rfl,ac⟩ ((zO (zK ac)))))
 .have b: ¬l.kind=1:=zF b;refine gA Z (zD [] Z (zM ⟨.of_eq (fV (by rw[rQ,decide_eq_false b,aad])),rfl,ac⟩ ((zO (zK ac)))))
abbrev KJ:PV:= .du (.func 102) [] [.ptr 0 0,.ptr 1 0]
theorem Pb(m:NM)(r:ah)(l:List Lit):bW prog 130 [.iv (cZ 30 l Lit.c),KJ] (T9 m r) (pI (tr (rQ m r) l)) (Pu m r) 2:=by
 refine vN (bF func130 Z (by decide)) ⟨_,_,Zo⟩ fun j=>?_;simp only[maxLen]at j;refine aB ab func130 Z (by decide) ntmps130 Z (by simp) ?_;refine gA Z ?_
 refine aw 0 l.length (Zf _) (fun i=>⟨[(0,.iv (cZ 30 l Lit.c)),(1,KJ),(7,pI l.length),(8,pI i)],Pu m r,2⟩) (fun i=>(l.take i).any (rQ m r)=lc) [] (by simp)
  (zW ((zO (zK trivial)))) fun i x u=>?_
 refine zJ Z Z (fun b=>?_) fun b=>?_
 .have b:=ci b;refine gA Z (zq [0,1] (Pd m r (l.getD i em)) ?_);refine zJ Z Z (fun d=>?_) fun d=>?_
  .have d:rQ m r (l.getD i em)=kw:=d;rw[jf u b d];refine gA Z (zD [] Z (zW ((zO (zK ac)))))
  .have d:rQ m r (l.getD i em)=lc:=d;refine gA Z ⟨b,(aW u b).2 d,[],zW ((zO (zK ac)))⟩
 .have b:=co b;rw[iK (any_none u b)];refine gA Z (zD [] Z (zW ((zO (zK ac)))))
theorem Pc(m:NM)(r:ah)(l:List Lit):bW prog 101 [.iv (cZ 30 l Lit.c),KJ] (T9 m r) (pB (l.any (rQ m r))) (Pu m r) 2:=by
 refine aB ab func101 Z (by decide) ntmps101 Z (by simp) ?_;refine gA Z (zq [0,1] (Pb m r l) ?_);refine gA Z (zD [] Z (zM ⟨.of_eq (fV (j9 _ l)),rfl,ac⟩ ((zO (zK ac)))))
theorem TP(m:NM)(r:ah):Pure prog 60 [ag r.c,.iv (CO m)] (pB (r.body.any (rQ m r))):=by
 refine ae ab func60 Z (by decide) ntmps60 Z (by simp) Z ?_;refine gA Z (zq [1,0] (Pc m r r.body) ?_);exact zU Z
def zn(m:NM)(r:ah)(l:Lit):Bool:=li (l.kind≠1)&&(named l).any fun t=>li (bU .str m t 0=bU .str m r.head.rel 0)
def zz(m:NM)(r:ah)(t:Term):Bool:=li (t.kind=1)&&!aH (fU r) t.var&&r.body.any (rQ m r)
def lj(m:NM)(r:ah):aZ:=match r.body.find? (zn m r) with
 |some l=>(70,l.at)
 |none=>if r.head.ad.any (zz m r)=kw then(71,r.at_) else aZ.z
theorem TM(m:NM)(r:ah)(hb:r.size<=10000000):Pure prog 57 [ag r.c,.iv (CO m)] (ag (lj m r).c):=by
 have D:r.body.length<=10000000:=by have:=Lit.au r.body;unfold ah.size at hb;omega
 have J:r.head.ad.length<=10000000:=by unfold ah.size at hb;omega
 refine ae ab func57 Z (by decide) ntmps57 Z (by simp) Z ?_;refine gA Z ?_;refine aw 0 r.body.length (Zf _) (fun i=>⟨[(1,.iv (CO m)),(2,.ptr 0 0),(4,.ptr 1 0),(13,.iv (lits r.body)),(14,pI r.body.length),(15,pI i)],[(0,io (aj r.c)),(1,io (aj aZ.z.c))],2⟩) (fun i=>(r.body.take i).any (zn m r)=lc) [] (by simp)
  (zW (zK (zK trivial))) fun i S y=>?_
 refine zJ Z Z (fun u=>?_) fun u=>?_
 .have u:=ci u;have I:(r.body.getD i em).size<=10000000:=by have:=Lit.aF r.body i u;unfold ah.size at hb;omega
  have G:=kD (r.body.getD i em);refine gA Z (zp (GY (r.body.getD i em) (by omega)) ?_);refine gA Z ?_;refine aw 0 (named (r.body.getD i em)).length (Zf _) (fun k=>⟨[(1,.iv (CO m)),(2,.ptr 0 0),(4,.ptr 1 0),(6,.ptr 2 0),(13,.iv (lits r.body)),(14,pI r.body.length),(15,pI i),(20,.iv (strs (named (r.body.getD i em)))),(21,pI (named (r.body.getD i em)).length),(22,pI k)],[(0,io (aj r.c)),(1,io (aj aZ.z.c)),(2,io (aj (r.body.getD i em).c))],3⟩)
   (fun k=>li ((r.body.getD i em).kind≠1)=lc∨((named (r.body.getD i em)).take k).any (fun t=>li (bU .str m t 0=bU .str m r.head.rel 0))=lc) [] (.inr (by simp))
   (zW (zK (zK (zK trivial)))) fun k F hK=>?_
  refine zJ Z Z (fun b=>?_) fun b=>?_
  .have b:k<(named (r.body.getD i em)).length:=by simpa using b
   refine zJ Z Z (fun d=>?_) fun d=>?_
   .have d: ¬(r.body.getD i em).kind=1:=by simpa using d
    have hK:=hK.resolve_left (by simpa using d);refine zJ Z Z (fun j=>?_) fun j=>?_
    .have j:bU .str m ((named (r.body.getD i em)).getD k em) 0=bU .str m r.head.rel 0:=zT j;have B:zn m r (r.body.getD i em)=kw:=by
      rw[zn,decide_eq_true d,ZR];exact iN b (decide_eq_true j)
     rw[lj,kZ y u B];exact zU Z
    .have j: ¬bU .str m ((named (r.body.getD i em)).getD k em) 0=bU .str m r.head.rel 0:=zF j;refine gA Z ⟨b,.inr ((aW hK b).2 (decide_eq_false j)),[],zW (zK (zK (zK ac)))⟩
   .have d:(r.body.getD i em).kind=1:=by simpa using d
    refine gA Z ⟨b,.inl (decide_eq_false fun h=>h d),[],zW (zK (zK (zK ac)))⟩
  .have b:(named (r.body.getD i em)).length<=k:=by simpa using b
   have B:zn m r (r.body.getD i em)=lc:=by
    rcases hK with hK|hK
    .rw[zn,hK,aad]
    .rw[zn,any_none hK b,aaa]
   refine gA Z ⟨u,(aW y u).2 B,[],zW (zK (zK ac))⟩
 have u:=co u;have A:r.body.find? (zn m r)=jp:=eN (any_none y u);rw[lj,A];refine gA Z (zp (Ya r hb) ?_);refine gA Z ?_;refine aw 0 r.head.ad.length (Zf _) (fun k=>⟨[(1,.iv (CO m)),(2,.ptr 0 0),(4,.ptr 1 0),(9,.iv (strs (fU r))),(49,.iv (cZ 5 r.head.ad Term.c)),(50,pI r.head.ad.length),(51,pI k)],[(0,io (aj r.c)),(1,io (aj aZ.z.c))],2⟩) (fun k=>(r.head.ad.take k).any (zz m r)=lc) [] (by simp)
  (zW (zK (zK trivial))) fun k F hK=>?_
 refine zJ Z Z (fun b=>?_) fun b=>?_
 .have b:=ci b;have no:zz m r (r.head.ad.getD k em)=lc->(r.head.ad.take (k+1)).any (zz m r)=lc:=(aW hK b).2;refine zJ Z Z (fun d=>?_) fun d=>?_
  .have d:(r.head.ad.getD k em).kind=1:=zT d;refine gA Z (zp (Ag (fU r) (r.head.ad.getD k em).var) ?_);refine zJ Z Z (fun j=>?_) fun j=>?_
   .have j:(!aH (fU r) (r.head.ad.getD k em).var)=kw:=j;refine gA Z (zp (TP m r) ?_);refine zJ Z Z (fun x=>?_) fun x=>?_
    .have x:r.body.any (rQ m r)=kw:=x;rw[am (iN b (by rw[zz,decide_eq_true d,j,x];rfl))];exact zU Z
    .have x:r.body.any (rQ m r)=lc:=x;refine gA Z ⟨b,no (by rw[zz,x,aaa]),[],zW (zK (zK ac))⟩
   .have j:(!aH (fU r) (r.head.ad.getD k em).var)=lc:=j;refine gA Z ⟨b,no (by rw[zz,j,aaa,aad]),[],zW (zK (zK ac))⟩
  .have d: ¬(r.head.ad.getD k em).kind=1:=zF d;refine gA Z ⟨b,no (by rw[zz,decide_eq_false d,aad,aad]),[],zW (zK (zK ac))⟩
 .have b:=co b;rw[be (by rw[any_none hK b];decide)];exact zU Z
theorem find_congr{α:Type}{f g:α->Bool}: ∀{l:List α},(∀x∈l,f x=g x)->l.find? f=l.find? g
 | [],_=>rfl
 |x::l,h=>by
  rw[aaY,aaY,h x Zo,find_congr fun y b=>h y (Zn _ b)]
theorem y8{α:Type}{f g:α->Bool}{l:List α}(h: ∀x∈l,f x=g x):l.any f=l.any g:=by
 rw[ZW,ZZ,ZZ];exact⟨fun⟨x,hx,h1⟩=>⟨x,hx,by rw[<-h x hx];exact h1⟩,fun⟨x,hx,h1⟩=>⟨x,hx,by rw[h x hx];exact h1⟩⟩
theorem B5{p:Prog}{a:ak}(h:a∈p.aD.map Decl.name):a∈ns p:=by rw[ns,gu];exact h
theorem T8{p:Prog}(hf:nk p){m:NM}(hR:Go.Rg.zi (ns p) (eg p) (fun a=>bU .str m a 0)){r:ah}(hr:r∈p.rules):r.body.any (rQ m r)=nP p r:=by
 refine y8 fun l d=>?_;rw[rQ];by_cases b:l.kind=1
 .have j:l.atom.rel∈named l:=by rw[qq,am (.inl b)];exact aa1 _
  rw[vS hR (B5 (hf.lits r hr l d _ j)) (B5 (hf.yr r hr))]
 .rw[decide_eq_false b];rfl
theorem JQ{p:Prog}(hf:nk p){m:NM}(hR:Go.Rg.zi (ns p) (eg p) (fun a=>bU .str m a 0)){r:ah}(hr:r∈p.rules):lj m r=gQ p r:=by
 have b:r.body.find? (zn m r)=rm p r:=find_congr fun l j=>by
  rw[zn];congr 1;exact y8 fun t u=>(vS hR (B5 (hf.lits r hr l j t u)) (B5 (hf.yr r hr))).symm
 have d:r.head.ad.any (zz m r)=(iM r&&nP p r):=by
  rw[<-T8 hf hR hr,iM];have:zz m r=fun t=>(li (t.kind=1)&&!aH (fU r) t.var)&&r.body.any (rQ m r):=rfl;rw[this];generalize r.body.any (rQ m r)=c;cases c<;>simp
 rw[lj,gQ,b];cases rm p r with
 |some l=>rfl
 |none=>
  simp only[d,Zw]
theorem TU(b:kz){p:Prog}(hb:p.fit)(h: ¬(dB p).1=0):Pure prog 50 [ag p.c] (.bQ [.iv (.v (.map jp)),pB lc]):=by
 have:=Sx b p hb;rwa[yw,be h,decide_eq_false h]at this
theorem TR(b:kz){p:Prog}(hb:p.fit)(h:(dB p).1=0):Pure prog 50 [ag p.c] (.bQ [.iv (AY (c4 p (c5 p))),pB kw]):=by
 have:=Sx b p hb;rwa[yw,am h,decide_eq_true h]at this
theorem xD{α β:Type}(f:α->List β)(g:α->Nat)(h: ∀a,(f a).length<=g a): ∀l:List α,(l.flatMap f).length<=(l.map g).sum
 | []=>Zc _
 |a::l=>by
  have b:=xD f g h l;have d:=h a;rw[ZX,Y8,Zr,aaW];omega
theorem iG: ∀l:List Lit,Lit.az l=(l.map Lit.size).sum
 | []=>rfl
 |x::l=>by rw[Lit.az,iG l,Zr,aaW]
theorem Je{p:Prog}(hs:p.size<=10000000):(c5 p).length<=100000000:=by
 have b:=xD (fun r:ah=>r.body.flatMap fun l=>(named l).map fun t=>(r.head.rel,t,gz l)) ah.size (fun r=>by
  have:=xD (fun l=>(named l).map fun t=>(r.head.rel,t,gz l)) Lit.size (fun l=>by rw[ZE];exact kD l) r.body;rw[<-iG]at this
  unfold ah.size;omega) p.rules
 unfold Prog.size at hs;show(p.rules.flatMap _).length<=_;omega
theorem T3(D:kz)(p:Prog)(hb:p.fit)(hs:p.size<=10000000):Pure prog 17 [ag p.c] (ag (dU p).c):=by
 by_cases k1:(dB p).1=0;rotate_left
 .rw[dU,am k1];refine ae ab func17 Z (by decide) ntmps17 Z (by simp) Z ?_;refine gA Z (zp (TU D hb k1) ?_);refine zE Z Z (fun A=>?_) fun A=>?_
  .cases A
  refine gA Z (zp (c24 p hb) ?_);exact zU Z
 have I:=Cw k1;have S:p.rules.length<=1000000000:=hb.2.1;rw[dU,be (by simpa using k1)];refine ae ab func17 Z (by decide) ntmps17 Z (by simp) Z ?_;refine gA Z (zp (TR D hb k1) ?_);refine zJ Z Z (fun A=>?_) fun A=>?_
 .cases A
 refine gA Z (HD [] (TQ D I (Je hs)) Z Z Z Z Z Z Z ?_);rintro r Y n' ⟨m,hR,rfl,rfl,rfl⟩;refine⟨_,rfl,?_⟩;have hW:p.rules.map (lj m)=p.rules.map (gQ p):=aaB fun r J=>JQ I hR J;rw[<-hW]
 have y: ∀i,i<p.rules.length->(p.rules.map (lj m)).getD i em=lj m (p.rules.getD i em):=fun i G=>by
  rw[Y6,Zg,Za G,Y6,Za G];rfl
 have j:(p.rules.map (lj m)).length=p.rules.length:=ZE _;refine gA Z ?_;refine aw 0 p.rules.length (Zf _) (fun i=>⟨[(1,.ptr 0 0),(2,.ptr 1 0),(5,.iv (CO m)),(21,.iv (cZ 5 p.rules ah.c)),(22,pI p.rules.length),(23,pI i)],[(0,io (aj p.c)),(1,io (aj aZ.z.c))],2⟩) (fun i=>((p.rules.map (lj m)).take i).any (fun d=>li (d.1≠0))=lc) [] (by simp)
  (zW (zK (zK trivial))) fun i G B=>?_
 refine zJ Z Z (fun b=>?_) fun b=>?_
 .have b:=ci b;have x:=hb.2.2 _ (cv b);have F:=y i b;refine gA Z (zp (TM m (p.rules.getD i em) x.1) ?_);refine zJ Z Z (fun u=>?_) fun u=>?_
  .have u: ¬(lj m (p.rules.getD i em)).1=0:=by simpa using u
   rw[kZ B (by rw[j];exact b) (by rw[F];exact decide_eq_true u),F];exact zU Z
  .have u:(lj m (p.rules.getD i em)).1=0:=by simpa using u
   refine gA Z ⟨b,(aW B (by rw[j];exact b)).2 (by rw[F];simpa using u),[],zW (zK (zK ac))⟩
 .have b:=co b;rw[eN (any_none B (by rw[j];exact b))];exact zU Z
end Go.Proofs.YtflegjieadkonaaGreatDoor
namespace Go.Proofs.YtflegjieadkonaaGreatDoor
open Go Go.Al
section
section
variable {X:Type} (f:X->AO)
def eT(L:List (Nat×Nat×X)):bf:=fun c=>(L.find? fun y=>y.1==c).map fun y=> .obj (f y.2.2) y.2.1
theorem cP(L:List (Nat×Nat×X)):(eT f L).still:=by
 intro b i e h;unfold eT at h;cases hf:L.find? fun y=>y.1==b<;>rw[hf]at h<;>cases h
theorem EG: ∀{L:List (Nat×Nat×X)} {j:Nat} {y:Nat×Nat×X},(L.map ZB).Nodup->L[j]? =io y->L.find? (fun z=>z.1==y.1)=io y
 | [],_,_,_,h=>by simp at h
 |x::L,0,y,_,h=>by
  simp only[abS,Y9]at h;subst h;simp
 |x::L,j+1,y,hn,h=>by
  rw[abd]at h;rw[Zr,aat]at hn;have b: ¬x.1=y.1:=fun e=>hn.1 (e▸abt (ZC h));rw[acg (by simpa using b)];exact EG hn.2 h
theorem dd{L:List (Nat×Nat×X)}{j:Nat}{y:Nat×Nat×X}(hn:(L.map ZB).Nodup)(h:L[j]? =io y):eT f L y.1=io (.obj (f y.2.2) y.2.1):=by
 unfold eT;rw[EG hn h];rfl
theorem kC{L:List (Nat×Nat×X)}{c:Nat}(h:c∉L.map ZB):eT f L c=jp:=by
 unfold eT;rw[abh,aaz];intro y b;simp only[beq_iff_eq];exact fun e=>h (e▸abt b)
theorem ub{L:List (Nat×Nat×X)}{c:Nat}(h:eT f L c=jp):c∉L.map ZB:=by
 intro b;obtain⟨y,d,rfl⟩:=ZK.1 b;unfold eT at h;rw[abh,aaz]at h;exact h y d (by simp)
theorem qo{L:List (Nat×Nat×X)}{y:Nat×Nat×X}(hn:(L.map ZB).Nodup)(h:y.1∉L.map ZB):((L++ [y]).map ZB).Nodup:=by
 rw[Ze,aa6];exact⟨hn,by simp,fun u hu v b g=>h (by simp at b;subst g;subst b;exact hu)⟩
theorem sW{L:List (Nat×Nat×X)}{y:Nat×Nat×X}(hn:(L.map ZB).Nodup)(h:y.1∉L.map ZB):(eT f L).put y.1 (.obj (f y.2.2) y.2.1)=eT f (L++ [y]):=by
 funext c
 have b:=qo hn h;unfold bf.put;by_cases d:c=y.1
 .subst d;rw[am Z,dd f b (j:=L.length) (y:=y) (by simp)]
 .rw[be d];by_cases x:c∈L.map ZB
  .obtain⟨z,A,rfl⟩:=ZK.1 x;obtain⟨i,u⟩:=Z7 A;rw[dd f hn u,dd f b (j:=i) (by rw[Zp (Zb.1 u).1];exact u)]
  .rw[kC f x,kC f (by simp only[Ze,Zm,not_or];exact⟨x,by simpa using d⟩)]
theorem Lg{α:Type}{l:List α}:l.Nodup↔ ∀(i j:Nat) (x:α),l[i]? =io x->l[j]? =io x->i=j:=by
 constructor
 .intro h i j x b d;obtain⟨B,u⟩:=Zb.1 b;obtain⟨D,y⟩:=Zb.1 d;exact(abH h).1 (u.trans y.symm)
 .intro h;rw[List.nodup_iff_pairwise_ne,abI];intro i j b d A e;have:=h i j l[i] (Za b) (by rw[Za d,e]);omega
theorem oY{L:List (Nat×Nat×X)}{i:Nat}{y y':Nat×Nat×X}(hn:(L.map ZB).Nodup)(B:L[i]? =io y)(h:y'.1∉L.map ZB∨y'.1=y.1):((L.set i y').map ZB).Nodup:=by
 rw[aaR];have A:=(Zb.1 B).1;have u:(L.map ZB)[i]? =io y.1:=by rw[Zg,B];rfl
 rw[Lg]at hn ⊢;have j: ∀k,(L.map ZB)[k]? =io y'.1->i=k:=by
  intro k e;rcases h with h|h
  .exact absurd (ZC e) h
  .rw[h]at e;exact hn _ _ _ u e
 intro a b x d hb;rw[ZV]at d hb;split at d
 .rw[am (by simpa using A)]at d;cases d;split at hb
  .omega
  .have:=j b hb;omega
 .split at hb
  .rw[am (by simpa using A)]at hb;cases hb;have:=j a d;omega
  .exact hn a b x d hb
theorem Iz{L:List (Nat×Nat×X)}{i j e:Nat}{y y':Nat×Nat×X}(hn:(L.map ZB).Nodup)(B:L[i]? =io y)(h:y'.1∉L.map ZB∨y'.1=y.1):
  (((eT f L).put y.1 (.out j e)).drop y.1).put y'.1 (.obj (f y'.2.2) y'.2.1)=eT f (L.set i y'):=by
 funext c
 have x:=oY hn B h;have D:=(Zb.1 B).1;unfold bf.put bf.drop;by_cases A:c=y'.1
 .subst A;rw[am Z,dd f x (j:=i) (y:=y') (by rw[ZV,am Z,am D])]
 .rw[be A];by_cases d:c=y.1
  .rw[am d,kC f];rw[aaR];intro u;obtain⟨k,b⟩:=Z7 u;rw[ZV]at b;split at b
   .rw[am (by simpa using D)]at b;cases b;exact A Z
   .rename_i F;have G:(L.map ZB)[i]? =io y.1:=by rw[Zg,B];rfl
    rw[d]at b;exact F (Lg.1 hn _ _ _ G b)
  .rw[be d];show(if c=y.1 then _ else eT f L c)=_;rw[be d];by_cases u:c∈L.map ZB
   .obtain⟨z,S,rfl⟩:=ZK.1 u;obtain⟨k,b⟩:=Z7 S;have I: ¬i=k:=fun g=>d (by subst g;rw[B]at b;cases b;rfl);rw[dd f hn b,dd f x (j:=k) (by rw[ZV,be I];exact b)]
   .rw[kC f u,kC f];rw[aaR];intro J;obtain⟨k,b⟩:=Z7 J;rw[ZV]at b;split at b
    .rw[am (by simpa using D)]at b;cases b;exact A Z
    .exact u (ZC b)
end
end
section
section
variable {nt:Nat} {all:List Oper} {todo pend:List (Nat×Oper)} {R:XQ} {s s':AS} {X:bf}
theorem dR(n:Nat){C:Prop}{d b:List (Nat×Oper)}(h:SQ pC nt all n todo pend s True=(C,d,b,s'))(g:CQ Tryz.prog nt all d b R s' X)
  (hC:C:=by(repeat' (first|exact ac|exact rfl|exact aK.refl _|exact aK.bk (by assumption)|apply ZU))<;>first|omega|exact fQ (fun _=>rfl) _|(simp only[Zx];omega)|(simp;done)|(simp;omega)):CQ Tryz.prog nt all todo pend R s X:=Qv ab n h hC g
theorem dO{j:Nat}{o:Oper}{C b:Prop}(hrd:fw todo=[(j,o)])(ho:Xv pC nt s o=io (C,s'))(hg:cJ nt all s.f o=io kw)(hpb:jM all pend o=kw)(hE:pj todo [j]=kw)(hag:eD pC nt all s' (bp pend o)=io b)
  (h:CQ Tryz.prog nt all (todo.filter fun x=>!Zz x.1 j) (bp pend o) R s' X)
  (hC:C∧b:=by(repeat' (first|exact ac|exact rfl|exact aK.refl _|exact aK.bk (by assumption)|apply ZU))<;>first|omega|exact fQ (fun _=>rfl) _|(simp only[Zx];omega)|(simp;done)|(simp;omega)):CQ Tryz.prog nt all todo pend R s X:=
 UN ab hrd ho hg hpb hE hag hC.1 hC.2 h
end
end
section
section
variable {V:Type}
end
abbrev GrM:=List ((KC.int .i64).K×List ak)
abbrev Y0:=List ((KC.int .i64).K×Int)
def dn(dm:Y0)(x:Int):Bool:=li (x∈dm.map ZB)
section
variable {p:Prog} {ring:ak->Int} {dm:Y0} {out:List (List ak)}
def scP(p:Prog)(a:ak):List ak:=(ns p).filter (eg p a)
structure CpI (p:Prog) (ring:ak->Int) (dm:Y0) (out:List (List ak)):Prop where
 one: ∀e∈dm,e.2=1
 nd:(dm.map ZB).Nodup
 sub: ∀k∈dm.map ZB,∃a∈ns p,ring a=k
 cl:Go.Co.closed (ns p).length (jV p) fun j=>dn dm (ring ((ns p).getD j em))
 eq: ∃f,f+dm.length=(ns p).length∧out++Go.Rg.Gg (ns p) (scP p) ring f (dn dm)=Go.Rg.Gg (ns p) (scP p) ring (ns p).length fun _=>lc
 len:out.length=dm.length
end
end
abbrev Xn:=Int×Nat×List ak
abbrev GL:=List (Nat×Nat×Xn)
def fR(x:Xn):AO:=aE 1 x.2.2 cz
def TH(o:Option (Nat×Nat×Nat)):Value:=match o with
 |none=> .slice jp 0 0
 |some (b,len,cap)=> .slice (io ⟨b,0,jp⟩) len cap
def PI(o:Option (Nat×Nat×Nat)):IV:= .v (TH o)
def dvS(p:PV):Option (Nat×Nat×Nat):=match p with
 | .iv (.v (.slice (io ⟨b,0,jp⟩) len cap))=>io (b,len,cap)
 |_=>jp
abbrev OM:=List ((KC.int .i64).K×Option (Nat×Nat×Nat))
abbrev Un(m:OM):AO:= .map (.int .i64) PI jp (.slice jp 0 0) dvS m
def ofM(L:GL):OM:=L.map fun y=>(y.2.2.1,io (y.1,y.2.2.2.2.length,y.2.2.2.1))
def oA(L:GL):GrM:=L.map fun y=>(y.2.2.1,y.2.2.2.2)
structure Ra (L:GL):Prop where
 nd:(L.map ZB).Nodup
 ok: ∀y∈L,y.2.2.2.2≠ []∧y.2.2.2.2.length<=y.2.2.2.1∧y.2.2.2.1<=maxLen∧y.2.2.2.1*1=y.2.1
theorem HN(L:GL)(k:Int):lB (.int .i64) (ofM L) k=lB (.int .i64) (oA L) k:=by
 induction L with
 |nil=>rfl
 |cons y L b=>
  have b:lB (.int .i64) (ofM L) k=lB (.int .i64) (oA L) k:=b;unfold ofM oA at b ⊢;simp only[Zr,lB,b]
theorem Dx(l:List ak):(aE 1 l cz).all PV.flat:=by
 intro e b q d;obtain⟨s,_,rfl⟩:=ZK.1 b;obtain⟨x,_,rfl⟩:=ZK.1 d;trivial
theorem KG{l:List ak}{a:ak}:(aE 1 (l++ [a]) cz).real=kw:=by cases l<;>rfl
theorem Fu{L:GL}{b j e:Nat}:(((eT fR L).put b (.out j e)).drop b).still:=by
 intro c i g h;unfold bf.drop bf.put at h;split at h
 .cases h
 .exact cP fR L c i g h
theorem PW{L:GL}{y:Nat×Nat×Xn}(h:Ra L)(hb:y.1∉L.map ZB)(b:y.2.2.2.2≠ []∧y.2.2.2.2.length<=y.2.2.2.1∧y.2.2.2.1<=maxLen∧y.2.2.2.1*1=y.2.1):Ra (L++ [y]):=
 ⟨qo h.nd hb,fun z hz=>by
  rcases Zm.1 hz with hz|hz
  .exact h.ok z hz
  .rw[Zk]at hz;subst hz;exact b⟩
theorem Uj{L:GL}{i:Nat}{y y':Nat×Nat×Xn}(h:Ra L)(hi:L[i]? =io y)(hb:y'.1∉L.map ZB∨y'.1=y.1)(d:y'.2.2.2.2≠ []∧y'.2.2.2.2.length<=y'.2.2.2.1∧y'.2.2.2.1<=maxLen∧y'.2.2.2.1*1=y'.2.1):Ra (L.set i y'):=
 ⟨oY h.nd hi hb,fun z b=>by
  rcases abL b with b|rfl
  .exact h.ok z b
  .exact d⟩
theorem Js{L:GL}{c j e:Nat}{y:Nat×Nat×Xn}(h:((eT fR L).put y.1 (.out j e)).drop y.1 c=jp):c∉L.map ZB∨c=y.1:=by
 by_cases b:c=y.1
 .exact .inr b
 .unfold bf.drop bf.put at h;rw[be b,be b]at h;exact .inl (ub fR h)
def dvL(_:PV):List ak:=[]
theorem Vv{L:GL}(h:Ra L):Np (eT fR L) (Un (ofM L)) (.map (.int .i64) strs [] (.slice jp 0 0) dvL (oA L)):=by
 refine .map _ _ _ _ _ _ _ _ _ _ (by simp[ofM,oA]) (fun j D b=>?_) fun M=> .j8 ..
 .unfold oA at b;rw[Zg,Zi]at b;obtain⟨y,d,rfl⟩:=b;obtain⟨A,u,x,B⟩:=h.ok y (ZC d);refine⟨(y.2.2.1,io (y.1,y.2.2.2.2.length,y.2.2.2.1)),.slice (io ⟨y.1,0,jp⟩) y.2.2.2.2.length y.2.2.2.1,?_,rfl,rfl,?_⟩
  .unfold ofM;rw[Zg,d];rfl
  .exact .row y.1 _ _ 1 y.2.1 _ _ (dd fR h.nd d) (by simp) u x (eE Z)
section
section
variable {p:Prog}
def vD(p:Prog)(i:Nat):ak:=(ns p).getD i em
theorem CY(hf:nk p){i j:Nat}(hi:i<(ns p).length)(hj:j<(ns p).length)(h:vD p i=vD p j):i=j:=by
 have b:=pX.K9 (fS hf.nodup);unfold vD at h;rw[Y6,Y6,Za hi,Za hj]at h;exact(abH b).1 h
end
end
theorem ME{p:Prog}(h:(dU p).1=0):(dB p).1=0∧dU p=aZ.z:=by
 unfold dU at h ⊢;by_cases k1:(dB p).1=0
 .rw[be (by simpa using k1)]at h ⊢;refine⟨k1,?_⟩;cases hf:(p.rules.map (gQ p)).find? fun d=>li (d.1≠0) with
  |none=>rfl
  |some d=>
   rw[hf]at h;have:=List.find?_some hf;simp only[decide_eq_true_eq]at this;exact absurd h this
 .rw[am k1]at h;exact absurd h k1
section
theorem IG{p:Prog}{r:ah}{n:Int}(h:(pG p r n).1=0): ∀l∈r.body,iR l=lc:=by
 intro l d;unfold pG at h;split at h
 .cases h
 .split at h
  .cases h
  .rename_i b;simpa using aaz.1 b l d
section
variable (l:List (ak×Nat)) (c:List (List ak)) (rel:ak)
theorem fold_eq{α γ:Type}{g g':γ->α->γ}: ∀(l:List α) (b:γ),(∀x∈l,∀b,g b x=g' b x)->l.foldl g b=l.foldl g' b
 | [],_,_=>rfl
 |x::l,b,h=>by
  rw[ZD,ZD,h x (Zo ..)];exact fold_eq l _ fun y d=>h y (Zn _ d)
end
section
variable {p:Prog}
end
end
section
structure Nb (p q:Prog):Prop where
 aD:q.aD=p.aD
 len:q.rules.length=p.rules.length
 mem: ∀r,r∈q.rules↔r∈p.rules
section
variable {p q:Prog}
theorem Nb.symm(h:Nb p q):Nb q p:=⟨h.aD.symm,h.len.symm,fun r=>(h.mem r).symm⟩
structure LessR (p q:Prog):Prop where
 aD:q.aD=p.aD
 len:q.rules.length<=p.rules.length
 mem: ∀r∈q.rules,r∈p.rules
end
end
section
def dX{β:Type}(n:Nat)(f:Nat->Nat->β):List (List β):=(Zy n).map fun i=>(Zy n).map fun j=>f i j
section
variable {β:Type} {n:Nat} {f f':Nat->Nat->β}
theorem fv(n:Nat)(f:Nat->Nat->β):(dX n f).length=n:=by simp[dX]
theorem mr{i:Nat}(hi:i<n):(dX n f)[i]? =io ((Zy n).map fun j=>f i j):=by
 unfold dX;rw[Zg,aa7 hi];rfl
theorem ru{g:Nat->β}{j:Nat}(hj:j<n):((Zy n).map g)[j]? =io (g j):=by
 rw[Zg,aa7 hj];rfl
theorem xR{g g':Nat->β}{b:Nat}(hb:b<n)(h: ∀j,j<n->g' j=if j=b then g' b else g j):((Zy n).map g).set b (g' b)=(Zy n).map g':=by
 apply aaU;intro j;rw[ZV];rcases aag j n with hj|hj
 .rw[ru hj,ru hj];by_cases d:b=j
  .subst d;rw[am Z,am (by simpa using hb)]
  .rw[be d,h j hj,be (fun e=>d e.symm)]
 .rw[be (by omega),abl (by simpa using hj),abl (by simpa using hj)]
theorem Db{a b:Nat}(ha:a<n)(hb:b<n)(h: ∀i j,i<n->j<n->f' i j=if i=a∧j=b then f' a b else f i j):(dX n f).set a (((Zy n).map fun j=>f a j).set b (f' a b))=dX n f':=by
 have e:((Zy n).map fun j=>f a j).set b (f' a b)=(Zy n).map fun j=>f' a j:=xR hb fun j x=>by
  rw[h a j ha x];by_cases u:j=b
  .simp[u]
  .simp[u]
 rw[e];unfold dX;refine xR (g:=fun i=>(Zy n).map fun j=>f i j) (g':=fun i=>(Zy n).map fun j=>f' i j) ha fun i y=>?_;by_cases d:i=a
 .rw[am d,d]
 .rw[be d];refine aaB fun j x=>?_;rw[h i j y (aam.1 x),be (fun g=>d g.1)]
theorem mu(h: ∀i j,i<n->j<n->f i j=f' i j):dX n f=dX n f':=by
 unfold dX;exact aaB fun i b=>aaB fun j d=>h i j (aam.1 b) (aam.1 d)
end
def gF(p:Prog)(hs:List (ak×ak×Nat))(i j:Nat):Int:=gD hs (vD p i) (vD p j)
theorem UF{hs:List (ak×ak×Nat)}(h: ∀x∈hs,x.2.2<=2)(a b:ak):gD hs a b<=2:=by
 rcases SO hs a b with h1|h1
 .omega
 .exact h _ h1
theorem HH{p:Prog}(hf:nk p){hs:List (ak×ak×Nat)}{a b k:Nat}(ha:a<(ns p).length)(hb:b<(ns p).length)(i j:Nat)(hi:i<(ns p).length)(hj:j<(ns p).length):
  gF p (hs++ [(vD p a,vD p b,k)]) i j=if i=a∧j=b then gF p (hs++ [(vD p a,vD p b,k)]) a b else gF p hs i j:=by
 by_cases h:i=a∧j=b
 .rw[am h,h.1,h.2]
 .rw[be h];unfold gF;rw[HI,be];rintro⟨h1,h2⟩;exact h ⟨(CY hf ha hi h1).symm,(CY hf hb hj h2).symm⟩
theorem SN{p:Prog}{hs:List (ak×ak×Nat)}{a b k:Nat}:gF p (hs++ [(vD p a,vD p b,k)]) a b=max (gF p hs a b) k:=by
 unfold gF;rw[HI,am ⟨rfl,rfl⟩];show((max (gD hs (vD p a) (vD p b)) k:Nat):Int)=max (gD hs (vD p a) (vD p b):Int) (k:Int);omega
end
end Go.Proofs.YtflegjieadkonaaGreatDoor
namespace Go.Proofs.YtflegjieadkonaaGreatDoor
open Go Go.Al Go.Proofs.Tryz
theorem Nr{s x:ak}{a:List ak}(h:Op.bytesLess s.toList x.toList=kw):bV s (a,lc) x=(a++ [s]++ [x],kw):=by
 have b:JO s x:=(Bg s x).1 h;have d: ¬x=s:=fun e=>kE s (e▸b)
 have j:Op.bytesLess x.toList s.toList=lc:=by
  cases hc:Op.bytesLess x.toList s.toList with
  |false=>rfl
  |true=>exact absurd (vv b ((Bg x s).1 hc)) (kE s)
 simp[bV,d,j]
theorem Nt{s x:ak}{a:List ak}(h:s=x):bV s (a,lc) x=(a++ [x],kw):=by
 simp[bV,h]
theorem Ns{s x:ak}{a:List ak}(h:Op.bytesLess s.toList x.toList=lc)(h2: ¬s=x):bV s (a,lc) x=(a++ [x],lc):=by
 have b:JO x s:=Hh h2 fun g=>by rw[(Bg s x).2 g]at h;cases h
 have d: ¬x=s:=fun e=>h2 e.symm;simp[bV,d,(Bg x s).2 b]
theorem JS{s x:ak}{a:List ak}:bV s (a,kw) x=(a++ [x],kw):=by simp[bV]
theorem XG(l:List ak)(s:ak)(hb:l.length<=1000000000000):Pure prog 93 [.iv (strs l),pS s] (.iv (strs (b6 l s))):=by
 refine ae ab func93 Z (by decide) ntmps93 Z (by simp) Z ?_;refine gA Z ?_;refine fY 5 1 Z ?_;refine aw 0 l.length (Zf _) (fun i=>⟨[(0,.iv (strs l)),(1,pS s),(5,.sl 1 0 (iO l s i).1.length 1),(6,pB (iO l s i).2),(7,pI i)],[(1,io (aE 1 (iO l s i).1 cz))],2⟩) (fun _=>True) [0] ac
  (zM (bv (bv (bv ⟨.rC Z,rfl,bv trivial⟩))) (zS trivial)) fun i S _=>?_
 have F:=rf l s i S;have I:(iO l s i).1.length<=i+1:=by split at F<;>omega
 have G:=sI (l:=l) (s:=s) (i:=i);have J:=sH (l:=l) (s:=s) (i:=i);generalize iO l s i=A at*
 obtain⟨a,b⟩:=A;refine zJ Z Z (fun u=>?_) fun u=>?_
 .have u:=ci u;have d:=J u;refine zJ Z Z (fun j=>?_) fun j=>?_
  .have j:(!b)=kw:=j;have B:b=lc:=by simpa using j
   subst B;refine zJ Z Z (fun x=>?_) fun x=>?_
   .have x:(Op.bytesLess s.toList (l.getD i em).toList||decide (s=l.getD i em))=kw:=x;refine zJ Z Z (fun y=>?_) fun y=>?_
    .have y:Op.bytesLess s.toList (l.getD i em).toList=kw:=y;rw[Nr y]at d;refine gA Z ⟨u,ac,[5],zM (bv (bv ⟨.row (by rw[d];simp),rfl,.rC (by rw[d]),rfl,bv ac⟩)) (hR Z (by rw[d,Ze,Ze];rfl) Z ac)⟩
    .have y:Op.bytesLess s.toList (l.getD i em).toList=lc:=y;rw[y,aan,decide_eq_true_eq]at x;rw[Nt x]at d;refine gA Z ⟨u,ac,[3],zM (bv (bv ⟨.row (by rw[d];simp),rfl,.rC (by rw[d]),rfl,bv ac⟩)) (hR Z (by rw[d];simp;rfl) Z ac)⟩
   .have x:(Op.bytesLess s.toList (l.getD i em).toList||decide (s=l.getD i em))=lc:=x;rw[ZG,decide_eq_false_iff_not]at x;rw[Ns x.1 x.2]at d;refine gA Z ⟨u,ac,[3],zM (bv (bv ⟨.row (by rw[d];simp),rfl,.of_eq (by rw[d];rfl),rfl,bv ac⟩)) (hR Z (by rw[d];simp;rfl) Z ac)⟩
  .have j:(!b)=lc:=j;have D:b=kw:=by simpa using j
   subst D;rw[JS]at d;refine gA Z ⟨u,ac,[3],zM (bv (bv ⟨.row (by rw[d];simp),rfl,.of_eq (by rw[d];rfl),rfl,bv ac⟩)) (hR Z (by rw[d];simp;rfl) Z ac)⟩
 .have u:=co u;rw[G u];refine zJ Z Z (fun j=>?_) fun j=>?_
  .have j:(!b)=kw:=j;have B:b=lc:=by simpa using j
   subst B;show GO _ _ _ (Ff pC f93.results.toList (.iv (strs (a++ [s])))) _;refine gA Z (cS (by first|exact .inr Z|exact .inl Z) Z Z ((by rw[Ze];rfl)) ((by rw[Y8];rfl)))
  .have j:(!b)=lc:=j;have D:b=kw:=by simpa using j
   subst D;show GO _ _ _ (Ff pC f93.results.toList (.iv (strs a))) _;refine gA Z (cS (by first|exact .inr Z|exact .inl Z) Z Z (rfl) (rfl))
theorem FO(p:Prog)(i:Nat):(((p.aD.take i).map Decl.name).foldl b6 []).length<=i:=by
 have h:=eP ((p.aD.take i).map Decl.name) [];unfold cy at h;simp only[aai,Zu,ZE,ZP]at h;omega
theorem Pf(p:Prog)(hb:p.aD.length<=1000000000):Pure prog 54 [ag p.c] (.iv (strs ((p.aD.map Decl.name).foldl b6 []))):=by
 refine ae ab func54 Z (by decide) ntmps54 Z (by simp) Z ?_;refine gA Z ?_;refine aw 0 p.aD.length (Zf _) (fun i=>⟨[(1,.ptr 0 0),(3,.iv (strs (((p.aD.take i).map Decl.name).foldl b6 []))),(4,pI i)],[(0,io (aj p.c))],1⟩) (fun _=>True) [] ac
  (zM (bv ⟨.nil _ _,rfl,bv trivial⟩) (zK trivial)) fun i j _=>?_
 have u:=FO p i;refine zJ Z Z (fun b=>?_) fun b=>?_
 .have b:=ci b;have d:((p.aD.take (i+1)).map Decl.name).foldl b6 []=b6 (((p.aD.take i).map Decl.name).foldl b6 []) (p.aD.getD i em).name:=by
   rw[ba b,Ze,aaE];rfl
  refine gA Z (zp (XG (((p.aD.take i).map Decl.name).foldl b6 []) (p.aD.getD i em).name (by omega)) ?_);refine gA Z ⟨b,ac,[],zM (bv ⟨.of_eq (by rw[d];rfl),rfl,bv ac⟩) (zK ac)⟩
 .have b:=co b;rw[Zh b];exact zU Z
theorem Pe{p:Prog}(hf:nk p):Pure prog 54 [ag p.c] (.iv (strs (ns p))):=by
 have h:=Pf p (by have:=hf.len;omega);have e:(p.aD.map Decl.name).foldl b6 []=ns p:=by
  rw[<-I1 hf.nodup];exact fold_eq _ _ fun x _ b=>re b x
 rwa[e]at h
abbrev JL(l:List ak)(s:ak):Int:=tr (fun x:ak=>li (x=s)) l
theorem rr(l:List ak)(s:ak):Pure prog 94 [.iv (strs l),pS s] (pI (JL l s)):=by
 refine mA (bF func94 Z (by decide)) ⟨_,_,Zo⟩ fun j=>?_;simp only[maxLen]at j;refine ae ab func94 Z (by decide) ntmps94 Z (by simp) Z ?_;refine gA Z ?_
 refine aw 0 l.length (Zf _) (fun i=>⟨[(0,.iv (strs l)),(1,pS s),(5,pI i)],[],0⟩) (fun i=>(l.take i).any (fun x=>li (x=s))=lc) [] Z
  (lJ Z Z (bv (bv (bv trivial))) Z) fun i y u=>?_
 refine zJ Z Z (fun b=>?_) fun b=>?_
 .have b:=ci b;refine zJ Z Z (fun d=>?_) fun d=>?_
  .have d:l.getD i em=s:=zT d;refine gA Z (zL (.of_eq ?_));rw[JL,jf u b (decide_eq_true d)];rfl
  .have d: ¬l.getD i em=s:=zF d;refine gA Z ⟨b,(aW u b).2 (by simpa using d),[],lJ Z Z (bv (bv (bv ac))) Z⟩
 .have b:=co b;refine gA Z (zL (.of_eq ?_));rw[JL,iK (any_none u b)];rfl
theorem GV(l:List ak)(s:ak)(_:l.length<=1000000000000):Pure prog 94 [.iv (strs l),pS s] (pI (JL l s)):=rr l s
theorem Wh(l:List ak)(s:ak):li (JL l s<0)=!aH l s:=by
 have h:li (JL l s>=0)=aH l s:=j9 _ l;rw[<-h,<-decide_not,decide_eq_decide];omega
theorem KW{p:Prog}(hf:nk p){i:Nat}(hi:i<(ns p).length):JL (ns p) (vD p i)=i:=by
 refine jf ?_ hi (decide_eq_true Z);rw[Z3];intro y d;obtain⟨j,u,rfl⟩:=abM.1 d;rw[decide_eq_true_eq];intro g;have b:j<(ns p).length:=by omega
 have:vD p j=vD p i:=by
  rw[<-g];unfold vD;rw[Y6,Za b];rfl
 have:=CY hf b hi this;omega
theorem Gl{b:List Lit}{i:Nat}(h:i<b.length):((b.take (i+1)).filter fun x=>li (x.kind=1∨x.kind=2)).map (fun x=>x.atom.rel)=((b.take i).filter fun x=>li (x.kind=1∨x.kind=2)).map (fun x=>x.atom.rel)++(if(b.getD i em).kind=1∨(b.getD i em).kind=2 then[(b.getD i em).atom.rel] else[]):=by
 rw[ba h,abk,Ze];congr 1;by_cases d:(b.getD i em).kind=1∨(b.getD i em).kind=2
 .simp only[aaD,d,decide_true,if_true,List.filter_nil,Zr,Z0]
 .simp only[aaD,d,decide_false,if_false,List.filter_nil,Z0,aaG]
end Go.Proofs.YtflegjieadkonaaGreatDoor
namespace Go.Proofs.YtflegjieadkonaaGreatDoor
open Go Go.Al
section
section
variable {β:Type} (el:β->List IV)
abbrev wE(β:Type):=List (Nat×Nat×Nat×List β)
def fT(x:Nat×List β):AO:=aE 1 x.2 el
def IJ(n:Nat)(L:wE β):List (List PV):=L.map fun y=> [PV.iv (PI (io (y.1,n,y.2.2.1)))]
def ta(n:Nat)(y:Nat×Nat×Nat×List β):List IV:=[PI (io (y.1,n,y.2.2.1))]
abbrev rO(n:Nat)(L:wE β):AO:=aE 1 L (ta n)
def dE(L:wE β):List (List β):=L.map fun y=>y.2.2.2
abbrev lF[Inhabited β](r:List β):List IV:=[cZ 1 r el]
structure zg (n:Nat) (L:wE β):Prop where
 nd:(L.map ZB).Nodup
 ok: ∀y∈L,y.2.2.2.length=n∧n<=y.2.2.1∧y.2.2.1<=maxLen∧y.2.2.1*1=y.2.1
theorem GD(n:Nat):zg n ([]:wE β):=⟨aab,fun _ h=>(nomatch h)⟩
theorem C5{n:Nat}{L:wE β}{y:Nat×Nat×Nat×List β}(h:zg n L)(hb:y.1∉L.map ZB)(b:y.2.2.2.length=n∧n<=y.2.2.1∧y.2.2.1<=maxLen∧y.2.2.1*1=y.2.1):zg n (L++ [y]):=
 ⟨qo h.nd hb,fun z hz=>by
  rcases Zm.1 hz with hz|hz
  .exact h.ok z hz
  .rw[Zk]at hz;subst hz;exact b⟩
def p3(L:wE β)(a:Nat)(y:Nat×Nat×Nat×List β)(r:List β):wE β:=L.set a (y.1,y.2.1,y.2.2.1,r)
theorem Bz{n a:Nat}{L:wE β}{y:Nat×Nat×Nat×List β}{r:List β}(h:zg n L)(d:L[a]? =io y)(hr:r.length=n):zg n (p3 L a y r):=
 ⟨oY h.nd d (.inr Z),fun z b=>by
  rcases abL b with b|rfl
  .exact h.ok z b
  .exact⟨hr,(h.ok y (ZC d)).2⟩⟩
theorem PH{n a:Nat}{L:wE β}{y:Nat×Nat×Nat×List β}{r:List β}(b:L[a]? =io y):IJ n (p3 L a y r)=IJ n L:=by
 apply aaU;intro j;unfold IJ p3;rw[Zg,Zg,ZV];by_cases h:a=j
 .subst h;rw[am Z,am (Zb.1 b).1,b];rfl
 .rw[be h]
theorem FD{n a:Nat}{L:wE β}{y:Nat×Nat×Nat×List β}{r:List β}(b:L[a]? =io y):(p3 L a y r).map (fun x=>(ta n x).map PV.iv)=L.map fun x=>(ta n x).map PV.iv:=PH (n:=n) b
theorem oj{n a j e:Nat}{L:wE β}{y:Nat×Nat×Nat×List β}{r:List β}(h:zg n L)(D:L[a]? =io y):((eT (fT el) L).put y.1 (.out j e)).put y.1 (.obj (aE 1 r el) y.2.1)=eT (fT el) (p3 L a y r):=by
 have d:=oY (y':=(y.1,y.2.1,y.2.2.1,r)) h.nd D (.inr Z);have F:=(Zb.1 D).1;rw[bf.G9]
 funext c
 unfold bf.put;by_cases u:c=y.1
 .subst u;rw[am Z];exact(dd (fT el) d (j:=a) (y:=(y.1,y.2.1,y.2.2.1,r)) (by rw[ZV,am Z,am F])).symm
 .rw[be u];by_cases A:c∈L.map ZB
  .obtain⟨z,G,rfl⟩:=ZK.1 A;obtain⟨k,b⟩:=Z7 G;have x: ¬a=k:=fun g=>u (by subst g;rw[D]at b;cases b;rfl);rw[dd (fT el) h.nd b];exact(dd (fT el) d (j:=k) (by rw[ZV,be x];exact b)).symm
  .rw[kC (fT el) A];refine(kC (fT el) ?_).symm;unfold p3;rw[aaR];intro B;obtain⟨k,b⟩:=Z7 B;rw[ZV]at b;split at b
   .rw[am (by simpa using F)]at b;cases b;exact u Z
   .exact A (ZC b)
theorem BB{a:Nat}{L:wE β}{y:Nat×Nat×Nat×List β}{r:List β}:dE (p3 L a y r)=(dE L).set a r:=by
 unfold dE p3;rw[aaR]
theorem Fq{a:Nat}{L:wE β}{y:Nat×Nat×Nat×List β}(b:L[a]? =io y):(dE L)[a]? =io y.2.2.2:=by
 unfold dE;rw[Zg,b];rfl
theorem Vw[Inhabited β]{n:Nat}{L:wE β}(h:zg n L):Np (eT (fT el) L) (.row 1 (IJ n L)) (aE 1 (dE L) (lF el)):=by
 refine .row 1 _ _ (by simp[IJ,dE]) fun k D d=>?_;unfold dE at d;rw[aa4,Zg,Zi]at d;obtain⟨y,u,rfl⟩:=d;refine⟨[PV.iv (PI (io (y.1,n,y.2.2.1)))],by unfold IJ;rw[Zg,u];rfl,rfl,fun j G b=>?_⟩
 match j,b with
 |0,b=>
  cases b;obtain⟨x,A,B,F⟩:=h.ok y (ZC u);refine⟨_,rfl,.inr ⟨_,_,rfl,rfl,?_⟩⟩;show Up _ (.slice (io ⟨y.1,0,jp⟩) n y.2.2.1) (cZ 1 y.2.2.2 el);rw[<-x];exact .row y.1 _ _ 1 y.2.1 _ _ (dd (fT el) h.nd u) (by simp) (by rw[x];exact A) B (eE Z)
 |j+1,b=>exact nomatch b
theorem jJ{r:List β}:(aE 1 r el).all PV.flat:=by
 intro e b q d;obtain⟨s,_,rfl⟩:=ZK.1 b;obtain⟨x,_,rfl⟩:=ZK.1 d;trivial
end
end
end Go.Proofs.YtflegjieadkonaaGreatDoor
namespace Go.Proofs.YtflegjieadkonaaGreatDoor
open Go Go.Al Go.Proofs.Tryz
theorem SA(l:Lit)(h:l.size<=100000000000):Pure prog 95 [ag l.c] (.iv (strs (B6 l))):=by
 have F:=Lit.au l.ar;have I:=l.size_eq;refine Al.Pure.le (aa:=[ag l.c]) (args:=[ag l.c1]) ?_ ⟨l.xd,ac⟩;unfold B6;refine ae ab func95 Z (by decide) ntmps95 Z (by simp) Z ?_;refine zJ Z Z (fun k1=>?_) fun k1=>?_
 .have k1:l.kind=1:=zT k1;rw[am (.inl k1)];refine gA Z (cS (by first|exact .inr Z|exact .inl Z) Z Z (rfl) (rfl))
 have k1: ¬l.kind=1:=zF k1;refine zJ Z Z (fun D=>?_) fun D=>?_
 .have D:l.kind=2:=zT D;rw[am (.inr D)];refine gA Z (cS (by first|exact .inr Z|exact .inl Z) Z Z (rfl) (rfl))
 have D: ¬l.kind=2:=zF D;rw[be (by omega)];refine zE Z Z (fun u=>?_) fun u=>?_
 .have u: ¬l.kind=4:=zF u;rw[be u];refine gA Z (zL ?_);exact .nil _ _
 have u:l.kind=4:=zT u;rw[am u]
 let B:List Lit->List ak:=fun b=>(b.filter fun x=>li (x.kind=1∨x.kind=2)).map fun x=>x.atom.rel
 refine gA Z ?_;refine fY 3 1 Z ?_;refine aw 0 l.ar.length (Zf _) (fun i=>⟨[(1,.ptr 0 0),(3,.sl 2 0 (B (l.ar.take i)).length 1),(4,pI i)],[(0,io (aj l.c1)),(2,io (aE 1 (B (l.ar.take i)) cz))],3⟩) (fun _=>True) [1] ac
  (zW (zK (zS trivial))) fun i J _=>?_
 have G:(B (l.ar.take i)).length<=l.ar.length:=by
  show((List.filter _ (l.ar.take i)).map _).length<=_;rw[ZE];exact Z1 (aak _ _) (by rw[ZP];omega)
 refine zJ Z Z (fun j=>?_) fun j=>?_
 .have j:=ci j;have d:B (l.ar.take (i+1))=B (l.ar.take i)++(if(l.ar.getD i em).kind=1∨(l.ar.getD i em).kind=2 then[(l.ar.getD i em).atom.rel] else[]):=Gl j;refine zJ Z Z (fun y=>?_) fun y=>?_
  .have y: ¬(l.ar.getD i em).kind=1:=zF y;refine zJ Z Z (fun A=>?_) fun A=>?_
   .have A:(l.ar.getD i em).kind=2:=zT A;rw[am (.inr A)]at d;refine gA Z ⟨j,ac,[4],zM (bv ⟨.row (by rw[d,Y8];rfl),rfl,bv ac⟩) (zK (hR Z (by rw[d,Ze];rfl) Z ac))⟩
   .have A: ¬(l.ar.getD i em).kind=2:=zF A;rw[be (by omega),ZL]at d;refine gA Z ⟨j,ac,[2],zM (bv ⟨.row (by rw[d]),rfl,bv ac⟩) (zK (hR Z (by rw[d]) Z ac))⟩
  .have y:(l.ar.getD i em).kind=1:=zT y;rw[am (.inl y)]at d;refine gA Z ⟨j,ac,[4],zM (bv ⟨.row (by rw[d,Y8];rfl),rfl,bv ac⟩) (zK (hR Z (by rw[d,Ze];rfl) Z ac))⟩
 .have j:=co j;rw[Zh j];refine gA Z (cS (by first|exact .inr Z|exact .inl Z) Z Z (rfl) (rfl))
theorem u4{β:Type}{a:Nat}{L:wE β}{y:Nat×Nat×Nat×List β}(b:L[a]? =io y):p3 L a y y.2.2.2=L:=by
 unfold p3;apply aaU;intro j;rw[ZV];by_cases h:a=j
 .subst h;rw[am Z,am (Zb.1 b).1,b]
 .rw[be h]
theorem Hw{x:ak×ak×Nat}{r:ah}{l:Lit}(h:x∈mN r l):x.2.2<=2:=by
 obtain⟨t,_,rfl⟩:=ZK.1 h;exact Hv l
theorem LJ{x:ak×ak×Nat}{r:ah}(h:x∈ux r):x.2.2<=2:=by
 obtain⟨l,_,h⟩:=aa0.1 h;exact Hw h
theorem Ph{p:Prog}(hf:nk p)(hb:p.fit):Pure prog 55 [ag p.c,.iv (strs (ns p))] (.iv (cZ 1 (dX (ns p).length (gF p (c5 p))) (lF aY))):=by
 have hn:=vq hf;refine ae ab func55 Z (by decide) ntmps55 Z (by simp) Z ?_
 let n:=(ns p).length
 refine Hx ?_;refine aJ (bZ ?_);refine gA Z ?_;refine aJ (bZ ?_);refine gA Z ?_;refine aJ (aJ (fX ⟨[(1,.iv (strs (ns p))),(2,.ptr 0 0),(5,.sl 1 0 0 1),(6,pI 0)],[(0,io (aj p.c)),(1,io (rO n ([]:wE Int)))],2⟩ ?_ ?_))
 .refine fY 5 1 Z ?_;refine gA Z (fN [1] ?_);exact zW (zK (zS ac))
 refine bR (ke 0 n (Zf _) (fun i (x:ULift.{1} (wE Int))=>⟨[(1,.iv (strs (ns p))),(2,.ptr 0 0),(5,.sl 2 0 i 1),(6,pI i)],[(0,io (aj p.c)),(2,io (rO n x.down))],3⟩)
  (fun i x Y=>Y=eT (fT aY) x.down∧zg n x.down∧dE x.down=(dX n fun _ _=>(0:Int)).take i) ⟨[]⟩ [1] ⟨rfl,GD n,rfl⟩
  (zW (zK (zS ac))) (fun _ _ _ h=>h.1▸cP (fT aY) _) fun i x Y hi hJ=>?_)
 obtain⟨rfl,A,u⟩:=hJ;obtain⟨L⟩:=x;have A:zg n L:=A;have u:dE L=(dX n fun _ _=>(0:Int)).take i:=u;have j1:L.length=i:=by
  have:=congrArg abB u;rw[ZP,fv]at this;unfold dE at this;rw[ZE]at this;omega
 refine aJ (aJ (bZ ?_));refine gA Z ?_;refine dD Z (fun h1=>dQ ?_) (fun h1=>gJ ?_)
 .have h1:=ci h1;refine aJ (bR (iL (bC 3 ?_)));refine gA Z ?_;refine bC 1 ?_;refine Eu ab n n Z Z Z Z Z Z Z Z Z (by omega) (by omega) (by show 8*n<=_;omega) Z (by decide) (z:=[pI 0]) Z (.inr ⟨rfl,rfl⟩) Z ?_;refine gA Z ?_;refine eJ (xB (i:=3) (o':=aE 1 ((Zy n).map fun _=>(0:Int)) aY) Z (.of_eq ?_)) fun t Y F=>?_
  .show AO.row 1 (aa5 n [pI 0])=AO.row 1 (((Zy n).map fun _=>(0:Int)).map fun x=>(aY x).map PV.iv);rw[aa4];congr 1;apply aaU;intro j;rw[abe,Zg];rcases aag j n with hj|hj
   .rw[am hj,aa7 hj];rfl
   .rw[be (by omega),abl (by simpa using hj)];rfl
  obtain⟨rfl,rfl⟩:=F
  refine eJ (rj (i:=3) (d:=23) (cP (fT aY) L) Z (by
   show(AO.row 1 (((Zy n).map fun _=>(0:Int)).map fun x=>(aY x).map PV.iv)).real=kw;have:0<n:=by omega
   obtain⟨m,hm⟩: ∃m,n=m+1:=⟨n-1,by omega⟩
   rw[hm,abz];rfl) (jJ aY) Z (by omega)) fun t Y F=>?_
  obtain⟨b,e,v0,n1,g1,g2,g3,rfl,rfl⟩:=F;refine bC 3 ?_;refine gA Z ?_;refine fg (jx (bZ ?_));refine gA Z ?_;have y0:=ub (fT aY) n1
  exact⟨h1,⟨L++ [(b,e,v0,(Zy n).map fun _=>(0:Int))]⟩,[5],⟨sW (fT aY) (y:=(b,e,v0,(Zy n).map fun _=>(0:Int))) A.nd y0,C5 A y0 ⟨by simp,g1,g2,g3⟩,by
   show dE (L++ [_])=_;rw[ba (by rw[fv];exact h1),<-u];unfold dE;rw[Ze];congr 1
   rw[Y6,mr h1];rfl⟩,zM (bv (bv ⟨.row Z,rfl,bv ac⟩)) (zK (hR Z (by rw[Ze];rfl) Z ac))⟩
 have h1:=co h1;have u:dE L=dX n (gF p []):=by rw[u,Zh (by rw[fv];exact h1)];rfl
 clear j1;have x1:p.rules.length<=1000000000:=hb.2.1
 let G:Nat->List (ak×ak×Nat):=fun r=>(p.rules.take r).flatMap ux
 change GX _ _ [.code _] _ _ _;refine aJ (aJ (fX ⟨[(1,.iv (strs (ns p))),(2,.ptr 0 0),(5,.sl 2 0 n 1),(7,pI 0)],[(0,io (aj p.c)),(2,io (rO n L))],3⟩ ?_ ?_))
 .have o1:i=n:=by omega
  subst o1;refine gA Z (fN [] ?_);exact zW (zK (zS ac))
 refine bR (ke 0 p.rules.length (Zf _) (fun r (x:ULift.{1} (wE Int))=>⟨[(1,.iv (strs (ns p))),(2,.ptr 0 0),(5,.sl 2 0 n 1),(7,pI r)],[(0,io (aj p.c)),(2,io (rO n x.down))],3⟩)
  (fun r x Y=>Y=eT (fT aY) x.down∧zg n x.down∧dE x.down=dX n (gF p (G r))) ⟨L⟩ [] ⟨rfl,A,u⟩
  (zW (zK (zS ac))) (fun _ _ _ h=>h.1▸cP (fT aY) _) fun r x Y hr hJ=>?_)
 clear A u;obtain⟨rfl,A,u⟩:=hJ;obtain⟨L⟩:=x;have A:zg n L:=A;have u:dE L=dX n (gF p (G r)):=u;refine aJ (aJ (bZ ?_));refine gA Z ?_;refine dD Z (fun h2=>dQ ?_) (fun h2=>gJ ?_);rotate_left
 .have h2:p.rules.length<=r:=by simpa using h2
  have i1:G r=c5 p:=by show((p.rules.take r).flatMap ux)=_;rw[Zh h2];rfl
  rw[i1]at u;change GX _ _ [.code _] _ _ _;refine Eo (BC (i:=2) (o':=aE 1 (dE L) (lF aY)) Z (Vw aY A)) fun t Y F=>?_;obtain⟨rfl,rfl⟩:=F;have f1:(dE L).length=n:=by rw[u,fv]
  refine bZ ?_;rw[<-u];refine gA Z (kh (.inr Z) Z (jC.xQ 2 (dE L) (lF aY) Z Z (by rw[f1];show PV.bX 2 1 n (.sl 2 0 n 1);simp[PV.bX]) (.done ?_)));have e:cZ 1 (dE L) (lF aY)= .de 1 n fun k=>lF aY ((dE L).getD k em):=by unfold cZ;rw[f1]
  rw[e];show aK (.iv (.de 1 n fun k=>lF aY ((dE L).getD (0+k) em))) _;simp only[Zu];exact .refl _
 have h2:r<p.rules.length:=by simpa using h2
 have f0:p.rules.getD r em∈p.rules:=cv h2;have w0:G (r+1)=G r++ux (p.rules.getD r em):=by show((p.rules.take (r+1)).flatMap ux)=_;rw[ba h2,abf];simp;rfl
 have k0:=hb.2.2 _ f0;have e0:=k0.1;have b0:=hf.yr _ f0;have c0:=hf.lits _ f0;have a0:=hf.flat _ f0;have m1:(p.rules.getD r em).body.length<=10000000:=by have:=Lit.au (p.rules.getD r em).body;unfold ah.size at e0;omega
 obtain⟨D,g0,i0⟩:=Go.Rg.rz (V:=ns p) (a:=(p.rules.getD r em).head.rel) (by rw[ns,gu];exact b0);have i0:vD p D=(p.rules.getD r em).head.rel:=i0;have b1:=GV (ns p) (p.rules.getD r em).head.rel (by omega);have e1:=KW hf g0;rw[i0]at e1;rw[show JL (ns p) (p.rules.getD r em).head.rel=(D:Int) from e1]at b1;refine aJ (bR (aJ (bZ ?_)));refine gA Z (zp (b1) ?_);refine gA Z ?_;refine aJ (fX ⟨[(1,.iv (strs (ns p))),(2,.ptr 0 0),(5,.sl 2 0 n 1),(7,pI r),(8,pI D),(9,pI 0)],[(0,io (aj p.c)),(2,io (rO n L))],3⟩ ?_ ?_)
 .refine gA Z (fN [] ?_);exact zW (zK (zS ac))
 generalize l1:p.rules.getD r em=R at f0 w0 k0 e0 b0 c0 a0 m1 i0
 refine bR (ke 0 R.body.length (Zf _) (fun i (x:ULift.{1} (wE Int))=>⟨[(1,.iv (strs (ns p))),(2,.ptr 0 0),(5,.sl 2 0 n 1),(7,pI r),(8,pI D),(9,pI i)],[(0,io (aj p.c)),(2,io (rO n x.down))],3⟩)
  (fun i x Y=>Y=eT (fT aY) x.down∧zg n x.down∧dE x.down=dX n (gF p (G r++(R.body.take i).flatMap (mN R)))) ⟨L⟩ [] ⟨rfl,A,by rw[List.take_zero,abX,ZL];exact u⟩
  (zW (zK (zS ac))) (fun _ _ _ h=>h.1▸cP (fT aY) _) fun i x Y v1 hJ=>?_)
 clear A u;obtain⟨rfl,A,u⟩:=hJ;obtain⟨L⟩:=x;have A:zg n L:=A;have u:dE L=dX n (gF p (G r++(R.body.take i).flatMap (mN R))):=u;refine aJ (aJ (bZ ?_));subst l1;refine gA Z ?_;refine dD Z (fun h3=>dQ ?_) (fun h3=>gJ ?_);rotate_left
 .have h3:(p.rules.getD r em).body.length<=i:=by simpa using h3
  rw[Zh h3,show G r++(p.rules.getD r em).body.flatMap (mN (p.rules.getD r em))=G (r+1) from w0.symm]at u;change GX _ _ (.code _::_) _ _ _;refine bZ ?_;refine gA Z ⟨h2,⟨L⟩,[],⟨rfl,A,u⟩,zW (zK (zS ac))⟩
 have h3:i<(p.rules.getD r em).body.length:=by simpa using h3
 have hl:(p.rules.getD r em).body.getD i em∈(p.rules.getD r em).body:=cv h3;have x0:((p.rules.getD r em).body.take (i+1)).flatMap (mN (p.rules.getD r em))=((p.rules.getD r em).body.take i).flatMap (mN (p.rules.getD r em))++mN (p.rules.getD r em) ((p.rules.getD r em).body.getD i em):=by rw[ba h3,abf];simp
 have s0:((p.rules.getD r em).body.getD i em).size<=10000000:=by have:=Lit.aF (p.rules.getD r em).body i h3;unfold ah.size at e0;omega
 have n0:=c0 _ hl;have s1:=ye _ (a0 _ hl);have r1:=kD ((p.rules.getD r em).body.getD i em);refine aJ (bR (aJ (bZ ?_)));refine gA Z ?_;refine aJ (bZ ?_);refine gA Z (zp (SA ((p.rules.getD r em).body.getD i em) (by omega)) ?_);refine gA Z ?_;rw[<-s1];refine aJ (fX ⟨[(1,.iv (strs (ns p))),(2,.ptr 0 0),(5,.sl 2 0 n 1),(7,pI r),(8,pI D),(9,pI i),(10,.ptr 3 0),(11,.iv (strs (named ((p.rules.getD r em).body.getD i em)))),(12,pI 0)],[(0,io (aj p.c)),(2,io (rO n L)),(3,io (aj ((p.rules.getD r em).body.getD i em).c))],4⟩ ?_ ?_)
 .refine gA Z (fN [] ?_);exact zW (zK (zS (zK ac)))
 generalize w1:(p.rules.getD r em).body.getD i em=l at hl x0 s0 n0 r1;generalize a1:G r++((p.rules.getD r em).body.take i).flatMap (mN (p.rules.getD r em))=hs0 at u
 refine bR (ke 0 (named l).length (Zf _) (fun k (x:ULift.{1} (wE Int))=>⟨[(1,.iv (strs (ns p))),(2,.ptr 0 0),(5,.sl 2 0 n 1),(7,pI r),(8,pI D),(9,pI i),(10,.ptr 3 0),(11,.iv (strs (named l))),(12,pI k)],[(0,io (aj p.c)),(2,io (rO n x.down)),(3,io (aj l.c))],4⟩)
  (fun k x Y=>Y=eT (fT aY) x.down∧zg n x.down∧dE x.down=dX n (gF p (hs0++((named l).take k).map fun t=>((p.rules.getD r em).head.rel,t,gz l)))) ⟨L⟩ [] ⟨rfl,A,by rw[List.take_zero,Z0,ZL];exact u⟩
  (zW (zK (zS (zK ac)))) (fun _ _ _ h=>h.1▸cP (fT aY) _) fun k x Y hk hJ=>?_)
 clear A u;obtain⟨rfl,A,u⟩:=hJ;obtain⟨L⟩:=x;have A:zg n L:=A;have u:dE L=dX n (gF p (hs0++((named l).take k).map fun t=>((p.rules.getD r em).head.rel,t,gz l))):=u;refine aJ (aJ (bZ ?_));refine gA Z ?_;refine dD Z (fun h4=>dQ ?_) (fun h4=>gJ ?_);rotate_left
 .have h4:=co h4;rw[Zh h4,<-a1,Zj,show(named l).map (fun t=>((p.rules.getD r em).head.rel,t,gz l))=mN (p.rules.getD r em) l from rfl,<-x0]at u;change GX _ _ (.code _::_) _ _ _;refine bZ ?_;refine gA Z ⟨h3,⟨L⟩,[],⟨rfl,A,u⟩,zW (zK (zS ac))⟩
 have h4:=ci h4;obtain⟨B,j0,q0⟩:=Go.Rg.rz (V:=ns p) (a:=(named l).getD k em) (by rw[ns,gu];exact n0 _ (cv h4));have q0:vD p B=(named l).getD k em:=q0;have d1:=GV (ns p) ((named l).getD k em) (by omega);have o0:=KW hf j0;rw[q0]at o0;rw[show JL (ns p) ((named l).getD k em)=(B:Int) from o0]at d1
 let T2:AS:=⟨[(1,.iv (strs (ns p))),(2,.ptr 0 0),(5,.sl 2 0 n 1),(7,pI r),(8,pI D),(9,pI i),(10,.ptr 3 0),(11,.iv (strs (named l))),(12,pI k),(13,pI B)],[(0,io (aj p.c)),(2,io (rO n L)),(3,io (aj l.c))],4⟩
 refine aJ (bR (aJ (fX T2 ?_ ?_)))
 .refine gA Z (zp (d1) ?_);refine gA Z (fN [] ?_);exact zW (zK (zS (zK ac)))
 refine aJ (fX T2 ?_ ?_)
 .refine zE Z Z (fun q1=>?_) fun q1=>?_
  .have:=zT (show li ((D:Int)<0)=kw from q1);omega
  refine zJ Z Z (fun q2=>?_) fun q2=>?_
  .have:=zT (show li ((B:Int)<0)=kw from q2);omega
  refine gA Z (fN [] ?_);exact zW (zK (zS (zK ac)))
 have hL:L.length=n:=by
  have:=congrArg abB u;rw[fv]at this;unfold dE at this;rwa[ZE]at this
 have p1:D<L.length:=by omega
 obtain⟨y,I⟩: ∃y,L[D]? =io y:=⟨_,Za p1⟩
 obtain⟨k1,k2,k3,k4⟩:=A.ok y (ZC I);have S:(hs0++((named l).take k).map fun t=>((p.rules.getD r em).head.rel,t,gz l))++ [(vD p D,vD p B,gz l)]=hs0++((named l).take (k+1)).map fun t=>((p.rules.getD r em).head.rel,t,gz l):=by
  rw[ba h4,Ze,Zj,i0,q0];rfl
 have m0: ∀x∈hs0++((named l).take k).map (fun t=>((p.rules.getD r em).head.rel,t,gz l)),x.2.2<=2:=fun x hx=>by
  rw[<-a1]at hx;rcases Zm.1 hx with hx|hx
  .rcases Zm.1 hx with hx|hx
   .obtain⟨_,_,hx⟩:=aa0.1 hx;exact LJ hx
   .obtain⟨_,_,hx⟩:=aa0.1 hx;exact Hw hx
  .obtain⟨t,_,rfl⟩:=ZK.1 hx;exact Hv l
 generalize hs0++((named l).take k).map (fun t=>((p.rules.getD r em).head.rel,t,gz l))=hs1 at u S m0;have t0:y.2.2.2=(Zy n).map fun j=>gF p hs1 D j:=by
  have:=Fq I;rw[u,mr g0]at this;exact(Z5 this).symm
 have d0:=Db (n:=n) (f:=gF p hs1) (f':=gF p (hs1++ [(vD p D,vD p B,gz l)])) g0 j0 (HH hf g0 j0);rw[SN]at d0;have t1:0<=gF p hs1 D B:=Int.natCast_nonneg _;have u1:gF p hs1 D B<=2:=by
  have:=UF m0 (vD p D) (vD p B);unfold gF;omega
 have J: ∀r:List Int,r.length=n->(aE 1 r aY).real=kw:=fun r hr=>by
  cases r with
  |nil=>simp at hr;omega
  |cons=>rfl
 refine aJ (bZ ?_);refine gA Z ?_;refine dD Z (fun q3=>?_) (fun q3=>?_)
 .have q3: ¬l.kind=1:=zX q3;have hh:gz l=2:=by rw[gz,be q3]
  have hm:max (gF p hs1 D B) (gz l:Int)=2:=by rw[hh];omega
  refine iL (bC 3 ?_);refine gA Z ?_;refine bC 1 ?_;refine bB ab Z Z Z Z Z (show(L.map fun x=>(ta n x).map PV.iv)[0+D]? =io ((ta n y).map PV.iv) by rw[Zu,Zg,I];rfl) Z Z ?_;refine gA Z ?_;refine eJ (kA (d:=88) (sz:=1) (dd (fT aY) A.nd I) Z (by omega) k2 k3 k4) fun t Y F=>?_;obtain⟨rfl,rfl⟩:=F;refine bC 2 ?_;refine gA Z ?_;refine bC 1 ?_;refine kJ ab Z Z Z (i:=4) (sz:=1) (q:=0+B) Z Z Z Z (by simp only[ZE];omega) Z Z Z Z ?_;refine gA Z ?_;refine eJ (xB (i:=4) (o':=aE 1 (y.2.2.2.set B 2) aY) Z (.of_eq ?_)) fun t Y F=>?_
  .show AO.row 1 ((y.2.2.2.map fun x=>(aY x).map PV.iv).set (0+B) ((aY 2).map PV.iv))=AO.row 1 ((y.2.2.2.set B 2).map fun x=>(aY x).map PV.iv);rw[Zu,aaR]
  obtain⟨rfl,rfl⟩:=F;refine eJ (xC (b:=y.1) (e:=y.2.1) (i:=4) (o:=aE 1 (y.2.2.2.set B 2) aY) (bf.dz _ _ _) Z (J _ (by rw[aaO];exact k1)) (jJ aY)) fun t Y F=>?_;obtain⟨rfl,rfl⟩:=F;refine fg (jx (bZ ?_));refine gA Z ?_
  exact⟨h4,⟨p3 L D y (y.2.2.2.set B 2)⟩,[],⟨oj aY A I,Bz A I (by rw[aaO];exact k1),by
   show dE (p3 L D y (y.2.2.2.set B 2))=_
   rw[BB,u,<-S,t0,<-hm];exact d0⟩,zW (zK (hR Z (FD I).symm Z (zK ac)))⟩
 .have q3:l.kind=1:=zY q3;have hh:gz l=1:=by rw[gz,am q3]
  refine aJ (iL (bC 3 ?_));refine gA Z ?_;refine bC 1 ?_;refine bB ab Z Z Z Z Z (show(L.map fun x=>(ta n x).map PV.iv)[0+D]? =io ((ta n y).map PV.iv) by rw[Zu,Zg,I];rfl) Z Z ?_;refine gA Z ?_;refine eJ (kA (d:=94) (sz:=1) (dd (fT aY) A.nd I) Z (by omega) k2 k3 k4) fun t Y F=>?_;obtain⟨rfl,rfl⟩:=F;refine bC 2 ?_;refine gA Z ?_;refine bC 1 ?_;refine bB ab Z Z Z Z Z (show(y.2.2.2.map fun x=>(aY x).map PV.iv)[0+B]? =io ((aY (y.2.2.2.getD B em)).map PV.iv) from jj (by omega)) Z Z ?_;refine gA Z ?_;refine bC 1 ?_;refine gA Z ?_;refine eJ (xC (b:=y.1) (e:=y.2.1) (i:=4) (o:=aE 1 y.2.2.2 aY) (bf.dz _ _ _) Z (J _ k1) (jJ aY)) fun t Y F=>?_;obtain⟨rfl,rfl⟩:=F;rw[oj aY A I,u4 I];have p0:y.2.2.2.getD B em=gF p hs1 D B:=by rw[t0,Y6,ru j0];rfl
  refine fg (dD Z (fun q4=>?_) (fun q4=>?_))
  .have q4:gF p hs1 D B=0:=by rw[<-p0];exact zT q4
   have hm:max (gF p hs1 D B) (gz l:Int)=1:=by rw[hh];omega
   refine iL (bC 3 ?_);refine gA Z ?_;refine bC 1 ?_;refine bB ab Z Z Z Z Z (show(L.map fun x=>(ta n x).map PV.iv)[0+D]? =io ((ta n y).map PV.iv) by rw[Zu,Zg,I];rfl) Z Z ?_;refine gA Z ?_;refine eJ (kA (d:=102) (sz:=1) (dd (fT aY) A.nd I) Z (by omega) k2 k3 k4) fun t Y F=>?_;obtain⟨rfl,rfl⟩:=F;refine bC 2 ?_;refine gA Z ?_;refine bC 1 ?_;refine kJ ab Z Z Z (i:=5) (sz:=1) (q:=0+B) Z Z Z Z (by simp only[ZE];omega) Z Z Z Z ?_;refine gA Z ?_;refine eJ (xB (i:=5) (o':=aE 1 (y.2.2.2.set B 1) aY) Z (.of_eq ?_)) fun t Y F=>?_
   .show AO.row 1 ((y.2.2.2.map fun x=>(aY x).map PV.iv).set (0+B) ((aY 1).map PV.iv))=AO.row 1 ((y.2.2.2.set B 1).map fun x=>(aY x).map PV.iv);rw[Zu,aaR]
   obtain⟨rfl,rfl⟩:=F;refine eJ (xC (b:=y.1) (e:=y.2.1) (i:=5) (o:=aE 1 (y.2.2.2.set B 1) aY) (bf.dz _ _ _) Z (J _ (by rw[aaO];exact k1)) (jJ aY)) fun t Y F=>?_;obtain⟨rfl,rfl⟩:=F;refine fg (jx (bZ ?_));refine gA Z ?_
   exact⟨h4,⟨p3 L D y (y.2.2.2.set B 1)⟩,[],⟨oj aY A I,Bz A I (by rw[aaO];exact k1),by
    show dE (p3 L D y (y.2.2.2.set B 1))=_
    rw[BB,u,<-S,t0,<-hm];exact d0⟩,zW (zK (hR Z (FD I).symm Z (zK ac)))⟩
  .have q4: ¬gF p hs1 D B=0:=by rw[<-p0];exact zF q4
   have hm:max (gF p hs1 D B) (gz l:Int)=gF p hs1 D B:=by rw[hh];omega
   refine dQ (jx (bZ ?_));refine gA Z ?_
   exact⟨h4,⟨L⟩,[],⟨rfl,A,by
    show dE L=_;rw[u,<-S];refine mu fun i j hi hj=>?_;rw[HH hf g0 j0 i j hi hj];by_cases r0:i=D∧j=B
    .rw[am r0,SN,hm,r0.1,r0.2]
    .rw[be r0]⟩,zW (zK (zS (zK ac)))⟩
abbrev iB(b:Bool):IV:= .v (.bool b)
def cj(b:Bool):List IV:=[iB b]
abbrev wI(n:Nat)(f:Nat->Nat->Bool):IV:=cZ 1 (dX n f) (lF cj)
abbrev gI(n:Nat)(g:Nat->Nat->Int):IV:=cZ 1 (dX n g) (lF aY)
theorem tW{β:Type}[Inhabited β]{n:Nat}{f:Nat->Nat->β}{a b:Nat}(ha:a<n)(hb:b<n):((dX n f).getD a em).getD b em=f a b:=by
 rw[Y6,Y6,mr ha,aaw,ru hb];rfl
theorem pZ{β:Type}[Inhabited β]{n:Nat}{f:Nat->Nat->β}{a:Nat}(ha:a<n):((dX n f).getD a em).length=n:=by
 rw[Y6,mr ha];simp
abbrev CP(D:List Bool)(b:Nat):Bool:=D.getD b em
theorem Ah{sz q:Nat}{es:List (List PV)}{p p':PV}(h:aK p p'):fb (.row sz (es.set q [p])) (.row sz (es.set q [p'])):=by
 refine⟨fun hr=>?_,fun M N U w i G=>?_⟩
 .cases es with
  |nil=>exact hr
  |cons a r=>cases q<;>rfl
 .have key: ∀(k:Nat) (e:List PV),(es.set q [p'])[k]? =io e-> ∃d,(es.set q [p])[k]? =io d∧d.length=e.length∧ ∀(j:Nat) (x:PV),e[j]? =io x-> ∃A,d[j]? =io A∧aK A x:=by
   intro k e b;rw[ZV]at b;by_cases y:q=k
   .rw[am y]at b;by_cases D:q<es.length
    .rw[am D]at b;cases b;refine⟨[p],by rw[ZV,am y,am D],rfl,fun j x u=>?_⟩;cases j with
     |zero=>cases u;exact⟨p,rfl,h⟩
     |succ j=>simp at u
    .rw[be D]at b;cases b
   .rw[be y]at b;exact⟨e,by rw[ZV,be y];exact b,rfl,fun j x u=>⟨x,u,.refl x⟩⟩
  rcases G with G|⟨J,c,T,S,Y,I,h4,h5⟩
  .refine .inl ?_;have hz:es.length=0:=by have:=congrArg abB G;rw[aaO]at this;exact this
   rw[ZY hz];rfl
  .refine .inr ⟨J,c,T,S,Y,by rw[aaO]at I ⊢;exact I,fun k e b=>?_,fun k e j x b u=>?_⟩
   .obtain⟨d,B,hb,_⟩:=key k e b;rw[<-hb];exact h4 k d B
   .obtain⟨d,B,_,hc⟩:=key k e b;obtain⟨A,hd,F⟩:=hc j x u;exact F M N U _ (h5 k d j A B hd)
theorem WA{P:Program}{nt:Nat}{Q:XQ}{k:List XI}{s:AS}{X:bf}{c:Code}{L:List Nat}{t:AS}(hw:Wk s.nx L s t)(h:GX P nt (.code c::k) Q t X):GX P nt (.code c::k) Q s X:=by
 intro M N a w B D;obtain⟨g1,g2⟩:=iW.frame (hw.ext (.refl _ _ _ _ _)) D;exact AX.then h (hw.fits B) g2 fun e a2 G x y F A u b j d=>⟨x,y,F,A,g1.trans u,b,j,d⟩
set_option maxHeartbeats 1000000 in
theorem V7{n:Nat}(hn:n<=64)(g:Nat->Nat->Int)(E:Nat->Nat->Bool)(hE: ∀i j,i<n->j<n->E i j=li (g i j>0)):Pure prog 63 [.iv (gI n g)] (.iv (cZ 1 (dX n (Go.Wa.W E n)) (lF cj))):=by
 have q0:=fv n g;refine ae ab func63 Z (by decide) ntmps63 Z (by simp) Z ?_;refine Hx ?_;refine aJ (bZ ?_);refine gA Z ?_;refine aJ (bZ ?_);refine gA Z ?_;refine aJ (aJ (fX ⟨[(0,.iv (gI n g)),(3,.sl 0 0 0 1),(4,pI 0)],[(0,io (rO n ([]:wE Bool)))],1⟩ ?_ ?_))
 .refine fY 3 1 Z ?_;refine gA Z (fN [0] ?_);exact zW (zS ac)
 refine bR (ke 0 n (Zf _) (fun i (x:ULift.{1} (wE Bool))=>⟨[(0,.iv (gI n g)),(3,.sl 1 0 i 1),(4,pI i)],[(1,io (rO n x.down))],2⟩)
  (fun i x Y=>Y=eT (fT cj) x.down∧zg n x.down∧dE x.down=(dX n (Go.Wa.W E 0)).take i) ⟨[]⟩ [0] ⟨rfl,GD n,rfl⟩
  (zW (zS ac)) (fun _ _ _ h=>h.1▸cP (fT cj) _) fun i x Y hi hJ=>?_)
 obtain⟨rfl,u,A⟩:=hJ;obtain⟨L⟩:=x;have u:zg n L:=u;have A:dE L=(dX n (Go.Wa.W E 0)).take i:=A;have v0:L.length=i:=by
  have:=congrArg abB A;rw[ZP,fv]at this;unfold dE at this;rw[ZE]at this;omega
 refine aJ (aJ (bZ ?_));refine gA Z ?_;refine dD Z (fun h1=>dQ ?_) (fun h1=>gJ ?_)
 .have h1:i<n:=by
   have h:i<(dX n g).length:=by simpa using h1
   omega
  let B:Nat->List Bool:=fun k=>(Zy n).map fun j=>if j<k then Go.Wa.W E 0 i j else lc
  refine aJ (bR (aJ (fX ⟨[(0,.iv (gI n g)),(3,.sl 1 0 i 1),(4,pI i),(5,.sl 2 0 n 1)],[(1,io (rO n L)),(2,io (aE 1 (B 0) cj))],3⟩ ?_ ?_)))
  .refine gA Z (Eu ab n n Z Z Z Z Z Z Z (by rw[q0]) (by rw[q0]) (by omega) (by omega) (by show 1*n<=_;omega) Z (by decide) (z:=[pB lc]) Z (.inr ⟨rfl,rfl⟩) Z ?_);refine gA Z (fN [2] ?_)
   exact zW (zS (hR Z (by
    show aa5 n [pB lc]=((Zy n).map fun j=>if j<0 then Go.Wa.W E 0 i j else lc).map fun x=>(cj x).map PV.iv;rw[aa4];apply aaU;intro j;rw[abe,Zg];rcases aag j n with hj|hj
    .rw[am hj,aa7 hj];rfl
    .rw[be (by omega),abl (by simpa using hj)];rfl) Z ac))
  refine aJ (fX ⟨[(0,.iv (gI n g)),(3,.sl 1 0 i 1),(4,pI i),(5,.sl 2 0 n 1)],[(1,io (rO n L)),(2,io (aE 1 (B n) cj))],3⟩ ?_ ?_)
  .refine gA Z ?_;refine aw 0 n (Zf _) (fun k=>⟨[(0,.iv (gI n g)),(3,.sl 1 0 i 1),(4,pI i),(5,.sl 2 0 n 1),(6,pI k)],[(1,io (rO n L)),(2,io (aE 1 (B k) cj))],3⟩) (fun _=>True) [] ac
    (zW (zS (zS trivial))) fun k hk _=>?_
   refine zE Z Z (fun h2=>?_) fun h2=>?_
   .have h2:n<=k:=by
     have h:(dX n g).length<=k:=by simpa using h2
     omega
    have x0:k=n:=by omega
    subst x0;refine gA Z (fN [] ?_);exact zW (zS (zS ac))
   have h2:k<n:=by
    have h:k<(dX n g).length:=by simpa using h2
    omega
   have e1:=pZ (f:=g) h1;have k0:=tW (f:=g) h1 h2;have hw:Go.Wa.W E 0 i k=(li (g i k>0)||decide (i=k)):=by
    show(E i k||i==k)=_;rw[hE i k h1 h2];rfl
   have I:(B k).set k (Go.Wa.W E 0 i k)=B (k+1):=by
    have:=xR (n:=n) (g:=fun j=>if j<k then Go.Wa.W E 0 i j else lc) (g':=fun j=>if j<k+1 then Go.Wa.W E 0 i j else lc) h2 fun j hj=>by
     by_cases m0:j=k
     .simp[m0]
     .rw[be m0];by_cases n0:j<k
      .rw[am n0,am (by omega)]
      .rw[be n0,be (by omega)]
    rw[am (aax k)]at this;exact this
   have d1:(B k).length=n:=by simp[B]
   refine zJ Z Z (fun S=>?_) fun S=>?_
   .have S:li (((dX n g).getD i em).getD k em>0)=lc:=S;rw[k0]at S;refine gA Z (SM (d:=39) (p:=pB (Go.Wa.W E 0 i k)) (.of_eq (fV (by rw[hw,S,aan,decide_eq_decide];omega))) ?_);refine kJ ab Z Z Z (i:=2) (sz:=1) (q:=0+k) Z Z Z Z (by simp only[ZE];omega) Z Z Z Z ?_;refine gA Z ⟨h2,ac,[],zW (zS (hR Z (by rw[Zu,<-I,aaR];rfl) Z ac))⟩
   .have S:li (((dX n g).getD i em).getD k em>0)=kw:=S;rw[k0]at S;refine gA Z (SM (d:=39) (p:=pB (Go.Wa.W E 0 i k)) (.rC (by rw[hw,S];rfl)) ?_);refine kJ ab Z Z Z (i:=2) (sz:=1) (q:=0+k) Z Z Z Z (by simp only[ZE];omega) Z Z Z Z ?_;refine gA Z ⟨h2,ac,[],zW (zS (hR Z (by rw[Zu,<-I,aaR];rfl) Z ac))⟩
  have g0:B n=(Zy n).map fun j=>Go.Wa.W E 0 i j:=aaB fun j hj=>am (aam.1 hj);rw[g0];refine iL (bC 2 ?_);refine gA Z ?_
  refine eJ (rj (i:=2) (d:=42) (cP (fT cj) L) Z (by
   have:0<n:=by omega
   obtain⟨m,hm⟩: ∃m,n=m+1:=⟨n-1,by omega⟩
   rw[hm,abz];rfl) (jJ cj) Z (by omega)) fun t Y J=>?_
  obtain⟨b,e,i0,G,g1,g2,g3,rfl,rfl⟩:=J;refine bC 3 ?_;refine gA Z ?_;refine fg (jx (bZ ?_));refine gA Z ?_;have j0:=ub (fT cj) G
  exact⟨h1,⟨L++ [(b,e,i0,(Zy n).map fun j=>Go.Wa.W E 0 i j)]⟩,[4],⟨sW (fT cj) (y:=(b,e,i0,(Zy n).map fun j=>Go.Wa.W E 0 i j)) u.nd j0,C5 u j0 ⟨by simp,g1,g2,g3⟩,by
   show dE (L++ [_])=_;rw[ba (by rw[fv];exact h1),<-A];unfold dE;rw[Ze];congr 1
   rw[Y6,mr h1];rfl⟩,zM (bv ⟨.row Z,rfl,bv ac⟩) (hR Z (by rw[Ze];rfl) Z ac)⟩
 have h1:n<=i:=by
  have h:(dX n g).length<=i:=by simpa using h1
  omega
 have w0:i=n:=by omega
 have A:dE L=dX n (Go.Wa.W E 0):=by rw[A,Zh (by rw[fv];exact h1)]
 clear v0;change GX _ _ [.code _] _ _ _;refine aJ (aJ (fX ⟨[(0,.iv (gI n g)),(3,.sl 1 0 n 1),(7,pI 0)],[(1,io (rO n L))],2⟩ ?_ ?_))
 .subst w0;refine gA Z (fN [] ?_);exact zW (zS ac)
 refine bR (ke 0 n (Zf _) (fun m (x:ULift.{1} (wE Bool))=>⟨[(0,.iv (gI n g)),(3,.sl 1 0 n 1),(7,pI m)],[(1,io (rO n x.down))],2⟩)
  (fun m x Y=>Y=eT (fT cj) x.down∧zg n x.down∧dE x.down=dX n (Go.Wa.W E m)) ⟨L⟩ [] ⟨rfl,u,A⟩
  (zW (zS ac)) (fun _ _ _ h=>h.1▸cP (fT cj) _) fun m x Y hm hJ=>?_)
 clear u A;obtain⟨rfl,u,A⟩:=hJ;obtain⟨L⟩:=x;have u:zg n L:=u;have A:dE L=dX n (Go.Wa.W E m):=A;refine aJ (aJ (bZ ?_));refine gA Z ?_;refine dD Z (fun qm=>dQ ?_) (fun qm=>gJ ?_);rotate_left
 .have h2:n<=m:=by
   have h:(dX n g).length<=m:=by simpa using qm
   omega
  have e0:m=n:=by omega
  rw[e0]at A;change GX _ _ [.code _] _ _ _;refine Eo (BC (i:=1) (o':=aE 1 (dE L) (lF cj)) Z (Vw cj u)) fun t Y J=>?_;obtain⟨rfl,rfl⟩:=J;have f0:(dE L).length=n:=by rw[A,fv]
  refine bZ ?_;rw[<-A];refine gA Z (kh (.inr Z) Z (jC.xQ 1 (dE L) (lF cj) Z Z (by rw[f0];show PV.bX 1 1 n (.sl 1 0 n 1);simp[PV.bX]) (.done ?_)));have e:cZ 1 (dE L) (lF cj)= .de 1 n fun k=>lF cj ((dE L).getD k em):=by unfold cZ;rw[f0]
  rw[e];show aK (.iv (.de 1 n fun k=>lF cj ((dE L).getD (0+k) em))) _;simp only[Zu];exact .refl _
 have e0:m<n:=by
  have h:m<(dX n g).length:=by simpa using qm
  omega
 refine aJ (bR (aJ (fX ⟨[(0,.iv (gI n g)),(3,.sl 1 0 n 1),(7,pI m),(8,pI 0)],[(1,io (rO n L))],2⟩ ?_ ?_)))
 .refine gA Z (fN [] ?_);exact zW (zS ac)
 refine bR (ke 0 n (Zf _) (fun a (x:ULift.{1} (wE Bool))=>⟨[(0,.iv (gI n g)),(3,.sl 1 0 n 1),(7,pI m),(8,pI a)],[(1,io (rO n x.down))],2⟩)
  (fun a x Y=>Y=eT (fT cj) x.down∧zg n x.down∧dE x.down=dX n (Go.Wa.V E m a 0)) ⟨L⟩ [] ⟨rfl,u,A.trans (mu fun x y _ _=>(Go.Wa.V.zero m x y).symm)⟩
  (zW (zS ac)) (fun _ _ _ h=>h.1▸cP (fT cj) _) fun a x Y ha hJ=>?_)
 clear u A;obtain⟨rfl,u,A⟩:=hJ;obtain⟨L⟩:=x;have u:zg n L:=u;have A:dE L=dX n (Go.Wa.V E m a 0):=A;refine aJ (aJ (bZ ?_));refine gA Z ?_;refine dD Z (fun qa=>dQ ?_) (fun qa=>gJ ?_);rotate_left
 .have h2:n<=a:=by
   have h:(dX n g).length<=a:=by simpa using qa
   omega
  have d0:a=n:=by omega
  rw[d0]at A;change GX _ _ (.code _::_) _ _ _;refine bZ ?_;refine gA Z ⟨e0,⟨L⟩,[],⟨rfl,u,A.trans (mu fun x y hx _=>Go.Wa.V.full m n x y hx)⟩,zW (zS ac)⟩
 have d0:a<n:=by
  have h:a<(dX n g).length:=by simpa using qa
  omega
 refine aJ (bR (aJ (fX ⟨[(0,.iv (gI n g)),(3,.sl 1 0 n 1),(7,pI m),(8,pI a),(9,pI 0)],[(1,io (rO n L))],2⟩ ?_ ?_)))
 .refine gA Z (fN [] ?_);exact zW (zS ac)
 refine bR (ke 0 n (Zf _) (fun b (x:ULift.{1} (wE Bool))=>⟨[(0,.iv (gI n g)),(3,.sl 1 0 n 1),(7,pI m),(8,pI a),(9,pI b)],[(1,io (rO n x.down))],2⟩)
  (fun b x Y=>Y=eT (fT cj) x.down∧zg n x.down∧dE x.down=dX n (Go.Wa.V E m a b)) ⟨L⟩ [] ⟨rfl,u,A⟩
  (zW (zS ac)) (fun _ _ _ h=>h.1▸cP (fT cj) _) fun b x Y hb hJ=>?_)
 clear u A;obtain⟨rfl,u,A⟩:=hJ;obtain⟨L⟩:=x;have u:zg n L:=u;have A:dE L=dX n (Go.Wa.V E m a b):=A;refine aJ (aJ (bZ ?_));refine gA Z ?_;refine dD Z (fun qb=>dQ ?_) (fun qb=>gJ ?_);rotate_left
 .have h2:n<=b:=by
   have h:(dX n g).length<=b:=by simpa using qb
   omega
  have G:b=n:=by omega
  rw[G]at A;change GX _ _ (.code _::_) _ _ _;refine bZ ?_;refine gA Z ⟨d0,⟨L⟩,[],⟨rfl,u,A.trans (mu fun x y _ hy=>Go.Wa.V.line m a n x y hy)⟩,zW (zS ac)⟩
 have G:b<n:=by
  have h:b<(dX n g).length:=by simpa using qb
  omega
 have hL:L.length=n:=by
  have:=congrArg abB A;rw[fv]at this;unfold dE at this;rwa[ZE]at this
 have a0: ∀r:List Bool,r.length=n->(aE 1 r cj).real=kw:=fun r hr=>by
  cases r with
  |nil=>simp at hr;omega
  |cons=>rfl
 have y0:a<L.length:=by omega
 have a1:m<L.length:=by omega
 obtain⟨F,D⟩: ∃y,L[a]? =io y:=⟨_,Za y0⟩
 obtain⟨ym,c0⟩: ∃y,L[m]? =io y:=⟨_,Za a1⟩
 obtain⟨k1,k2,k3,k4⟩:=u.ok F (ZC D);obtain⟨j1,j2,j3,j4⟩:=u.ok ym (ZC c0);have p0:F.2.2.2=(Zy n).map fun j=>Go.Wa.V E m a b a j:=by
  have:=Fq D;rw[A,mr d0]at this;exact(Z5 this).symm
 have b1:ym.2.2.2=(Zy n).map fun j=>Go.Wa.V E m a b m j:=by
  have:=Fq c0;rw[A,mr e0]at this;exact(Z5 this).symm
 have r0:F.2.2.2.getD m em=Go.Wa.V E m a b a m:=by rw[p0,Y6,ru e0];rfl
 have s0:ym.2.2.2.getD b em=Go.Wa.V E m a b m b:=by rw[b1,Y6,ru G];rfl
 have o0:(Go.Wa.V E m a b a m&&Go.Wa.V E m a b m b)=lc->dE L=dX n (Go.Wa.V E m a (b+1)):=fun h=>A.trans (mu fun x y _ _=>by
  rw[Go.Wa.V.next,h,aaK];by_cases t0:x=a∧y=b
  .rw[am t0]
  .rw[be t0])
 refine aJ (bR (aJ (iL (bC 3 ?_))));refine gA Z ?_;refine bC 1 ?_;refine bB ab Z Z Z Z Z (show(L.map fun x=>(ta n x).map PV.iv)[0+a]? =io ((ta n F).map PV.iv) by rw[Zu,Zg,D];rfl) Z Z ?_;refine gA Z ?_;refine eJ (kA (d:=66) (sz:=1) (dd (fT cj) u.nd D) Z (by omega) k2 k3 k4) fun t Y J=>?_;obtain⟨rfl,rfl⟩:=J;refine bC 2 ?_;refine gA Z ?_;refine bC 1 ?_;refine bB ab Z Z Z Z Z (show(F.2.2.2.map fun x=>(cj x).map PV.iv)[0+m]? =io ((cj (F.2.2.2.getD m em)).map PV.iv) from jj (by omega)) Z Z ?_;refine gA Z ?_;refine bC 1 ?_;refine gA Z ?_;refine eJ (xC (b:=F.1) (e:=F.2.1) (i:=2) (o:=aE 1 F.2.2.2 cj) (bf.dz _ _ _) Z (a0 _ k1) (jJ cj)) fun t Y J=>?_;obtain⟨rfl,rfl⟩:=J;rw[oj cj u D,u4 D];refine bC 3 ?_;refine zJ Z Z (fun S=>?_) fun S=>?_
 .have S:Go.Wa.V E m a b a m=kw:=by rw[<-r0];exact S
  refine gA Z ?_;refine bC 1 ?_;refine gM 1 Z (bB ab Z Z Z Z Z (show(L.map fun x=>(ta n x).map PV.iv)[0+m]? =io ((ta n ym).map PV.iv) by rw[Zu,Zg,c0];rfl) Z Z ?_);refine gA Z ?_;refine eJ (kA (d:=74) (sz:=1) (dd (fT cj) u.nd c0) Z (by omega) j2 j3 j4) fun t Y J=>?_;obtain⟨rfl,rfl⟩:=J;refine bC 2 ?_;refine gA Z ?_;refine bC 1 ?_;refine gM 1 Z (bB ab Z Z Z Z Z (show(ym.2.2.2.map fun x=>(cj x).map PV.iv)[0+b]? =io ((cj (ym.2.2.2.getD b em)).map PV.iv) from jj (by omega)) Z Z ?_);refine gA Z ?_;refine eJ (xC (b:=ym.1) (e:=ym.2.1) (i:=3) (o:=aE 1 ym.2.2.2 cj) (bf.dz _ _ _) Z (a0 _ j1) (jJ cj)) fun t Y J=>?_;obtain⟨rfl,rfl⟩:=J;rw[oj cj u c0,u4 c0];refine bC 1 ?_;refine gA Z ?_;refine fg (dD Z (fun q2=>?_) (fun q2=>?_))
  .have q2:Go.Wa.V E m a b m b=kw:=by rw[<-s0];exact q2
   have hw:Go.Wa.V E m a (b+1) a b=kw:=by rw[Go.Wa.V.next,am ⟨rfl,rfl⟩,S,q2];simp
   have I:=Db (n:=n) (f:=Go.Wa.V E m a b) (f':=Go.Wa.V E m a (b+1)) d0 G fun i j _ _=>by
    rw[Go.Wa.V.next m a b i j];by_cases b0:i=a∧j=b
    .rw[am b0,am b0,Go.Wa.V.next,am ⟨rfl,rfl⟩,b0.1,b0.2]
    .rw[be b0,be b0]
   rw[hw]at I;refine WA (L:=[]) (t:=⟨[(0,.iv (gI n g)),(3,.sl 1 0 n 1),(7,pI m),(8,pI a),(9,pI b)],[(1,io (rO n L))],4⟩) (zW (zS ac)) ?_;refine iL (bC 3 ?_);refine gA Z ?_;refine bC 1 ?_;refine bB ab Z Z Z Z Z (show(L.map fun x=>(ta n x).map PV.iv)[0+a]? =io ((ta n F).map PV.iv) by rw[Zu,Zg,D];rfl) Z Z ?_;refine gA Z ?_;refine eJ (kA (d:=82) (sz:=1) (dd (fT cj) u.nd D) Z (by omega) k2 k3 k4) fun t Y J=>?_;obtain⟨rfl,rfl⟩:=J;refine bC 2 ?_;refine gA Z ?_;refine bC 1 ?_;refine kJ ab Z Z Z (i:=4) (sz:=1) (q:=0+b) Z Z Z Z (by simp only[ZE];omega) Z Z Z Z ?_;refine gA Z ?_;refine eJ (xB (i:=4) (o':=aE 1 (F.2.2.2.set b kw) cj) Z ((Ah (sz:=1) (es:=F.2.2.2.map fun x=>(cj x).map PV.iv) (q:=0+b) (p:= .kb kw) (p':= .iv (iB kw)) (.kb kw)).trans (.of_eq ?_))) fun t Y J=>?_
   .show AO.row 1 ((F.2.2.2.map fun x=>(cj x).map PV.iv).set (0+b) ((cj kw).map PV.iv))=AO.row 1 ((F.2.2.2.set b kw).map fun x=>(cj x).map PV.iv);rw[Zu,aaR]
   obtain⟨rfl,rfl⟩:=J;refine eJ (xC (b:=F.1) (e:=F.2.1) (i:=4) (o:=aE 1 (F.2.2.2.set b kw) cj) (bf.dz _ _ _) Z (a0 _ (by rw[aaO];exact k1)) (jJ cj)) fun t Y J=>?_;obtain⟨rfl,rfl⟩:=J;refine fg (jx (bZ (fO (L:=[]) (t:=⟨[(0,.iv (gI n g)),(3,.sl 1 0 n 1),(7,pI m),(8,pI a),(9,pI b)],[(1,io (rO n (p3 L a F (F.2.2.2.set b kw))))],5⟩) (zW (hR Z (FD D).symm Z ac)) ?_)));refine gA Z ?_
   exact⟨G,⟨p3 L a F (F.2.2.2.set b kw)⟩,[],⟨oj cj u D,Bz u D (by rw[aaO];exact k1),by
    show dE (p3 L a F (F.2.2.2.set b kw))=_
    rw[BB,A,p0];exact I⟩,zW (zS ac)⟩
  .have q2:Go.Wa.V E m a b m b=lc:=by rw[<-s0];exact q2
   refine dQ (jx (bZ ?_));refine gA Z ⟨G,⟨L⟩,[],⟨rfl,u,o0 (by rw[q2,aaa])⟩,zW (zS ac)⟩
 .have S:Go.Wa.V E m a b a m=lc:=by rw[<-r0];exact S
  refine gA Z ?_;refine bC 5 ?_;refine gA Z ?_;refine fg ?_
  first
   |refine F6 (t:=lc) Z ?_
   |refine dD (t:=lc) Z (fun q=>nomatch q) (fun _=>?_)
  refine dQ (jx (bZ ?_));refine gA Z ⟨G,⟨L⟩,[],⟨rfl,u,o0 (by rw[S,aad])⟩,zW (zS ac)⟩
theorem Aj{p:Prog}(hf:nk p){i j:Nat}(hi:i<(ns p).length)(hj:j<(ns p).length):ringEq p (vD p i) (vD p j)=(jV p i j&&jV p j i):=by
 rw[ZW,xT,Zw];constructor
 .rintro⟨i',j',hi',hj',h1,h2,h3,h4⟩;obtain rfl:=CY hf hi' hi h1;obtain rfl:=CY hf hj' hj h2;exact⟨h3,h4⟩
 .exact fun h=>⟨i,j,hi,hj,rfl,rfl,h.1,h.2⟩
theorem H7{p:Prog}(hf:nk p){a:ak}(ha:a∈p.aD.map Decl.name): ∃i,i<(ns p).length∧vD p i=a∧JL (ns p) a=(i:Int):=by
 obtain⟨i,b,d⟩:=Go.Rg.rz (V:=ns p) (a:=a) (by rw[ns,gu];exact ha);refine⟨i,b,d,?_⟩;have:=KW hf b;rwa[show vD p i=a from d]at this
theorem Xu{i:Nat}{α:Prop}(h:li ((i:Int)>=0)=lc):α:=by
 have:=zF h;omega
theorem oS{r:ah}(h:r.size<=10000000):r.body.length<=10000000∧r.head.ad.length<=10000000:=by
 have:=Lit.au r.body;unfold ah.size at h;exact⟨by omega,by omega⟩
abbrev fI(p:Prog):IV:=wI (ns p).length (jV p)
theorem Pa{p:Prog}(hf:nk p){r:ah}(hr:r∈p.rules)(J:r.size<=10000000):Pure prog 62 [ag r.c,.iv (strs (ns p)),.iv (fI p)] (pB (nP p r)):=by
 have hn:=vq hf;have d0:=fv (ns p).length (jV p);have a0:=(oS J).1;obtain⟨a,B,F,I⟩:=H7 hf (hf.yr r hr);have u:=rr (ns p) r.head.rel;rw[I]at u;have b0:=pZ (f:=jV p) B;refine ae ab func62 Z (by decide) ntmps62 Z (by simp) Z ?_;refine gA Z (zp (u) ?_);refine gA Z ?_;refine aw 0 r.body.length (Zf _) (fun i=>⟨[(1,.iv (strs (ns p))),(2,.iv (fI p)),(3,.ptr 0 0),(7,pI a),(8,pI i)],[(0,io (aj r.c))],1⟩) (fun i=>(r.body.take i).any (fun l=>li (l.kind=1)&&ringEq p l.atom.rel r.head.rel)=lc) [] Z
  (zW (zK trivial)) fun i hi A=>?_
 refine zE Z Z (fun d=>?_) fun d=>?_
 .have d:=co d;rw[show nP p r=lc from any_none A d];exact zU Z
 have d:=ci d;have hl:=cv d;refine zJ Z Z (fun j=>?_) fun j=>?_
 .have j:(!li ((r.body.getD i em).kind=1))=kw:=j;refine gA Z ⟨d,(aW A d).2 (by simp only[Bool.and_eq_false_iff];exact .inl (by simpa using j)),[],zW (zK ac)⟩
 have j:(r.body.getD i em).kind=1:=zY j;have hm:(r.body.getD i em).atom.rel∈named (r.body.getD i em):=by rw[qq,am (.inl j)];exact aa1 _
 obtain⟨b,hb,G,y⟩:=H7 hf (hf.lits r hr _ hl _ hm);have x:=rr (ns p) (r.body.getD i em).atom.rel;rw[y]at x;have c0:=pZ (f:=jV p) hb;have S:=tW (f:=jV p) B hb;have Y:=tW (f:=jV p) hb B;have D:(li ((r.body.getD i em).kind=1)&&ringEq p (r.body.getD i em).atom.rel r.head.rel)=(jV p b a&&jV p a b):=by
  rw[decide_eq_true j,ZR,<-F,<-G,Aj hf hb B]
 refine gA Z (zp (x) ?_);refine zE Z Z (fun g1=>?_) fun g1=>?_
 .exact Xu g1
 refine zE Z Z (fun g2=>?_) fun g2=>?_
 .exact Xu g2
 refine zE Z Z (fun g3=>?_) fun g3=>?_
 .have g3:jV p a b=lc:=by rw[<-S];exact g3
  refine gA Z ⟨d,(aW A d).2 (by rw[D,g3,aaa]),[],zW (zK ac)⟩
 have g3:jV p a b=kw:=by rw[<-S];exact g3
 refine zJ Z Z (fun g4=>?_) fun g4=>?_
 .have g4:jV p b a=kw:=by rw[<-Y];exact g4
  rw[show nP p r=kw from iN d (by rw[D,g3,g4];rfl)];exact zU Z
 .have g4:jV p b a=lc:=by rw[<-Y];exact g4
  refine gA Z ⟨d,(aW A d).2 (by rw[D,g4,aad]),[],zW (zK ac)⟩
theorem IF(r:ah)(y:r.size<=10000000):Pure prog 104 [ag r.c] (pB (iM r)):=by
 have A:=(oS y).2;refine ae ab func104 Z (by decide) ntmps104 Z (by simp) Z ?_;refine gA Z (zp (c34 r (by omega)) ?_);refine gA Z ?_;refine aw 0 r.head.ad.length (Zf _) (fun i=>⟨[(1,.ptr 0 0),(3,.iv (strs (fU r))),(4,pI i)],[(0,io (aj r.c))],1⟩) (fun i=>(r.head.ad.take i).any (fun t=>li (t.kind=1)&&!aH (fU r) t.var)=lc) [] Z
  (zW (zK trivial)) fun i B x=>?_
 refine zE Z Z (fun b=>?_) fun b=>?_
 .have b:=co b;rw[show iM r=lc from any_none x b];exact zU Z
 have b:=ci b;refine zE Z Z (fun d=>?_) fun d=>?_
 .have d:li ((r.head.ad.getD i em).kind=1)=lc:=d;refine gA Z ⟨b,(aW x b).2 (by rw[d,aad]),[],zW (zK ac)⟩
 have d:li ((r.head.ad.getD i em).kind=1)=kw:=d;have u:=Wh (fU r) (r.head.ad.getD i em).var;refine gA Z (zp (rr (fU r) (r.head.ad.getD i em).var) ?_);refine zJ Z Z (fun j=>?_) fun j=>?_
 .have j:li (JL (fU r) (r.head.ad.getD i em).var<0)=kw:=j;rw[show iM r=kw from iN b (by rw[d,<-u,j];rfl)];exact zU Z
 .have j:li (JL (fU r) (r.head.ad.getD i em).var<0)=lc:=j;refine gA Z ⟨b,(aW x b).2 (by rw[d,<-u,j];rfl),[],zW (zK ac)⟩
def stL(p:Prog)(r:ah)(l:Lit):Bool:=li (l.kind≠1)&&(named l).any fun t=>ringEq p t r.head.rel
theorem O7{p:Prog}(hf:nk p){r:ah}(hr:r∈p.rules)(x:r.size<=10000000):Pure prog 66 [ag r.c,.iv (strs (ns p)),.iv (fI p)] (ag (gQ p r).c):=by
 have hn:=vq hf;have k0:=fv (ns p).length (jV p);have f0:=(oS x).1;obtain⟨a,S,a0,d0⟩:=H7 hf (hf.yr r hr);have F:=rr (ns p) r.head.rel;rw[d0]at F;have i0:=pZ (f:=jV p) S;refine ae ab func66 Z (by decide) ntmps66 Z (by simp) Z ?_;refine gA Z (zp (F) ?_);refine gA Z ?_;refine aw 0 r.body.length (Zf _) (fun i=>⟨[(1,.iv (strs (ns p))),(2,.iv (fI p)),(3,.ptr 0 0),(6,.ptr 1 0),(7,pI a),(8,pI i)],[(0,io (aj r.c)),(1,io (aj aZ.z.c))],2⟩) (fun i=>(r.body.take i).any (stL p r)=lc) [] Z
  (zW (zK (zK trivial))) fun i hi Y=>?_
 refine zE Z Z (fun j=>?_) fun j=>?_
 .have j:=co j;have y:rm p r=jp:=eN (any_none Y j);have hw:gQ p r=if iM r=kw∧nP p r=kw then(71,r.at_) else aZ.z:=by rw[gQ,y]
  refine gA Z (zp (Pa hf hr x) ?_);refine zJ Z Z (fun g1=>?_) fun g1=>?_
  .have g1:nP p r=kw:=g1;refine gA Z (zp (IF r x) ?_);refine zJ Z Z (fun g2=>?_) fun g2=>?_
   .have g2:iM r=kw:=g2;rw[hw,am ⟨g2,g1⟩];exact zU Z
   .have g2:iM r=lc:=g2;rw[hw,be (by rw[g2];exact fun h=>nomatch h.1)];exact zU Z
  .have g1:nP p r=lc:=g1;rw[hw,be (by rw[g1];exact fun h=>nomatch h.2)];exact zU Z
 have j:=ci j;have hl:=cv j;have c0:=ye _ (hf.flat r hr _ hl);have g0:=kD (r.body.getD i em);have e0:(r.body.getD i em).size<=10000000:=by have:=Lit.aF r.body i j;unfold ah.size at x;omega
 have D:=hf.lits r hr _ hl;have B:=SA (r.body.getD i em) (by omega);rw[<-c0]at B;refine gA Z (zp (B) ?_);refine gA Z ?_;refine aw 0 (named (r.body.getD i em)).length (Zf _) (fun k=>⟨[(1,.iv (strs (ns p))),(2,.iv (fI p)),(3,.ptr 0 0),(6,.ptr 1 0),(7,pI a),(8,pI i),(9,.iv (strs (named (r.body.getD i em)))),(10,pI k)],[(0,io (aj r.c)),(1,io (aj aZ.z.c))],2⟩) (fun k=>((named (r.body.getD i em)).take k).any (fun t=>li ((r.body.getD i em).kind≠1)&&ringEq p t r.head.rel)=lc) [] Z
  (zW (zK (zK trivial))) fun k hk J=>?_
 refine zE Z Z (fun d=>?_) fun d=>?_
 .have d:(named (r.body.getD i em)).length<=k:=by simpa using d
  have A:=any_none J d;refine gA Z ?_;refine⟨j,(aW Y j).2 ?_,[],zW (zK (zK ac))⟩;unfold stL;generalize li ((r.body.getD i em).kind≠1)=c at A;cases c with
  |false=>rfl
  |true=>simpa using A
 have d:k<(named (r.body.getD i em)).length:=by simpa using d
 have ht:=cv d;obtain⟨b,hb,b0,I⟩:=H7 hf (D _ ht);have G:=rr (ns p) ((named (r.body.getD i em)).getD k em);rw[I]at G;have j0:=pZ (f:=jV p) hb;have e1:=tW (f:=jV p) S hb;have e2:=tW (f:=jV p) hb S;have hQ:ringEq p ((named (r.body.getD i em)).getD k em) r.head.rel=(jV p b a&&jV p a b):=by
  rw[<-a0,<-b0,Aj hf hb S]
 refine gA Z (zp (G) ?_);refine zE Z Z (fun u=>?_) fun u=>?_
 .have u:li ((r.body.getD i em).kind≠1)=lc:=by
   have u:(!li ((r.body.getD i em).kind=1))=lc:=u;simpa using u
  refine gA Z ⟨d,(aW J d).2 (by rw[u,aad]),[],zW (zK (zK ac))⟩
 have u:li ((r.body.getD i em).kind≠1)=kw:=by
  have u:(!li ((r.body.getD i em).kind=1))=kw:=u;simpa using u
 refine zE Z Z (fun g1=>?_) fun g1=>?_
 .exact Xu g1
 refine zE Z Z (fun g2=>?_) fun g2=>?_
 .exact Xu g2
 refine zE Z Z (fun g3=>?_) fun g3=>?_
 .have g3:jV p a b=lc:=by rw[<-e1];exact g3
  refine gA Z ⟨d,(aW J d).2 (by rw[hQ,g3,aaa,aaa]),[],zW (zK (zK ac))⟩
 have g3:jV p a b=kw:=by rw[<-e1];exact g3
 refine zJ Z Z (fun g4=>?_) fun g4=>?_
 .have g4:jV p b a=kw:=by rw[<-e2];exact g4
  have y:rm p r=io (r.body.getD i em):=kZ Y j (by
   show(li ((r.body.getD i em).kind≠1)&&(named (r.body.getD i em)).any fun t=>ringEq p t r.head.rel)=kw;rw[u,ZR]
   exact iN d (by rw[hQ,g3,g4];rfl))
  rw[show gQ p r=(70,(r.body.getD i em).at) by rw[gQ,y]];exact zU Z
 .have g4:jV p b a=lc:=by rw[<-e2];exact g4
  refine gA Z ⟨d,(aW J d).2 (by rw[hQ,g4,aad,aaa]),[],zW (zK (zK ac))⟩
end Go.Proofs.YtflegjieadkonaaGreatDoor
namespace Go.Proofs.YtflegjieadkonaaGreatDoor
open Go Go.Al
section
theorem HJ{α:Type}{f:Nat->Option α}{n:Nat}(h: ∀j,j<n->f j=jp):(Zy n).findSome? f=jp:=by
 rw[List.findSome?_eq_none_iff];exact fun x b=>h x (aam.1 b)
theorem Mg{α:Type}{f:Nat->Option α}{i:Nat}{s:α}(h: ∀j,j<i->f j=jp)(hs:f i=io s): ∀{n:Nat},i<n->(Zy n).findSome? f=io s
 |n+1,hi=>by
  rw[abo,abV];rcases ZS.1 hi with hi|hi
  .rw[Mg h hs hi];rfl
  .subst hi;rw[HJ h];simp[hs]
section
variable (K:ak->Bool) (r:ah) (dn:Nat->Bool)
def sA(i:Nat):Int×Int:=(Zy i).foldl (wA K r dn) (-1, -1)
theorem Gq(i:Nat):sA K r dn (i+1)=wA K r dn (sA K r dn i) i:=by
 unfold sA;rw[abo,aaE];rfl
end
end
end Go.Proofs.YtflegjieadkonaaGreatDoor
namespace Go.Proofs.YtflegjieadkonaaGreatDoor
open Go Go.Al Go.Proofs.Tryz
theorem WY(a:Atom)(hb:a.ad.length<=100000000000):Pure prog 58 [ag a.c,ag a.c] (pB kw):=by
 refine ae ab func58 Z (by decide) ntmps58 Z (by simp) Z ?_
 repeat(refine gA Z (zI (fun q=>?_) (fun q=>?_));all_goals(try(simp at q;done)))
 refine gA Z ?_;refine aw 0 a.ad.length (Zf _) (fun i=>⟨[(2,.ptr 0 0),(3,.ptr 1 0),(5,pI i)],[(0,io (aj a.c)),(1,io (aj a.c))],2⟩) (fun _=>True) [] ac
  (zW (zK (zK trivial))) fun i d _=>?_
 refine zJ Z Z (fun b=>?_) fun b=>?_
 .have b:=ci b
  repeat(refine gA Z (zI (fun q=>?_) (fun q=>?_));all_goals(try(simp at q;done)))
  refine gA Z ⟨b,ac,[],zW (zK (zK ac))⟩
 .have b:=co b;exact zU Z
theorem S2: ∀(n:Nat) (e:Expr),e.size<=n->e.size<=100000000000->Pure prog 100 [ag e.c,ag e.c] (pB kw)
 |0,e,h,_=>absurd e.size_pos (by omega)
 |n+1,e,h,hb=>by
  have j:=e.size_eq;have d:=Expr.au e.args;refine Al.Pure.le (aa:=[ag e.c,ag e.c]) (args:=[ag e.c1,ag e.c1]) ?_ ⟨e.xd,e.xd,ac⟩;refine ae ab func100 Z (by decide) ntmps100 Z (by simp) Z ?_
  repeat(refine gA Z (zI (fun q=>?_) (fun q=>?_));all_goals(try(simp at q;done)))
  refine gA Z ?_;refine aw 0 e.args.length (Zf _) (fun i=>⟨[(2,.ptr 0 0),(3,.ptr 1 0),(5,pI i)],[(0,io (aj e.c1)),(1,io (aj e.c1))],2⟩) (fun _=>True) [] ac
   (zW (zK (zK trivial))) fun i x _=>?_
  refine zJ Z Z (fun b=>?_) fun b=>?_
  .have b:=ci b;have u:=Expr.aF e.args i b;refine gA Z (n9 (S2 n (e.args.getD i em) (by omega) (by omega)) ?_)
   repeat(refine gA Z (zI (fun q=>?_) (fun q=>?_));all_goals(try(simp at q;done)))
   refine gA Z ⟨b,ac,[],zW (zK (zK ac))⟩
  .have b:=co b;exact zU Z
theorem MN(e:Expr)(hb:e.size<=100000000000):Pure prog 100 [ag e.c,ag e.c] (pB kw):=S2 e.size e (Zc _) hb
theorem X6: ∀(n:Nat) (l:List Lit),Lit.az l<=n->Lit.az l<=100000000000->Pure prog 59 [.iv (lits l),.iv (lits l)] (pB kw):=by
 intro n
 induction n with
 |zero=>
  intro l h hb;have u:=Lit.au l;have d:l=[]:=aaZ.1 (by omega);subst d;refine ae ab func59 Z (by decide) ntmps59 Z (by simp) Z ?_
  repeat(refine gA Z (zI (fun q=>?_) (fun q=>?_));all_goals(try(simp at q;done)))
  refine gA Z ?_;refine aw 0 0 (Zf _) (fun i=>⟨[(0,.iv (lits [])),(1,.iv (lits [])),(5,pI i)],[],0⟩) (fun _=>True) [] ac (lJ Z Z (bv (bv (bv ac))) Z) fun i j _=>?_;refine zJ Z Z (fun b=>?_) fun b=>?_
  .simp at b;omega
  .exact zU Z
 |succ n ih=>
  intro l h hb;have u:=Lit.au l;refine ae ab func59 Z (by decide) ntmps59 Z (by simp) Z ?_
  repeat(refine gA Z (zI (fun q=>?_) (fun q=>?_));all_goals(try(simp at q;done)))
  refine gA Z ?_;refine aw 0 l.length (Zf _) (fun i=>⟨[(0,.iv (lits l)),(1,.iv (lits l)),(5,pI i)],[],0⟩) (fun _=>True) [] ac (lJ Z Z (bv (bv (bv ac))) Z) fun i j _=>?_;refine zJ Z Z (fun b=>?_) fun b=>?_
  .have b:=ci b;have y:=Lit.aF l i b;have x:=(l.getD i em).size_eq
   repeat(refine gA Z (zI (fun q=>?_) (fun q=>?_));all_goals(try(simp at q;done)))
   refine gA Z (zp (WY (l.getD i em).atom (by omega)) ?_)
   repeat(refine gA Z (zI (fun q=>?_) (fun q=>?_));all_goals(try(simp at q;done)))
   refine gA Z (zp (MN (l.getD i em).left (by omega)) ?_)
   repeat(refine gA Z (zI (fun q=>?_) (fun q=>?_));all_goals(try(simp at q;done)))
   refine gA Z (zp (MN (l.getD i em).right (by omega)) ?_)
   repeat(refine gA Z (zI (fun q=>?_) (fun q=>?_));all_goals(try(simp at q;done)))
   repeat(refine gA Z (zI (fun q=>?_) (fun q=>?_));all_goals(try(simp at q;done)))
   refine gA Z (zp (MN (l.getD i em).jT (by omega)) ?_)
   repeat(refine gA Z (zI (fun q=>?_) (fun q=>?_));all_goals(try(simp at q;done)))
   refine gA Z (bg (Al.Pure.le (aa:=[.iv (uL (l.getD i em).ar),.iv (uL (l.getD i em).ar)]) (ih (l.getD i em).ar (by omega) (by omega)) ⟨.iv (kG _),.iv (kG _),ac⟩) Z Z Z Z Z Z ?_)
   repeat(refine gA Z (zI (fun q=>?_) (fun q=>?_));all_goals(try(simp at q;done)))
   refine gA Z ⟨b,ac,[],zW ac⟩
  .have b:=co b;exact zU Z
theorem X5(l:List Lit)(hb:Lit.az l<=100000000000):Pure prog 59 [.iv (lits l),.iv (lits l)] (pB kw):=X6 _ l (Zc _) hb
set_option maxHeartbeats 800000 in
theorem Yu(p:Prog)(hb:p.size<=100000000000):Pure prog 19 [ag p.c,ag p.c] (pB kw):=by
 have y:p.size=p.aD.length+(p.aD.map fun d=>d.types.length).sum+p.rules.length+(p.rules.map ah.size).sum:=rfl;refine ae ab func19 Z (by decide) ntmps19 Z (by simp) Z ?_
 repeat(refine gA Z (zI (fun q=>?_) (fun q=>?_));all_goals(try(simp at q;done)))
 refine gA Z ?_;refine aw 0 p.aD.length (Zf _) (fun i=>⟨[(2,.ptr 0 0),(3,.ptr 1 0),(5,pI i)],[(0,io (aj p.c)),(1,io (aj p.c))],2⟩) (fun _=>True) [] ac
  (zW (zK (zK trivial))) fun i x _=>?_
 refine zJ Z Z (fun j=>?_) fun j=>?_
 .have j:=ci j;have u:=rk (fun d:Decl=>d.types.length) p.aD i j
  repeat(refine gA Z (zI (fun q=>?_) (fun q=>?_));all_goals(try(simp at q;done)))
  refine gA Z ?_;refine aw 0 (p.aD.getD i em).types.length (Zf _) (fun k=>⟨[(2,.ptr 0 0),(3,.ptr 1 0),(5,pI i),(6,.ptr 2 0),(7,.ptr 3 0),(8,pI k)],[(0,io (aj p.c)),(1,io (aj p.c)),(2,io (aj (p.aD.getD i em).c)),(3,io (aj (p.aD.getD i em).c))],4⟩) (fun _=>True) [] ac
   (zW (zK (zK (zK (zK trivial))))) fun k B _=>?_
  refine zJ Z Z (fun b=>?_) fun b=>?_
  .have b:k<(p.aD.getD i em).types.length:=by simpa using b
   repeat(refine gA Z (zI (fun q=>?_) (fun q=>?_));all_goals(try(simp at q;done)))
   refine gA Z ⟨b,ac,[],zW (zK (zK (zK (zK ac))))⟩
  .have b:(p.aD.getD i em).types.length<=k:=by simpa using b
   refine gA Z ⟨j,ac,[],zW (zK (zK ac))⟩
 .have j:=co j;refine gA Z ?_;refine aw 0 p.rules.length (Zf _) (fun i=>⟨[(2,.ptr 0 0),(3,.ptr 1 0),(9,pI i)],[(0,io (aj p.c)),(1,io (aj p.c))],2⟩) (fun _=>True) [] ac
   (zW (zK (zK trivial))) fun i x _=>?_
  refine zJ Z Z (fun b=>?_) fun b=>?_
  .have b:=ci b;have u:=rk ah.size p.rules i b;have A:(p.rules.getD i em).size=(p.rules.getD i em).head.ad.length+Lit.az (p.rules.getD i em).body:=rfl
   repeat(refine gA Z (zI (fun q=>?_) (fun q=>?_));all_goals(try(simp at q;done)))
   refine gA Z (zp (WY (p.rules.getD i em).head (by omega)) ?_)
   repeat(refine gA Z (zI (fun q=>?_) (fun q=>?_));all_goals(try(simp at q;done)))
   refine gA Z (zp (X5 (p.rules.getD i em).body (by omega)) ?_)
   repeat(refine gA Z (zI (fun q=>?_) (fun q=>?_));all_goals(try(simp at q;done)))
   refine gA Z ⟨b,ac,[],zW (zK (zK ac))⟩
  .have b:=co b;exact zU Z
abbrev pU(n:Int):PV:= .iv (.v (.int .u8 n))
def gY(c:Int):Bool:=li (c>=97)&&li (c<=122)
def tG(c:Int):Bool:=li (c>=65)&&li (c<=90)
def Gf(c:Int):Bool:=(li (c>=48)&&li (c<=57))||decide (c=95)
theorem Xe(c:Int):Pure prog 206 [pU c] (pB (gY c)):=by
 refine ae ab func206 Z (by decide) ntmps206 Z (by simp) Z ?_
 repeat' (first|(refine gA Z (zI (fun _=>?_) (fun _=>?_)))|(refine gA Z (zL (.of_eq ?_))))
 all_goals(refine(fV ?_:pB _=pB _);simp_all [gY];try omega)
theorem YE(c:Int):Pure prog 231 [pU c] (pB (tG c)):=by
 refine ae ab func231 Z (by decide) ntmps231 Z (by simp) Z ?_
 repeat' (first|(refine gA Z (zI (fun _=>?_) (fun _=>?_)))|(refine gA Z (zL (.of_eq ?_))))
 all_goals(refine(fV ?_:pB _=pB _);simp_all [tG];try omega)
theorem YF(c:Int):Pure prog 230 [pU c] (pB (Gf c)):=by
 refine ae ab func230 Z (by decide) ntmps230 Z (by simp) Z ?_
 repeat' (first|(refine gA Z (zI (fun _=>?_) (fun _=>?_)))|(refine gA Z (zL (.of_eq ?_))))
 all_goals(refine(fV ?_:pB _=pB _);simp_all [Gf];try omega)
theorem Hc(b:UInt8):okB b=(Gf (b.toNat:Int)||(gY (b.toNat:Int)||tG (b.toNat:Int))):=by
 unfold okB Nl Gf gY tG;rw[ZW];simp only[aas,Zw,decide_eq_true_iff];omega
def cC(s:ak)(i:Nat):UInt8:=s.data.toList.getD i 0
def fK(s:ak):Bool:=li (1<=s.size)&&(li (s.size<=32)&&(Zy s.size).all fun i=>li (i=0)||okB (cC s i))
theorem G2{s:ak}(h0: ¬s.size<1)(h1: ¬s.size>32)(h: ∀j,1<=j->j<s.size->okB (cC s j)=kw):fK s=kw:=by
 unfold fK;rw[decide_eq_true (show 1<=s.size by omega),decide_eq_true (show s.size<=32 by omega),ZR,ZR,ZA];intro j b;by_cases d:j=0
 .simp[d]
 .rw[h j (by omega) (aam.1 b)];simp
theorem G3{s:ak}{j:Nat}(hj:1<=j)(h1:j<s.size)(h:okB (cC s j)=lc):fK s=lc:=by
 rw[<-aaC];intro b;unfold fK at b;simp only[Zw,ZA]at b;have:=b.2.2 j (aam.2 h1);rw[h,decide_eq_false (by omega)]at this;cases this
theorem c99(s:ak):Pure prog 204 [pS s] (pB (fK s)):=by
 refine ae ab func204 Z (by decide) ntmps204 Z (by simp) Z ?_;refine zE Z Z (fun g1=>?_) fun g1=>?_
 .have g1:s.size<1:=by
   have:=zT (show li ((s.size:Int)<1)=kw from g1);omega
  refine gA Z (zL (.of_eq ?_));refine(fV ?_:pB lc=_);unfold fK;rw[decide_eq_false (show¬1<=s.size by omega)];rfl
 have g1: ¬s.size<1:=by
  have:=zF (show li ((s.size:Int)<1)=lc from g1);omega
 refine zJ Z Z (fun g2=>?_) fun g2=>?_
 .have g2:s.size>32:=by
   have:=zT (show li ((s.size:Int)>32)=kw from g2);omega
  refine gA Z (zL (.of_eq ?_));refine(fV ?_:pB lc=_);unfold fK;rw[decide_eq_false (show¬s.size<=32 by omega)];simp
 have g2: ¬s.size>32:=by
  have:=zF (show li ((s.size:Int)>32)=lc from g2);omega
 refine gA Z ?_;refine aw 1 s.size (by omega) (fun i=>⟨[(0,pS s),(3,pI i)],[],0⟩) (fun i=>1<=i∧ ∀j,1<=j->j<i->okB (cC s j)=kw) [] ⟨Zc _,fun j d J=>by omega⟩ (lJ Z Z (bv (bv ac)) Z) fun i S D=>?_;obtain⟨F,D⟩:=D;refine zJ Z Z (fun d=>?_) fun d=>?_
 .have d:=ci d;have u:=Hc (cC s i);have x:okB (cC s i)=kw-> ∀j,1<=j->j<i+1->okB (cC s j)=kw:=fun h j a b=>by
   by_cases I:j=i
   .subst I;exact h
   .exact D j a (by omega)
  refine gA Z (zp (YF ((cC s i).toNat:Int)) ?_);refine gA Z (zp (Xe ((cC s i).toNat:Int)) ?_);refine gA Z (zp (YE ((cC s i).toNat:Int)) ?_);refine zJ Z Z (fun y=>?_) fun y=>?_
  .have y:Gf ((cC s i).toNat:Int)=lc:=by simpa using y
   refine zJ Z Z (fun A=>?_) fun A=>?_
   .have A:gY ((cC s i).toNat:Int)=lc:=by simpa using A
    refine zJ Z Z (fun B=>?_) fun B=>?_
    .have B:tG ((cC s i).toNat:Int)=lc:=by simpa using B
     rw[y,A,B]at u;rw[G3 F d u];exact zU Z
    .have B:tG ((cC s i).toNat:Int)=kw:=by simpa using B
     rw[B]at u;refine gA Z ⟨d,⟨by omega,x (by rw[u];simp)⟩,[],lJ Z Z (bv (bv ac)) Z⟩
   .have A:gY ((cC s i).toNat:Int)=kw:=by simpa using A
    rw[A]at u
    repeat(refine gA Z (zI (fun q=>?_) (fun q=>?_));all_goals(try(simp at q;done)))
    refine gA Z ⟨d,⟨by omega,x (by rw[u];simp)⟩,[],lJ Z Z (bv (bv ac)) Z⟩
  .have y:Gf ((cC s i).toNat:Int)=kw:=by simpa using y
   rw[y]at u
   repeat(refine gA Z (zI (fun q=>?_) (fun q=>?_));all_goals(try(simp at q;done)))
   refine gA Z ⟨d,⟨by omega,x (by rw[u];simp)⟩,[],lJ Z Z (bv (bv ac)) Z⟩
 .have d:=co d;have G:i=s.size:=by omega
  subst G;rw[G2 g1 g2 D];exact zU Z
theorem YS(s:ak):Pure prog 205 [pS s] (pB (DA s)):=by
 refine ae ab func205 Z (by decide) ntmps205 Z (by simp) Z ?_
 repeat' (first|(refine gA Z (zI (fun _=>?_) (fun _=>?_)))|(refine gA Z (zL (.of_eq ?_))))
 all_goals(refine(fV ?_:pB _=pB _))
 all_goals(simp only[DA,Pw,ab6,List.any_nil, *];rfl)
theorem vd(s:ak)(h:fK s=kw):pz s 97 122=gY (hd s):=by
 unfold fK at h;simp only[Zw,ZA,decide_eq_true_iff]at h;obtain⟨y,B,D⟩:=h;have u: ¬s=⟨#[]⟩:=fun e=>by rw[e]at y;exact absurd y (by decide)
 unfold pz gY;rw[decide_eq_false u,decide_eq_true B,abC,ZR,ZR];rw[ZW];simp only[Zw,decide_eq_true_iff,ZA];constructor
 .rintro⟨a,b,_⟩;exact⟨a,b⟩
 .rintro⟨a,b⟩;refine⟨a,b,fun x F=>?_⟩;obtain⟨j,A,rfl⟩:=aaf.1 F;have d:j<s.size:=by simpa using A
  have:=D j (aam.2 d);rw[aas,decide_eq_true_iff]at this;have hb:cC s j=s.data.toList[j]:=by
   unfold cC;rw[Y6,Za A];rfl
  rcases this with rfl|this
  .rw[<-hb,Hc];have:hd s=((cC s 0).toNat:Int):=rfl;rw[<-this];have:gY (hd s)=kw:=by unfold gY;simp[a,b]
   rw[this];simp
  .rw[<-hb];exact this
theorem vc(s:ak)(A hi:Int)(h:fK s=lc):pz s A hi=lc:=by
 rw[<-aaC];intro u;rw[<-aaC]at h;apply h;unfold pz at u;simp only[Zw,ZA,decide_eq_true_iff]at u;obtain⟨x,B,_,_,y⟩:=u;have F:1<=s.size:=GK (by simpa using x);refine G2 (by omega) (by omega) fun j D d=>?_;have b:j<s.data.toList.length:=by simpa using d
 have:cC s j=s.data.toList[j]:=by
  unfold cC;rw[Y6,Za b];rfl
 rw[this];exact y _ (ZQ b)
theorem c56(s:ak):Pure prog 173 [pS s] (pB (ey s)):=by
 refine ae ab func173 Z (by decide) ntmps173 Z (by simp) Z ?_;refine gA Z (zp (c99 s) ?_);refine gA Z (zp (YS s) ?_);refine zJ Z Z (fun g1=>?_) fun g1=>?_
 .have g1:fK s=kw:=g1;have b:0<s.size:=by
   unfold fK at g1;simp only[Zw,decide_eq_true_iff]at g1;omega
  refine zJ Z Z (fun g2=>?_) fun g2=>?_
  .have g2:DA s=lc:=by simpa using g2
   refine gA Z (zp (Xe (hd s)) ?_);refine gA Z (zL (.of_eq ?_));refine(fV ?_:pB _=pB _);rw[ey,g2,vd s g1];rfl
  .have g2:DA s=kw:=by simpa using g2
   refine gA Z (zL (.of_eq ?_));refine(fV ?_:pB _=pB _);rw[ey,g2];rfl
 .have g1:fK s=lc:=by simpa using g1
  repeat(refine gA Z (zI (fun q=>?_) (fun q=>?_));all_goals(try(simp at q;done)))
  refine gA Z (zL (.of_eq ?_));refine(fV ?_:pB _=pB _);rw[ey,vc s 97 122 g1];simp
def findD(l:List Decl)(s:ak):Option Decl:=l.find? fun d=>li (d.name=s)
theorem Jd{V:Type}{m:List ((KC.str).K×V)}{k s:ak}{v:V}:eh .str (cH .str m k v) s=(li (k=s)||eh .str m s):=by
 rw[ZW,aas,decide_eq_true_iff,qz,qz];by_cases h:k∈m.map ZB
 .rw[pd h];constructor
  .exact .inr
  .rintro(rfl|h2)
   .exact h
   .exact h2
 .rw[dW h,Zm,Zk];constructor
  .rintro(h2|h2)
   .exact .inr h2
   .exact .inl h2.symm
  .rintro(h2|h2)
   .exact .inr h2.symm
   .exact .inl h2
theorem vf(s:ak): ∀(l:List Decl) (m:DM),eh .str (l.foldl iH m) s=(eh .str m s||(findD l s).isSome)∧bU .str (l.foldl iH m) s Decl.z=if eh .str m s=kw then bU .str m s Decl.z else(findD l s).getD Decl.z
 | [],m=>by
  refine⟨by simp[findD],?_⟩;simp only[List.foldl_nil,findD,List.find?_nil,Option.getD_none];cases h:eh .str m s with
  |true=>rfl
  |false=>
   rw[be (by simp)];refine yi fun b=>?_
   rw[qz.2 b]at h;cases h
 |d::l,m=>by
  rw[ZD];obtain⟨j,b⟩:=vf s l (iH m d);rw[j,b];have u:findD (d::l) s=if d.name=s then io d else findD l s:=by
   unfold findD;rw[aaY];by_cases h:d.name=s
   .rw[decide_eq_true h,am h]
   .rw[decide_eq_false h,be h]
  rw[u];unfold iH;cases hk:eh .str m d.name with
  |true=>
   simp only[if_true];by_cases h:d.name=s
   .subst h;simp[hk]
   .rw[be h];exact⟨rfl,rfl⟩
  |false=>
   simp only[aaG,if_false];rw[Jd,kV];by_cases h:d.name=s
   .subst h;simp[hk]
   .rw[be h,be h,decide_eq_false h];exact⟨rfl,rfl⟩
theorem Py(p:Prog)(s:ak):eh .str (Am p) s=(findD p.aD s).isSome:=by
 have:=(vf s p.aD []).1;rw[show eh .str ([]:DM) s=lc from rfl,aan]at this;exact this
theorem KO(p:Prog)(s:ak):iy p s=(findD p.aD s).getD Decl.z:=by
 have:=(vf s p.aD []).2;rw[show eh .str ([]:DM) s=lc from rfl,be (by simp)]at this;exact this
theorem Jm{l:List Decl}{s:ak}{i:Nat}(b:findD (l.take i) s=jp)(hi:i<l.length)(h: ¬(l.getD i em).name=s):findD (l.take (i+1)) s=jp:=by
 unfold findD at*
 rw[ba hi,abU,b,aaY,decide_eq_false h];rfl
theorem Mi{l:List Decl}{s:ak}{i:Nat}(b:findD (l.take i) s=jp)(hi:i<l.length)(h:(l.getD i em).name=s):findD l s=io (l.getD i em):=by
 unfold findD at*
 have e:l=l.take i++(l.getD i em::l.drop (i+1)):=by
  rw[Y6,Za hi,aaw,List.getElem_cons_drop,abm]
 have key:(l.take i++(l.getD i em::l.drop (i+1))).find? (fun d=>li (d.name=s))=io (l.getD i em):=by
  rw[abU,b,aaY,decide_eq_true h];rfl
 rwa[<-e]at key
theorem X7(p:Prog)(s:ak)(hb:p.aD.length<=1000000000000):Pure prog 235 [ag p.c,pS s] (.bQ [ag (iy p s).c,pB (eh .str (Am p) s)]):=by
 rw[Py,KO];refine ae ab func235 Z (by decide) ntmps235 Z (by simp) Z ?_;refine gA Z ?_;refine aw 0 p.aD.length (Zf _) (fun i=>⟨[(1,pS s),(2,.ptr 0 0),(4,.ptr 1 0),(6,pI i)],[(0,io (aj p.c)),(1,io (.cells [pS Zd,.iv (.v (.slice jp 0 0)),pI 0,pI 0]))],2⟩) (fun i=>findD (p.aD.take i) s=jp) [] Z
  (zW (zK (zO trivial))) fun i x j=>?_
 refine zJ Z Z (fun b=>?_) fun b=>?_
 .have b:=ci b;refine zJ Z Z (fun d=>?_) fun d=>?_
  .have d:(p.aD.getD i em).name=s:=by simpa using d
   refine gA Z (zL ?_);rw[Mi j b d];exact .refl _
  .have d: ¬(p.aD.getD i em).name=s:=by simpa using d
   refine gA Z ⟨b,Jm j b d,[],zW (zK (zO ac))⟩
 .have b:=co b;have u:i=p.aD.length:=by omega
  subst u;rw[Zh (Zc _)]at j;rw[j];refine gA Z (zL ?_);exact .bQ ⟨.agg ⟨.refl _,.nil _ _,.refl _,.refl _,ac⟩,.refl _,ac⟩
theorem W3(c:Int):Pure prog 287 [pU c] (pB (gY c)):=by
 refine ae ab func287 Z (by decide) ntmps287 Z (by simp) Z ?_
 repeat' (first|(refine gA Z (zI (fun _=>?_) (fun _=>?_)))|(refine gA Z (zL (.of_eq ?_))))
 all_goals(refine(fV ?_:pB _=pB _);simp_all [gY];try omega)
theorem WZ(c:Int):Pure prog 298 [pU c] (pB (tG c)):=by
 refine ae ab func298 Z (by decide) ntmps298 Z (by simp) Z ?_
 repeat' (first|(refine gA Z (zI (fun _=>?_) (fun _=>?_)))|(refine gA Z (zL (.of_eq ?_))))
 all_goals(refine(fV ?_:pB _=pB _);simp_all [tG];try omega)
def Ju(c:Int):Bool:=li (c>=48)&&li (c<=57)
theorem Ym(c:Int):Pure prog 299 [pU c] (pB (Ju c)):=by
 refine ae ab func299 Z (by decide) ntmps299 Z (by simp) Z ?_
 repeat' (first|(refine gA Z (zI (fun _=>?_) (fun _=>?_)))|(refine gA Z (zL (.of_eq ?_))))
 all_goals(refine(fV ?_:pB _=pB _);simp_all [Ju];try omega)
theorem Yp(s:ak):Pure prog 288 [pS s] (pB (DA s)):=by
 refine ae ab func288 Z (by decide) ntmps288 Z (by simp) Z ?_
 repeat' (first|(refine gA Z (zI (fun _=>?_) (fun _=>?_)))|(refine gA Z (zL (.of_eq ?_))))
 all_goals(refine(fV ?_:pB _=pB _))
 all_goals(simp only[DA,Pw,ab6,List.any_nil, *];rfl)
theorem Pv{s:ak}(h: ∀j,1<=j->j<s.size->okB (cC s j)=kw):fK s=(li (1<=s.size)&&li (s.size<=32)):=by
 unfold fK;have:((Zy s.size).all fun i=>li (i=0)||okB (cC s i))=kw:=by
  rw[ZA];intro j b;by_cases d:j=0
  .simp[d]
  .rw[h j (by omega) (aam.1 b)];simp
 rw[this,Bool.and_true]
theorem W4(s:ak)(hs:s.size<=1000000000000):Pure prog 286 [pS s] (pB (fK s)):=by
 refine ae ab func286 Z (by decide) ntmps286 Z (by simp) Z ?_;refine gA Z ?_;by_cases a0:s.size=0
 .have S:fK s=lc:=by unfold fK;rw[decide_eq_false (by omega)];rfl
  rw[S];refine aw 1 1 (by omega) (fun i=>⟨[(0,pS s),(3,pI i)],[],0⟩) (fun i=>i=1) [] Z (lJ Z Z (bv (bv ac)) Z) fun i Y F=>?_;subst F;refine zJ Z Z (fun d=>?_) fun d=>?_
  .have d:(1:Int)<s.size:=zT d;omega
  .refine zJ Z Z (fun G=>?_) fun G=>?_
   .have:=zT (show li ((s.size:Int)>=1)=kw from G);omega
   .exact zU Z
 refine aw 1 s.size (by omega) (fun i=>⟨[(0,pS s),(3,pI i)],[],0⟩) (fun i=>1<=i∧ ∀j,1<=j->j<i->okB (cC s j)=kw) [] ⟨Zc _,fun j d G=>by omega⟩ (lJ Z Z (bv (bv ac)) Z) fun i Y F=>?_;obtain⟨I,F⟩:=F;refine zJ Z Z (fun d=>?_) fun d=>?_
 .have d:=ci d;have u:okB (cC s i)=(gY ((cC s i).toNat:Int)||(tG ((cC s i).toNat:Int)||(Ju ((cC s i).toNat:Int)||decide (((cC s i).toNat:Int)=95)))):=by
   rw[Hc];unfold Gf;rw[ZW];simp only[Ju,aas,Zw,decide_eq_true_iff];constructor
   .rintro((h|h)|(h|h))
    .exact .inr (.inr (.inl h))
    .exact .inr (.inr (.inr h))
    .exact .inl h
    .exact .inr (.inl h)
   .rintro(h|(h|(h|h)))
    .exact .inr (.inl h)
    .exact .inr (.inr h)
    .exact .inl (.inl h)
    .exact .inl (.inr h)
  have x:okB (cC s i)=kw-> ∀j,1<=j->j<i+1->okB (cC s j)=kw:=fun h j a b=>by
   by_cases J:j=i
   .subst J;exact h
   .exact F j a (by omega)
  refine gA Z (zp (W3 ((cC s i).toNat:Int)) ?_);refine zJ Z Z (fun y=>?_) fun y=>?_
  .have y:gY ((cC s i).toNat:Int)=lc:=by simpa using y
   refine gA Z (zp (WZ ((cC s i).toNat:Int)) ?_);refine zJ Z Z (fun A=>?_) fun A=>?_
   .have A:tG ((cC s i).toNat:Int)=lc:=by simpa using A
    refine gA Z (zp (Ym ((cC s i).toNat:Int)) ?_);refine zJ Z Z (fun B=>?_) fun B=>?_
    .have B:Ju ((cC s i).toNat:Int)=lc:=by simpa using B
     refine zJ Z Z (fun D=>?_) fun D=>?_
     .have D: ¬((cC s i).toNat:Int)=95:=by
       have g:(!li (((cC s i).toNat:Int)=95))=kw:=D;simpa only[aae,decide_eq_false_iff_not]using g
      rw[y,A,B,decide_eq_false D]at u;rw[G3 I d u];exact zU Z
     .have D:((cC s i).toNat:Int)=95:=by
       have g:(!li (((cC s i).toNat:Int)=95))=lc:=D;simpa only[aaM,decide_eq_true_eq]using g
      rw[decide_eq_true D]at u;refine gA Z ⟨d,⟨by omega,x (by rw[u];simp)⟩,[],lJ Z Z (bv (bv ac)) Z⟩
    .have B:Ju ((cC s i).toNat:Int)=kw:=by simpa using B
     rw[B]at u
     repeat(refine gA Z (zI (fun q=>?_) (fun q=>?_));all_goals(try(simp at q;done)))
     refine gA Z ⟨d,⟨by omega,x (by rw[u];simp)⟩,[],lJ Z Z (bv (bv ac)) Z⟩
   .have A:tG ((cC s i).toNat:Int)=kw:=by simpa using A
    rw[A]at u
    repeat(refine gA Z (zI (fun q=>?_) (fun q=>?_));all_goals(try(simp at q;done)))
    refine gA Z ⟨d,⟨by omega,x (by rw[u];simp)⟩,[],lJ Z Z (bv (bv ac)) Z⟩
  .have y:gY ((cC s i).toNat:Int)=kw:=by simpa using y
   rw[y]at u
   repeat(refine gA Z (zI (fun q=>?_) (fun q=>?_));all_goals(try(simp at q;done)))
   refine gA Z ⟨d,⟨by omega,x (by rw[u];simp)⟩,[],lJ Z Z (bv (bv ac)) Z⟩
 .have d:=co d;have S:=Pv (s:=s) fun j a b=>F j a (by omega);have e1:((s.size:Int)>=1)=(1<=s.size):=propext ⟨fun h=>by omega,fun h=>by omega⟩;have e2:((s.size:Int)<=32)=(s.size<=32):=propext ⟨fun h=>by omega,fun h=>by omega⟩
  repeat' (first|(refine gA Z (zI (fun _=>?_) (fun _=>?_)))|(refine gA Z (zL (.of_eq ?_))))
  all_goals(refine(fV ?_:pB _=pB _);simp_all;try omega)
theorem KN(s:ak)(h:fK s=kw):ej s=tG (hd s):=by
 unfold fK at h;simp only[Zw,ZA,decide_eq_true_iff]at h;obtain⟨y,B,D⟩:=h;have u: ¬s=⟨#[]⟩:=fun e=>by rw[e]at y;exact absurd y (by decide)
 unfold ej pz tG;rw[decide_eq_false u,decide_eq_true B,abC,ZR,ZR];rw[ZW];simp only[Zw,decide_eq_true_iff,ZA];constructor
 .rintro⟨a,b,_⟩;exact⟨a,b⟩
 .rintro⟨a,b⟩;refine⟨a,b,fun x F=>?_⟩;obtain⟨j,A,rfl⟩:=aaf.1 F;have d:j<s.size:=by simpa using A
  have:=D j (aam.2 d);rw[aas,decide_eq_true_iff]at this;have hb:cC s j=s.data.toList[j]:=by
   unfold cC;rw[Y6,Za A];rfl
  rcases this with rfl|this
  .rw[<-hb,Hc];have:hd s=((cC s 0).toNat:Int):=rfl;rw[<-this];have:tG (hd s)=kw:=by unfold tG;simp[a,b]
   rw[this];simp
  .rw[<-hb];exact this
theorem Dz{s:ak}(h:fK s=kw):0<s.size:=by
 unfold fK at h;simp only[Zw,decide_eq_true_iff]at h;omega
theorem W7(s:ak)(hs:s.size<=1000000000000):Pure prog 275 [pS s] (pB (ey s)):=by
 refine ae ab func275 Z (by decide) ntmps275 Z (by simp) Z ?_;refine gA Z (zp (W4 s hs) ?_);refine zJ Z Z (fun g1=>?_) fun g1=>?_
 .have g1:fK s=kw:=g1;have b:=Dz g1;refine gA Z (zp (W3 (hd s)) ?_);refine zJ Z Z (fun g2=>?_) fun g2=>?_
  .have g2:gY (hd s)=kw:=g2;refine gA Z (zp (Yp s) ?_);refine gA Z (zL (.of_eq ?_));refine(fV ?_:pB _=pB _);rw[ey,vd s g1,g2,Bool.and_true]
  .have g2:gY (hd s)=lc:=by simpa using g2
   repeat(refine gA Z (zI (fun q=>?_) (fun q=>?_));all_goals(try(simp at q;done)))
   refine gA Z (zL (.of_eq ?_));refine(fV ?_:pB _=pB _);rw[ey,vd s g1,g2,aaa]
 .have g1:fK s=lc:=by simpa using g1
  repeat(refine gA Z (zI (fun q=>?_) (fun q=>?_));all_goals(try(simp at q;done)))
  refine gA Z (zL (.of_eq ?_));refine(fV ?_:pB _=pB _);rw[ey,vc s 97 122 g1];simp
theorem W2(s:ak)(hs:s.size<=1000000000000):Pure prog 289 [pS s] (pB (ej s)):=by
 refine ae ab func289 Z (by decide) ntmps289 Z (by simp) Z ?_;refine gA Z (zp (W4 s hs) ?_);refine zJ Z Z (fun g1=>?_) fun g1=>?_
 .have g1:fK s=kw:=g1;have b:=Dz g1;refine gA Z (zp (WZ (hd s)) ?_);refine gA Z (zL (.of_eq ?_));refine(fV ?_:pB _=pB _);rw[KN s g1]
 .have g1:fK s=lc:=by simpa using g1
  repeat(refine gA Z (zI (fun q=>?_) (fun q=>?_));all_goals(try(simp at q;done)))
  refine gA Z (zL (.of_eq ?_));refine(fV ?_:pB _=pB _);rw[ej,vc s 65 90 g1]
theorem Yl(v:tK):Pure prog 300 [ag v.c] (pI (dx v)):=by
 refine ae ab func300 Z (by decide) ntmps300 Z (by simp) Z ?_
 repeat' (first|(refine gA Z (zI (fun _=>?_) (fun _=>?_)))|(refine gA Z (zL (.of_eq ?_))))
 all_goals(have hE:(⟨#[]⟩:ByteArray)=Zd:=rfl;refine congrArg pI ?_;simp_all [dx];try omega)
end Go.Proofs.YtflegjieadkonaaGreatDoor
