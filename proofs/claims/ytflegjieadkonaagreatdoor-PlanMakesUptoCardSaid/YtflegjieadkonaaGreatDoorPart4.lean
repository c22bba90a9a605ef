/-
  What the proofs of the claims need: part 4 of 7.
-/
import Derived.Test.YtflegjieadkonaaGreatDoorPart3
import Derived.KernelRfl
import Derived.Test.YtflegjieadkonaaGreatDoorRows
import Derived.WalkKit
import Derived.ProofKit
import Derived.OpenShut
import Derived.Deep.DeepHandedRow
import Derived.Lib.LaidTab
import Derived.LaidSub
import Derived.MakeChecks
import Derived.Test.YtflegjieadkonaaGreatDoorCards
import Derived.Test.YtflegjieadkonaaGreatDoorTie
open And renaming intro→ZC
open Bool renaming and_eq_true→Zf,and_false→ZV,eq_iff_iff→ZE,false_and→ZZ,false_eq_true→aaq,false_ne_true→Zx,false_or→Z7,not_eq_false'→aaJ,not_eq_true→aam,not_eq_true'→ZX,or_eq_false_iff→Zq,or_eq_true→aac,or_false→aau,true_and→ZH
open ByteArray renaming empty→YW
open Classical renaming byContradiction→Z8
open Int renaming le_refl→aa3,toNat_natCast→Zi
open List.Nodup renaming length_le_of_subset→aay
open List.Pairwise renaming imp→ab9,nil→aaC
open List renaming all_eq_false→aaE,all_eq_true→Zj,any_eq_false→ZL,any_eq_true→ZG,append_assoc→Y3,append_eq_nil_iff→abf,append_nil→Zv,concat_eq_append→ab0,cons_append→aat,eq_nil_of_length_eq_zero→ZN,ext_getElem?→aaD,filter_append→aa4,filter_cons→aan,find?_append→abA,find?_cons→aaI,find?_cons_of_neg→abX,find?_eq_none→aak,find?_eq_some_iff_getElem→abd,flatMap_append→aaZ,flatMap_cons→ZF,flatMap_nil→abE,foldl_append→aao,foldl_cons→Zn,getD_cons_succ→aag,getD_eq_getElem?_getD→YR,getElem?_append_left→Y9,getElem?_cons_succ→aaW,getElem?_cons_zero→aby,getElem?_eq_getElem→YU,getElem?_eq_none→aa5,getElem?_eq_some_iff→YV,getElem?_map→Y0,getElem?_of_mem→ZO,getElem?_range→aaQ,getElem?_replicate→aaX,getElem?_set→ZD,getElem?_take→ZS,getElem?_zipWith→ab1,getElem_inj→abo,getElem_map→abD,getElem_mem→Zz,length→abi,length_append→YS,length_cons→Zr,length_eq_zero_iff→abc,length_filter_le→Z4,length_map→Zo,length_nil→Z6,length_set→aax,length_singleton→Zs,length_take→ZJ,map_append→YX,map_congr_left→aaf,map_cons→Zd,map_map→aaH,map_nil→ZR,map_set→aaA,mem_append→Y6,mem_append_left→Zt,mem_append_right→aal,mem_cons→Za,mem_cons_of_mem→Y7,mem_cons_self→Y8,mem_filter→Zw,mem_flatMap→aaK,mem_iff_getElem→Z0,mem_map→Zu,mem_map_of_mem→abb,mem_of_getElem?→Zm,mem_of_mem_take→abk,mem_or_eq_of_mem_set→abr,mem_range→ZY,mem_singleton→Y4,mem_singleton_self→aaL,mem_take_iff_getElem→abt,nil_append→aaw,nodup_append→aaP,nodup_cons→aad,nodup_nil→ZT,pairwise_append→aaV,pairwise_cons→aaj,pairwise_iff_getElem→abp,range→Zg,range_succ→aa7,range_succ_eq_map→abg,replicate→aaO,sum_cons→aaF,take_length→aaz,take_of_length_le→Y1,take_succ_cons→aae,take_zero→ab3,zipWith→abV,zipWith_cons_cons→abW
open Nat renaming add_assoc→aas,beq→Zk,ble→aaM,ble_eq_true_of_le→Zy,blt→Zb,eq_of_beq_eq_true→Zc,le_of_ble_eq_true→YP,le_of_eq→aca,le_of_not_lt→aaT,le_refl→YY,le_succ→abF,le_trans→ZI,lt_or_ge→Z1,lt_succ_iff_lt_or_eq→ZA,lt_succ_self→aai,max_eq_right→ace,not_lt_zero→Z3,zero_add→Zh,zero_le→YZ
open Option renaming bind_some→abR,getD_some→aah,map_eq_none_iff→aa1,map_eq_some_iff→Y2
open Option.some renaming inj→ZP,injEq→YT
open Prod renaming fst→Zl
set_option maxRecDepth 100000
open Bool renaming false→lc,true→kw
open Decidable renaming decide→li
open Inhabited renaming default→em
open Option renaming none→jp,some→io
open Array renaming getD_eq_getD_getElem?→YQ
open Array renaming range→abK
open Array renaming getElem?_map→abe
open Option renaming map_some→ZW
open Array renaming getElem?_eq_getElem→ZM
open Nat renaming mul_le_mul_right→Zp
open Nat renaming add_mul→Z5
open Array renaming getElem?_append_left→ZU
open List renaming getElem?_append_right→Ze
open Array renaming getElem?_toList→Z2
namespace Go.Proofs.YtflegjieadkonaaGreatDoor
open Go Go.Al Go.Proofs.Tryz
theorem ki{P:Program}{nt:Nat}{Q:AQ}{k:List KI}{s t:AS}{c:Code}(L:List Nat)(h0:Wk s.nx L s t)(h:GO P nt (.code c::k) Q t):GO P nt (.code c::k) Q s:=by
 intro M N a w u;exact AW.then h (h0.fits u) fun e A B d j s' y b x=>⟨d,j,s',(h0.ext (.refl _ _ _ _ _)).trans y,b,x⟩
theorem P4:gf .gH (rU []):=⟨id,fun M N U w j b=>⟨#[],0,b,⟨rfl,by simp,by simp,by simp,by simp⟩,.agg _ _ Z fun j p b=>by
 match j,b with
 |0,b=>cases b;exact .v _
 |1,b=>cases b;exact .v _
 |j+2,b=>simp[aN.c]at b⟩⟩
theorem P5:gf .gH (sa []):=⟨id,fun M N U w j b=>⟨#[],0,b,⟨rfl,by simp,by simp,by simp,by simp⟩,im M⟩⟩
def jk(s:aj):Expr:= .mk 1 s ⟨0,0,YW⟩ 0 []
abbrev Fi(s:aj):PV:= .agg [pI 1,pS s,pI 0,pI 0,pS YW,pI 0,.iv (.v (.slice jp 0 0))]
theorem rb(s:aj):aL (Fi s) (ag (jk s).c):= .agg ⟨.refl _,.refl _,.refl _,.refl _,.refl _,.refl _,.nil _ _,ac⟩
theorem jB(s:aj):(jk s).size=1:=rfl
def wx(r:ae)(i:Int)(t:TS)(f:Int)(v:aj)(o:Expr):TS:=
 if f=2 then(t.add (gr r i i o)).add (gr r i i (jk v)) else if f=1 then t.add (gr r i i (jk v)) else jy r i i t (jk v) o
def sc(p:Prog)(r:ae)(i:Int)(t:TS)(b:List Lit):Nat->TS
 |0=>t
 |k+1=>pL p r i i (sc p r i t b k) (b.getD k em)
def stepT(p:Prog)(r:ae)(i:Int)(t:TS)(l:Lit):TS:=
 if l.kind=4 then sc p r i (wx r i t l.c6 l.a7 l.jQ) l.ar l.ar.length else pL p r i (-1) t l
def TS.o:TS:=⟨[],[],[]⟩
def fg(p:Prog)(r:ae):Nat->TS
 |0=>TS.o.add (gv p r r.head (-1) (-1) r.head.ad.length)
 |k+1=>stepT p r k (fg p r k) (r.body.getD k em)
def cK(b:UM)(m:KM)(w:Want):KM:=if w.has=0∧bU (.si .i64) m (aQ b w.at_) 0=0 then cF (.si .i64) m (aQ b w.at_) w.kind else m
def oK(p:Prog)(r:ae):TS:=⟨(fg p r r.body.length).up,(fg p r r.body.length).ws,(fg p r r.body.length).ws.foldl (cK (fg p r r.body.length).up) []⟩
theorem JX(r:ae)(i:Int){t:TS}(ok:iV t.up)(f:Int)(v:aj)(o:Expr):iV (wx r i t f v o).up:=by
 unfold wx
 repeat' split
 .exact ok
 .exact ok
 .exact Fa r i i ok _ _
theorem Eh(p:Prog)(r:ae)(i:Int){t:TS}(ok:iV t.up)(b:List Lit): ∀k,iV (sc p r i t b k).up
 |0=>ok
 |k+1=>Lu p r i i (Eh p r i ok b k) _
theorem O1(p:Prog)(r:ae)(i:Int){t:TS}(ok:iV t.up)(l:Lit):iV (stepT p r i t l).up:=by
 unfold stepT;split
 .exact Eh p r i (JX r i ok _ _ _) _ _
 .exact Lu p r i (-1) ok l
theorem CF(p:Prog)(r:ae): ∀k,iV (fg p r k).up
 |0=>trivial
 |k+1=>O1 p r k (CF p r k) _
theorem yX(r:ae)(lit w:Int)(t:TS)(a b:Expr):(jy r lit w t a b).kind=t.kind:=by
 have d: ∀(t:TS) u v,(sI t u v).kind=t.kind:=fun t u v=>by unfold sI;split<;>rfl
 have j: ∀(t:TS) x y,(gd r lit w t x y).kind=t.kind:=fun t x y=>by
  unfold gd;split
  .exact d _ _ _
  .rfl
 unfold jy;split<;>exact j _ _ _
theorem D7(p:Prog)(r:ae)(lit w:Int)(t:TS)(l:Lit):(pL p r lit w t l).kind=t.kind:=by
 unfold pL
 repeat' split
 .rfl
 .exact yX r lit w t _ _
 .rfl
 .rfl
theorem Hv(p:Prog)(r:ae)(i:Int)(t:TS)(b:List Lit): ∀k,(sc p r i t b k).kind=t.kind
 |0=>rfl
 |k+1=>by rw[sc,D7,Hv p r i t b k]
theorem Is(p:Prog)(r:ae)(i:Int)(t:TS)(l:Lit):(stepT p r i t l).kind=t.kind:=by
 unfold stepT;split
 .rw[Hv];unfold wx
  repeat' split
  .rfl
  .rfl
  .exact yX r i i t _ _
 .exact D7 p r i (-1) t l
theorem Bc(p:Prog)(r:ae): ∀k,(fg p r k).kind=[]
 |0=>rfl
 |k+1=>by rw[fg,Is,Bc p r k]
theorem GA(r:ae)(i:Int)(t:TS)(f:Int)(v:aj)(o:Expr):(wx r i t f v o).ws.length<=t.ws.length+o.size+2:=by
 have j:=jX r i i o;have b:=jX r i i (jk v);have d:=Bl r i i t (jk v) o;rw[jB]at b d;unfold wx
 repeat' split
 .show((t.ws++_)++_).length<=_;rw[YS,YS];omega
 .show(t.ws++_).length<=_;rw[YS];omega
 .omega
theorem eO: ∀(l:List Lit) (i:Nat),i<l.length->Lit.aA (l.take i)+(l.getD i em).size<=Lit.aA l
 | [],i,h=>by simp at h
 |s::r,0,_=>by simp[Lit.aA]
 |s::r,i+1,h=>by
  have:=eO r i (by simpa using h);simp only[aae,aag,Lit.aA];omega
theorem Lit.oM(l:List Lit)(i:Nat)(h:i<l.length):Lit.aA (l.take (i+1))=Lit.aA (l.take i)+(l.getD i em).size:=by
 rw[bz h];have: ∀(a:List Lit) (b:Lit),Lit.aA (a++ [b])=Lit.aA a+b.size:=by
  intro a b
  induction a with
  |nil=>simp[Lit.aA]
  |cons x r ih=>simp only[aat,Lit.aA,ih];omega
 exact this _ _
theorem yh(p:Prog)(r:ae)(i:Int)(t:TS)(b:List Lit): ∀k,k<=b.length->(sc p r i t b k).ws.length<=t.ws.length+Lit.aA (b.take k)
 |0,_=>by simp[sc,Lit.aA]
 |k+1,h=>by
  have d:=yh p r i t b k (by omega);have j:=Hl p r i i (sc p r i t b k) (b.getD k em);rw[sc,Lit.oM b k (by omega)];omega
theorem Kk(p:Prog)(r:ae)(i:Int)(t:TS)(l:Lit):(stepT p r i t l).ws.length<=t.ws.length+l.size:=by
 have d:=l.size_eq;unfold stepT;split
 .have b:=yh p r i (wx r i t l.c6 l.a7 l.jQ) l.ar l.ar.length (YY _);have j:=GA r i t l.c6 l.a7 l.jQ;rw[aaz]at b;omega
 .exact Hl p r i (-1) t l
theorem yH(p:Prog)(r:ae): ∀k,k<=r.body.length->(fg p r k).ws.length<=r.head.ad.length+Lit.aA (r.body.take k)
 |0,_=>by
  have:=pj p r r.head (-1) (-1) r.head.ad.length;show([]++_).length<=_;simp only[aaw];omega
 |k+1,h=>by
  have b:=yH p r k (by omega);have d:=Kk p r k (fg p r k) (r.body.getD k em);rw[fg,Lit.oM r.body k (by omega)];omega
theorem XO(r:ae)(b:UM)(d:KM)(W:IV)(v0:aN)(ok:iV b):bV prog 201 [.ptr 0 0,ag v0.c] [.cells [.iv (c9 r),.mp 1,.iv W,.mp 2],rU b,sa d] (ag (aQ b v0).c) [(0,io (.cells [.iv (c9 r),.mp 1,.iv W,.mp 2])),(1,io (rU b)),(2,io (sa d))] 3:=by
 refine aB ab func201 Z (by decide) ntmps201 Z (by simp) ?_;refine gA Z ?_
 refine ox (σ:={v:aN//aQ b v=aQ b v0}) (fun v=>⟨[(0,.ptr 0 0),(3,.ptr 3 0),(4,.ptr 4 0)],
  [(0,io (.cells [.iv (c9 r),.mp 1,.iv W,.mp 2])),(1,io (rU b)),(2,io (sa d)),(3,io (.cells [pS v.1.1,pI v.1.2])),(4,io (.cells [pS ⟨#[]⟩,pI 0]))],5⟩) (fun v=>Ig b v.1) ⟨v0,rfl⟩ []
  (zW (zO (zC (zC ⟨⟨_,rfl,.of_eq Z⟩,YP Z,rfl,⟨_,rfl,.of_eq Z⟩,YP Z,rfl,ac⟩)))) fun v=>?_
 obtain⟨v,j⟩:=v;refine zJ Z Z (fun g=>?_) fun g=>?_
 .have h:dZ (.si .i64) b v=lc:=by simpa using g
  have e:aQ b v0=v:=by rw[<-j];exact tZ b v h
  refine gA Z (zD [] Z (zM ⟨.of_eq (congrArg (fun x:aN=>ag x.c) e.symm),rfl,ac⟩ (zO (zC (zC ac)))))
 .have h:dZ (.si .i64) b v=kw:=by simpa using g
  obtain⟨u,y⟩:=p6 b v ok h;refine gA Z ⟨⟨bU (.si .i64) b v aN.z,u.trans j⟩,[],y,zW (zO (zC (zC ⟨⟨_,rfl,.of_eq Z⟩,YP Z,rfl,⟨_,rfl,.of_eq Z⟩,YP Z,rfl,ac⟩)))⟩
set_option maxHeartbeats 2000000 in
theorem c49(p:Prog)(r:ae)(hb:r.size<=100000000):Pure prog 168 [.iv (de p),.iv (c9 r)] (.iv (Tx r (oK p r))):=by
 unfold ae.size at hb;have c0:=Lit.au r.body;have j0:r.body.length<=Lit.aA r.body:=c0;refine ah ab func168 Z (by decide) ntmps168 Z (by simp) Z ?_;refine gM 14 Z (ov 2 2 5 Z Z ?_);refine ki [] (t:=⟨[(0,.iv (de p)),(1,.iv (c9 r)),(5,.ptr 2 0)],[(2,io (TS.cell r 0 3 TS.o.ws.length 1)),(0,io (rU TS.o.up)),(3,io (aG 5 TS.o.ws Want.c)),(1,io (sa TS.o.kind))],4⟩)
  (zW ⟨⟨_,rfl,.of_eq Z⟩,YP Z,rfl,⟨_,rfl,P4⟩,YP Z,ac,⟨_,rfl,.of_eq Z⟩,YP Z,cJ _,⟨_,rfl,P5⟩,YP Z,ac,ac⟩) ?_
 refine gA Z (En (d90 p r TS.o r.head (-1) (-1) (by show 0+_<=_;omega)) Z Z Z Z Z Z Z (by first|rfl|(rw[YS];rfl)|simp) (by first|rfl|(rw[YX];rfl)|(simp only[YX,Y3];rfl)) Z Z Z Z Z Z ?_);refine gA Z ?_
 refine az 0 r.body.length (YZ _) (fun i=>⟨[(0,.iv (de p)),(1,.iv (c9 r)),(5,.ptr 2 0),(31,.iv (lits r.body)),(32,pI r.body.length),(33,pI i)],
  [(2,io (TS.cell r 0 5 (fg p r i).ws.length 1)),(0,io (rU (fg p r i).up)),(5,io (aG 5 (fg p r i).ws Want.c)),(1,io (sa (fg p r i).kind))],6⟩) (fun _=>True) _ ac
  (Ri (t:=fg p r 0) Z Z Z Z Z Z Z Z Z Z Z (bv (bv (bv (bv (bv (bv trivial))))))) fun i hi _=>?_
 have g0:=yH p r i hi;have B:=CF p r i;refine zJ Z Z (fun y=>?_) fun y=>?_
 .have y:=ci y;have m0:=eO r.body i y;have G:fg p r (i+1)=stepT p r i (fg p r i) (r.body.getD i em):=rfl;generalize fg p r i=t1 at*
  have n0:=(r.body.getD i em).size_eq;refine zJ Z Z (fun F=>?_) fun F=>?_
  .have F: ¬(r.body.getD i em).kind=4:=by have g:(!li ((r.body.getD i em).kind=4))=kw:=F;simpa only[ZX,decide_eq_false_iff_not]using g
   have hS:stepT p r i t1 (r.body.getD i em)=pL p r i (-1) t1 (r.body.getD i em):=be F;rw[hS]at G;refine gA Z (Hz (d91 p r t1 (r.body.getD i em) i (-1) B (by omega)) ?_);refine gA Z ⟨y,ac,_,sy (G.symm)⟩
  have F:(r.body.getD i em).kind=4:=by have g:(!li ((r.body.getD i em).kind=4))=lc:=F;simpa only[aaJ,decide_eq_true_eq]using g
  have hS:stepT p r i t1 (r.body.getD i em)=sc p r i (wx r i t1 (r.body.getD i em).c6 (r.body.getD i em).a7 (r.body.getD i em).jQ) (r.body.getD i em).ar (r.body.getD i em).ar.length:=am F;rw[hS]at G;have hV:wx r i t1 (r.body.getD i em).c6 (r.body.getD i em).a7 (r.body.getD i em).jQ=if(r.body.getD i em).c6=2 then(t1.add (gr r i i (r.body.getD i em).jQ)).add (gr r i i (jk (r.body.getD i em).a7)) else if(r.body.getD i em).c6=1 then t1.add (gr r i i (jk (r.body.getD i em).a7)) else jy r i i t1 (jk (r.body.getD i em).a7) (r.body.getD i em).jQ:=rfl;have D:=JX r i B (r.body.getD i em).c6 (r.body.getD i em).a7 (r.body.getD i em).jQ;have i0:=GA r i t1 (r.body.getD i em).c6 (r.body.getD i em).a7 (r.body.getD i em).jQ;have b0:=Lit.au (r.body.getD i em).ar;have o0:=jB (r.body.getD i em).a7;have k0:=jX r i i (r.body.getD i em).jQ;generalize wx r i t1 (r.body.getD i em).c6 (r.body.getD i em).a7 (r.body.getD i em).jQ=V at*
  refine zJ Z Z (fun f2=>?_) fun f2=>?_
  .have f2:(r.body.getD i em).c6=2:=zT f2;have Y:V=(t1.add (gr r i i (r.body.getD i em).jQ)).add (gr r i i (jk (r.body.getD i em).a7)):=by rw[hV,am f2]
   refine gA Z (Hz (MA r t1 (r.body.getD i em).jQ i i (by omega)) ?_);refine gA Z (En (bV.le (aa:=[.ptr 0 0,Fi (r.body.getD i em).a7,pI i,pI i]) (MA r (t1.add (gr r i i (r.body.getD i em).jQ)) (jk (r.body.getD i em).a7) i i (by show(t1.ws++_).length+_<=_;rw[YS,jB];omega)) ⟨.refl _,rb _,.refl _,.refl _,ac⟩) Z Z Z Z Z Z Z (by first|rfl|(rw[YS];rfl)|simp) (by first|rfl|(rw[YX];rfl)|(simp only[YX,Y3];rfl)) Z Z Z Z Z Z ?_);refine gA Z ?_;refine az 0 (r.body.getD i em).ar.length (YZ _) (fun k=>⟨[(0,.iv (de p)),(1,.iv (c9 r)),(5,.ptr 2 0),(6,pI i),(31,.iv (lits r.body)),(32,pI r.body.length),(33,pI i),(79,.iv (lits (r.body.getD i em).ar)),(80,pI (r.body.getD i em).ar.length),(81,pI k)],[(2,io (TS.cell r 0 10 (sc p r i V (r.body.getD i em).ar k).ws.length 1)),(0,io (rU (sc p r i V (r.body.getD i em).ar k).up)),(10,io (aG 5 (sc p r i V (r.body.getD i em).ar k).ws Want.c)),(1,io (sa (sc p r i V (r.body.getD i em).ar k).kind))],11⟩) (fun _=>True) _ ac
    (Ri Y.symm Z Z Z Z Z Z Z Z Z Z (bv (bv (bv (bv (bv (bv (bv ⟨.iv (nP _),rfl,bv (bv trivial)⟩)))))))) fun k u _=>?_
   have I:=yh p r i V (r.body.getD i em).ar k u;have j:=Eh p r i D (r.body.getD i em).ar k;have J:sc p r i V (r.body.getD i em).ar (k+1)=pL p r i i (sc p r i V (r.body.getD i em).ar k) ((r.body.getD i em).ar.getD k em):=rfl;refine zJ Z Z (fun d=>?_) fun d=>?_
   .have d:k<(r.body.getD i em).ar.length:=zN d;have S:=eO (r.body.getD i em).ar k d;refine gA Z (Hz (d91 p r (sc p r i V (r.body.getD i em).ar k) ((r.body.getD i em).ar.getD k em) i i j (by omega)) ?_);refine gA Z ⟨d,ac,_,sy (rfl)⟩
   .have d:(r.body.getD i em).ar.length<=k:=zG d;have x:k=(r.body.getD i em).ar.length:=by omega
    subst x;refine gA Z ⟨y,ac,_,sy (G.symm)⟩
  have f2: ¬(r.body.getD i em).c6=2:=zF f2;rw[be f2]at hV;refine zJ Z Z (fun f1=>?_) fun f1=>?_
  .have f1:(r.body.getD i em).c6=1:=zT f1;have Y:V=t1.add (gr r i i (jk (r.body.getD i em).a7)):=by rw[hV,am f1]
   refine gA Z (Hz (bV.le (aa:=[.ptr 0 0,Fi (r.body.getD i em).a7,pI i,pI i]) (MA r t1 (jk (r.body.getD i em).a7) i i (by rw[jB];omega)) ⟨.refl _,rb _,.refl _,.refl _,ac⟩) ?_);refine gA Z ?_;refine az 0 (r.body.getD i em).ar.length (YZ _) (fun k=>⟨[(0,.iv (de p)),(1,.iv (c9 r)),(5,.ptr 2 0),(6,pI i),(31,.iv (lits r.body)),(32,pI r.body.length),(33,pI i),(79,.iv (lits (r.body.getD i em).ar)),(80,pI (r.body.getD i em).ar.length),(81,pI k)],[(2,io (TS.cell r 0 9 (sc p r i V (r.body.getD i em).ar k).ws.length 1)),(0,io (rU (sc p r i V (r.body.getD i em).ar k).up)),(9,io (aG 5 (sc p r i V (r.body.getD i em).ar k).ws Want.c)),(1,io (sa (sc p r i V (r.body.getD i em).ar k).kind))],10⟩) (fun _=>True) _ ac
    (Ri Y.symm Z Z Z Z Z Z Z Z Z Z (bv (bv (bv (bv (bv (bv (bv ⟨.iv (nP _),rfl,bv (bv trivial)⟩)))))))) fun k u _=>?_
   have I:=yh p r i V (r.body.getD i em).ar k u;have j:=Eh p r i D (r.body.getD i em).ar k;have J:sc p r i V (r.body.getD i em).ar (k+1)=pL p r i i (sc p r i V (r.body.getD i em).ar k) ((r.body.getD i em).ar.getD k em):=rfl;refine zJ Z Z (fun d=>?_) fun d=>?_
   .have d:k<(r.body.getD i em).ar.length:=zN d;have S:=eO (r.body.getD i em).ar k d;refine gA Z (Hz (d91 p r (sc p r i V (r.body.getD i em).ar k) ((r.body.getD i em).ar.getD k em) i i j (by omega)) ?_);refine gA Z ⟨d,ac,_,sy (rfl)⟩
   .have d:(r.body.getD i em).ar.length<=k:=zG d;have x:k=(r.body.getD i em).ar.length:=by omega
    subst x;refine gA Z ⟨y,ac,_,sy (G.symm)⟩
  .have f1: ¬(r.body.getD i em).c6=1:=zF f1;have Y:V=jy r i i t1 (jk (r.body.getD i em).a7) (r.body.getD i em).jQ:=by rw[hV,be f1]
   refine gA Z (Hz (bV.le (aa:=[.ptr 0 0,Fi (r.body.getD i em).a7,ag (r.body.getD i em).jQ.c,pI i,pI i]) (d93 r t1 (jk (r.body.getD i em).a7) (r.body.getD i em).jQ i i B (by rw[jB];omega)) ⟨.refl _,rb _,.refl _,.refl _,.refl _,ac⟩) ?_);refine gA Z ?_;refine az 0 (r.body.getD i em).ar.length (YZ _) (fun k=>⟨[(0,.iv (de p)),(1,.iv (c9 r)),(5,.ptr 2 0),(6,pI i),(31,.iv (lits r.body)),(32,pI r.body.length),(33,pI i),(79,.iv (lits (r.body.getD i em).ar)),(80,pI (r.body.getD i em).ar.length),(81,pI k)],[(2,io (TS.cell r 0 9 (sc p r i V (r.body.getD i em).ar k).ws.length 1)),(0,io (rU (sc p r i V (r.body.getD i em).ar k).up)),(9,io (aG 5 (sc p r i V (r.body.getD i em).ar k).ws Want.c)),(1,io (sa (sc p r i V (r.body.getD i em).ar k).kind))],10⟩) (fun _=>True) _ ac
    (Ri Y.symm Z Z Z Z Z Z Z Z Z Z (bv (bv (bv (bv (bv (bv (bv ⟨.iv (nP _),rfl,bv (bv trivial)⟩)))))))) fun k u _=>?_
   have I:=yh p r i V (r.body.getD i em).ar k u;have j:=Eh p r i D (r.body.getD i em).ar k;have J:sc p r i V (r.body.getD i em).ar (k+1)=pL p r i i (sc p r i V (r.body.getD i em).ar k) ((r.body.getD i em).ar.getD k em):=rfl;refine zJ Z Z (fun d=>?_) fun d=>?_
   .have d:k<(r.body.getD i em).ar.length:=zN d;have S:=eO (r.body.getD i em).ar k d;refine gA Z (Hz (d91 p r (sc p r i V (r.body.getD i em).ar k) ((r.body.getD i em).ar.getD k em) i i j (by omega)) ?_);refine gA Z ⟨d,ac,_,sy (rfl)⟩
   .have d:(r.body.getD i em).ar.length<=k:=zG d;have x:k=(r.body.getD i em).ar.length:=by omega
    subst x;refine gA Z ⟨y,ac,_,sy (G.symm)⟩
 .have y:=co y;have d0:i=r.body.length:=by omega
  subst d0;have hT:oK p r=⟨(fg p r r.body.length).up,(fg p r r.body.length).ws,(fg p r r.body.length).ws.foldl (cK (fg p r r.body.length).up) []⟩:=rfl;rw[hT];rw[aaz]at g0;have f0:(fg p r r.body.length).kind=[]:=Bc p r _;generalize fg p r r.body.length=t1 at*
  have a0:t1.kind=(t1.ws.take 0).foldl (cK t1.up) []:=f0;refine gA Z ?_;refine Cl 5 (fun k=>Want.c (t1.ws.getD k em)) Z (fM Z) (by simp[AF.xQ,PV.db,qW]) ⟨(by simp[AO.xQ,iR,PV.db]),ac,xH _ _ _ _ _ _,ac,ac⟩ ?_
  refine az 0 t1.ws.length (YZ _) (fun i=>⟨[(5,.ptr 2 0),(96,.iv (cW 5 t1.ws Want.c)),(97,pI t1.ws.length),(98,pI i)],
   [(2,io (.cells [.iv (c9 r),.mp 0,.iv (cW 5 t1.ws Want.c),.mp 1])),(0,io (rU t1.up)),(1,io (sa ((t1.ws.take i).foldl (cK t1.up) [])))],6⟩) (fun _=>True) [] ac
   (zM (bv ⟨.dG Z (fun k _=>by rw[Zh]),rfl,bv (bv trivial)⟩) ⟨⟨_,rfl,.cells ⟨.refl _,.refl _,.dG Z (fun k _=>by rw[Zh]),.refl _,ac⟩⟩,YP Z,rfl,zC (hM Z a0 Z trivial)⟩) fun i hi _=>?_
  refine zJ Z Z (fun d=>?_) fun d=>?_
  .have d:i<t1.ws.length:=zN d;have A:=cH (g:=cK t1.up) (b:=[]) d;refine gA Z (zq [2,0,1] (XO r t1.up ((t1.ws.take i).foldl (cK t1.up) []) (cW 5 t1.ws Want.c) (t1.ws.getD i em).at_ B) ?_);refine zJ Z Z (fun g1=>?_) fun g1=>?_
   .have g1:(t1.ws.getD i em).has=0:=zT g1;refine zJ Z Z (fun g2=>?_) fun g2=>?_
    .have g2:bU (.si .i64) ((t1.ws.take i).foldl (cK t1.up) []) (aQ t1.up (t1.ws.getD i em).at_) 0=0:=zT g2;have u:cK t1.up ((t1.ws.take i).foldl (cK t1.up) []) (t1.ws.getD i em)=cF (.si .i64) ((t1.ws.take i).foldl (cK t1.up) []) (aQ t1.up (t1.ws.getD i em).at_) (t1.ws.getD i em).kind:=am ⟨g1,g2⟩;rw[u]at A;refine gA Z ⟨d,ac,[],zW (zO (zC (hM Z (by first|exact A.symm|(rw[A];rfl)) Z ac)))⟩
    .have g2: ¬bU (.si .i64) ((t1.ws.take i).foldl (cK t1.up) []) (aQ t1.up (t1.ws.getD i em).at_) 0=0:=zF g2;have u:cK t1.up ((t1.ws.take i).foldl (cK t1.up) []) (t1.ws.getD i em)=(t1.ws.take i).foldl (cK t1.up) []:=be fun h=>g2 h.2;rw[u]at A;refine gA Z ⟨d,ac,[],zW (zO (zC (hM Z (by first|exact A.symm|(rw[A];rfl)) Z ac)))⟩
   .have g1: ¬(t1.ws.getD i em).has=0:=zF g1;have u:cK t1.up ((t1.ws.take i).foldl (cK t1.up) []) (t1.ws.getD i em)=(t1.ws.take i).foldl (cK t1.up) []:=be fun h=>g1 h.1;rw[u]at A;refine gA Z ⟨d,ac,[],zW (zO (zC (hM Z (by first|exact A.symm|(rw[A];rfl)) Z ac)))⟩
  .have d:t1.ws.length<=i:=zG d;have e0:t1.ws.take i=t1.ws:=Y1 d;refine nS Z ac (rD (.inr Z) Z (.map 0 Z (.map 1 Z (.cells 2 _ Z (show _=List.map PV.iv [c9 r,upI t1.up,cW 5 t1.ws Want.c,kdI (t1.ws.foldl (cK t1.up) [])] by rw[e0];rfl) (.done (.of_eq Z))))))
def lN(a:Atom):Bool:=(kj WS.o a).bad
def iP(l:Lit):Bool:=(eD l.size l WS.o).bad
def pr(l:Lit):Bool:=li (l.kind=4)&&li ((l.ar.length:Int)>12)
def jc(n:Nat):List Int:=(Zg (n+1)).map fun k:Nat=>(k:Int)-1
theorem rv(n:Nat):(jc n).length=n+1:=by simp[jc]
theorem ry(n k:Nat)(h:k<n+1):(jc n).getD k em=(k:Int)-1:=by simp[jc,h]
def vC(f:Int->Bool)(n:Nat):Option Int:=(jc n).find? f
abbrev aY:=Int×Pos
def aY.c(d:aY):List IV:=[iI d.1,iI d.2.line,iI d.2.zr]
def bK(r:ae)(e:Int)(f:Int->Bool)(k:aY):aY:=match vC f r.body.length with
 |some lit=>(e,ft r lit)
 |none=>k
def x8(p:Prog)(r:ae):aY:=
 bK r 61 (fun lit=>(bu r lit).any fun x=>lP p x)<|bK r 62 (fun lit=>(bu r lit).any fun x=>mZ p x)<|bK r 65 (dD r)<|bK r 63 (nF (oK p r))<|bK r 64 (dM r) (0,⟨0,0⟩)
def pC(p:Prog)(r:ae)(n:Int):aY:=
 if lN r.head=kw then(1,r.at_) else match r.body.find? iP with
 |some l=>(1,l.at)
 |none=>if n>256∨(r.body.length:Int)>12 then(66,r.at_) else if(tV r:Int)>24 then(66,r.at_) else match r.body.find? pr with
  |some l=>(66,l.at)
  |none=>x8 p r
def ae.fit(r:ae):Prop:=r.size<=10000000∧r.head.ts<=900000000∧ ∀l∈r.body,l.ts<=900000000
theorem eK{α:Type}{p:α->Bool}{l:List α}(h:l.any p=lc):l.find? p=jp:=by
 rw[aak];intro x b;have:=ZL.1 h x b;simpa using this
theorem kQ{α:Type}[Inhabited α]{p:α->Bool}{l:List α}{i:Nat}(h:(l.take i).any p=lc)(hi:i<l.length)(hp:p (l.getD i em)=kw):l.find? p=io (l.getD i em):=by
 have b:l.getD i em=l[i]:=by simp[hi]
 rw[b]at hp ⊢;rw[abd];refine⟨hp,i,hi,rfl,fun j d=>?_⟩;have:=ZL.1 h l[j] (List.mem_iff_getElem?.2 ⟨j,by rw[ZS,am d,YU (by omega)]⟩);simpa using this
def kK(p:Prog)(r:ae):List (List PV):=[[pI 61,.dq (.func 160) [] [.ptr 1 0,.ptr 0 0]],[pI 62,.dq (.func 164) [] [.ptr 1 0,.ptr 0 0]],[pI 65,.dq (.func 166) [] [.ptr 1 0]],[pI 63,.dq (.func 169) [.iv (Tx r (oK p r))] []],[pI 64,.dq (.func 170) [.iv (c9 r)] []]]
theorem c8(p:Prog)(r:ae)(n:Nat)(h:Zb 1 n=kw):(AO.row 2 (kK p r)).low n:=by
 have d:Zb 0 n=kw:=Zy (by have:=YP h;omega);intro k e b
 match k,b with
 |0,b=>cases b;simp[bq,PV.low,h,d]
 |1,b=>cases b;simp[bq,PV.low,h,d]
 |2,b=>cases b;simp[bq,PV.low,h,d]
 |3,b=>cases b;simp[bq,PV.low,h,d]
 |4,b=>cases b;simp[bq,PV.low,h,d]
 |k+5,b=>simp[kK]at b
theorem mz{r:ae}{e:Int}{f:Int->Bool}{k:aY}{i:Nat}(d:((jc r.body.length).take i).any f=lc)(hi:i<r.body.length+1)(h:f ((i:Int)-1)=kw):bK r e f k=(e,ft r ((i:Int)-1)):=by
 have b:=ry r.body.length i hi;have:=kQ d (by rw[rv];exact hi) (by rw[b];exact h);rw[b]at this;rw[bK,vC,this]
theorem oq{r:ae}{e:Int}{f:Int->Bool}{k:aY}{i:Nat}(b:((jc r.body.length).take i).any f=lc)(hi:r.body.length+1<=i):bK r e f k=k:=by
 rw[Y1 (by rw[rv];exact hi)]at b;rw[bK,vC,eK b]
theorem oj{r:ae}{f:Int->Bool}{i:Nat}(b:((jc r.body.length).take i).any f=lc)(hi:i<r.body.length+1)(h:f ((i:Int)-1)=lc):((jc r.body.length).take (i+1)).any f=lc:=by
 refine(aW b (by rw[rv];exact hi)).2 ?_;rw[ry _ _ hi];exact h
set_option maxHeartbeats 4000000 in
theorem c65(p:Prog)(r:ae)(n:Int)(hb:r.fit):Pure prog 125 [.iv (de p),ag r.c,pI n] (ag (pC p r n).c):=by
 obtain⟨hb,G,I⟩:=hb;have b0:r.size=r.head.ad.length+Lit.aA r.body:=rfl;have S:=Lit.au r.body;refine ah ab func125 Z (by decide) ntmps125 Z (by simp) Z ?_;refine gA Z (zp (c61 r.head G) ?_);refine zJ Z Z (fun g1=>?_) fun g1=>?_
 .have g1:lN r.head=kw:=by
   cases h:lN r.head with
   |true=>rfl
   |false=>
    have h:(kj WS.o r.head).bad=lc:=h;rw[h]at g1;simp at g1
  rw[pC,am g1];exact zU Z
 have g1: ¬lN r.head=kw:=by
  intro h;have h:(kj WS.o r.head).bad=kw:=h;rw[h]at g1;simp at g1
 rw[pC,be g1];refine gA Z ?_;refine az 0 r.body.length (YZ _) (fun i=>⟨[(2,pI n),(3,.ptr 0 0),(4,.ptr 1 0),(6,.ptr 2 0),(32,.iv (lits r.body)),(33,pI r.body.length),(34,pI i)],[(0,io (.cells [.iv (de p)])),(1,io (an r.c)),(2,io (.cells [pI 0,pI 0,pI 0]))],3⟩) (fun i=>(r.body.take i).any iP=lc) [] (by simp)
  (zW ⟨⟨_,rfl,.of_eq Z⟩,YP Z,rfl,⟨_,rfl,.of_eq Z⟩,YP Z,rfl,⟨_,rfl,.of_eq Z⟩,YP Z,rfl,ac⟩) fun i Y j=>?_
 refine zJ Z Z (fun A=>?_) fun A=>?_
 .have A:i<r.body.length:=zN A;have F:=aW j A;have hm:r.body.getD i em∈r.body:=by rw[YR,YU A];exact Zz A
  have a0:=Lit.aI r.body i A;refine gA Z (bh (YB (r.body.getD i em) (I _ hm) (by omega)) Z Z Z Z Z Z ?_);refine zJ Z Z (fun y=>?_) fun y=>?_
  .have y:iP (r.body.getD i em)=kw:=by
    cases h:iP (r.body.getD i em) with
    |true=>rfl
    |false=>
     have h:(eD (r.body.getD i em).size (r.body.getD i em) WS.o).bad=lc:=h;have g:(!li ((if(eD (r.body.getD i em).size (r.body.getD i em) WS.o).bad=kw then(50:Int) else 0)=0))=kw:=y;rw[h]at g;simp at g
   rw[kQ j A y];exact zU Z
  .have y:iP (r.body.getD i em)=lc:=by
    cases h:iP (r.body.getD i em) with
    |false=>rfl
    |true=>
     have h:(eD (r.body.getD i em).size (r.body.getD i em) WS.o).bad=kw:=h;have g:(!li ((if(eD (r.body.getD i em).size (r.body.getD i em) WS.o).bad=kw then(50:Int) else 0)=0))=lc:=y;rw[h]at g;simp at g
   refine gA Z ⟨A,F.2 y,[],zW ⟨⟨_,rfl,.of_eq Z⟩,YP Z,rfl,⟨_,rfl,.of_eq Z⟩,YP Z,rfl,⟨_,rfl,.of_eq Z⟩,YP Z,rfl,ac⟩⟩
 have A:r.body.length<=i:=zG A;rw[Y1 A]at j;rw[eK j];refine zE Z Z (fun g2=>?_) fun g2=>?_
 .have g2:n>256:=by simpa using g2
  rw[am (.inl g2)];exact zU Z
 have g2: ¬n>256:=zF g2;refine zJ Z Z (fun g3=>?_) fun g3=>?_
 .rw[am (.inr (zT g3))];exact zU Z
 have g3: ¬(r.body.length:Int)>12:=zF g3;rw[be (by rintro(h|h);exact g2 h;exact g3 h)];refine gA Z (zp (c48 r (by omega)) ?_);refine gA Z (zp (YA r (by omega)) ?_);refine zJ Z Z (fun g4=>?_) fun g4=>?_
 .rw[am (zT g4)];exact zU Z
 have g4: ¬(tV r:Int)>24:=zF g4;rw[be g4];refine gA Z ?_;refine az 0 r.body.length (YZ _) (fun i=>⟨[(3,.ptr 0 0),(4,.ptr 1 0),(6,.ptr 2 0),(13,.iv (c9 r)),(69,.iv (lits r.body)),(70,pI r.body.length),(71,pI i)],[(0,io (.cells [.iv (de p)])),(1,io (an r.c)),(2,io (.cells [pI 0,pI 0,pI 0]))],3⟩) (fun i=>(r.body.take i).any pr=lc) [] (by simp)
  (zW ⟨⟨_,rfl,.of_eq Z⟩,YP Z,rfl,⟨_,rfl,.of_eq Z⟩,YP Z,rfl,⟨_,rfl,.of_eq Z⟩,YP Z,rfl,ac⟩) fun i Y j=>?_
 refine zJ Z Z (fun y=>?_) fun y=>?_
 .have y:i<r.body.length:=zN y;have F:=aW j y;refine zJ Z Z (fun k1=>?_) fun k1=>?_
  .have k1:(r.body.getD i em).kind=4:=zT k1;refine zJ Z Z (fun D=>?_) fun D=>?_
   .have D:pr (r.body.getD i em)=kw:=by rw[pr,decide_eq_true k1];exact D
    rw[kQ j y D];exact zU Z
   .have D:pr (r.body.getD i em)=lc:=by rw[pr,decide_eq_true k1];exact D
    refine gA Z ⟨y,F.2 D,[],zW ⟨⟨_,rfl,.of_eq Z⟩,YP Z,rfl,⟨_,rfl,.of_eq Z⟩,YP Z,rfl,⟨_,rfl,.of_eq Z⟩,YP Z,rfl,ac⟩⟩
  .have k1: ¬(r.body.getD i em).kind=4:=zF (by have g:li ((r.body.getD i em).kind=4)=lc:=k1;exact g);refine gA Z ⟨y,F.2 (by rw[pr,decide_eq_false k1];rfl),[],zW ⟨⟨_,rfl,.of_eq Z⟩,YP Z,rfl,⟨_,rfl,.of_eq Z⟩,YP Z,rfl,⟨_,rfl,.of_eq Z⟩,YP Z,rfl,ac⟩⟩
 have y:r.body.length<=i:=zG y;rw[Y1 y]at j;rw[eK j];refine gA Z (zp (c49 p r (by omega)) ?_);refine gA Z ?_;refine ki [] (t:=⟨[(3,.ptr 0 0),(4,.ptr 1 0),(6,.ptr 2 0),(104,.sl 3 0 5 2),(105,pI 5),(106,pI 0)],[(0,io (.cells [.iv (de p)])),(1,io (an r.c)),(2,io (.cells [pI 0,pI 0,pI 0])),(3,io (.row 2 (kK p r)))],4⟩)
  (zW (zO (zO (zO ⟨⟨_,rfl,.of_eq Z⟩,YP Z,c8 p r _ Z,ac⟩)))) ?_
 have J:(oK p r).ws.length<=1000000000000:=by have:=yH p r r.body.length (YY _);rw[aaz]at this;show(fg p r r.body.length).ws.length<=_;omega
 rw[x8];refine L5 (n:=6) ?_;refine zE Z Z (fun q=>?_) fun q=>?_
 .exact absurd (show kw=lc from q) (by decide)
 refine gA Z ?_;refine az 0 (r.body.length+1) (YZ _) (fun k=>⟨[(3,.ptr 0 0),(4,.ptr 1 0),(6,.ptr 2 0),(18,.ptr 4 0),(19,pI ((k:Int)-1)),(104,.sl 3 0 5 2),(105,pI 5),(106,pI 0)],[(0,io (.cells [.iv (de p)])),(1,io (an r.c)),(2,io (.cells [pI 0,pI 0,pI 0])),(3,io (.row 2 (kK p r))),(4,io (.cells [pI 61,.dq (.func 160) [] [.ptr 1 0,.ptr 0 0]]))],5⟩) (fun k=>((jc r.body.length).take k).any (fun lit=>(bu r lit).any fun x=>lP p x)=lc) [] Z
  (zW (zO (zO (zO ⟨⟨_,rfl,.of_eq Z⟩,YP Z,c8 p r _ Z,(zO trivial)⟩)))) fun k B j=>?_
 refine zJ Z Z (fun d=>?_) fun d=>?_
 .have d:(k:Int)-1<r.body.length:=zT d;have b:k<r.body.length+1:=by omega
  refine gA Z (zq [1,0] (d110 p r ((k:Int)-1) (by omega) (by omega)) ?_);refine zJ Z Z (fun u=>?_) fun u=>?_
  .rw[mz j b u];refine gA Z (pP (MP r ((k:Int)-1) d) ?_);exact zU Z
  .refine gA Z ?_;exact⟨b,oj j b u,[],zM (bv (bv (bv (bv ⟨.of_eq (FG (by omega)),rfl,bv (bv (bv ac))⟩)))) (zO (zO (zO ⟨⟨_,rfl,.of_eq Z⟩,YP Z,c8 p r _ Z,(zO ac)⟩)))⟩
 have d: ¬(k:Int)-1<r.body.length:=zF d;rw[oq j (by omega)];clear j B d;refine zE Z Z (fun q=>?_) fun q=>?_
 .exact absurd (show kw=lc from q) (by decide)
 refine gA Z ?_;refine az 0 (r.body.length+1) (YZ _) (fun k=>⟨[(3,.ptr 0 0),(4,.ptr 1 0),(6,.ptr 2 0),(18,.ptr 5 0),(19,pI ((k:Int)-1)),(104,.sl 3 0 5 2),(105,pI 5),(106,pI 1)],[(0,io (.cells [.iv (de p)])),(1,io (an r.c)),(2,io (.cells [pI 0,pI 0,pI 0])),(3,io (.row 2 (kK p r))),(5,io (.cells [pI 62,.dq (.func 164) [] [.ptr 1 0,.ptr 0 0]]))],6⟩) (fun k=>((jc r.body.length).take k).any (fun lit=>(bu r lit).any fun x=>mZ p x)=lc) [] Z
  (zW (zO (zO (zO ⟨⟨_,rfl,.of_eq Z⟩,YP Z,c8 p r _ Z,(zO trivial)⟩)))) fun k B j=>?_
 refine zJ Z Z (fun d=>?_) fun d=>?_
 .have d:(k:Int)-1<r.body.length:=zT d;have b:k<r.body.length+1:=by omega
  refine gA Z (zq [1,0] (d114 p r ((k:Int)-1) (by omega) (by omega)) ?_);refine zJ Z Z (fun u=>?_) fun u=>?_
  .rw[mz j b u];refine gA Z (pP (MP r ((k:Int)-1) d) ?_);exact zU Z
  .refine gA Z ?_;exact⟨b,oj j b u,[],zM (bv (bv (bv (bv ⟨.of_eq (FG (by omega)),rfl,bv (bv (bv ac))⟩)))) (zO (zO (zO ⟨⟨_,rfl,.of_eq Z⟩,YP Z,c8 p r _ Z,(zO ac)⟩)))⟩
 have d: ¬(k:Int)-1<r.body.length:=zF d;rw[oq j (by omega)];clear j B d;refine zE Z Z (fun q=>?_) fun q=>?_
 .exact absurd (show kw=lc from q) (by decide)
 refine gA Z ?_;refine az 0 (r.body.length+1) (YZ _) (fun k=>⟨[(3,.ptr 0 0),(4,.ptr 1 0),(6,.ptr 2 0),(18,.ptr 6 0),(19,pI ((k:Int)-1)),(104,.sl 3 0 5 2),(105,pI 5),(106,pI 2)],[(0,io (.cells [.iv (de p)])),(1,io (an r.c)),(2,io (.cells [pI 0,pI 0,pI 0])),(3,io (.row 2 (kK p r))),(6,io (.cells [pI 65,.dq (.func 166) [] [.ptr 1 0]]))],7⟩) (fun k=>((jc r.body.length).take k).any (dD r)=lc) [] Z
  (zW (zO (zO (zO ⟨⟨_,rfl,.of_eq Z⟩,YP Z,c8 p r _ Z,(zO trivial)⟩)))) fun k B j=>?_
 refine zJ Z Z (fun d=>?_) fun d=>?_
 .have d:(k:Int)-1<r.body.length:=zT d;have b:k<r.body.length+1:=by omega
  refine gA Z (zq [1] (d116 r ((k:Int)-1) (by omega) (by omega)) ?_);refine zJ Z Z (fun u=>?_) fun u=>?_
  .rw[mz j b u];refine gA Z (pP (MP r ((k:Int)-1) d) ?_);exact zU Z
  .refine gA Z ?_;exact⟨b,oj j b u,[],zM (bv (bv (bv (bv ⟨.of_eq (FG (by omega)),rfl,bv (bv (bv ac))⟩)))) (zO (zO (zO ⟨⟨_,rfl,.of_eq Z⟩,YP Z,c8 p r _ Z,(zO ac)⟩)))⟩
 have d: ¬(k:Int)-1<r.body.length:=zF d;rw[oq j (by omega)];clear j B d;refine zE Z Z (fun q=>?_) fun q=>?_
 .exact absurd (show kw=lc from q) (by decide)
 refine gA Z ?_;refine az 0 (r.body.length+1) (YZ _) (fun k=>⟨[(3,.ptr 0 0),(4,.ptr 1 0),(6,.ptr 2 0),(18,.ptr 7 0),(19,pI ((k:Int)-1)),(104,.sl 3 0 5 2),(105,pI 5),(106,pI 3)],[(0,io (.cells [.iv (de p)])),(1,io (an r.c)),(2,io (.cells [pI 0,pI 0,pI 0])),(3,io (.row 2 (kK p r))),(7,io (.cells [pI 63,.dq (.func 169) [.iv (Tx r (oK p r))] []]))],8⟩) (fun k=>((jc r.body.length).take k).any (nF (oK p r))=lc) [] Z
  (zW (zO (zO (zO ⟨⟨_,rfl,.of_eq Z⟩,YP Z,c8 p r _ Z,(zO trivial)⟩)))) fun k B j=>?_
 refine zJ Z Z (fun d=>?_) fun d=>?_
 .have d:(k:Int)-1<r.body.length:=zT d;have b:k<r.body.length+1:=by omega
  refine gA Z (bh (Yy r (oK p r) ((k:Int)-1) (CF p r _) J) Z Z Z Z Z Z ?_);refine zJ Z Z (fun u=>?_) fun u=>?_
  .rw[mz j b u];refine gA Z (pP (MP r ((k:Int)-1) d) ?_);exact zU Z
  .refine gA Z ?_;exact⟨b,oj j b u,[],zM (bv (bv (bv (bv ⟨.of_eq (FG (by omega)),rfl,bv (bv (bv ac))⟩)))) (zO (zO (zO ⟨⟨_,rfl,.of_eq Z⟩,YP Z,c8 p r _ Z,(zO ac)⟩)))⟩
 have d: ¬(k:Int)-1<r.body.length:=zF d;rw[oq j (by omega)];clear j B d;refine zE Z Z (fun q=>?_) fun q=>?_
 .exact absurd (show kw=lc from q) (by decide)
 refine gA Z ?_;refine az 0 (r.body.length+1) (YZ _) (fun k=>⟨[(3,.ptr 0 0),(4,.ptr 1 0),(6,.ptr 2 0),(18,.ptr 8 0),(19,pI ((k:Int)-1)),(104,.sl 3 0 5 2),(105,pI 5),(106,pI 4)],[(0,io (.cells [.iv (de p)])),(1,io (an r.c)),(2,io (.cells [pI 0,pI 0,pI 0])),(3,io (.row 2 (kK p r))),(8,io (.cells [pI 64,.dq (.func 170) [.iv (c9 r)] []]))],9⟩) (fun k=>((jc r.body.length).take k).any (dM r)=lc) [] Z
  (zW (zO (zO (zO ⟨⟨_,rfl,.of_eq Z⟩,YP Z,c8 p r _ Z,(zO trivial)⟩)))) fun k B j=>?_
 refine zJ Z Z (fun d=>?_) fun d=>?_
 .have d:(k:Int)-1<r.body.length:=zT d;have b:k<r.body.length+1:=by omega
  refine gA Z (zp (Yx r ((k:Int)-1) (by omega) (by omega)) ?_);refine zJ Z Z (fun u=>?_) fun u=>?_
  .rw[mz j b u];refine gA Z (pP (MP r ((k:Int)-1) d) ?_);exact zU Z
  .refine gA Z ?_;exact⟨b,oj j b u,[],zM (bv (bv (bv (bv ⟨.of_eq (FG (by omega)),rfl,bv (bv (bv ac))⟩)))) (zO (zO (zO ⟨⟨_,rfl,.of_eq Z⟩,YP Z,c8 p r _ Z,(zO ac)⟩)))⟩
 have d: ¬(k:Int)-1<r.body.length:=zF d;rw[oq j (by omega)];clear j B d;refine zJ Z Z (fun q=>?_) fun q=>?_
 .exact absurd (show lc=kw from q) (by decide)
 exact zU Z
section
theorem mQ:prog.cellsOf 3=1:=by kernel_rfl
theorem vI:prog.cellsOf 9=1:=by kernel_rfl
theorem CD:prog.cellsOf 98=3:=by kernel_rfl
theorem ER:prog.cellsOf 143=5:=by kernel_rfl
theorem QC:prog.cellsOf 71=1:=by kernel_rfl
theorem CE:prog.cellsOf 73=2:=by kernel_rfl
theorem Qz:prog.cellsOf 99=1:=by kernel_rfl
theorem qQ:prog.cellsOf 101=7:=by kernel_rfl
theorem ES:prog.cellsOf 103=10:=by kernel_rfl
theorem H0:prog.cellsOf 74=1:=by kernel_rfl
theorem yE:prog.cellsOf 105=30:=by kernel_rfl
theorem xc:prog.cellsOf 35=2:=by kernel_rfl
theorem HZ:prog.cellsOf 76=5:=by kernel_rfl
theorem QF:prog.cellsOf 47=1:=by kernel_rfl
theorem H2:prog.cellsOf 49=4:=by kernel_rfl
theorem QJ:prog.cellsOf 22=1:=by kernel_rfl
theorem QI:prog.cellsOf 23=1:=by kernel_rfl
theorem QH:prog.cellsOf 25=2:=by kernel_rfl
section
variable {H:Type}
abbrev bk(d:DataW H):Nat:=Rows.uptoBulk d
theorem Gn(d:DataW H):1<=bk d:=by
 cases d with
 |lit l=>cases l<;>simp[bk,Rows.uptoBulk]
 |nil=>simp[bk,Rows.uptoBulk]
 |ptr d=>simp[bk,Rows.uptoBulk]
 |slice elems spare=>simp[bk,Rows.uptoBulk]
 |agg parts=>simp[bk,Rows.uptoBulk]
 |iface t d=>simp[bk,Rows.uptoBulk]
 |map entries=>simp[bk,Rows.uptoBulk]
 |held h=>simp[bk,Rows.uptoBulk]
theorem yJ(s:ByteArray):bk (DataW.lit (H:=H) (.string s.data.toList))=s.size+1:=by
 simp[bk,Rows.uptoBulk]
theorem _root_.Go.Al.QL.sum{α:Type}{Q:α->DataW H->Prop}{l:List α}{d:DataW H}(h:QL Q l d){f:α->Nat}{c:Nat}(hf: ∀x e,Q x e->f x<=c*bk e):(l.map f).sum<=c*bk d:=by
 obtain⟨el,hd,b,u⟩:=h;have key: ∀(l:List α) (el:List (DataW H)),l.length=el.length->(∀(i:Nat) (x:α) (e:DataW H),l[i]? =io x->el[i]? =io e->Q x e)->(l.map f).sum<=c*Rows.uptoBulkAll el:=by
  intro l
  induction l with
  |nil=>intro el _ _;simp
  |cons x r ih=>
   intro el y u;cases el with
   |nil=>simp at y
   |cons e el=>
    have j:=hf x e (u 0 x e Z Z);have D:=ih el (by simpa using y) fun i x e B A=>u (i+1) x e (by simpa using B) (by simpa using A);simp only[Zd,aaF,Rows.uptoBulkAll,Nat.mul_add];simp only[bk]at j;omega
 have j:=key l el b u;rcases hd with⟨rfl,rfl⟩|⟨sp,rfl⟩
 .simp[Rows.uptoBulkAll]at j;omega
 .refine ZI j (Nat.mul_le_mul_left c ?_);simp only[bk,Rows.uptoBulk];omega
theorem Da{α:Type}: ∀l:List α,(l.map fun _=>1).sum=l.length
 | []=>rfl
 |x::r=>by simp only[Zd,aaF,Zr,Da r];omega
theorem _root_.Go.Al.QL.len{α:Type}{Q:α->DataW H->Prop}{l:List α}{d:DataW H}(h:QL Q l d):l.length<=bk d:=by
 have:=h.sum (f:=fun _=>1) (c:=1) fun x e _=>by have:=Gn e;omega
 have e:=Da l;omega
theorem _root_.Go.Al.QL.all{α:Type}{Q:α->DataW H->Prop}{l:List α}{d:DataW H}(h:QL Q l d): ∀x∈l,∃e,Q x e∧bk e<=bk d:=by
 intro x D;obtain⟨el,hd,j,B⟩:=h;obtain⟨i,A,rfl⟩:=Z0.1 D;have b:i<el.length:=by omega
 refine⟨el[i],B i _ _ (YU A) (YU b),?_⟩;have key: ∀(el:List (DataW H)),∀e∈el,bk e<=Rows.uptoBulkAll el:=by
  intro el
  induction el with
  |nil=>intro e he;cases he
  |cons y r ih=>
   intro e he;simp only[Rows.uptoBulkAll];rcases Za.1 he with rfl|he
   .simp only[bk];omega
   .have:=ih e he;omega
 have u:=key el el[i] (Zz b);rcases hd with⟨rfl,rfl⟩|⟨sp,rfl⟩
 .simp at b
 .refine ZI u ?_;simp only[bk,Rows.uptoBulk];omega
end
theorem Expr.iE: ∀l:List Expr,Expr.aA l=(l.map Expr.size).sum
 | []=>rfl
 |e::r=>by simp only[Expr.aA,Zd,aaF,Expr.iE r]
theorem Expr.tK: ∀l:List Expr,Expr.lB l=(l.map Expr.ts).sum
 | []=>rfl
 |e::r=>by simp only[Expr.lB,Zd,aaF,Expr.tK r]
theorem Lit.iE: ∀l:List Lit,Lit.aA l=(l.map Lit.size).sum
 | []=>rfl
 |e::r=>by simp only[Lit.aA,Zd,aaF,Lit.iE r]
theorem Lit.tK: ∀l:List Lit,Lit.lB l=(l.map Lit.ts).sum
 | []=>rfl
 |e::r=>by simp only[Lit.lB,Zd,aaF,Lit.tK r]
section
variable {H:Type} {enc:TypeId×Value->H} {W:World} {hT:q6 W} {sp:Nat->Bool} {held:Bool}
def QV(v:tE)(d:DataW H):Prop:=v.sym.size<=bk d
def QT(t:Term)(d:DataW H):Prop:=t.ts<=400*bk d
def QA(a:Atom)(d:DataW H):Prop:=a.ts<=400*bk d∧a.ad.length<=bk d
def QE(e:Expr)(d:DataW H):Prop:=e.ts<=400*bk d∧e.size<=bk d
def QP(_:Pos)(_:DataW H):Prop:=True
def Pos.c(p:Pos):List IV:=[iI p.line,iI p.zr]
def QG(g:eL)(d:DataW H):Prop:=g.var.size+g.dX.ts+Lit.lB g.body<=400*bk d∧g.dX.size+Lit.aA g.body<=bk d
def QB(l:Lit)(d:DataW H):Prop:=l.ts<=400*bk d∧l.size<=bk d
theorem rd_val(n:Nat):Rd enc prog W hT sp held 98 tE.c QV n:=by
 intro m _ G y h;obtain⟨F,k,rfl,rfl,A,B,d⟩:=DataW.trod_struct underlying98 h
 match F,B with
 | [x0,x1,x2],_=>
  obtain⟨a,j,I,_⟩:=mq (hT:=hT) underlying3 k k (YY _) _ _ (rB d 0 Z Z Z mQ Z);obtain⟨b,u,J,_⟩:=mq (hT:=hT) underlying3 k k (YY _) _ _ (rB d 1 Z Z Z mQ Z);obtain⟨c,x,D,_⟩:=lU (hT:=hT) underlying9 k k (YY _) _ _ (rB d 2 Z Z Z vI Z);refine⟨⟨a,b,c⟩,j.iD (o':=1) Z (u.iD (o':=2) Z (x.iD (o':=3) Z (.end_ (A.trans CD)))),?_⟩;simp only[QV,bk,Zd,ZR,Rows.uptoBulk,Rows.uptoBulkAll];have:=yJ (H:=H) c;rw[<-D]at this;simp only[bk]at this;omega
theorem FC(n:Nat):Rd enc prog W hT sp held 35 Pos.c QP n:=by
 intro m _ D y h;obtain⟨B,k,rfl,rfl,x,A,d⟩:=DataW.trod_struct underlying35 h
 match B,A with
 | [x0,x1],_=>
  obtain⟨a,j,F,_⟩:=mq (hT:=hT) underlying3 k k (YY _) _ _ (rB d 0 Z Z Z mQ Z);obtain⟨b,u,G,_⟩:=mq (hT:=hT) underlying3 k k (YY _) _ _ (rB d 1 Z Z Z mQ Z);exact⟨⟨a,b⟩,j.iD (o':=1) Z (u.iD (o':=2) Z (.end_ (x.trans xc))),ac⟩
theorem PC(n:Nat):Rd enc prog W hT sp held 143 Term.c QT n:=by
 intro m _ G y h;obtain⟨F,k,rfl,rfl,A,B,d⟩:=DataW.trod_struct underlying143 h
 match F,B with
 | [x0,x1,x2],_=>
  obtain⟨a,j,I,_⟩:=mq (hT:=hT) underlying3 k k (YY _) _ _ (rB d 0 Z Z Z mQ Z);obtain⟨b,u,D,_⟩:=lU (hT:=hT) underlying9 k k (YY _) _ _ (rB d 1 Z Z Z vI Z);obtain⟨c,x,J⟩:=rd_val (hT:=hT) k k (YY _) _ _ (rB d 2 Z Z Z CD Z);refine⟨⟨a,b,c⟩,j.iD (o':=1) Z (u.iD (o':=2) Z (x.iD (o':=5) Z (.end_ (A.trans ER)))),?_⟩;simp only[QT,Term.ts,bk,Zd,ZR,Rows.uptoBulk,Rows.uptoBulkAll];have:=yJ (H:=H) b;rw[<-D]at this;simp only[bk]at this;omega
theorem G7(n:Nat):Rd enc prog W hT sp held 73 Atom.c QA n:=by
 intro m _ S y h;obtain⟨J,k,rfl,rfl,F,G,j⟩:=DataW.trod_struct underlying73 h
 match J,G with
 | [x0,x1],_=>
  obtain⟨a,x,I,_⟩:=lU (hT:=hT) underlying9 k k (YY _) _ _ (rB j 0 Z Z Z vI Z);obtain⟨b,A,u⟩:=(mo (hT:=hT) underlying71 ER (by decide) (fun _=>rfl) (PC k)).mono (abF k) k (YY _) _ _ (rB j 1 Z Z Z QC Z);refine⟨⟨a,b⟩,x.iD (o':=1) Z (A.iD (o':=2) Z (.end_ (F.trans CE))),?_⟩;have d:=yJ (H:=H) a;rw[<-I]at d;have B:=u.sum (f:=Term.ts) (c:=400) fun _ _ h=>h;have D:=u.len;simp only[bk]at d B D;simp only[QA,Atom.ts,bk,Zd,ZR,Rows.uptoBulk,Rows.uptoBulkAll];omega
theorem wR: ∀n:Nat,Rd enc prog W hT sp held 101 Expr.c QE n
 |0=>fun m hm S y h=>by
  obtain rfl:m=0:=by omega
  simp[DataW.trod]at h
 |n+1=>fun m hm S y h=>by
  obtain⟨xs,k,rfl,rfl,Y,hx,j⟩:=DataW.trod_struct underlying101 h;have hs:=mo (hT:=hT) underlying99 qQ (by decide) (fun _=>rfl) (wR n)
  match xs,hx with
  | [x0,x1,x2,x3,x4],_=>
   obtain⟨a,D,qa,_⟩:=mq (hT:=hT) underlying3 k k (YY _) _ _ (rB j 0 Z Z Z mQ Z);obtain⟨b,F,qb,_⟩:=lU (hT:=hT) underlying9 k k (YY _) _ _ (rB j 1 Z Z Z vI Z);obtain⟨c,G,qc⟩:=rd_val (hT:=hT) k k (YY _) _ _ (rB j 2 Z Z Z CD Z);obtain⟨d,I,qd,_⟩:=mq (hT:=hT) underlying3 k k (YY _) _ _ (rB j 3 Z Z Z mQ Z);obtain⟨e,J,B⟩:=hs k (by omega) _ _ (rB j 4 Z Z Z Qz Z);refine⟨.mk a b c d e,D.iD (o':=1) Z (F.iD (o':=2) Z (G.iD (o':=5) Z (I.iD (o':=6) Z ((J.zm (HP (.mk a b c d e))).iD (o':=7) Z (.end_ (Y.trans qQ)))))),?_⟩;have u:=yJ (H:=H) b;rw[<-qb]at u;have x:=B.sum (f:=Expr.ts) (c:=400) fun _ _ h=>h.1;have A:=B.sum (f:=Expr.size) (c:=1) fun _ _ h=>by have:=h.2;omega
   rw[<-Expr.tK]at x;rw[<-Expr.iE]at A;simp only[bk]at u x A;simp only[QE,Expr.ts,Expr.size,bk,Zd,ZR,Rows.uptoBulk,Rows.uptoBulkAll];omega
theorem T6{n:Nat}(hb:Rd enc prog W hT sp held 74 (fun l:List Lit=> [cW 30 l Lit.c]) (QL QB) n):Rd enc prog W hT sp held 103 eL.c QG (n+1):=by
 intro m hm cs y h;obtain⟨xs,k,rfl,rfl,Y,hx,j⟩:=DataW.trod_struct underlying103 h
 match xs,hx with
 | [x0,x1,x2,x3],_=>
  obtain⟨a,D,qa,_⟩:=mq (hT:=hT) underlying3 k k (YY _) _ _ (rB j 0 Z Z Z mQ Z);obtain⟨b,F,qb,_⟩:=lU (hT:=hT) underlying9 k k (YY _) _ _ (rB j 1 Z Z Z vI Z);obtain⟨c,G,qc⟩:=wR (hT:=hT) k k (YY _) _ _ (rB j 2 Z Z Z qQ Z);obtain⟨d,I,B⟩:=hb k (by omega) _ _ (rB j 3 Z Z Z H0 Z);refine⟨⟨a,b,c,d⟩,D.iD (o':=1) Z (F.iD (o':=2) Z (G.iD (o':=9) Z ((I.zm (Lt d)).iD (o':=10) Z (.end_ (Y.trans ES))))),?_⟩;have u:=yJ (H:=H) b;rw[<-qb]at u;have x:=B.sum (f:=Lit.ts) (c:=400) fun _ _ h=>h.1;have A:=B.sum (f:=Lit.size) (c:=1) fun _ _ h=>by have:=h.2;omega
  rw[<-Lit.tK]at x;rw[<-Lit.iE]at A;obtain⟨J,S⟩:=qc;simp only[bk]at u x A J S;simp only[QG,bk,Zd,ZR,Rows.uptoBulk,Rows.uptoBulkAll];omega
theorem KW: ∀n:Nat,Rd enc prog W hT sp held 105 Lit.c QB n
 |0=>fun m hm J y h=>by
  obtain rfl:m=0:=by omega
  simp[DataW.trod]at h
 |n+1=>fun m hm J y h=>by
  obtain⟨xs,k,rfl,rfl,hl,hx,j⟩:=DataW.trod_struct underlying105 h;have hs:=T6 (mo (hT:=hT) underlying74 yE (by decide) (fun _=>rfl) (KW n))
  match xs,hx with
  | [x0,x1,x2,x3,x4,x5,x6],_=>
   obtain⟨a,x,qa,_⟩:=mq (hT:=hT) underlying3 k k (YY _) _ _ (rB j 0 Z Z Z mQ Z);obtain⟨b,A,qb⟩:=G7 (hT:=hT) k k (YY _) _ _ (rB j 1 Z Z Z CE Z);obtain⟨c,B,qc,_⟩:=mq (hT:=hT) underlying3 k k (YY _) _ _ (rB j 2 Z Z Z mQ Z);obtain⟨d,D,qd⟩:=wR (hT:=hT) k k (YY _) _ _ (rB j 3 Z Z Z qQ Z);obtain⟨e,F,qe⟩:=wR (hT:=hT) k k (YY _) _ _ (rB j 4 Z Z Z qQ Z);obtain⟨g,G,qg⟩:=hs k (by omega) _ _ (rB j 5 Z Z Z ES Z);obtain⟨p,I,_⟩:=FC (hT:=hT) k k (YY _) _ _ (rB j 6 Z Z Z xc Z);refine⟨.mk a b c d e g.func g.var g.dX g.body p,x.iD (o':=1) Z (A.iD (o':=3) Z (B.iD (o':=4) Z (D.iD (o':=11) Z (F.iD (o':=18) Z (G.iD (o':=28) Z (I.iD (o':=30) Z (.end_ (hl.trans yE)))))))),?_⟩;obtain⟨S,Y⟩:=qb;obtain⟨h3,h4⟩:=qd;obtain⟨h5,h6⟩:=qe;obtain⟨h7,h8⟩:=qg;have h9:=Gn x0.1;have u:=Gn x2.1;simp only[bk]at S Y h3 h4 h5 h6 h7 h8 h9 u;simp only[QB,Lit.ts,Lit.size,bk,Zd,ZR,Rows.uptoBulk,Rows.uptoBulkAll];omega
theorem PF(n:Nat):Rd enc prog W hT sp held 74 (fun l:List Lit=> [lits l]) (QL QB) n:=
 (mo (hT:=hT) underlying74 yE (by decide) (fun _=>rfl) (KW n)).mono (abF n)
end
end
end Go.Proofs.YtflegjieadkonaaGreatDoor
namespace Go.Proofs.YtflegjieadkonaaGreatDoor
open Go Go.Al Go.Proofs.Tryz Go.ChangeShapes Go.WideShapes Go.RowKit
theorem own:ownKnob prog.godebug=jp:=by kernel_rfl
theorem Ww:prog.globalNamed "internal/strconv.uint64pow10" =io 0:=by kernel_rfl
theorem Mi:(prog.globals[0]?).map (·.type)=io 343:=by kernel_rfl
theorem MJ:prog.cellsOf 343=20:=by kernel_rfl
theorem MK:prog.cellsOf 205=1:=by kernel_rfl
theorem J0:prog.underlying 343=io (.array 20 205):=by kernel_rfl
theorem J1:prog.underlying 205=io (.int .u64):=by kernel_rfl
abbrev LF:List (String×DataW Unit):=[("math/bits.deBruijn32tab",Rows.laid_math_bits_deBruijn32tab),("math/bits.deBruijn64tab",Rows.laid_math_bits_deBruijn64tab),("internal/strconv.uint64pow10",Rows.laid_internal_strconv_uint64pow10)]
theorem Kb{W:World}(h:laidMetH prog LF W):q6 W:=by
 have j:=laidMetH.filter (fun x=>x.1== "internal/strconv.uint64pow10") h;have y:laidMet prog [("internal/strconv.uint64pow10",Lib.tabData .u64 sZ)] W:=by
  rw[show LF.filter (fun x=>x.1== "internal/strconv.uint64pow10")=[("internal/strconv.uint64pow10",Lib.tabData .u64 sZ)] by kernel_rfl]at j;rwa[MakeChecks.laidMetH_plain _ _ _ (by kernel_rfl)]at j
 have d:Lib.TabIs prog W "internal/strconv.uint64pow10" .u64 sZ:=Lib.tabIs_of_head (rest:=[]) Ww Mi J0 J1 MK MJ y;intro b c hb;unfold Lib.TabIs World.var? at d;rw[Ww]at d
 match b with
 |0=>
  have A:(sZ.map fun z=>Value.int .u64 z).toArray=c:=ZP hb;rw[A]at d;simp only[abR]at d;split at d
  .rename_i B T u e;exact⟨T,u,by rw[e,ZP d]⟩
  .cases d
 |b+1=>exact nomatch hb
theorem kids:Kids prog (· <prog.types.size):=kids_rows (by kernel_rfl) (by kernel_rfl)
theorem full: ∀{t e},t<prog.types.size->prog.underlying t=io (.slice e)->0<prog.cellsOf e:=fun{t e}=>slices_full_of prog (by kernel_rfl) t e
theorem BR{H:Type}{enc:TypeId×Value->H}{W:World}(hT:q6 W){k:FuncId}{f:Func}{s:ChangeSpec}{args:List PV}{vs:List Value}{B gs:List (DataW H)}{d:List MemPlace}
  (hp:Al.Pure prog k args (pB kw)) (F:args.length=vs.length) (hv: ∀(j:Nat) (p:PV),args[j]? =io p->VR (Mem.rN W hT) We (· <0) p (vs.getD j undef))
  (G: ∀t∈f.params.toList,t<prog.types.size) (y:s.vars=[]) (u:f.resultTypes= #[4])
  (hW:DataW.Whole enc prog f.params.toList s.vars lc W vs.toArray.toList B gs d)
  (I:(s.fn H (B++gs)).results=[.lit (.bool kw)]) (J:(s.fn H (B++gs)).args=B) (S:(s.fn H (B++gs)).vars=[]):
  Calls prog k vs.toArray W fun e W'=> ∃v,e= .returned v∧s.post enc prog f lc kw lc lc W vs.toArray v W':=by
 refine(hp.2 (Mem.rN W hT) We W vs (Py W hT) F hv).mono ?_;rintro e W' ⟨x,M',N',r,h',n',rfl,⟨rfl,rfl,rfl⟩,hx,hr,hvr⟩;have Y:x= .bool kw:=by
  cases hvr with
  |iv _ _ h=>cases h;rfl
 subst Y;refine⟨_,rfl,BS kids full G y hW hx.os hx.output (fun b hb=>hx.iQ b hb fun i o hi=>(nomatch hi)) (fun b sp hd=>?_) J S ?_⟩
 .rw[I,u];exact trodAll_cons_mk (shut_bool underlying4 _) trodAll_mk0
 .intro j t r A D;rw[u]at A D
  match j,A,D with
  |0,A,D=>
   cases A;cases D;exact okWide_bool_mk underlying4 _
  |j+1,A,D=>simp at A
theorem bound{H:Type}{l:List (DataW H)}(b:Rows.uptoSmall H l=kw):Rows.uptoBulkAll l<=1048576:=of_decide_eq_true b
theorem H7{H:Type}{enc:TypeId×Value->H}{W:World}(hT:q6 W){v:Value}{d:DataW H}{p:List MemPlace}(b: ∃base,Value.okWide prog W .any base 3 v)(h:DataW.Trod enc prog W 0 (fun _=>kw) kw 3 v d p):
  ∃z:Int,(Lit.int .i64 z).wf=kw∧VR (Mem.rN W hT) We (· <0) (pI z) v:=by
 obtain⟨base,b⟩:=b;obtain⟨n,rfl,_,_,j⟩:=open_int underlying3 b h;exact⟨n,j,.iv _ _ (.v _)⟩
def LD(b:Nat)(cs:Array Value)(h:Array Obj):Array Obj:=h.modify b fun
 | .cells _ t frozen=> .cells cs t frozen
 |o=>o
noncomputable def vp(os:Os):World:=
 {World.holding prog os ⟨#[], #[],[]⟩ with
  heap:=LD 2 #[.int .u8 0,.int .u8 1,.int .u8 56,.int .u8 2,.int .u8 57,.int .u8 49,.int .u8 28,.int .u8 3,.int .u8 61,.int .u8 58,.int .u8 42,.int .u8 50,.int .u8 38,.int .u8 29,.int .u8 17,.int .u8 4,.int .u8 62,.int .u8 47,.int .u8 59,.int .u8 36,.int .u8 45,.int .u8 43,.int .u8 51,.int .u8 22,.int .u8 53,.int .u8 39,.int .u8 33,.int .u8 30,.int .u8 24,.int .u8 18,.int .u8 12,.int .u8 5,.int .u8 63,.int .u8 55,.int .u8 48,.int .u8 27,.int .u8 60,.int .u8 41,.int .u8 37,.int .u8 16,.int .u8 46,.int .u8 35,.int .u8 44,.int .u8 21,.int .u8 52,.int .u8 32,.int .u8 23,.int .u8 11,.int .u8 54,.int .u8 26,.int .u8 40,.int .u8 15,.int .u8 34,.int .u8 20,.int .u8 31,.int .u8 10,.int .u8 25,.int .u8 14,.int .u8 19,.int .u8 9,.int .u8 13,.int .u8 8,.int .u8 7,.int .u8 6] (LD 1 #[.int .u8 0,.int .u8 1,.int .u8 28,.int .u8 2,.int .u8 29,.int .u8 14,.int .u8 24,.int .u8 3,.int .u8 30,.int .u8 22,.int .u8 20,.int .u8 15,.int .u8 25,.int .u8 17,.int .u8 4,.int .u8 8,.int .u8 31,.int .u8 27,.int .u8 13,.int .u8 23,.int .u8 21,.int .u8 19,.int .u8 16,.int .u8 7,.int .u8 26,.int .u8 12,.int .u8 18,.int .u8 6,.int .u8 11,.int .u8 5,.int .u8 10,.int .u8 9] (LD 0 (sZ.map fun z=>Value.int .u64 z).toArray (World.holding prog os ⟨#[], #[],[]⟩).heap))}
end Go.Proofs.YtflegjieadkonaaGreatDoor
namespace Go.Proofs.YtflegjieadkonaaGreatDoor
open Go Go.Al Go.Proofs.Tryz
def aY.z:aY:=(0,⟨0,0⟩)
theorem d64(d e:aY):bV prog 97 [ag d.c,.ptr 0 0] [an e.c] (pB lc) [(0,io (an d.c))] 1:=by
 refine aB ab func97 Z (by decide) ntmps97 Z (by simp) ?_;refine gA Z (zD [] Z (zW (zO ac)))
def dL(p:Prog)(i:Nat):List aj:=(p.aD.take i).map Decl.name
def dH(p:Prog)(i:Nat):Int:=sW (p.aD.getD i em) i (bU .str (aC (dL p i)) (p.aD.getD i em).name 0)
def jn(p:Prog):Nat->List aY
 |0=> []
 |i+1=>jn p i++(if dH p i=0 then[] else[(dH p i,(p.aD.getD i em).at_)])
def p4(p:Prog)(i:Nat):aY:=pC p (p.rules.getD i em) ((i:Int)+1)
def ke(p:Prog):Nat->List aY
 |0=> []
 |i+1=>ke p i++(if(p4 p i).1=0 then[] else[p4 p i])
def jj(p:Prog):List aY:=jn p p.aD.length++ke p p.rules.length
def dy(p:Prog):aY:=(jj p).headD aY.z
theorem Dx(p:Prog)(i:Nat): ∀k,∃t,jn p (i+k)=jn p i++t
 |0=>⟨[],by simp⟩
 |k+1=>by
  obtain⟨t,h⟩:=Dx p i k;exact⟨_,by rw[<-aas,jn,h,Y3]⟩
theorem Dn(p:Prog)(i:Nat): ∀k,∃t,ke p (i+k)=ke p i++t
 |0=>⟨[],by simp⟩
 |k+1=>by
  obtain⟨t,h⟩:=Dn p i k;exact⟨_,by rw[<-aas,ke,h,Y3]⟩
theorem Jy{p:Prog}{i:Nat}(d:jn p i=[])(hi:i<p.aD.length)(h: ¬dH p i=0):dy p=(dH p i,(p.aD.getD i em).at_):=by
 obtain⟨t,b⟩:=Dx p (i+1) (p.aD.length-(i+1));have e:i+1+(p.aD.length-(i+1))=p.aD.length:=by omega
 rw[e,jn,d,be h]at b;rw[dy,jj,b];rfl
theorem Jx{p:Prog}{i:Nat}(h0:jn p p.aD.length=[])(d:ke p i=[])(hi:i<p.rules.length)(h: ¬(p4 p i).1=0):dy p=p4 p i:=by
 obtain⟨t,b⟩:=Dn p (i+1) (p.rules.length-(i+1));have e:i+1+(p.rules.length-(i+1))=p.rules.length:=by omega
 rw[e,ke,d,be h]at b;rw[dy,jj,b,h0];rfl
theorem MH{p:Prog}(h0:jn p p.aD.length=[])(h1:ke p p.rules.length=[]):dy p=aY.z:=by
 rw[dy,jj,h0,h1];rfl
theorem BN{p:Prog}{i:Nat}(h:i<p.aD.length):aC (dL p (i+1))=bump (aC (dL p i)) (p.aD.getD i em).name:=by
 rw[dL,bz h,YX];exact cR _ _
theorem FB(p:Prog)(i:Nat)(s:aj):0<=bU .str (aC (dL p i)) s 0∧bU .str (aC (dL p i)) s 0<=i:=by
 have h:=eY (dL p i) s;have b:(dL p i).length<=i:=by simp[dL];omega
 rw[bB];omega
def Prog.fit(p:Prog):Prop:=p.aD.length<=1000000000∧p.rules.length<=1000000000∧ ∀r∈p.rules,r.fit
theorem XN(p:Prog)(hb:p.fit):bV prog 96 [ag p.c,.dq (.func 97) [] [.ptr 0 0]] [an aY.z.c] (.bM []) [(0,io (an (dy p).c))] 1:=by
 obtain⟨A,B,y⟩:=hb;refine aB ab func96 Z (by decide) ntmps96 Z (by simp) ?_;refine gA Z ?_;refine az 0 p.aD.length (YZ _) (fun i=>⟨[(1,.dq (.func 97) [] [.ptr 0 0]),(2,.ptr 1 0),(4,.mp 2),(13,.iv (cW 4 p.aD Decl.c)),(14,pI p.aD.length),(15,pI i)],[(0,io (an aY.z.c)),(1,io (an p.c)),(2,io (ct (aC (dL p i))))],3⟩) (fun i=>jn p i=[]) [] Z
  (zW ⟨⟨_,rfl,.of_eq Z⟩,YP Z,rfl,⟨_,rfl,.of_eq Z⟩,YP Z,rfl,Jg Z im Z trivial⟩) fun i D u=>?_
 refine zJ Z Z (fun d=>?_) fun d=>?_
 .have d:i<p.aD.length:=zN d;have I:=FB p i (p.aD.getD i em).name;have G:=BN d;refine gA Z (zp (YC (p.aD.getD i em) i (bU .str (aC (dL p i)) (p.aD.getD i em).name 0)) ?_);refine zJ Z Z (fun g=>?_) fun g=>?_
  .have g: ¬dH p i=0:=by
    have g:(!li (dH p i=0))=kw:=g;simpa only[ZX,decide_eq_false_iff_not]using g
   rw[Jy u d g];refine gA Z (zq [0] (d64 (dH p i,(p.aD.getD i em).at_) aY.z) ?_);refine zE Z Z (fun q=>?_) fun q=>?_
   .exact absurd (show kw=lc from q) (by decide)
   refine gA Z (zD [] Z (zW (zO ac)))
  .have g:dH p i=0:=by
    have g:(!li (dH p i=0))=lc:=g;simpa only[aaJ,decide_eq_true_eq]using g
   refine gA Z ⟨d,by rw[jn,u,am g];rfl,[],zW (zO (zO (hM Z (by rw[G];rfl) Z trivial)))⟩
 have d:p.aD.length<=i:=zG d;have j:i=p.aD.length:=by omega
 subst j;refine gA Z (zq [] (d50 p (by omega)) ?_);refine gA Z ?_;refine w8 3 Z ?_;refine az 0 p.rules.length (YZ _) (fun i=>⟨[(1,.dq (.func 97) [] [.ptr 0 0]),(2,.ptr 1 0),(8,.iv (de p)),(47,.iv (cW 5 p.rules ae.c)),(48,pI p.rules.length),(49,pI i)],[(0,io (an aY.z.c)),(1,io (an p.c))],4⟩) (fun i=>ke p i=[]) [] Z
  (zW (zO (zO trivial))) fun i D x=>?_
 refine zJ Z Z (fun b=>?_) fun b=>?_
 .have b:i<p.rules.length:=zN b;have F:p.rules.getD i em∈p.rules:=by rw[YR,YU b];exact Zz b
  refine gA Z (bh (c65 p (p.rules.getD i em) ((i:Int)+1) (y _ F)) Z Z Z Z Z Z ?_);refine zJ Z Z (fun g=>?_) fun g=>?_
  .have g: ¬(p4 p i).1=0:=by
    have g:(!li ((p4 p i).1=0))=kw:=g;simpa only[ZX,decide_eq_false_iff_not]using g
   rw[Jx u x b g];refine gA Z (zq [0] (d64 (p4 p i) aY.z) ?_);refine zE Z Z (fun q=>?_) fun q=>?_
   .exact absurd (show kw=lc from q) (by decide)
   refine gA Z (zD [] Z (zW (zO ac)))
  .have g:(p4 p i).1=0:=by
    have g:(!li ((p4 p i).1=0))=lc:=g;simpa only[aaJ,decide_eq_true_eq]using g
   refine gA Z ⟨b,by rw[ke,x,am g];rfl,[],zW (zO (zO trivial))⟩
 have b:p.rules.length<=i:=zG b;have j:i=p.rules.length:=by omega
 subst j;rw[MH u x];refine gA Z (zD [] Z (zW (zO ac)))
theorem c24(p:Prog)(hb:p.fit):Pure prog 56 [ag p.c] (ag (dy p).c):=by
 refine ah ab func56 Z (by decide) ntmps56 Z (by simp) Z ?_;refine gA Z (zq [2] (XN p hb) ?_);exact zU Z
end Go.Proofs.YtflegjieadkonaaGreatDoor
namespace Go.Proofs.YtflegjieadkonaaGreatDoor
open Go Go.Al Go.Proofs.Tryz Go.ChangeShapes Go.WideShapes Go.RowKit
section
theorem C9{α:Type}(f:α->Nat): ∀l:List α,(l.map fun x=>f x+1).sum=(l.map f).sum+l.length
 | []=>rfl
 |x::r=>by simp only[Zd,aaF,Zr,C9 f r];omega
section
variable {H:Type} {enc:TypeId×Value->H} {W:World} {hT:q6 W} {sp:Nat->Bool} {held:Bool}
def QD(x:Decl)(d:DataW H):Prop:=x.types.length+1<=bk d
def QR1(r:ae)(d:DataW H):Prop:=r.size+1<=bk d∧r.head.ts<=400*bk d∧ ∀l∈r.body,l.ts<=400*bk d
def YN(p:Prog)(d:DataW H):Prop:=p.size<=bk d∧p.aD.length<=bk d∧p.rules.length<=bk d∧ ∀r∈p.rules,r.size<=bk d∧r.head.ts<=400*bk d∧ ∀l∈r.body,l.ts<=400*bk d
theorem KV(n:Nat):Rd enc prog W hT sp held 76 ae.c QR1 n:=by
 intro m _ cs y h;obtain⟨xs,k,rfl,rfl,j,S,d⟩:=DataW.trod_struct underlying76 h
 match xs,S with
 | [x0,x1,x2],_=>
  obtain⟨a,A,Y⟩:=G7 (hT:=hT) k k (YY _) _ _ (rB d 0 Z Z Z CE Z);obtain⟨b,B,x⟩:=PF (hT:=hT) k k (YY _) _ _ (rB d 1 Z Z Z H0 Z);obtain⟨c,D,qc⟩:=FC (hT:=hT) k k (YY _) _ _ (rB d 2 Z Z Z xc Z);refine⟨⟨a,b,c⟩,A.iD (o':=2) Z (B.iD (o':=3) Z (D.iD (o':=5) Z (.end_ (j.trans HZ)))),?_⟩;have u:=x.sum (f:=Lit.size) (c:=1) fun _ _ h=>by have:=h.2;omega
  rw[<-Lit.iE]at u;obtain⟨F,G⟩:=Y;simp only[bk]at u F G;refine⟨?_,?_,fun l j=>?_⟩
  .simp only[ae.size,bk,Zd,ZR,Rows.uptoBulk,Rows.uptoBulkAll];omega
  .simp only[bk,Zd,ZR,Rows.uptoBulk,Rows.uptoBulkAll];omega
  .obtain⟨e,⟨I,_⟩,J⟩:=x.all l j;simp only[bk]at I J;simp only[bk,Zd,ZR,Rows.uptoBulk,Rows.uptoBulkAll];omega
theorem PG(n:Nat):Rd enc prog W hT sp held 3 ba (fun _ _=>True) n:=by
 intro m d b y h;obtain⟨z,j,_⟩:=mq (hT:=hT) underlying3 n m d b y h;exact⟨z,j,ac⟩
theorem PH(n:Nat):Rd enc prog W hT sp held 49 Decl.c QD n:=by
 intro m _ I y h;obtain⟨G,k,rfl,rfl,B,D,d⟩:=DataW.trod_struct underlying49 h
 match G,D with
 | [x0,x1,x2],_=>
  obtain⟨a,j,J,_⟩:=lU (hT:=hT) underlying9 k k (YY _) _ _ (rB d 0 Z Z Z vI Z);obtain⟨b,u,F⟩:=(mo (hT:=hT) underlying47 mQ (by decide) (fun _=>rfl) (PG k)).mono (abF k) k (YY _) _ _ (rB d 1 Z Z Z QF Z);obtain⟨c,x,S⟩:=FC (hT:=hT) k k (YY _) _ _ (rB d 2 Z Z Z xc Z);refine⟨⟨a,b,c⟩,j.iD (o':=1) Z (u.iD (o':=2) Z (x.iD (o':=4) Z (.end_ (B.trans H2)))),?_⟩;have A:=F.len;simp only[bk]at A;simp only[QD,bk,Zd,ZR,Rows.uptoBulk,Rows.uptoBulkAll];omega
theorem PD(n:Nat):Rd enc prog W hT sp held 25 Prog.c YN n:=by
 intro m _ cs y h;obtain⟨xs,k,rfl,rfl,j,hx,B⟩:=DataW.trod_struct underlying25 h
 match xs,hx with
 | [x0,x1],_=>
  obtain⟨a,F,qa⟩:=(mo (hT:=hT) underlying22 H2 (by decide) (fun _=>rfl) (PH k)).mono (abF k) k (YY _) _ _ (rB B 0 Z Z Z QJ Z);obtain⟨b,G,D⟩:=(mo (hT:=hT) underlying23 HZ (by decide) (fun _=>rfl) (KV k)).mono (abF k) k (YY _) _ _ (rB B 1 Z Z Z QI Z);refine⟨⟨a,b⟩,F.iD (o':=1) Z (G.iD (o':=2) Z (.end_ (j.trans QH))),?_⟩;have u:=qa.sum (f:=fun d=>d.types.length+1) (c:=1) fun _ _ h=>by
   simp only[QD]at h;omega
  have x:=D.sum (f:=fun r=>r.size+1) (c:=1) fun _ _ h=>by have:=h.1;omega
  rw[C9]at u x;simp only[bk]at u x;refine⟨?_,?_,?_,fun r Y=>?_⟩
  .simp only[Prog.size,bk,Zd,ZR,Rows.uptoBulk,Rows.uptoBulkAll];omega
  .simp only[bk,Zd,ZR,Rows.uptoBulk,Rows.uptoBulkAll];omega
  .simp only[bk,Zd,ZR,Rows.uptoBulk,Rows.uptoBulkAll];omega
  .obtain⟨e,⟨I,J,A⟩,S⟩:=D.all r Y;simp only[bk]at I J A S;refine⟨?_,?_,fun l j=>?_⟩
   .simp only[bk,Zd,ZR,Rows.uptoBulk,Rows.uptoBulkAll];omega
   .simp only[bk,Zd,ZR,Rows.uptoBulk,Rows.uptoBulkAll];omega
   .have:=A l j;simp only[bk,Zd,ZR,Rows.uptoBulk,Rows.uptoBulkAll];omega
end
theorem UB{H:Type}{p:Prog}{d:DataW H}(h:YN p d)(hb:bk d<=1048576):p.fit:=by
 obtain⟨y,A,B,b⟩:=h;refine⟨by omega,by omega,fun r x=>?_⟩;obtain⟨D,F,j⟩:=b r x;exact⟨by omega,by omega,fun l u=>by have:=j l u;omega⟩
theorem MW{H:Type}{enc:TypeId×Value->H}{W:World}(hT:q6 W){v:Value}{d:DataW H}{p:List MemPlace}(b: ∃base,Value.okWide prog W .any base 25 v)(h:DataW.Trod enc prog W 0 (fun _=>kw) kw 25 v d p):
  ∃x:Prog,YN x d∧VR (Mem.rN W hT) We (· <0) (ag x.c) v:=by
 obtain⟨base,b⟩:=b;obtain⟨A,rfl,_⟩:=okWide_struct underlying25 b;obtain⟨n,y⟩:=h;obtain⟨r,j,u⟩:=PD (hT:=hT) n n (YY _) _ _ y;exact⟨r,u,j.agg⟩
end
end Go.Proofs.YtflegjieadkonaaGreatDoor
namespace Go.Proofs.YtflegjieadkonaaGreatDoor
open Go Go.Al
section
structure dz where
 kind:Int
 lit:Int
 eW:List Int
 var:aj
 deriving Inhabited,DecidableEq
structure po where
 mf:Int
 first:Int
 given:List aj
 steps:List dz
 deriving Inhabited,DecidableEq
def dz.c(s:dz):List IV:=[iI s.kind,iI s.lit,cW 1 s.eW ba,iS s.var]
def po.c(p:po):List IV:=[iI p.mf,iI p.first,strs p.given,cW 4 p.steps dz.c]
def dz.z:dz:=⟨0,0,[],YW⟩
def po.z:po:=⟨0,0,[],[]⟩
section
variable (K:aj->Bool)
def Ff(t:Term):Bool:=li (t.kind=2)||(li (t.kind=1)&&K t.var)
def jg(a:Atom):List Int:=((Zg a.ad.length).filter fun i=>Ff K (a.ad.getD i em)).map fun(i:Nat)=>(i:Int)
def fE(e o:Expr):Bool:=li (e.kind=1)&&!K e.var&&(aH o).all K
def vH(l:Lit)(i:Int):Option dz:=
 if((aH l.left).all K&&(aH l.right).all K)=kw then io ⟨2,i,[],YW⟩
 else if l.op≠1 then jp
 else if fE K l.left l.right=kw then io ⟨3,i,[],l.left.var⟩
 else if fE K l.right l.left=kw then io ⟨3,i,[],l.right.var⟩
 else jp
def Gs(r:ae)(l:Lit)(i:Int):Option dz:=
 if((aF l.agg).all fun v=>!aE (outer r) v||K v)=kw then(if K l.a7=kw then io ⟨2,i,[],YW⟩ else io ⟨3,i,[],l.a7⟩) else jp
def uF(r:ae)(l:Lit)(i:Int):Option dz:=
 if l.kind=1 then io ⟨1,i,jg K l.atom,YW⟩
 else if l.kind=2 then(if(bj l.atom).all K=kw then io ⟨2,i,[],YW⟩ else jp)
 else if l.kind=3 then vH K l i
 else if l.kind=4 then Gs K r l i
 else jp
def iu(r:ae)(i:Nat):Option dz:=uF K r (r.body.getD i em) i
end
def IU(o:Option dz):dz×Bool:=match o with
 |some s=>(s,kw)
 |none=>(dz.z,lc)
def tD(r:ae)(s:dz):List aj:=if s.kind=1 then bj (r.body.getD s.lit.toNat em).atom else if s.kind=3 then[s.var] else[]
section
variable (K:aj->Bool) (r:ae) (dn:Nat->Bool)
def jS(i:Nat):Option dz:=if !dn i&&li ((r.body.getD i em).kind≠1) then iu K r i else jp
def su(b:Int×Int)(i:Nat):Int×Int:=if(!dn i&&li ((r.body.getD i em).kind=1))=kw∧((jg K (r.body.getD i em).atom).length:Int)>b.2 then((i:Int),((jg K (r.body.getD i em).atom).length:Int)) else b
def qS:Int×Int:=(Zg r.body.length).foldl (su K r dn) (-1, -1)
def iY(fstv:Int):Option dz:=match(Zg r.body.length).findSome? (jS K r dn) with
 |some s=>io s
 |none=>if 0<=fstv∧dn fstv.toNat=lc then iu K r fstv.toNat
  else if(qS K r dn).1<0 then jp else iu K r (qS K r dn).1.toNat
end
def fp(r:ae)(fstv:Int):Nat->(Nat->Bool)->(aj->Bool)->List dz
 |0,_,_=> []
 |n+1,dn,K=>match iY K r dn fstv with
  |none=> []
  |some s=>s::fp r fstv n (fun j=>dn j||decide ((j:Int)=s.lit)) (fun x=>K x||aE (tD r s) x)
theorem uE{K:aj->Bool}{r:ae}{l:Lit}{i:Int}{s:dz}(h:uF K r l i=io s):s.lit=i:=by
 unfold uF vH Gs at h
 repeat' split at h
 all_goals first
  |(cases h;rfl)
  |cases h
theorem CH(K:aj->Bool)(r:ae)(dn:Nat->Bool): ∀(l:List Nat) (b:Int×Int),(l.foldl (su K r dn) b).1=b.1∨ ∃i∈l,(l.foldl (su K r dn) b).1=(i:Int)∧dn i=lc∧(r.body.getD i em).kind=1
 | [],_=> .inl Z
 |i::l,b=>by
  rw[Zn];rcases CH K r dn l (su K r dn b i) with h|⟨j,u,h⟩
  .rw[h];unfold su;split
   .rename_i d;refine .inr ⟨i,Y8,rfl,?_⟩;simpa using d.1
   .exact .inl Z
  .exact .inr ⟨j,Y7 _ u,h⟩
theorem DT{K:aj->Bool}{r:ae}{dn:Nat->Bool}{fstv:Int}{s:dz}(hf:fstv<r.body.length)(h:iY K r dn fstv=io s): ∃i:Nat,s.lit=i∧i<r.body.length∧dn i=lc:=by
 unfold iY at h;cases hg:(Zg r.body.length).findSome? (jS K r dn) with
 |some s'=>
  rw[hg]at h;cases h;obtain⟨i,u,j⟩:=List.exists_of_findSome?_eq_some hg;unfold jS at j;split at j
  .rename_i d;exact⟨i,uE j,ZY.1 u,by simp at d;exact d.1⟩
  .cases j
 |none=>
  rw[hg]at h;dsimp only at h;split at h
  .rename_i d;exact⟨fstv.toNat,uE h,by omega,d.2⟩
  .split at h
   .cases h
   .rename_i hb;rcases CH K r dn (Zg r.body.length) (-1, -1) with b|⟨i,u,b,x,_⟩
    .exact absurd (show(qS K r dn).1<0 by unfold qS;rw[b];decide) hb
    .refine⟨(qS K r dn).1.toNat,uE h,?_,?_⟩
     .have:(qS K r dn).1=i:=b;have:=ZY.1 u;omega
     .have:(qS K r dn).1=i:=b;rw[this];exact x
end
end Go.Proofs.YtflegjieadkonaaGreatDoor
namespace Go.Proofs.YtflegjieadkonaaGreatDoor
open Go Go.Al Go.Proofs.Tryz
mutual
def bw:Expr->List aj
 | .mk k v _ _ args=>(if k=1 then[v] else[])++mO args
def mO:List Expr->List aj
 | []=> []
 |e::r=>bw e++mO r
end
theorem qI: ∀l:List Expr,mO l=l.flatMap bw
 | []=>rfl
 |e::r=>by simp only[mO,ZF,qI r]
theorem tv(e:Expr):bw e=(if e.kind=1 then[e.var] else[])++e.args.flatMap bw:=by
 cases e with
 |mk k v val op args=>simp only[bw,Expr.kind,Expr.var,Expr.args,qI];rfl
mutual
theorem il: ∀e:Expr,(bw e).length<=e.size
 | .mk k v _ _ args=>by
  have:=pb args;simp only[bw,Expr.size,YS];split
  .simp;omega
  .simp;omega
theorem pb: ∀l:List Expr,(mO l).length<=Expr.aA l
 | []=>by simp[mO]
 |e::r=>by
  have b:=il e;have d:=pb r;simp only[mO,Expr.aA,YS];omega
end
theorem sS: ∀(n:Nat) (e:Expr) (occ:List aj),e.size<=n->occ.length+e.size<=1000000000000000->bV prog 107 [ag e.c,.mp 0] [ct (aC occ)] (.bM []) [(0,io (ct (aC (occ++bw e))))] 1
 |0,e,_,h,_=>by have:=e.size_pos;omega
 |n+1,e,occ,h,hb=>by
  refine bV.le (args:=[ag e.c1,.mp 0]) ?_ ⟨e.zm,.refl _,ac⟩;have j:=tv e;have G:=e.size_eq;have F:=bB occ e.var;have D:=eY occ e.var;have B:=Expr.au e.args;have rest: ∀a0:List aj,a0.length<=1->bw e=a0++e.args.flatMap bw-> ∀i,i<e.args.length->(occ++a0++(e.args.take i).flatMap bw).length+(e.args.getD i em).size<=1000000000000000:=fun a0 J _ i x=>by
   have A:=Expr.b3 e.args i x;have I:=pb (e.args.take i);rw[qI]at I;rw[YS,YS];omega
  refine aB ab func107 Z (by decide) ntmps107 Z (by simp) ?_;refine zJ Z Z (fun d=>?_) fun d=>?_
  .have d:e.kind=1:=zT d;rw[am d]at j;refine gA Z ?_;refine az 0 e.args.length (YZ _) (fun i=>⟨[(1,.mp 0),(2,.ptr 1 0),(15,.iv (cW 7 e.args Expr.c)),(16,pI e.args.length),(17,pI i)],[(0,io (ct (aC (occ++ [e.var]++(e.args.take i).flatMap bw))))],2⟩) (fun _=>True) [] ac
    (zW (hM Z (by rw[ab3,abE,Zv,cR];rfl) Z trivial)) fun i x _=>?_
   refine zJ Z Z (fun b=>?_) fun b=>?_
   .have b:=ci b;have y:=bG (f:=bw) b;have A:=Expr.b3 e.args i b;refine gA Z (bI [0] (sS n (e.args.getD i em) _ (by omega) (rest [e.var] (by simp) j i b)) Z Z Z Z Z Z Z Z ?_);refine gA Z ⟨b,ac,[],zW (hM Z (by rw[y,Y3]) Z ac)⟩
   .have b:=co b;have u:e.args.take i=e.args:=Y1 b;refine gA Z (zD [] Z (zW (hM Z (by rw[j,u,Y3]) Z ac)))
  .have d: ¬e.kind=1:=zF d;rw[be d]at j;refine gA Z ?_;refine az 0 e.args.length (YZ _) (fun i=>⟨[(1,.mp 0),(2,.ptr 1 0),(15,.iv (cW 7 e.args Expr.c)),(16,pI e.args.length),(17,pI i)],[(0,io (ct (aC (occ++ []++(e.args.take i).flatMap bw))))],2⟩) (fun _=>True) [] ac
    (zW (hM Z (by simp) Z trivial)) fun i x _=>?_
   refine zJ Z Z (fun b=>?_) fun b=>?_
   .have b:=ci b;have y:=bG (f:=bw) b;have A:=Expr.b3 e.args i b;refine gA Z (bI [0] (sS n (e.args.getD i em) _ (by omega) (rest [] (by simp) j i b)) Z Z Z Z Z Z Z Z ?_);refine gA Z ⟨b,ac,[],zW (hM Z (by rw[y,Y3]) Z ac)⟩
   .have b:=co b;have u:e.args.take i=e.args:=Y1 b;refine gA Z (zD [] Z (zW (hM Z (by rw[j,u,Y3]) Z ac)))
def dx(l:Lit):List aj:=cI l.atom++(bw l.left++bw l.right)
theorem th(l:Lit):(dx l).length<=l.size:=by
 have b:=iA l.atom;have d:=il l.left;have j:=il l.right;have u:=l.size_eq;unfold dx;rw[YS,YS];omega
theorem KE(l:Lit)(occ:List aj)(hb:occ.length+l.size<=1000000000000000):bV prog 108 [ag l.c,.mp 0] [ct (aC occ)] (.bM []) [(0,io (ct (aC (occ++dx l))))] 1:=by
 have F:=l.size_eq;have y:=iA l.atom;have B:=il l.left;refine aB ab func108 Z (by decide) ntmps108 Z (by simp) ?_;refine gA Z ?_;refine az 0 l.atom.ad.length (YZ _) (fun i=>⟨[(1,.mp 0),(2,.ptr 1 0),(8,.iv (cW 5 l.atom.ad Term.c)),(9,pI l.atom.ad.length),(10,pI i)],[(0,io (ct (aC (occ++(l.atom.ad.take i).flatMap fun t=>if t.kind=1 then[t.var] else[])))),(1,io (an l.c))],2⟩) (fun _=>True) [] ac
  (zW (hM Z (by simp) Z (zK trivial))) fun i G _=>?_
 have A:=tQ (l.atom.ad.take i);simp only[ZJ]at A;refine zJ Z Z (fun b=>?_) fun b=>?_
 .have b:=ci b;have j:=bG (f:=fun t:Term=>if t.kind=1 then[t.var] else[]) b;have D:=bB (occ++(l.atom.ad.take i).flatMap fun t=>if t.kind=1 then[t.var] else[]) (l.atom.ad.getD i em).var;have u:=eY (occ++(l.atom.ad.take i).flatMap fun t=>if t.kind=1 then[t.var] else[]) (l.atom.ad.getD i em).var;rw[YS]at u;refine zJ Z Z (fun d=>?_) fun d=>?_
  .have d:(l.atom.ad.getD i em).kind=1:=zT d;rw[am d]at j;refine gA Z ⟨b,ac,[],zW (hM Z (by rw[j,<-Y3,cR];rfl) Z (zK ac))⟩
  .have d: ¬(l.atom.ad.getD i em).kind=1:=zF d;rw[be d,Zv]at j;refine gA Z ⟨b,ac,[],zW (hM Z (by rw[j]) Z (zK ac))⟩
 have b:=co b;have x:l.atom.ad.take i=l.atom.ad:=Y1 b;rw[x];refine gA Z (bI [0] (sS _ l.left (occ++cI l.atom) (YY _) (by rw[YS];omega)) Z Z Z Z Z Z Z Z ?_);refine gA Z (bI [0] (sS _ l.right (occ++cI l.atom++bw l.left) (YY _) (by rw[YS,YS];omega)) Z Z Z Z Z Z Z Z ?_);refine gA Z (zD [] Z (zW (hM Z (by unfold dx;rw[Y3,Y3]) Z ac)))
abbrev WD:=List ((KC.int .i64).K×Int)
abbrev xb(m:WD):AO:= .map (.int .i64) A5 0 (.int .i64 0) Xm m
abbrev wO(r:ae)(br:IV):AO:= .cells [.iv (iS r.head.rel),.iv (cW 5 r.head.ad Term.c),.iv (lits r.body),.iv (iI r.at_.line),.iv (iI r.at_.zr),.mp 1,.iv br,.mp 2]
abbrev Nk(r:ae)(br:IV)(b:List aj)(dm:WD):List AO:=[wO r br,ct (aC b),xb dm]
abbrev wH(r:ae)(br:IV)(b:List aj)(dm:WD):AH:=[(0,io (wO r br)),(1,io (ct (aC b))),(2,io (xb dm))]
theorem kT{occ:List aj}{s:aj}:li (bU .str (aC occ) s 0=0)=!aE occ s:=by
 rw[cG,Bool.not_not]
theorem uB{occ:List aj}{s:aj}:li (bU .str (aC occ) s 0>0)=aE occ s:=by
 have h:=bB occ s;rw[cG,<-decide_not,decide_eq_decide];omega
theorem hW{n:Nat}{σ:Nat->Nat}{h:AH}{r:ae}{br:IV}{m:NM}{d:List aj}{dm b:WD}{rest:AH}(h0:h.get (σ 0)=io (.cells [.iv (iS r.head.rel),.iv (cW 5 r.head.ad Term.c),.iv (lits r.body),.iv (iI r.at_.line),.iv (iI r.at_.zr),.mp (σ 1),.iv br,.mp (σ 2)]))
  (h1:h.get (σ 1)=io (ct m)) (h2:h.get (σ 2)=io (xb dm)) (e1:m=aC d) (e2:dm=b) (j:(wO r br).low n) (hb:Zb 2 n=kw) (hr:nX n σ h rest):nX n σ h ((0,io (wO r br))::(1,io (ct (aC d)))::(2,io (xb b))::rest):=by
 subst e1 e2;have u:2<n:=YP hb;exact⟨⟨_,h0,.of_eq Z⟩,by omega,j,⟨_,h1,.of_eq Z⟩,by omega,ac,⟨_,h2,.of_eq Z⟩,u,ac,hr⟩
theorem zH{n:Nat}{σ:Nat->Nat}{h:AH}{r:ae}{br:IV}{m:NM}{d:List aj}{dm b:WD}{rest:AH}(hr:nX n σ h rest)(h0:h.get (σ 0)=io (.cells [.iv (iS r.head.rel),.iv (cW 5 r.head.ad Term.c),.iv (lits r.body),.iv (iI r.at_.line),.iv (iI r.at_.zr),.mp (σ 1),.iv br,.mp (σ 2)]):=by exact rfl)
  (h1:h.get (σ 1)=io (ct m):=by exact rfl) (h2:h.get (σ 2)=io (xb dm):=by exact rfl) (e1:m=aC d:=by exact rfl) (e2:dm=b:=by exact rfl) (j:(wO r br).low n:=by exact rfl) (hb:Zb 2 n=kw:=by exact rfl):nX n σ h ((0,io (wO r br))::(1,io (ct (aC d)))::(2,io (xb b))::rest):=hW h0 h1 h2 e1 e2 j hb hr
theorem Fw(r:ae)(br:IV)(d u:List aj)(dm:WD)(hb:u.length<=1000000000000000):bV prog 179 [.ptr 0 0,.iv (CN (aC u))] (Nk r br d dm) (pB (u.all (aE d))) (wH r br d dm) 3:=by
 refine aB ab func179 Z (by decide) ntmps179 Z (by simp) ?_;refine gA Z ?_;refine jv (aC u) (fun B=>⟨[(0,.ptr 0 0),(7,.ptr 3 0)],[(0,io (wO r br)),(1,io (ct (aC d))),(2,io (xb dm)),(3,io (.cC .str A5 (aC u) B jp))],4⟩) (fun B=> ∀j∈B,∀x,(aC u)[j]? =io x->aE d x.1=kw) [] (by simp)
  (zW (zH (hI Z Z (.inl Z) Z trivial))) fun B I=>?_
 refine nS Z ac (fU Z Z Z Z Z (by decide) (fun A=>?_) fun j x F J=>?_)
 .have D:u.all (aE d)=kw:=Zj.2 fun t D=>all_keys (p:=fun t=>aE d t=kw) A I t D
  rw[D];refine gA Z (zD [] Z (zW (zH ac)))
 .refine zJ Z Z (fun b=>?_) fun b=>?_
  .have b:aE d x.1=lc:=by
    have b:li (bU .str (aC d) x.1 0=0)=kw:=b;rw[kT]at b;simpa using b
   rw[show u.all (aE d)=lc from aaE.2 ⟨x.1,uj F,by rw[b];exact Zx⟩];refine gA Z (zD [] Z (zW (zH ac)))
  .have b:aE d x.1=kw:=by
    have b:li (bU .str (aC d) x.1 0=0)=lc:=b;rw[kT]at b;simpa using b
   refine gA Z ?_
   exact⟨j,x,F,J,fun i hi y G=>by
    rcases Za.1 hi with rfl|hi
    .rw[F]at G;cases G;exact b
    .exact I i hi y G,[],zW (zH (hI Z Z (.inr Z) Z ac))⟩
end Go.Proofs.YtflegjieadkonaaGreatDoor
namespace Go.Proofs.YtflegjieadkonaaGreatDoor
open Go Go.Al
theorem Dz(p:Prog): ∀i,(jn p i).length<=i
 |0=>YY _
 |i+1=>by
  have:=Dz p i;unfold jn;split<;>simp<;>omega
theorem Dp(p:Prog): ∀i,(ke p i).length<=i
 |0=>YY _
 |i+1=>by
  have:=Dp p i;unfold ke;split<;>simp<;>omega
section
section
variable {r t:ae} (hh:t.head=r.head) (hb: ∀x,x∈t.body↔x∈r.body)
include hh hb
end
section
variable {r t:ae} (hh:t.head=r.head) (hb: ∀x,x∈t.body↔x∈r.body)
include hh hb
end
structure YK (r t u:ae) (i k:Int):Prop where
 Xz: ∀x∈ff (aC (ch r)),x∈ff (aC (ay r))
 V6: ∀x∈ff (aC (rX r)),x∈ff (aC (ch r))
 outer:ff (aC (ay t))=ff (aC (ay r))
 lim:ff (aC (ch t))=ff (aC (ch r))
 plain:ff (aC (rX t))=ff (aC (rX r))
 loc:tg t i=tg r k
 tg: ∀x∈tg r k,x∉ff (aC (ay r))
 more: ∀x∈ff (aC (ch r)),x∈ff (aC (ch u))
 hasX:Uj [88]∈ff (aC (ch u))
end
end Go.Proofs.YtflegjieadkonaaGreatDoor
namespace Go.Proofs.YtflegjieadkonaaGreatDoor
open Go Go.Al Go.Proofs.Tryz
def HB(p:Prog)(a:Atom)(i:Nat):Int:=(ir p a.rel).types.getD i em
def L4(p:Prog)(a:Atom)(i:Nat)(m:NM):Option NM:=
 if(a.ad.getD i em).kind=2 then(if(a.ad.getD i em).val.kind=HB p a i then io m else jp)
 else if(a.ad.getD i em).kind=1 then(if dZ .str m (a.ad.getD i em).var=kw∧ ¬bU .str m (a.ad.getD i em).var 0=HB p a i then jp else io (cF .str m (a.ad.getD i em).var (HB p a i)))
 else io m
def SI(p:Prog)(a:Atom):Nat->Option NM
 |0=>io []
 |i+1=>(SI p a i).bind (L4 p a i)
theorem Pr{n sz:Nat}{es:List (List PV)}(h:es.all (bq n)=kw):(AO.row sz es).low n:=fun _ e b=>Zj.1 h e (Zm b)
def zb:List IV->List IV->Prop
 | [],[]=>True
 |p::r,q::s=>oH p q∧zb r s
 |_,_=>False
theorem zb.length: ∀{a b:List IV},zb a b->a.length=b.length
 | [],[],_=>rfl
 |_::_,_::_,h=>congrArg (· +1) (zb.length h.2)
 | [],_::_,h=>h.elim
 |_::_,[],h=>h.elim
theorem zb.get: ∀{a b:List IV},zb a b-> ∀(j:Nat) (q:IV),b[j]? =io q-> ∃p,a[j]? =io p∧oH p q
 | [],[],_,j,q,h=>by simp at h
 |p::r,q0::s,hh,j,q,h=>by
  cases j with
  |zero=>simp at h;subst h;exact⟨p,rfl,hh.1⟩
  |succ j=>simpa using zb.get hh.2 j q (by simpa using h)
 | [],_::_,hh,_,_,_=>hh.elim
 |_::_,[],hh,_,_,_=>hh.elim
def yF(i sz n:Nat):PV->Bool
 | .iv _=>kw
 | .sl j off len s=>bif Zk j i then Zk s sz&&aaM (off+len) n else kw
 |_=>lc
theorem JA{i sz n:Nat}{p:PV}(h:yF i sz n p=kw):p.db i sz n:=by
 cases p with
 |iv=>trivial
 |sl j off len s=>
  simp only[yF]at h;show if j=i then s=sz∧off+len<=n else True;split
  .rename_i e;subst e;simp only[Nat.beq_refl,cond_true,Zf]at h;exact⟨Zc h.1,YP h.2⟩
  .trivial
 |_=>cases h
theorem xG{i sz n:Nat}: ∀{l:List PV},l.all (yF i sz n)=kw->iR i sz n l
 | [],_=>trivial
 |p::r,h=>by
  rw[List.all_cons,Zf]at h;exact⟨JA h.1,xG h.2⟩
def xP(i sz n:Nat):AH->Bool
 | []=>kw
 |(_,jp)::r=>xP i sz n r
 |(_,io (.cells cs _))::r=>cs.all (yF i sz n)&&xP i sz n r
 |(_,io (.row _ es))::r=>(es.all fun e=>e.all (yF i sz n))&&xP i sz n r
 |_::_=>lc
theorem nq{i sz n:Nat}: ∀{h:AH},xP i sz n h=kw->h.vf i sz n
 | [],_=>trivial
 |(_,jp)::r,h=>nq (h:=r) h
 |(_,io (.cells cs _))::r,h=>by
  simp only[xP,Zf]at h;exact⟨xG h.1,nq h.2⟩
 |(_,io (.row _ es))::r,h=>by
  simp only[xP,Zf]at h;exact⟨fun e b=>xG (Zj.1 h.1 e b),nq h.2⟩
 |(_,io (.bT _ _))::r,h=>by simp[xP]at h
 |(_,io .gH)::r,h=>by simp[xP]at h
 |(_,io (.map ..))::r,h=>by simp[xP]at h
 |(_,io (.cC ..))::r,h=>by simp[xP]at h
 |(_,io (.eP ..))::r,h=>by simp[xP]at h
theorem Mb{P:Program}{nt:Nat}{Q:AQ}{k:List KI}{s:AS}{all rest:List Oper}(i:Nat){kc:KC}{V:Type}{e:V->IV}{z:V}{b:Value}{y:PV->V}{m:List (kc.K×V)}(hi:s.h.get i=io (.map kc e z b y m))
  (h:GO P nt (.ops all rest::k) Q ⟨s.f.fV i (.eF kc e z b m),(i,jp)::s.h.fV i (.eF kc e z b m),s.nx⟩):GO P nt (.ops all rest::k) Q s:=by
 intro M N a w j;obtain⟨x,A,B,F,D⟩:=qz j.1 hi
 have u:Fits x N ⟨s.f.fV i (.eF kc e z b m),(i,jp)::s.h.fV i (.eF kc e z b m),s.nx⟩ nt a w:=⟨B,fun d=>by
  rw[AF.kP];exact D _ _ (j.2.1 d),j.2.2⟩
 exact gK (fun e a2 G ⟨M2,N2,s2,hx2,hf2,hr2⟩=>⟨M2,N2,s2,A.trans hx2,hf2,hr2⟩) _ _ _ (h x N a w u)
theorem G6(p:Prog): ∀i,∀d∈jn p i,¬d.1=0
 |0,d,h=>by cases h
 |i+1,d,h=>by
  rw[jn]at h;rcases Y6.1 h with h|h
  .exact G6 p i d h
  .split at h
   .cases h
   .rename_i g;rw[Y4]at h;subst h;exact g
theorem G2(p:Prog): ∀i,∀d∈ke p i,¬d.1=0
 |0,d,h=>by cases h
 |i+1,d,h=>by
  rw[ke]at h;rcases Y6.1 h with h|h
  .exact G2 p i d h
  .split at h
   .cases h
   .rename_i g;rw[Y4]at h;subst h;exact g
theorem Jo(p:Prog): ∀d∈jj p,¬d.1=0:=fun d h=>by
 rcases Y6.1 h with h|h
 .exact G6 p _ d h
 .exact G2 p _ d h
theorem yD(p:Prog):(dy p).1=0↔jj p=[]:=by
 unfold dy;cases h:jj p with
 |nil=>exact⟨fun _=>rfl,fun _=>rfl⟩
 |cons d l=>exact⟨fun e=>absurd e (Jo p d (by rw[h];exact Y8)),fun e=>nomatch e⟩
theorem xD(p:Prog): ∀n,ke p n=[]↔ ∀i,i<n->(p4 p i).1=0
 |0=>⟨fun _ i h=>absurd h (Z3 i),fun _=>rfl⟩
 |n+1=>by
  rw[ke,abf,xD p n];constructor
  .rintro⟨h1,h2⟩ i b;rcases ZA.1 b with h|h
   .exact h1 i h
   .subst h;by_cases g:(p4 p i).1=0
    .exact g
    .rw[be g]at h2;cases h2
  .intro h;exact⟨fun i b=>h i (by omega),am (h n (by omega))⟩
theorem cS{α:Type}[Inhabited α]{l:List α}{i:Nat}(hi:i<l.length):l.getD i em∈l:=by rw[YR,YU hi];exact Zz hi
theorem IG(l:List aj)(s:aj):Pure prog 110 [.iv (strs l),pS s] (pB (aE l s)):=by
 refine mu (bH func110 Z (by decide)) ⟨_,_,Y8⟩ fun j=>?_;simp only[maxLen]at j;refine ah ab func110 Z (by decide) ntmps110 Z (by simp) Z ?_;refine gA Z ?_
 refine az 0 l.length (YZ _) (fun i=>⟨[(0,.iv (strs l)),(1,pS s),(5,pI i)],[],0⟩) (fun i=>(l.take i).any (fun x=>li (x=s))=lc) [] Z
  (mW Z Z (bv (bv (bv trivial))) Z) fun i y u=>?_
 refine zJ Z Z (fun b=>?_) fun b=>?_
 .have b:=ci b;refine zJ Z Z (fun d=>?_) fun d=>?_
  .have d:li (l.getD i em=s)=kw:=d;rw[show aE l s=kw from iL b d];exact zU Z
  .have d:li (l.getD i em=s)=lc:=d;refine gA Z ⟨b,(aW u b).2 d,[],mW Z Z (bv (bv (bv ac))) Z⟩
 .have b:=co b;rw[show aE l s=lc from any_none u b];exact zU Z
theorem G1(l m:List aj):Pure prog 116 [.iv (strs l),.iv (strs m)] (pB (m.all (aE l))):=by
 refine mu (bH func116 Z (by decide)) ⟨_,_,Y7 _ Y8⟩ fun j=>?_;simp only[maxLen]at j;refine ah ab func116 Z (by decide) ntmps116 Z (by simp) Z ?_;refine gA Z ?_
 refine az 0 m.length (YZ _) (fun i=>⟨[(0,.iv (strs l)),(1,.iv (strs m)),(5,pI i)],[],0⟩) (fun i=>(m.take i).all (aE l)=kw) [] Z
  (mW Z Z (bv (bv (bv trivial))) Z) fun i x u=>?_
 refine zJ Z Z (fun b=>?_) fun b=>?_
 .have b:=ci b;refine gA Z (zp (IG l (m.getD i em)) ?_);refine zJ Z Z (fun d=>?_) fun d=>?_
  .have d:aE l (m.getD i em)=lc:=zA d;rw[show m.all (aE l)=lc from aaE.2 ⟨_,cS b,by rw[d];exact Zx⟩];exact zU Z
  .have d:aE l (m.getD i em)=kw:=zB d;refine gA Z ⟨b,(kW u b).2 d,[],mW Z Z (bv (bv (bv ac))) Z⟩
 .have b:=co b;rw[Y1 b]at u;rw[u];exact zU Z
theorem V3(k v:List aj)(hb:k.length+v.length<=8000000000000):Pure prog 76 [.iv (strs k),.iv (strs v)] (.iv (strs (k++v))):=by
 refine ah ab func76 Z (by decide) ntmps76 Z (by simp) Z ?_;refine gA Z (cx (by first|exact .inr Z|exact .inl Z) Z Z (by simp only[oL,YX,aaw]) (by simp))
theorem TY(k:List aj)(v:aj)(hb:k.length<=5000000000000):bV prog 76 [.iv (strs k),.sl 0 0 1 1] [aG 1 [v] cX] (.sl 1 0 (k.length+1) 1) [(0,io (aG 1 [v] cX)),(1,io (aG 1 (k++ [v]) cX))] 2:=by
 refine aB ab func76 Z (by decide) ntmps76 Z (by simp) ?_;refine gA Z (zD [3] Z (zM ⟨.row (by simp),rfl,ac⟩ (zS (hR Z (by simp only[oL,YX,aaw];rfl) Z ac))))
def mP(K:aj->Bool)(a:Atom)(i:Nat):List Int:=((Zg i).filter fun i=>Ff K (a.ad.getD i em)).map fun(i:Nat)=>(i:Int)
theorem EM{K:aj->Bool}{a:Atom}{i:Nat}(h:Ff K (a.ad.getD i em)=kw):mP K a (i+1)=mP K a i++ [(i:Int)]:=by
 unfold mP;rw[aa7,aa4,YX,aan,h];rfl
theorem HW{K:aj->Bool}{a:Atom}{i:Nat}(h:Ff K (a.ad.getD i em)=lc):mP K a (i+1)=mP K a i:=by
 unfold mP;rw[aa7,aa4,YX,aan,h];simp
theorem EN(K:aj->Bool)(a:Atom)(i:Nat):(mP K a i).length<=i:=by
 unfold mP;rw[Zo];exact ZI (Z4 _ _) (by rw[List.length_range];exact YY _)
theorem KH(a:Atom)(k:List aj)(hb:a.ad.length<=10000000):Pure prog 115 [ag a.c,.iv (strs k)] (.iv (cW 1 (jg (aE k) a) ba)):=by
 refine ah ab func115 Z (by decide) ntmps115 Z (by simp) Z ?_;refine gA Z ?_;refine fS 5 1 Z ?_;refine az 0 a.ad.length (YZ _) (fun i=>⟨[(1,.iv (strs k)),(2,.ptr 0 0),(5,.sl 2 0 (mP (aE k) a i).length 1),(6,pI i)],[(0,io (an a.c)),(2,io (aG 1 (mP (aE k) a i) ba))],3⟩) (fun _=>True) [1] ac
  (zW (zK (zS trivial))) fun i D _=>?_
 have B:=EN (aE k) a i;refine zE Z Z (fun b=>?_) fun b=>?_
 .have b:=co b;have A:i=a.ad.length:=by omega
  rw[A];refine gA Z (cx (by first|exact .inr Z|exact .inl Z) Z Z (rfl) (rfl))
 have b:=ci b;refine gA Z (zp (IG k (a.ad.getD i em).var) ?_);have y:Ff (aE k) (a.ad.getD i em)=lc->mP (aE k) a (i+1)=mP (aE k) a i:=HW;have d:Ff (aE k) (a.ad.getD i em)=kw->mP (aE k) a (i+1)=mP (aE k) a i++ [(i:Int)]:=EM;refine zJ Z Z (fun j=>?_) fun j=>?_
 .have j:li ((a.ad.getD i em).kind=2)=lc:=j;refine zJ Z Z (fun u=>?_) fun u=>?_
  .have u:li ((a.ad.getD i em).kind=1)=kw:=u;refine zJ Z Z (fun x=>?_) fun x=>?_
   .have x:aE k (a.ad.getD i em).var=kw:=x;have h:=d (by unfold Ff;rw[u,x];simp);refine gA Z ⟨b,ac,[5],zM (bv (bv ⟨.row (by rw[h,YS];rfl),rfl,bv ac⟩)) (zK (hR Z (by rw[h,YX];rfl) Z ac))⟩
   .have x:aE k (a.ad.getD i em).var=lc:=x;have h:=y (by unfold Ff;rw[j,x];simp);refine gA Z ⟨b,ac,[2],zM (bv (bv ⟨.row (by rw[h]),rfl,bv ac⟩)) (zK (hR Z (by rw[h]) Z ac))⟩
  .have u:li ((a.ad.getD i em).kind=1)=lc:=u;have h:=y (by unfold Ff;rw[j,u];rfl);refine gA Z ⟨b,ac,[2],zM (bv (bv ⟨.row (by rw[h]),rfl,bv ac⟩)) (zK (hR Z (by rw[h]) Z ac))⟩
 .have j:li ((a.ad.getD i em).kind=2)=kw:=j;have h:=d (by unfold Ff;rw[j];rfl);refine gA Z ⟨b,ac,[5],zM (bv (bv ⟨.row (by rw[h,YS];rfl),rfl,bv ac⟩)) (zK (hR Z (by rw[h,YX];rfl) Z ac))⟩
theorem BH(e o:Expr)(k:List aj)(hb:o.size<=100000000000):Pure prog 142 [ag e.c,ag o.c,.iv (strs k)] (pB (fE (aE k) e o)):=by
 refine ah ab func142 Z (by decide) ntmps142 Z (by simp) Z ?_;refine gA Z (bh (MO _ o (YY _) (by omega)) Z Z Z Z Z Z ?_);refine gA Z (zp (G1 k (aH o)) ?_);refine gA Z (zp (IG k e.var) ?_);refine zJ Z Z (fun b=>?_) fun b=>?_
 .have b:li (e.kind=1)=kw:=b;refine zJ Z Z (fun d=>?_) fun d=>?_
  .have d:(!aE k e.var)=kw:=d;refine gA Z (zL (.of_eq ?_));unfold fE;rw[b,d];rfl
  .have d:(!aE k e.var)=lc:=d;refine gA Z (zL (.of_eq ?_));unfold fE;rw[b,d];rfl
 .have b:li (e.kind=1)=lc:=b;refine gA Z (zL (.of_eq ?_));unfold fE;rw[b];rfl
theorem Hg:aL (.bM [.agg [pI 0,pI 0,.iv (.v (.slice jp 0 0)),pS YW],pB lc]) (.bM [ag dz.z.c,pB lc]):= .bM ⟨.agg ⟨.refl _,.refl _,.nil _ _,.refl _,ac⟩,.refl _,ac⟩
theorem sE(a b:Int)(v:aj)(t:Bool):aL (.bM [.agg [pI a,pI b,.iv (.v (.slice jp 0 0)),pS v],pB t]) (.bM [ag (dz.mk a b [] v).c,pB t]):= .bM ⟨.agg ⟨.refl _,.refl _,.nil _ _,.refl _,ac⟩,.refl _,ac⟩
abbrev zt(o:Option dz):PV:= .bM [ag (IU o).1.c,pB (IU o).2]
theorem V2(l:Lit)(i:Int)(k:List aj)(hb:l.size<=10000000):Pure prog 117 [ag l.c,pI i,.iv (strs k)] (zt (vH (aE k) l i)):=by
 have A:=l.size_eq;refine ah ab func117 Z (by decide) ntmps117 Z (by simp) Z ?_;refine gA Z (bh (MO _ l.left (YY _) (by omega)) Z Z Z Z Z Z ?_);refine gA Z (bh (MO _ l.right (YY _) (by omega)) Z Z Z Z Z Z ?_);refine gA Z (zp (G1 k (aH l.left)) ?_);refine gA Z (zp (G1 k (aH l.right)) ?_);refine zE Z Z (fun x=>?_) fun x=>?_
 .have x:(aH l.left).all (aE k)=lc:=x;have u:vH (aE k) l i=if l.op≠1 then jp else if fE (aE k) l.left l.right=kw then io ⟨3,i,[],l.left.var⟩ else if fE (aE k) l.right l.left=kw then io ⟨3,i,[],l.right.var⟩ else jp:=by
   unfold vH;rw[be (by rw[x];simp)]
  refine zJ Z Z (fun b=>?_) fun b=>?_
  .have b: ¬l.op=1:=zX b;rw[u,am b];refine gA Z (zL ?_);exact Hg
  have b: ¬ ¬l.op=1:=by
   have b:(!li (l.op=1))=lc:=b;simpa using b
  rw[be b]at u;refine gA Z (zp (BH l.left l.right k (by omega)) ?_);refine zJ Z Z (fun d=>?_) fun d=>?_
  .have d:fE (aE k) l.left l.right=kw:=d;rw[u,am d];refine gA Z (zL ?_);exact sE _ _ _ _
  have d: ¬fE (aE k) l.left l.right=kw:=by
   have d:fE (aE k) l.left l.right=lc:=d;simp[d]
  rw[be d]at u;refine gA Z (zp (BH l.right l.left k (by omega)) ?_);refine zJ Z Z (fun j=>?_) fun j=>?_
  .have j:fE (aE k) l.right l.left=kw:=j;rw[u,am j];refine gA Z (zL ?_);exact sE _ _ _ _
  have j: ¬fE (aE k) l.right l.left=kw:=by
   have j:fE (aE k) l.right l.left=lc:=j;simp[j]
  rw[u,be j];refine gA Z (zL ?_);exact Hg
 have x:(aH l.left).all (aE k)=kw:=x;refine zJ Z Z (fun y=>?_) fun y=>?_
 .have y:(aH l.right).all (aE k)=kw:=y;rw[show vH (aE k) l i=io ⟨2,i,[],YW⟩ by unfold vH;rw[x,y];rfl];refine gA Z (zL ?_);exact sE _ _ _ _
 have y:(aH l.right).all (aE k)=lc:=y;have u:vH (aE k) l i=if l.op≠1 then jp else if fE (aE k) l.left l.right=kw then io ⟨3,i,[],l.left.var⟩ else if fE (aE k) l.right l.left=kw then io ⟨3,i,[],l.right.var⟩ else jp:=by
  unfold vH;rw[be (by rw[x,y];simp)]
 refine zJ Z Z (fun b=>?_) fun b=>?_
 .have b: ¬l.op=1:=zX b;rw[u,am b];refine gA Z (zL ?_);exact Hg
 have b: ¬ ¬l.op=1:=by
  have b:(!li (l.op=1))=lc:=b;simpa using b
 rw[be b]at u;refine gA Z (zp (BH l.left l.right k (by omega)) ?_);refine zJ Z Z (fun d=>?_) fun d=>?_
 .have d:fE (aE k) l.left l.right=kw:=d;rw[u,am d];refine gA Z (zL ?_);exact sE _ _ _ _
 have d: ¬fE (aE k) l.left l.right=kw:=by
  have d:fE (aE k) l.left l.right=lc:=d;simp[d]
 rw[be d]at u;refine gA Z (zp (BH l.right l.left k (by omega)) ?_);refine zJ Z Z (fun j=>?_) fun j=>?_
 .have j:fE (aE k) l.right l.left=kw:=j;rw[u,am j];refine gA Z (zL ?_);exact sE _ _ _ _
 have j: ¬fE (aE k) l.right l.left=kw:=by
  have j:fE (aE k) l.right l.left=lc:=j;simp[j]
 rw[u,be j];refine gA Z (zL ?_);exact Hg
abbrev Lh:List IV:=[iI 0,iI 0,.v (.slice jp 0 0),iS YW]
theorem KK(r:ae)(i:Nat)(k:List aj)(hi:i<r.body.length)(hb:r.size<=10000000):Pure prog 84 [ag r.c,pI i,.iv (strs k)] (zt (iu (aE k) r i)):=by
 have J:r.body.length<=10000000:=by have:=Lit.au r.body;unfold ae.size at hb;omega
 have D:(r.body.getD i em).size<=10000000:=by have:=Lit.aI r.body i hi;unfold ae.size at hb;omega
 have S:=(r.body.getD i em).size_eq;refine ah ab func84 Z (by decide) ntmps84 Z (by simp) Z ?_;refine zJ Z Z (fun u=>?_) fun u=>?_
 .have u:(r.body.getD i em).kind=1:=zT u;refine gA Z (zp (KH (r.body.getD i em).atom k (by omega)) ?_);rw[show iu (aE k) r i=io ⟨1,i,jg (aE k) (r.body.getD i em).atom,YW⟩ by unfold iu uF;rw[am u]];refine gA Z (zL ?_);exact .bM ⟨.agg ⟨.refl _,.refl _,.refl _,.refl _,ac⟩,.refl _,ac⟩
 have u: ¬(r.body.getD i em).kind=1:=zF u;refine zJ Z Z (fun y=>?_) fun y=>?_
 .have y:(r.body.getD i em).kind=2:=zT y;have x:iu (aE k) r i=if(bj (r.body.getD i em).atom).all (aE k)=kw then io ⟨2,i,[],YW⟩ else jp:=by unfold iu uF;rw[be u,am y]
  refine gA Z (zp (SZ (r.body.getD i em).atom (by omega)) ?_);refine gA Z (zp (G1 k (bj (r.body.getD i em).atom)) ?_);refine zJ Z Z (fun b=>?_) fun b=>?_
  .have b:(bj (r.body.getD i em).atom).all (aE k)=kw:=b;rw[x,am b];refine gA Z (zL ?_);exact sE _ _ _ _
  .have b:(bj (r.body.getD i em).atom).all (aE k)=lc:=b;rw[x,be (by rw[b];exact Zx)];refine gA Z (zL ?_);exact Hg
 have y: ¬(r.body.getD i em).kind=2:=zF y;refine zJ Z Z (fun b=>?_) fun b=>?_
 .have b:(r.body.getD i em).kind=3:=zT b;refine gA Z (zp (V2 (r.body.getD i em) i k D) ?_);rw[show iu (aE k) r i=vH (aE k) (r.body.getD i em) i by unfold iu uF;rw[be u,be y,am b]];refine gA Z (zL ?_);exact .refl _
 have b: ¬(r.body.getD i em).kind=3:=zF b;refine zE Z Z (fun A=>?_) fun A=>?_
 .have A: ¬(r.body.getD i em).kind=4:=zF A;rw[show iu (aE k) r i=jp by unfold iu uF;rw[be u,be y,be b,be A]];refine gA Z (zL ?_);exact Hg
 have A:(r.body.getD i em).kind=4:=zT A;have I:(r.body.getD i em).agg.size<=10000000:=by unfold eL.size Lit.agg;dsimp only;omega
 have x:iu (aE k) r i=Gs (aE k) r (r.body.getD i em) i:=by unfold iu uF;rw[be u,be y,be b,am A]
 unfold Gs at x;refine gA Z (zp (UP r (by omega)) ?_);refine gA Z (zp (Ve (r.body.getD i em).agg (by omega)) ?_);have G:=gp (r.body.getD i em).agg;generalize aF (r.body.getD i em).agg=v at x G;refine gA Z ?_;refine az 0 v.length (YZ _) (fun j=>⟨[(1,pI i),(2,.iv (strs k)),(6,.ptr 1 0),(8,.ptr 2 0),(12,.iv (strs (outer r))),(13,.iv (strs v)),(14,pI j)],[(0,io (an r.c)),(1,io (an Lh)),(2,io (an (r.body.getD i em).c))],3⟩) (fun j=>(v.take j).all (fun v=>!aE (outer r) v||aE k v)=kw) [] Z
  (zW (zK (zK (zK trivial)))) fun j Y F=>?_
 refine zE Z Z (fun d=>?_) fun d=>?_
 .have d:=co d;rw[Y1 d]at F;rw[am F]at x;refine gA Z (zp (IG k (r.body.getD i em).a7) ?_);refine zJ Z Z (fun B=>?_) fun B=>?_
  .have B:aE k (r.body.getD i em).a7=kw:=B;rw[x,am B];refine gA Z (zL ?_);exact sE _ _ _ _
  .have B:aE k (r.body.getD i em).a7=lc:=B;rw[x,be (by rw[B];exact Zx)];refine gA Z (zL ?_);exact sE _ _ _ _
 have d:=ci d;refine gA Z (zp (IG (outer r) (v.getD j em)) ?_);refine gA Z (zp (IG k (v.getD j em)) ?_);refine zJ Z Z (fun g1=>?_) fun g1=>?_
 .have g1:aE (outer r) (v.getD j em)=kw:=g1;refine zJ Z Z (fun g2=>?_) fun g2=>?_
  .have g2:aE k (v.getD j em)=lc:=zA g2
   rw[x,be (by
    rw[aam]
    exact aaE.2 ⟨_,cS d,by rw[g1,g2];exact Zx⟩)]
   refine gA Z (zL ?_);exact Hg
  .have g2:aE k (v.getD j em)=kw:=zB g2;refine gA Z ⟨d,(kW F d).2 (by rw[g1,g2];rfl),[],zW (zK (zK (zK ac)))⟩
 .have g1:aE (outer r) (v.getD j em)=lc:=g1;refine gA Z ⟨d,(kW F d).2 (by rw[g1];rfl),[],zW (zK (zK (zK ac)))⟩
theorem Pp(r:ae)(b:Int)(i:Nat)(u:List Int)(d:aj)(k:List aj)(hi:i<r.body.length)(hb:r.size<=10000000)(G:k.length<=5000000000000):Pure prog 85 [ag r.c,ag (dz.mk b i u d).c,.iv (strs k)] (.iv (strs (k++tD r (dz.mk b i u d)))):=by
 have D:r.body.length<=10000000:=by have:=Lit.au r.body;unfold ae.size at hb;omega
 have A:(r.body.getD i em).size<=10000000:=by have:=Lit.aI r.body i hi;unfold ae.size at hb;omega
 have F:=(r.body.getD i em).size_eq;have B:=dr (r.body.getD i em).atom;by_cases j:b=1
 .have e:tD r (dz.mk b i u d)=bj (r.body.getD i em).atom:=by unfold tD;rw[am j];rfl
  rw[e];refine ah ab func85 Z (by decide) ntmps85 Z (by simp) Z ?_;refine zJ Z Z (fun q=>?_) fun q=>?_
  .refine gA Z (zp (SZ (r.body.getD i em).atom (by omega)) ?_);refine gA Z (zp (V3 k (bj (r.body.getD i em).atom) (by omega)) ?_);exact zU Z
  .exact absurd j (zF q)
 by_cases y:b=3
 .have e:tD r (dz.mk b i u d)=[d]:=by unfold tD;rw[be j,am y]
  rw[e];refine ah ab func85 Z (by decide) ntmps85 Z (by simp) Z ?_;refine zJ Z Z (fun q=>?_) fun q=>?_
  .exact absurd (zT q) j
  refine zE Z Z (fun g=>?_) fun g=>?_
  .exact absurd y (zF g)
  refine gA Z (zq [2] (TY k d (by omega)) ?_);refine gA Z (cx (by first|exact .inr Z|exact .inl Z) Z Z ((by rw[aaH];exact aaf fun x _=>rq _ _)) ((by simp)))
 have e:tD r (dz.mk b i u d)=[]:=by unfold tD;rw[be j,be y]
 rw[e,Zv];refine ah ab func85 Z (by decide) ntmps85 Z (by simp) Z ?_;refine zJ Z Z (fun q=>?_) fun q=>?_
 .exact absurd (zT q) j
 refine zJ Z Z (fun g=>?_) fun g=>?_
 .exact absurd (zT g) y
 exact zU Z
def uS(K:aj->Bool)(l:Lit)(i:Int):Option dz:=if(dx l).all K=kw then io ⟨2,i,[],YW⟩ else jp
theorem Ky(r:ae)(br:IV)(b:List aj)(dm:WD)(i:Nat)(hi:i<r.body.length)(hb:r.size<=10000000):
  bV prog 138 [.ptr 0 0,pI i] (Nk r br b dm) (zt (uS (aE b) (r.body.getD i em) i)) (wH r br b dm) 3:=by
 have j:(r.body.getD i em).size<=10000000:=by have:=Lit.aI r.body i hi;unfold ae.size at hb;omega
 have u:=th (r.body.getD i em);refine aB ab func138 Z (by decide) ntmps138 Z (by simp) ?_;refine gM 10 Z (ki [] (t:=⟨[(0,.ptr 0 0),(1,pI i),(4,.ptr 3 0),(6,.mp 4)],[(0,io (wO r br)),(1,io (ct (aC b))),(2,io (xb dm)),(3,io (an Lh)),(4,io (ct (aC [])))],5⟩) (zW (zH (zK (Jg Z (fun _=> .v _) Z ac)))) ?_);refine gA Z (bI [4] (KE (r.body.getD i em) [] (by simp only[Z6];omega)) Z Z Z Z Z Z Z Z ?_);refine gA Z (Mb 4 Z ?_);refine bI [0,1,2] (Fw r br b (dx (r.body.getD i em)) dm (by omega)) Z Z Z Z Z Z Z Z ?_;unfold uS;refine zJ Z Z (fun d=>?_) fun d=>?_
 .have d:(dx (r.body.getD i em)).all (aE b)=lc:=zA d;rw[be (by rw[d];exact Zx)];refine gA Z (zD [] Z (zM ⟨Hg,rfl,ac⟩ (zH ac)))
 .have d:(dx (r.body.getD i em)).all (aE b)=kw:=zB d;rw[am d];refine gA Z (zD [] Z (zM ⟨sE _ _ _ _,rfl,ac⟩ (zH ac)))
abbrev BM:=List ((KC.int .i64).K×List aj)
abbrev zc(m:BM):IV:= .eF (.int .i64) strs [] (.slice jp 0 0) m
def Bo(K:aj->Bool)(b:List aj)(l:Lit)(i:Int):Option dz:=if b.all K=kw then(if K l.a7=kw then io ⟨2,i,[],YW⟩ else io ⟨3,i,[],l.a7⟩) else jp
theorem V4(r:ae)(y:BM)(b:List aj)(dm:WD)(i:Nat)(hi:i<r.body.length)(hb:r.size<=10000000)(D:(bU (.int .i64) y (i:Int) []).length<=1000000000):
  bV prog 140 [.ptr 0 0,pI i] (Nk r (zc y) b dm) (zt (Bo (aE b) (bU (.int .i64) y (i:Int) []) (r.body.getD i em) i)) (wH r (zc y) b dm) 3:=by
 generalize A:bU (.int .i64) y (i:Int) []=bs at D ⊢;refine aB ab func140 Z (by decide) ntmps140 Z (by simp) ?_;refine gA Z ?_;refine az 0 bs.length (YZ _) (fun j=>⟨[(0,.ptr 0 0),(1,pI i),(4,.ptr 3 0),(14,.iv (strs bs)),(15,pI bs.length),(16,pI j)],[(0,io (wO r (zc y))),(1,io (ct (aC b))),(2,io (xb dm)),(3,io (an Lh))],4⟩) (fun j=>(bs.take j).all (aE b)=kw) [] Z
  (zM (bv (bv (bv ⟨.of_eq (by rw[<-A];rfl),rfl,.of_eq (by rw[<-A];rfl),rfl,bv trivial⟩))) (zH (zK trivial))) fun j G B=>?_
 refine zJ Z Z (fun x=>?_) fun x=>?_
 .have x:=ci x;refine zJ Z Z (fun d=>?_) fun d=>?_
  .have d:aE b (bs.getD j em)=lc:=by
    have d:li (bU .str (aC b) (bs.getD j em) 0=0)=kw:=d;rw[kT]at d;simpa using d
   rw[show Bo (aE b) bs (r.body.getD i em) i=jp from be (by rw[aam];exact aaE.2 ⟨_,cS x,by rw[d];exact Zx⟩)];refine gA Z (zD [] Z (zM ⟨Hg,rfl,ac⟩ (zH ac)))
  .have d:aE b (bs.getD j em)=kw:=by
    have d:li (bU .str (aC b) (bs.getD j em) 0=0)=lc:=d;rw[kT]at d;simpa using d
   refine gA Z ⟨x,(kW B x).2 d,[],zW (zH (zK ac))⟩
 have x:=co x;rw[Y1 x]at B;have F:Bo (aE b) bs (r.body.getD i em) i=if aE b (r.body.getD i em).a7=kw then io ⟨2,i,[],YW⟩ else io ⟨3,i,[],(r.body.getD i em).a7⟩:=am B;refine zJ Z Z (fun u=>?_) fun u=>?_
 .have u:aE b (r.body.getD i em).a7=kw:=by
   have u:li (bU .str (aC b) (r.body.getD i em).a7 0>0)=kw:=u;rwa[uB]at u
  rw[F,am u];refine gA Z (zD [] Z (zM ⟨sE _ _ _ _,rfl,ac⟩ (zH ac)))
 .have u:aE b (r.body.getD i em).a7=lc:=by
   have u:li (bU .str (aC b) (r.body.getD i em).a7 0>0)=lc:=u;rwa[uB]at u
  rw[F,be (by rw[u];exact Zx)];refine gA Z (zD [] Z (zM ⟨sE _ _ _ _,rfl,ac⟩ (zH ac)))
theorem TL(r:ae)(br:IV)(b:List aj)(dm:WD)(i:Nat)(hi:i<r.body.length)(hb:r.size<=10000000):
  bV prog 137 [.ptr 0 0,pI i] (Nk r br b dm) (zt (io ⟨1,i,jg (aE b) (r.body.getD i em).atom,YW⟩)) (wH r br b dm) 3:=by
 have I:(r.body.getD i em).size<=10000000:=by have:=Lit.aI r.body i hi;unfold ae.size at hb;omega
 have G:=(r.body.getD i em).size_eq;generalize B:(r.body.getD i em).atom=a at G ⊢;refine aB ab func137 Z (by decide) ntmps137 Z (by simp) ?_;refine gA Z ?_;refine ov 4 2 1 Z Z ?_;refine az 0 a.ad.length (YZ _) (fun j=>⟨[(0,.ptr 0 0),(1,pI i),(4,.ptr 3 0),(6,.ptr 4 0),(20,.iv (cW 5 a.ad Term.c)),(21,pI a.ad.length),(22,pI j)],[(0,io (wO r br)),(1,io (ct (aC b))),(2,io (xb dm)),(3,io (an Lh)),(4,io (.cells [pI 1,pI i,.sl 6 0 (mP (aE b) a j).length 1,pS YW])),(6,io (aG 1 (mP (aE b) a j) ba))],7⟩) (fun _=>True) [5] ac
  (zM (bv (bv (bv (bv ⟨.of_eq (by rw[<-B];rfl),rfl,.of_eq (by rw[<-B];rfl),rfl,bv trivial⟩)))) (zH (zK (zO (zS trivial))))) fun j S _=>?_
 have J:=EN (aE b) a j;refine zJ Z Z (fun u=>?_) fun u=>?_
 .have u:=ci u;have D:Ff (aE b) (a.ad.getD j em)=lc->mP (aE b) a (j+1)=mP (aE b) a j:=HW;have x:Ff (aE b) (a.ad.getD j em)=kw->mP (aE b) a (j+1)=mP (aE b) a j++ [(j:Int)]:=EM;refine zJ Z Z (fun y=>?_) fun y=>?_
  .have y:li ((a.ad.getD j em).kind=2)=kw:=y;have h:=x (by unfold Ff;rw[y];rfl);refine gA Z ⟨u,ac,[9],zW (zH (zK ⟨⟨_,rfl,.cells ⟨.refl _,.refl _,.row (by rw[h,YS];rfl),.refl _,ac⟩⟩,YP Z,rfl,hR Z (by rw[h,YX];rfl) Z ac⟩))⟩
  .have y:li ((a.ad.getD j em).kind=2)=lc:=y;refine zJ Z Z (fun A=>?_) fun A=>?_
   .have A:li ((a.ad.getD j em).kind=1)=kw:=A;refine zJ Z Z (fun d=>?_) fun d=>?_
    .have d:aE b (a.ad.getD j em).var=kw:=by
      have d:li (bU .str (aC b) (a.ad.getD j em).var 0>0)=kw:=d;rwa[uB]at d
     have h:=x (by unfold Ff;rw[A,d];simp);refine gA Z ⟨u,ac,[9],zW (zH (zK ⟨⟨_,rfl,.cells ⟨.refl _,.refl _,.row (by rw[h,YS];rfl),.refl _,ac⟩⟩,YP Z,rfl,hR Z (by rw[h,YX];rfl) Z ac⟩))⟩
    .have d:aE b (a.ad.getD j em).var=lc:=by
      have d:li (bU .str (aC b) (a.ad.getD j em).var 0>0)=lc:=d;rwa[uB]at d
     have h:=D (by unfold Ff;rw[y,d];simp);refine gA Z ⟨u,ac,[6],zW (zH (zK ⟨⟨_,rfl,.cells ⟨.refl _,.refl _,.row (by rw[h]),.refl _,ac⟩⟩,YP Z,rfl,hR Z (by rw[h]) Z ac⟩))⟩
   .have A:li ((a.ad.getD j em).kind=1)=lc:=A;have h:=D (by unfold Ff;rw[y,A];rfl);refine gA Z ⟨u,ac,[6],zW (zH (zK ⟨⟨_,rfl,.cells ⟨.refl _,.refl _,.row (by rw[h]),.refl _,ac⟩⟩,YP Z,rfl,hR Z (by rw[h]) Z ac⟩))⟩
 have u:=co u;have F:j=a.ad.length:=by omega
 rw[F];refine gA Z ⟨.inr Z,_,rfl,lu.KO 6 (mP (aE b) a a.ad.length) ba Z Z ⟨⟨ac,ac,by simp[PV.db],ac,ac⟩,ac,ac⟩ (.done ⟨_,_,_,[],⟨rfl,rfl,rfl⟩,zM ⟨.bM ⟨.agg ⟨.refl _,.refl _,?_,.refl _,ac⟩,.refl _,ac⟩,rfl,ac⟩ (zH ac)⟩)⟩;show aL (.iv (.dG 1 (mP (aE b) a a.ad.length).length fun k=>ba ((mP (aE b) a a.ad.length).getD (0+k) em))) (.iv (cW 1 (jg (aE b) a) ba));simp only[Zh];exact .refl _
def fF(K:aj->Bool)(e o:Expr):Bool:=li (e.kind=1)&&(!K e.var&&(bw o).all K)
def yC(K:aj->Bool)(l:Lit)(i:Int):Option dz:=
 if(dx l).all K=kw then io ⟨2,i,[],YW⟩
 else if l.op≠1 then jp
 else if fF K l.left l.right=kw then io ⟨3,i,[],l.left.var⟩
 else if fF K l.right l.left=kw then io ⟨3,i,[],l.right.var⟩
 else jp
abbrev BE(l:Lit):List PV:=l.left.c.map .iv++l.right.c.map .iv
abbrev cmF(l:Lit)(i j:Nat):AF:=[(0,.ptr 0 0),(1,pI i),(4,.ptr 3 0),(9,.ptr 6 0),(38,.agg (BE l)),(39,pI j)]
abbrev XP(r:ae)(br:IV)(b:List aj)(dm:WD)(l:Lit)(h:AH):AH:=(0,io (wO r br))::(1,io (ct (aC b)))::(2,io (xb dm))::(3,io (an Lh))::(6,io (.cells (BE l)))::h
set_option maxHeartbeats 2000000 in
theorem V1(r:ae)(br:IV)(b:List aj)(dm:WD)(i:Nat)(hi:i<r.body.length)(hb:r.size<=10000000):
  bV prog 139 [.ptr 0 0,pI i] (Nk r br b dm) (zt (yC (aE b) (r.body.getD i em) i)) (wH r br b dm) 3:=by
 have I:(r.body.getD i em).size<=10000000:=by have:=Lit.aI r.body i hi;unfold ae.size at hb;omega
 have J:=(r.body.getD i em).size_eq;have B:=Ky r br b dm i hi hb;unfold uS at B;cases hA:(dx (r.body.getD i em)).all (aE b) with
 |true=>
  rw[hA,am Z]at B;rw[show yC (aE b) (r.body.getD i em) i=io ⟨2,i,[],YW⟩ from am hA];refine aB ab func139 Z (by decide) ntmps139 Z (by simp) ?_;refine gA Z (bI [0,1,2] B Z Z Z Z Z Z Z Z ?_);refine zJ Z Z (fun D=>?_) fun D=>?_
  .refine gA Z (zD [] Z (zW (zH ac)))
  .exact absurd D (show¬(kw=lc) by decide)
 |false=>
  rw[hA,be Zx]at B;have x:yC (aE b) (r.body.getD i em) i=if(r.body.getD i em).op≠1 then jp else if fF (aE b) (r.body.getD i em).left (r.body.getD i em).right=kw then io ⟨3,i,[],(r.body.getD i em).left.var⟩ else if fF (aE b) (r.body.getD i em).right (r.body.getD i em).left=kw then io ⟨3,i,[],(r.body.getD i em).right.var⟩ else jp:=by
   unfold yC;rw[hA,be Zx]
  refine aB ab func139 Z (by decide) ntmps139 Z (by simp) ?_;refine gA Z (bI [0,1,2] B Z Z Z Z Z Z Z Z ?_);refine zJ Z Z (fun D=>?_) fun D=>?_
  .exact absurd D (show¬(lc=kw) by decide)
  refine zJ Z Z (fun u=>?_) fun u=>?_
  .have u:(r.body.getD i em).op≠1:=by
    have u:(!li ((r.body.getD i em).op=1))=kw:=u;simpa using u
   rw[x,am u];refine gA Z (zD [] Z (zM ⟨Hg,rfl,ac⟩ (zH ac)))
  have u: ¬(r.body.getD i em).op≠1:=by
   have u:(!li ((r.body.getD i em).op=1))=lc:=u;simpa using u
  rw[be u]at x;refine gA Z ?_;refine az 0 2 (YZ _) (fun j=>⟨cmF (r.body.getD i em) i j,XP r br b dm (r.body.getD i em) [],7⟩) (fun j=>(1<=j->fF (aE b) (r.body.getD i em).left (r.body.getD i em).right=lc)∧(2<=j->fF (aE b) (r.body.getD i em).right (r.body.getD i em).left=lc)) [] ⟨fun h=>absurd h (by decide),fun h=>absurd h (by decide)⟩
   (zW (zH (zK (zO trivial)))) fun j S A=>?_
  refine zE Z Z (fun y=>?_) fun y=>?_
  .have y:2<=j:=by have:=zF y;omega
   rw[be (by rw[A.1 (by omega)];exact Zx),be (by rw[A.2 y];exact Zx)]at x;rw[x];refine gA Z (zD [] Z (zM ⟨Hg,rfl,ac⟩ (zH ac)))
  have y:j<2:=by have:=zT y;omega
  match j,y,A with
  |0,_,A=>
   refine gA Z (L9 (n:=0) ab Z Z Z Z Z Z Z (by decide) Z Z ?_);refine gM 9 Z (ki [] (t:=⟨[(0,.ptr 0 0),(1,pI i),(4,.ptr 3 0),(9,.ptr 6 0),(10,pI 0),(11,.ptr 7 0),(12,.mp 8),(38,.agg (BE (r.body.getD i em))),(39,pI 0)],XP r br b dm (r.body.getD i em) [(7,io (an (r.body.getD i em).left.c)),(8,io (ct (aC [])))],9⟩) (zW (zH (zK (zO (zK (Jg Z (fun _=> .v _) Z ac)))))) ?_);refine gA Z (bI [8] (sS _ (r.body.getD i em).right [] (YY _) (by simp only[Z6];omega)) Z Z Z Z Z Z Z Z ?_);refine gM 1 Z (w8 8 Z ?_);have F:=il (r.body.getD i em).right;have no:fF (aE b) (r.body.getD i em).left (r.body.getD i em).right=lc->(0<2∧((1<=0+1->fF (aE b) (r.body.getD i em).left (r.body.getD i em).right=lc)∧(2<=0+1->fF (aE b) (r.body.getD i em).right (r.body.getD i em).left=lc))):=fun h=>⟨by decide,fun _=>h,fun h=>absurd h (by decide)⟩
   refine zE Z Z (fun g1=>?_) fun g1=>?_
   .have g1:li ((r.body.getD i em).left.kind=1)=lc:=g1;have d:=no (by unfold fF;rw[g1];rfl);refine gA Z ⟨d.1,d.2,[],zW (zH (zK (zO ac)))⟩
   have g1:li ((r.body.getD i em).left.kind=1)=kw:=g1;refine zE Z Z (fun g2=>?_) fun g2=>?_
   .have g2:aE b (r.body.getD i em).left.var=kw:=by
     have g2:li (bU .str (aC b) (r.body.getD i em).left.var 0=0)=lc:=g2;rw[kT]at g2;simpa using g2
    have d:=no (by unfold fF;rw[g2];simp);refine gA Z ⟨d.1,d.2,[],zW (zH (zK (zO ac)))⟩
   have g2:aE b (r.body.getD i em).left.var=lc:=by
    have g2:li (bU .str (aC b) (r.body.getD i em).left.var 0=0)=kw:=g2;rw[kT]at g2;simpa using g2
   refine gA Z (zd [0,1,2] (Fw r br b (bw (r.body.getD i em).right) dm (by omega)) ?_);refine zJ Z Z (fun g3=>?_) fun g3=>?_
   .have g3:(bw (r.body.getD i em).right).all (aE b)=kw:=g3;have G:fF (aE b) (r.body.getD i em).left (r.body.getD i em).right=kw:=by unfold fF;rw[g1,g2,g3];rfl
    rw[am G]at x;rw[x];refine gA Z (zD [] Z (zM ⟨sE _ _ _ _,rfl,ac⟩ (zH ac)))
   .have g3:(bw (r.body.getD i em).right).all (aE b)=lc:=g3;have d:=no (by unfold fF;rw[g3];simp);refine gA Z ?_;exact⟨d.1,d.2,[],zW (zH (zK (zO ac)))⟩
  |1,_,A=>
   refine gA Z (L9 (n:=1) ab Z Z Z Z Z Z Z (by decide) Z Z ?_);refine gM 9 Z (ki [] (t:=⟨[(0,.ptr 0 0),(1,pI i),(4,.ptr 3 0),(9,.ptr 6 0),(10,pI 1),(11,.ptr 7 0),(12,.mp 8),(38,.agg (BE (r.body.getD i em))),(39,pI 1)],XP r br b dm (r.body.getD i em) [(7,io (an (r.body.getD i em).right.c)),(8,io (ct (aC [])))],9⟩) (zW (zH (zK (zO (zK (Jg Z (fun _=> .v _) Z ac)))))) ?_);refine gA Z (bI [8] (sS _ (r.body.getD i em).left [] (YY _) (by simp only[Z6];omega)) Z Z Z Z Z Z Z Z ?_);refine gM 1 Z (w8 8 Z ?_);have F:=il (r.body.getD i em).left;have no:fF (aE b) (r.body.getD i em).right (r.body.getD i em).left=lc->(1<2∧((1<=1+1->fF (aE b) (r.body.getD i em).left (r.body.getD i em).right=lc)∧(2<=1+1->fF (aE b) (r.body.getD i em).right (r.body.getD i em).left=lc))):=fun h=>⟨by decide,fun _=>A.1 (by decide),fun _=>h⟩
   refine zE Z Z (fun g1=>?_) fun g1=>?_
   .have g1:li ((r.body.getD i em).right.kind=1)=lc:=g1;have d:=no (by unfold fF;rw[g1];rfl);refine gA Z ⟨d.1,d.2,[],zW (zH (zK (zO ac)))⟩
   have g1:li ((r.body.getD i em).right.kind=1)=kw:=g1;refine zE Z Z (fun g2=>?_) fun g2=>?_
   .have g2:aE b (r.body.getD i em).right.var=kw:=by
     have g2:li (bU .str (aC b) (r.body.getD i em).right.var 0=0)=lc:=g2;rw[kT]at g2;simpa using g2
    have d:=no (by unfold fF;rw[g2];simp);refine gA Z ⟨d.1,d.2,[],zW (zH (zK (zO ac)))⟩
   have g2:aE b (r.body.getD i em).right.var=lc:=by
    have g2:li (bU .str (aC b) (r.body.getD i em).right.var 0=0)=kw:=g2;rw[kT]at g2;simpa using g2
   refine gA Z (zd [0,1,2] (Fw r br b (bw (r.body.getD i em).left) dm (by omega)) ?_);refine zJ Z Z (fun g3=>?_) fun g3=>?_
   .have g3:(bw (r.body.getD i em).left).all (aE b)=kw:=g3;have G:fF (aE b) (r.body.getD i em).right (r.body.getD i em).left=kw:=by unfold fF;rw[g1,g2,g3];rfl
    rw[be (by rw[A.1 (by decide)];exact Zx),am G]at x;rw[x];refine gA Z (zD [] Z (zM ⟨sE _ _ _ _,rfl,ac⟩ (zH ac)))
   .have g3:(bw (r.body.getD i em).left).all (aE b)=lc:=g3;have d:=no (by unfold fF;rw[g3];simp);refine gA Z ⟨d.1,d.2,[],zW (zH (zK (zO ac)))⟩
abbrev Xh(n k:Nat):List PV:=[pI n,.dq (.func k) [] []]
abbrev JS:AO:= .row 2 [Xh 1 137,Xh 2 138,Xh 3 139,Xh 4 140]
theorem lR(n:Nat):JS.low n:=by
 intro k e b
 match k,b with
 |0,b=>cases b;rfl
 |1,b=>cases b;rfl
 |2,b=>cases b;rfl
 |3,b=>cases b;rfl
 |k+4,b=>cases b
theorem Kw:bV prog 114 [] [] (.sl 0 0 4 2) [(0,io JS)] 1:=by
 refine aB ab func114 Z (by decide) ntmps114 Z (by simp) ?_;refine gA Z (zD [0] Z (zW ⟨⟨_,rfl,.of_eq Z⟩,YP Z,lR _,ac⟩))
def lz(K:aj->Bool)(b:BM)(l:Lit)(i:Int):Option dz:=
 if l.kind=1 then io ⟨1,i,jg K l.atom,YW⟩
 else if l.kind=2 then uS K l i
 else if l.kind=3 then yC K l i
 else if l.kind=4 then Bo K (bU (.int .i64) b i []) l i
 else jp
theorem Sz(r:ae)(x:BM)(u:List aj)(dm:WD)(i:Nat)(hi:i<r.body.length)(hb:r.size<=10000000)(A:(bU (.int .i64) x (i:Int) []).length<=1000000000):
  bV prog 81 [.ptr 0 0,pI i] (Nk r (zc x) u dm) (zt (lz (aE u) x (r.body.getD i em) i)) (wH r (zc x) u dm) 3:=by
 refine aB ab func81 Z (by decide) ntmps81 Z (by simp) ?_;refine gA Z (zq [] (Kw) ?_);have B:(r.body.getD i em).size<=10000000:=by have:=Lit.aI r.body i hi;unfold ae.size at hb;omega
 refine gA Z ?_;refine az 0 4 (YZ _) (fun j=>⟨[(0,.ptr 0 0),(1,pI i),(4,.ptr 3 0),(8,.sl 4 0 4 2),(9,pI 4),(10,pI j)],[(0,io (wO r (zc x))),(1,io (ct (aC u))),(2,io (xb dm)),(3,io (an Lh)),(4,io JS)],5⟩) (fun j=> ∀n:Nat,n<j-> ¬(r.body.getD i em).kind=(n+1:Nat)) [] (fun n hn=>absurd hn (Z3 n))
  (zW (zH (zK ⟨⟨_,rfl,.of_eq Z⟩,YP Z,lR _,ac⟩))) fun j G d=>?_
 refine zE Z Z (fun y=>?_) fun y=>?_
 .have y:4<=j:=by have:=zF y;omega
  have D: ¬(r.body.getD i em).kind=1:=d 0 (by omega);have a2: ¬(r.body.getD i em).kind=2:=d 1 (by omega);have a3: ¬(r.body.getD i em).kind=3:=d 2 (by omega);have a4: ¬(r.body.getD i em).kind=4:=d 3 (by omega);rw[show lz (aE u) x (r.body.getD i em) i=jp by unfold lz;rw[be D,be a2,be a3,be a4]];refine gA Z (zD [] Z (zM ⟨Hg,rfl,ac⟩ (zH ac)))
 have y:j<4:=by have:=zT y;omega
 have step: ∀j:Nat,(∀n:Nat,n<j-> ¬(r.body.getD i em).kind=(n+1:Nat))-> ¬(r.body.getD i em).kind=(j+1:Nat)-> ∀n:Nat,n<j+1-> ¬(r.body.getD i em).kind=(n+1:Nat):=fun j h F n hn=>by
  rcases ZA.1 hn with hn|hn
  .exact h n hn
  .subst hn;exact F
 match j,y,d with
 |0,_,d=>
  refine gM 6 Z (bp ab Z Z Z Z Z (rfl) Z Z ?_);refine zJ Z Z (fun b=>?_) fun b=>?_
  .have b:(r.body.getD i em).kind=1:=by
    have b:li ((1:Int)=(r.body.getD i em).kind)=kw:=b;exact(zT b).symm
   rw[show lz (aE u) x (r.body.getD i em) i=io ⟨1,i,jg (aE u) (r.body.getD i em).atom,YW⟩ by unfold lz;rw[am b]];refine gA Z (bI [0,1,2] (TL r (zc x) u dm i hi hb) Z Z Z Z Z Z Z Z ?_);refine gA Z (zD [] Z (zW (zH ac)))
  .have b: ¬(r.body.getD i em).kind=((0+1:Nat):Int):=by
    have b:li ((1:Int)=(r.body.getD i em).kind)=lc:=b;exact fun g=>zF b g.symm
   refine gA Z ?_;exact⟨by decide,step 0 d b,[],zW (zH (zK ⟨⟨_,rfl,.of_eq Z⟩,YP Z,lR _,ac⟩))⟩
 |1,_,d=>
  refine gM 6 Z (bp ab Z Z Z Z Z (rfl) Z Z ?_);refine zJ Z Z (fun b=>?_) fun b=>?_
  .have b:(r.body.getD i em).kind=2:=by
    have b:li ((2:Int)=(r.body.getD i em).kind)=kw:=b;exact(zT b).symm
   rw[show lz (aE u) x (r.body.getD i em) i=uS (aE u) (r.body.getD i em) i by unfold lz;rw[be (show¬(r.body.getD i em).kind=1 from d 0 (by decide)),am b]];refine gA Z (bI [0,1,2] (Ky r (zc x) u dm i hi hb) Z Z Z Z Z Z Z Z ?_);refine gA Z (zD [] Z (zW (zH ac)))
  .have b: ¬(r.body.getD i em).kind=((1+1:Nat):Int):=by
    have b:li ((2:Int)=(r.body.getD i em).kind)=lc:=b;exact fun g=>zF b g.symm
   refine gA Z ?_;exact⟨by decide,step 1 d b,[],zW (zH (zK ⟨⟨_,rfl,.of_eq Z⟩,YP Z,lR _,ac⟩))⟩
 |2,_,d=>
  refine gM 6 Z (bp ab Z Z Z Z Z (rfl) Z Z ?_);refine zJ Z Z (fun b=>?_) fun b=>?_
  .have b:(r.body.getD i em).kind=3:=by
    have b:li ((3:Int)=(r.body.getD i em).kind)=kw:=b;exact(zT b).symm
   rw[show lz (aE u) x (r.body.getD i em) i=yC (aE u) (r.body.getD i em) i by unfold lz;rw[be (show¬(r.body.getD i em).kind=1 from d 0 (by decide)),be (show¬(r.body.getD i em).kind=2 from d 1 (by decide)),am b]];refine gA Z (bI [0,1,2] (V1 r (zc x) u dm i hi hb) Z Z Z Z Z Z Z Z ?_);refine gA Z (zD [] Z (zW (zH ac)))
  .have b: ¬(r.body.getD i em).kind=((2+1:Nat):Int):=by
    have b:li ((3:Int)=(r.body.getD i em).kind)=lc:=b;exact fun g=>zF b g.symm
   refine gA Z ?_;exact⟨by decide,step 2 d b,[],zW (zH (zK ⟨⟨_,rfl,.of_eq Z⟩,YP Z,lR _,ac⟩))⟩
 |3,_,d=>
  refine gM 6 Z (bp ab Z Z Z Z Z (rfl) Z Z ?_);refine zJ Z Z (fun b=>?_) fun b=>?_
  .have b:(r.body.getD i em).kind=4:=by
    have b:li ((4:Int)=(r.body.getD i em).kind)=kw:=b;exact(zT b).symm
   rw[show lz (aE u) x (r.body.getD i em) i=Bo (aE u) (bU (.int .i64) x i []) (r.body.getD i em) i by unfold lz;rw[be (show¬(r.body.getD i em).kind=1 from d 0 (by decide)),be (show¬(r.body.getD i em).kind=2 from d 1 (by decide)),be (show¬(r.body.getD i em).kind=3 from d 2 (by decide)),am b]];refine gA Z (bI [0,1,2] (V4 r x u dm i hi hb A) Z Z Z Z Z Z Z Z ?_);refine gA Z (zD [] Z (zW (zH ac)))
  .have b: ¬(r.body.getD i em).kind=((3+1:Nat):Int):=by
    have b:li ((4:Int)=(r.body.getD i em).kind)=lc:=b;exact fun g=>zF b g.symm
   refine gA Z ⟨by decide,step 3 d b,[],zW (zH (zK ⟨⟨_,rfl,.of_eq Z⟩,YP Z,lR _,ac⟩))⟩
def jT(r:ae)(s:dz):List aj:=if s.kind=1 then dx (r.body.getD s.lit.toNat em) else if s.kind=3 then[s.var] else[]
def Ju(dm:WD)(i:Int):WD:=cF (.int .i64) dm i (bU (.int .i64) dm i 0+1)
theorem Kz(r:ae)(br:IV)(j:List aj)(dm:WD)(d:Int)(i:Nat)(x:List Int)(b:aj)(hi:i<r.body.length)(hb:r.size<=10000000)(I:j.length<=500000000000000)(hd:0<=bU (.int .i64) dm (i:Int) 0∧bU (.int .i64) dm (i:Int) 0<=1000000000):
  bV prog 83 [.ptr 0 0,ag (dz.mk d i x b).c] (Nk r br j dm) (.bM []) (wH r br (j++jT r (dz.mk d i x b)) (Ju dm i)) 3:=by
 have A:(r.body.getD i em).size<=10000000:=by have:=Lit.aI r.body i hi;unfold ae.size at hb;omega
 obtain⟨D,F⟩:=hd;have G:=bB j b;have B:=eY j b;by_cases u:d=1
 .have e:jT r (dz.mk d i x b)=dx (r.body.getD i em):=by unfold jT;rw[am u];rfl
  rw[e];refine aB ab func83 Z (by decide) ntmps83 Z (by simp) ?_;refine zJ Z Z (fun q=>?_) fun q=>?_
  .refine gA Z (zd [1] (KE (r.body.getD i em) j (by omega)) ?_);refine gA Z (zD [] Z (zW (zH ac)))
  .exact absurd u (zF q)
 by_cases y:d=3
 .have e:jT r (dz.mk d i x b)=[b]:=by unfold jT;rw[be u,am y]
  rw[e];refine aB ab func83 Z (by decide) ntmps83 Z (by simp) ?_;refine zJ Z Z (fun q=>?_) fun q=>?_
  .exact absurd (zT q) u
  refine zJ Z Z (fun g=>?_) fun g=>?_
  .refine gA Z (zD [] Z (zW (hW Z Z Z (by rw[cR];rfl) Z Z Z ac)))
  .exact absurd y (zF g)
 have e:jT r (dz.mk d i x b)=[]:=by unfold jT;rw[be u,be y]
 rw[e,Zv];refine aB ab func83 Z (by decide) ntmps83 Z (by simp) ?_;refine zJ Z Z (fun q=>?_) fun q=>?_
 .exact absurd (zT q) u
 refine zJ Z Z (fun g=>?_) fun g=>?_
 .exact absurd (zT g) y
 refine gA Z (zD [] Z (zW (zH ac)))
end Go.Proofs.YtflegjieadkonaaGreatDoor
namespace Go.Tj
section
section
variable {α:Type}
inductive pO (succ:α->List α):α->α->Prop
 |refl (a:α):pO succ a a
 |step {a b c:α}:pO succ a b->c∈succ b->pO succ a c
theorem pO.trans{succ:α->List α}{a b c:α}(h:pO succ a b)(g:pO succ b c):pO succ a c:=by
 induction g with
 |refl=>exact h
 |step _ he ih=>exact .step ih he
theorem pO.one{succ:α->List α}{a b:α}(h:b∈succ a):pO succ a b:= .step (.refl a) h
structure St (α:Type) where
 low:α->Int
 on:α->Int
 ring:α->Int
 n:Nat
 stack:List α
section
variable [DecidableEq α]
def Bw(f:α->Int)(a:α)(v:Int):α->Int:=fun x=>if x=a then v else f x
theorem l5(f:α->Int)(a:α)(v:Int):Bw f a v a=v:=am Z
theorem nH{f:α->Int}{a x:α}{v:Int}(h: ¬x=a):Bw f a v x=f x:=be h
def push(s:St α)(a:α):St α:=⟨Bw s.low a ((s.n:Int)+1),Bw s.on a 1,s.ring,s.n+1,s.stack++ [a]⟩
def BU(d:Int)(s:St α):St α:=match s.stack.getLast? with
 |some b=>⟨s.low,Bw s.on b 2,Bw s.ring b d,s.n,s.stack.dropLast⟩
 |none=>s
def ib(a:α)(b:Int):Nat->St α->St α
 |0,s=>s
 |k+1,s=>if s.on a=1 then ib a b k (BU b s) else s
def fD(d:α->St α->Int×St α)(q:Int×St α)(b:α):Int×St α:=
 if q.2.low b=0 then(min q.1 (d b q.2).1,(d b q.2).2) else if q.2.on b=1 then(min q.1 (q.2.low b),q.2) else q
def wJ(a:α)(b:Int)(q:Int×St α):Int×St α:=if q.1=b then(q.1,ib a b q.2.stack.length q.2) else q
def fm(succ:α->List α):Nat->α->St α->Int×St α
 |0,_,s=>(0,s)
 |f+1,a,s=>wJ a ((s.n:Int)+1) ((succ a).foldl (fD (fm succ f)) ((s.n:Int)+1,push s a))
def jm(succ:α->List α)(f:Nat)(V:List α)(s:St α):St α:=V.foldl (fun s a=>if s.low a=0 then(fm succ f a s).2 else s) s
end
def St.o:St α:=⟨fun _=>0,fun _=>0,fun _=>0,0,[]⟩
structure Inv (succ:α->List α) (path:List α) (s:St α):Prop where
 pD: ∀a,0<=s.low a∧s.low a<=s.n
 inj: ∀a b,s.low a=s.low b->s.low a≠0->a=b
 Nl: ∀a,s.on a=0↔s.low a=0
 IY: ∀a,s.on a=0∨s.on a=1∨s.on a=2
 Aa: ∀a,s.on a=1↔a∈s.stack
 Vb:s.stack.Pairwise fun x y=>s.low x<s.low y
 Qv: ∀a,s.on a=2-> ∀b∈succ a,s.on b=2
 Ua: ∀g∈path,s.on g=1
 up: ∀y,s.on y=1-> ∃g∈path,s.low g<=s.low y∧pO succ y g
 dn: ∀g∈path,∀y,s.on y=1->s.low g<=s.low y->pO succ g y
 aK: ∀y,s.low y≠0->y∉path-> ∀z∈succ y,s.low z≠0
 V5: ∀a,s.on a=2-> ∃r,s.on r=2∧s.low r=s.ring a∧pO succ a r∧pO succ r a
 cmp: ∀a b,s.on a=2->s.on b=2->pO succ a b->pO succ b a->s.ring a=s.ring b
structure Le (s s':St α):Prop where
 low: ∀x,s.low x≠0->s'.low x=s.low x
 Qv: ∀x,s.on x=2->s'.on x=2
 n:s.n<=s'.n
theorem Le.refl(s:St α):Le s s:=⟨fun _ _=>rfl,fun _ h=>h,YY _⟩
theorem Le.trans{s t u:St α}(h:Le s t)(g:Le t u):Le s u:=
 ⟨fun x b=>by rw[g.low x (by rw[h.low x b];exact b),h.low x b],fun x b=>g.Qv x (h.Qv x b),ZI h.n g.n⟩
structure U5 (succ:α->List α) (path:List α) (a:α) (s:St α) (least:Int) (s':St α) (t:List α):Prop where
 inv:Inv succ path s'
 le:Le s s'
 stack:s'.stack=s.stack++t
 new: ∀y∈t,s.low y=0
 at_:(s.n:Int)<s'.low a
 Uq:least<=s'.low a
 l1: ∀y∈t,∀z∈succ y,s'.on z=1->least<=s'.low z
 l2:(s'.on a=2∧least=s'.low a)∨ ∃z∈s.stack,s'.low z=least∧pO succ a z
theorem xO{succ:α->List α}{path:List α}{s:St α}(h:Inv succ path s){x:α}(b:s.on x=1):s.low x≠0:=fun g=>by
 have:=(h.Nl x).2 g;omega
theorem K8{succ:α->List α}{p:List α}{s s':St α}(h:Inv succ p s)(b:Le s s'){x:α}(d:s.low x≠0)(ho:s'.on x=1):s.on x=1:=by
 rcases h.IY x with g|g|g
 .exact absurd ((h.Nl x).1 g) d
 .exact g
 .have:=b.Qv x g;omega
section
variable [DecidableEq α]
theorem DC{succ:α->List α}{path:List α}{s:St α}{a:α}(h:Inv succ path s)(ha:s.low a=0)(hp: ∀g∈path,pO succ g a):Inv succ (path++ [a]) (push s a):=by
 have a0:s.on a=0:=(h.Nl a).2 ha;have I:a∉s.stack:=fun g=>by have:=(h.Aa a).2 g;omega
 have u: ∀x,¬x=a->(push s a).low x=s.low x:=fun x d=>nH d;have la:(push s a).low a=(s.n:Int)+1:=l5 _ _ _;have D: ∀x,¬x=a->(push s a).on x=s.on x:=fun x d=>nH d;have F:(push s a).on a=1:=l5 _ _ _;have hn:((push s a).n:Int)=(s.n:Int)+1:=by show((s.n+1:Nat):Int)=_;omega
 refine⟨fun x=>?_,fun x y B d=>?_,fun x=>?_,fun x=>?_,fun x=>?_,?_,fun x d b hb=>?_,fun g Y=>?_,fun y A=>?_,fun g Y y A G=>?_,fun y A J z hz=>?_,fun x d=>?_,fun x y d A h1 h2=>?_⟩
 .have:=h.pD x;by_cases e:x=a
  .subst e;rw[la,hn];omega
  .rw[u x e,hn];omega
 .have h1:=h.pD x;have h2:=h.pD y;by_cases e:x=a
  .by_cases j:y=a
   .rw[e,j]
   .rw[e,la,u y j]at B;omega
  .by_cases j:y=a
   .rw[j,la,u x e]at B;omega
   .rw[u x e,u y j]at B;rw[u x e]at d;exact h.inj x y B d
 .by_cases e:x=a
  .subst e;rw[F,la];constructor<;>intro g<;>omega
  .rw[D x e,u x e];exact h.Nl x
 .by_cases e:x=a
  .subst e;exact .inr (.inl F)
  .rw[D x e];exact h.IY x
 .show _↔x∈s.stack++ [a];rw[Y6,Y4];by_cases e:x=a
  .subst e;simp[F]
  .rw[D x e,h.Aa x];simp[e]
 .show(s.stack++ [a]).Pairwise _;rw[aaV];refine⟨h.Vb.imp_of_mem ?_,List.pairwise_singleton _ _,fun x d y A=>?_⟩
  .intro x y d A B;rw[u x (fun e=>I (e▸d)),u y (fun e=>I (e▸A))];exact B
  .rw[Y4]at A;subst A;rw[la,u x (fun e=>I (e▸d))];have:=h.pD x;omega
 .have e: ¬x=a:=fun e=>by subst e;rw[F]at d;omega
  rw[D x e]at d;have S:=h.Qv x d b hb;have j: ¬b=a:=fun e=>by subst e;omega
  rw[D b j];exact S
 .rcases Y6.1 Y with g1|g1
  .have:=h.Ua g g1;rw[D g (fun e=>by subst e;omega)];exact this
  .rw[Y4]at g1;subst g1;exact F
 .by_cases e:y=a
  .subst e;exact⟨y,aal _ Y8,aa3 _,.refl _⟩
  .rw[D y e]at A;obtain⟨g,g1,g2,g3⟩:=h.up y A;have j: ¬g=a:=fun e=>by have:=h.Ua g g1;subst e;omega
   exact⟨g,Zt _ g1,by rw[u g j,u y e];exact g2,g3⟩
 .rcases Y6.1 Y with g1|g1
  .have j: ¬g=a:=fun e=>by have:=h.Ua g g1;subst e;omega
   by_cases e:y=a
   .subst e;exact hp g g1
   .rw[u g j,u y e]at G;rw[D y e]at A;exact h.dn g g1 y A G
  .rw[Y4]at g1;subst g1;by_cases e:y=g
   .subst e;exact .refl _
   .rw[la,u y e]at G;have:=h.pD y;omega
 .have e: ¬y=a:=fun e=>J (aal _ (by rw[e];exact Y8))
  rw[u y e]at A;have:=h.aK y A (fun g=>J (Zt _ g)) z hz;by_cases j:z=a
  .rw[j,la];omega
  .rw[u z j];exact this
 .have e: ¬x=a:=fun e=>by subst e;rw[F]at d;omega
  rw[D x e]at d;obtain⟨r,r1,r2,r3⟩:=h.V5 x d;have j: ¬r=a:=fun e=>by subst e;omega
  exact⟨r,by rw[D r j];exact r1,by rw[u r j];exact r2,r3⟩
 .have e: ¬x=a:=fun e=>by subst e;rw[F]at d;omega
  have j: ¬y=a:=fun e=>by subst e;rw[F]at A;omega
  rw[D x e]at d;rw[D y j]at A;exact h.cmp x y d A h1 h2
theorem PO{succ:α->List α}{path:List α}{s:St α}{a:α}(h:Inv succ path s)(ha:s.low a=0):Le s (push s a):=by
 have d:s.on a=0:=(h.Nl a).2 ha;refine⟨fun x b=>nH fun e=>b (e▸ha),fun x b=>?_,by show s.n<=s.n+1;omega⟩;have: ¬x=a:=fun e=>by subst e;omega
 show Bw s.on a 1 x=2;rw[nH this];exact b
def BT(s:St α)(u c:List α)(b:Int):St α:=⟨s.low,fun x=>if x∈c then 2 else s.on x,fun x=>if x∈c then b else s.ring x,s.n,u⟩
theorem DD{a:α}{b:Int}{s:St α}(h: ¬s.on a=1): ∀k,ib a b k s=s
 |0=>rfl
 |k+1=>be h
theorem Aj(a:α)(d:Int)(u:List α): ∀(k:Nat) (t:List α) (s:St α),t.length<k->s.stack=u++a::t->a∉t->s.on a=1->(ib a d k s).low=s.low∧(ib a d k s).n=s.n∧(ib a d k s).stack=u∧(∀x,(ib a d k s).on x=if x∈a::t then 2 else s.on x)∧ ∀x,(ib a d k s).ring x=if x∈a::t then d else s.ring x
 |0,t,s,h,_,_,_=>absurd h (Z3 _)
 |k+1,t,s,hk,hs,hn,ho=>by
  rw[ib,am ho];rcases t.eq_nil_or_concat with e|⟨t0,b,e⟩
  .subst e;have F:s.stack.getLast? =io a:=by rw[hs];simp
   have hd:s.stack.dropLast=u:=by rw[hs];simp
   have G:BU d s=⟨s.low,Bw s.on a 2,Bw s.ring a d,s.n,u⟩:=by unfold BU;rw[F,hd]
   rw[G,DD (by show¬Bw s.on a 2 a=1;rw[l5];decide)];exact⟨rfl,rfl,rfl,fun x=>by simp[Bw],fun x=>by simp[Bw]⟩
  .rw[ab0]at e;subst e;have A:s.stack=(u++a::t0)++ [b]:=by rw[hs];simp
   have F:s.stack.getLast? =io b:=by rw[A];exact List.getLast?_concat
   have hd:s.stack.dropLast=u++a::t0:=by rw[A];exact List.dropLast_concat
   have G:BU d s=⟨s.low,Bw s.on b 2,Bw s.ring b d,s.n,u++a::t0⟩:=by unfold BU;rw[F,hd]
   have D: ¬a=b:=fun e=>hn (by rw[e];simp);have B:=Aj a d u k t0 ⟨s.low,Bw s.on b 2,Bw s.ring b d,s.n,u++a::t0⟩ (by simp at hk;omega) Z (fun g=>hn (Zt _ g)) (by show Bw s.on b 2 a=1;rw[nH D];exact ho);rw[G];refine⟨B.1,B.2.1,B.2.2.1,fun x=>?_,fun x=>?_⟩
   .rw[B.2.2.2.1 x];by_cases j:x∈a::t0
    .rw[am j,am (by rw[<-aat];exact Zt _ j)]
    .rw[be j];by_cases y:x=b
     .subst y;rw[am (by simp)];exact l5 _ _ _
     .rw[be (by rw[<-aat,Y6,Y4];exact fun g=>g.elim j y)];exact nH y
   .rw[B.2.2.2.2 x];by_cases j:x∈a::t0
    .rw[am j,am (by rw[<-aat];exact Zt _ j)]
    .rw[be j];by_cases y:x=b
     .subst y;rw[am (by simp)];exact l5 _ _ _
     .rw[be (by rw[<-aat,Y6,Y4];exact fun g=>g.elim j y)];exact nH y
theorem St.eq{β:Type}{s t:St β}(h1:s.low=t.low)(h2:s.on=t.on)(h3:s.ring=t.ring)(b:s.n=t.n)(d:s.stack=t.stack):s=t:=by
 cases s;cases t;simp_all
theorem vc{a:α}{b:Int}{u t:List α}{k:Nat}{s:St α}(B:t.length<k)(hs:s.stack=u++a::t)(hn:a∉t)(ho:s.on a=1):ib a b k s=BT s u (a::t) b:=by
 obtain⟨d,j,x,y,A⟩:=Aj a b u k t s B hs hn ho;exact St.eq d (funext y) (funext A) j x
theorem A7{β:Type}{succ:β->List β}{path:List β}{s:St β}(h:Inv succ path s){a b:β}(ha:s.on a=2)(hr:pO succ a b):s.on b=2:=by
 induction hr with
 |refl=>exact ha
 |step _ he ih=>exact h.Qv _ ih _ he
theorem PQ{succ:α->List α}{path:List α}{s:St α}{a:α}{u t:List α}(h:Inv succ (path++ [a]) s)(hs:s.stack=u++a::t)(S: ∀g∈path,s.low g<s.low a)(i0: ∀z∈succ a,s.low z≠0)
  (d0: ∀y∈a::t,∀z∈succ y,s.on z=1->s.low a<=s.low z):Inv succ path (BT s u (a::t) (s.low a)):=by
 have I:=h.Vb;rw[hs,aaV]at I;obtain⟨hu,hc,b0⟩:=I;have e0:=(aaj.1 hc).1;have g0:s.on a=1:=(h.Aa a).2 (by rw[hs];simp);have hC: ∀x,x∈a::t↔(s.on x=1∧s.low a<=s.low x):=by
  intro x;constructor
  .intro d;refine⟨(h.Aa x).2 (by rw[hs];exact aal _ d),?_⟩;rcases Za.1 d with e|e
   .rw[e];exact aa3 _
   .have:=e0 x e;omega
  .rintro⟨D,F⟩;have:=(h.Aa x).1 D;rw[hs]at this;rcases Y6.1 this with g|g
   .have:=b0 x g a Y8;omega
   .exact g
 have Y:a∈a::t:=Y8;have j: ∀x,x∈a::t->(BT s u (a::t) (s.low a)).on x=2:=fun x d=>am d;have no: ∀x,x∉a::t->(BT s u (a::t) (s.low a)).on x=s.on x:=fun x d=>be d
 have J: ∀x,x∈a::t->pO succ x a:=by
  intro x d;obtain⟨D,F⟩:=(hC x).1 d;obtain⟨g,g1,g2,g3⟩:=h.up x D;refine g3.trans (h.dn g g1 a g0 ?_);rcases Y6.1 g1 with e|e
  .have:=S g e;omega
  .rw[Y4]at e;rw[e];exact aa3 _
 have G: ∀x,x∈a::t->pO succ a x:=by
  intro x d;obtain⟨D,F⟩:=(hC x).1 d;exact h.dn a (by simp) x D F
 have a0: ∀y,s.low y≠0->y∉path-> ∀z∈succ y,s.low z≠0:=by
  intro y A j0 z hz;by_cases e:y=a
  .rw[e]at hz;exact i0 z hz
  .exact h.aK y A (by rw[Y6,Y4];exact fun g=>g.elim j0 e) z hz
 refine⟨h.pD,h.inj,fun x=>?_,fun x=>?_,fun x=>?_,hu,fun x d b hb=>?_,fun g hg=>?_,fun y A=>?_,fun g hg y A f0=>?_,a0,fun x d=>?_,fun x y d A D F=>?_⟩
 .by_cases e:x∈a::t
  .rw[j x e];have:=xO h ((hC x).1 e).1;exact⟨fun g=>by omega,fun g=>absurd g this⟩
  .rw[no x e];exact h.Nl x
 .by_cases e:x∈a::t
  .exact .inr (.inr (j x e))
  .rw[no x e];exact h.IY x
 .show _↔x∈u;by_cases e:x∈a::t
  .rw[j x e];refine⟨fun g=>by omega,fun g=>?_⟩;have D:=b0 x g a Y;have F:=((hC x).1 e).2;omega
  .rw[no x e,h.Aa x,hs,Y6];exact⟨fun g=>g.elim id fun q=>absurd q e,.inl⟩
 .by_cases e:x∈a::t
  .obtain⟨D,F⟩:=(hC x).1 e;have c0:s.low b≠0:=a0 x (xO h D) (fun g=>by have:=S x g;omega) b hb;rcases h.IY b with g|g|g
   .exact absurd ((h.Nl b).1 g) c0
   .exact j b ((hC b).2 ⟨g,d0 x e b hb g⟩)
   .by_cases B:b∈a::t
    .exact j b B
    .rw[no b B];exact g
  .rw[no x e]at d;have g:=h.Qv x d b hb;by_cases B:b∈a::t
   .exact j b B
   .rw[no b B];exact g
 .have D:=h.Ua g (Zt _ hg);have F:=S g hg;rw[no g (fun e=>by have:=((hC g).1 e).2;omega)];exact D
 .by_cases e:y∈a::t
  .rw[j y e]at A;omega
  .rw[no y e]at A;obtain⟨g,g1,g2,g3⟩:=h.up y A;rcases Y6.1 g1 with q|q
   .exact⟨g,q,g2,g3⟩
   .rw[Y4]at q;rw[q]at g2;exact absurd ((hC y).2 ⟨A,g2⟩) e
 .by_cases e:y∈a::t
  .rw[j y e]at A;omega
  .rw[no y e]at A;exact h.dn g (Zt _ hg) y A f0
 .by_cases e:x∈a::t
  .exact⟨a,j a Y,(am e).symm,J x e,G x e⟩
  .rw[no x e]at d;obtain⟨r,r1,r2,r3⟩:=h.V5 x d;have B:r∉a::t:=fun g=>by have:=((hC r).1 g).1;omega
   refine⟨r,by rw[no r B];exact r1,?_,r3⟩;show s.low r=if x∈a::t then s.low a else s.ring x;rw[be e];exact r2
 .show(if x∈a::t then s.low a else s.ring x)=if y∈a::t then s.low a else s.ring y;by_cases e:x∈a::t
  .by_cases B:y∈a::t
   .rw[am e,am B]
   .rw[no y B]at A;have:=A7 h A F;have:=((hC x).1 e).1;omega
  .rw[no x e]at d;by_cases B:y∈a::t
   .have:=A7 h d D;have:=((hC y).1 B).1;omega
   .rw[no y B]at A;rw[be e,be B];exact h.cmp x y d A D F
theorem Jb{succ:α->List α}{path:List α}{s:St α}{a z:α}(h:Inv succ (path++ [a]) s)(d: ∀z∈succ a,s.low z≠0)(B:s.on z=1)(A:s.low z<s.low a)(hr:pO succ a z):Inv succ path s:=by
 refine⟨h.pD,h.inj,h.Nl,h.IY,h.Aa,h.Vb,h.Qv,fun g b=>h.Ua g (Zt _ b),fun y u=>?_,fun g b=>h.dn g (Zt _ b),fun y u x w j=>?_,h.V5,h.cmp⟩
 .obtain⟨g,g1,g2,g3⟩:=h.up y u;rcases Y6.1 g1 with q|q
  .exact⟨g,q,g2,g3⟩
  .rw[Y4]at q;subst q;obtain⟨k,k1,F,D⟩:=h.up z B;rcases Y6.1 k1 with q|q
   .exact⟨k,q,by omega,(g3.trans hr).trans D⟩
   .rw[Y4]at q;subst q;omega
 .by_cases e:y=a
  .rw[e]at j;exact d w j
  .exact h.aK y u (by rw[Y6,Y4];exact fun g=>g.elim x e) w j
def l0(V:List α)(s:St α):Nat:=(V.filter fun x=>li (s.low x=0)).length
theorem filter_le{β:Type}{p q:β->Bool}: ∀(l:List β),(∀x∈l,p x=kw->q x=kw)->(l.filter p).length<=(l.filter q).length
 | [],_=>YY _
 |x::r,h=>by
  have j:=filter_le r fun y d=>h y (Y7 _ d);have b:=h x Y8;rw[aan,aan];split
  .rename_i g;rw[am (b g)];simp only[Zr];omega
  .split
   .simp only[Zr];omega
   .exact j
theorem filter_lt{β:Type}{p q:β->Bool}{a:β}: ∀(l:List β),(∀x∈l,p x=kw->q x=kw)->a∈l->p a=lc->q a=kw->(l.filter p).length<(l.filter q).length
 | [],_,h,_,_=>nomatch h
 |x::r,h,ha,h1,h2=>by
  have d:=filter_le r fun y b=>h y (Y7 _ b);have j:=h x Y8;rw[aan,aan];rcases Za.1 ha with e|e
  .subst e;rw[h1,h2];simp only[aaq,if_false,if_true,Zr];omega
  .have u:=filter_lt r (fun y b=>h y (Y7 _ b)) e h1 h2;split
   .rename_i g;rw[am (j g)];simp only[Zr];omega
   .split
    .simp only[Zr];omega
    .exact u
theorem zy{β:Type}{V:List β}{s s':St β}(h:Le s s'):l0 V s'<=l0 V s:=
 filter_le V fun x _ b=>by
  refine decide_eq_true (Z8 fun g=>?_);have:=of_decide_eq_true b;rw[h.low x g]at this;exact g this
theorem ni{V:List α}{s:St α}{a:α}(hn: ∀x,0<=s.low x∧s.low x<=s.n)(ha:a∈V)(h0:s.low a=0):l0 V (push s a)<l0 V s:=by
 have la:(push s a).low a=(s.n:Int)+1:=l5 _ _ _;refine filter_lt V (fun x _ b=>?_) ha (decide_eq_false (by rw[la];omega)) (decide_eq_true h0);have:=of_decide_eq_true b;by_cases e:x=a
 .rw[e];exact decide_eq_true h0
 .refine decide_eq_true ?_;rwa[show(push s a).low x=s.low x from nH e]at this
structure gE (succ:α->List α) (path:List α) (a:α) (s0:St α) (done:List α) (q:Int×St α) (t:List α):Prop where
 inv:Inv succ (path++ [a]) q.2
 le:Le (push s0 a) q.2
 stack:q.2.stack=s0.stack++a::t
 new: ∀y∈t,s0.low y=0
 Uq:q.1<=(s0.n:Int)+1
 l1: ∀y∈t,∀z∈succ y,q.2.on z=1->q.1<=q.2.low z
 Wm: ∀z∈done,q.2.on z=1->q.1<=q.2.low z
 proc: ∀z∈done,q.2.low z≠0
 l2: ∃z,q.2.on z=1∧q.2.low z=q.1∧pO succ a z
section
variable {succ:α->List α} {path:List α} {a:α} {s0:St α} {done:List α} {q:Int×St α} {t:List α}
theorem gE.la(h:gE succ path a s0 done q t):q.2.low a=(s0.n:Int)+1:=by
 have e:(push s0 a).low a=(s0.n:Int)+1:=l5 _ _ _;rw[h.le.low a (by rw[e];omega),e]
theorem gE.pa(h:gE succ path a s0 done q t)(h0:Inv succ path s0)(ha:s0.low a=0): ∀g∈path,q.2.low g<q.2.low a:=by
 intro g j;have d:=h0.Ua g j;have b:=xO h0 d;have e:(push s0 a).low g=s0.low g:=nH fun e=>b (by rw[e];exact ha);rw[h.la,h.le.low g (by rw[e];exact b),e];have:=h0.pD g;omega
theorem gE.at_(h:gE succ path a s0 done q t):a∉t:=fun g=>by
 have:=h.inv.Vb;rw[h.stack,aaV]at this;have:=(aaj.1 this.2.1).1 a g;omega
theorem gE.step{V:List α}{j:α->St α->Int×St α}{f:Nat}(hV: ∀a∈V,∀b∈succ a,b∈V)
  (ih: ∀(path:List α) (b:α) (s:St α),Inv succ path s->s.low b=0->b∈V->(∀g∈path,pO succ g b)->l0 V s<=f-> ∃t,U5 succ path b s (j b s).1 (j b s).2 t)
  (h:gE succ path a s0 done q t) (h0:Inv succ path s0) (ha:s0.low a=0) (Y:a∈V) {b:α} (hb:b∈succ a) (hw:l0 V q.2<=f): ∃t',gE succ path a s0 (done++ [b]) (fD j q b) t':=by
 have g0:=h.la;have d0:=h.pa h0 ha;have a0:=h.at_;have c0:q.2.on a=1:=(h.inv.Aa a).2 (by rw[h.stack];simp);unfold fD;by_cases F:q.2.low b=0
 .rw[am F];have I: ∀g∈path++ [a],pO succ g b:=by
   intro g hg;refine .step (h.inv.dn g hg a c0 ?_) hb;rcases Y6.1 hg with e|e
   .have:=d0 g e;omega
   .rw[Y4]at e;rw[e];exact aa3 _
  obtain⟨tb,u⟩:=ih (path++ [a]) b q.2 h.inv F (hV a Y b hb) I hw;generalize j b q.2=w at u ⊢;obtain⟨G,s'⟩:=w;have B: ∀z,q.2.on z=1->s'.on z=1:=fun z d=>(u.inv.Aa z).2 (by rw[u.stack];exact Zt _ ((h.inv.Aa z).1 d));have j0:=h.le.n;have i0:(push s0 a).n=s0.n+1:=rfl;refine⟨t++tb,u.inv,h.le.trans u.le,?_,fun y J=>?_,?_,fun y J z d D=>?_,fun z d D=>?_,fun z d=>?_,?_⟩
  .show s'.stack=_;rw[u.stack,h.stack];simp
  .rcases Y6.1 J with g|g
   .exact h.new y g
   .refine Z8 fun hc=>?_
    have e:(push s0 a).low y=s0.low y:=nH fun e=>hc (by rw[e];exact ha);have:=h.le.low y (by rw[e];exact hc);rw[u.new y g,e]at this;exact hc this.symm
  .have:=h.Uq;show min q.1 G<=_;omega
  .show min q.1 G<=s'.low z;rcases Y6.1 J with g|g
   .have f0:q.2.on y=1:=(h.inv.Aa y).2 (by rw[h.stack];simp[g]);have e0:y∉path++ [a]:=by
     rw[Y6,Y4];rintro(e|e)
     .have h1:=xO h0 (h0.Ua y e);exact h1 (h.new y g)
     .rw[e]at g;exact a0 g
    have x:=h.inv.aK y (xO h.inv f0) e0 z d;have A:=K8 h.inv u.le x D;have:=h.l1 y g z d A;rw[u.le.low z x];omega
   .have:G<=s'.low z:=u.l1 y g z d D;omega
  .show min q.1 G<=s'.low z;rcases Y6.1 d with g|g
   .have x:=h.proc z g;have:=h.Wm z g (K8 h.inv u.le x D);rw[u.le.low z x];omega
   .rw[Y4]at g;subst g;have:G<=s'.low z:=u.Uq;omega
  .show s'.low z≠0;rcases Y6.1 d with g|g
   .have x:=h.proc z g;rw[u.le.low z x];exact x
   .rw[Y4]at g;subst g;have:(q.2.n:Int)<s'.low z:=u.at_;omega
  .obtain⟨z,S,z2,z3⟩:=h.l2;by_cases b0:q.1<=G
   .exact⟨z,B z S,by show s'.low z=min q.1 G;rw[u.le.low z (xO h.inv S)];omega,z3⟩
   .rcases u.l2 with⟨_,g⟩|⟨w,w1,w2,w3⟩
    .have h1:G=s'.low b:=g;have h2:(q.2.n:Int)<s'.low b:=u.at_;have h3:=h.Uq;omega
    .have w2:s'.low w=G:=w2;exact⟨w,B w ((h.inv.Aa w).2 w1),by show s'.low w=min q.1 G;omega,(pO.one hb).trans w3⟩
 .rw[be F];by_cases A:q.2.on b=1
  .rw[am A];refine⟨t,h.inv,h.le,h.stack,h.new,?_,fun y J z d D=>?_,fun z d D=>?_,fun z d=>?_,?_⟩
   .have:=h.Uq;show min q.1 (q.2.low b)<=_;omega
   .have:=h.l1 y J z d D;show min q.1 (q.2.low b)<=q.2.low z;omega
   .show min q.1 (q.2.low b)<=q.2.low z;rcases Y6.1 d with g|g
    .have:=h.Wm z g D;omega
    .rw[Y4]at g;subst g;omega
   .rcases Y6.1 d with g|g
    .exact h.proc z g
    .rw[Y4]at g;subst g;exact F
   .obtain⟨z,S,z2,z3⟩:=h.l2;by_cases b0:q.1<=q.2.low b
    .exact⟨z,S,by show q.2.low z=min q.1 (q.2.low b);omega,z3⟩
    .exact⟨b,A,by show q.2.low b=min q.1 (q.2.low b);omega,.one hb⟩
  .rw[be A];refine⟨t,h.inv,h.le,h.stack,h.new,h.Uq,h.l1,fun z d D=>?_,fun z d=>?_,h.l2⟩
   .rcases Y6.1 d with g|g
    .exact h.Wm z g D
    .rw[Y4]at g;subst g;exact absurd D A
   .rcases Y6.1 d with g|g
    .exact h.proc z g
    .rw[Y4]at g;subst g;exact F
end
theorem vm{succ:α->List α}{path:List α}{a:α}{s0:St α}{V:List α}{d:α->St α->Int×St α}{f:Nat}(hV: ∀a∈V,∀b∈succ a,b∈V)
  (A: ∀(path:List α) (b:α) (s:St α),Inv succ path s->s.low b=0->b∈V->(∀g∈path,pO succ g b)->l0 V s<=f-> ∃t,U5 succ path b s (d b s).1 (d b s).2 t)
  (h0:Inv succ path s0) (ha:s0.low a=0) (j:a∈V) (u:l0 V (push s0 a)<=f):
  ∀(l done:List α) (q:Int×St α) (t:List α),gE succ path a s0 done q t->(∀b∈l,b∈succ a)-> ∃F,gE succ path a s0 (done++l) (l.foldl (fD d) q) F
 | [],done,q,t,h,_=>⟨t,by rw[Zv];exact h⟩
 |b::l,done,q,t,h,hl=>by
  obtain⟨t1,B⟩:=h.step hV A h0 ha j (hl b Y8) (ZI (zy h.le) u);obtain⟨t2,y⟩:=vm hV A h0 ha j u l (done++ [b]) _ t1 B fun x D=>hl x (Y7 _ D);exact⟨t2,by rw[Y3]at y;exact y⟩
theorem sD{succ:α->List α}{V:List α}(hV: ∀a∈V,∀b∈succ a,b∈V): ∀(f:Nat) (path:List α) (a:α) (s:St α),Inv succ path s->s.low a=0->a∈V->(∀g∈path,pO succ g a)->l0 V s<=f-> ∃t,U5 succ path a s (fm succ f a s).1 (fm succ f a s).2 t
 |0,path,a,s,h,ha,haV,_,hw=>by
  have:=ni h.pD haV ha;omega
 |f+1,path,a,s,h,ha,haV,hp,hw=>by
  have c0:=ni h.pD haV ha;have hi:=DC h ha hp;have la:(push s a).low a=(s.n:Int)+1:=l5 _ _ _;have oa:(push s a).on a=1:=l5 _ _ _;have I:gE succ path a s [] ((s.n:Int)+1,push s a) []:=
   ⟨hi,.refl _,rfl,fun y j=>(nomatch j),aa3 _,fun y j=>(nomatch j),fun z B=>(nomatch B),fun z B=>(nomatch B),⟨a,oa,la,.refl _⟩⟩
  obtain⟨t,d⟩:=vm hV (fun p b s'=>sD hV f p b s') h ha haV (by omega) (succ a) [] _ [] I fun b hb=>hb;rw[aaw]at d;rw[fm];generalize(succ a).foldl (fD (fm succ f)) ((s.n:Int)+1,push s a)=q at d ⊢;have D:=d.la;have a0:=d.pa h ha;have J:=d.at_;have Y:q.2.on a=1:=(d.inv.Aa a).2 (by rw[d.stack];simp);have u:Le s q.2:=(PO h ha).trans d.le;unfold wJ;by_cases S:q.1=(s.n:Int)+1
  .rw[am S,vc (by rw[d.stack];simp;omega) d.stack J Y,<-D];refine⟨[],PQ d.inv d.stack a0 d.proc fun y j z B F=>?_,⟨u.low,fun x hx=>?_,u.n⟩,by rw[Zv];rfl,fun y j=>(nomatch j),?_,?_,fun y j=>(nomatch j),.inl ⟨am Y8,?_⟩⟩
   .rw[D,<-S];rcases Za.1 j with e|e
    .rw[e]at B;exact d.Wm z B F
    .exact d.l1 y e z B F
   .show(if x∈a::t then(2:Int) else q.2.on x)=2;split
    .rfl
    .exact u.Qv x hx
   .show(s.n:Int)<q.2.low a;omega
   .show q.1<=q.2.low a;omega
   .show q.1=q.2.low a;omega
  .rw[be S];have b0:q.1<q.2.low a:=by have:=d.Uq;omega
   obtain⟨z,z1,z2,z3⟩:=d.l2;have G:=d.inv.Vb;rw[d.stack,aaV]at G;refine⟨a::t,Jb d.inv d.proc z1 (by omega) z3,u,d.stack,fun y j=>?_,by omega,by omega,fun y j w A F=>?_,.inr ⟨z,?_,z2,z3⟩⟩
   .rcases Za.1 j with e|e
    .rw[e];exact ha
    .exact d.new y e
   .rcases Za.1 j with e|e
    .rw[e]at A;exact d.Wm w A F
    .exact d.l1 y e w A F
   .have:=(d.inv.Aa z).1 z1;rw[d.stack]at this;rcases Y6.1 this with g|g
    .exact g
    .rcases Za.1 g with e|e
     .rw[e]at z2;omega
     .have:=(aaj.1 G.2.1).1 z e;omega
theorem SC{β:Type}(succ:β->List β):Inv succ [] (St.o:St β):=
 ⟨fun _=>⟨aa3 _,aa3 _⟩,fun _ _ _ h=>absurd Z h,fun _=>Iff.rfl,fun _=> .inl Z,fun _=>⟨fun h=>(nomatch h),fun h=>(nomatch h)⟩,.nil,fun _ h=>(nomatch h),fun _ h=>(nomatch h),fun _ h=>(nomatch h),fun _ h=>(nomatch h),fun _ h=>absurd Z h,fun _ h=>(nomatch h),fun _ _ h=>(nomatch h)⟩
theorem u0{succ:α->List α}{V:List α}(hV: ∀a∈V,∀b∈succ a,b∈V){f:Nat}(hf:V.length<=f): ∀(l:List α) (s:St α),(∀a∈l,a∈V)->Inv succ [] s->Inv succ [] (jm succ f l s)∧(∀x,s.low x≠0->(jm succ f l s).low x≠0)∧ ∀a∈l,(jm succ f l s).low a≠0
 | [],s,_,h=>⟨h,fun _ d=>d,fun _ j=>(nomatch j)⟩
 |b::l,s,hl,h=>by
  have key: ∃s',(if s.low b=0 then(fm succ f b s).2 else s)=s'∧Inv succ [] s'∧(∀x,s.low x≠0->s'.low x≠0)∧s'.low b≠0:=by
   by_cases e:s.low b=0
   .obtain⟨t,u⟩:=sD hV f [] b s h e (hl b Y8) (fun g A=>nomatch A) (ZI (Z4 _ _) hf);refine⟨_,am e,u.inv,fun x d=>by rw[u.le.low x d];exact d,?_⟩;have:=u.at_;omega
   .exact⟨s,be e,h,fun _ d=>d,e⟩
  obtain⟨s',e,k1,B,D⟩:=key;obtain⟨i1,i2,i3⟩:=u0 hV hf l s' (fun a j=>hl a (Y7 _ j)) k1;have y:jm succ f (b::l) s=jm succ f l s':=by
   show jm succ f l (if s.low b=0 then(fm succ f b s).2 else s)=_;rw[e]
  rw[y];refine⟨i1,fun x d=>i2 x (B x d),fun a j=>?_⟩;rcases Za.1 j with q|q
  .rw[q];exact i2 b D
  .exact i3 a q
theorem IJ{succ:α->List α}{V:List α}(hV: ∀a∈V,∀b∈succ a,b∈V){f:Nat}(hf:V.length<=f){a b:α}(ha:a∈V)(hb:b∈V):
  (jm succ f V St.o).ring a=(jm succ f V St.o).ring b↔pO succ a b∧pO succ b a:=by
 obtain⟨h,_,u⟩:=u0 hV hf V St.o (fun _ h=>h) (SC succ);generalize jm succ f V St.o=s at h u ⊢;have d: ∀x∈V,s.on x=2:=by
  intro x y;rcases h.IY x with g|g|g
  .exact absurd ((h.Nl x).1 g) (u x y)
  .obtain⟨k,k1,_⟩:=h.up x g;exact nomatch k1
  .exact g
 constructor
 .intro e;obtain⟨r,J,S,D,F⟩:=h.V5 a (d a ha);obtain⟨q,G,I,A,B⟩:=h.V5 b (d b hb);have j:s.low r≠0:=fun g=>by have:=(h.Nl r).2 g;omega
  have:r=q:=h.inj r q (by omega) j;subst this;exact⟨D.trans B,A.trans F⟩
 .rintro⟨h1,h2⟩;exact h.cmp a b (d a ha) (d b hb) h1 h2
end
end
end
end Go.Tj
namespace Go.Wa
section
inductive y6 (R:Nat->Nat->Prop):Nat->Nat->Prop
 |refl (a:Nat):y6 R a a
 |step {a b c:Nat} (h:R a b) (t:y6 R b c):y6 R a c
theorem y6.trans{R:Nat->Nat->Prop}{a b c:Nat}(h:y6 R a b)(k:y6 R b c):y6 R a c:=by
 induction h with
 |refl=>exact k
 |step h _ ih=>exact .step h (ih k)
def W(E:Nat->Nat->Bool):Nat->Nat->Nat->Bool
 |0,a,b=>E a b||a==b
 |m+1,a,b=>W E m a b||(W E m a m&&W E m m b)
variable {E:Nat->Nat->Bool}
theorem W.mono(m a b:Nat)(h:W E m a b=kw):W E (m+1) a b=kw:=by simp[W,h]
theorem W.SE{m k a b:Nat}(d:m<=k)(h:W E m a b=kw):W E k a b=kw:=by
 induction d with
 |refl=>exact h
 |step _ ih=>exact W.mono _ _ _ ih
theorem W.self(m a:Nat):W E m a a=kw:=W.SE (YZ m) (by simp[W])
theorem W.trans: ∀(m a k b:Nat),k<m->W E m a k=kw->W E m k b=kw->W E m a b=kw
 |m+1,a,k,b,hk,d,j=>by
  simp only[W,aac,Zf]at d j ⊢;by_cases A:k=m
  .subst A;have B:W E k a k=kw:=by rcases d with h|h;exact h;exact h.1
   have D:W E k k b=kw:=by rcases j with h|h;exact h;exact h.2
   exact .inr ⟨B,D⟩
  .have u:k<m:=by omega
   rcases d with d|⟨d,y⟩<;>rcases j with j|⟨j,x⟩
   .exact .inl (W.trans m a k b u d j)
   .exact .inr ⟨W.trans m a k m u d j,x⟩
   .exact .inr ⟨d,W.trans m m k b u y j⟩
   .exact .inr ⟨d,x⟩
theorem W.sound: ∀(m a b:Nat),W E m a b=kw->y6 (fun a b=>E a b=kw) a b
 |0,a,b,h=>by
  simp only[W,aac,beq_iff_eq]at h;rcases h with h|h
  .exact .step h (.refl _)
  .subst h;exact .refl _
 |m+1,a,b,h=>by
  simp only[W,aac,Zf]at h;rcases h with h|⟨d,j⟩
  .exact W.sound m a b h
  .exact(W.sound m a m d).trans (W.sound m m b j)
theorem W.iff{n:Nat}(hE: ∀a b,a<n->E a b=kw->b<n){a b:Nat}(ha:a<n):W E n a b=kw↔y6 (fun a b=>E a b=kw) a b:=by
 refine⟨W.sound n a b,fun h=>?_⟩
 induction h with
 |refl a=>exact W.self n a
 |step h _ ih=>
  have hb:=hE _ _ ha h;exact W.trans n _ _ _ hb (W.SE (YZ n) (by simp[W,h])) (ih hb)
def V(E:Nat->Nat->Bool)(m a b x y:Nat):Bool:=if x<a∨x=a∧y<b then W E (m+1) x y else W E m x y
theorem V.zr(m a b x:Nat):V E m a b x m=W E m x m:=by
 unfold V;split
 .simp only[W];cases W E m x m<;>simp
 .rfl
theorem V.row(m a b y:Nat):V E m a b m y=W E m m y:=by
 unfold V;split
 .simp only[W];cases W E m m y<;>simp
 .rfl
theorem V.here(m a b:Nat):V E m a b a b=W E m a b:=by unfold V;rw[be (by omega)]
theorem V.next(m a b x y:Nat):V E m a (b+1) x y=if x=a∧y=b then(V E m a b x y||(V E m a b a m&&V E m a b m b)) else V E m a b x y:=by
 by_cases h:x=a∧y=b
 .obtain⟨rfl,rfl⟩:=h;rw[am ⟨rfl,rfl⟩,V.zr,V.row,V.here];unfold V;rw[am (by omega)];rfl
 .rw[be h];unfold V;by_cases d:x<a∨x=a∧y<b
  .rw[am d,am (by omega)]
  .rw[be d,be (by omega)]
theorem V.line(m a n x y:Nat)(b:y<n):V E m a n x y=V E m (a+1) 0 x y:=by
 unfold V;by_cases h:x<a∨x=a∧y<n
 .rw[am h,am (by omega)]
 .rw[be h,be (by omega)]
theorem V.zero(m x y:Nat):V E m 0 0 x y=W E m x y:=by unfold V;rw[be (by omega)]
theorem V.full(m n x y:Nat)(b:x<n):V E m n 0 x y=W E (m+1) x y:=by unfold V;rw[am (.inl b)]
end
end Go.Wa
namespace Go.Co
section
section
variable {n:Nat} {rR:Nat->Nat->Bool} {e:Nat->Nat->Bool}
structure Far (n:Nat) (e rR:Nat->Nat->Bool):Prop where
 refl: ∀a,a<n->rR a a=kw
 trans: ∀a b c,rR a b=kw->rR b c=kw->rR a c=kw
 XE: ∀a b,a<n->e a b=kw->rR a b=kw
 lt: ∀a b,a<n->rR a b=kw->b<n
 elt: ∀a b,a<n->e a b=kw->b<n
 split: ∀a b (p:Nat->Prop),a<n->rR a b=kw->p a-> ¬p b-> ∃x y,x<n∧rR a x=kw∧p x∧e x y=kw∧ ¬p y∧rR y b=kw
def closed(n:Nat)(rR:Nat->Nat->Bool)(done:Nat->Bool):Prop:= ∀a b,a<n->done a=kw->rR a b=kw->done b=kw
def cls(rR:Nat->Nat->Bool)(a b:Nat):Bool:=rR a b&&rR b a
end
end
end Go.Co
namespace Go.Rg
open Go.Wa Go.Co Go.Tj
section
section
variable {α:Type} [Inhabited α]
def ed(V:List α)(g:α->α->Bool)(i j:Nat):Bool:=li (i<V.length)&&li (j<V.length)&&g (V.getD i em) (V.getD j em)
def rR(V:List α)(g:α->α->Bool):Nat->Nat->Bool:=W (ed V g) V.length
theorem Cx{V:List α}{g:α->α->Bool}{i j:Nat}:ed V g i j=kw↔i<V.length∧j<V.length∧g (V.getD i em) (V.getD j em)=kw:=by
 simp[ed,and_assoc]
theorem ru{V:List α}{a:α}(h:a∈V): ∃i,i<V.length∧V.getD i em=a:=by
 obtain⟨i,b,rfl⟩:=Z0.1 h;exact⟨i,b,by simp[YR,b]⟩
theorem get_mem{V:List α}{i:Nat}(h:i<V.length):V.getD i em∈V:=by
 rw[YR,YU h];exact Zz h
theorem Gy{V:List α}(hn:V.Nodup){g:α->α->Bool}{succ:α->List α}(hs: ∀a∈V,∀b,b∈succ a↔b∈V∧g a b=kw){i j:Nat}(hi:i<V.length)(hj:j<V.length):
  rR V g i j=kw↔pO succ (V.getD i em) (V.getD j em):=by
 have B: ∀{x y:Nat},x<V.length->y<V.length->V.getD x em=V.getD y em->x=y:=by
  intro x y D d h;rw[YR,YR,YU D,YU d]at h;exact(abo hn).1 h
 rw[rR,W.iff (n:=V.length) (fun a b _ h=>(Cx.1 h).2.1) hi];constructor
 .intro h;clear hj;have: ∀{a b:Nat},y6 (fun a b=>ed V g a b=kw) a b->pO succ (V.getD a em) (V.getD b em):=by
   intro a b h
   induction h with
   |refl a=>exact .refl _
   |step h _ ih=>
    obtain⟨u,A,F⟩:=Cx.1 h;exact(pO.step (.refl _) ((hs _ (get_mem u) _).2 ⟨get_mem A,F⟩)).trans ih
  exact this h
 .intro h;have key: ∀{a b:α},pO succ a b-> ∀x,x<V.length->V.getD x em=a-> ∃y,y<V.length∧V.getD y em=b∧y6 (fun a b=>ed V g a b=kw) x y:=by
   intro a b h
   induction h with
   |refl=>exact fun x D G=>⟨x,D,G,.refl _⟩
   |step _ hc ih=>
    intro x D G;obtain⟨y,d,u,A⟩:=ih x D G;subst u;obtain⟨F,J⟩:=(hs _ (get_mem d) _).1 hc;obtain⟨z,I,rfl⟩:=ru F;exact⟨z,I,rfl,A.trans (.step (Cx.2 ⟨d,I,J⟩) (.refl _))⟩
  obtain⟨y,d,u,A⟩:=key h i hi Z;have:=B d hj u;subst this;exact A
def y9(V:List α)(g:α->α->Bool)(ring:α->Int):Prop:= ∀i j,i<V.length->j<V.length->(ring (V.getD i em)=ring (V.getD j em)↔rR V g i j=kw∧rR V g j i=kw)
theorem KR[DecidableEq α]{V:List α}(hn:V.Nodup){g:α->α->Bool}{succ:α->List α}(hs: ∀a∈V,∀b,b∈succ a↔b∈V∧g a b=kw){f:Nat}(hf:V.length<=f):y9 V g (jm succ f V St.o).ring:=by
 intro i j d u;rw[IJ (fun a x b hb=>((hs a x b).1 hb).1) hf (get_mem d) (get_mem u),Gy hn hs d u,Gy hn hs u d]
def Wy(V:List α)(succ:α->List α)(ring:α->Int)(D:Int->Bool)(a:α):Bool:=(V.filter fun b=>li (ring b=ring a)).all fun b=>(succ b).all fun c=>li (ring c=ring a)||D (ring c)
def Gg(V:List α)(succ:α->List α)(ring:α->Int):Nat->(Int->Bool)->List (List α)
 |0,_=> []
 |f+1,D=>match V.find? (fun a=>!D (ring a)&&Wy V succ ring D a) with
  |none=> []
  |some a=>(V.filter fun b=>li (ring b=ring a))::Gg V succ ring f (fun x=>li (x=ring a)||D x)
end
end
end Go.Rg
namespace Go.Lv
section
variable (e s:Nat->Nat->Bool)
def wt(a b:Nat):Nat:=if s a b then 1 else 0
inductive U3:Nat->Nat->Nat->Prop
 |nil (a:Nat):U3 a 0 0
 |cons {a b k w:Nat} (h:e a b=kw) (t:U3 b k w):U3 a (k+1) (w+wt s a b)
def rx(h:Nat->Nat)(a b:Nat):Nat->Nat:=if e a b=kw∧h a<h b+wt s a b then fun x=>if x=a then h b+wt s a b else h x else h
def row(h:Nat->Nat)(a:Nat):Nat->(Nat->Nat)
 |0=>h
 |b+1=>rx e s (row h a b) a b
variable {e s}
end
end Go.Lv
namespace Go.Le
open Go.Co Go.Lv
section
variable {n:Nat} {e s rR:Nat->Nat->Bool}
structure Xf (n:Nat) (e s rR:Nat->Nat->Bool) (done:Nat->Bool) (h:Nat->Nat):Prop where
 cl:closed n rR done
 zero: ∀x,done x=lc->h x=0
 XE: ∀a b,a<n->done a=kw->e a b=kw->h b+wt s a b<=h a
 ground: ∀S:Nat->Bool,(∃a,a<n∧done a=kw∧S a=lc)-> ∃x,x<n∧done x=kw∧S x=lc∧(h x=0∨ ∃y,y<n∧S y=kw∧e x y=kw∧h x<=h y+wt s x y)
theorem Xf.nil(n:Nat)(e s rR:Nat->Nat->Bool):Xf n e s rR (fun _=>lc) (fun _=>0):=
 ⟨fun _ _ _ h=>(nomatch h),fun _ _=>rfl,fun _ _ _ h=>(nomatch h),fun _ ⟨_,_,h,_⟩=>(nomatch h)⟩
end
end Go.Le
namespace Go.Or
open Go.Co Go.Lv Go.Le
section
variable {n:Nat} {e s rR:Nat->Nat->Bool}
structure YL (n:Nat) (rR:Nat->Nat->Bool) (done:Nat->Bool) (cs:List (List Nat)) (x i:Nat) (c:List Nat):Prop where
 at_:cs[i]? =io c
 mem:x∈c
 one: ∀(j:Nat) (c':List Nat),cs[j]? =io c'->x∈c'->j=i
 cl: ∀y,y∈c↔y<n∧cls rR x y=kw
 low: ∀y,y<n->rR x y=kw->done y=kw∨ ∃j c',j<=i∧cs[j]? =io c'∧y∈c'
end
end Go.Or
namespace Go.Proofs.YtflegjieadkonaaGreatDoor
open Go Go.Al
mutual
def named:Lit->List aj
 | .mk k a _ _ _ _ _ _ b _=>if k=1∨k=2 then[a.rel] else if k=4 then js b else[]
def js:List Lit->List aj
 | []=> []
 |l::r=>named l++js r
end
def B3(l:Lit):List aj:=if l.kind=1∨l.kind=2 then[l.atom.rel] else if l.kind=4 then(l.ar.filter fun x=>li (x.kind=1∨x.kind=2)).map fun x=>x.atom.rel else[]
theorem ql: ∀l:List Lit,js l=l.flatMap named
 | []=>rfl
 |x::r=>by simp only[js,ZF,ql r]
theorem Aw: ∀(b:List Lit),(∀x∈b,x.kind≠4)->js b=(b.filter fun x=>li (x.kind=1∨x.kind=2)).map fun x=>x.atom.rel
 | [],_=>rfl
 | .mk k' a' op' le' ri' af' av' ao' b' at'::b,h=>by
  have j:k'≠4:=h (.mk k' a' op' le' ri' af' av' ao' b' at') (Y8 ..);rw[js,Aw b fun y u=>h y (Y7 _ u),aan];by_cases d:k'=1∨k'=2
  .have:li ((Lit.mk k' a' op' le' ri' af' av' ao' b' at').kind=1∨(Lit.mk k' a' op' le' ri' af' av' ao' b' at').kind=2)=kw:=decide_eq_true d;rw[this,named,am d];rfl
  .have:li ((Lit.mk k' a' op' le' ri' af' av' ao' b' at').kind=1∨(Lit.mk k' a' op' le' ri' af' av' ao' b' at').kind=2)=lc:=decide_eq_false d;rw[this,named,be d,be j];rfl
theorem xZ(l:Lit)(h:l.kind=4-> ∀x∈l.ar,x.kind≠4):named l=B3 l:=by
 obtain⟨k,a,op,le,A,j,y,u,b,at_⟩:=l;show(if k=1∨k=2 then[a.rel] else if k=4 then js b else[])=if k=1∨k=2 then[a.rel] else if k=4 then(b.filter fun x=>li (x.kind=1∨x.kind=2)).map fun x=>x.atom.rel else[];by_cases d:k=4
 .rw[Aw b (h d)]
 .rw[be d,be d]
def gu(l:Lit):Nat:=if l.kind=1 then 1 else 2
def c4(p:Prog):List (aj×aj×Nat):=p.rules.flatMap fun r=>r.body.flatMap fun l=>(named l).map fun t=>(r.head.rel,t,gu l)
def gD(hs:List (aj×aj×Nat))(a b:aj):Nat:=hs.foldl (fun m x=>if x.1=a∧x.2.1=b then max m x.2.2 else m) 0
theorem HJ(hs:List (aj×aj×Nat))(x:aj×aj×Nat)(a b:aj):gD (hs++ [x]) a b=if x.1=a∧x.2.1=b then max (gD hs a b) x.2.2 else gD hs a b:=by
 simp[gD,aao]
theorem Cs(a b:aj): ∀(hs:List (aj×aj×Nat)) (m:Nat),m<=hs.foldl (fun m x=>if x.1=a∧x.2.1=b then max m x.2.2 else m) m∧(∀k,(a,b,k)∈hs->k<=hs.foldl (fun m x=>if x.1=a∧x.2.1=b then max m x.2.2 else m) m)∧
  (hs.foldl (fun m x=>if x.1=a∧x.2.1=b then max m x.2.2 else m) m=m∨(a,b,hs.foldl (fun m x=>if x.1=a∧x.2.1=b then max m x.2.2 else m) m)∈hs)
 | [],m=>⟨YY _,fun _ h=>(nomatch h),.inl Z⟩
 |(x,y,k)::hs,m=>by
  obtain⟨j,u,h3⟩:=Cs a b hs (if x=a∧y=b then max m k else m);rw[Zn];refine⟨ZI ?_ j,fun B A=>?_,?_⟩
  .split<;>omega
  .rcases Za.1 A with h|h
   .cases h;refine ZI ?_ j;rw[am ⟨rfl,rfl⟩];exact Nat.le_max_right _ _
   .exact u B h
  .rcases h3 with h3|h3
   .by_cases d:x=a∧y=b
    .rw[am d]at h3;rcases Nat.le_total m k with h4|h4
     .right;rw[ace h4]at h3;obtain⟨rfl,rfl⟩:=d;simp only[and_self,if_true,ace h4]at h3 ⊢;rw[h3];simp
     .left;rw[Nat.max_eq_left h4]at h3;simp only[d,and_self,if_true,Nat.max_eq_left h4]at h3 ⊢;exact h3
    .rw[be d]at h3;left;simp only[be d];exact h3
   .exact .inr (Y7 _ h3)
theorem Wx{hs:List (aj×aj×Nat)}{a b:aj}{k:Nat}(h:(a,b,k)∈hs):k<=gD hs a b:=(Cs a b hs 0).2.1 k h
theorem SN(hs:List (aj×aj×Nat))(a b:aj):gD hs a b=0∨(a,b,gD hs a b)∈hs:=(Cs a b hs 0).2.2
theorem Hw(l:Lit):gu l<=2:=by unfold gu;split<;>omega
def ns(p:Prog):List aj:=eN (p.aD.map Decl.name)
theorem pF: ∀(l a:List aj),pR a->pR (l.foldl ins a)
 | [],_,h=>h
 |x::l,a,h=>pF l (ins a x) (tj h x)
theorem uw{x:aj}: ∀(l a:List aj),x∈l.foldl ins a↔x∈a∨x∈l
 | [],a=>by simp
 |y::l,a=>by rw[Zn,uw l,wY,Za,or_assoc]
theorem I3{p:Prog}(h:(p.aD.map Decl.name).Nodup):(p.aD.map Decl.name).foldl ins []=ns p:=
 me (pF _ _ aaC) (fL h) fun x=>by rw[uw,ns,gn];simp
theorem pR.Lg{l:List aj}(h:pR l):l.Nodup:=by
 refine ab9 ?_ h;intro a b d e;subst e;exact ku _ d
def eg(p:Prog)(a b:aj):Bool:=li (gD (c4 p) a b≠0)
def jP(p:Prog):Nat->Nat->Bool:=Go.Rg.rR (ns p) (eg p)
theorem KS{p:Prog}(hn:(p.aD.map Decl.name).Nodup){f:Nat}(hf:(ns p).length<=f):Go.Rg.y9 (ns p) (eg p) (Go.Tj.jm (fun a=>(ns p).filter (eg p a)) f (ns p) Go.Tj.St.o).ring:=
 Go.Rg.KR (V:=ns p) (pR.Lg (fL hn)) (fun a _ b=>by rw[Zw]) hf
def ringEq(p:Prog)(a b:aj):Bool:=(Zg (ns p).length).any fun i=>(Zg (ns p).length).any fun j=>li ((ns p).getD i em=a)&&li ((ns p).getD j em=b)&&Go.Co.cls (jP p) i j
theorem xK{p:Prog}{a b:aj}:ringEq p a b=kw↔ ∃i j,i<(ns p).length∧j<(ns p).length∧(ns p).getD i em=a∧(ns p).getD j em=b∧jP p i j=kw∧jP p j i=kw:=by
 simp only[ringEq,ZG,ZY,Zf,decide_eq_true_eq,Go.Co.cls];constructor
 .rintro⟨i,hi,j,hj,⟨h1,h2⟩,h3,h4⟩;exact⟨i,j,hi,hj,h1,h2,h3,h4⟩
 .rintro⟨i,j,hi,hj,h1,h2,h3,h4⟩;exact⟨i,hi,j,hj,⟨h1,h2⟩,h3,h4⟩
theorem vM{p:Prog}{ring:aj->Int}(hr:Go.Rg.y9 (ns p) (eg p) ring){a b:aj}(ha:a∈ns p)(hb:b∈ns p):ringEq p a b=li (ring a=ring b):=by
 rw[ZE,xK,decide_eq_true_eq];constructor
 .rintro⟨i,j,d,u,rfl,rfl,x,y⟩;exact(hr i j d u).2 ⟨x,y⟩
 .intro h;obtain⟨i,d,rfl⟩:=Go.Rg.ru ha;obtain⟨j,u,rfl⟩:=Go.Rg.ru hb;obtain⟨x,y⟩:=(hr i j d u).1 h;exact⟨i,j,d,u,rfl,rfl,x,y⟩
def nL(p:Prog)(r:ae):Bool:=r.body.any fun l=>li (l.kind=1)&&ringEq p l.atom.rel r.head.rel
def rf(p:Prog)(r:ae):Option Lit:=r.body.find? fun l=>li (l.kind≠1)&&(named l).any fun t=>ringEq p t r.head.rel
def iK(r:ae):Bool:=r.head.ad.any fun t=>li (t.kind=1)&&!aE (fN r) t.var
def gJ(p:Prog)(r:ae):aY:=match rf p r with
 |some l=>(70,l.at)
 |none=>if iK r=kw∧nL p r=kw then(71,r.at_) else aY.z
def dT(p:Prog):aY:=if(dy p).1≠0 then dy p else((p.rules.map (gJ p)).find? fun d=>li (d.1≠0)).getD aY.z
end Go.Proofs.YtflegjieadkonaaGreatDoor
namespace Go.Re
open Go.Tj
section
variable {α:Type}
structure Mid (succ:α->List α) (S T:α->Prop) (a:α) (l:List α):Prop where
 V9: ∀x,S x->T x
 here:T a
 new: ∀x,T x->S x∨pO succ a x
 next: ∀x,T x->S x∨x=a∨ ∀y∈succ x,T y
 done: ∀y∈l,T y
structure Top (succ:α->List α) (V:α->Prop) (T:α->Prop) (l:List α):Prop where
 new: ∀x,T x-> ∃r∈l,V r∧pO succ r x
 next: ∀x,T x-> ∀y∈succ x,T y
 done: ∀r∈l,V r->T r
end
end Go.Re
namespace Go.Proofs.YtflegjieadkonaaGreatDoor
open Go Go.Al
structure nf (p:Prog):Prop where
 nodup:(p.aD.map Decl.name).Nodup
 len:p.aD.length<=64
 yj: ∀r∈p.rules,r.head.rel∈p.aD.map Decl.name
 lits: ∀r∈p.rules,∀l∈r.body,∀t∈named l,t∈p.aD.map Decl.name
 flat: ∀r∈p.rules,∀l∈r.body,l.kind=4-> ∀x∈l.ar,x.kind≠4
theorem Dy(p:Prog): ∀n,jn p n=[]-> ∀i,i<n->dH p i=0
 |0,_,i,h=>absurd h (Z3 _)
 |n+1,h,i,hi=>by
  rw[jn]at h;obtain⟨d,b⟩:=abf.1 h;rcases ZA.1 hi with h3|h3
  .exact Dy p n d i h3
  .subst h3;exact Decidable.byContradiction fun j=>by rw[be j]at b;cases b
theorem vN{d:Decl}{i k:Int}(h:sW d i k=0): ¬i>=64∧ ¬k>0:=by
 unfold sW at h;split at h
 .cases h
 .split at h
  .cases h
  .rename_i b;split at h
   .cases h
   .rename_i j;exact⟨fun g=>b (.inl g),j⟩
theorem xV{α:Type}[Inhabited α]: ∀(n:Nat) (l:List α),l.length=n->(∀i,i<l.length->l.getD i em∉l.take i)->l.Nodup
 |0,l,hn,_=>by rw[abc.1 hn];exact ZT
 |n+1,l,hn,h=>by
  have hd:l=l.take n++ [l.getD n em]:=by rw[<-bz (by omega),Y1 (by omega)]
  have d:=xV n (l.take n) (by rw[ZJ];omega) fun i u=>by
   rw[ZJ]at u;have:=h i (by omega);rw[List.take_take,Nat.min_eq_left (by omega),YR,ZS,am (by omega),<-YR];exact this
  rw[hd,aaP];refine⟨d,by simp,fun a j b hb e=>?_⟩;rw[Y4]at hb;subst e;subst hb;exact h n (by omega) j
theorem Dw{s:aj}: ∀(l:List Decl) (m:DM),dZ .str (l.foldl iF m) s=kw->s∈m.map Zl∨s∈l.map Decl.name
 | [],m,h=> .inl (qv.1 h)
 |d::l,m,h=>by
  rw[Zn]at h;rcases Dw l _ h with h1|h1
  .unfold iF at h1;split at h1
   .exact .inl h1
   .rename_i b;rw[dV (fun g=>b (qv.2 g))]at h1;rcases Y6.1 h1 with h3|h3
    .exact .inl h3
    .rw[Y4]at h3;subst h3;exact .inr Y8
  .exact .inr (Y7 _ h1)
theorem Q7{p:Prog}{a:Atom}(h:lP p a=lc):a.rel∈p.aD.map Decl.name:=by
 unfold lP at h;rw[aaJ]at h;rcases Dw p.aD [] h with h1|h1
 .cases h1
 .exact h1
theorem oX{r:ae}{e:Int}(he:e≠0){f:Int->Bool}{k:aY}(h:(bK r e f k).1=0):(∀lit∈jc r.body.length,f lit=lc)∧k.1=0:=by
 unfold bK at h;split at h
 .exact absurd h he
 .rename_i b;refine⟨fun lit d=>?_,h⟩;have:=aak.1 b lit d;simpa using this
theorem Fz{p:Prog}{r:ae}{n:Int}(h:(pC p r n).1=0):(x8 p r).1=0:=by
 unfold pC at h;split at h
 .cases h
 .split at h
  .cases h
  .split at h
   .cases h
   .split at h
    .cases h
    .split at h
     .cases h
     .exact h
theorem P9(n:Nat):(-1:Int)∈jc n:=Zu.2 ⟨0,by simp,by simp⟩
theorem Hj{n i:Nat}(h:i<n):(i:Int)∈jc n:=Zu.2 ⟨i+1,by simp;omega,by simp⟩
theorem I5{l:Lit}{t:aj}(hf:l.kind=4-> ∀x∈l.ar,x.kind≠4)(h:t∈named l): ∃a∈(if l.kind=4 then l.ar else[l]).flatMap b8,a.rel=t:=by
 rw[xZ l hf]at h;unfold B3 at h;split at h
 .rename_i u;rw[Y4]at h;have b: ¬l.kind=4:=by omega
  refine⟨l.atom,?_,h.symm⟩;rw[be b,aaK];exact⟨l,aaL _,by rw[b8,am u];exact aaL _⟩
 .split at h
  .rename_i b;obtain⟨x,y,rfl⟩:=Zu.1 h;obtain⟨d,j⟩:=Zw.1 y;refine⟨x.atom,?_,rfl⟩;rw[am b,aaK];exact⟨x,d,by rw[b8,am (zT j)];exact aaL _⟩
  .cases h
theorem Cv{p:Prog}(h:(dy p).1=0):nf p:=by
 have I:=(yD p).1 h;unfold jj at I;obtain⟨B,D⟩:=abf.1 I;have B:=Dy p _ B;have D:=(xD p _).1 D;have j: ∀r∈p.rules,(x8 p r).1=0:=by
  intro r u;obtain⟨i,b,rfl⟩:=Z0.1 u;have:=Fz (D i b);rwa[YR,YU b]at this
 have y: ∀r∈p.rules,∀lit∈jc r.body.length,∀a∈bu r lit,a.rel∈p.aD.map Decl.name:=by
  intro r u lit A a F;have:=(oX (by decide) (j r u)).1 lit A;exact Q7 (by simpa using ZL.1 this a F)
 have d: ∀r∈p.rules,∀l∈r.body,l.kind=4-> ∀x∈l.ar,x.kind≠4:=by
  intro r u l A S x hx;obtain⟨i,b,rfl⟩:=Z0.1 A;have:=(oX (by decide) (oX (by decide) (oX (by decide) (j r u)).2).2).1 _ (Hj b);have e:ak r (i:Int)=r.body[i]:=by unfold ak;simp[YR,b]
  unfold dD at this;rw[be (by omega),e,am S,Zq]at this;simpa using ZL.1 this.1 x hx
 refine⟨xV _ _ Z fun i b J=>?_,?_,fun r u=>?_,fun r u l A t ht=>?_,d⟩
 .rw[Zo]at b;have:=(vN (B i b)).2;rw[bB]at this;have G:rS (dL p i) (p.aD.getD i em).name=0:=by omega
  rw[rF]at G;apply G;unfold dL;rw[YR,Y0,YU b,<-List.map_take]at J;rw[YR,YU b];exact J
 .refine aaT fun Y=>?_
  have:=(vN (B 64 Y)).1;omega
 .exact y r u (-1) (P9 _) r.head (by unfold bu;simp)
 .obtain⟨i,b,rfl⟩:=Z0.1 A;obtain⟨a,F,rfl⟩:=I5 (d r u _ A) ht;refine y r u _ (Hj b) a ?_;have e:ak r (i:Int)=r.body[i]:=by unfold ak;simp[YR,b]
  unfold bu oZ;rw[be (by omega),e];exact F
theorem nf.c4{p:Prog}(h:nf p){x:aj×aj×Nat}(d:x∈c4 p):x.1∈p.aD.map Decl.name∧x.2.1∈p.aD.map Decl.name∧0<x.2.2:=by
 simp only[_root_.Go.Proofs.YtflegjieadkonaaGreatDoor.c4,aaK,Zu]at d;obtain⟨r,b,l,j,t,u,rfl⟩:=d;refine⟨h.yj r b,h.lits r b l j t u,?_⟩;show 0<gu l;unfold gu;split<;>omega
abbrev GM:=List ((KC.str).K×Option NM)
def IT:Option NM->IV
 |none=> .v (.map jp)
 |some r=>CN r
abbrev AT(m:GM):IV:= .eF .str IT jp (.map jp) m
def JK(row:NM)(t:aj)(b:Int):NM:=cF .str row t (max (bU .str row t 0) b)
def lE(hs:List (aj×aj×Nat))(a:aj):NM:=hs.foldl (fun row x=>if x.1=a then JK row x.2.1 x.2.2 else row) []
def cY(p:Prog)(hs:List (aj×aj×Nat)):GM:=p.aD.map fun r=>(r.name,io (lE hs r.name))
def yo(p:Prog):IV:=if(dy p).1=0 then AT (cY p (c4 p)) else .v (.map jp)
theorem rn(hs:List (aj×aj×Nat))(x:aj×aj×Nat)(a:aj):lE (hs++ [x]) a=if x.1=a then JK (lE hs a) x.2.1 x.2.2 else lE hs a:=by
 simp[lE,aao]
theorem Ae(hs:List (aj×aj×Nat))(a:aj):((lE hs a).map Zl).Nodup∧ ∀b:aj,b∈(lE hs a).map Zl↔ ∃k,(a,b,k)∈hs:=by
 induction hs using tU with
 |h0=>exact⟨ZT,fun b=>by simp[lE]⟩
 |h1 hs x ih=>
  obtain⟨A,d⟩:=ih;obtain⟨y,z,k⟩:=x;rw[rn];by_cases h:y=a
  .rw[am h,JK];by_cases B:z∈(lE hs a).map Zl
   .rw[o8 B];refine⟨A,fun b=>?_⟩;rw[d];constructor
    .rintro⟨j,hj⟩;exact⟨j,Zt _ hj⟩
    .rintro⟨j,hj⟩;rcases Y6.1 hj with hj|hj
     .exact⟨j,hj⟩
     .rw[Y4]at hj;cases hj;exact(d z).1 B
   .rw[dV B];refine⟨aaP.2 ⟨A,by simp,fun u hu v D e=>?_⟩,fun b=>?_⟩
    .rw[Y4]at D;subst e;subst D;exact B hu
    .rw[Y6,d,Y4];constructor
     .rintro(⟨j,hj⟩|rfl)
      .exact⟨j,Zt _ hj⟩
      .exact⟨k,aal _ (by rw[h];exact aaL _)⟩
     .rintro⟨j,hj⟩;rcases Y6.1 hj with hj|hj
      .exact .inl ⟨j,hj⟩
      .rw[Y4]at hj;cases hj;exact .inr Z
  .rw[be h];refine⟨A,fun b=>?_⟩;rw[d];constructor
   .rintro⟨j,hj⟩;exact⟨j,Zt _ hj⟩
   .rintro⟨j,hj⟩;rcases Y6.1 hj with hj|hj
    .exact⟨j,hj⟩
    .rw[Y4]at hj;cases hj;exact absurd Z h
theorem KP(hs:List (aj×aj×Nat))(a:aj):(lE hs a).length<=hs.length:=by
 induction hs using tU with
 |h0=>exact YY _
 |h1 hs x ih=>
  rw[rn,YS,Zs];split
  .have:=xN (lE hs a) x.2.1 (max (bU .str (lE hs a) x.2.1 0) x.2.2);unfold JK;omega
  .omega
def bJ(p:Prog)(a:aj):List aj:=(ns p).filter (eg p a)
theorem Db{p:Prog}(h:nf p)(a:aj):eN ((lE (c4 p) a).map Zl)=bJ p a:=by
 refine me (fL (Ae _ _).1) (List.Pairwise.filter _ (fL h.nodup)) fun b=>?_;rw[gn,(Ae _ _).2,bJ,Zw,ns,gn,eg,decide_eq_true_eq];constructor
 .rintro⟨k,hk⟩;have d:=h.c4 hk;refine⟨d.2.1,?_⟩;have:=Wx hk;have h2:0<k:=d.2.2;omega
 .rintro⟨_,d⟩;rcases SN (c4 p) a b with h2|h2
  .exact absurd h2 d
  .exact⟨_,h2⟩
theorem LV(p:Prog)(hs:List (aj×aj×Nat)){a:aj}(h:a∈p.aD.map Decl.name):bU .str (cY p hs) a jp=io (lE hs a):=by
 unfold cY
 revert h
 generalize p.aD=l
 induction l with
 |nil=>intro h;cases h
 |cons d l ih=>
  intro h;simp only[Zd,bU];by_cases e:d.name=a
  .rw[am e,e]
  .rw[be e];rw[Zd,Za]at h;exact ih (h.resolve_left fun g=>e g.symm)
theorem F6(p:Prog)(hs:List (aj×aj×Nat)):(cY p hs).map Zl=p.aD.map Decl.name:=by
 simp[cY]
theorem vT{b:List Lit}{i:Nat}(h:i<b.length):js (b.take (i+1))=js (b.take i)++named (b.getD i em):=by
 rw[ql,ql,bz h,aaZ];simp
mutual
theorem kr: ∀l:Lit,(named l).length<=l.size
 | .mk k a op le ri af av ao b at_=>by
  have:=ta b;unfold named Lit.size;split
  .simp;omega
  .split
   .omega
   .simp
theorem ta: ∀l:List Lit,(js l).length<=Lit.aA l
 | []=>YY _
 |l::r=>by
  have b:=kr l;have d:=ta r;simp only[js,Lit.aA,YS];omega
end
theorem I4(b:List Lit)(i:Nat):(js (b.take i)).length<=Lit.aA b:=by
 have d:=ta (b.take i);have j: ∀(b:List Lit) (i:Nat),Lit.aA (b.take i)<=Lit.aA b:=by
  intro b
  induction b with
  |nil=>intro i;simp[Lit.aA]
  |cons x r ih=>
   intro i;cases i with
   |zero=>simp[Lit.aA]
   |succ i=>have:=ih i;simp only[aae,Lit.aA];omega
 exact ZI d (j b i)
def U9(n:Nat):Prop:= ∀l:Lit,l.size<=n->Pure Tryz.prog 90 [ag l.c] (.iv (strs (named l)))
theorem qn(l:Lit):named l=if l.kind=1∨l.kind=2 then[l.atom.rel] else if l.kind=4 then js l.ar else[]:=by cases l;rfl
theorem KF: ∀n:Nat,n<=100000000000->U9 n
 |0,_=>fun l h=>absurd l.size_pos (by omega)
 |n+1,hn=>fun l h=>by
  have B:=l.size_eq;refine Al.Pure.le (aa:=[ag l.c]) (args:=[ag l.c1]) ?_ ⟨l.zm,ac⟩;refine ah ab Tryz.func90 Z (by decide) Tryz.ntmps90 Z (by simp) Z ?_;refine zJ Z Z (fun k1=>?_) fun k1=>?_
  .have k1:l.kind=1:=by simpa using k1
   rw[qn,am (.inl k1)];refine gA Z (cx (by first|exact .inr Z|exact .inl Z) Z Z (rfl) (rfl))
  have k1: ¬l.kind=1:=by simpa using k1
  refine zJ Z Z (fun d=>?_) fun d=>?_
  .have d:l.kind=2:=by simpa using d
   rw[qn,am (.inr d)];refine gA Z (cx (by first|exact .inr Z|exact .inl Z) Z Z (rfl) (rfl))
  have d: ¬l.kind=2:=by simpa using d
  rw[qn,be (by rintro(g|g);exact k1 g;exact d g)];refine zE Z Z (fun j=>?_) fun j=>?_
  .have j: ¬l.kind=4:=by simpa using j
   rw[be j];refine gA Z (zL ?_);exact .nil _ _
  have j:l.kind=4:=by simpa using j
  rw[am j];refine gA Z ?_;refine fS 3 1 Z ?_;refine az 0 l.ar.length (YZ _) (fun i=>⟨[(3,.sl 2 0 (js (l.ar.take i)).length 1),(19,.iv (lits l.ar)),(20,pI l.ar.length),(21,pI i)],[(2,io (aG 1 (js (l.ar.take i)) cX))],3⟩) (fun _=>True) [1] ac
   (zW (zS trivial)) fun i D _=>?_
  have x:=I4 l.ar i;have u:=Lit.au l.ar;refine zJ Z Z (fun b=>?_) fun b=>?_
  .have b:=ci b;have y:=Lit.aI l.ar i b;have A:=kr (l.ar.getD i em);refine gA Z (zp (KF n (by omega) (l.ar.getD i em) (by omega)) ?_);refine gA Z ⟨b,ac,[4],zM ⟨.row (by rw[vT b,YS]),rfl,bv (bv (bv ac))⟩ (hR Z (by rw[oL,vT b,YX]) Z ac)⟩
  .have b:=co b;rw[Y1 b];refine gA Z (cx (by first|exact .inr Z|exact .inl Z) Z Z (rfl) (rfl))
theorem GZ(l:Lit)(h:l.size<=100000000000):Pure Tryz.prog 90 [ag l.c] (.iv (strs (named l))):=KF l.size h l (YY _)
end Go.Proofs.YtflegjieadkonaaGreatDoor
namespace Go.Proofs.YtflegjieadkonaaGreatDoor
open Go Go.Al Go.Proofs.Tryz
section
theorem Sv(x:km)(el:Nat->List IV):Pure prog 91 [.iv (.dG 1 0 el)] (.bM []):=by
 refine⟨bH func91 Z (by decide),fun M N w u y d A=>?_⟩;obtain⟨v,rfl⟩: ∃v,u=[v]:=by
  cases u with
  |nil=>cases d
  |cons v r=>cases r with
   |nil=>exact⟨v,rfl⟩
   |cons a b=>simp at d
 have j:=A 0 _ Z;simp only[List.getD_cons_zero]at j;obtain⟨a,a0,rfl⟩: ∃a a0,v= .slice a 0 a0:=by
  cases j with
  |iv _ _ h=>cases h with
   |kN _ _ a a0=>exact⟨a,a0,rfl⟩
   |dG _ _ _ b off a0=>exact⟨_,a0,rfl⟩
 refine(x.2 a a0 w).mono ?_;rintro e B ⟨rfl,rfl⟩;exact⟨_,M,N,.bM [],_,_,rfl,⟨rfl,rfl,rfl⟩,.refl _ _ _ _ _,y,.bM [] #[] Z (by simp)⟩
section
variable {V:Type}
def Hr(m:List ((KC.str).K×V))(vs:List Nat):List aj:=jt (m.map fun x=>(x.1,0)) vs
theorem Ee(m:List ((KC.str).K×V))(vs:List Nat)(j:Nat)(x:(KC.str).K×V)(h:m[j]? =io x):Hr m (j::vs)=Hr m vs++ [x.1]:=
 nv _ _ _ (x.1,0) (by rw[Y0,h];rfl)
theorem Hq(m:List ((KC.str).K×V))(vs:List Nat)(hn:vs.Nodup)(hb: ∀j∈vs,j<m.length)(b: ∀j,j<m.length->j∈vs):(Hr m vs).Perm (m.map (·.1)):=by
 have:=mD (m.map fun x=>(x.1,(0:Int))) vs hn (by simpa using hb) (by simpa using b);rw[aaH]at this;exact this
theorem Hp(m:List ((KC.str).K×V))(vs:List Nat):(Hr m vs).length<=vs.length:=ye _ _
end
def IQ(i:Nat):List aj->PV
 | []=> .sl i 1 0 1
 |x::r=> .sl i 0 (x::r).length 1
def zi(n:Nat):List aj->AO
 | []=> .row 1 (aaO n [pS YW])
 |x::r=>aG 1 (x::r) cX
theorem Ap(i:Nat)(l:List aj)(s:aj):IQ i (l++ [s])= .sl i 0 (l.length+1) 1:=by cases l<;>simp[IQ]
theorem Aq(n:Nat)(l:List aj)(s:aj):zi n (l++ [s])=aG 1 (l++ [s]) cX:=by cases l<;>rfl
theorem DI{i:Nat}{l:List aj}(h:l≠ []):IQ i l= .sl i 0 l.length 1:=by cases l with
 |nil=>exact absurd Z h
 |cons=>rfl
theorem DJ{n:Nat}{l:List aj}(h:l≠ []):zi n l=aG 1 l cX:=by cases l with
 |nil=>exact absurd Z h
 |cons=>rfl
theorem K4(n:Nat)(l:List aj)(k:Nat):(zi n l).low k:=by
 cases l with
 |nil=>
  intro j e b;rw[aaX]at b;split at b
  .cases b;rfl
  .cases b
 |cons x r=>exact cJ k
theorem K3(n:Nat)(l:List aj)(σ:Nat->Nat):(zi n l).da σ=zi n l:=by
 cases l with
 |nil=>simp only[zi,AO.da];rw[List.map_replicate];rfl
 |cons x r=>exact bA σ
theorem hO{h r:AH}{σ:Nat->Nat}{i n m:Nat}{o:AO}{l:List aj}(ho:h.get (σ i)=io o)(he:o=zi m l)(hi:Zb i n=kw)(hr:nX n σ h r):nX n σ h ((i,io (zi m l))::r):=
 ⟨⟨_,ho,.of_eq (by rw[K3,he])⟩,YP hi,K4 m l n,hr⟩
theorem ue(i:Nat)(l:List aj){n:Nat}(h:Zb i n=kw):(IQ i l).low n=kw:=by cases l<;>exact h
theorem KA(Y:km)(m:NM)(hm:m.length<=100000000):Pure prog 52 [.iv (CN m)] (.iv (strs (eN (m.map (·.1))))):=by
 refine ah ab func52 Z (by decide) ntmps52 Z (by simp) Z ?_;rcases Nat.eq_zero_or_pos m.length with h0|h0
 .have h0:=abc.1 h0;subst h0;refine gA Z (F8 ab 1 (fun k=>cX (([]:List aj).getD k em)) Z Z Z Z Z Z Z Z Z Z ?_);refine gA Z ?_;refine jv ([]:List ((KC.str).K×Int)) (fun _=>⟨[(3,.iv (.dG 1 0 (fun k=>cX (([]:List aj).getD k em)))),(9,.ptr 1 0)],[(1,io (.cC .str A5 ([]:List ((KC.str).K×Int)) [] jp))],2⟩) (fun _=>True) [] ac
   (zW (hI Z Z (.inl Z) Z trivial)) fun b _=>?_
  refine nS Z ac (fU Z Z Z Z Z (by decide) (fun _=>?_) fun j x B _=>?_)
  .refine gA Z (bh (Sv Y _) Z Z Z Z Z Z ?_);refine gA Z (zL ?_);exact .of_eq (show _=PV.iv (strs (eN [])) by rw[rj];rfl)
  .cases B
 refine gA Z (Ep ab m.length 0 Z Z Z Z Z Z Z Z Z h0 (by omega) (by show 16*m.length<=_;omega) Z (by decide) Z (.inl ⟨rfl,rfl⟩) Z ?_);refine gA Z ?_;refine jv m (fun b=>⟨[(3,IQ 2 (Hr m b)),(9,.ptr 1 0)],[(1,io (.cC .str A5 m b jp)),(2,io (zi m.length (Hr m b)))],3⟩) (fun b=>b.Nodup∧ ∀j∈b,j<m.length) [0] ⟨ZT,by simp⟩
  (zW (hI Z Z (.inl Z) Z (hO Z Z Z trivial))) fun b hJ=>?_
 obtain⟨u,y⟩:=hJ;have S:=xW u y;have F:=Hp m b;refine nS Z ac (fU Z Z Z Z Z (by decide) (fun D=>?_) fun j x B I=>?_)
 .have J:=Hq m b u y D;have G:Hr m b≠ []:=fun e=>by
   have:=J.length_eq;rw[e,Zo]at this;simp at this;omega
  rw[DI G,DJ G];refine nS Z ac (bI [2] (MN Y (Hr m b) (by omega)) Z Z Z Z Z (congrArg (fun o=> [io o]) (bA _).symm) Z Z ?_);refine nS Z ac (cx (.inr Z) Z Z ((xE _ _).trans (by rw[sN J])) ?_);rw[jD,<-J.length_eq]
 .have A:=Ee m b j x B;have a0: ∀d,d=j::b->d.Nodup∧ ∀i∈d,i<m.length:=fun d e=>e▸⟨aad.2 ⟨I,u⟩,fun i hi=>(Za.1 hi).elim (fun h=>h▸(YV.1 B).1) (y i)⟩
  cases hl:Hr m b with
  |nil=>
   rw[hl,aaw]at A;refine gA Z (Cq ab Z Z Z Z Z Z Z Z Z (by simp;omega) (by simp) (mU Z) Z ?_);refine gA Z ?_;exact⟨j,x,B,I,a0 _ Z,[4],zM ⟨.of_eq (by rw[A];rfl),ue 2 _ Z,.refl _,rfl,ac⟩ (hI Z Z (.inr Z) Z (hO Z (by rw[A];rfl) Z ac))⟩
  |cons a r=>
   rw[hl]at A F;have b0:(r.length+1)<=m.length:=by simpa using ZI F S
   refine gA Z ⟨j,x,B,I,a0 _ Z,[4],zM ⟨.of_eq (by rw[A,Ap];rfl),ue 2 _ Z,.refl _,rfl,ac⟩ (hI Z Z (.inr Z) Z (hO Z (by rw[A,Aq,aG,YX];rfl) Z ac))⟩
theorem KB(Y:km)(m:GM)(hm:m.length<=100000000):Pure prog 51 [.iv (AT m)] (.iv (strs (eN (m.map (·.1))))):=by
 refine ah ab func51 Z (by decide) ntmps51 Z (by simp) Z ?_;rcases Nat.eq_zero_or_pos m.length with h0|h0
 .have h0:=abc.1 h0;subst h0;refine gA Z (F8 ab 1 (fun k=>cX (([]:List aj).getD k em)) Z Z Z Z Z Z Z Z Z Z ?_);refine gA Z ?_;refine jv ([]:List ((KC.str).K×Option NM)) (fun _=>⟨[(3,.iv (.dG 1 0 (fun k=>cX (([]:List aj).getD k em)))),(9,.ptr 1 0)],[(1,io (.cC .str IT ([]:List ((KC.str).K×Option NM)) [] jp))],2⟩) (fun _=>True) [] ac
   (zW (hI Z Z (.inl Z) Z trivial)) fun b _=>?_
  refine nS Z ac (fU Z Z Z Z Z (by decide) (fun _=>?_) fun j x B _=>?_)
  .refine gA Z (bh (Sv Y _) Z Z Z Z Z Z ?_);refine gA Z (zL ?_);exact .of_eq (show _=PV.iv (strs (eN [])) by rw[rj];rfl)
  .cases B
 refine gA Z (Ep ab m.length 0 Z Z Z Z Z Z Z Z Z h0 (by omega) (by show 16*m.length<=_;omega) Z (by decide) Z (.inl ⟨rfl,rfl⟩) Z ?_);refine gA Z ?_;refine jv m (fun b=>⟨[(3,IQ 2 (Hr m b)),(9,.ptr 1 0)],[(1,io (.cC .str IT m b jp)),(2,io (zi m.length (Hr m b)))],3⟩) (fun b=>b.Nodup∧ ∀j∈b,j<m.length) [0] ⟨ZT,by simp⟩
  (zW (hI Z Z (.inl Z) Z (hO Z Z Z trivial))) fun b hJ=>?_
 obtain⟨u,y⟩:=hJ;have S:=xW u y;have F:=Hp m b;refine nS Z ac (fU Z Z Z Z Z (by decide) (fun D=>?_) fun j x B I=>?_)
 .have J:=Hq m b u y D;have G:Hr m b≠ []:=fun e=>by
   have:=J.length_eq;rw[e,Zo]at this;simp at this;omega
  rw[DI G,DJ G];refine nS Z ac (bI [2] (MN Y (Hr m b) (by omega)) Z Z Z Z Z (congrArg (fun o=> [io o]) (bA _).symm) Z Z ?_);refine nS Z ac (cx (.inr Z) Z Z ((xE _ _).trans (by rw[sN J])) ?_);rw[jD,<-J.length_eq]
 .have A:=Ee m b j x B;have a0: ∀d,d=j::b->d.Nodup∧ ∀i∈d,i<m.length:=fun d e=>e▸⟨aad.2 ⟨I,u⟩,fun i hi=>(Za.1 hi).elim (fun h=>h▸(YV.1 B).1) (y i)⟩
  cases hl:Hr m b with
  |nil=>
   rw[hl,aaw]at A;refine gA Z (Cq ab Z Z Z Z Z Z Z Z Z (by simp;omega) (by simp) (mU Z) Z ?_);refine gA Z ?_;exact⟨j,x,B,I,a0 _ Z,[4],zM ⟨.of_eq (by rw[A];rfl),ue 2 _ Z,.refl _,rfl,ac⟩ (hI Z Z (.inr Z) Z (hO Z (by rw[A];rfl) Z ac))⟩
  |cons a r=>
   rw[hl]at A F;have b0:(r.length+1)<=m.length:=by simpa using ZI F S
   refine gA Z ⟨j,x,B,I,a0 _ Z,[4],zM ⟨.of_eq (by rw[A,Ap];rfl),ue 2 _ Z,.refl _,rfl,ac⟩ (hI Z Z (.inr Z) Z (hO Z (by rw[A,Aq,aG,YX];rfl) Z ac))⟩
end
end Go.Proofs.YtflegjieadkonaaGreatDoor
namespace Go.Proofs.YtflegjieadkonaaGreatDoor
open Go Go.Al
def Xx(b:Option Nat):IV:= .v (.map b)
def dvR(p:PV):Option Nat:=match p with
 | .iv (.v (.map b))=>b
 |_=>jp
abbrev RM:=List ((KC.str).K×Option Nat)
abbrev gO(m:RM):AO:= .map .str Xx jp (.map jp) dvR m
abbrev CP:=Nat×Nat
def mr(l:List Decl)(B:List CP):RM:=abV (fun d b=>(d.name,io b.1)) l B
def eZ(L:List (Nat×Nat×NM)):bd:=fun b=>(L.find? fun y=>y.1==b).map fun y=> .obj (ct y.2.2) y.2.1
theorem jU(L:List (Nat×Nat×NM)):(eZ L).still:=by
 intro b i e h;unfold eZ at h;cases hf:L.find? fun y=>y.1==b<;>rw[hf]at h<;>cases h
def rowsOf(l:List Decl)(B:List CP)(hs:List (aj×aj×Nat)):List (Nat×Nat×NM):=abV (fun d b=>(b.1,b.2,lE hs d.name)) l B
theorem I6{V:Type}{kc:KC}{ev:V->IV}{z:V}{b:Value}{d:PV->V}(x: ∀M,IR M (ev z) b):gf .gH (.map kc ev z b d []):=
 ⟨id,fun M N U w j u=>⟨#[],0,u,⟨rfl,by simp,by simp,by simp,by simp⟩,x M⟩⟩
structure BOK (l:List Decl) (i:Nat) (B:List CP):Prop where
 len:B.length=i
 nd:(B.map Zl).Nodup
theorem DB(l:List Decl):mr l []=[]:=by cases l<;>rfl
theorem xF(l:List Decl)(hs:List (aj×aj×Nat)):rowsOf l [] hs=[]:=by cases l<;>rfl
theorem Fv(l:List Decl)(hs:List (aj×aj×Nat)):eZ (rowsOf l [] hs)=bd.nil:=by rw[xF];rfl
theorem xg{α β γ:Type}[Inhabited α](f:α->β->γ): ∀(l:List α) (B:List β) (x:β),B.length<l.length->abV f l (B++ [x])=abV f l B++ [f (l.getD B.length em) x]
 |a::l,[],x,_=>by simp
 |a::l,b::B,x,h=>by
  have:=xg f l B x (by simpa using h);simp[this]
 | [],B,x,h=>absurd h (Z3 _)
theorem P1{B:List CP}{b e:Nat}(h:(B.map Zl).Nodup)(hb:b∉B.map Zl):((B++ [(b,e)]).map Zl).Nodup:=by
 rw[YX,aaP];exact⟨h,by simp,fun u hu v d g=>hb (by simp at d;subst g;subst d;exact hu)⟩
theorem p5(hs:List (aj×aj×Nat)): ∀(l:List Decl) (B:List CP),B.length<=l.length->(rowsOf l B hs).map Zl=B.map Zl
 |_,[],_=>by simp[xF]
 |d::l,b::B,h=>by
  have:=p5 hs l B (by simpa using h);simp only[rowsOf,abW,Zd]at this ⊢;rw[this]
 | [],b::B,h=>absurd h (by simp)
theorem Iy{l:List Decl}{B:List CP}{hs:List (aj×aj×Nat)}{b:Nat}(d:B.length<=l.length)(h:eZ (rowsOf l B hs) b=jp):b∉B.map Zl:=by
 rw[<-p5 hs l B d];intro j;obtain⟨y,u,rfl⟩:=Zu.1 j;unfold eZ at h;rw[aa1,aak]at h;exact h y u (by simp)
theorem Dl(L:List (Nat×Nat×NM))(y:Nat×Nat×NM)(h:y.1∉L.map Zl):eZ (L++ [y])=(eZ L).put y.1 (.obj (ct y.2.2) y.2.1):=by
 funext c
 unfold eZ bd.put;rw[abA];by_cases b:c=y.1
 .subst b;rw[am Z];have:L.find? (fun z=>z.1==y.1)=jp:=aak.2 fun z d=>by
   simp only[beq_iff_eq];exact fun e=>h (e▸abb d)
  rw[this];simp
 .rw[be b];have: ¬y.1=c:=fun e=>b e.symm;cases hf:L.find? (fun z=>z.1==c)<;>simp[this,hf]
theorem Ix{l:List Decl}{B:List CP}{b e:Nat}(d:B.length<l.length)(hb:b∉B.map Zl):eZ (rowsOf l (B++ [(b,e)]) [])=(eZ (rowsOf l B [])).put b (.obj (ct []) e):=by
 have h:rowsOf l (B++ [(b,e)]) []=rowsOf l B []++ [(b,e,[])]:=xg _ l B (b,e) d;rw[h];exact Dl _ _ (by rw[p5 _ _ _ (Nat.le_of_lt d)];exact hb)
theorem DA: ∀(l:List Decl) (B:List CP),B.length<=l.length->(mr l B).map Zl=(l.take B.length).map Decl.name
 |_,[],_=>by simp[DB]
 |d::l,b::B,h=>by
  have:=DA l B (by simpa using h);simp only[mr,abW,Zd,Zr,aae]at this ⊢;rw[this]
 | [],b::B,h=>absurd h (by simp)
theorem PL{V:Type}{m:List ((KC.str).K×V)}{s:aj}{v:V}(h:s∉m.map Zl):cF .str m s v=m++ [(s,v)]:=by
 induction m with
 |nil=>rfl
 |cons x r ih=>
  obtain⟨a,c⟩:=x;simp only[Zd,Za,not_or]at h;have: ¬a=s:=fun e=>h.1 e.symm;simp only[cF,be this,ih h.2];rfl
theorem KX{l:List Decl}{B:List CP}{i b e:Nat}(hn:(l.map Decl.name).Nodup)(hi:B.length=i)(d:i<l.length):cF .str (mr l B) (l.getD i em).name (io b)=mr l (B++ [(b,e)]):=by
 subst hi;have h:mr l (B++ [(b,e)])=mr l B++ [((l.getD B.length em).name,io b)]:=xg _ l B (b,e) d;rw[h];apply PL;rw[DA l B (Nat.le_of_lt d)];intro u;have j:l.map Decl.name=(l.take B.length).map Decl.name++(l.drop B.length).map Decl.name:=by rw[<-YX,List.take_append_drop]
 rw[j,aaP]at hn;refine hn.2.2 _ u _ (Zu.2 ⟨l.getD B.length em,?_,rfl⟩) Z;rw[YR,YU d];exact List.mem_drop_iff_getElem.2 ⟨0,by simpa using d,by simp⟩
def mI(r:ae)(l:Lit):List (aj×aj×Nat):=(named l).map fun t=>(r.head.rel,t,gu l)
def um(r:ae):List (aj×aj×Nat):=r.body.flatMap (mI r)
theorem HM: ∀{L:List (Nat×Nat×NM)} {j:Nat} {y:Nat×Nat×NM},(L.map Zl).Nodup->L[j]? =io y->L.find? (fun z=>z.1==y.1)=io y
 | [],_,_,_,h=>by simp at h
 |x::L,0,y,_,h=>by
  simp only[aby,YT]at h;subst h;simp
 |x::L,j+1,y,hn,h=>by
  rw[aaW]at h;rw[Zd,aad]at hn;have b: ¬x.1=y.1:=fun e=>hn.1 (e▸abb (Zm h));rw[abX (by simpa using b)];exact HM hn.2 h
theorem tW{l:List Decl}{B:List CP}{hs:List (aj×aj×Nat)}{j:Nat}{d:Decl}{b:CP}(x:B.length=l.length)(hn:(B.map Zl).Nodup)(hd:l[j]? =io d)(hb:B[j]? =io b):eZ (rowsOf l B hs) b.1=io (.obj (ct (lE hs d.name)) b.2):=by
 have h:(rowsOf l B hs)[j]? =io (b.1,b.2,lE hs d.name):=by
  unfold rowsOf;rw[ab1,hd,hb]
 have u:=HM (by rw[p5 hs l B (aca x)];exact hn) h;unfold eZ;rw[u];rfl
theorem Dk{l:List Decl}{B:List CP}{hs:List (aj×aj×Nat)}{c:Nat}(b:B.length<=l.length)(h:c∉B.map Zl):eZ (rowsOf l B hs) c=jp:=by
 rw[<-p5 hs l B b]at h;unfold eZ;rw[aa1,aak];intro y d;simp only[beq_iff_eq];exact fun e=>h (e▸abb d)
theorem Iw{l:List Decl}{B:List CP}{hs:List (aj×aj×Nat)}{j h:Nat}{d:Decl}{b:CP}{t:aj}(x:B.length=l.length)(hn:(B.map Zl).Nodup)(S:(l.map Decl.name).Nodup)(hd:l[j]? =io d)(hb:B[j]? =io b):
  (eZ (rowsOf l B hs)).put b.1 (.obj (ct (JK (lE hs d.name) t h)) b.2)=eZ (rowsOf l B (hs++ [(d.name,t,h)])):=by
 funext c
 unfold bd.put;by_cases A:c=b.1
 .subst A;rw[am Z,tW x hn hd hb,rn,am Z]
 .rw[be A];by_cases J:c∈B.map Zl
  .obtain⟨b',y,rfl⟩:=Zu.1 J;obtain⟨i,D,rfl⟩:=Z0.1 y;have u:i<l.length:=by omega
   have F:i≠j:=fun e=>A (by subst e;rw[YU D]at hb;cases hb;rfl);rw[tW x hn (YU u) (YU D),tW x hn (YU u) (YU D),rn,be];intro e;have Y:=(YV.1 hd)
   obtain⟨G,I⟩:=Y;apply F;refine(abo S (h₀:=by simpa using u) (h₁:=by simpa using G)).1 ?_;rw[abD,abD,I];exact e.symm
  .rw[Dk (aca x) J,Dk (aca x) J]
theorem T7{l:List Decl}{B:List CP}{a:aj}(x:B.length=l.length)(u:(l.map Decl.name).Nodup)(ha:a∈l.map Decl.name): ∃(j:Nat) (d:Decl) (b:CP),l[j]? =io d∧B[j]? =io b∧d.name=a∧bU .str (mr l B) a jp=io b.1:=by
 induction l generalizing B with
 |nil=>cases ha
 |cons d l ih=>
  cases B with
  |nil=>cases x
  |cons b B=>
   by_cases h:d.name=a
   .exact⟨0,d,b,rfl,rfl,h,by simp[mr,bU,h]⟩
   .rw[Zd,aad]at u;rw[Zd,Za]at ha;obtain⟨j,A,y,D,F,G,I⟩:=ih (by simpa using x) u.2 (ha.resolve_left fun e=>h e.symm);exact⟨j+1,A,y,D,F,G,by simpa[mr,bU,h]using I⟩
def dvG(_:PV):Option NM:=jp
theorem JY{p:Prog}{B:List CP}(u:B.length=p.aD.length)(hn:(B.map Zl).Nodup){hs:List (aj×aj×Nat)}:Nq (eZ (rowsOf p.aD B hs)) (gO (mr p.aD B)) (.map .str IT jp (.map jp) dvG (cY p hs)):=by
 refine .map _ _ _ _ _ _ _ _ _ _ (by simp[cY,mr,u]) (fun j D x=>?_) fun M=> .v _
 obtain⟨d,hd,rfl⟩: ∃d,p.aD[j]? =io d∧D=(d.name,io (lE hs d.name)):=by
  unfold cY at x;rw[Y0,Y2]at x;obtain⟨d,y,A⟩:=x;exact⟨d,y,A.symm⟩
 have b:j<B.length:=by rw[u];exact(YV.1 hd).1
 refine⟨(d.name,io B[j].1),.map (io B[j].1),?_,rfl,rfl,?_⟩
 .unfold mr;rw[ab1,hd,YU b]
 .refine .map B[j].1 B[j].2 .str A5 0 (.int .i64 0) Xm (lE hs d.name) ?_;exact tW u hn hd (YU b)
theorem Sy(hS:km)(p:Prog)(hb:p.fit):Pure Tryz.prog 50 [ag p.c] (.bM [.iv (yo p),pB (li ((dy p).1=0))]):=by
 refine ah ab Tryz.func50 Z (by decide) Tryz.ntmps50 Z (by simp) Z ?_;refine gA Z (zp (c24 p hb) ?_);refine zJ Z Z (fun k1=>?_) fun k1=>?_
 .have k1: ¬(dy p).1=0:=by simpa using k1
  rw[yo,be k1,decide_eq_false k1];exact zU Z
 have k1:(dy p).1=0:=by simpa using k1
 have hf:=Cv k1;have v0:=hf.len;rw[yo,am k1,decide_eq_true k1];refine gM 1 Z ?_;refine Hy ?_;refine aJ (bZ ?_);refine gA Z ?_;refine aJ (aJ (fQ ⟨[(1,.ptr 0 0),(4,.mp 2),(20,.iv (cW 4 p.aD Decl.c)),(21,pI p.aD.length),(22,pI 0)],[(0,io (an p.c)),(2,io (gO []))],3⟩ ?_ ?_))
 .refine gA Z (fH [1] ?_);exact zW (zK (Jg Z (fun _=> .v _) Z ac))
 refine bS (jZ 0 p.aD.length (YZ _) (fun i (x:ULift.{1} (List CP))=>⟨[(1,.ptr 0 0),(4,.mp 2),(20,.iv (cW 4 p.aD Decl.c)),(21,pI p.aD.length),(22,pI i)],[(0,io (an p.c)),(2,io (gO (mr p.aD x.down)))],3⟩)
  (fun i x Y=>BOK p.aD i x.down∧Y=eZ (rowsOf p.aD x.down [])) ⟨[]⟩ [] ⟨⟨rfl,ZT⟩,(Fv p.aD []).symm⟩
  (zW (zK (hM Z (DB p.aD).symm Z ac))) (fun _ _ _ h=>h.2▸jU _) fun i x Y hi hJ=>?_)
 obtain⟨hB,rfl⟩:=hJ;obtain⟨B⟩:=x;refine aJ (bZ ?_);refine gA Z ?_;refine aJ (dB Z (fun u=>dP ?_) (fun u=>gC ?_))
 .have u:=ci u;refine aJ (bS (aJ (bZ ?_)));refine gA Z ?_;refine iJ (bE 4 ?_);refine gA Z ?_;refine eG (xr (i:=4) (o':=ct []) Z (I6 im)) fun t Y F=>?_;obtain⟨rfl,rfl⟩:=F;refine eG (Ip (i:=4) (d:=29) (jU _) Z Z ac Z) fun t Y F=>?_;obtain⟨b,e,o0,rfl,rfl⟩:=F;refine bE 1 ?_;refine gA Z ?_;refine fc (ju (bZ ?_));refine gA Z ?_;have a0:=Iy (by rw[hB.len];exact hi) o0;exact⟨u,⟨B++ [(b,e)]⟩,[],⟨⟨by rw[YS,hB.len];rfl,P1 hB.nd a0⟩,(Ix (by rw[hB.len];exact u) a0).symm⟩,zW (zK (hM Z (KX hf.nodup hB.len u) Z ac))⟩
 have u:=co u;have J:B.length=p.aD.length:=by have:B.length=i:=hB.len;omega
 have c0:=hB.nd;clear hB;have x0:p.rules.length<=1000000000:=hb.2.1
 let G:Nat->List (aj×aj×Nat):=fun r=>(p.rules.take r).flatMap um
 change GX _ _ [.code _] _ _ _;refine aJ (aJ (fQ ⟨[(1,.ptr 0 0),(4,.mp 2),(32,.iv (cW 5 p.rules ae.c)),(33,pI p.rules.length),(34,pI 0)],[(0,io (an p.c)),(2,io (gO (mr p.aD B)))],3⟩ ?_ ?_))
 .refine gA Z (fH [] ?_);exact zW (zK (zC ac))
 refine bS (jZ 0 p.rules.length (YZ _) (fun i (_:PUnit.{2})=>⟨[(1,.ptr 0 0),(4,.mp 2),(32,.iv (cW 5 p.rules ae.c)),(33,pI p.rules.length),(34,pI i)],[(0,io (an p.c)),(2,io (gO (mr p.aD B)))],3⟩)
  (fun i _ Y=>Y=eZ (rowsOf p.aD B (G i))) ⟨⟩ [] Z (zW (zK (zC ac))) (fun _ _ _ h=>h▸jU _) fun n _ Y hn hJ=>?_)
 subst hJ;refine aJ (bZ ?_);refine gA Z ?_;refine aJ (dB Z (fun u=>dP ?_) (fun u=>gC ?_));rotate_left
 .have u:=co u;have k0:G n=c4 p:=by show((p.rules.take n).flatMap um)=_;rw[Y1 u];rfl
  rw[k0];change GX _ _ [.code _] _ _ _;refine Ek (BA (i:=2) (o':= .map .str IT jp (.map jp) dvG (cY p (c4 p))) Z (JY J c0)) fun t Y F=>?_;obtain⟨rfl,rfl⟩:=F;refine bZ ?_;refine gA Z (rD (.inr Z) Z (lu.map 2 Z (.done (.refl _))))
 have u:=ci u;have hR:p.rules.getD n em∈p.rules:=cS u;have f0:G (n+1)=G n++um (p.rules.getD n em):=by show((p.rules.take (n+1)).flatMap um)=_;rw[bz u,aaZ];simp;rfl
 have b0:=hb.2.2 _ hR;have D:=b0.1;have y:=hf.yj _ hR;have A:=hf.lits _ hR;generalize m0:p.rules.getD n em=R at hR f0 b0 D y A;refine aJ (bS (aJ (bZ ?_)));refine gA Z ?_;refine aJ (fQ ⟨[(1,.ptr 0 0),(4,.mp 2),(8,.ptr 3 0),(32,.iv (cW 5 p.rules ae.c)),(33,pI p.rules.length),(34,pI n),(39,.iv (lits R.body)),(40,pI R.body.length),(41,pI 0)],[(0,io (an p.c)),(2,io (gO (mr p.aD B))),(3,io (an R.c))],4⟩ ?_ ?_)
 .refine gA Z (fH [] ?_);subst m0;exact zW (zK (zC (zK ac)))
 have s0:R.body.length<=10000000:=by have:=Lit.au R.body;unfold ae.size at D;omega
 refine bS (jZ 0 R.body.length (YZ _) (fun i (_:PUnit.{2})=>⟨[(1,.ptr 0 0),(4,.mp 2),(8,.ptr 3 0),(32,.iv (cW 5 p.rules ae.c)),(33,pI p.rules.length),(34,pI n),(39,.iv (lits R.body)),(40,pI R.body.length),(41,pI i)],[(0,io (an p.c)),(2,io (gO (mr p.aD B))),(3,io (an R.c))],4⟩)
  (fun i _ Y=>Y=eZ (rowsOf p.aD B (G n++(R.body.take i).flatMap (mI R)))) ⟨⟩ [] (by simp) (zW (zK (zC (zK ac)))) (fun _ _ _ h=>h▸jU _) fun i _ Y t0 hJ=>?_)
 subst hJ;refine aJ (bZ ?_);refine gA Z ?_;refine aJ (dB Z (fun I=>dP ?_) (fun I=>gC ?_));rotate_left
 .have I:=co I;rw[Y1 I,show G n++R.body.flatMap (mI R)=G (n+1) from f0.symm];change GX _ _ (.code _::_) _ _ _;refine bZ ?_;refine gA Z ⟨u,⟨⟩,[],rfl,zW (zK (zC ac))⟩
 have I:=ci I;have hl:R.body.getD i em∈R.body:=cS I;have g0:(R.body.take (i+1)).flatMap (mI R)=(R.body.take i).flatMap (mI R)++mI R (R.body.getD i em):=by rw[bz I,aaZ];simp
 have e0:(R.body.getD i em).size<=10000000:=by have:=Lit.aI R.body i I;unfold ae.size at D;omega
 have d0:=A _ hl;generalize q0:R.body.getD i em=l at hl g0 e0 d0;refine aJ (bS (aJ (bZ ?_)));refine gA Z ?_;refine aJ (fQ ⟨[(1,.ptr 0 0),(4,.mp 2),(8,.ptr 3 0),(10,.ptr 4 0),(32,.iv (cW 5 p.rules ae.c)),(33,pI p.rules.length),(34,pI n),(39,.iv (lits R.body)),(40,pI R.body.length),(41,pI i),(46,.iv (strs (named l))),(47,pI (named l).length),(48,pI 0)],[(0,io (an p.c)),(2,io (gO (mr p.aD B))),(3,io (an R.c)),(4,io (an l.c))],5⟩ ?_ ?_)
 .subst q0;refine gA Z (zp (GZ (R.body.getD i em) (by omega)) ?_);refine gA Z (fH [] ?_);exact zW (zK (zC (zK (zK ac))))
 have w0:=kr l
 refine bS (jZ 0 (named l).length (YZ _) (fun k (_:PUnit.{2})=>⟨[(1,.ptr 0 0),(4,.mp 2),(8,.ptr 3 0),(10,.ptr 4 0),(32,.iv (cW 5 p.rules ae.c)),(33,pI p.rules.length),(34,pI n),(39,.iv (lits R.body)),(40,pI R.body.length),(41,pI i),(46,.iv (strs (named l))),(47,pI (named l).length),(48,pI k)],[(0,io (an p.c)),(2,io (gO (mr p.aD B))),(3,io (an R.c)),(4,io (an l.c))],5⟩)
  (fun k _ Y=>Y=eZ (rowsOf p.aD B ((G n++(R.body.take i).flatMap (mI R))++((named l).take k).map fun t=>(R.head.rel,t,gu l)))) ⟨⟩ [] (by simp) (zW (zK (zC (zK (zK ac))))) (fun _ _ _ h=>h▸jU _) fun k _ Y hk hJ=>?_)
 subst hJ;refine aJ (bZ ?_);refine gA Z ?_;refine aJ (dB Z (fun h3=>dP ?_) (fun h3=>gC ?_));rotate_left
 .have h3:=co h3;have eX:(G n++(R.body.take i).flatMap (mI R))++(named l).map (fun t=>(R.head.rel,t,gu l))=G n++(R.body.take (i+1)).flatMap (mI R):=by rw[Y3,g0];rfl
  rw[Y1 h3,eX];change GX _ _ (.code _::_) _ _ _;refine bZ ?_;refine gA Z ⟨I,⟨⟩,[],rfl,zW (zK (zC (zK ac)))⟩
 have h3:=ci h3;obtain⟨j,d,b,hd,i0,p0,j0⟩:=T7 J hf.nodup y;have hX:=tW (hs:=(G n++(R.body.take i).flatMap (mI R))++((named l).take k).map fun t=>(R.head.rel,t,gu l)) J c0 hd i0;have S:=Iw (hs:=(G n++(R.body.take i).flatMap (mI R))++((named l).take k).map fun t=>(R.head.rel,t,gu l)) (t:=(named l).getD k em) (h:=gu l) J c0 hf.nodup hd i0;rw[p0]at hX S;have r0:((G n++(R.body.take i).flatMap (mI R))++((named l).take k).map fun t=>(R.head.rel,t,gu l))++ [(R.head.rel,(named l).getD k em,gu l)]=(G n++(R.body.take i).flatMap (mI R))++((named l).take (k+1)).map fun t=>(R.head.rel,t,gu l):=by
  rw[bz h3,YX,Y3];rfl
 rw[r0]at S;generalize(G n++(R.body.take i).flatMap (mI R))++((named l).take k).map (fun t=>(R.head.rel,t,gu l))=hs at hX S;refine aJ (bS (aJ (bZ ?_)));refine gA Z ?_;refine aJ (bZ ?_);refine gA Z ?_;refine aJ (fQ ⟨[(1,.ptr 0 0),(4,.mp 2),(8,.ptr 3 0),(10,.ptr 4 0),(32,.iv (cW 5 p.rules ae.c)),(33,pI p.rules.length),(34,pI n),(39,.iv (lits R.body)),(40,pI R.body.length),(41,pI i),(46,.iv (strs (named l))),(47,pI (named l).length),(48,pI k),(12,pS ((named l).getD k em)),(13,pI (gu l))],[(0,io (an p.c)),(2,io (gO (mr p.aD B))),(3,io (an R.c)),(4,io (an l.c))],5⟩ ?_ ?_)
 .refine zJ Z Z (fun h4=>?_) fun h4=>?_
  .have h4:l.kind=1:=zT h4;refine gA Z (fH [] ?_);exact zM (bv (bv (bv (bv (bv (bv (bv (bv (bv (bv (bv (bv (bv (bv ⟨.of_eq (by rw[gu,am h4];rfl),rfl,ac⟩)))))))))))))) (zK (zC (zK (zK ac))))
  .have h4: ¬l.kind=1:=zF h4;refine gA Z (fH [] ?_);exact zM (bv (bv (bv (bv (bv (bv (bv (bv (bv (bv (bv (bv (bv (bv ⟨.of_eq (by rw[gu,be h4];rfl),rfl,ac⟩)))))))))))))) (zK (zC (zK (zK ac))))
 refine iJ (bE 12 ?_);refine gA Z ?_;refine eG (Io (d:=65) hX (show PV.iv (.v (.map (bU .str (mr p.aD B) R.head.rel jp)))=_ by rw[j0])) fun t Y F=>?_;obtain⟨rfl,rfl⟩:=F;refine eG (Ke (b:=b.1) (j:=5) (e:=b.2) (d:=59) (p:= .mp 5) (bd.dw _ _ _) fun M N U x hu n0 _ hv=>?_) fun t Y F=>?_
 .have hv:VR M N U (PV.iv (.v (.map (bU .str (mr p.aD B) R.head.rel jp)))) x:=hv;rw[j0]at hv;cases hv with
  |iv _ _ hi=>cases hi with
   |v=>rw[<-n0];exact .mp 5 hu
 obtain⟨rfl,rfl⟩:=F;refine bE 4 ?_;refine gA Z ?_;refine fc (ju (Ek (xt (b:=b.1) (e:=b.2) (i:=5) (o:=ct (JK (lE hs R.head.rel) ((named l).getD k em) (gu l))) (bd.dw _ _ _) Z Z ac) fun t Y F=>?_));obtain⟨rfl,rfl⟩:=F;rw[bd.G9];refine bZ ?_;refine gA Z ⟨h3,⟨⟩,[],S,zW (zK (zC (zK (zK ac))))⟩
end Go.Proofs.YtflegjieadkonaaGreatDoor
namespace Go.Proofs.YtflegjieadkonaaGreatDoor
open Go Go.Al Go.Proofs.Tryz Go.Tj
def sK(e:Option aj)(i:Nat)(l:List aj):PV:=match e,l with
 |some _,[]=> .sl i 1 0 1
 |_,l=> .sl i 0 l.length 1
def sL(e:Option aj)(l:List aj):AO:=match e,l with
 |some y,[]=> .row 1 [[pS y]]
 |_,l=>aG 1 l cX
theorem n7(σ:Nat->Nat)(e:Option aj)(i:Nat)(l:List aj):(sK e i l).da σ=sK e (σ i) l:=by cases e<;>cases l<;>rfl
theorem n8(σ:Nat->Nat)(e:Option aj)(l:List aj):(sL e l).da σ=sL e l:=by
 cases e<;>cases l<;>first|rfl|exact bA σ
theorem Df{n i:Nat}(h:Zb i n=kw)(e:Option aj)(l:List aj):(sK e i l).low n=kw:=by cases e<;>cases l<;>exact h
theorem Di(n:Nat)(e:Option aj)(l:List aj):(sL e l).low n:=by
 cases e with
 |none=>exact cJ n
 |some y=>
  cases l with
  |nil=>
   intro k e b;cases k with
   |zero=>cases b;rfl
   |succ k=>cases b
  |cons=>exact cJ n
theorem De{e:Option aj}{i:Nat}{l:List aj}(h:e=jp∨l≠ []):sK e i l= .sl i 0 l.length 1:=by
 cases e with
 |none=>rfl
 |some y=>cases l with
  |nil=>exact absurd Z (h.resolve_left (by simp))
  |cons=>rfl
theorem Dg{e:Option aj}{l:List aj}(h:e=jp∨l≠ []):sL e l=aG 1 l cX:=by
 cases e with
 |none=>rfl
 |some y=>cases l with
  |nil=>exact absurd Z (h.resolve_left (by simp))
  |cons=>rfl
structure TW where
 low:NM
 on:NM
 ring:NM
 stack:List aj
 wE:Option aj
def TW.st(w:TW):St aj:=⟨fun a=>bU .str w.low a 0,fun a=>bU .str w.on a 0,fun a=>bU .str w.ring a 0,w.low.length,w.stack⟩
structure TW.Ok (V:List aj) (w:TW):Prop where
 nz: ∀a∈w.low.map Zl,bU .str w.low a 0≠0
 nd:(w.low.map Zl).Nodup
 sub: ∀a∈w.low.map Zl,a∈V
abbrev CW:PV:= .dq (.func 92) [] [.ptr 0 0,.ptr 1 0,.ptr 2 0,.ptr 3 0,.ptr 4 0,.ptr 5 0]
abbrev tO(G:IV)(w:TW):List AO:=[.cells [.mp 6],.cells [.mp 7],.cells [sK w.wE 9 w.stack],.cells [.iv G],.cells [CW],.cells [.mp 8],ct w.low,ct w.on,ct w.ring,sL w.wE w.stack]
abbrev tH(G:IV)(w:TW)(k:Nat):AH:=[(0,io (.cells [.mp 6])),(1,io (.cells [.mp 7])),(2,io (.cells [sK w.wE k w.stack])),(3,io (.cells [.iv G])),(4,io (.cells [CW])),(5,io (.cells [.mp 8])),
 (6,io (ct w.low)),(7,io (ct w.on)),(8,io (ct w.ring)),(k,io (sL w.wE w.stack))]
theorem xj{n k:Nat}{σ:Nat->Nat}{h:AH}{G:IV}{w:TW}{B:PV}{x y A:NM}{o:AO}(b:aaM 9 n=kw)(bk:Zb k n=kw)(hs: ∀i,i<9->σ i=i)
  (g0:h.get 0=io (.cells [.mp 6])) (g1:h.get 1=io (.cells [.mp 7])) (g2:h.get 2=io (.cells [B])) (g3:h.get 3=io (.cells [.iv G])) (g4:h.get 4=io (.cells [CW])) (g5:h.get 5=io (.cells [.mp 8]))
  (g6:h.get 6=io (ct x)) (g7:h.get 7=io (ct y)) (g8:h.get 8=io (ct A)) (g9:h.get (σ k)=io o)
  (e2:B=sK w.wE (σ k) w.stack) (D:x=w.low) (F:y=w.on) (I:A=w.ring) (J:gf o (sL w.wE w.stack)):nX n σ h (tH G w k):=by
 have S:=YP b;have bk:=YP bk;have hb: ∀i,i<9->Zb i n=kw:=fun i d=>Zy (by omega);subst e2 D F I;have r: ∀i,i<9->PV.mp (σ i)=PV.mp i:=fun i d=>by rw[hs i d]
 have j: ∀i,i<9->PV.ptr (σ i) 0=PV.ptr i 0:=fun i d=>by rw[hs i d]
 have u: ∀i,i<9->bq n [PV.mp i]=kw:=fun i d=>by simp only[bq,PV.low,hb i d]
 refine⟨⟨_,by rw[hs 0 (by omega)];exact g0,.of_eq (by simp only[AO.da,dK,PV.da,r 6 (by omega)])⟩,by omega,u 6 (by omega),
  ⟨_,by rw[hs 1 (by omega)];exact g1,.of_eq (by simp only[AO.da,dK,PV.da,r 7 (by omega)])⟩,by omega,u 7 (by omega),
  ⟨_,by rw[hs 2 (by omega)];exact g2,.of_eq (by simp only[AO.da,dK,n7])⟩,by omega,by simp only[AO.low,bq,Df (Zy bk)],
  ⟨_,by rw[hs 3 (by omega)];exact g3,.of_eq Z⟩,by omega,rfl,
  ⟨_,by rw[hs 4 (by omega)];exact g4,.of_eq (by simp only[AO.da,dK,PV.da,j 0 (by omega),j 1 (by omega),j 2 (by omega),j 3 (by omega),j 4 (by omega),j 5 (by omega)])⟩,by omega,by simp only[AO.low,bq,PV.low,hb 0 (by omega),hb 1 (by omega),hb 2 (by omega),hb 3 (by omega),hb 4 (by omega),hb 5 (by omega)],
  ⟨_,by rw[hs 5 (by omega)];exact g5,.of_eq (by simp only[AO.da,dK,PV.da,r 8 (by omega)])⟩,by omega,u 8 (by omega),
  ⟨_,by rw[hs 6 (by omega)];exact g6,.of_eq Z⟩,by omega,ac,
  ⟨_,by rw[hs 7 (by omega)];exact g7,.of_eq Z⟩,by omega,ac,
  ⟨_,by rw[hs 8 (by omega)];exact g8,.of_eq Z⟩,by omega,ac,
  ⟨_,g9,by rw[n8];exact J⟩,bk,Di _ _ _,ac⟩
theorem BD(m:NM)(b:aj)(v:Int):(fun x=>bU .str (cF .str m b v) x 0)=Bw (fun x=>bU .str m x 0) b v:=by
 funext x
 rw[kL,Bw];by_cases h:b=x
 .rw[am h,am h.symm]
 .rw[be h,be fun e=>h e.symm]
def TW.push(w:TW)(a:aj):TW:=⟨cF .str w.low a ((w.low.length:Int)+1),cF .str w.on a 1,w.ring,w.stack++ [a],jp⟩
theorem TW.key{V:List aj}{w:TW}(h:w.Ok V){a:aj}(h0:w.st.low a=0):a∉w.low.map Zl:=fun g=>h.nz a g h0
theorem vP{m:NM}{a:aj}{v:Int}(h:a∉m.map Zl):(cF .str m a v).length=m.length+1:=by
 have:=congrArg abi (dV (v:=v) h);simpa using this
theorem TW.PM{V:List aj}{w:TW}(h:w.Ok V){a:aj}(h0:w.st.low a=0):(w.push a).st=Go.Tj.push w.st a:=
 St.eq (BD _ _ _) (BD _ _ _) Z (vP (TW.key h h0)) Z
theorem TW.PN{V:List aj}{w:TW}(h:w.Ok V){a:aj}(h0:w.st.low a=0)(ha:a∈V):(w.push a).Ok V:=by
 have d:=TW.key h h0;refine⟨fun x b=>?_,?_,fun x b=>?_⟩
 .show bU .str (cF .str w.low a _) x 0≠0;rw[kL];split
  .omega
  .rename_i j;have b:x∈(cF .str w.low a ((w.low.length:Int)+1)).map Zl:=b;rw[dV d,Y6,Y4]at b;exact h.nz x (b.resolve_right fun e=>j e.symm)
 .show((cF .str w.low a _).map Zl).Nodup;rw[dV d,aaP];exact⟨h.nd,by simp,fun u hu v y e=>d (by rw[Y4]at y;subst e;subst y;exact hu)⟩
 .have b:x∈(cF .str w.low a ((w.low.length:Int)+1)).map Zl:=b;rw[dV d,Y6,Y4]at b;rcases b with b|rfl
  .exact h.sub x b
  .exact ha
theorem TW.len{V:List aj}{w:TW}(h:w.Ok V):w.low.length<=V.length:=by
 have:=aay h.nd (l₂:=V) h.sub;simpa using this
theorem TW.Aa{V:List aj}{w:TW}(h:w.Ok V){succ:aj->List aj}{path:List aj}(hI:Inv succ path w.st):w.stack.length<=V.length:=by
 refine aay (l₂:=V) ?_ fun y A=>?_
 .refine ab9 ?_ hI.Vb;intro x y u e;subst e;omega
 .have b:=(hI.Aa y).2 A;have d:w.st.low y≠0:=xO hI b;refine h.sub y (Z8 fun j=>d (yb j))
def TW.pop(w:TW)(u:List aj)(b:aj)(d:Int):TW:=⟨w.low,cF .str w.on b 2,cF .str w.ring b d,u,io b⟩
theorem TW.K1{w:TW}{u:List aj}{b:aj}(h:w.stack=u++ [b])(d:Int):(w.pop u b d).st=BU d w.st:=by
 have j:w.st.stack.getLast? =io b:=by show w.stack.getLast? =_;rw[h];simp
 have x:w.st.stack.dropLast=u:=by show w.stack.dropLast=_;rw[h];simp
 unfold BU;rw[j];exact St.eq Z (BD _ _ _) (BD _ _ _) Z x.symm
theorem TW.Ub{V:List aj}{w:TW}(h:w.Ok V)(u:List aj)(b:aj)(d:Int):(w.pop u b d).Ok V:=⟨h.nz,h.nd,h.sub⟩
theorem VX(b:km){p:Prog}(hf:nf p)(d:(c4 p).length<=100000000)(a:aj):Pure prog 52 [.iv (CN (lE (c4 p) a))] (.iv (strs (bJ p a))):=by
 rw[<-Db hf];exact KA b _ (ZI (KP _ _) d)
abbrev Vm(a:aj):List PV:=[pS a,.ptr 0 0,.ptr 1 0,.ptr 2 0,.ptr 3 0,.ptr 4 0,.ptr 5 0]
abbrev vF(a:aj):AF:=[(0,pS a),(1,.ptr 0 0),(2,.ptr 1 0),(3,.ptr 2 0),(4,.ptr 3 0),(5,.ptr 4 0),(6,.ptr 5 0)]
def U4(p:Prog)(f:Nat):Prop:= ∀(path:List aj) (a:aj) (w:TW),w.Ok (ns p)->Inv (bJ p) path w.st->w.st.low a=0->a∈ns p->(∀g∈path,pO (bJ p) g a)->l0 (ns p) w.st<=f->
 Go.Al.Fn prog 92 (Vm a) (tO (AT (cY p (c4 p))) w) fun r h n=> ∃b:TW,b.Ok (ns p)∧b.st=(fm (bJ p) f a w.st).2∧r=pI (fm (bJ p) f a w.st).1∧h=tH (AT (cY p (c4 p))) b 10∧n=11
theorem LU(p:Prog)(hs:List (aj×aj×Nat)){a:aj}(h:a∈p.aD.map Decl.name):(IT (bU .str (cY p hs) a jp)).pv= .iv (CN (lE hs a)):=by rw[LV p hs h];rfl
theorem TC(G:IV)(w:TW){n:Nat}:[io (AO.cells [PV.mp 6]),io (.cells [.mp 7]),io (.cells [sK w.wE 11 w.stack]),io (.cells [.iv G]),io (.cells [CW]),io (.cells [.mp 8]),io (ct w.low),io (ct w.on),io (ct w.ring),io (sL w.wE w.stack)]=
  (tO G w).map fun o=>io (o.da (sig [0,1,2,3,4,5,6,7,8,11] n)):=by
 have b:=n7 (sig [0,1,2,3,4,5,6,7,8,11] n) w.wE 9 w.stack;have d:=n8 (sig [0,1,2,3,4,5,6,7,8,11] n) w.wE w.stack;show _=[io (AO.cells [PV.mp 6]),io (.cells [.mp 7]),io (.cells [(sK w.wE 9 w.stack).da (sig [0,1,2,3,4,5,6,7,8,11] n)]),io (.cells [.iv G]),io (.cells [CW]),io (.cells [.mp 8]),io (ct w.low),io (ct w.on),io (ct w.ring),io ((sL w.wE w.stack).da (sig [0,1,2,3,4,5,6,7,8,11] n))]
 rw[b,d];rfl
theorem Kh(u:List aj)(b:aj):((u++ [b]).map fun x=>(cX x).map PV.iv)[0+((((u.length+1:Nat):Int)-1).toNat)]? =io [pS b]:=by
 rw[Zh,show(((u.length+1:Nat):Int)-1).toNat=u.length by omega];simp[cX]
theorem Ki(i:Nat)(u:List aj)(b:aj):(u.length=0∧sK (io b) i u= .sl i 1 0 1)∨(0<u.length∧sK (io b) i u= .sl i 0 u.length 1):=by
 cases u with
 |nil=>exact .inl ⟨rfl,rfl⟩
 |cons x r=>exact .inr ⟨by simp,rfl⟩
theorem Dh(u:List aj)(b:aj):gf (aG 1 (u++ [b]) cX) (sL (io b) u):=by
 cases u with
 |nil=>exact .of_eq Z
 |cons x r=>
  have e:sL (io b) (x::r)= .row 1 (((x::r++ [b]).map fun y=>(cX y).map PV.iv).take (x::r).length):=by
   rw[<-List.map_take,List.take_left];rfl
  rw[e];exact .take
theorem wQ{p:Prog}: ∀a∈ns p,∀b∈bJ p a,b∈ns p:=fun _ _ _ h=>(Zw.1 h).1
theorem vi{p:Prog}(hf:nf p):(ns p).length<=64:=by
 have:=hf.len;rw[ns,jD,Zo];exact this
theorem JV(hS:km){p:Prog}(hf:nf p)(hl:(c4 p).length<=100000000)(f:Nat)(ih:U4 p f):U4 p (f+1):=by
 intro path a w j0 hI h0 S hp hw;have i0:=vi hf;have f1:=ni hI.pD S h0;have n1:=TW.len j0;have q1:=TW.Aa j0 hI;have r0:a∈p.aD.map Decl.name:=by rw[ns,gn]at S;exact S
 have D:=TW.PM j0 h0;have v0:=TW.PN j0 h0 S;have p1:=Z4 (eg p a) (ns p);refine yv ab func92 Z (by decide) ntmps92 Z (by simp) ?_;refine go_cut 6 (fun _:Unit=>⟨(9,pI ((w.low.length:Int)+1))::(10,pI ((w.low.length:Int)+1))::vF a,tH (AT (cY p (c4 p))) (w.push a) 10,11⟩) Z ?_ ?_
 .have p0:bU .str (cF .str w.low a ((w.low.length:Int)+1)) a 0=(w.low.length:Int)+1:=by rw[kL,am Z]
  by_cases hu:w.wE=jp∨w.stack≠ []
  .rw[show tO (AT (cY p (c4 p))) w=[.cells [.mp 6],.cells [.mp 7],.cells [.sl 9 0 w.stack.length 1],.cells [.iv (AT (cY p (c4 p)))],.cells [CW],.cells [.mp 8],ct w.low,ct w.on,ct w.ring,aG 1 w.stack cX] by
    unfold tO;rw[De hu,Dg hu]]
   refine gA Z (fy () [11] ?_);exact wk Z Z Z ⟨.of_eq (congrArg pI p0),rfl,.of_eq (congrArg pI p0),rfl,bv (bv (bv (bv (bv (bv (bv ac))))))⟩
    (xj (w:=w.push a) Z Z (fun i Y=>gx (by show i<10;omega)) Z Z Z Z Z Z Z Z Z Z (by show _=PV.sl 11 0 (w.stack++ [a]).length 1;rw[YS];rfl) Z Z Z (.of_eq (by show _=aG 1 (w.stack++ [a]) cX;rw[aG,YX];rfl))) Z
  .obtain⟨y,hy,w0⟩: ∃y,w.wE=io y∧w.stack=[]:=by
    cases hg:w.wE with
    |none=>exact absurd (.inl hg) hu
    |some y=>exact⟨y,rfl,Z8 fun h=>hu (.inr h)⟩
   rw[show tO (AT (cY p (c4 p))) w=[.cells [.mp 6],.cells [.mp 7],.cells [.sl 9 1 0 1],.cells [.iv (AT (cY p (c4 p)))],.cells [CW],.cells [.mp 8],ct w.low,ct w.on,ct w.ring,.row 1 [[pS y]]] by
    unfold tO;rw[hy,w0];rfl]
   refine gA Z (Cq ab Z Z Z Z Z Z Z Z Z (by simp) (by simp) (mU Z) Z ?_);refine gA Z (fy () [11] ?_);exact wk Z Z Z ⟨.of_eq (congrArg pI p0),rfl,.of_eq (congrArg pI p0),rfl,bv (bv (bv (bv (bv (bv (bv ac))))))⟩
    (xj (w:=w.push a) Z Z (fun i Y=>gx (by show i<10;omega)) Z Z Z Z Z Z Z Z Z Z (by show _=PV.sl 11 0 (w.stack++ [a]).length 1;rw[w0];rfl) Z Z Z (.of_eq (by show _=aG 1 (w.stack++ [a]) cX;rw[w0];rfl))) Z
 intro _;have Y:=DC hI h0 hp;rw[<-D]at f1 Y;have hm:((w.push a).low.length:Int)=(w.low.length:Int)+1:=by
  have:=vP (v:=(w.low.length:Int)+1) (TW.key j0 h0);show(((cF .str w.low a _).length:Nat):Int)=_;rw[this];omega
 have la:(w.push a).st.low a=(w.st.n:Int)+1:=by rw[D];exact l5 _ _ _
 have oa:(w.push a).st.on a=1:=by rw[D];exact l5 _ _ _
 have i1:gE (bJ p) path a w.st [] ((w.st.n:Int)+1,Go.Tj.push w.st a) []:=
  ⟨D▸Y,.refl _,rfl,fun y hy=>(nomatch hy),aa3 _,fun y hy=>(nomatch hy),fun z hz=>(nomatch hz),fun z hz=>(nomatch hz),⟨a,D▸oa,D▸la,.refl _⟩⟩
 have m0:=fun pa b s=>sD (succ:=bJ p) wQ f pa b s
 let I:Nat->Int×St aj:=fun i=>((bJ p a).take i).foldl (Go.Tj.fD (fm (bJ p) f)) ((w.st.n:Int)+1,Go.Tj.push w.st a)
 have g0: ∀i,∃t,gE (bJ p) path a w.st ((bJ p a).take i) (I i) t:=fun i=>by
  have:=vm wQ m0 hI h0 S (by rw[<-D];omega) ((bJ p a).take i) [] _ [] i1 fun b hb=>abk hb;rwa[aaw]at this
 refine gM 5 Z (Qk ab (.iv (CN (lE (c4 p) a))) Z Z Z Z (LU p _ r0) Z ?_);refine gA Z (zp (VX hS hf hl a) ?_);refine gA Z ?_;refine uq 0 (bJ p a).length (YZ _) (fun i A=>⟨(9,pI ((w.low.length:Int)+1))::(10,pI (I i).1)::(32,.iv (strs (bJ p a)))::(33,pI (bJ p a).length)::(34,pI i)::vF a,tH (AT (cY p (c4 p))) A 11,12⟩)
  (fun i A=>A.Ok (ns p)∧A.st=(I i).2) (w.push a) [10] ⟨v0,D⟩
  (wk Z Z Z (bv (bv (bv (bv (bv (bv (bv (bv (bv (bv (bv (bv trivial))))))))))))
   (xj Z Z (fun i Y=>gx (by show i<11;omega)) Z Z Z Z Z Z Z Z Z Z Z Z Z Z (.refl _)) Z) fun i A t1 hJ=>?_
 obtain⟨B,x⟩:=hJ;obtain⟨t2,j⟩:=g0 i;have o1:(bJ p a).length<=64:=ZI p1 i0;refine zJ Z Z (fun h1=>?_) fun h1=>?_
 .have h1:=ci h1;have d0:I (i+1)=Go.Tj.fD (fm (bJ p) f) (I i) ((bJ p a).getD i em):=cH h1;have hb:((bJ p a).getD i em)∈bJ p a:=cS h1;have d:Go.Tj.fD (fm (bJ p) f) (I i) ((bJ p a).getD i em)=if A.st.low ((bJ p a).getD i em)=0 then(min (I i).1 (fm (bJ p) f ((bJ p a).getD i em) A.st).1,(fm (bJ p) f ((bJ p a).getD i em) A.st).2)
    else if A.st.on ((bJ p a).getD i em)=1 then(min (I i).1 (A.st.low ((bJ p a).getD i em)),A.st) else(I i):=by rw[x];rfl
  refine zJ Z Z (fun h2=>?_) fun h2=>?_
  .have h2:A.st.low ((bJ p a).getD i em)=0:=zT h2;rw[am h2]at d;have b0: ∀g∈path++ [a],pO (bJ p) g ((bJ p a).getD i em):=by
    intro g hg;have G:(I i).2.on a=1:=(j.inv.Aa a).2 (by rw[j.stack];simp);refine .step (j.inv.dn g hg a G ?_) hb;rcases Y6.1 hg with e|e
    .have:=j.pa hI h0 g e;omega
    .rw[Y4]at e;rw[e];exact aa3 _
   have s1:l0 (ns p) A.st<=f:=by
    have:=zy (V:=ns p) j.le;rw[x];rw[D]at f1;omega
   refine gA Z (HE [0,1,2,3,4,5,6,7,8,11] (ih (path++ [a]) ((bJ p a).getD i em) A B (x▸j.inv) h2 (wQ a S ((bJ p a).getD i em) hb) b0 s1) Z Z Z Z Z (TC _ _) Z ?_);rintro r h' n' ⟨w3,hok3,hst3,rfl,rfl,rfl⟩;refine⟨_,rfl,?_⟩;refine gA Z ⟨h1,w3,[12],⟨hok3,by rw[d0,d];exact hst3⟩,zM (bv ⟨.of_eq (by rw[d0,d];rfl),rfl,bv (bv (bv (bv (bv (bv (bv (bv (bv (bv ac)))))))))⟩) (xj Z Z (fun i Y=>gx (by show i<11;omega)) Z Z Z Z Z Z Z Z Z Z (n7 _ _ _ _) Z Z Z (.of_eq (n8 _ _ _)))⟩
  .have h2: ¬A.st.low ((bJ p a).getD i em)=0:=zF h2;rw[be h2]at d;refine zJ Z Z (fun h3=>?_) fun h3=>?_
   .have h3:A.st.on ((bJ p a).getD i em)=1:=zT h3;rw[am h3]at d;refine gA Z ⟨h1,A,[11],⟨B,by rw[d0,d]⟩,zM (bv ⟨.of_eq (by rw[d0,d];rfl),rfl,bv (bv (bv (bv (bv (bv (bv (bv (bv (bv ac)))))))))⟩) (xj Z Z (fun i Y=>gx (by show i<11;omega)) Z Z Z Z Z Z Z Z Z Z Z Z Z Z (.refl _))⟩
   .have h3: ¬A.st.on ((bJ p a).getD i em)=1:=zF h3;rw[be h3]at d;refine gA Z ⟨h1,A,[11],⟨B,by rw[d0,d];exact x⟩,zM (bv ⟨.of_eq (by rw[d0,d];rfl),rfl,bv (bv (bv (bv (bv (bv (bv (bv (bv (bv ac)))))))))⟩) (xj Z Z (fun i Y=>gx (by show i<11;omega)) Z Z Z Z Z Z Z Z Z Z Z Z Z Z (.refl _))⟩
 .have h1:=co h1;have l1:i=(bJ p a).length:=by omega
  subst l1;have o0:fm (bJ p) (f+1) a w.st=wJ a ((w.st.n:Int)+1) (I (bJ p a).length):=by
   show wJ a _ ((bJ p a).foldl _ _)=wJ a _ (((bJ p a).take (bJ p a).length).foldl _ _);rw[aaz]
  have a0: ∀(w':TW) (k:Nat) (u:AS) (e:Exit),e= .normal∨e= .ret->10<=k->k<u.nx->lj px u f92.results.toList=io (pI (I (bJ p a).length).1)->w'.Ok (ns p)->w'.st=(wJ a ((w.st.n:Int)+1) (I (bJ p a).length)).2->
    nX 11 (sg 10 [k]) u.h (tH (AT (cY p (c4 p))) w' 10)->Rf px f92.results.toList 10 (fun r h n=> ∃w':TW,w'.Ok (ns p)∧w'.st=(fm (bJ p) (f+1) a w.st).2∧r=pI (fm (bJ p) (f+1) a w.st).1∧h=tH (AT (cY p (c4 p))) w' 10∧n=11) e u:=by
   intro w' k u e he hk m1 hr t0 x0 hh;refine HL [k] he hr ⟨w',t0,by rw[o0];exact x0,rfl,rfl,rfl⟩ ⟨rfl,by show 10<=u.nx;omega,by simpa using m1,⟨.of_eq ?_,rfl,ac⟩,hh,?_⟩
   .show pI (I (bJ p a).length).1=pI (fm (bJ p) (f+1) a w.st).1;rw[o0];unfold wJ;split<;>rfl
   .show[0,1,2,3,4,5,6,7,8,k].Nodup;simp;omega
  generalize I (bJ p a).length=q at*
  refine zE Z Z (fun h4=>?_) fun h4=>?_
  .have h4: ¬q.1=(w.st.n:Int)+1:=zF h4;refine gA Z (a0 A 11 _ _ (.inr Z) (by omega) (by show 11<12;omega) Z B (by rw[wJ,be h4];exact x) ?_);exact xj Z Z (fun i Y=>gx (by omega)) Z Z Z Z Z Z Z Z Z Z Z Z Z Z (.refl _)
  have h4:q.1=(w.st.n:Int)+1:=zT h4;have hE:(wJ a ((w.st.n:Int)+1) q).2=ib a ((w.st.n:Int)+1) q.2.stack.length q.2:=by rw[wJ,am h4]
  have G:q.2.on a=1:=(j.inv.Aa a).2 (by rw[j.stack];simp);have hF:ib a ((w.st.n:Int)+1) (t2.length+1) q.2=(wJ a ((w.st.n:Int)+1) q).2:=by
   rw[hE,vc (by omega) j.stack j.at_ G,vc (by rw[j.stack];simp;omega) j.stack j.at_ G]
  generalize(wJ a ((w.st.n:Int)+1) q).2=F at hF a0;refine gA Z ?_;refine ox (σ:={v:TW//v.Ok (ns p)∧((∃t,v.stack=w.stack++a::t∧a∉t∧v.stack.length<=64∧v.st.on a=1∧ib a ((w.st.n:Int)+1) (t.length+1) v.st=F)∨(v.st.on a≠1∧v.st=F))})
   (fun v=>⟨(9,pI ((w.low.length:Int)+1))::(10,pI q.1)::vF a,tH (AT (cY p (c4 p))) v.1 12,13⟩) (fun v=>v.1.stack.length) ⟨A,B,.inl ⟨t2,by rw[show A.stack=A.st.stack from rfl,x];exact j.stack,j.at_,ZI (TW.Aa B (x▸j.inv)) i0,by rw[x];exact G,by rw[x];exact hF⟩⟩ [11]
   (zW (xj Z Z (fun i Y=>gx (by show i<12;omega)) Z Z Z Z Z Z Z Z Z Z Z Z Z Z (.refl _))) fun v=>?_
  obtain⟨v,k0,hJ⟩:=v;rcases hJ with⟨t,hs,b1,n0,c0,J⟩|⟨c0,g1⟩
  rotate_left
  .refine zJ Z Z (fun h5=>?_) fun h5=>?_
   .exact absurd (zT h5) c0
   refine gA Z (a0 v 12 _ _ (.inr Z) (by omega) (by show 12<13;omega) Z k0 g1 ?_);exact xj Z Z (fun i Y=>gx (by omega)) Z Z Z Z Z Z Z Z Z Z Z Z Z Z (.refl _)
  have key: ∃u b,v.stack=u++ [b]∧((b=a∧BU ((w.st.n:Int)+1) v.st=F)∨ ∃t',u=w.stack++a::t'∧a∉t'∧b≠a∧ib a ((w.st.n:Int)+1) (t'.length+1) (BU ((w.st.n:Int)+1) v.st)=F):=by
   rcases t.eq_nil_or_concat with e|⟨t',b,e⟩
   .subst e;refine⟨w.stack,a,hs,.inl ⟨rfl,?_⟩⟩;rw[Z6,ib,am c0]at J;exact J
   .rw[ab0]at e;subst e;refine⟨w.stack++a::t',b,by rw[hs];simp,.inr ⟨t',rfl,fun h=>b1 (by simp[h]),fun h=>b1 (by simp[h]),?_⟩⟩;rw[ib,am c0,YS]at J;exact J
  obtain⟨u,b,e0,f0⟩:=key;have u1:u.length+1<=64:=by rw[e0,YS]at n0;exact n0
  have e1:v.stack≠ []:=by rw[e0];simp
  have y0:v.stack.length=u.length+1:=by rw[e0,YS];rfl
  have r1:tH (AT (cY p (c4 p))) v 12=[(0,io (.cells [.mp 6])),(1,io (.cells [.mp 7])),(2,io (.cells [.sl 12 0 (u.length+1) 1])),(3,io (.cells [.iv (AT (cY p (c4 p)))])),(4,io (.cells [CW])),(5,io (.cells [.mp 8])),
    (6,io (ct v.low)),(7,io (ct v.on)),(8,io (ct v.ring)),(12,io (aG 1 (u++ [b]) cX))]:=by
   unfold tH;rw[De (.inr e1),Dg (.inr e1),y0,e0]
  show GO prog _ _ _ ⟨_,tH (AT (cY p (c4 p))) v 12,_⟩;rw[r1];refine zE Z Z (fun h5=>?_) fun h5=>?_
  .exact absurd c0 (zF h5)
  refine gM 9 Z (bp ab Z Z Z Z Z (Kh u b) Z Z ?_);have a1:(v.pop u b ((w.st.n:Int)+1)).Ok (ns p)∧((∃t,(v.pop u b ((w.st.n:Int)+1)).stack=w.stack++a::t∧a∉t∧(v.pop u b ((w.st.n:Int)+1)).stack.length<=64∧(v.pop u b ((w.st.n:Int)+1)).st.on a=1∧ib a ((w.st.n:Int)+1) (t.length+1) (v.pop u b ((w.st.n:Int)+1)).st=F)∨((v.pop u b ((w.st.n:Int)+1)).st.on a≠1∧(v.pop u b ((w.st.n:Int)+1)).st=F)):=by
   refine⟨TW.Ub k0 u b _,?_⟩;rcases f0 with⟨rfl,q0⟩|⟨t',hu,s0,j1,q0⟩
   .refine .inr ⟨?_,by rw[TW.K1 e0];exact q0⟩;show bU .str (cF .str v.on b 2) b 0≠1;rw[kL,am Z];decide
   .refine .inl ⟨t',hu,s0,by show u.length<=64;omega,?_,by rw[TW.K1 e0];exact q0⟩;show bU .str (cF .str v.on b 2) a 0=1;rw[kL,be j1];exact c0
  have d1:(v.pop u b ((w.st.n:Int)+1)).stack.length<v.stack.length:=by show u.length<v.stack.length;omega
  rcases Ki 12 u b with hc|hc
  .refine gA Z (HF ab u.length Z Z Z Z Z Z Z (by omega) (by omega) (by omega) (.inl ⟨hc.1,rfl⟩) Z ?_);refine gA Z ⟨⟨v.pop u b ((w.st.n:Int)+1),a1⟩,[12],d1,zW (xj Z Z (fun i Y=>gx (by show i<12;omega)) Z Z Z Z Z Z Z Z Z Z hc.2.symm Z Z Z (Dh u b))⟩
  .refine gA Z (HF ab u.length Z Z Z Z Z Z Z (by omega) (by omega) (by omega) (.inr ⟨hc.1,rfl⟩) Z ?_);refine gA Z ⟨⟨v.pop u b ((w.st.n:Int)+1),a1⟩,[12],d1,zW (xj Z Z (fun i Y=>gx (by show i<12;omega)) Z Z Z Z Z Z Z Z Z Z hc.2.symm Z Z Z (Dh u b))⟩
theorem Vl(d:km){p:Prog}(hf:nf p)(j:(c4 p).length<=100000000): ∀f,U4 p f
 |0=>fun path a w x hI u b y A=>by
  have:=ni hI.pD b u;omega
 |f+1=>JV d hf j f (Vl d hf j f)
theorem ID(b:km){p:Prog}(hf:nf p)(hs:List (aj×aj×Nat)):Pure prog 51 [.iv (AT (cY p hs))] (.iv (strs (ns p))):=by
 have h:=KB b (cY p hs) (by have:=hf.len;simp[cY];omega);rw[show(cY p hs).map (·.1)=p.aD.map Decl.name from F6 p hs]at h;exact h
abbrev PK:PV:= .dq (.func 92) [] [.ptr 4 0,.ptr 5 0,.ptr 7 0,.ptr 0 0,.ptr 8 0,.ptr 6 0]
abbrev rH(G:IV)(w:TW)(k:Nat):AH:=[(0,io (.cells [.iv G])),(1,io (ct w.low)),(2,io (ct w.on)),(3,io (ct w.ring)),(4,io (.cells [.mp 1])),(5,io (.cells [.mp 2])),(6,io (.cells [.mp 3])),(7,io (.cells [sK w.wE k w.stack])),(8,io (.cells [PK])),(k,io (sL w.wE w.stack))]
theorem S4{n k:Nat}{σ:Nat->Nat}{h:AH}{G:IV}{w:TW}{B:PV}{x y A o:AO}(b:aaM 9 n=kw)(bk:Zb k n=kw)(hs: ∀i,i<9->σ i=i)
  (g0:h.get 0=io (.cells [.iv G])) (g1:h.get 1=io x) (g2:h.get 2=io y) (g3:h.get 3=io A)
  (g4:h.get 4=io (.cells [.mp 1])) (g5:h.get 5=io (.cells [.mp 2])) (g6:h.get 6=io (.cells [.mp 3])) (g7:h.get 7=io (.cells [B])) (g8:h.get 8=io (.cells [PK])) (g9:h.get (σ k)=io o)
  (e1:gf x (ct w.low)) (e2:gf y (ct w.on)) (e3:gf A (ct w.ring)) (D:B=sK w.wE (σ k) w.stack) (F:gf o (sL w.wE w.stack)):nX n σ h (rH G w k):=by
 have I:=YP b;have bk:=YP bk;have hb: ∀i,i<9->Zb i n=kw:=fun i d=>Zy (by omega);subst D;have r: ∀i,i<9->PV.mp (σ i)=PV.mp i:=fun i d=>by rw[hs i d]
 have j: ∀i,i<9->PV.ptr (σ i) 0=PV.ptr i 0:=fun i d=>by rw[hs i d]
 have u: ∀i,i<9->bq n [PV.mp i]=kw:=fun i d=>by simp only[bq,PV.low,hb i d]
 refine⟨⟨_,by rw[hs 0 (by omega)];exact g0,.of_eq Z⟩,by omega,rfl,
  ⟨_,by rw[hs 1 (by omega)];exact g1,e1⟩,by omega,ac,
  ⟨_,by rw[hs 2 (by omega)];exact g2,e2⟩,by omega,ac,
  ⟨_,by rw[hs 3 (by omega)];exact g3,e3⟩,by omega,ac,
  ⟨_,by rw[hs 4 (by omega)];exact g4,.of_eq (by simp only[AO.da,dK,PV.da,r 1 (by omega)])⟩,by omega,u 1 (by omega),
  ⟨_,by rw[hs 5 (by omega)];exact g5,.of_eq (by simp only[AO.da,dK,PV.da,r 2 (by omega)])⟩,by omega,u 2 (by omega),
  ⟨_,by rw[hs 6 (by omega)];exact g6,.of_eq (by simp only[AO.da,dK,PV.da,r 3 (by omega)])⟩,by omega,u 3 (by omega),
  ⟨_,by rw[hs 7 (by omega)];exact g7,.of_eq (by simp only[AO.da,dK,n7])⟩,by omega,by simp only[AO.low,bq,Df (Zy bk)],
  ⟨_,by rw[hs 8 (by omega)];exact g8,.of_eq (by simp only[AO.da,dK,PV.da,j 0 (by omega),j 4 (by omega),j 5 (by omega),j 6 (by omega),j 7 (by omega),j 8 (by omega)])⟩,by omega,by simp only[AO.low,bq,PV.low,hb 0 (by omega),hb 4 (by omega),hb 5 (by omega),hb 6 (by omega),hb 7 (by omega),hb 8 (by omega)],
  ⟨_,g9,by rw[n8];exact F⟩,bk,Di _ _ _,ac⟩
theorem x7{V:Type}{kc:KC}{ev:V->IV}{z:V}{b:Value}{d:PV->V}(x: ∀M,IR M (ev z) b):gf .gH (.map kc ev z b d []):=
 ⟨id,fun M N U w j u=>⟨#[],0,u,⟨rfl,by simp,by simp,by simp,by simp⟩,x M⟩⟩
def TW.o:TW:=⟨[],[],[],[],jp⟩
theorem T8(G:IV)(w:TW){n:Nat}:[io (AO.cells [PV.mp 1]),io (.cells [.mp 2]),io (.cells [sK w.wE 10 w.stack]),io (.cells [.iv G]),io (.cells [PK]),io (.cells [.mp 3]),io (ct w.low),io (ct w.on),io (ct w.ring),io (sL w.wE w.stack)]=
  (tO G w).map fun o=>io (o.da (sig [4,5,7,0,8,6,1,2,3,10] n)):=by
 have b:=n7 (sig [4,5,7,0,8,6,1,2,3,10] n) w.wE 9 w.stack;have d:=n8 (sig [4,5,7,0,8,6,1,2,3,10] n) w.wE w.stack;show _=[io (AO.cells [PV.mp 1]),io (.cells [.mp 2]),io (.cells [(sK w.wE 9 w.stack).da (sig [4,5,7,0,8,6,1,2,3,10] n)]),io (.cells [.iv G]),io (.cells [PK]),io (.cells [.mp 3]),io (ct w.low),io (ct w.on),io (ct w.ring),io ((sL w.wE w.stack).da (sig [4,5,7,0,8,6,1,2,3,10] n))]
 rw[b,d];rfl
theorem TN(D:km){p:Prog}(hf:nf p)(Y:(c4 p).length<=100000000):Go.Al.Fn prog 53 [.iv (AT (cY p (c4 p)))] [] fun r h n=> ∃m:NM,Go.Rg.y9 (ns p) (eg p) (fun a=>bU .str m a 0)∧r= .iv (CN m)∧h=[]∧n=0:=by
 have F:=vi hf;refine yv ab func53 Z (by decide) ntmps53 Z (by simp) ?_;refine gA Z (zp (ID D hf (c4 p)) ?_);refine gA Z ?_;refine ov 7 0 1 Z Z ?_
 let x:Nat->St aj:=fun i=>jm (bJ p) (ns p).length ((ns p).take i) St.o
 have y: ∀i,Inv (bJ p) [] (x i):=fun i=>(u0 wQ (YY _) ((ns p).take i) St.o (fun a h=>abk h) (SC _)).1
 refine uq 0 (ns p).length (YZ _) (fun i w=>⟨[(3,.ptr 4 0),(4,.ptr 5 0),(5,.ptr 6 0),(6,.ptr 7 0),(7,.ptr 8 0),(15,.iv (strs (ns p))),(16,pI (ns p).length),(17,pI i)],rH (AT (cY p (c4 p))) w 10,11⟩)
  (fun i w=>w.Ok (ns p)∧w.st=x i) TW.o [9] ⟨⟨fun a h=>(nomatch h),ZT,fun a h=>(nomatch h)⟩,rfl⟩
  (wk Z Z Z (bv (bv (bv (bv (bv (bv (bv (bv trivial))))))))
   (S4 Z Z (fun i B=>gx (by show i<10;omega)) Z Z Z Z Z Z Z Z Z Z (x7 im) (x7 im) (x7 im) Z (.of_eq Z)) Z) fun i w B J=>?_
 obtain⟨A,u⟩:=J;refine zJ Z Z (fun b=>?_) fun b=>?_
 .have b:=ci b;have j:x (i+1)=if(x i).low ((ns p).getD i em)=0 then(fm (bJ p) (ns p).length ((ns p).getD i em) (x i)).2 else x i:=cH b;refine zJ Z Z (fun d=>?_) fun d=>?_
  .have d:w.st.low ((ns p).getD i em)=0:=zT d;rw[<-u,am d]at j;refine gA Z (HE [4,5,7,0,8,6,1,2,3,10] (Vl D hf Y (ns p).length [] ((ns p).getD i em) w A (u▸y i) d (cS b) (fun g S=>nomatch S) (Z4 _ _)) Z Z Z Z Z (T8 _ _) Z ?_);rintro r h' n' ⟨w3,hok3,hst3,rfl,rfl,rfl⟩;refine⟨_,rfl,?_⟩;refine gA Z ?_
   exact⟨b,w3,[11],⟨hok3,by rw[j];exact hst3⟩,wk Z Z Z (bv (bv (bv (bv (bv (bv (bv (bv ac))))))))
    (S4 Z Z (fun i B=>gx (by show i<10;omega)) Z Z Z Z Z Z Z Z Z Z (.refl _) (.refl _) (.refl _) (n7 _ _ _ _) (.of_eq (n8 _ _ _))) Z⟩
  .have d: ¬w.st.low ((ns p).getD i em)=0:=zF d;rw[<-u,be d]at j;refine gA Z ?_
   exact⟨b,w,[10],⟨A,j.symm⟩,wk Z Z Z (bv (bv (bv (bv (bv (bv (bv (bv ac))))))))
    (S4 Z Z (fun i B=>gx (by show i<10;omega)) Z Z Z Z Z Z Z Z Z Z (.refl _) (.refl _) (.refl _) Z (.refl _)) Z⟩
 .have b:=co b;have hr:Go.Rg.y9 (ns p) (eg p) (fun a=>bU .str w.ring a 0):=by
   have d:=KS hf.nodup (YY (ns p).length);have G:x i=jm (bJ p) (ns p).length (ns p) St.o:=by show jm _ _ ((ns p).take i) _=_;rw[Y1 b]
   have I:(fun a=>bU .str w.ring a 0)=(jm (bJ p) (ns p).length (ns p) St.o).ring:=by rw[<-G,<-u];rfl
   rw[I];exact d
  refine gA Z ⟨.inr Z,_,rfl,lu.map 3 Z (.done ⟨.iv (CN w.ring),[],0,[],⟨w.ring,hr,rfl,rfl,rfl⟩,?_⟩)⟩;exact⟨rfl,YZ _,by simp,⟨.of_eq Z,rfl,ac⟩,ac,ZT⟩
end Go.Proofs.YtflegjieadkonaaGreatDoor
namespace Go.Proofs.YtflegjieadkonaaGreatDoor
open Go Go.Al Go.Proofs.Tryz
theorem TU(l:List aj)(s:aj):Pure prog 129 [.iv (strs l),pS s] (pI (tk (fun x:aj=>li (s=x)) l)):=by
 refine mu (bH func129 Z (by decide)) ⟨_,_,Y8⟩ fun j=>?_;simp only[maxLen]at j;refine ah ab func129 Z (by decide) ntmps129 Z (by simp) Z ?_;refine gA Z ?_
 refine az 0 l.length (YZ _) (fun i=>⟨[(0,.iv (strs l)),(1,pS s),(7,pI l.length),(8,pI i)],[],0⟩) (fun i=>(l.take i).any (fun x:aj=>li (s=x))=lc) [] (by simp)
  (mW Z Z (bv (bv (bv (bv trivial)))) Z) fun i y u=>?_
 refine zJ Z Z (fun b=>?_) fun b=>?_
 .have b:=ci b;refine zJ Z Z (fun d=>?_) fun d=>?_
  .have d:(fun x:aj=>li (s=x)) (l.getD i em)=kw:=d;rw[je u b d];exact zU Z
  .have d:(fun x:aj=>li (s=x)) (l.getD i em)=lc:=d;refine gA Z ⟨b,(aW u b).2 d,[],mW Z Z (bv (bv (bv (bv ac)))) Z⟩
 .have b:=co b;rw[iH (any_none u b)];exact zU Z
theorem Q3(l:List aj)(s:aj):(l.any fun x=>li (s=x))=aE l s:=by
 rw[ZE,aM,ZG];constructor
 .rintro⟨x,hx,h⟩;exact(zT h)▸hx
 .exact fun h=>⟨s,h,decide_eq_true Z⟩
theorem Ac(l:List aj)(s:aj):Pure prog 99 [.iv (strs l),pS s] (pB (aE l s)):=by
 refine ah ab func99 Z (by decide) ntmps99 Z (by simp) Z ?_;refine gA Z (zp (TU l s) ?_);refine gA Z (zL (.of_eq ?_));exact fO (by rw[<-Q3];exact jY _ l)
def rM(m:NM)(r:ae)(l:Lit):Bool:=li (l.kind=1)&&li (bU .str m l.atom.rel 0=bU .str m r.head.rel 0)
abbrev T5(m:NM)(r:ae):List AO:=[.cells [.iv (CN m)],an r.c]
abbrev Pv(m:NM)(r:ae):AH:=[(0,io (.cells [.iv (CN m)])),(1,io (an r.c))]
theorem Pf(m:NM)(r:ae)(l:Lit):bV prog 102 [ag l.c,.ptr 0 0,.ptr 1 0] (T5 m r) (pB (rM m r l)) (Pv m r) 2:=by
 refine aB ab func102 Z (by decide) ntmps102 Z (by simp) ?_;refine zJ Z Z (fun b=>?_) fun b=>?_
 .have b:l.kind=1:=zT b;refine gA Z (zD [] Z (zM ⟨.of_eq (fO (by rw[rM,decide_eq_true b,ZH])),rfl,ac⟩ ((zO (zK ac)))))
 .have b: ¬l.kind=1:=zF b;refine gA Z (zD [] Z (zM ⟨.of_eq (fO (by rw[rM,decide_eq_false b,ZZ])),rfl,ac⟩ ((zO (zK ac)))))
abbrev KQ:PV:= .dq (.func 102) [] [.ptr 0 0,.ptr 1 0]
theorem Pd(m:NM)(r:ae)(l:List Lit):bV prog 130 [.iv (cW 30 l Lit.c),KQ] (T5 m r) (pI (tk (rM m r) l)) (Pv m r) 2:=by
 refine vG (bH func130 Z (by decide)) ⟨_,_,Y8⟩ fun j=>?_;simp only[maxLen]at j;refine aB ab func130 Z (by decide) ntmps130 Z (by simp) ?_;refine gA Z ?_
 refine az 0 l.length (YZ _) (fun i=>⟨[(0,.iv (cW 30 l Lit.c)),(1,KQ),(7,pI l.length),(8,pI i)],Pv m r,2⟩) (fun i=>(l.take i).any (rM m r)=lc) [] (by simp)
  (zW ((zO (zK trivial)))) fun i x u=>?_
 refine zJ Z Z (fun b=>?_) fun b=>?_
 .have b:=ci b;refine gA Z (zq [0,1] (Pf m r (l.getD i em)) ?_);refine zJ Z Z (fun d=>?_) fun d=>?_
  .have d:rM m r (l.getD i em)=kw:=d;rw[je u b d];refine gA Z (zD [] Z (zW ((zO (zK ac)))))
  .have d:rM m r (l.getD i em)=lc:=d;refine gA Z ⟨b,(aW u b).2 d,[],zW ((zO (zK ac)))⟩
 .have b:=co b;rw[iH (any_none u b)];refine gA Z (zD [] Z (zW ((zO (zK ac)))))
theorem Pe(m:NM)(r:ae)(l:List Lit):bV prog 101 [.iv (cW 30 l Lit.c),KQ] (T5 m r) (pB (l.any (rM m r))) (Pv m r) 2:=by
 refine aB ab func101 Z (by decide) ntmps101 Z (by simp) ?_;refine gA Z (zq [0,1] (Pd m r l) ?_);refine gA Z (zD [] Z (zM ⟨.of_eq (fO (jY _ l)),rfl,ac⟩ ((zO (zK ac)))))
theorem TM(m:NM)(r:ae):Pure prog 60 [ag r.c,.iv (CN m)] (pB (r.body.any (rM m r))):=by
 refine ah ab func60 Z (by decide) ntmps60 Z (by simp) Z ?_;refine gA Z (zq [1,0] (Pe m r r.body) ?_);exact zU Z
def zf(m:NM)(r:ae)(l:Lit):Bool:=li (l.kind≠1)&&(named l).any fun t=>li (bU .str m t 0=bU .str m r.head.rel 0)
def zs(m:NM)(r:ae)(t:Term):Bool:=li (t.kind=1)&&!aE (fN r) t.var&&r.body.any (rM m r)
def kY(m:NM)(r:ae):aY:=match r.body.find? (zf m r) with
 |some l=>(70,l.at)
 |none=>if r.head.ad.any (zs m r)=kw then(71,r.at_) else aY.z
theorem TJ(m:NM)(r:ae)(hb:r.size<=10000000):Pure prog 57 [ag r.c,.iv (CN m)] (ag (kY m r).c):=by
 have D:r.body.length<=10000000:=by have:=Lit.au r.body;unfold ae.size at hb;omega
 have J:r.head.ad.length<=10000000:=by unfold ae.size at hb;omega
 refine ah ab func57 Z (by decide) ntmps57 Z (by simp) Z ?_;refine gA Z ?_;refine az 0 r.body.length (YZ _) (fun i=>⟨[(1,.iv (CN m)),(2,.ptr 0 0),(4,.ptr 1 0),(13,.iv (lits r.body)),(14,pI r.body.length),(15,pI i)],[(0,io (an r.c)),(1,io (an aY.z.c))],2⟩) (fun i=>(r.body.take i).any (zf m r)=lc) [] (by simp)
  (zW (zK (zK trivial))) fun i S y=>?_
 refine zJ Z Z (fun u=>?_) fun u=>?_
 .have u:=ci u;have I:(r.body.getD i em).size<=10000000:=by have:=Lit.aI r.body i u;unfold ae.size at hb;omega
  have G:=kr (r.body.getD i em);refine gA Z (zp (GZ (r.body.getD i em) (by omega)) ?_);refine gA Z ?_;refine az 0 (named (r.body.getD i em)).length (YZ _) (fun k=>⟨[(1,.iv (CN m)),(2,.ptr 0 0),(4,.ptr 1 0),(6,.ptr 2 0),(13,.iv (lits r.body)),(14,pI r.body.length),(15,pI i),(20,.iv (strs (named (r.body.getD i em)))),(21,pI (named (r.body.getD i em)).length),(22,pI k)],[(0,io (an r.c)),(1,io (an aY.z.c)),(2,io (an (r.body.getD i em).c))],3⟩)
   (fun k=>li ((r.body.getD i em).kind≠1)=lc∨((named (r.body.getD i em)).take k).any (fun t=>li (bU .str m t 0=bU .str m r.head.rel 0))=lc) [] (.inr (by simp))
   (zW (zK (zK (zK trivial)))) fun k F hK=>?_
  refine zJ Z Z (fun b=>?_) fun b=>?_
  .have b:k<(named (r.body.getD i em)).length:=by simpa using b
   refine zJ Z Z (fun d=>?_) fun d=>?_
   .have d: ¬(r.body.getD i em).kind=1:=by simpa using d
    have hK:=hK.resolve_left (by simpa using d);refine zJ Z Z (fun j=>?_) fun j=>?_
    .have j:bU .str m ((named (r.body.getD i em)).getD k em) 0=bU .str m r.head.rel 0:=zT j;have B:zf m r (r.body.getD i em)=kw:=by
      rw[zf,decide_eq_true d,ZH];exact iL b (decide_eq_true j)
     rw[kY,kQ y u B];exact zU Z
    .have j: ¬bU .str m ((named (r.body.getD i em)).getD k em) 0=bU .str m r.head.rel 0:=zF j;refine gA Z ⟨b,.inr ((aW hK b).2 (decide_eq_false j)),[],zW (zK (zK (zK ac)))⟩
   .have d:(r.body.getD i em).kind=1:=by simpa using d
    refine gA Z ⟨b,.inl (decide_eq_false fun h=>h d),[],zW (zK (zK (zK ac)))⟩
  .have b:(named (r.body.getD i em)).length<=k:=by simpa using b
   have B:zf m r (r.body.getD i em)=lc:=by
    rcases hK with hK|hK
    .rw[zf,hK,ZZ]
    .rw[zf,any_none hK b,ZV]
   refine gA Z ⟨u,(aW y u).2 B,[],zW (zK (zK ac))⟩
 have u:=co u;have A:r.body.find? (zf m r)=jp:=eK (any_none y u);rw[kY,A];refine gA Z (zp (XV r hb) ?_);refine gA Z ?_;refine az 0 r.head.ad.length (YZ _) (fun k=>⟨[(1,.iv (CN m)),(2,.ptr 0 0),(4,.ptr 1 0),(9,.iv (strs (fN r))),(49,.iv (cW 5 r.head.ad Term.c)),(50,pI r.head.ad.length),(51,pI k)],[(0,io (an r.c)),(1,io (an aY.z.c))],2⟩) (fun k=>(r.head.ad.take k).any (zs m r)=lc) [] (by simp)
  (zW (zK (zK trivial))) fun k F hK=>?_
 refine zJ Z Z (fun b=>?_) fun b=>?_
 .have b:=ci b;have no:zs m r (r.head.ad.getD k em)=lc->(r.head.ad.take (k+1)).any (zs m r)=lc:=(aW hK b).2;refine zJ Z Z (fun d=>?_) fun d=>?_
  .have d:(r.head.ad.getD k em).kind=1:=zT d;refine gA Z (zp (Ac (fN r) (r.head.ad.getD k em).var) ?_);refine zJ Z Z (fun j=>?_) fun j=>?_
   .have j:(!aE (fN r) (r.head.ad.getD k em).var)=kw:=j;refine gA Z (zp (TM m r) ?_);refine zJ Z Z (fun x=>?_) fun x=>?_
    .have x:r.body.any (rM m r)=kw:=x;rw[am (iL b (by rw[zs,decide_eq_true d,j,x];rfl))];exact zU Z
    .have x:r.body.any (rM m r)=lc:=x;refine gA Z ⟨b,no (by rw[zs,x,ZV]),[],zW (zK (zK ac))⟩
   .have j:(!aE (fN r) (r.head.ad.getD k em).var)=lc:=j;refine gA Z ⟨b,no (by rw[zs,j,ZV,ZZ]),[],zW (zK (zK ac))⟩
  .have d: ¬(r.head.ad.getD k em).kind=1:=zF d;refine gA Z ⟨b,no (by rw[zs,decide_eq_false d,ZZ,ZZ]),[],zW (zK (zK ac))⟩
 .have b:=co b;rw[be (by rw[any_none hK b];decide)];exact zU Z
theorem find_congr{α:Type}{f g:α->Bool}: ∀{l:List α},(∀x∈l,f x=g x)->l.find? f=l.find? g
 | [],_=>rfl
 |x::l,h=>by
  rw[aaI,aaI,h x Y8,find_congr fun y b=>h y (Y7 _ b)]
theorem yW{α:Type}{f g:α->Bool}{l:List α}(h: ∀x∈l,f x=g x):l.any f=l.any g:=by
 rw[ZE,ZG,ZG];exact⟨fun⟨x,hx,h1⟩=>⟨x,hx,by rw[<-h x hx];exact h1⟩,fun⟨x,hx,h1⟩=>⟨x,hx,by rw[h x hx];exact h1⟩⟩
theorem B2{p:Prog}{a:aj}(h:a∈p.aD.map Decl.name):a∈ns p:=by rw[ns,gn];exact h
theorem T4{p:Prog}(hf:nf p){m:NM}(hR:Go.Rg.y9 (ns p) (eg p) (fun a=>bU .str m a 0)){r:ae}(hr:r∈p.rules):r.body.any (rM m r)=nL p r:=by
 refine yW fun l d=>?_;rw[rM];by_cases b:l.kind=1
 .have j:l.atom.rel∈named l:=by rw[qn,am (.inl b)];exact aaL _
  rw[vM hR (B2 (hf.lits r hr l d _ j)) (B2 (hf.yj r hr))]
 .rw[decide_eq_false b];rfl
theorem JR{p:Prog}(hf:nf p){m:NM}(hR:Go.Rg.y9 (ns p) (eg p) (fun a=>bU .str m a 0)){r:ae}(hr:r∈p.rules):kY m r=gJ p r:=by
 have b:r.body.find? (zf m r)=rf p r:=find_congr fun l j=>by
  rw[zf];congr 1;exact yW fun t u=>(vM hR (B2 (hf.lits r hr l j t u)) (B2 (hf.yj r hr))).symm
 have d:r.head.ad.any (zs m r)=(iK r&&nL p r):=by
  rw[<-T4 hf hR hr,iK];have:zs m r=fun t=>(li (t.kind=1)&&!aE (fN r) t.var)&&r.body.any (rM m r):=rfl;rw[this];generalize r.body.any (rM m r)=c;cases c<;>simp
 rw[kY,gJ,b];cases rf p r with
 |some l=>rfl
 |none=>
  simp only[d,Zf]
theorem TP(b:km){p:Prog}(hb:p.fit)(h: ¬(dy p).1=0):Pure prog 50 [ag p.c] (.bM [.iv (.v (.map jp)),pB lc]):=by
 have:=Sy b p hb;rwa[yo,be h,decide_eq_false h]at this
theorem TO(b:km){p:Prog}(hb:p.fit)(h:(dy p).1=0):Pure prog 50 [ag p.c] (.bM [.iv (AT (cY p (c4 p))),pB kw]):=by
 have:=Sy b p hb;rwa[yo,am h,decide_eq_true h]at this
theorem xu{α β:Type}(f:α->List β)(g:α->Nat)(h: ∀a,(f a).length<=g a): ∀l:List α,(l.flatMap f).length<=(l.map g).sum
 | []=>YY _
 |a::l=>by
  have b:=xu f g h l;have d:=h a;rw[ZF,YS,Zd,aaF];omega
theorem iE: ∀l:List Lit,Lit.aA l=(l.map Lit.size).sum
 | []=>rfl
 |x::l=>by rw[Lit.aA,iE l,Zd,aaF]
theorem Jf{p:Prog}(hs:p.size<=10000000):(c4 p).length<=100000000:=by
 have b:=xu (fun r:ae=>r.body.flatMap fun l=>(named l).map fun t=>(r.head.rel,t,gu l)) ae.size (fun r=>by
  have:=xu (fun l=>(named l).map fun t=>(r.head.rel,t,gu l)) Lit.size (fun l=>by rw[Zo];exact kr l) r.body;rw[<-iE]at this
  unfold ae.size;omega) p.rules
 unfold Prog.size at hs;show(p.rules.flatMap _).length<=_;omega
theorem TX(D:km)(p:Prog)(hb:p.fit)(hs:p.size<=10000000):Pure prog 17 [ag p.c] (ag (dT p).c):=by
 by_cases k1:(dy p).1=0;rotate_left
 .rw[dT,am k1];refine ah ab func17 Z (by decide) ntmps17 Z (by simp) Z ?_;refine gA Z (zp (TP D hb k1) ?_);refine zE Z Z (fun A=>?_) fun A=>?_
  .cases A
  refine gA Z (zp (c24 p hb) ?_);exact zU Z
 have I:=Cv k1;have S:p.rules.length<=1000000000:=hb.2.1;rw[dT,be (by simpa using k1)];refine ah ab func17 Z (by decide) ntmps17 Z (by simp) Z ?_;refine gA Z (zp (TO D hb k1) ?_);refine zJ Z Z (fun A=>?_) fun A=>?_
 .cases A
 refine gA Z (HE [] (TN D I (Jf hs)) Z Z Z Z Z Z Z ?_);rintro r Y n' ⟨m,hR,rfl,rfl,rfl⟩;refine⟨_,rfl,?_⟩;have hW:p.rules.map (kY m)=p.rules.map (gJ p):=aaf fun r J=>JR I hR J;rw[<-hW]
 have y: ∀i,i<p.rules.length->(p.rules.map (kY m)).getD i em=kY m (p.rules.getD i em):=fun i G=>by
  rw[YR,Y0,YU G,YR,YU G];rfl
 have j:(p.rules.map (kY m)).length=p.rules.length:=Zo _;refine gA Z ?_;refine az 0 p.rules.length (YZ _) (fun i=>⟨[(1,.ptr 0 0),(2,.ptr 1 0),(5,.iv (CN m)),(21,.iv (cW 5 p.rules ae.c)),(22,pI p.rules.length),(23,pI i)],[(0,io (an p.c)),(1,io (an aY.z.c))],2⟩) (fun i=>((p.rules.map (kY m)).take i).any (fun d=>li (d.1≠0))=lc) [] (by simp)
  (zW (zK (zK trivial))) fun i G B=>?_
 refine zJ Z Z (fun b=>?_) fun b=>?_
 .have b:=ci b;have x:=hb.2.2 _ (cS b);have F:=y i b;refine gA Z (zp (TJ m (p.rules.getD i em) x.1) ?_);refine zJ Z Z (fun u=>?_) fun u=>?_
  .have u: ¬(kY m (p.rules.getD i em)).1=0:=by simpa using u
   rw[kQ B (by rw[j];exact b) (by rw[F];exact decide_eq_true u),F];exact zU Z
  .have u:(kY m (p.rules.getD i em)).1=0:=by simpa using u
   refine gA Z ⟨b,(aW B (by rw[j];exact b)).2 (by rw[F];simpa using u),[],zW (zK (zK ac))⟩
 .have b:=co b;rw[eK (any_none B (by rw[j];exact b))];exact zU Z
end Go.Proofs.YtflegjieadkonaaGreatDoor
namespace Go.Proofs.YtflegjieadkonaaGreatDoor
open Go Go.Al
section
section
variable {X:Type} (f:X->AO)
def eQ(L:List (Nat×Nat×X)):bd:=fun c=>(L.find? fun y=>y.1==c).map fun y=> .obj (f y.2.2) y.2.1
theorem cM(L:List (Nat×Nat×X)):(eQ f L).still:=by
 intro b i e h;unfold eQ at h;cases hf:L.find? fun y=>y.1==b<;>rw[hf]at h<;>cases h
theorem ED: ∀{L:List (Nat×Nat×X)} {j:Nat} {y:Nat×Nat×X},(L.map Zl).Nodup->L[j]? =io y->L.find? (fun z=>z.1==y.1)=io y
 | [],_,_,_,h=>by simp at h
 |x::L,0,y,_,h=>by
  simp only[aby,YT]at h;subst h;simp
 |x::L,j+1,y,hn,h=>by
  rw[aaW]at h;rw[Zd,aad]at hn;have b: ¬x.1=y.1:=fun e=>hn.1 (e▸abb (Zm h));rw[abX (by simpa using b)];exact ED hn.2 h
theorem dc{L:List (Nat×Nat×X)}{j:Nat}{y:Nat×Nat×X}(hn:(L.map Zl).Nodup)(h:L[j]? =io y):eQ f L y.1=io (.obj (f y.2.2) y.2.1):=by
 unfold eQ;rw[ED hn h];rfl
theorem kq{L:List (Nat×Nat×X)}{c:Nat}(h:c∉L.map Zl):eQ f L c=jp:=by
 unfold eQ;rw[aa1,aak];intro y b;simp only[beq_iff_eq];exact fun e=>h (e▸abb b)
theorem tX{L:List (Nat×Nat×X)}{c:Nat}(h:eQ f L c=jp):c∉L.map Zl:=by
 intro b;obtain⟨y,d,rfl⟩:=Zu.1 b;unfold eQ at h;rw[aa1,aak]at h;exact h y d (by simp)
theorem qk{L:List (Nat×Nat×X)}{y:Nat×Nat×X}(hn:(L.map Zl).Nodup)(h:y.1∉L.map Zl):((L++ [y]).map Zl).Nodup:=by
 rw[YX,aaP];exact⟨hn,by simp,fun u hu v b g=>h (by simp at b;subst g;subst b;exact hu)⟩
theorem sR{L:List (Nat×Nat×X)}{y:Nat×Nat×X}(hn:(L.map Zl).Nodup)(h:y.1∉L.map Zl):(eQ f L).put y.1 (.obj (f y.2.2) y.2.1)=eQ f (L++ [y]):=by
 funext c
 have b:=qk hn h;unfold bd.put;by_cases d:c=y.1
 .subst d;rw[am Z,dc f b (j:=L.length) (y:=y) (by simp)]
 .rw[be d];by_cases x:c∈L.map Zl
  .obtain⟨z,A,rfl⟩:=Zu.1 x;obtain⟨i,u⟩:=ZO A;rw[dc f hn u,dc f b (j:=i) (by rw[Y9 (YV.1 u).1];exact u)]
  .rw[kq f x,kq f (by simp only[YX,Y6,not_or];exact⟨x,by simpa using d⟩)]
theorem Ll{α:Type}{l:List α}:l.Nodup↔ ∀(i j:Nat) (x:α),l[i]? =io x->l[j]? =io x->i=j:=by
 constructor
 .intro h i j x b d;obtain⟨B,u⟩:=YV.1 b;obtain⟨D,y⟩:=YV.1 d;exact(abo h).1 (u.trans y.symm)
 .intro h;rw[List.nodup_iff_pairwise_ne,abp];intro i j b d A e;have:=h i j l[i] (YU b) (by rw[YU d,e]);omega
theorem oU{L:List (Nat×Nat×X)}{i:Nat}{y y':Nat×Nat×X}(hn:(L.map Zl).Nodup)(B:L[i]? =io y)(h:y'.1∉L.map Zl∨y'.1=y.1):((L.set i y').map Zl).Nodup:=by
 rw[aaA];have A:=(YV.1 B).1;have u:(L.map Zl)[i]? =io y.1:=by rw[Y0,B];rfl
 rw[Ll]at hn ⊢;have j: ∀k,(L.map Zl)[k]? =io y'.1->i=k:=by
  intro k e;rcases h with h|h
  .exact absurd (Zm e) h
  .rw[h]at e;exact hn _ _ _ u e
 intro a b x d hb;rw[ZD]at d hb;split at d
 .rw[am (by simpa using A)]at d;cases d;split at hb
  .omega
  .have:=j b hb;omega
 .split at hb
  .rw[am (by simpa using A)]at hb;cases hb;have:=j a d;omega
  .exact hn a b x d hb
theorem Iz{L:List (Nat×Nat×X)}{i j e:Nat}{y y':Nat×Nat×X}(hn:(L.map Zl).Nodup)(B:L[i]? =io y)(h:y'.1∉L.map Zl∨y'.1=y.1):
  (((eQ f L).put y.1 (.out j e)).drop y.1).put y'.1 (.obj (f y'.2.2) y'.2.1)=eQ f (L.set i y'):=by
 funext c
 have x:=oU hn B h;have D:=(YV.1 B).1;unfold bd.put bd.drop;by_cases A:c=y'.1
 .subst A;rw[am Z,dc f x (j:=i) (y:=y') (by rw[ZD,am Z,am D])]
 .rw[be A];by_cases d:c=y.1
  .rw[am d,kq f];rw[aaA];intro u;obtain⟨k,b⟩:=ZO u;rw[ZD]at b;split at b
   .rw[am (by simpa using D)]at b;cases b;exact A Z
   .rename_i F;have G:(L.map Zl)[i]? =io y.1:=by rw[Y0,B];rfl
    rw[d]at b;exact F (Ll.1 hn _ _ _ G b)
  .rw[be d];show(if c=y.1 then _ else eQ f L c)=_;rw[be d];by_cases u:c∈L.map Zl
   .obtain⟨z,S,rfl⟩:=Zu.1 u;obtain⟨k,b⟩:=ZO S;have I: ¬i=k:=fun g=>d (by subst g;rw[B]at b;cases b;rfl);rw[dc f hn b,dc f x (j:=k) (by rw[ZD,be I];exact b)]
   .rw[kq f u,kq f];rw[aaA];intro J;obtain⟨k,b⟩:=ZO J;rw[ZD]at b;split at b
    .rw[am (by simpa using D)]at b;cases b;exact A Z
    .exact u (Zm b)
end
end
section
section
variable {nt:Nat} {all:List Oper} {todo pend:List (Nat×Oper)} {R:XQ} {s s':AS} {X:bd}
theorem dR(n:Nat){C:Prop}{d b:List (Nat×Oper)}(h:SP px nt all n todo pend s True=(C,d,b,s'))(g:CO Tryz.prog nt all d b R s' X)
  (hC:C:=by(repeat' (first|exact ac|exact rfl|exact aL.refl _|exact aL.bk (by assumption)|apply ZC))<;>first|omega|exact fK (fun _=>rfl) _|(simp only[Zi];omega)|(simp;done)|(simp;omega)):CO Tryz.prog nt all todo pend R s X:=Qw ab n h hC g
theorem dO{j:Nat}{o:Oper}{C b:Prop}(hrd:fq todo=[(j,o)])(ho:Xl px nt s o=io (C,s'))(hg:cN nt all s.f o=io kw)(hpb:jH all pend o=kw)(hE:pd todo [j]=kw)(hag:eC px nt all s' (bn pend o)=io b)
  (h:CO Tryz.prog nt all (todo.filter fun x=>!Zk x.1 j) (bn pend o) R s' X)
  (hC:C∧b:=by(repeat' (first|exact ac|exact rfl|exact aL.refl _|exact aL.bk (by assumption)|apply ZC))<;>first|omega|exact fK (fun _=>rfl) _|(simp only[Zi];omega)|(simp;done)|(simp;omega)):CO Tryz.prog nt all todo pend R s X:=
 UH ab hrd ho hg hpb hE hag hC.1 hC.2 h
end
end
section
section
variable {V:Type}
end
abbrev GrM:=List ((KC.int .i64).K×List aj)
abbrev YM:=List ((KC.int .i64).K×Int)
def dn(dm:YM)(x:Int):Bool:=li (x∈dm.map Zl)
section
variable {p:Prog} {ring:aj->Int} {dm:YM} {out:List (List aj)}
def scP(p:Prog)(a:aj):List aj:=(ns p).filter (eg p a)
structure CpI (p:Prog) (ring:aj->Int) (dm:YM) (out:List (List aj)):Prop where
 one: ∀e∈dm,e.2=1
 nd:(dm.map Zl).Nodup
 sub: ∀k∈dm.map Zl,∃a∈ns p,ring a=k
 cl:Go.Co.closed (ns p).length (jP p) fun j=>dn dm (ring ((ns p).getD j em))
 eq: ∃f,f+dm.length=(ns p).length∧out++Go.Rg.Gg (ns p) (scP p) ring f (dn dm)=Go.Rg.Gg (ns p) (scP p) ring (ns p).length fun _=>lc
 len:out.length=dm.length
end
end
abbrev Xd:=Int×Nat×List aj
abbrev GL:=List (Nat×Nat×Xd)
def fR(x:Xd):AO:=aG 1 x.2.2 cX
def TE(o:Option (Nat×Nat×Nat)):Value:=match o with
 |none=> .slice jp 0 0
 |some (b,len,cap)=> .slice (io ⟨b,0,jp⟩) len cap
def PJ(o:Option (Nat×Nat×Nat)):IV:= .v (TE o)
def dvS(p:PV):Option (Nat×Nat×Nat):=match p with
 | .iv (.v (.slice (io ⟨b,0,jp⟩) len cap))=>io (b,len,cap)
 |_=>jp
abbrev OM:=List ((KC.int .i64).K×Option (Nat×Nat×Nat))
abbrev Ui(m:OM):AO:= .map (.int .i64) PJ jp (.slice jp 0 0) dvS m
def ofM(L:GL):OM:=L.map fun y=>(y.2.2.1,io (y.1,y.2.2.2.2.length,y.2.2.2.1))
def ou(L:GL):GrM:=L.map fun y=>(y.2.2.1,y.2.2.2.2)
structure Ra (L:GL):Prop where
 nd:(L.map Zl).Nodup
 ok: ∀y∈L,y.2.2.2.2≠ []∧y.2.2.2.2.length<=y.2.2.2.1∧y.2.2.2.1<=maxLen∧y.2.2.2.1*1=y.2.1
theorem HN(L:GL)(k:Int):lq (.int .i64) (ofM L) k=lq (.int .i64) (ou L) k:=by
 induction L with
 |nil=>rfl
 |cons y L b=>
  have b:lq (.int .i64) (ofM L) k=lq (.int .i64) (ou L) k:=b;unfold ofM ou at b ⊢;simp only[Zd,lq,b]
theorem Dr(l:List aj):(aG 1 l cX).all PV.flat:=by
 intro e b q d;obtain⟨s,_,rfl⟩:=Zu.1 b;obtain⟨x,_,rfl⟩:=Zu.1 d;trivial
theorem KN{l:List aj}{a:aj}:(aG 1 (l++ [a]) cX).real=kw:=by cases l<;>rfl
theorem Ft{L:GL}{b j e:Nat}:(((eQ fR L).put b (.out j e)).drop b).still:=by
 intro c i g h;unfold bd.drop bd.put at h;split at h
 .cases h
 .exact cM fR L c i g h
theorem PW{L:GL}{y:Nat×Nat×Xd}(h:Ra L)(hb:y.1∉L.map Zl)(b:y.2.2.2.2≠ []∧y.2.2.2.2.length<=y.2.2.2.1∧y.2.2.2.1<=maxLen∧y.2.2.2.1*1=y.2.1):Ra (L++ [y]):=
 ⟨qk h.nd hb,fun z hz=>by
  rcases Y6.1 hz with hz|hz
  .exact h.ok z hz
  .rw[Y4]at hz;subst hz;exact b⟩
theorem Ue{L:GL}{i:Nat}{y y':Nat×Nat×Xd}(h:Ra L)(hi:L[i]? =io y)(hb:y'.1∉L.map Zl∨y'.1=y.1)(d:y'.2.2.2.2≠ []∧y'.2.2.2.2.length<=y'.2.2.2.1∧y'.2.2.2.1<=maxLen∧y'.2.2.2.1*1=y'.2.1):Ra (L.set i y'):=
 ⟨oU h.nd hi hb,fun z b=>by
  rcases abr b with b|rfl
  .exact h.ok z b
  .exact d⟩
theorem Jt{L:GL}{c j e:Nat}{y:Nat×Nat×Xd}(h:((eQ fR L).put y.1 (.out j e)).drop y.1 c=jp):c∉L.map Zl∨c=y.1:=by
 by_cases b:c=y.1
 .exact .inr b
 .unfold bd.drop bd.put at h;rw[be b,be b]at h;exact .inl (tX fR h)
def dvL(_:PV):List aj:=[]
theorem Vn{L:GL}(h:Ra L):Nq (eQ fR L) (Ui (ofM L)) (.map (.int .i64) strs [] (.slice jp 0 0) dvL (ou L)):=by
 refine .map _ _ _ _ _ _ _ _ _ _ (by simp[ofM,ou]) (fun j D b=>?_) fun M=> .kN ..
 .unfold ou at b;rw[Y0,Y2]at b;obtain⟨y,d,rfl⟩:=b;obtain⟨A,u,x,B⟩:=h.ok y (Zm d);refine⟨(y.2.2.1,io (y.1,y.2.2.2.2.length,y.2.2.2.1)),.slice (io ⟨y.1,0,jp⟩) y.2.2.2.2.length y.2.2.2.1,?_,rfl,rfl,?_⟩
  .unfold ofM;rw[Y0,d];rfl
  .exact .row y.1 _ _ 1 y.2.1 _ _ (dc fR h.nd d) (by simp) u x (fM Z)
section
section
variable {p:Prog}
def vD(p:Prog)(i:Nat):aj:=(ns p).getD i em
theorem CV(hf:nf p){i j:Nat}(hi:i<(ns p).length)(hj:j<(ns p).length)(h:vD p i=vD p j):i=j:=by
 have b:=pR.Lg (fL hf.nodup);unfold vD at h;rw[YR,YR,YU hi,YU hj]at h;exact(abo b).1 h
end
end
theorem MI{p:Prog}(h:(dT p).1=0):(dy p).1=0∧dT p=aY.z:=by
 unfold dT at h ⊢;by_cases k1:(dy p).1=0
 .rw[be (by simpa using k1)]at h ⊢;refine⟨k1,?_⟩;cases hf:(p.rules.map (gJ p)).find? fun d=>li (d.1≠0) with
  |none=>rfl
  |some d=>
   rw[hf]at h;have:=List.find?_some hf;simp only[decide_eq_true_eq]at this;exact absurd h this
 .rw[am k1]at h;exact absurd h k1
section
theorem II{p:Prog}{r:ae}{n:Int}(h:(pC p r n).1=0): ∀l∈r.body,iP l=lc:=by
 intro l d;unfold pC at h;split at h
 .cases h
 .split at h
  .cases h
  .rename_i b;simpa using aak.1 b l d
section
variable (l:List (aj×Nat)) (c:List (List aj)) (rel:aj)
theorem fold_eq{α γ:Type}{g g':γ->α->γ}: ∀(l:List α) (b:γ),(∀x∈l,∀b,g b x=g' b x)->l.foldl g b=l.foldl g' b
 | [],_,_=>rfl
 |x::l,b,h=>by
  rw[Zn,Zn,h x (Y8 ..)];exact fold_eq l _ fun y d=>h y (Y7 _ d)
end
section
variable {p:Prog}
end
end
section
structure Nc (p q:Prog):Prop where
 aD:q.aD=p.aD
 len:q.rules.length=p.rules.length
 mem: ∀r,r∈q.rules↔r∈p.rules
section
variable {p q:Prog}
theorem Nc.symm(h:Nc p q):Nc q p:=⟨h.aD.symm,h.len.symm,fun r=>(h.mem r).symm⟩
structure LessR (p q:Prog):Prop where
 aD:q.aD=p.aD
 len:q.rules.length<=p.rules.length
 mem: ∀r∈q.rules,r∈p.rules
end
end
section
def dW{β:Type}(n:Nat)(f:Nat->Nat->β):List (List β):=(Zg n).map fun i=>(Zg n).map fun j=>f i j
section
variable {β:Type} {n:Nat} {f f':Nat->Nat->β}
theorem fo(n:Nat)(f:Nat->Nat->β):(dW n f).length=n:=by simp[dW]
theorem mb{i:Nat}(hi:i<n):(dW n f)[i]? =io ((Zg n).map fun j=>f i j):=by
 unfold dW;rw[Y0,aaQ hi];rfl
theorem rm{g:Nat->β}{j:Nat}(hj:j<n):((Zg n).map g)[j]? =io (g j):=by
 rw[Y0,aaQ hj];rfl
theorem xI{g g':Nat->β}{b:Nat}(hb:b<n)(h: ∀j,j<n->g' j=if j=b then g' b else g j):((Zg n).map g).set b (g' b)=(Zg n).map g':=by
 apply aaD;intro j;rw[ZD];rcases Z1 j n with hj|hj
 .rw[rm hj,rm hj];by_cases d:b=j
  .subst d;rw[am Z,am (by simpa using hb)]
  .rw[be d,h j hj,be (fun e=>d e.symm)]
 .rw[be (by omega),aa5 (by simpa using hj),aa5 (by simpa using hj)]
theorem C8{a b:Nat}(ha:a<n)(hb:b<n)(h: ∀i j,i<n->j<n->f' i j=if i=a∧j=b then f' a b else f i j):(dW n f).set a (((Zg n).map fun j=>f a j).set b (f' a b))=dW n f':=by
 have e:((Zg n).map fun j=>f a j).set b (f' a b)=(Zg n).map fun j=>f' a j:=xI hb fun j x=>by
  rw[h a j ha x];by_cases u:j=b
  .simp[u]
  .simp[u]
 rw[e];unfold dW;refine xI (g:=fun i=>(Zg n).map fun j=>f i j) (g':=fun i=>(Zg n).map fun j=>f' i j) ha fun i y=>?_;by_cases d:i=a
 .rw[am d,d]
 .rw[be d];refine aaf fun j x=>?_;rw[h i j y (ZY.1 x),be (fun g=>d g.1)]
theorem mc(h: ∀i j,i<n->j<n->f i j=f' i j):dW n f=dW n f':=by
 unfold dW;exact aaf fun i b=>aaf fun j d=>h i j (ZY.1 b) (ZY.1 d)
end
def gF(p:Prog)(hs:List (aj×aj×Nat))(i j:Nat):Int:=gD hs (vD p i) (vD p j)
theorem Uz{hs:List (aj×aj×Nat)}(h: ∀x∈hs,x.2.2<=2)(a b:aj):gD hs a b<=2:=by
 rcases SN hs a b with h1|h1
 .omega
 .exact h _ h1
theorem HI{p:Prog}(hf:nf p){hs:List (aj×aj×Nat)}{a b k:Nat}(ha:a<(ns p).length)(hb:b<(ns p).length)(i j:Nat)(hi:i<(ns p).length)(hj:j<(ns p).length):
  gF p (hs++ [(vD p a,vD p b,k)]) i j=if i=a∧j=b then gF p (hs++ [(vD p a,vD p b,k)]) a b else gF p hs i j:=by
 by_cases h:i=a∧j=b
 .rw[am h,h.1,h.2]
 .rw[be h];unfold gF;rw[HJ,be];rintro⟨h1,h2⟩;exact h ⟨(CV hf ha hi h1).symm,(CV hf hb hj h2).symm⟩
theorem SM{p:Prog}{hs:List (aj×aj×Nat)}{a b k:Nat}:gF p (hs++ [(vD p a,vD p b,k)]) a b=max (gF p hs a b) k:=by
 unfold gF;rw[HJ,am ⟨rfl,rfl⟩];show((max (gD hs (vD p a) (vD p b)) k:Nat):Int)=max (gD hs (vD p a) (vD p b):Int) (k:Int);omega
end
end Go.Proofs.YtflegjieadkonaaGreatDoor
namespace Go.Proofs.YtflegjieadkonaaGreatDoor
open Go Go.Al Go.Proofs.Tryz
theorem Ns{s x:aj}{a:List aj}(h:Op.bytesLess s.toList x.toList=kw):bW s (a,lc) x=(a++ [s]++ [x],kw):=by
 have b:JP s x:=(Be s x).1 h;have d: ¬x=s:=fun e=>ku s (e▸b)
 have j:Op.bytesLess x.toList s.toList=lc:=by
  cases hc:Op.bytesLess x.toList s.toList with
  |false=>rfl
  |true=>exact absurd (vl b ((Be x s).1 hc)) (ku s)
 simp[bW,d,j]
theorem Nu{s x:aj}{a:List aj}(h:s=x):bW s (a,lc) x=(a++ [x],kw):=by
 simp[bW,h]
theorem Nt{s x:aj}{a:List aj}(h:Op.bytesLess s.toList x.toList=lc)(h2: ¬s=x):bW s (a,lc) x=(a++ [x],lc):=by
 have b:JP x s:=Hi h2 fun g=>by rw[(Be s x).2 g]at h;cases h
 have d: ¬x=s:=fun e=>h2 e.symm;simp[bW,d,(Be x s).2 b]
theorem JT{s x:aj}{a:List aj}:bW s (a,kw) x=(a++ [x],kw):=by simp[bW]
theorem Xw(l:List aj)(s:aj)(hb:l.length<=1000000000000):Pure prog 93 [.iv (strs l),pS s] (.iv (strs (b6 l s))):=by
 refine ah ab func93 Z (by decide) ntmps93 Z (by simp) Z ?_;refine gA Z ?_;refine fS 5 1 Z ?_;refine az 0 l.length (YZ _) (fun i=>⟨[(0,.iv (strs l)),(1,pS s),(5,.sl 1 0 (iM l s i).1.length 1),(6,pB (iM l s i).2),(7,pI i)],[(1,io (aG 1 (iM l s i).1 cX))],2⟩) (fun _=>True) [0] ac
  (zM (bv (bv (bv ⟨.rz Z,rfl,bv trivial⟩))) (zS trivial)) fun i S _=>?_
 have F:=ra l s i S;have I:(iM l s i).1.length<=i+1:=by split at F<;>omega
 have G:=sB (l:=l) (s:=s) (i:=i);have J:=sA (l:=l) (s:=s) (i:=i);generalize iM l s i=A at*
 obtain⟨a,b⟩:=A;refine zJ Z Z (fun u=>?_) fun u=>?_
 .have u:=ci u;have d:=J u;refine zJ Z Z (fun j=>?_) fun j=>?_
  .have j:(!b)=kw:=j;have B:b=lc:=by simpa using j
   subst B;refine zJ Z Z (fun x=>?_) fun x=>?_
   .have x:(Op.bytesLess s.toList (l.getD i em).toList||decide (s=l.getD i em))=kw:=x;refine zJ Z Z (fun y=>?_) fun y=>?_
    .have y:Op.bytesLess s.toList (l.getD i em).toList=kw:=y;rw[Ns y]at d;refine gA Z ⟨u,ac,[5],zM (bv (bv ⟨.row (by rw[d];simp),rfl,.rz (by rw[d]),rfl,bv ac⟩)) (hR Z (by rw[d,YX,YX];rfl) Z ac)⟩
    .have y:Op.bytesLess s.toList (l.getD i em).toList=lc:=y;rw[y,Z7,decide_eq_true_eq]at x;rw[Nu x]at d;refine gA Z ⟨u,ac,[3],zM (bv (bv ⟨.row (by rw[d];simp),rfl,.rz (by rw[d]),rfl,bv ac⟩)) (hR Z (by rw[d];simp;rfl) Z ac)⟩
   .have x:(Op.bytesLess s.toList (l.getD i em).toList||decide (s=l.getD i em))=lc:=x;rw[Zq,decide_eq_false_iff_not]at x;rw[Nt x.1 x.2]at d;refine gA Z ⟨u,ac,[3],zM (bv (bv ⟨.row (by rw[d];simp),rfl,.of_eq (by rw[d];rfl),rfl,bv ac⟩)) (hR Z (by rw[d];simp;rfl) Z ac)⟩
  .have j:(!b)=lc:=j;have D:b=kw:=by simpa using j
   subst D;rw[JT]at d;refine gA Z ⟨u,ac,[3],zM (bv (bv ⟨.row (by rw[d];simp),rfl,.of_eq (by rw[d];rfl),rfl,bv ac⟩)) (hR Z (by rw[d];simp;rfl) Z ac)⟩
 .have u:=co u;rw[G u];refine zJ Z Z (fun j=>?_) fun j=>?_
  .have j:(!b)=kw:=j;have B:b=lc:=by simpa using j
   subst B;show GO _ _ _ (Fc px f93.results.toList (.iv (strs (a++ [s])))) _;refine gA Z (cx (by first|exact .inr Z|exact .inl Z) Z Z ((by rw[YX];rfl)) ((by rw[YS];rfl)))
  .have j:(!b)=lc:=j;have D:b=kw:=by simpa using j
   subst D;show GO _ _ _ (Fc px f93.results.toList (.iv (strs a))) _;refine gA Z (cx (by first|exact .inr Z|exact .inl Z) Z Z (rfl) (rfl))
theorem FO(p:Prog)(i:Nat):(((p.aD.take i).map Decl.name).foldl b6 []).length<=i:=by
 have h:=eM ((p.aD.take i).map Decl.name) [];unfold cv at h;simp only[Z6,Zh,Zo,ZJ]at h;omega
theorem Ph(p:Prog)(hb:p.aD.length<=1000000000):Pure prog 54 [ag p.c] (.iv (strs ((p.aD.map Decl.name).foldl b6 []))):=by
 refine ah ab func54 Z (by decide) ntmps54 Z (by simp) Z ?_;refine gA Z ?_;refine az 0 p.aD.length (YZ _) (fun i=>⟨[(1,.ptr 0 0),(3,.iv (strs (((p.aD.take i).map Decl.name).foldl b6 []))),(4,pI i)],[(0,io (an p.c))],1⟩) (fun _=>True) [] ac
  (zM (bv ⟨.nil _ _,rfl,bv trivial⟩) (zK trivial)) fun i j _=>?_
 have u:=FO p i;refine zJ Z Z (fun b=>?_) fun b=>?_
 .have b:=ci b;have d:((p.aD.take (i+1)).map Decl.name).foldl b6 []=b6 (((p.aD.take i).map Decl.name).foldl b6 []) (p.aD.getD i em).name:=by
   rw[bz b,YX,aao];rfl
  refine gA Z (zp (Xw (((p.aD.take i).map Decl.name).foldl b6 []) (p.aD.getD i em).name (by omega)) ?_);refine gA Z ⟨b,ac,[],zM (bv ⟨.of_eq (by rw[d];rfl),rfl,bv ac⟩) (zK ac)⟩
 .have b:=co b;rw[Y1 b];exact zU Z
theorem Pg{p:Prog}(hf:nf p):Pure prog 54 [ag p.c] (.iv (strs (ns p))):=by
 have h:=Ph p (by have:=hf.len;omega);have e:(p.aD.map Decl.name).foldl b6 []=ns p:=by
  rw[<-I3 hf.nodup];exact fold_eq _ _ fun x _ b=>q9 b x
 rwa[e]at h
abbrev JM(l:List aj)(s:aj):Int:=tk (fun x:aj=>li (x=s)) l
theorem rk(l:List aj)(s:aj):Pure prog 94 [.iv (strs l),pS s] (pI (JM l s)):=by
 refine mu (bH func94 Z (by decide)) ⟨_,_,Y8⟩ fun j=>?_;simp only[maxLen]at j;refine ah ab func94 Z (by decide) ntmps94 Z (by simp) Z ?_;refine gA Z ?_
 refine az 0 l.length (YZ _) (fun i=>⟨[(0,.iv (strs l)),(1,pS s),(5,pI i)],[],0⟩) (fun i=>(l.take i).any (fun x=>li (x=s))=lc) [] Z
  (mW Z Z (bv (bv (bv trivial))) Z) fun i y u=>?_
 refine zJ Z Z (fun b=>?_) fun b=>?_
 .have b:=ci b;refine zJ Z Z (fun d=>?_) fun d=>?_
  .have d:l.getD i em=s:=zT d;refine gA Z (zL (.of_eq ?_));rw[JM,je u b (decide_eq_true d)];rfl
  .have d: ¬l.getD i em=s:=zF d;refine gA Z ⟨b,(aW u b).2 (by simpa using d),[],mW Z Z (bv (bv (bv ac))) Z⟩
 .have b:=co b;refine gA Z (zL (.of_eq ?_));rw[JM,iH (any_none u b)];rfl
theorem GW(l:List aj)(s:aj)(_:l.length<=1000000000000):Pure prog 94 [.iv (strs l),pS s] (pI (JM l s)):=rk l s
theorem V7(l:List aj)(s:aj):li (JM l s<0)=!aE l s:=by
 have h:li (JM l s>=0)=aE l s:=jY _ l;rw[<-h,<-decide_not,decide_eq_decide];omega
theorem K2{p:Prog}(hf:nf p){i:Nat}(hi:i<(ns p).length):JM (ns p) (vD p i)=i:=by
 refine je ?_ hi (decide_eq_true Z);rw[ZL];intro y d;obtain⟨j,u,rfl⟩:=abt.1 d;rw[decide_eq_true_eq];intro g;have b:j<(ns p).length:=by omega
 have:vD p j=vD p i:=by
  rw[<-g];unfold vD;rw[YR,YU b];rfl
 have:=CV hf b hi this;omega
theorem Gl{b:List Lit}{i:Nat}(h:i<b.length):((b.take (i+1)).filter fun x=>li (x.kind=1∨x.kind=2)).map (fun x=>x.atom.rel)=((b.take i).filter fun x=>li (x.kind=1∨x.kind=2)).map (fun x=>x.atom.rel)++(if(b.getD i em).kind=1∨(b.getD i em).kind=2 then[(b.getD i em).atom.rel] else[]):=by
 rw[bz h,aa4,YX];congr 1;by_cases d:(b.getD i em).kind=1∨(b.getD i em).kind=2
 .simp only[aan,d,decide_true,if_true,List.filter_nil,Zd,ZR]
 .simp only[aan,d,decide_false,if_false,List.filter_nil,ZR,aaq]
end Go.Proofs.YtflegjieadkonaaGreatDoor
namespace Go.Proofs.YtflegjieadkonaaGreatDoor
open Go Go.Al
section
section
variable {β:Type} (el:β->List IV)
abbrev wv(β:Type):=List (Nat×Nat×Nat×List β)
def fT(x:Nat×List β):AO:=aG 1 x.2 el
def IL(n:Nat)(L:wv β):List (List PV):=L.map fun y=> [PV.iv (PJ (io (y.1,n,y.2.2.1)))]
def sX(n:Nat)(y:Nat×Nat×Nat×List β):List IV:=[PJ (io (y.1,n,y.2.2.1))]
abbrev rO(n:Nat)(L:wv β):AO:=aG 1 L (sX n)
def dC(L:wv β):List (List β):=L.map fun y=>y.2.2.2
abbrev lx[Inhabited β](r:List β):List IV:=[cW 1 r el]
structure y7 (n:Nat) (L:wv β):Prop where
 nd:(L.map Zl).Nodup
 ok: ∀y∈L,y.2.2.2.length=n∧n<=y.2.2.1∧y.2.2.1<=maxLen∧y.2.2.1*1=y.2.1
theorem GD(n:Nat):y7 n ([]:wv β):=⟨ZT,fun _ h=>(nomatch h)⟩
theorem CZ{n:Nat}{L:wv β}{y:Nat×Nat×Nat×List β}(h:y7 n L)(hb:y.1∉L.map Zl)(b:y.2.2.2.length=n∧n<=y.2.2.1∧y.2.2.1<=maxLen∧y.2.2.1*1=y.2.1):y7 n (L++ [y]):=
 ⟨qk h.nd hb,fun z hz=>by
  rcases Y6.1 hz with hz|hz
  .exact h.ok z hz
  .rw[Y4]at hz;subst hz;exact b⟩
def pX(L:wv β)(a:Nat)(y:Nat×Nat×Nat×List β)(r:List β):wv β:=L.set a (y.1,y.2.1,y.2.2.1,r)
theorem Bx{n a:Nat}{L:wv β}{y:Nat×Nat×Nat×List β}{r:List β}(h:y7 n L)(d:L[a]? =io y)(hr:r.length=n):y7 n (pX L a y r):=
 ⟨oU h.nd d (.inr Z),fun z b=>by
  rcases abr b with b|rfl
  .exact h.ok z b
  .exact⟨hr,(h.ok y (Zm d)).2⟩⟩
theorem PI{n a:Nat}{L:wv β}{y:Nat×Nat×Nat×List β}{r:List β}(b:L[a]? =io y):IL n (pX L a y r)=IL n L:=by
 apply aaD;intro j;unfold IL pX;rw[Y0,Y0,ZD];by_cases h:a=j
 .subst h;rw[am Z,am (YV.1 b).1,b];rfl
 .rw[be h]
theorem FD{n a:Nat}{L:wv β}{y:Nat×Nat×Nat×List β}{r:List β}(b:L[a]? =io y):(pX L a y r).map (fun x=>(sX n x).map PV.iv)=L.map fun x=>(sX n x).map PV.iv:=PI (n:=n) b
theorem n9{n a j e:Nat}{L:wv β}{y:Nat×Nat×Nat×List β}{r:List β}(h:y7 n L)(D:L[a]? =io y):((eQ (fT el) L).put y.1 (.out j e)).put y.1 (.obj (aG 1 r el) y.2.1)=eQ (fT el) (pX L a y r):=by
 have d:=oU (y':=(y.1,y.2.1,y.2.2.1,r)) h.nd D (.inr Z);have F:=(YV.1 D).1;rw[bd.G9]
 funext c
 unfold bd.put;by_cases u:c=y.1
 .subst u;rw[am Z];exact(dc (fT el) d (j:=a) (y:=(y.1,y.2.1,y.2.2.1,r)) (by rw[ZD,am Z,am F])).symm
 .rw[be u];by_cases A:c∈L.map Zl
  .obtain⟨z,G,rfl⟩:=Zu.1 A;obtain⟨k,b⟩:=ZO G;have x: ¬a=k:=fun g=>u (by subst g;rw[D]at b;cases b;rfl);rw[dc (fT el) h.nd b];exact(dc (fT el) d (j:=k) (by rw[ZD,be x];exact b)).symm
  .rw[kq (fT el) A];refine(kq (fT el) ?_).symm;unfold pX;rw[aaA];intro B;obtain⟨k,b⟩:=ZO B;rw[ZD]at b;split at b
   .rw[am (by simpa using F)]at b;cases b;exact u Z
   .exact A (Zm b)
theorem Bz{a:Nat}{L:wv β}{y:Nat×Nat×Nat×List β}{r:List β}:dC (pX L a y r)=(dC L).set a r:=by
 unfold dC pX;rw[aaA]
theorem Fo{a:Nat}{L:wv β}{y:Nat×Nat×Nat×List β}(b:L[a]? =io y):(dC L)[a]? =io y.2.2.2:=by
 unfold dC;rw[Y0,b];rfl
theorem Vo[Inhabited β]{n:Nat}{L:wv β}(h:y7 n L):Nq (eQ (fT el) L) (.row 1 (IL n L)) (aG 1 (dC L) (lx el)):=by
 refine .row 1 _ _ (by simp[IL,dC]) fun k D d=>?_;unfold dC at d;rw[aaH,Y0,Y2]at d;obtain⟨y,u,rfl⟩:=d;refine⟨[PV.iv (PJ (io (y.1,n,y.2.2.1)))],by unfold IL;rw[Y0,u];rfl,rfl,fun j G b=>?_⟩
 match j,b with
 |0,b=>
  cases b;obtain⟨x,A,B,F⟩:=h.ok y (Zm u);refine⟨_,rfl,.inr ⟨_,_,rfl,rfl,?_⟩⟩;show Up _ (.slice (io ⟨y.1,0,jp⟩) n y.2.2.1) (cW 1 y.2.2.2 el);rw[<-x];exact .row y.1 _ _ 1 y.2.1 _ _ (dc (fT el) h.nd u) (by simp) (by rw[x];exact A) B (fM Z)
 |j+1,b=>exact nomatch b
theorem jF{r:List β}:(aG 1 r el).all PV.flat:=by
 intro e b q d;obtain⟨s,_,rfl⟩:=Zu.1 b;obtain⟨x,_,rfl⟩:=Zu.1 d;trivial
end
end
end Go.Proofs.YtflegjieadkonaaGreatDoor
namespace Go.Proofs.YtflegjieadkonaaGreatDoor
open Go Go.Al Go.Proofs.Tryz
theorem SA(l:Lit)(h:l.size<=100000000000):Pure prog 95 [ag l.c] (.iv (strs (B3 l))):=by
 have F:=Lit.au l.ar;have I:=l.size_eq;refine Al.Pure.le (aa:=[ag l.c]) (args:=[ag l.c1]) ?_ ⟨l.zm,ac⟩;unfold B3;refine ah ab func95 Z (by decide) ntmps95 Z (by simp) Z ?_;refine zJ Z Z (fun k1=>?_) fun k1=>?_
 .have k1:l.kind=1:=zT k1;rw[am (.inl k1)];refine gA Z (cx (by first|exact .inr Z|exact .inl Z) Z Z (rfl) (rfl))
 have k1: ¬l.kind=1:=zF k1;refine zJ Z Z (fun D=>?_) fun D=>?_
 .have D:l.kind=2:=zT D;rw[am (.inr D)];refine gA Z (cx (by first|exact .inr Z|exact .inl Z) Z Z (rfl) (rfl))
 have D: ¬l.kind=2:=zF D;rw[be (by omega)];refine zE Z Z (fun u=>?_) fun u=>?_
 .have u: ¬l.kind=4:=zF u;rw[be u];refine gA Z (zL ?_);exact .nil _ _
 have u:l.kind=4:=zT u;rw[am u]
 let B:List Lit->List aj:=fun b=>(b.filter fun x=>li (x.kind=1∨x.kind=2)).map fun x=>x.atom.rel
 refine gA Z ?_;refine fS 3 1 Z ?_;refine az 0 l.ar.length (YZ _) (fun i=>⟨[(1,.ptr 0 0),(3,.sl 2 0 (B (l.ar.take i)).length 1),(4,pI i)],[(0,io (an l.c1)),(2,io (aG 1 (B (l.ar.take i)) cX))],3⟩) (fun _=>True) [1] ac
  (zW (zK (zS trivial))) fun i J _=>?_
 have G:(B (l.ar.take i)).length<=l.ar.length:=by
  show((List.filter _ (l.ar.take i)).map _).length<=_;rw[Zo];exact ZI (Z4 _ _) (by rw[ZJ];omega)
 refine zJ Z Z (fun j=>?_) fun j=>?_
 .have j:=ci j;have d:B (l.ar.take (i+1))=B (l.ar.take i)++(if(l.ar.getD i em).kind=1∨(l.ar.getD i em).kind=2 then[(l.ar.getD i em).atom.rel] else[]):=Gl j;refine zJ Z Z (fun y=>?_) fun y=>?_
  .have y: ¬(l.ar.getD i em).kind=1:=zF y;refine zJ Z Z (fun A=>?_) fun A=>?_
   .have A:(l.ar.getD i em).kind=2:=zT A;rw[am (.inr A)]at d;refine gA Z ⟨j,ac,[4],zM (bv ⟨.row (by rw[d,YS];rfl),rfl,bv ac⟩) (zK (hR Z (by rw[d,YX];rfl) Z ac))⟩
   .have A: ¬(l.ar.getD i em).kind=2:=zF A;rw[be (by omega),Zv]at d;refine gA Z ⟨j,ac,[2],zM (bv ⟨.row (by rw[d]),rfl,bv ac⟩) (zK (hR Z (by rw[d]) Z ac))⟩
  .have y:(l.ar.getD i em).kind=1:=zT y;rw[am (.inl y)]at d;refine gA Z ⟨j,ac,[4],zM (bv ⟨.row (by rw[d,YS];rfl),rfl,bv ac⟩) (zK (hR Z (by rw[d,YX];rfl) Z ac))⟩
 .have j:=co j;rw[Y1 j];refine gA Z (cx (by first|exact .inr Z|exact .inl Z) Z Z (rfl) (rfl))
theorem uV{β:Type}{a:Nat}{L:wv β}{y:Nat×Nat×Nat×List β}(b:L[a]? =io y):pX L a y y.2.2.2=L:=by
 unfold pX;apply aaD;intro j;rw[ZD];by_cases h:a=j
 .subst h;rw[am Z,am (YV.1 b).1,b]
 .rw[be h]
theorem Hx{x:aj×aj×Nat}{r:ae}{l:Lit}(h:x∈mI r l):x.2.2<=2:=by
 obtain⟨t,_,rfl⟩:=Zu.1 h;exact Hw l
theorem LR{x:aj×aj×Nat}{r:ae}(h:x∈um r):x.2.2<=2:=by
 obtain⟨l,_,h⟩:=aaK.1 h;exact Hx h
theorem Pk{p:Prog}(hf:nf p)(hb:p.fit):Pure prog 55 [ag p.c,.iv (strs (ns p))] (.iv (cW 1 (dW (ns p).length (gF p (c4 p))) (lx ba))):=by
 have hn:=vi hf;refine ah ab func55 Z (by decide) ntmps55 Z (by simp) Z ?_
 let n:=(ns p).length
 refine Hy ?_;refine aJ (bZ ?_);refine gA Z ?_;refine aJ (bZ ?_);refine gA Z ?_;refine aJ (aJ (fQ ⟨[(1,.iv (strs (ns p))),(2,.ptr 0 0),(5,.sl 1 0 0 1),(6,pI 0)],[(0,io (an p.c)),(1,io (rO n ([]:wv Int)))],2⟩ ?_ ?_))
 .refine fS 5 1 Z ?_;refine gA Z (fH [1] ?_);exact zW (zK (zS ac))
 refine bS (jZ 0 n (YZ _) (fun i (x:ULift.{1} (wv Int))=>⟨[(1,.iv (strs (ns p))),(2,.ptr 0 0),(5,.sl 2 0 i 1),(6,pI i)],[(0,io (an p.c)),(2,io (rO n x.down))],3⟩)
  (fun i x Y=>Y=eQ (fT ba) x.down∧y7 n x.down∧dC x.down=(dW n fun _ _=>(0:Int)).take i) ⟨[]⟩ [1] ⟨rfl,GD n,rfl⟩
  (zW (zK (zS ac))) (fun _ _ _ h=>h.1▸cM (fT ba) _) fun i x Y hi hJ=>?_)
 obtain⟨rfl,A,u⟩:=hJ;obtain⟨L⟩:=x;have A:y7 n L:=A;have u:dC L=(dW n fun _ _=>(0:Int)).take i:=u;have j1:L.length=i:=by
  have:=congrArg abi u;rw[ZJ,fo]at this;unfold dC at this;rw[Zo]at this;omega
 refine aJ (aJ (bZ ?_));refine gA Z ?_;refine dB Z (fun h1=>dP ?_) (fun h1=>gC ?_)
 .have h1:=ci h1;refine aJ (bS (iJ (bE 3 ?_)));refine gA Z ?_;refine bE 1 ?_;refine Ep ab n n Z Z Z Z Z Z Z Z Z (by omega) (by omega) (by show 8*n<=_;omega) Z (by decide) (z:=[pI 0]) Z (.inr ⟨rfl,rfl⟩) Z ?_;refine gA Z ?_;refine eG (xr (i:=3) (o':=aG 1 ((Zg n).map fun _=>(0:Int)) ba) Z (.of_eq ?_)) fun t Y F=>?_
  .show AO.row 1 (aaO n [pI 0])=AO.row 1 (((Zg n).map fun _=>(0:Int)).map fun x=>(ba x).map PV.iv);rw[aaH];congr 1;apply aaD;intro j;rw[aaX,Y0];rcases Z1 j n with hj|hj
   .rw[am hj,aaQ hj];rfl
   .rw[be (by omega),aa5 (by simpa using hj)];rfl
  obtain⟨rfl,rfl⟩:=F
  refine eG (re (i:=3) (d:=23) (cM (fT ba) L) Z (by
   show(AO.row 1 (((Zg n).map fun _=>(0:Int)).map fun x=>(ba x).map PV.iv)).real=kw;have:0<n:=by omega
   obtain⟨m,hm⟩: ∃m,n=m+1:=⟨n-1,by omega⟩
   rw[hm,abg];rfl) (jF ba) Z (by omega)) fun t Y F=>?_
  obtain⟨b,e,v0,n1,g1,g2,g3,rfl,rfl⟩:=F;refine bE 3 ?_;refine gA Z ?_;refine fc (ju (bZ ?_));refine gA Z ?_;have y0:=tX (fT ba) n1
  exact⟨h1,⟨L++ [(b,e,v0,(Zg n).map fun _=>(0:Int))]⟩,[5],⟨sR (fT ba) (y:=(b,e,v0,(Zg n).map fun _=>(0:Int))) A.nd y0,CZ A y0 ⟨by simp,g1,g2,g3⟩,by
   show dC (L++ [_])=_;rw[bz (by rw[fo];exact h1),<-u];unfold dC;rw[YX];congr 1
   rw[YR,mb h1];rfl⟩,zM (bv (bv ⟨.row Z,rfl,bv ac⟩)) (zK (hR Z (by rw[YX];rfl) Z ac))⟩
 have h1:=co h1;have u:dC L=dW n (gF p []):=by rw[u,Y1 (by rw[fo];exact h1)];rfl
 clear j1;have x1:p.rules.length<=1000000000:=hb.2.1
 let G:Nat->List (aj×aj×Nat):=fun r=>(p.rules.take r).flatMap um
 change GX _ _ [.code _] _ _ _;refine aJ (aJ (fQ ⟨[(1,.iv (strs (ns p))),(2,.ptr 0 0),(5,.sl 2 0 n 1),(7,pI 0)],[(0,io (an p.c)),(2,io (rO n L))],3⟩ ?_ ?_))
 .have o1:i=n:=by omega
  subst o1;refine gA Z (fH [] ?_);exact zW (zK (zS ac))
 refine bS (jZ 0 p.rules.length (YZ _) (fun r (x:ULift.{1} (wv Int))=>⟨[(1,.iv (strs (ns p))),(2,.ptr 0 0),(5,.sl 2 0 n 1),(7,pI r)],[(0,io (an p.c)),(2,io (rO n x.down))],3⟩)
  (fun r x Y=>Y=eQ (fT ba) x.down∧y7 n x.down∧dC x.down=dW n (gF p (G r))) ⟨L⟩ [] ⟨rfl,A,u⟩
  (zW (zK (zS ac))) (fun _ _ _ h=>h.1▸cM (fT ba) _) fun r x Y hr hJ=>?_)
 clear A u;obtain⟨rfl,A,u⟩:=hJ;obtain⟨L⟩:=x;have A:y7 n L:=A;have u:dC L=dW n (gF p (G r)):=u;refine aJ (aJ (bZ ?_));refine gA Z ?_;refine dB Z (fun h2=>dP ?_) (fun h2=>gC ?_);rotate_left
 .have h2:p.rules.length<=r:=by simpa using h2
  have i1:G r=c4 p:=by show((p.rules.take r).flatMap um)=_;rw[Y1 h2];rfl
  rw[i1]at u;change GX _ _ [.code _] _ _ _;refine Ek (BA (i:=2) (o':=aG 1 (dC L) (lx ba)) Z (Vo ba A)) fun t Y F=>?_;obtain⟨rfl,rfl⟩:=F;have f1:(dC L).length=n:=by rw[u,fo]
  refine bZ ?_;rw[<-u];refine gA Z (rD (.inr Z) Z (lu.KO 2 (dC L) (lx ba) Z Z (by rw[f1];show PV.db 2 1 n (.sl 2 0 n 1);simp[PV.db]) (.done ?_)));have e:cW 1 (dC L) (lx ba)= .dG 1 n fun k=>lx ba ((dC L).getD k em):=by unfold cW;rw[f1]
  rw[e];show aL (.iv (.dG 1 n fun k=>lx ba ((dC L).getD (0+k) em))) _;simp only[Zh];exact .refl _
 have h2:r<p.rules.length:=by simpa using h2
 have f0:p.rules.getD r em∈p.rules:=cS h2;have w0:G (r+1)=G r++um (p.rules.getD r em):=by show((p.rules.take (r+1)).flatMap um)=_;rw[bz h2,aaZ];simp;rfl
 have k0:=hb.2.2 _ f0;have e0:=k0.1;have b0:=hf.yj _ f0;have c0:=hf.lits _ f0;have a0:=hf.flat _ f0;have m1:(p.rules.getD r em).body.length<=10000000:=by have:=Lit.au (p.rules.getD r em).body;unfold ae.size at e0;omega
 obtain⟨D,g0,i0⟩:=Go.Rg.ru (V:=ns p) (a:=(p.rules.getD r em).head.rel) (by rw[ns,gn];exact b0);have i0:vD p D=(p.rules.getD r em).head.rel:=i0;have b1:=GW (ns p) (p.rules.getD r em).head.rel (by omega);have e1:=K2 hf g0;rw[i0]at e1;rw[show JM (ns p) (p.rules.getD r em).head.rel=(D:Int) from e1]at b1;refine aJ (bS (aJ (bZ ?_)));refine gA Z (zp (b1) ?_);refine gA Z ?_;refine aJ (fQ ⟨[(1,.iv (strs (ns p))),(2,.ptr 0 0),(5,.sl 2 0 n 1),(7,pI r),(8,pI D),(9,pI 0)],[(0,io (an p.c)),(2,io (rO n L))],3⟩ ?_ ?_)
 .refine gA Z (fH [] ?_);exact zW (zK (zS ac))
 generalize l1:p.rules.getD r em=R at f0 w0 k0 e0 b0 c0 a0 m1 i0
 refine bS (jZ 0 R.body.length (YZ _) (fun i (x:ULift.{1} (wv Int))=>⟨[(1,.iv (strs (ns p))),(2,.ptr 0 0),(5,.sl 2 0 n 1),(7,pI r),(8,pI D),(9,pI i)],[(0,io (an p.c)),(2,io (rO n x.down))],3⟩)
  (fun i x Y=>Y=eQ (fT ba) x.down∧y7 n x.down∧dC x.down=dW n (gF p (G r++(R.body.take i).flatMap (mI R)))) ⟨L⟩ [] ⟨rfl,A,by rw[ab3,abE,Zv];exact u⟩
  (zW (zK (zS ac))) (fun _ _ _ h=>h.1▸cM (fT ba) _) fun i x Y v1 hJ=>?_)
 clear A u;obtain⟨rfl,A,u⟩:=hJ;obtain⟨L⟩:=x;have A:y7 n L:=A;have u:dC L=dW n (gF p (G r++(R.body.take i).flatMap (mI R))):=u;refine aJ (aJ (bZ ?_));subst l1;refine gA Z ?_;refine dB Z (fun h3=>dP ?_) (fun h3=>gC ?_);rotate_left
 .have h3:(p.rules.getD r em).body.length<=i:=by simpa using h3
  rw[Y1 h3,show G r++(p.rules.getD r em).body.flatMap (mI (p.rules.getD r em))=G (r+1) from w0.symm]at u;change GX _ _ (.code _::_) _ _ _;refine bZ ?_;refine gA Z ⟨h2,⟨L⟩,[],⟨rfl,A,u⟩,zW (zK (zS ac))⟩
 have h3:i<(p.rules.getD r em).body.length:=by simpa using h3
 have hl:(p.rules.getD r em).body.getD i em∈(p.rules.getD r em).body:=cS h3;have x0:((p.rules.getD r em).body.take (i+1)).flatMap (mI (p.rules.getD r em))=((p.rules.getD r em).body.take i).flatMap (mI (p.rules.getD r em))++mI (p.rules.getD r em) ((p.rules.getD r em).body.getD i em):=by rw[bz h3,aaZ];simp
 have s0:((p.rules.getD r em).body.getD i em).size<=10000000:=by have:=Lit.aI (p.rules.getD r em).body i h3;unfold ae.size at e0;omega
 have n0:=c0 _ hl;have s1:=xZ _ (a0 _ hl);have r1:=kr ((p.rules.getD r em).body.getD i em);refine aJ (bS (aJ (bZ ?_)));refine gA Z ?_;refine aJ (bZ ?_);refine gA Z (zp (SA ((p.rules.getD r em).body.getD i em) (by omega)) ?_);refine gA Z ?_;rw[<-s1];refine aJ (fQ ⟨[(1,.iv (strs (ns p))),(2,.ptr 0 0),(5,.sl 2 0 n 1),(7,pI r),(8,pI D),(9,pI i),(10,.ptr 3 0),(11,.iv (strs (named ((p.rules.getD r em).body.getD i em)))),(12,pI 0)],[(0,io (an p.c)),(2,io (rO n L)),(3,io (an ((p.rules.getD r em).body.getD i em).c))],4⟩ ?_ ?_)
 .refine gA Z (fH [] ?_);exact zW (zK (zS (zK ac)))
 generalize w1:(p.rules.getD r em).body.getD i em=l at hl x0 s0 n0 r1;generalize a1:G r++((p.rules.getD r em).body.take i).flatMap (mI (p.rules.getD r em))=hs0 at u
 refine bS (jZ 0 (named l).length (YZ _) (fun k (x:ULift.{1} (wv Int))=>⟨[(1,.iv (strs (ns p))),(2,.ptr 0 0),(5,.sl 2 0 n 1),(7,pI r),(8,pI D),(9,pI i),(10,.ptr 3 0),(11,.iv (strs (named l))),(12,pI k)],[(0,io (an p.c)),(2,io (rO n x.down)),(3,io (an l.c))],4⟩)
  (fun k x Y=>Y=eQ (fT ba) x.down∧y7 n x.down∧dC x.down=dW n (gF p (hs0++((named l).take k).map fun t=>((p.rules.getD r em).head.rel,t,gu l)))) ⟨L⟩ [] ⟨rfl,A,by rw[ab3,ZR,Zv];exact u⟩
  (zW (zK (zS (zK ac)))) (fun _ _ _ h=>h.1▸cM (fT ba) _) fun k x Y hk hJ=>?_)
 clear A u;obtain⟨rfl,A,u⟩:=hJ;obtain⟨L⟩:=x;have A:y7 n L:=A;have u:dC L=dW n (gF p (hs0++((named l).take k).map fun t=>((p.rules.getD r em).head.rel,t,gu l))):=u;refine aJ (aJ (bZ ?_));refine gA Z ?_;refine dB Z (fun h4=>dP ?_) (fun h4=>gC ?_);rotate_left
 .have h4:=co h4;rw[Y1 h4,<-a1,Y3,show(named l).map (fun t=>((p.rules.getD r em).head.rel,t,gu l))=mI (p.rules.getD r em) l from rfl,<-x0]at u;change GX _ _ (.code _::_) _ _ _;refine bZ ?_;refine gA Z ⟨h3,⟨L⟩,[],⟨rfl,A,u⟩,zW (zK (zS ac))⟩
 have h4:=ci h4;obtain⟨B,j0,q0⟩:=Go.Rg.ru (V:=ns p) (a:=(named l).getD k em) (by rw[ns,gn];exact n0 _ (cS h4));have q0:vD p B=(named l).getD k em:=q0;have d1:=GW (ns p) ((named l).getD k em) (by omega);have o0:=K2 hf j0;rw[q0]at o0;rw[show JM (ns p) ((named l).getD k em)=(B:Int) from o0]at d1
 let T2:AS:=⟨[(1,.iv (strs (ns p))),(2,.ptr 0 0),(5,.sl 2 0 n 1),(7,pI r),(8,pI D),(9,pI i),(10,.ptr 3 0),(11,.iv (strs (named l))),(12,pI k),(13,pI B)],[(0,io (an p.c)),(2,io (rO n L)),(3,io (an l.c))],4⟩
 refine aJ (bS (aJ (fQ T2 ?_ ?_)))
 .refine gA Z (zp (d1) ?_);refine gA Z (fH [] ?_);exact zW (zK (zS (zK ac)))
 refine aJ (fQ T2 ?_ ?_)
 .refine zE Z Z (fun q1=>?_) fun q1=>?_
  .have:=zT (show li ((D:Int)<0)=kw from q1);omega
  refine zJ Z Z (fun q2=>?_) fun q2=>?_
  .have:=zT (show li ((B:Int)<0)=kw from q2);omega
  refine gA Z (fH [] ?_);exact zW (zK (zS (zK ac)))
 have hL:L.length=n:=by
  have:=congrArg abi u;rw[fo]at this;unfold dC at this;rwa[Zo]at this
 have p1:D<L.length:=by omega
 obtain⟨y,I⟩: ∃y,L[D]? =io y:=⟨_,YU p1⟩
 obtain⟨k1,k2,k3,k4⟩:=A.ok y (Zm I);have S:(hs0++((named l).take k).map fun t=>((p.rules.getD r em).head.rel,t,gu l))++ [(vD p D,vD p B,gu l)]=hs0++((named l).take (k+1)).map fun t=>((p.rules.getD r em).head.rel,t,gu l):=by
  rw[bz h4,YX,Y3,i0,q0];rfl
 have m0: ∀x∈hs0++((named l).take k).map (fun t=>((p.rules.getD r em).head.rel,t,gu l)),x.2.2<=2:=fun x hx=>by
  rw[<-a1]at hx;rcases Y6.1 hx with hx|hx
  .rcases Y6.1 hx with hx|hx
   .obtain⟨_,_,hx⟩:=aaK.1 hx;exact LR hx
   .obtain⟨_,_,hx⟩:=aaK.1 hx;exact Hx hx
  .obtain⟨t,_,rfl⟩:=Zu.1 hx;exact Hw l
 generalize hs0++((named l).take k).map (fun t=>((p.rules.getD r em).head.rel,t,gu l))=hs1 at u S m0;have t0:y.2.2.2=(Zg n).map fun j=>gF p hs1 D j:=by
  have:=Fo I;rw[u,mb g0]at this;exact(ZP this).symm
 have d0:=C8 (n:=n) (f:=gF p hs1) (f':=gF p (hs1++ [(vD p D,vD p B,gu l)])) g0 j0 (HI hf g0 j0);rw[SM]at d0;have t1:0<=gF p hs1 D B:=Int.natCast_nonneg _;have u1:gF p hs1 D B<=2:=by
  have:=Uz m0 (vD p D) (vD p B);unfold gF;omega
 have J: ∀r:List Int,r.length=n->(aG 1 r ba).real=kw:=fun r hr=>by
  cases r with
  |nil=>simp at hr;omega
  |cons=>rfl
 refine aJ (bZ ?_);refine gA Z ?_;refine dB Z (fun q3=>?_) (fun q3=>?_)
 .have q3: ¬l.kind=1:=zX q3;have hh:gu l=2:=by rw[gu,be q3]
  have hm:max (gF p hs1 D B) (gu l:Int)=2:=by rw[hh];omega
  refine iJ (bE 3 ?_);refine gA Z ?_;refine bE 1 ?_;refine bp ab Z Z Z Z Z (show(L.map fun x=>(sX n x).map PV.iv)[0+D]? =io ((sX n y).map PV.iv) by rw[Zh,Y0,I];rfl) Z Z ?_;refine gA Z ?_;refine eG (kn (d:=88) (sz:=1) (dc (fT ba) A.nd I) Z (by omega) k2 k3 k4) fun t Y F=>?_;obtain⟨rfl,rfl⟩:=F;refine bE 2 ?_;refine gA Z ?_;refine bE 1 ?_;refine kA ab Z Z Z (i:=4) (sz:=1) (q:=0+B) Z Z Z Z (by simp only[Zo];omega) Z Z Z Z ?_;refine gA Z ?_;refine eG (xr (i:=4) (o':=aG 1 (y.2.2.2.set B 2) ba) Z (.of_eq ?_)) fun t Y F=>?_
  .show AO.row 1 ((y.2.2.2.map fun x=>(ba x).map PV.iv).set (0+B) ((ba 2).map PV.iv))=AO.row 1 ((y.2.2.2.set B 2).map fun x=>(ba x).map PV.iv);rw[Zh,aaA]
  obtain⟨rfl,rfl⟩:=F;refine eG (xt (b:=y.1) (e:=y.2.1) (i:=4) (o:=aG 1 (y.2.2.2.set B 2) ba) (bd.dw _ _ _) Z (J _ (by rw[aax];exact k1)) (jF ba)) fun t Y F=>?_;obtain⟨rfl,rfl⟩:=F;refine fc (ju (bZ ?_));refine gA Z ?_
  exact⟨h4,⟨pX L D y (y.2.2.2.set B 2)⟩,[],⟨n9 ba A I,Bx A I (by rw[aax];exact k1),by
   show dC (pX L D y (y.2.2.2.set B 2))=_
   rw[Bz,u,<-S,t0,<-hm];exact d0⟩,zW (zK (hR Z (FD I).symm Z (zK ac)))⟩
 .have q3:l.kind=1:=zY q3;have hh:gu l=1:=by rw[gu,am q3]
  refine aJ (iJ (bE 3 ?_));refine gA Z ?_;refine bE 1 ?_;refine bp ab Z Z Z Z Z (show(L.map fun x=>(sX n x).map PV.iv)[0+D]? =io ((sX n y).map PV.iv) by rw[Zh,Y0,I];rfl) Z Z ?_;refine gA Z ?_;refine eG (kn (d:=94) (sz:=1) (dc (fT ba) A.nd I) Z (by omega) k2 k3 k4) fun t Y F=>?_;obtain⟨rfl,rfl⟩:=F;refine bE 2 ?_;refine gA Z ?_;refine bE 1 ?_;refine bp ab Z Z Z Z Z (show(y.2.2.2.map fun x=>(ba x).map PV.iv)[0+B]? =io ((ba (y.2.2.2.getD B em)).map PV.iv) from gy (by omega)) Z Z ?_;refine gA Z ?_;refine bE 1 ?_;refine gA Z ?_;refine eG (xt (b:=y.1) (e:=y.2.1) (i:=4) (o:=aG 1 y.2.2.2 ba) (bd.dw _ _ _) Z (J _ k1) (jF ba)) fun t Y F=>?_;obtain⟨rfl,rfl⟩:=F;rw[n9 ba A I,uV I];have p0:y.2.2.2.getD B em=gF p hs1 D B:=by rw[t0,YR,rm j0];rfl
  refine fc (dB Z (fun q4=>?_) (fun q4=>?_))
  .have q4:gF p hs1 D B=0:=by rw[<-p0];exact zT q4
   have hm:max (gF p hs1 D B) (gu l:Int)=1:=by rw[hh];omega
   refine iJ (bE 3 ?_);refine gA Z ?_;refine bE 1 ?_;refine bp ab Z Z Z Z Z (show(L.map fun x=>(sX n x).map PV.iv)[0+D]? =io ((sX n y).map PV.iv) by rw[Zh,Y0,I];rfl) Z Z ?_;refine gA Z ?_;refine eG (kn (d:=102) (sz:=1) (dc (fT ba) A.nd I) Z (by omega) k2 k3 k4) fun t Y F=>?_;obtain⟨rfl,rfl⟩:=F;refine bE 2 ?_;refine gA Z ?_;refine bE 1 ?_;refine kA ab Z Z Z (i:=5) (sz:=1) (q:=0+B) Z Z Z Z (by simp only[Zo];omega) Z Z Z Z ?_;refine gA Z ?_;refine eG (xr (i:=5) (o':=aG 1 (y.2.2.2.set B 1) ba) Z (.of_eq ?_)) fun t Y F=>?_
   .show AO.row 1 ((y.2.2.2.map fun x=>(ba x).map PV.iv).set (0+B) ((ba 1).map PV.iv))=AO.row 1 ((y.2.2.2.set B 1).map fun x=>(ba x).map PV.iv);rw[Zh,aaA]
   obtain⟨rfl,rfl⟩:=F;refine eG (xt (b:=y.1) (e:=y.2.1) (i:=5) (o:=aG 1 (y.2.2.2.set B 1) ba) (bd.dw _ _ _) Z (J _ (by rw[aax];exact k1)) (jF ba)) fun t Y F=>?_;obtain⟨rfl,rfl⟩:=F;refine fc (ju (bZ ?_));refine gA Z ?_
   exact⟨h4,⟨pX L D y (y.2.2.2.set B 1)⟩,[],⟨n9 ba A I,Bx A I (by rw[aax];exact k1),by
    show dC (pX L D y (y.2.2.2.set B 1))=_
    rw[Bz,u,<-S,t0,<-hm];exact d0⟩,zW (zK (hR Z (FD I).symm Z (zK ac)))⟩
  .have q4: ¬gF p hs1 D B=0:=by rw[<-p0];exact zF q4
   have hm:max (gF p hs1 D B) (gu l:Int)=gF p hs1 D B:=by rw[hh];omega
   refine dP (ju (bZ ?_));refine gA Z ?_
   exact⟨h4,⟨L⟩,[],⟨rfl,A,by
    show dC L=_;rw[u,<-S];refine mc fun i j hi hj=>?_;rw[HI hf g0 j0 i j hi hj];by_cases r0:i=D∧j=B
    .rw[am r0,SM,hm,r0.1,r0.2]
    .rw[be r0]⟩,zW (zK (zS (zK ac)))⟩
abbrev iB(b:Bool):IV:= .v (.bool b)
def bD(b:Bool):List IV:=[iB b]
abbrev wI(n:Nat)(f:Nat->Nat->Bool):IV:=cW 1 (dW n f) (lx bD)
abbrev gI(n:Nat)(g:Nat->Nat->Int):IV:=cW 1 (dW n g) (lx ba)
theorem tP{β:Type}[Inhabited β]{n:Nat}{f:Nat->Nat->β}{a b:Nat}(ha:a<n)(hb:b<n):((dW n f).getD a em).getD b em=f a b:=by
 rw[YR,YR,mb ha,aah,rm hb];rfl
theorem pV{β:Type}[Inhabited β]{n:Nat}{f:Nat->Nat->β}{a:Nat}(ha:a<n):((dW n f).getD a em).length=n:=by
 rw[YR,mb ha];simp
abbrev pM(D:List Bool)(b:Nat):Bool:=D.getD b em
theorem Ad{sz q:Nat}{es:List (List PV)}{p p':PV}(h:aL p p'):gf (.row sz (es.set q [p])) (.row sz (es.set q [p'])):=by
 refine⟨fun hr=>?_,fun M N U w i G=>?_⟩
 .cases es with
  |nil=>exact hr
  |cons a r=>cases q<;>rfl
 .have key: ∀(k:Nat) (e:List PV),(es.set q [p'])[k]? =io e-> ∃d,(es.set q [p])[k]? =io d∧d.length=e.length∧ ∀(j:Nat) (x:PV),e[j]? =io x-> ∃A,d[j]? =io A∧aL A x:=by
   intro k e b;rw[ZD]at b;by_cases y:q=k
   .rw[am y]at b;by_cases D:q<es.length
    .rw[am D]at b;cases b;refine⟨[p],by rw[ZD,am y,am D],rfl,fun j x u=>?_⟩;cases j with
     |zero=>cases u;exact⟨p,rfl,h⟩
     |succ j=>simp at u
    .rw[be D]at b;cases b
   .rw[be y]at b;exact⟨e,by rw[ZD,be y];exact b,rfl,fun j x u=>⟨x,u,.refl x⟩⟩
  rcases G with G|⟨J,c,T,S,Y,I,h4,h5⟩
  .refine .inl ?_;have hz:es.length=0:=by have:=congrArg abi G;rw[aax]at this;exact this
   rw[ZN hz];rfl
  .refine .inr ⟨J,c,T,S,Y,by rw[aax]at I ⊢;exact I,fun k e b=>?_,fun k e j x b u=>?_⟩
   .obtain⟨d,B,hb,_⟩:=key k e b;rw[<-hb];exact h4 k d B
   .obtain⟨d,B,_,hc⟩:=key k e b;obtain⟨A,hd,F⟩:=hc j x u;exact F M N U _ (h5 k d j A B hd)
theorem Wr{P:Program}{nt:Nat}{Q:XQ}{k:List XI}{s:AS}{X:bd}{c:Code}{L:List Nat}{t:AS}(hw:Wk s.nx L s t)(h:GX P nt (.code c::k) Q t X):GX P nt (.code c::k) Q s X:=by
 intro M N a w B D;obtain⟨g1,g2⟩:=iU.frame (hw.ext (.refl _ _ _ _ _)) D;exact AX.then h (hw.fits B) g2 fun e a2 G x y F A u b j d=>⟨x,y,F,A,g1.trans u,b,j,d⟩
set_option maxHeartbeats 1000000 in
theorem VZ{n:Nat}(hn:n<=64)(g:Nat->Nat->Int)(E:Nat->Nat->Bool)(hE: ∀i j,i<n->j<n->E i j=li (g i j>0)):Pure prog 63 [.iv (gI n g)] (.iv (cW 1 (dW n (Go.Wa.W E n)) (lx bD))):=by
 have q0:=fo n g;refine ah ab func63 Z (by decide) ntmps63 Z (by simp) Z ?_;refine Hy ?_;refine aJ (bZ ?_);refine gA Z ?_;refine aJ (bZ ?_);refine gA Z ?_;refine aJ (aJ (fQ ⟨[(0,.iv (gI n g)),(3,.sl 0 0 0 1),(4,pI 0)],[(0,io (rO n ([]:wv Bool)))],1⟩ ?_ ?_))
 .refine fS 3 1 Z ?_;refine gA Z (fH [0] ?_);exact zW (zS ac)
 refine bS (jZ 0 n (YZ _) (fun i (x:ULift.{1} (wv Bool))=>⟨[(0,.iv (gI n g)),(3,.sl 1 0 i 1),(4,pI i)],[(1,io (rO n x.down))],2⟩)
  (fun i x Y=>Y=eQ (fT bD) x.down∧y7 n x.down∧dC x.down=(dW n (Go.Wa.W E 0)).take i) ⟨[]⟩ [0] ⟨rfl,GD n,rfl⟩
  (zW (zS ac)) (fun _ _ _ h=>h.1▸cM (fT bD) _) fun i x Y hi hJ=>?_)
 obtain⟨rfl,u,A⟩:=hJ;obtain⟨L⟩:=x;have u:y7 n L:=u;have A:dC L=(dW n (Go.Wa.W E 0)).take i:=A;have v0:L.length=i:=by
  have:=congrArg abi A;rw[ZJ,fo]at this;unfold dC at this;rw[Zo]at this;omega
 refine aJ (aJ (bZ ?_));refine gA Z ?_;refine dB Z (fun h1=>dP ?_) (fun h1=>gC ?_)
 .have h1:i<n:=by
   have h:i<(dW n g).length:=by simpa using h1
   omega
  let B:Nat->List Bool:=fun k=>(Zg n).map fun j=>if j<k then Go.Wa.W E 0 i j else lc
  refine aJ (bS (aJ (fQ ⟨[(0,.iv (gI n g)),(3,.sl 1 0 i 1),(4,pI i),(5,.sl 2 0 n 1)],[(1,io (rO n L)),(2,io (aG 1 (B 0) bD))],3⟩ ?_ ?_)))
  .refine gA Z (Ep ab n n Z Z Z Z Z Z Z (by rw[q0]) (by rw[q0]) (by omega) (by omega) (by show 1*n<=_;omega) Z (by decide) (z:=[pB lc]) Z (.inr ⟨rfl,rfl⟩) Z ?_);refine gA Z (fH [2] ?_)
   exact zW (zS (hR Z (by
    show aaO n [pB lc]=((Zg n).map fun j=>if j<0 then Go.Wa.W E 0 i j else lc).map fun x=>(bD x).map PV.iv;rw[aaH];apply aaD;intro j;rw[aaX,Y0];rcases Z1 j n with hj|hj
    .rw[am hj,aaQ hj];rfl
    .rw[be (by omega),aa5 (by simpa using hj)];rfl) Z ac))
  refine aJ (fQ ⟨[(0,.iv (gI n g)),(3,.sl 1 0 i 1),(4,pI i),(5,.sl 2 0 n 1)],[(1,io (rO n L)),(2,io (aG 1 (B n) bD))],3⟩ ?_ ?_)
  .refine gA Z ?_;refine az 0 n (YZ _) (fun k=>⟨[(0,.iv (gI n g)),(3,.sl 1 0 i 1),(4,pI i),(5,.sl 2 0 n 1),(6,pI k)],[(1,io (rO n L)),(2,io (aG 1 (B k) bD))],3⟩) (fun _=>True) [] ac
    (zW (zS (zS trivial))) fun k hk _=>?_
   refine zE Z Z (fun h2=>?_) fun h2=>?_
   .have h2:n<=k:=by
     have h:(dW n g).length<=k:=by simpa using h2
     omega
    have x0:k=n:=by omega
    subst x0;refine gA Z (fH [] ?_);exact zW (zS (zS ac))
   have h2:k<n:=by
    have h:k<(dW n g).length:=by simpa using h2
    omega
   have e1:=pV (f:=g) h1;have k0:=tP (f:=g) h1 h2;have hw:Go.Wa.W E 0 i k=(li (g i k>0)||decide (i=k)):=by
    show(E i k||i==k)=_;rw[hE i k h1 h2];rfl
   have I:(B k).set k (Go.Wa.W E 0 i k)=B (k+1):=by
    have:=xI (n:=n) (g:=fun j=>if j<k then Go.Wa.W E 0 i j else lc) (g':=fun j=>if j<k+1 then Go.Wa.W E 0 i j else lc) h2 fun j hj=>by
     by_cases m0:j=k
     .simp[m0]
     .rw[be m0];by_cases n0:j<k
      .rw[am n0,am (by omega)]
      .rw[be n0,be (by omega)]
    rw[am (aai k)]at this;exact this
   have d1:(B k).length=n:=by simp[B]
   refine zJ Z Z (fun S=>?_) fun S=>?_
   .have S:li (((dW n g).getD i em).getD k em>0)=lc:=S;rw[k0]at S;refine gA Z (SK (d:=39) (p:=pB (Go.Wa.W E 0 i k)) (.of_eq (fO (by rw[hw,S,Z7,decide_eq_decide];omega))) ?_);refine kA ab Z Z Z (i:=2) (sz:=1) (q:=0+k) Z Z Z Z (by simp only[Zo];omega) Z Z Z Z ?_;refine gA Z ⟨h2,ac,[],zW (zS (hR Z (by rw[Zh,<-I,aaA];rfl) Z ac))⟩
   .have S:li (((dW n g).getD i em).getD k em>0)=kw:=S;rw[k0]at S;refine gA Z (SK (d:=39) (p:=pB (Go.Wa.W E 0 i k)) (.rz (by rw[hw,S];rfl)) ?_);refine kA ab Z Z Z (i:=2) (sz:=1) (q:=0+k) Z Z Z Z (by simp only[Zo];omega) Z Z Z Z ?_;refine gA Z ⟨h2,ac,[],zW (zS (hR Z (by rw[Zh,<-I,aaA];rfl) Z ac))⟩
  have g0:B n=(Zg n).map fun j=>Go.Wa.W E 0 i j:=aaf fun j hj=>am (ZY.1 hj);rw[g0];refine iJ (bE 2 ?_);refine gA Z ?_
  refine eG (re (i:=2) (d:=42) (cM (fT bD) L) Z (by
   have:0<n:=by omega
   obtain⟨m,hm⟩: ∃m,n=m+1:=⟨n-1,by omega⟩
   rw[hm,abg];rfl) (jF bD) Z (by omega)) fun t Y J=>?_
  obtain⟨b,e,i0,G,g1,g2,g3,rfl,rfl⟩:=J;refine bE 3 ?_;refine gA Z ?_;refine fc (ju (bZ ?_));refine gA Z ?_;have j0:=tX (fT bD) G
  exact⟨h1,⟨L++ [(b,e,i0,(Zg n).map fun j=>Go.Wa.W E 0 i j)]⟩,[4],⟨sR (fT bD) (y:=(b,e,i0,(Zg n).map fun j=>Go.Wa.W E 0 i j)) u.nd j0,CZ u j0 ⟨by simp,g1,g2,g3⟩,by
   show dC (L++ [_])=_;rw[bz (by rw[fo];exact h1),<-A];unfold dC;rw[YX];congr 1
   rw[YR,mb h1];rfl⟩,zM (bv ⟨.row Z,rfl,bv ac⟩) (hR Z (by rw[YX];rfl) Z ac)⟩
 have h1:n<=i:=by
  have h:(dW n g).length<=i:=by simpa using h1
  omega
 have w0:i=n:=by omega
 have A:dC L=dW n (Go.Wa.W E 0):=by rw[A,Y1 (by rw[fo];exact h1)]
 clear v0;change GX _ _ [.code _] _ _ _;refine aJ (aJ (fQ ⟨[(0,.iv (gI n g)),(3,.sl 1 0 n 1),(7,pI 0)],[(1,io (rO n L))],2⟩ ?_ ?_))
 .subst w0;refine gA Z (fH [] ?_);exact zW (zS ac)
 refine bS (jZ 0 n (YZ _) (fun m (x:ULift.{1} (wv Bool))=>⟨[(0,.iv (gI n g)),(3,.sl 1 0 n 1),(7,pI m)],[(1,io (rO n x.down))],2⟩)
  (fun m x Y=>Y=eQ (fT bD) x.down∧y7 n x.down∧dC x.down=dW n (Go.Wa.W E m)) ⟨L⟩ [] ⟨rfl,u,A⟩
  (zW (zS ac)) (fun _ _ _ h=>h.1▸cM (fT bD) _) fun m x Y hm hJ=>?_)
 clear u A;obtain⟨rfl,u,A⟩:=hJ;obtain⟨L⟩:=x;have u:y7 n L:=u;have A:dC L=dW n (Go.Wa.W E m):=A;refine aJ (aJ (bZ ?_));refine gA Z ?_;refine dB Z (fun qm=>dP ?_) (fun qm=>gC ?_);rotate_left
 .have h2:n<=m:=by
   have h:(dW n g).length<=m:=by simpa using qm
   omega
  have e0:m=n:=by omega
  rw[e0]at A;change GX _ _ [.code _] _ _ _;refine Ek (BA (i:=1) (o':=aG 1 (dC L) (lx bD)) Z (Vo bD u)) fun t Y J=>?_;obtain⟨rfl,rfl⟩:=J;have f0:(dC L).length=n:=by rw[A,fo]
  refine bZ ?_;rw[<-A];refine gA Z (rD (.inr Z) Z (lu.KO 1 (dC L) (lx bD) Z Z (by rw[f0];show PV.db 1 1 n (.sl 1 0 n 1);simp[PV.db]) (.done ?_)));have e:cW 1 (dC L) (lx bD)= .dG 1 n fun k=>lx bD ((dC L).getD k em):=by unfold cW;rw[f0]
  rw[e];show aL (.iv (.dG 1 n fun k=>lx bD ((dC L).getD (0+k) em))) _;simp only[Zh];exact .refl _
 have e0:m<n:=by
  have h:m<(dW n g).length:=by simpa using qm
  omega
 refine aJ (bS (aJ (fQ ⟨[(0,.iv (gI n g)),(3,.sl 1 0 n 1),(7,pI m),(8,pI 0)],[(1,io (rO n L))],2⟩ ?_ ?_)))
 .refine gA Z (fH [] ?_);exact zW (zS ac)
 refine bS (jZ 0 n (YZ _) (fun a (x:ULift.{1} (wv Bool))=>⟨[(0,.iv (gI n g)),(3,.sl 1 0 n 1),(7,pI m),(8,pI a)],[(1,io (rO n x.down))],2⟩)
  (fun a x Y=>Y=eQ (fT bD) x.down∧y7 n x.down∧dC x.down=dW n (Go.Wa.V E m a 0)) ⟨L⟩ [] ⟨rfl,u,A.trans (mc fun x y _ _=>(Go.Wa.V.zero m x y).symm)⟩
  (zW (zS ac)) (fun _ _ _ h=>h.1▸cM (fT bD) _) fun a x Y ha hJ=>?_)
 clear u A;obtain⟨rfl,u,A⟩:=hJ;obtain⟨L⟩:=x;have u:y7 n L:=u;have A:dC L=dW n (Go.Wa.V E m a 0):=A;refine aJ (aJ (bZ ?_));refine gA Z ?_;refine dB Z (fun qa=>dP ?_) (fun qa=>gC ?_);rotate_left
 .have h2:n<=a:=by
   have h:(dW n g).length<=a:=by simpa using qa
   omega
  have d0:a=n:=by omega
  rw[d0]at A;change GX _ _ (.code _::_) _ _ _;refine bZ ?_;refine gA Z ⟨e0,⟨L⟩,[],⟨rfl,u,A.trans (mc fun x y hx _=>Go.Wa.V.full m n x y hx)⟩,zW (zS ac)⟩
 have d0:a<n:=by
  have h:a<(dW n g).length:=by simpa using qa
  omega
 refine aJ (bS (aJ (fQ ⟨[(0,.iv (gI n g)),(3,.sl 1 0 n 1),(7,pI m),(8,pI a),(9,pI 0)],[(1,io (rO n L))],2⟩ ?_ ?_)))
 .refine gA Z (fH [] ?_);exact zW (zS ac)
 refine bS (jZ 0 n (YZ _) (fun b (x:ULift.{1} (wv Bool))=>⟨[(0,.iv (gI n g)),(3,.sl 1 0 n 1),(7,pI m),(8,pI a),(9,pI b)],[(1,io (rO n x.down))],2⟩)
  (fun b x Y=>Y=eQ (fT bD) x.down∧y7 n x.down∧dC x.down=dW n (Go.Wa.V E m a b)) ⟨L⟩ [] ⟨rfl,u,A⟩
  (zW (zS ac)) (fun _ _ _ h=>h.1▸cM (fT bD) _) fun b x Y hb hJ=>?_)
 clear u A;obtain⟨rfl,u,A⟩:=hJ;obtain⟨L⟩:=x;have u:y7 n L:=u;have A:dC L=dW n (Go.Wa.V E m a b):=A;refine aJ (aJ (bZ ?_));refine gA Z ?_;refine dB Z (fun qb=>dP ?_) (fun qb=>gC ?_);rotate_left
 .have h2:n<=b:=by
   have h:(dW n g).length<=b:=by simpa using qb
   omega
  have G:b=n:=by omega
  rw[G]at A;change GX _ _ (.code _::_) _ _ _;refine bZ ?_;refine gA Z ⟨d0,⟨L⟩,[],⟨rfl,u,A.trans (mc fun x y _ hy=>Go.Wa.V.line m a n x y hy)⟩,zW (zS ac)⟩
 have G:b<n:=by
  have h:b<(dW n g).length:=by simpa using qb
  omega
 have hL:L.length=n:=by
  have:=congrArg abi A;rw[fo]at this;unfold dC at this;rwa[Zo]at this
 have a0: ∀r:List Bool,r.length=n->(aG 1 r bD).real=kw:=fun r hr=>by
  cases r with
  |nil=>simp at hr;omega
  |cons=>rfl
 have y0:a<L.length:=by omega
 have a1:m<L.length:=by omega
 obtain⟨F,D⟩: ∃y,L[a]? =io y:=⟨_,YU y0⟩
 obtain⟨ym,c0⟩: ∃y,L[m]? =io y:=⟨_,YU a1⟩
 obtain⟨k1,k2,k3,k4⟩:=u.ok F (Zm D);obtain⟨j1,j2,j3,j4⟩:=u.ok ym (Zm c0);have p0:F.2.2.2=(Zg n).map fun j=>Go.Wa.V E m a b a j:=by
  have:=Fo D;rw[A,mb d0]at this;exact(ZP this).symm
 have b1:ym.2.2.2=(Zg n).map fun j=>Go.Wa.V E m a b m j:=by
  have:=Fo c0;rw[A,mb e0]at this;exact(ZP this).symm
 have r0:F.2.2.2.getD m em=Go.Wa.V E m a b a m:=by rw[p0,YR,rm e0];rfl
 have s0:ym.2.2.2.getD b em=Go.Wa.V E m a b m b:=by rw[b1,YR,rm G];rfl
 have o0:(Go.Wa.V E m a b a m&&Go.Wa.V E m a b m b)=lc->dC L=dW n (Go.Wa.V E m a (b+1)):=fun h=>A.trans (mc fun x y _ _=>by
  rw[Go.Wa.V.next,h,aau];by_cases t0:x=a∧y=b
  .rw[am t0]
  .rw[be t0])
 refine aJ (bS (aJ (iJ (bE 3 ?_))));refine gA Z ?_;refine bE 1 ?_;refine bp ab Z Z Z Z Z (show(L.map fun x=>(sX n x).map PV.iv)[0+a]? =io ((sX n F).map PV.iv) by rw[Zh,Y0,D];rfl) Z Z ?_;refine gA Z ?_;refine eG (kn (d:=66) (sz:=1) (dc (fT bD) u.nd D) Z (by omega) k2 k3 k4) fun t Y J=>?_;obtain⟨rfl,rfl⟩:=J;refine bE 2 ?_;refine gA Z ?_;refine bE 1 ?_;refine bp ab Z Z Z Z Z (show(F.2.2.2.map fun x=>(bD x).map PV.iv)[0+m]? =io ((bD (F.2.2.2.getD m em)).map PV.iv) from gy (by omega)) Z Z ?_;refine gA Z ?_;refine bE 1 ?_;refine gA Z ?_;refine eG (xt (b:=F.1) (e:=F.2.1) (i:=2) (o:=aG 1 F.2.2.2 bD) (bd.dw _ _ _) Z (a0 _ k1) (jF bD)) fun t Y J=>?_;obtain⟨rfl,rfl⟩:=J;rw[n9 bD u D,uV D];refine bE 3 ?_;refine zJ Z Z (fun S=>?_) fun S=>?_
 .have S:Go.Wa.V E m a b a m=kw:=by rw[<-r0];exact S
  refine gA Z ?_;refine bE 1 ?_;refine gM 1 Z (bp ab Z Z Z Z Z (show(L.map fun x=>(sX n x).map PV.iv)[0+m]? =io ((sX n ym).map PV.iv) by rw[Zh,Y0,c0];rfl) Z Z ?_);refine gA Z ?_;refine eG (kn (d:=74) (sz:=1) (dc (fT bD) u.nd c0) Z (by omega) j2 j3 j4) fun t Y J=>?_;obtain⟨rfl,rfl⟩:=J;refine bE 2 ?_;refine gA Z ?_;refine bE 1 ?_;refine gM 1 Z (bp ab Z Z Z Z Z (show(ym.2.2.2.map fun x=>(bD x).map PV.iv)[0+b]? =io ((bD (ym.2.2.2.getD b em)).map PV.iv) from gy (by omega)) Z Z ?_);refine gA Z ?_;refine eG (xt (b:=ym.1) (e:=ym.2.1) (i:=3) (o:=aG 1 ym.2.2.2 bD) (bd.dw _ _ _) Z (a0 _ j1) (jF bD)) fun t Y J=>?_;obtain⟨rfl,rfl⟩:=J;rw[n9 bD u c0,uV c0];refine bE 1 ?_;refine gA Z ?_;refine fc (dB Z (fun q2=>?_) (fun q2=>?_))
  .have q2:Go.Wa.V E m a b m b=kw:=by rw[<-s0];exact q2
   have hw:Go.Wa.V E m a (b+1) a b=kw:=by rw[Go.Wa.V.next,am ⟨rfl,rfl⟩,S,q2];simp
   have I:=C8 (n:=n) (f:=Go.Wa.V E m a b) (f':=Go.Wa.V E m a (b+1)) d0 G fun i j _ _=>by
    rw[Go.Wa.V.next m a b i j];by_cases b0:i=a∧j=b
    .rw[am b0,am b0,Go.Wa.V.next,am ⟨rfl,rfl⟩,b0.1,b0.2]
    .rw[be b0,be b0]
   rw[hw]at I;refine Wr (L:=[]) (t:=⟨[(0,.iv (gI n g)),(3,.sl 1 0 n 1),(7,pI m),(8,pI a),(9,pI b)],[(1,io (rO n L))],4⟩) (zW (zS ac)) ?_;refine iJ (bE 3 ?_);refine gA Z ?_;refine bE 1 ?_;refine bp ab Z Z Z Z Z (show(L.map fun x=>(sX n x).map PV.iv)[0+a]? =io ((sX n F).map PV.iv) by rw[Zh,Y0,D];rfl) Z Z ?_;refine gA Z ?_;refine eG (kn (d:=82) (sz:=1) (dc (fT bD) u.nd D) Z (by omega) k2 k3 k4) fun t Y J=>?_;obtain⟨rfl,rfl⟩:=J;refine bE 2 ?_;refine gA Z ?_;refine bE 1 ?_;refine kA ab Z Z Z (i:=4) (sz:=1) (q:=0+b) Z Z Z Z (by simp only[Zo];omega) Z Z Z Z ?_;refine gA Z ?_;refine eG (xr (i:=4) (o':=aG 1 (F.2.2.2.set b kw) bD) Z ((Ad (sz:=1) (es:=F.2.2.2.map fun x=>(bD x).map PV.iv) (q:=0+b) (p:= .kb kw) (p':= .iv (iB kw)) (.kb kw)).trans (.of_eq ?_))) fun t Y J=>?_
   .show AO.row 1 ((F.2.2.2.map fun x=>(bD x).map PV.iv).set (0+b) ((bD kw).map PV.iv))=AO.row 1 ((F.2.2.2.set b kw).map fun x=>(bD x).map PV.iv);rw[Zh,aaA]
   obtain⟨rfl,rfl⟩:=J;refine eG (xt (b:=F.1) (e:=F.2.1) (i:=4) (o:=aG 1 (F.2.2.2.set b kw) bD) (bd.dw _ _ _) Z (a0 _ (by rw[aax];exact k1)) (jF bD)) fun t Y J=>?_;obtain⟨rfl,rfl⟩:=J;refine fc (ju (bZ (ki (L:=[]) (t:=⟨[(0,.iv (gI n g)),(3,.sl 1 0 n 1),(7,pI m),(8,pI a),(9,pI b)],[(1,io (rO n (pX L a F (F.2.2.2.set b kw))))],5⟩) (zW (hR Z (FD D).symm Z ac)) ?_)));refine gA Z ?_
   exact⟨G,⟨pX L a F (F.2.2.2.set b kw)⟩,[],⟨n9 bD u D,Bx u D (by rw[aax];exact k1),by
    show dC (pX L a F (F.2.2.2.set b kw))=_
    rw[Bz,A,p0];exact I⟩,zW (zS ac)⟩
  .have q2:Go.Wa.V E m a b m b=lc:=by rw[<-s0];exact q2
   refine dP (ju (bZ ?_));refine gA Z ⟨G,⟨L⟩,[],⟨rfl,u,o0 (by rw[q2,ZV])⟩,zW (zS ac)⟩
 .have S:Go.Wa.V E m a b a m=lc:=by rw[<-r0];exact S
  refine gA Z ?_;refine bE 5 ?_;refine gA Z ?_;refine fc ?_
  first
   |refine F5 (t:=lc) Z ?_
   |refine dB (t:=lc) Z (fun q=>nomatch q) (fun _=>?_)
  refine dP (ju (bZ ?_));refine gA Z ⟨G,⟨L⟩,[],⟨rfl,u,o0 (by rw[S,ZZ])⟩,zW (zS ac)⟩
theorem Af{p:Prog}(hf:nf p){i j:Nat}(hi:i<(ns p).length)(hj:j<(ns p).length):ringEq p (vD p i) (vD p j)=(jP p i j&&jP p j i):=by
 rw[ZE,xK,Zf];constructor
 .rintro⟨i',j',hi',hj',h1,h2,h3,h4⟩;obtain rfl:=CV hf hi' hi h1;obtain rfl:=CV hf hj' hj h2;exact⟨h3,h4⟩
 .exact fun h=>⟨i,j,hi,hj,rfl,rfl,h.1,h.2⟩
theorem H6{p:Prog}(hf:nf p){a:aj}(ha:a∈p.aD.map Decl.name): ∃i,i<(ns p).length∧vD p i=a∧JM (ns p) a=(i:Int):=by
 obtain⟨i,b,d⟩:=Go.Rg.ru (V:=ns p) (a:=a) (by rw[ns,gn];exact ha);refine⟨i,b,d,?_⟩;have:=K2 hf b;rwa[show vD p i=a from d]at this
theorem Xk{i:Nat}{α:Prop}(h:li ((i:Int)>=0)=lc):α:=by
 have:=zF h;omega
theorem oO{r:ae}(h:r.size<=10000000):r.body.length<=10000000∧r.head.ad.length<=10000000:=by
 have:=Lit.au r.body;unfold ae.size at h;exact⟨by omega,by omega⟩
abbrev fI(p:Prog):IV:=wI (ns p).length (jP p)
theorem Pc{p:Prog}(hf:nf p){r:ae}(hr:r∈p.rules)(J:r.size<=10000000):Pure prog 62 [ag r.c,.iv (strs (ns p)),.iv (fI p)] (pB (nL p r)):=by
 have hn:=vi hf;have d0:=fo (ns p).length (jP p);have a0:=(oO J).1;obtain⟨a,B,F,I⟩:=H6 hf (hf.yj r hr);have u:=rk (ns p) r.head.rel;rw[I]at u;have b0:=pV (f:=jP p) B;refine ah ab func62 Z (by decide) ntmps62 Z (by simp) Z ?_;refine gA Z (zp (u) ?_);refine gA Z ?_;refine az 0 r.body.length (YZ _) (fun i=>⟨[(1,.iv (strs (ns p))),(2,.iv (fI p)),(3,.ptr 0 0),(7,pI a),(8,pI i)],[(0,io (an r.c))],1⟩) (fun i=>(r.body.take i).any (fun l=>li (l.kind=1)&&ringEq p l.atom.rel r.head.rel)=lc) [] Z
  (zW (zK trivial)) fun i hi A=>?_
 refine zE Z Z (fun d=>?_) fun d=>?_
 .have d:=co d;rw[show nL p r=lc from any_none A d];exact zU Z
 have d:=ci d;have hl:=cS d;refine zJ Z Z (fun j=>?_) fun j=>?_
 .have j:(!li ((r.body.getD i em).kind=1))=kw:=j;refine gA Z ⟨d,(aW A d).2 (by simp only[Bool.and_eq_false_iff];exact .inl (by simpa using j)),[],zW (zK ac)⟩
 have j:(r.body.getD i em).kind=1:=zY j;have hm:(r.body.getD i em).atom.rel∈named (r.body.getD i em):=by rw[qn,am (.inl j)];exact aaL _
 obtain⟨b,hb,G,y⟩:=H6 hf (hf.lits r hr _ hl _ hm);have x:=rk (ns p) (r.body.getD i em).atom.rel;rw[y]at x;have c0:=pV (f:=jP p) hb;have S:=tP (f:=jP p) B hb;have Y:=tP (f:=jP p) hb B;have D:(li ((r.body.getD i em).kind=1)&&ringEq p (r.body.getD i em).atom.rel r.head.rel)=(jP p b a&&jP p a b):=by
  rw[decide_eq_true j,ZH,<-F,<-G,Af hf hb B]
 refine gA Z (zp (x) ?_);refine zE Z Z (fun g1=>?_) fun g1=>?_
 .exact Xk g1
 refine zE Z Z (fun g2=>?_) fun g2=>?_
 .exact Xk g2
 refine zE Z Z (fun g3=>?_) fun g3=>?_
 .have g3:jP p a b=lc:=by rw[<-S];exact g3
  refine gA Z ⟨d,(aW A d).2 (by rw[D,g3,ZV]),[],zW (zK ac)⟩
 have g3:jP p a b=kw:=by rw[<-S];exact g3
 refine zJ Z Z (fun g4=>?_) fun g4=>?_
 .have g4:jP p b a=kw:=by rw[<-Y];exact g4
  rw[show nL p r=kw from iL d (by rw[D,g3,g4];rfl)];exact zU Z
 .have g4:jP p b a=lc:=by rw[<-Y];exact g4
  refine gA Z ⟨d,(aW A d).2 (by rw[D,g4,ZZ]),[],zW (zK ac)⟩
theorem IH(r:ae)(y:r.size<=10000000):Pure prog 104 [ag r.c] (pB (iK r)):=by
 have A:=(oO y).2;refine ah ab func104 Z (by decide) ntmps104 Z (by simp) Z ?_;refine gA Z (zp (c34 r (by omega)) ?_);refine gA Z ?_;refine az 0 r.head.ad.length (YZ _) (fun i=>⟨[(1,.ptr 0 0),(3,.iv (strs (fN r))),(4,pI i)],[(0,io (an r.c))],1⟩) (fun i=>(r.head.ad.take i).any (fun t=>li (t.kind=1)&&!aE (fN r) t.var)=lc) [] Z
  (zW (zK trivial)) fun i B x=>?_
 refine zE Z Z (fun b=>?_) fun b=>?_
 .have b:=co b;rw[show iK r=lc from any_none x b];exact zU Z
 have b:=ci b;refine zE Z Z (fun d=>?_) fun d=>?_
 .have d:li ((r.head.ad.getD i em).kind=1)=lc:=d;refine gA Z ⟨b,(aW x b).2 (by rw[d,ZZ]),[],zW (zK ac)⟩
 have d:li ((r.head.ad.getD i em).kind=1)=kw:=d;have u:=V7 (fN r) (r.head.ad.getD i em).var;refine gA Z (zp (rk (fN r) (r.head.ad.getD i em).var) ?_);refine zJ Z Z (fun j=>?_) fun j=>?_
 .have j:li (JM (fN r) (r.head.ad.getD i em).var<0)=kw:=j;rw[show iK r=kw from iL b (by rw[d,<-u,j];rfl)];exact zU Z
 .have j:li (JM (fN r) (r.head.ad.getD i em).var<0)=lc:=j;refine gA Z ⟨b,(aW x b).2 (by rw[d,<-u,j];rfl),[],zW (zK ac)⟩
def stL(p:Prog)(r:ae)(l:Lit):Bool:=li (l.kind≠1)&&(named l).any fun t=>ringEq p t r.head.rel
theorem O9{p:Prog}(hf:nf p){r:ae}(hr:r∈p.rules)(x:r.size<=10000000):Pure prog 66 [ag r.c,.iv (strs (ns p)),.iv (fI p)] (ag (gJ p r).c):=by
 have hn:=vi hf;have k0:=fo (ns p).length (jP p);have f0:=(oO x).1;obtain⟨a,S,a0,d0⟩:=H6 hf (hf.yj r hr);have F:=rk (ns p) r.head.rel;rw[d0]at F;have i0:=pV (f:=jP p) S;refine ah ab func66 Z (by decide) ntmps66 Z (by simp) Z ?_;refine gA Z (zp (F) ?_);refine gA Z ?_;refine az 0 r.body.length (YZ _) (fun i=>⟨[(1,.iv (strs (ns p))),(2,.iv (fI p)),(3,.ptr 0 0),(6,.ptr 1 0),(7,pI a),(8,pI i)],[(0,io (an r.c)),(1,io (an aY.z.c))],2⟩) (fun i=>(r.body.take i).any (stL p r)=lc) [] Z
  (zW (zK (zK trivial))) fun i hi Y=>?_
 refine zE Z Z (fun j=>?_) fun j=>?_
 .have j:=co j;have y:rf p r=jp:=eK (any_none Y j);have hw:gJ p r=if iK r=kw∧nL p r=kw then(71,r.at_) else aY.z:=by rw[gJ,y]
  refine gA Z (zp (Pc hf hr x) ?_);refine zJ Z Z (fun g1=>?_) fun g1=>?_
  .have g1:nL p r=kw:=g1;refine gA Z (zp (IH r x) ?_);refine zJ Z Z (fun g2=>?_) fun g2=>?_
   .have g2:iK r=kw:=g2;rw[hw,am ⟨g2,g1⟩];exact zU Z
   .have g2:iK r=lc:=g2;rw[hw,be (by rw[g2];exact fun h=>nomatch h.1)];exact zU Z
  .have g1:nL p r=lc:=g1;rw[hw,be (by rw[g1];exact fun h=>nomatch h.2)];exact zU Z
 have j:=ci j;have hl:=cS j;have c0:=xZ _ (hf.flat r hr _ hl);have g0:=kr (r.body.getD i em);have e0:(r.body.getD i em).size<=10000000:=by have:=Lit.aI r.body i j;unfold ae.size at x;omega
 have D:=hf.lits r hr _ hl;have B:=SA (r.body.getD i em) (by omega);rw[<-c0]at B;refine gA Z (zp (B) ?_);refine gA Z ?_;refine az 0 (named (r.body.getD i em)).length (YZ _) (fun k=>⟨[(1,.iv (strs (ns p))),(2,.iv (fI p)),(3,.ptr 0 0),(6,.ptr 1 0),(7,pI a),(8,pI i),(9,.iv (strs (named (r.body.getD i em)))),(10,pI k)],[(0,io (an r.c)),(1,io (an aY.z.c))],2⟩) (fun k=>((named (r.body.getD i em)).take k).any (fun t=>li ((r.body.getD i em).kind≠1)&&ringEq p t r.head.rel)=lc) [] Z
  (zW (zK (zK trivial))) fun k hk J=>?_
 refine zE Z Z (fun d=>?_) fun d=>?_
 .have d:(named (r.body.getD i em)).length<=k:=by simpa using d
  have A:=any_none J d;refine gA Z ?_;refine⟨j,(aW Y j).2 ?_,[],zW (zK (zK ac))⟩;unfold stL;generalize li ((r.body.getD i em).kind≠1)=c at A;cases c with
  |false=>rfl
  |true=>simpa using A
 have d:k<(named (r.body.getD i em)).length:=by simpa using d
 have ht:=cS d;obtain⟨b,hb,b0,I⟩:=H6 hf (D _ ht);have G:=rk (ns p) ((named (r.body.getD i em)).getD k em);rw[I]at G;have j0:=pV (f:=jP p) hb;have e1:=tP (f:=jP p) S hb;have e2:=tP (f:=jP p) hb S;have hQ:ringEq p ((named (r.body.getD i em)).getD k em) r.head.rel=(jP p b a&&jP p a b):=by
  rw[<-a0,<-b0,Af hf hb S]
 refine gA Z (zp (G) ?_);refine zE Z Z (fun u=>?_) fun u=>?_
 .have u:li ((r.body.getD i em).kind≠1)=lc:=by
   have u:(!li ((r.body.getD i em).kind=1))=lc:=u;simpa using u
  refine gA Z ⟨d,(aW J d).2 (by rw[u,ZZ]),[],zW (zK (zK ac))⟩
 have u:li ((r.body.getD i em).kind≠1)=kw:=by
  have u:(!li ((r.body.getD i em).kind=1))=kw:=u;simpa using u
 refine zE Z Z (fun g1=>?_) fun g1=>?_
 .exact Xk g1
 refine zE Z Z (fun g2=>?_) fun g2=>?_
 .exact Xk g2
 refine zE Z Z (fun g3=>?_) fun g3=>?_
 .have g3:jP p a b=lc:=by rw[<-e1];exact g3
  refine gA Z ⟨d,(aW J d).2 (by rw[hQ,g3,ZV,ZV]),[],zW (zK (zK ac))⟩
 have g3:jP p a b=kw:=by rw[<-e1];exact g3
 refine zJ Z Z (fun g4=>?_) fun g4=>?_
 .have g4:jP p b a=kw:=by rw[<-e2];exact g4
  have y:rf p r=io (r.body.getD i em):=kQ Y j (by
   show(li ((r.body.getD i em).kind≠1)&&(named (r.body.getD i em)).any fun t=>ringEq p t r.head.rel)=kw;rw[u,ZH]
   exact iL d (by rw[hQ,g3,g4];rfl))
  rw[show gJ p r=(70,(r.body.getD i em).at) by rw[gJ,y]];exact zU Z
 .have g4:jP p b a=lc:=by rw[<-e2];exact g4
  refine gA Z ⟨d,(aW J d).2 (by rw[hQ,g4,ZZ,ZV]),[],zW (zK (zK ac))⟩
end Go.Proofs.YtflegjieadkonaaGreatDoor
