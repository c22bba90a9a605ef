/-
  What the proofs of the claims need: part 4 of 7.
-/
import Derived.Test.YtflegjieadkonaaGreatDoorPart3
import Derived.KernelRfl
import Derived.Test.YtflegjieadkonaaGreatDoorRows
import Derived.WalkKit
import Derived.ProofKit
import Derived.OpenShut
import Derived.Deep.DeepHandedRow
import Derived.Lib.LaidTab
import Derived.LaidSub
import Derived.MakeChecks
import Derived.Test.YtflegjieadkonaaGreatDoorCards
import Derived.Test.YtflegjieadkonaaGreatDoorTie
open And renaming intro→ZL
open Bool renaming and_eq_true→Zo,and_false→Z5,eq_iff_iff→ZN,false_and→Z9,false_eq_true→aaz,false_ne_true→ZG,false_or→aag,not_eq_false'→aaS,not_eq_true→aav,not_eq_true'→Z7,not_false→abu,or_eq_false_iff→Zz,or_eq_true→aal,or_false→aaD,true_and→ZR
open ByteArray renaming empty→Y5
open Classical renaming byContradiction→aah
open Int renaming le_refl→abb,toNat_natCast→Zs
open List.Nodup renaming length_le_of_subset→aaH
open List.Pairwise renaming imp→ace,nil→aaL
open List renaming all_eq_false→aaN,all_eq_true→Zr,any_cons→abW,any_eq_false→ZU,any_eq_true→ZQ,append_assoc→Zc,append_eq_nil_iff→abo,append_nil→ZE,concat_eq_append→ab6,cons_append→aaC,eq_nil_of_length_eq_zero→ZW,ext_getElem?→aaM,filter_append→abc,filter_cons→aaw,find?_append→abM,find?_cons→aaR,find?_cons_of_neg→ab4,find?_eq_none→aat,find?_eq_some_iff_getElem→abm,findSome?_append→abN,flatMap_append→aa7,flatMap_cons→ZO,foldl_append→aax,foldl_cons→Zw,getD_cons_succ→aap,getD_eq_getElem?_getD→YZ,getElem?_append_left→Zi,getElem?_cons_succ→aa5,getElem?_cons_zero→abJ,getElem?_eq_getElem→Y3,getElem?_eq_none→abd,getElem?_eq_some_iff→Y4,getElem?_map→Y9,getElem?_of_mem→ZY,getElem?_range→aaZ,getElem?_replicate→aa6,getElem?_set→ZM,getElem?_take→ZX,getElem?_zipWith→ab7,getElem_inj→abz,getElem_map→abO,getElem_mem→ZJ,length→abt,length_append→Y1,length_cons→ZA,length_eq_zero_iff→abl,length_filter_le→aae,length_map→Zx,length_nil→aad,length_set→aaG,length_singleton→ZB,length_take→ZP,map_append→Y6,map_congr_left→aao,map_cons→Zm,map_map→aaQ,map_nil→Z2,map_set→aaJ,mem_append→Zf,mem_append_left→ZC,mem_append_right→aau,mem_cons→Zj,mem_cons_of_mem→Zg,mem_cons_self→Zh,mem_filter→ZF,mem_flatMap→aaT,mem_iff_getElem→aaa,mem_map→ZD,mem_map_of_mem→abk,mem_of_getElem?→Zv,mem_of_mem_take→abv,mem_or_eq_of_mem_set→abD,mem_range→Z8,mem_singleton→Zd,mem_singleton_self→aaU,mem_take_iff_getElem→abE,nil_append→aaF,nodup_append→aaY,nodup_cons→aam,nodup_nil→Z3,pairwise_append→aa4,pairwise_cons→aas,pairwise_iff_getElem→abA,range→Zp,range_succ→abg,range_succ_eq_map→abp,replicate→aaX,sum_cons→aaO,take_append_drop→abe,take_length→aaI,take_of_length_le→Za,take_succ_cons→aan,zipWith→ab2,zipWith_cons_cons→ab3
open Nat renaming add_assoc→aaB,beq→Zt,ble→aaV,ble_eq_true_of_le→ZI,blt→Zk,eq_of_beq_eq_true→Zl,le_of_ble_eq_true→YY,le_of_eq→acf,le_of_not_lt→aa2,le_refl→Y7,le_succ→abK,le_trans→ZS,lt_or_ge→aab,lt_succ_iff_lt_or_eq→ZH,lt_succ_self→aar,max_eq_right→aci,not_lt_zero→Z6,zero_add→Zq,zero_le→Y8
open Option renaming bind_some→abY,getD_some→aaq,map_eq_none_iff→aa9,map_eq_some_iff→Zb
open Option.some renaming inj→Z0,injEq→Y2
open Prod renaming fst→Zu
set_option maxRecDepth 100000
open Bool renaming false→lc,true→kw
open Decidable renaming decide→li
open Inhabited renaming default→em
open Option renaming none→jp,some→io
open Array renaming getD_eq_getD_getElem?→Y0
open Array renaming range→abR
open Array renaming getElem?_map→abn
open Option renaming map_some→ZZ
open Array renaming getElem?_eq_getElem→ZV
open Nat renaming mul_le_mul_right→Zy
open Nat renaming add_mul→aaf
open Array renaming getElem?_append_left→Z4
open List renaming getElem?_append_right→Zn
open Array renaming getElem?_toList→aac
namespace Go.Proofs.YtflegjieadkonaaGreatDoor
open Go Go.Al Go.Proofs.Tryz
theorem kn{P:Program}{nt:Nat}{Q:AQ}{k:List KI}{s t:AS}{c:Code}(L:List Nat)(h0:Wk s.nx L s t)(h:GO P nt (.code c::k) Q t):GO P nt (.code c::k) Q s:=by
 intro M N a w u;exact AW.then h (h0.fits u) fun e A B d j s' y b x=>⟨d,j,s',(h0.ext (.refl _ _ _ _ _)).trans y,b,x⟩
theorem P9:gi .gK (rU []):=⟨id,fun M N U w j b=>⟨#[],0,b,⟨rfl,by simp,by simp,by simp,by simp⟩,.agg _ _ Z fun j p b=>by
 match j,b with
 |0,b=>cases b;exact .v _
 |1,b=>cases b;exact .v _
 |j+2,b=>simp[aN.c]at b⟩⟩
theorem Qa:gi .gK (sa []):=⟨id,fun M N U w j b=>⟨#[],0,b,⟨rfl,by simp,by simp,by simp,by simp⟩,ir M⟩⟩
def jl(s:aj):Expr:= .mk 1 s ⟨0,0,Y5⟩ 0 []
abbrev Fs(s:aj):PV:= .agg [pI 1,pS s,pI 0,pI 0,pS Y5,pI 0,.iv (.v (.slice jp 0 0))]
theorem rb(s:aj):aL (Fs s) (ag (jl s).c):= .agg ⟨.refl _,.refl _,.refl _,.refl _,.refl _,.refl _,.nil _ _,ac⟩
theorem jC(s:aj):(jl s).size=1:=rfl
def wz(r:ah)(i:Int)(t:TS)(f:Int)(v:aj)(o:Expr):TS:=
 if f=2 then(t.add (gv r i i o)).add (gv r i i (jl v)) else if f=1 then t.add (gv r i i (jl v)) else jz r i i t (jl v) o
def sc(p:Prog)(r:ah)(i:Int)(t:TS)(b:List Lit):Nat->TS
 |0=>t
 |k+1=>pP p r i i (sc p r i t b k) (b.getD k em)
def stepT(p:Prog)(r:ah)(i:Int)(t:TS)(l:Lit):TS:=
 if l.kind=4 then sc p r i (wz r i t l.c7 l.a7 l.jR) l.ar l.ar.length else pP p r i (-1) t l
def TS.o:TS:=⟨[],[],[]⟩
def ff(p:Prog)(r:ah):Nat->TS
 |0=>TS.o.add (gy p r r.head (-1) (-1) r.head.ad.length)
 |k+1=>stepT p r k (ff p r k) (r.body.getD k em)
def cL(b:UM)(m:KM)(w:Want):KM:=if w.has=0∧bU (.si .i64) m (aQ b w.at_) 0=0 then cF (.si .i64) m (aQ b w.at_) w.kind else m
def oO(p:Prog)(r:ah):TS:=⟨(ff p r r.body.length).up,(ff p r r.body.length).ws,(ff p r r.body.length).ws.foldl (cL (ff p r r.body.length).up) []⟩
theorem JY(r:ah)(i:Int){t:TS}(ok:iX t.up)(f:Int)(v:aj)(o:Expr):iX (wz r i t f v o).up:=by
 unfold wz
 repeat' split
 .exact ok
 .exact ok
 .exact Fj r i i ok _ _
theorem Er(p:Prog)(r:ah)(i:Int){t:TS}(ok:iX t.up)(b:List Lit): ∀k,iX (sc p r i t b k).up
 |0=>ok
 |k+1=>Lu p r i i (Er p r i ok b k) _
theorem O6(p:Prog)(r:ah)(i:Int){t:TS}(ok:iX t.up)(l:Lit):iX (stepT p r i t l).up:=by
 unfold stepT;split
 .exact Er p r i (JY r i ok _ _ _) _ _
 .exact Lu p r i (-1) ok l
theorem CM(p:Prog)(r:ah): ∀k,iX (ff p r k).up
 |0=>trivial
 |k+1=>O6 p r k (CM p r k) _
theorem y5(r:ah)(lit w:Int)(t:TS)(a b:Expr):(jz r lit w t a b).kind=t.kind:=by
 have d: ∀(t:TS) u v,(sI t u v).kind=t.kind:=fun t u v=>by unfold sI;split<;>rfl
 have j: ∀(t:TS) x y,(gh r lit w t x y).kind=t.kind:=fun t x y=>by
  unfold gh;split
  .exact d _ _ _
  .rfl
 unfold jz;split<;>exact j _ _ _
theorem Eg(p:Prog)(r:ah)(lit w:Int)(t:TS)(l:Lit):(pP p r lit w t l).kind=t.kind:=by
 unfold pP
 repeat' split
 .rfl
 .exact y5 r lit w t _ _
 .rfl
 .rfl
theorem HB(p:Prog)(r:ah)(i:Int)(t:TS)(b:List Lit): ∀k,(sc p r i t b k).kind=t.kind
 |0=>rfl
 |k+1=>by rw[sc,Eg,HB p r i t b k]
theorem Iw(p:Prog)(r:ah)(i:Int)(t:TS)(l:Lit):(stepT p r i t l).kind=t.kind:=by
 unfold stepT;split
 .rw[HB];unfold wz
  repeat' split
  .rfl
  .rfl
  .exact y5 r i i t _ _
 .exact Eg p r i (-1) t l
theorem Bh(p:Prog)(r:ah): ∀k,(ff p r k).kind=[]
 |0=>rfl
 |k+1=>by rw[ff,Iw,Bh p r k]
theorem GH(r:ah)(i:Int)(t:TS)(f:Int)(v:aj)(o:Expr):(wz r i t f v o).ws.length<=t.ws.length+o.size+2:=by
 have j:=jY r i i o;have b:=jY r i i (jl v);have d:=Bq r i i t (jl v) o;rw[jC]at b d;unfold wz
 repeat' split
 .show((t.ws++_)++_).length<=_;rw[Y1,Y1];omega
 .show(t.ws++_).length<=_;rw[Y1];omega
 .omega
theorem eN: ∀(l:List Lit) (i:Nat),i<l.length->Lit.aA (l.take i)+(l.getD i em).size<=Lit.aA l
 | [],i,h=>by simp at h
 |s::r,0,_=>by simp[Lit.aA]
 |s::r,i+1,h=>by
  have:=eN r i (by simpa using h);simp only[aan,aap,Lit.aA];omega
theorem Lit.oQ(l:List Lit)(i:Nat)(h:i<l.length):Lit.aA (l.take (i+1))=Lit.aA (l.take i)+(l.getD i em).size:=by
 rw[bz h];have: ∀(a:List Lit) (b:Lit),Lit.aA (a++ [b])=Lit.aA a+b.size:=by
  intro a b
  induction a with
  |nil=>simp[Lit.aA]
  |cons x r ih=>simp only[aaC,Lit.aA,ih];omega
 exact this _ _
theorem yj(p:Prog)(r:ah)(i:Int)(t:TS)(b:List Lit): ∀k,k<=b.length->(sc p r i t b k).ws.length<=t.ws.length+Lit.aA (b.take k)
 |0,_=>by simp[sc,Lit.aA]
 |k+1,h=>by
  have d:=yj p r i t b k (by omega);have j:=Hr p r i i (sc p r i t b k) (b.getD k em);rw[sc,Lit.oQ b k (by omega)];omega
theorem Km(p:Prog)(r:ah)(i:Int)(t:TS)(l:Lit):(stepT p r i t l).ws.length<=t.ws.length+l.size:=by
 have d:=l.size_eq;unfold stepT;split
 .have b:=yj p r i (wz r i t l.c7 l.a7 l.jR) l.ar l.ar.length (Y7 _);have j:=GH r i t l.c7 l.a7 l.jR;rw[aaI]at b;omega
 .exact Hr p r i (-1) t l
theorem yK(p:Prog)(r:ah): ∀k,k<=r.body.length->(ff p r k).ws.length<=r.head.ad.length+Lit.aA (r.body.take k)
 |0,_=>by
  have:=pr p r r.head (-1) (-1) r.head.ad.length;show([]++_).length<=_;simp only[aaF];omega
 |k+1,h=>by
  have b:=yK p r k (by omega);have d:=Km p r k (ff p r k) (r.body.getD k em);rw[ff,Lit.oQ r.body k (by omega)];omega
theorem XY(r:ah)(b:UM)(d:KM)(W:IV)(v0:aN)(ok:iX b):bV prog 201 [.ptr 0 0,ag v0.c] [.cells [.iv (da r),.mp 1,.iv W,.mp 2],rU b,sa d] (ag (aQ b v0).c) [(0,io (.cells [.iv (da r),.mp 1,.iv W,.mp 2])),(1,io (rU b)),(2,io (sa d))] 3:=by
 refine aB ab func201 Z (by decide) ntmps201 Z (by simp) ?_;refine gA Z ?_
 refine oA (σ:={v:aN//aQ b v=aQ b v0}) (fun v=>⟨[(0,.ptr 0 0),(3,.ptr 3 0),(4,.ptr 4 0)],
  [(0,io (.cells [.iv (da r),.mp 1,.iv W,.mp 2])),(1,io (rU b)),(2,io (sa d)),(3,io (.cells [pS v.1.1,pI v.1.2])),(4,io (.cells [pS ⟨#[]⟩,pI 0]))],5⟩) (fun v=>Ik b v.1) ⟨v0,rfl⟩ []
  (zW (zO (zC (zC ⟨⟨_,rfl,.of_eq Z⟩,YY Z,rfl,⟨_,rfl,.of_eq Z⟩,YY Z,rfl,ac⟩)))) fun v=>?_
 obtain⟨v,j⟩:=v;refine zJ Z Z (fun g=>?_) fun g=>?_
 .have h:ef (.si .i64) b v=lc:=by simpa using g
  have e:aQ b v0=v:=by rw[<-j];exact uc b v h
  refine gA Z (zD [] Z (zM ⟨.of_eq (congrArg (fun x:aN=>ag x.c) e.symm),rfl,ac⟩ (zO (zC (zC ac)))))
 .have h:ef (.si .i64) b v=kw:=by simpa using g
  obtain⟨u,y⟩:=p8 b v ok h;refine gA Z ⟨⟨bU (.si .i64) b v aN.z,u.trans j⟩,[],y,zW (zO (zC (zC ⟨⟨_,rfl,.of_eq Z⟩,YY Z,rfl,⟨_,rfl,.of_eq Z⟩,YY Z,rfl,ac⟩)))⟩
set_option maxHeartbeats 2000000 in
theorem c49(p:Prog)(r:ah)(hb:r.size<=100000000):Pure prog 168 [.iv (df p),.iv (da r)] (.iv (TH r (oO p r))):=by
 unfold ah.size at hb;have c0:=Lit.au r.body;have j0:r.body.length<=Lit.aA r.body:=c0;refine ae ab func168 Z (by decide) ntmps168 Z (by simp) Z ?_;refine gM 14 Z (oy 2 2 5 Z Z ?_);refine kn [] (t:=⟨[(0,.iv (df p)),(1,.iv (da r)),(5,.ptr 2 0)],[(2,io (TS.cell r 0 3 TS.o.ws.length 1)),(0,io (rU TS.o.up)),(3,io (aG 5 TS.o.ws Want.c)),(1,io (sa TS.o.kind))],4⟩)
  (zW ⟨⟨_,rfl,.of_eq Z⟩,YY Z,rfl,⟨_,rfl,P9⟩,YY Z,ac,⟨_,rfl,.of_eq Z⟩,YY Z,cK _,⟨_,rfl,Qa⟩,YY Z,ac,ac⟩) ?_
 refine gA Z (Ex (d90 p r TS.o r.head (-1) (-1) (by show 0+_<=_;omega)) Z Z Z Z Z Z Z (by first|rfl|(rw[Y1];rfl)|simp) (by first|rfl|(rw[Y6];rfl)|(simp only[Y6,Zc];rfl)) Z Z Z Z Z Z ?_);refine gA Z ?_
 refine az 0 r.body.length (Y8 _) (fun i=>⟨[(0,.iv (df p)),(1,.iv (da r)),(5,.ptr 2 0),(31,.iv (lits r.body)),(32,pI r.body.length),(33,pI i)],
  [(2,io (TS.cell r 0 5 (ff p r i).ws.length 1)),(0,io (rU (ff p r i).up)),(5,io (aG 5 (ff p r i).ws Want.c)),(1,io (sa (ff p r i).kind))],6⟩) (fun _=>True) _ ac
  (Rp (t:=ff p r 0) Z Z Z Z Z Z Z Z Z Z Z (bv (bv (bv (bv (bv (bv trivial))))))) fun i hi _=>?_
 have g0:=yK p r i hi;have B:=CM p r i;refine zJ Z Z (fun y=>?_) fun y=>?_
 .have y:=ci y;have m0:=eN r.body i y;have G:ff p r (i+1)=stepT p r i (ff p r i) (r.body.getD i em):=rfl;generalize ff p r i=t1 at*
  have n0:=(r.body.getD i em).size_eq;refine zJ Z Z (fun F=>?_) fun F=>?_
  .have F: ¬(r.body.getD i em).kind=4:=by have g:(!li ((r.body.getD i em).kind=4))=kw:=F;simpa only[Z7,decide_eq_false_iff_not]using g
   have hS:stepT p r i t1 (r.body.getD i em)=pP p r i (-1) t1 (r.body.getD i em):=be F;rw[hS]at G;refine gA Z (HF (d91 p r t1 (r.body.getD i em) i (-1) B (by omega)) ?_);refine gA Z ⟨y,ac,_,sy (G.symm)⟩
  have F:(r.body.getD i em).kind=4:=by have g:(!li ((r.body.getD i em).kind=4))=lc:=F;simpa only[aaS,decide_eq_true_eq]using g
  have hS:stepT p r i t1 (r.body.getD i em)=sc p r i (wz r i t1 (r.body.getD i em).c7 (r.body.getD i em).a7 (r.body.getD i em).jR) (r.body.getD i em).ar (r.body.getD i em).ar.length:=am F;rw[hS]at G;have hV:wz r i t1 (r.body.getD i em).c7 (r.body.getD i em).a7 (r.body.getD i em).jR=if(r.body.getD i em).c7=2 then(t1.add (gv r i i (r.body.getD i em).jR)).add (gv r i i (jl (r.body.getD i em).a7)) else if(r.body.getD i em).c7=1 then t1.add (gv r i i (jl (r.body.getD i em).a7)) else jz r i i t1 (jl (r.body.getD i em).a7) (r.body.getD i em).jR:=rfl;have D:=JY r i B (r.body.getD i em).c7 (r.body.getD i em).a7 (r.body.getD i em).jR;have i0:=GH r i t1 (r.body.getD i em).c7 (r.body.getD i em).a7 (r.body.getD i em).jR;have b0:=Lit.au (r.body.getD i em).ar;have o0:=jC (r.body.getD i em).a7;have k0:=jY r i i (r.body.getD i em).jR;generalize wz r i t1 (r.body.getD i em).c7 (r.body.getD i em).a7 (r.body.getD i em).jR=V at*
  refine zJ Z Z (fun f2=>?_) fun f2=>?_
  .have f2:(r.body.getD i em).c7=2:=zT f2;have Y:V=(t1.add (gv r i i (r.body.getD i em).jR)).add (gv r i i (jl (r.body.getD i em).a7)):=by rw[hV,am f2]
   refine gA Z (HF (ME r t1 (r.body.getD i em).jR i i (by omega)) ?_);refine gA Z (Ex (bV.le (aa:=[.ptr 0 0,Fs (r.body.getD i em).a7,pI i,pI i]) (ME r (t1.add (gv r i i (r.body.getD i em).jR)) (jl (r.body.getD i em).a7) i i (by show(t1.ws++_).length+_<=_;rw[Y1,jC];omega)) ⟨.refl _,rb _,.refl _,.refl _,ac⟩) Z Z Z Z Z Z Z (by first|rfl|(rw[Y1];rfl)|simp) (by first|rfl|(rw[Y6];rfl)|(simp only[Y6,Zc];rfl)) Z Z Z Z Z Z ?_);refine gA Z ?_;refine az 0 (r.body.getD i em).ar.length (Y8 _) (fun k=>⟨[(0,.iv (df p)),(1,.iv (da r)),(5,.ptr 2 0),(6,pI i),(31,.iv (lits r.body)),(32,pI r.body.length),(33,pI i),(79,.iv (lits (r.body.getD i em).ar)),(80,pI (r.body.getD i em).ar.length),(81,pI k)],[(2,io (TS.cell r 0 10 (sc p r i V (r.body.getD i em).ar k).ws.length 1)),(0,io (rU (sc p r i V (r.body.getD i em).ar k).up)),(10,io (aG 5 (sc p r i V (r.body.getD i em).ar k).ws Want.c)),(1,io (sa (sc p r i V (r.body.getD i em).ar k).kind))],11⟩) (fun _=>True) _ ac
    (Rp Y.symm Z Z Z Z Z Z Z Z Z Z (bv (bv (bv (bv (bv (bv (bv ⟨.iv (nS _),rfl,bv (bv trivial)⟩)))))))) fun k u _=>?_
   have I:=yj p r i V (r.body.getD i em).ar k u;have j:=Er p r i D (r.body.getD i em).ar k;have J:sc p r i V (r.body.getD i em).ar (k+1)=pP p r i i (sc p r i V (r.body.getD i em).ar k) ((r.body.getD i em).ar.getD k em):=rfl;refine zJ Z Z (fun d=>?_) fun d=>?_
   .have d:k<(r.body.getD i em).ar.length:=zN d;have S:=eN (r.body.getD i em).ar k d;refine gA Z (HF (d91 p r (sc p r i V (r.body.getD i em).ar k) ((r.body.getD i em).ar.getD k em) i i j (by omega)) ?_);refine gA Z ⟨d,ac,_,sy (rfl)⟩
   .have d:(r.body.getD i em).ar.length<=k:=zG d;have x:k=(r.body.getD i em).ar.length:=by omega
    subst x;refine gA Z ⟨y,ac,_,sy (G.symm)⟩
  have f2: ¬(r.body.getD i em).c7=2:=zF f2;rw[be f2]at hV;refine zJ Z Z (fun f1=>?_) fun f1=>?_
  .have f1:(r.body.getD i em).c7=1:=zT f1;have Y:V=t1.add (gv r i i (jl (r.body.getD i em).a7)):=by rw[hV,am f1]
   refine gA Z (HF (bV.le (aa:=[.ptr 0 0,Fs (r.body.getD i em).a7,pI i,pI i]) (ME r t1 (jl (r.body.getD i em).a7) i i (by rw[jC];omega)) ⟨.refl _,rb _,.refl _,.refl _,ac⟩) ?_);refine gA Z ?_;refine az 0 (r.body.getD i em).ar.length (Y8 _) (fun k=>⟨[(0,.iv (df p)),(1,.iv (da r)),(5,.ptr 2 0),(6,pI i),(31,.iv (lits r.body)),(32,pI r.body.length),(33,pI i),(79,.iv (lits (r.body.getD i em).ar)),(80,pI (r.body.getD i em).ar.length),(81,pI k)],[(2,io (TS.cell r 0 9 (sc p r i V (r.body.getD i em).ar k).ws.length 1)),(0,io (rU (sc p r i V (r.body.getD i em).ar k).up)),(9,io (aG 5 (sc p r i V (r.body.getD i em).ar k).ws Want.c)),(1,io (sa (sc p r i V (r.body.getD i em).ar k).kind))],10⟩) (fun _=>True) _ ac
    (Rp Y.symm Z Z Z Z Z Z Z Z Z Z (bv (bv (bv (bv (bv (bv (bv ⟨.iv (nS _),rfl,bv (bv trivial)⟩)))))))) fun k u _=>?_
   have I:=yj p r i V (r.body.getD i em).ar k u;have j:=Er p r i D (r.body.getD i em).ar k;have J:sc p r i V (r.body.getD i em).ar (k+1)=pP p r i i (sc p r i V (r.body.getD i em).ar k) ((r.body.getD i em).ar.getD k em):=rfl;refine zJ Z Z (fun d=>?_) fun d=>?_
   .have d:k<(r.body.getD i em).ar.length:=zN d;have S:=eN (r.body.getD i em).ar k d;refine gA Z (HF (d91 p r (sc p r i V (r.body.getD i em).ar k) ((r.body.getD i em).ar.getD k em) i i j (by omega)) ?_);refine gA Z ⟨d,ac,_,sy (rfl)⟩
   .have d:(r.body.getD i em).ar.length<=k:=zG d;have x:k=(r.body.getD i em).ar.length:=by omega
    subst x;refine gA Z ⟨y,ac,_,sy (G.symm)⟩
  .have f1: ¬(r.body.getD i em).c7=1:=zF f1;have Y:V=jz r i i t1 (jl (r.body.getD i em).a7) (r.body.getD i em).jR:=by rw[hV,be f1]
   refine gA Z (HF (bV.le (aa:=[.ptr 0 0,Fs (r.body.getD i em).a7,ag (r.body.getD i em).jR.c,pI i,pI i]) (d93 r t1 (jl (r.body.getD i em).a7) (r.body.getD i em).jR i i B (by rw[jC];omega)) ⟨.refl _,rb _,.refl _,.refl _,.refl _,ac⟩) ?_);refine gA Z ?_;refine az 0 (r.body.getD i em).ar.length (Y8 _) (fun k=>⟨[(0,.iv (df p)),(1,.iv (da r)),(5,.ptr 2 0),(6,pI i),(31,.iv (lits r.body)),(32,pI r.body.length),(33,pI i),(79,.iv (lits (r.body.getD i em).ar)),(80,pI (r.body.getD i em).ar.length),(81,pI k)],[(2,io (TS.cell r 0 9 (sc p r i V (r.body.getD i em).ar k).ws.length 1)),(0,io (rU (sc p r i V (r.body.getD i em).ar k).up)),(9,io (aG 5 (sc p r i V (r.body.getD i em).ar k).ws Want.c)),(1,io (sa (sc p r i V (r.body.getD i em).ar k).kind))],10⟩) (fun _=>True) _ ac
    (Rp Y.symm Z Z Z Z Z Z Z Z Z Z (bv (bv (bv (bv (bv (bv (bv ⟨.iv (nS _),rfl,bv (bv trivial)⟩)))))))) fun k u _=>?_
   have I:=yj p r i V (r.body.getD i em).ar k u;have j:=Er p r i D (r.body.getD i em).ar k;have J:sc p r i V (r.body.getD i em).ar (k+1)=pP p r i i (sc p r i V (r.body.getD i em).ar k) ((r.body.getD i em).ar.getD k em):=rfl;refine zJ Z Z (fun d=>?_) fun d=>?_
   .have d:k<(r.body.getD i em).ar.length:=zN d;have S:=eN (r.body.getD i em).ar k d;refine gA Z (HF (d91 p r (sc p r i V (r.body.getD i em).ar k) ((r.body.getD i em).ar.getD k em) i i j (by omega)) ?_);refine gA Z ⟨d,ac,_,sy (rfl)⟩
   .have d:(r.body.getD i em).ar.length<=k:=zG d;have x:k=(r.body.getD i em).ar.length:=by omega
    subst x;refine gA Z ⟨y,ac,_,sy (G.symm)⟩
 .have y:=co y;have d0:i=r.body.length:=by omega
  subst d0;have hT:oO p r=⟨(ff p r r.body.length).up,(ff p r r.body.length).ws,(ff p r r.body.length).ws.foldl (cL (ff p r r.body.length).up) []⟩:=rfl;rw[hT];rw[aaI]at g0;have f0:(ff p r r.body.length).kind=[]:=Bh p r _;generalize ff p r r.body.length=t1 at*
  have a0:t1.kind=(t1.ws.take 0).foldl (cL t1.up) []:=f0;refine gA Z ?_;refine Cs 5 (fun k=>Want.c (t1.ws.getD k em)) Z (fN Z) (by simp[AF.xS,PV.dc,qX]) ⟨(by simp[AO.xS,iU,PV.dc]),ac,xK _ _ _ _ _ _,ac,ac⟩ ?_
  refine az 0 t1.ws.length (Y8 _) (fun i=>⟨[(5,.ptr 2 0),(96,.iv (cZ 5 t1.ws Want.c)),(97,pI t1.ws.length),(98,pI i)],
   [(2,io (.cells [.iv (da r),.mp 0,.iv (cZ 5 t1.ws Want.c),.mp 1])),(0,io (rU t1.up)),(1,io (sa ((t1.ws.take i).foldl (cL t1.up) [])))],6⟩) (fun _=>True) [] ac
   (zM (bv ⟨.dh Z (fun k _=>by rw[Zq]),rfl,bv (bv trivial)⟩) ⟨⟨_,rfl,.cells ⟨.refl _,.refl _,.dh Z (fun k _=>by rw[Zq]),.refl _,ac⟩⟩,YY Z,rfl,zC (hM Z a0 Z trivial)⟩) fun i hi _=>?_
  refine zJ Z Z (fun d=>?_) fun d=>?_
  .have d:i<t1.ws.length:=zN d;have A:=cI (g:=cL t1.up) (b:=[]) d;refine gA Z (zq [2,0,1] (XY r t1.up ((t1.ws.take i).foldl (cL t1.up) []) (cZ 5 t1.ws Want.c) (t1.ws.getD i em).at_ B) ?_);refine zJ Z Z (fun g1=>?_) fun g1=>?_
   .have g1:(t1.ws.getD i em).has=0:=zT g1;refine zJ Z Z (fun g2=>?_) fun g2=>?_
    .have g2:bU (.si .i64) ((t1.ws.take i).foldl (cL t1.up) []) (aQ t1.up (t1.ws.getD i em).at_) 0=0:=zT g2;have u:cL t1.up ((t1.ws.take i).foldl (cL t1.up) []) (t1.ws.getD i em)=cF (.si .i64) ((t1.ws.take i).foldl (cL t1.up) []) (aQ t1.up (t1.ws.getD i em).at_) (t1.ws.getD i em).kind:=am ⟨g1,g2⟩;rw[u]at A;refine gA Z ⟨d,ac,[],zW (zO (zC (hM Z (by first|exact A.symm|(rw[A];rfl)) Z ac)))⟩
    .have g2: ¬bU (.si .i64) ((t1.ws.take i).foldl (cL t1.up) []) (aQ t1.up (t1.ws.getD i em).at_) 0=0:=zF g2;have u:cL t1.up ((t1.ws.take i).foldl (cL t1.up) []) (t1.ws.getD i em)=(t1.ws.take i).foldl (cL t1.up) []:=be fun h=>g2 h.2;rw[u]at A;refine gA Z ⟨d,ac,[],zW (zO (zC (hM Z (by first|exact A.symm|(rw[A];rfl)) Z ac)))⟩
   .have g1: ¬(t1.ws.getD i em).has=0:=zF g1;have u:cL t1.up ((t1.ws.take i).foldl (cL t1.up) []) (t1.ws.getD i em)=(t1.ws.take i).foldl (cL t1.up) []:=be fun h=>g1 h.1;rw[u]at A;refine gA Z ⟨d,ac,[],zW (zO (zC (hM Z (by first|exact A.symm|(rw[A];rfl)) Z ac)))⟩
  .have d:t1.ws.length<=i:=zG d;have e0:t1.ws.take i=t1.ws:=Za d;refine nV Z ac (rE (.inr Z) Z (.map 0 Z (.map 1 Z (.cells 2 _ Z (show _=List.map PV.iv [da r,upI t1.up,cZ 5 t1.ws Want.c,kdI (t1.ws.foldl (cL t1.up) [])] by rw[e0];rfl) (.done (.of_eq Z))))))
def lT(a:Atom):Bool:=(ko WS.o a).bad
def iR(l:Lit):Bool:=(eC l.size l WS.o).bad
def pA(l:Lit):Bool:=li (l.kind=4)&&li ((l.ar.length:Int)>12)
def jd(n:Nat):List Int:=(Zp (n+1)).map fun k:Nat=>(k:Int)-1
theorem ry(n:Nat):(jd n).length=n+1:=by simp[jd]
theorem rz(n k:Nat)(h:k<n+1):(jd n).getD k em=(k:Int)-1:=by simp[jd,h]
def vG(f:Int->Bool)(n:Nat):Option Int:=(jd n).find? f
abbrev aY:=Int×Pos
def aY.c(d:aY):List IV:=[iI d.1,iI d.2.line,iI d.2.zu]
def bL(r:ah)(e:Int)(f:Int->Bool)(k:aY):aY:=match vG f r.body.length with
 |some lit=>(e,fq r lit)
 |none=>k
def yb(p:Prog)(r:ah):aY:=
 bL r 61 (fun lit=>(bu r lit).any fun x=>lV p x)<|bL r 62 (fun lit=>(bu r lit).any fun x=>ni p x)<|bL r 65 (dE r)<|bL r 63 (nI (oO p r))<|bL r 64 (dN r) (0,⟨0,0⟩)
def pF(p:Prog)(r:ah)(n:Int):aY:=
 if lT r.head=kw then(1,r.at_) else match r.body.find? iR with
 |some l=>(1,l.at)
 |none=>if n>256∨(r.body.length:Int)>12 then(66,r.at_) else if(tY r:Int)>24 then(66,r.at_) else match r.body.find? pA with
  |some l=>(66,l.at)
  |none=>yb p r
def ah.fit(r:ah):Prop:=r.size<=10000000∧r.head.ts<=900000000∧ ∀l∈r.body,l.ts<=900000000
theorem eJ{α:Type}{p:α->Bool}{l:List α}(h:l.any p=lc):l.find? p=jp:=by
 rw[aat];intro x b;have:=ZU.1 h x b;simpa using this
theorem kW{α:Type}[Inhabited α]{p:α->Bool}{l:List α}{i:Nat}(h:(l.take i).any p=lc)(hi:i<l.length)(hp:p (l.getD i em)=kw):l.find? p=io (l.getD i em):=by
 have b:l.getD i em=l[i]:=by simp[hi]
 rw[b]at hp ⊢;rw[abm];refine⟨hp,i,hi,rfl,fun j d=>?_⟩;have:=ZU.1 h l[j] (List.mem_iff_getElem?.2 ⟨j,by rw[ZX,am d,Y3 (by omega)]⟩);simpa using this
def kQ(p:Prog)(r:ah):List (List PV):=[[pI 61,.dt (.func 160) [] [.ptr 1 0,.ptr 0 0]],[pI 62,.dt (.func 164) [] [.ptr 1 0,.ptr 0 0]],[pI 65,.dt (.func 166) [] [.ptr 1 0]],[pI 63,.dt (.func 169) [.iv (TH r (oO p r))] []],[pI 64,.dt (.func 170) [.iv (da r)] []]]
theorem c9(p:Prog)(r:ah)(n:Nat)(h:Zk 1 n=kw):(AO.row 2 (kQ p r)).low n:=by
 have d:Zk 0 n=kw:=ZI (by have:=YY h;omega);intro k e b
 match k,b with
 |0,b=>cases b;simp[bq,PV.low,h,d]
 |1,b=>cases b;simp[bq,PV.low,h,d]
 |2,b=>cases b;simp[bq,PV.low,h,d]
 |3,b=>cases b;simp[bq,PV.low,h,d]
 |4,b=>cases b;simp[bq,PV.low,h,d]
 |k+5,b=>simp[kQ]at b
theorem mC{r:ah}{e:Int}{f:Int->Bool}{k:aY}{i:Nat}(d:((jd r.body.length).take i).any f=lc)(hi:i<r.body.length+1)(h:f ((i:Int)-1)=kw):bL r e f k=(e,fq r ((i:Int)-1)):=by
 have b:=rz r.body.length i hi;have:=kW d (by rw[ry];exact hi) (by rw[b];exact h);rw[b]at this;rw[bL,vG,this]
theorem ov{r:ah}{e:Int}{f:Int->Bool}{k:aY}{i:Nat}(b:((jd r.body.length).take i).any f=lc)(hi:r.body.length+1<=i):bL r e f k=k:=by
 rw[Za (by rw[ry];exact hi)]at b;rw[bL,vG,eJ b]
theorem ou{r:ah}{f:Int->Bool}{i:Nat}(b:((jd r.body.length).take i).any f=lc)(hi:i<r.body.length+1)(h:f ((i:Int)-1)=lc):((jd r.body.length).take (i+1)).any f=lc:=by
 refine(aW b (by rw[ry];exact hi)).2 ?_;rw[rz _ _ hi];exact h
set_option maxHeartbeats 4000000 in
theorem c65(p:Prog)(r:ah)(n:Int)(hb:r.fit):Pure prog 125 [.iv (df p),ag r.c,pI n] (ag (pF p r n).c):=by
 obtain⟨hb,G,I⟩:=hb;have b0:r.size=r.head.ad.length+Lit.aA r.body:=rfl;have S:=Lit.au r.body;refine ae ab func125 Z (by decide) ntmps125 Z (by simp) Z ?_;refine gA Z (zp (c61 r.head G) ?_);refine zJ Z Z (fun g1=>?_) fun g1=>?_
 .have g1:lT r.head=kw:=by
   cases h:lT r.head with
   |true=>rfl
   |false=>
    have h:(ko WS.o r.head).bad=lc:=h;rw[h]at g1;simp at g1
  rw[pF,am g1];exact zU Z
 have g1: ¬lT r.head=kw:=by
  intro h;have h:(ko WS.o r.head).bad=kw:=h;rw[h]at g1;simp at g1
 rw[pF,be g1];refine gA Z ?_;refine az 0 r.body.length (Y8 _) (fun i=>⟨[(2,pI n),(3,.ptr 0 0),(4,.ptr 1 0),(6,.ptr 2 0),(32,.iv (lits r.body)),(33,pI r.body.length),(34,pI i)],[(0,io (.cells [.iv (df p)])),(1,io (an r.c)),(2,io (.cells [pI 0,pI 0,pI 0]))],3⟩) (fun i=>(r.body.take i).any iR=lc) [] (by simp)
  (zW ⟨⟨_,rfl,.of_eq Z⟩,YY Z,rfl,⟨_,rfl,.of_eq Z⟩,YY Z,rfl,⟨_,rfl,.of_eq Z⟩,YY Z,rfl,ac⟩) fun i Y j=>?_
 refine zJ Z Z (fun A=>?_) fun A=>?_
 .have A:i<r.body.length:=zN A;have F:=aW j A;have hm:r.body.getD i em∈r.body:=by rw[YZ,Y3 A];exact ZJ A
  have a0:=Lit.aI r.body i A;refine gA Z (bj (YK (r.body.getD i em) (I _ hm) (by omega)) Z Z Z Z Z Z ?_);refine zJ Z Z (fun y=>?_) fun y=>?_
  .have y:iR (r.body.getD i em)=kw:=by
    cases h:iR (r.body.getD i em) with
    |true=>rfl
    |false=>
     have h:(eC (r.body.getD i em).size (r.body.getD i em) WS.o).bad=lc:=h;have g:(!li ((if(eC (r.body.getD i em).size (r.body.getD i em) WS.o).bad=kw then(50:Int) else 0)=0))=kw:=y;rw[h]at g;simp at g
   rw[kW j A y];exact zU Z
  .have y:iR (r.body.getD i em)=lc:=by
    cases h:iR (r.body.getD i em) with
    |false=>rfl
    |true=>
     have h:(eC (r.body.getD i em).size (r.body.getD i em) WS.o).bad=kw:=h;have g:(!li ((if(eC (r.body.getD i em).size (r.body.getD i em) WS.o).bad=kw then(50:Int) else 0)=0))=lc:=y;rw[h]at g;simp at g
   refine gA Z ⟨A,F.2 y,[],zW ⟨⟨_,rfl,.of_eq Z⟩,YY Z,rfl,⟨_,rfl,.of_eq Z⟩,YY Z,rfl,⟨_,rfl,.of_eq Z⟩,YY Z,rfl,ac⟩⟩
 have A:r.body.length<=i:=zG A;rw[Za A]at j;rw[eJ j];refine zE Z Z (fun g2=>?_) fun g2=>?_
 .have g2:n>256:=by simpa using g2
  rw[am (.inl g2)];exact zU Z
 have g2: ¬n>256:=zF g2;refine zJ Z Z (fun g3=>?_) fun g3=>?_
 .rw[am (.inr (zT g3))];exact zU Z
 have g3: ¬(r.body.length:Int)>12:=zF g3;rw[be (by rintro(h|h);exact g2 h;exact g3 h)];refine gA Z (zp (c48 r (by omega)) ?_);refine gA Z (zp (YJ r (by omega)) ?_);refine zJ Z Z (fun g4=>?_) fun g4=>?_
 .rw[am (zT g4)];exact zU Z
 have g4: ¬(tY r:Int)>24:=zF g4;rw[be g4];refine gA Z ?_;refine az 0 r.body.length (Y8 _) (fun i=>⟨[(3,.ptr 0 0),(4,.ptr 1 0),(6,.ptr 2 0),(13,.iv (da r)),(69,.iv (lits r.body)),(70,pI r.body.length),(71,pI i)],[(0,io (.cells [.iv (df p)])),(1,io (an r.c)),(2,io (.cells [pI 0,pI 0,pI 0]))],3⟩) (fun i=>(r.body.take i).any pA=lc) [] (by simp)
  (zW ⟨⟨_,rfl,.of_eq Z⟩,YY Z,rfl,⟨_,rfl,.of_eq Z⟩,YY Z,rfl,⟨_,rfl,.of_eq Z⟩,YY Z,rfl,ac⟩) fun i Y j=>?_
 refine zJ Z Z (fun y=>?_) fun y=>?_
 .have y:i<r.body.length:=zN y;have F:=aW j y;refine zJ Z Z (fun k1=>?_) fun k1=>?_
  .have k1:(r.body.getD i em).kind=4:=zT k1;refine zJ Z Z (fun D=>?_) fun D=>?_
   .have D:pA (r.body.getD i em)=kw:=by rw[pA,decide_eq_true k1];exact D
    rw[kW j y D];exact zU Z
   .have D:pA (r.body.getD i em)=lc:=by rw[pA,decide_eq_true k1];exact D
    refine gA Z ⟨y,F.2 D,[],zW ⟨⟨_,rfl,.of_eq Z⟩,YY Z,rfl,⟨_,rfl,.of_eq Z⟩,YY Z,rfl,⟨_,rfl,.of_eq Z⟩,YY Z,rfl,ac⟩⟩
  .have k1: ¬(r.body.getD i em).kind=4:=zF (by have g:li ((r.body.getD i em).kind=4)=lc:=k1;exact g);refine gA Z ⟨y,F.2 (by rw[pA,decide_eq_false k1];rfl),[],zW ⟨⟨_,rfl,.of_eq Z⟩,YY Z,rfl,⟨_,rfl,.of_eq Z⟩,YY Z,rfl,⟨_,rfl,.of_eq Z⟩,YY Z,rfl,ac⟩⟩
 have y:r.body.length<=i:=zG y;rw[Za y]at j;rw[eJ j];refine gA Z (zp (c49 p r (by omega)) ?_);refine gA Z ?_;refine kn [] (t:=⟨[(3,.ptr 0 0),(4,.ptr 1 0),(6,.ptr 2 0),(104,.sl 3 0 5 2),(105,pI 5),(106,pI 0)],[(0,io (.cells [.iv (df p)])),(1,io (an r.c)),(2,io (.cells [pI 0,pI 0,pI 0])),(3,io (.row 2 (kQ p r)))],4⟩)
  (zW (zO (zO (zO ⟨⟨_,rfl,.of_eq Z⟩,YY Z,c9 p r _ Z,ac⟩)))) ?_
 have J:(oO p r).ws.length<=1000000000000:=by have:=yK p r r.body.length (Y7 _);rw[aaI]at this;show(ff p r r.body.length).ws.length<=_;omega
 rw[yb];refine L7 (n:=6) ?_;refine zE Z Z (fun q=>?_) fun q=>?_
 .exact absurd (show kw=lc from q) (by decide)
 refine gA Z ?_;refine az 0 (r.body.length+1) (Y8 _) (fun k=>⟨[(3,.ptr 0 0),(4,.ptr 1 0),(6,.ptr 2 0),(18,.ptr 4 0),(19,pI ((k:Int)-1)),(104,.sl 3 0 5 2),(105,pI 5),(106,pI 0)],[(0,io (.cells [.iv (df p)])),(1,io (an r.c)),(2,io (.cells [pI 0,pI 0,pI 0])),(3,io (.row 2 (kQ p r))),(4,io (.cells [pI 61,.dt (.func 160) [] [.ptr 1 0,.ptr 0 0]]))],5⟩) (fun k=>((jd r.body.length).take k).any (fun lit=>(bu r lit).any fun x=>lV p x)=lc) [] Z
  (zW (zO (zO (zO ⟨⟨_,rfl,.of_eq Z⟩,YY Z,c9 p r _ Z,(zO trivial)⟩)))) fun k B j=>?_
 refine zJ Z Z (fun d=>?_) fun d=>?_
 .have d:(k:Int)-1<r.body.length:=zT d;have b:k<r.body.length+1:=by omega
  refine gA Z (zq [1,0] (d110 p r ((k:Int)-1) (by omega) (by omega)) ?_);refine zJ Z Z (fun u=>?_) fun u=>?_
  .rw[mC j b u];refine gA Z (n7 (MT r ((k:Int)-1) d) ?_);exact zU Z
  .refine gA Z ?_;exact⟨b,ou j b u,[],zM (bv (bv (bv (bv ⟨.of_eq (FN (by omega)),rfl,bv (bv (bv ac))⟩)))) (zO (zO (zO ⟨⟨_,rfl,.of_eq Z⟩,YY Z,c9 p r _ Z,(zO ac)⟩)))⟩
 have d: ¬(k:Int)-1<r.body.length:=zF d;rw[ov j (by omega)];clear j B d;refine zE Z Z (fun q=>?_) fun q=>?_
 .exact absurd (show kw=lc from q) (by decide)
 refine gA Z ?_;refine az 0 (r.body.length+1) (Y8 _) (fun k=>⟨[(3,.ptr 0 0),(4,.ptr 1 0),(6,.ptr 2 0),(18,.ptr 5 0),(19,pI ((k:Int)-1)),(104,.sl 3 0 5 2),(105,pI 5),(106,pI 1)],[(0,io (.cells [.iv (df p)])),(1,io (an r.c)),(2,io (.cells [pI 0,pI 0,pI 0])),(3,io (.row 2 (kQ p r))),(5,io (.cells [pI 62,.dt (.func 164) [] [.ptr 1 0,.ptr 0 0]]))],6⟩) (fun k=>((jd r.body.length).take k).any (fun lit=>(bu r lit).any fun x=>ni p x)=lc) [] Z
  (zW (zO (zO (zO ⟨⟨_,rfl,.of_eq Z⟩,YY Z,c9 p r _ Z,(zO trivial)⟩)))) fun k B j=>?_
 refine zJ Z Z (fun d=>?_) fun d=>?_
 .have d:(k:Int)-1<r.body.length:=zT d;have b:k<r.body.length+1:=by omega
  refine gA Z (zq [1,0] (d114 p r ((k:Int)-1) (by omega) (by omega)) ?_);refine zJ Z Z (fun u=>?_) fun u=>?_
  .rw[mC j b u];refine gA Z (n7 (MT r ((k:Int)-1) d) ?_);exact zU Z
  .refine gA Z ?_;exact⟨b,ou j b u,[],zM (bv (bv (bv (bv ⟨.of_eq (FN (by omega)),rfl,bv (bv (bv ac))⟩)))) (zO (zO (zO ⟨⟨_,rfl,.of_eq Z⟩,YY Z,c9 p r _ Z,(zO ac)⟩)))⟩
 have d: ¬(k:Int)-1<r.body.length:=zF d;rw[ov j (by omega)];clear j B d;refine zE Z Z (fun q=>?_) fun q=>?_
 .exact absurd (show kw=lc from q) (by decide)
 refine gA Z ?_;refine az 0 (r.body.length+1) (Y8 _) (fun k=>⟨[(3,.ptr 0 0),(4,.ptr 1 0),(6,.ptr 2 0),(18,.ptr 6 0),(19,pI ((k:Int)-1)),(104,.sl 3 0 5 2),(105,pI 5),(106,pI 2)],[(0,io (.cells [.iv (df p)])),(1,io (an r.c)),(2,io (.cells [pI 0,pI 0,pI 0])),(3,io (.row 2 (kQ p r))),(6,io (.cells [pI 65,.dt (.func 166) [] [.ptr 1 0]]))],7⟩) (fun k=>((jd r.body.length).take k).any (dE r)=lc) [] Z
  (zW (zO (zO (zO ⟨⟨_,rfl,.of_eq Z⟩,YY Z,c9 p r _ Z,(zO trivial)⟩)))) fun k B j=>?_
 refine zJ Z Z (fun d=>?_) fun d=>?_
 .have d:(k:Int)-1<r.body.length:=zT d;have b:k<r.body.length+1:=by omega
  refine gA Z (zq [1] (d116 r ((k:Int)-1) (by omega) (by omega)) ?_);refine zJ Z Z (fun u=>?_) fun u=>?_
  .rw[mC j b u];refine gA Z (n7 (MT r ((k:Int)-1) d) ?_);exact zU Z
  .refine gA Z ?_;exact⟨b,ou j b u,[],zM (bv (bv (bv (bv ⟨.of_eq (FN (by omega)),rfl,bv (bv (bv ac))⟩)))) (zO (zO (zO ⟨⟨_,rfl,.of_eq Z⟩,YY Z,c9 p r _ Z,(zO ac)⟩)))⟩
 have d: ¬(k:Int)-1<r.body.length:=zF d;rw[ov j (by omega)];clear j B d;refine zE Z Z (fun q=>?_) fun q=>?_
 .exact absurd (show kw=lc from q) (by decide)
 refine gA Z ?_;refine az 0 (r.body.length+1) (Y8 _) (fun k=>⟨[(3,.ptr 0 0),(4,.ptr 1 0),(6,.ptr 2 0),(18,.ptr 7 0),(19,pI ((k:Int)-1)),(104,.sl 3 0 5 2),(105,pI 5),(106,pI 3)],[(0,io (.cells [.iv (df p)])),(1,io (an r.c)),(2,io (.cells [pI 0,pI 0,pI 0])),(3,io (.row 2 (kQ p r))),(7,io (.cells [pI 63,.dt (.func 169) [.iv (TH r (oO p r))] []]))],8⟩) (fun k=>((jd r.body.length).take k).any (nI (oO p r))=lc) [] Z
  (zW (zO (zO (zO ⟨⟨_,rfl,.of_eq Z⟩,YY Z,c9 p r _ Z,(zO trivial)⟩)))) fun k B j=>?_
 refine zJ Z Z (fun d=>?_) fun d=>?_
 .have d:(k:Int)-1<r.body.length:=zT d;have b:k<r.body.length+1:=by omega
  refine gA Z (bj (YH r (oO p r) ((k:Int)-1) (CM p r _) J) Z Z Z Z Z Z ?_);refine zJ Z Z (fun u=>?_) fun u=>?_
  .rw[mC j b u];refine gA Z (n7 (MT r ((k:Int)-1) d) ?_);exact zU Z
  .refine gA Z ?_;exact⟨b,ou j b u,[],zM (bv (bv (bv (bv ⟨.of_eq (FN (by omega)),rfl,bv (bv (bv ac))⟩)))) (zO (zO (zO ⟨⟨_,rfl,.of_eq Z⟩,YY Z,c9 p r _ Z,(zO ac)⟩)))⟩
 have d: ¬(k:Int)-1<r.body.length:=zF d;rw[ov j (by omega)];clear j B d;refine zE Z Z (fun q=>?_) fun q=>?_
 .exact absurd (show kw=lc from q) (by decide)
 refine gA Z ?_;refine az 0 (r.body.length+1) (Y8 _) (fun k=>⟨[(3,.ptr 0 0),(4,.ptr 1 0),(6,.ptr 2 0),(18,.ptr 8 0),(19,pI ((k:Int)-1)),(104,.sl 3 0 5 2),(105,pI 5),(106,pI 4)],[(0,io (.cells [.iv (df p)])),(1,io (an r.c)),(2,io (.cells [pI 0,pI 0,pI 0])),(3,io (.row 2 (kQ p r))),(8,io (.cells [pI 64,.dt (.func 170) [.iv (da r)] []]))],9⟩) (fun k=>((jd r.body.length).take k).any (dN r)=lc) [] Z
  (zW (zO (zO (zO ⟨⟨_,rfl,.of_eq Z⟩,YY Z,c9 p r _ Z,(zO trivial)⟩)))) fun k B j=>?_
 refine zJ Z Z (fun d=>?_) fun d=>?_
 .have d:(k:Int)-1<r.body.length:=zT d;have b:k<r.body.length+1:=by omega
  refine gA Z (zp (YG r ((k:Int)-1) (by omega) (by omega)) ?_);refine zJ Z Z (fun u=>?_) fun u=>?_
  .rw[mC j b u];refine gA Z (n7 (MT r ((k:Int)-1) d) ?_);exact zU Z
  .refine gA Z ?_;exact⟨b,ou j b u,[],zM (bv (bv (bv (bv ⟨.of_eq (FN (by omega)),rfl,bv (bv (bv ac))⟩)))) (zO (zO (zO ⟨⟨_,rfl,.of_eq Z⟩,YY Z,c9 p r _ Z,(zO ac)⟩)))⟩
 have d: ¬(k:Int)-1<r.body.length:=zF d;rw[ov j (by omega)];clear j B d;refine zJ Z Z (fun q=>?_) fun q=>?_
 .exact absurd (show lc=kw from q) (by decide)
 exact zU Z
section
theorem mT:prog.cellsOf 3=1:=by kernel_rfl
theorem tB:prog.cellsOf 9=1:=by kernel_rfl
theorem CJ:prog.cellsOf 98=3:=by kernel_rfl
theorem EZ:prog.cellsOf 143=5:=by kernel_rfl
theorem QK:prog.cellsOf 71=1:=by kernel_rfl
theorem CL:prog.cellsOf 73=2:=by kernel_rfl
theorem QJ:prog.cellsOf 99=1:=by kernel_rfl
theorem qR:prog.cellsOf 101=7:=by kernel_rfl
theorem E0:prog.cellsOf 103=10:=by kernel_rfl
theorem H6:prog.cellsOf 74=1:=by kernel_rfl
theorem yH:prog.cellsOf 105=30:=by kernel_rfl
theorem xe:prog.cellsOf 35=2:=by kernel_rfl
theorem H5:prog.cellsOf 76=5:=by kernel_rfl
theorem QM:prog.cellsOf 47=1:=by kernel_rfl
theorem H7:prog.cellsOf 49=4:=by kernel_rfl
theorem QQ:prog.cellsOf 22=1:=by kernel_rfl
theorem QO:prog.cellsOf 23=1:=by kernel_rfl
theorem QN:prog.cellsOf 25=2:=by kernel_rfl
section
variable {H:Type}
abbrev bk(d:DataW H):Nat:=Rows.uptoBulk d
theorem Gw(d:DataW H):1<=bk d:=by
 cases d with
 |lit l=>cases l<;>simp[bk,Rows.uptoBulk]
 |nil=>simp[bk,Rows.uptoBulk]
 |ptr d=>simp[bk,Rows.uptoBulk]
 |slice elems spare=>simp[bk,Rows.uptoBulk]
 |agg parts=>simp[bk,Rows.uptoBulk]
 |iface t d=>simp[bk,Rows.uptoBulk]
 |map entries=>simp[bk,Rows.uptoBulk]
 |held h=>simp[bk,Rows.uptoBulk]
theorem yM(s:ByteArray):bk (DataW.lit (H:=H) (.string s.data.toList))=s.size+1:=by
 simp[bk,Rows.uptoBulk]
theorem _root_.Go.Al.QL.sum{α:Type}{Q:α->DataW H->Prop}{l:List α}{d:DataW H}(h:QL Q l d){f:α->Nat}{c:Nat}(hf: ∀x e,Q x e->f x<=c*bk e):(l.map f).sum<=c*bk d:=by
 obtain⟨el,hd,b,u⟩:=h;have key: ∀(l:List α) (el:List (DataW H)),l.length=el.length->(∀(i:Nat) (x:α) (e:DataW H),l[i]? =io x->el[i]? =io e->Q x e)->(l.map f).sum<=c*Rows.uptoBulkAll el:=by
  intro l
  induction l with
  |nil=>intro el _ _;simp
  |cons x r ih=>
   intro el y u;cases el with
   |nil=>simp at y
   |cons e el=>
    have j:=hf x e (u 0 x e Z Z);have D:=ih el (by simpa using y) fun i x e B A=>u (i+1) x e (by simpa using B) (by simpa using A);simp only[Zm,aaO,Rows.uptoBulkAll,Nat.mul_add];simp only[bk]at j;omega
 have j:=key l el b u;rcases hd with⟨rfl,rfl⟩|⟨sp,rfl⟩
 .simp[Rows.uptoBulkAll]at j;omega
 .refine ZS j (Nat.mul_le_mul_left c ?_);simp only[bk,Rows.uptoBulk];omega
theorem Dh{α:Type}: ∀l:List α,(l.map fun _=>1).sum=l.length
 | []=>rfl
 |x::r=>by simp only[Zm,aaO,ZA,Dh r];omega
theorem _root_.Go.Al.QL.len{α:Type}{Q:α->DataW H->Prop}{l:List α}{d:DataW H}(h:QL Q l d):l.length<=bk d:=by
 have:=h.sum (f:=fun _=>1) (c:=1) fun x e _=>by have:=Gw e;omega
 have e:=Dh l;omega
theorem _root_.Go.Al.QL.all{α:Type}{Q:α->DataW H->Prop}{l:List α}{d:DataW H}(h:QL Q l d): ∀x∈l,∃e,Q x e∧bk e<=bk d:=by
 intro x D;obtain⟨el,hd,j,B⟩:=h;obtain⟨i,A,rfl⟩:=aaa.1 D;have b:i<el.length:=by omega
 refine⟨el[i],B i _ _ (Y3 A) (Y3 b),?_⟩;have key: ∀(el:List (DataW H)),∀e∈el,bk e<=Rows.uptoBulkAll el:=by
  intro el
  induction el with
  |nil=>intro e he;cases he
  |cons y r ih=>
   intro e he;simp only[Rows.uptoBulkAll];rcases Zj.1 he with rfl|he
   .simp only[bk];omega
   .have:=ih e he;omega
 have u:=key el el[i] (ZJ b);rcases hd with⟨rfl,rfl⟩|⟨sp,rfl⟩
 .simp at b
 .refine ZS u ?_;simp only[bk,Rows.uptoBulk];omega
end
theorem Expr.iG: ∀l:List Expr,Expr.aA l=(l.map Expr.size).sum
 | []=>rfl
 |e::r=>by simp only[Expr.aA,Zm,aaO,Expr.iG r]
theorem Expr.tM: ∀l:List Expr,Expr.lH l=(l.map Expr.ts).sum
 | []=>rfl
 |e::r=>by simp only[Expr.lH,Zm,aaO,Expr.tM r]
theorem Lit.iG: ∀l:List Lit,Lit.aA l=(l.map Lit.size).sum
 | []=>rfl
 |e::r=>by simp only[Lit.aA,Zm,aaO,Lit.iG r]
theorem Lit.tM: ∀l:List Lit,Lit.lH l=(l.map Lit.ts).sum
 | []=>rfl
 |e::r=>by simp only[Lit.lH,Zm,aaO,Lit.tM r]
section
variable {H:Type} {enc:TypeId×Value->H} {W:World} {hT:oK W} {sp:Nat->Bool} {held:Bool}
def QV(v:tG)(d:DataW H):Prop:=v.sym.size<=bk d
def QT(t:Term)(d:DataW H):Prop:=t.ts<=400*bk d
def QA(a:Atom)(d:DataW H):Prop:=a.ts<=400*bk d∧a.ad.length<=bk d
def QE(e:Expr)(d:DataW H):Prop:=e.ts<=400*bk d∧e.size<=bk d
def QP(_:Pos)(_:DataW H):Prop:=True
def Pos.c(p:Pos):List IV:=[iI p.line,iI p.zu]
def QG(g:eK)(d:DataW H):Prop:=g.var.size+g.dY.ts+Lit.lH g.body<=400*bk d∧g.dY.size+Lit.aA g.body<=bk d
def QB(l:Lit)(d:DataW H):Prop:=l.ts<=400*bk d∧l.size<=bk d
theorem rd_val(n:Nat):Rd enc prog W hT sp held 98 tG.c QV n:=by
 intro m _ G y h;obtain⟨F,k,rfl,rfl,A,B,d⟩:=DataW.trod_struct underlying98 h
 match F,B with
 | [x0,x1,x2],_=>
  obtain⟨a,j,I,_⟩:=mv (hT:=hT) underlying3 k k (Y7 _) _ _ (rC d 0 Z Z Z mT Z);obtain⟨b,u,J,_⟩:=mv (hT:=hT) underlying3 k k (Y7 _) _ _ (rC d 1 Z Z Z mT Z);obtain⟨c,x,D,_⟩:=ky (hT:=hT) underlying9 k k (Y7 _) _ _ (rC d 2 Z Z Z tB Z);refine⟨⟨a,b,c⟩,j.iF (o':=1) Z (u.iF (o':=2) Z (x.iF (o':=3) Z (.end_ (A.trans CJ)))),?_⟩;simp only[QV,bk,Zm,Z2,Rows.uptoBulk,Rows.uptoBulkAll];have:=yM (H:=H) c;rw[<-D]at this;simp only[bk]at this;omega
theorem FJ(n:Nat):Rd enc prog W hT sp held 35 Pos.c QP n:=by
 intro m _ D y h;obtain⟨B,k,rfl,rfl,x,A,d⟩:=DataW.trod_struct underlying35 h
 match B,A with
 | [x0,x1],_=>
  obtain⟨a,j,F,_⟩:=mv (hT:=hT) underlying3 k k (Y7 _) _ _ (rC d 0 Z Z Z mT Z);obtain⟨b,u,G,_⟩:=mv (hT:=hT) underlying3 k k (Y7 _) _ _ (rC d 1 Z Z Z mT Z);exact⟨⟨a,b⟩,j.iF (o':=1) Z (u.iF (o':=2) Z (.end_ (x.trans xe))),ac⟩
theorem PH(n:Nat):Rd enc prog W hT sp held 143 Term.c QT n:=by
 intro m _ G y h;obtain⟨F,k,rfl,rfl,A,B,d⟩:=DataW.trod_struct underlying143 h
 match F,B with
 | [x0,x1,x2],_=>
  obtain⟨a,j,I,_⟩:=mv (hT:=hT) underlying3 k k (Y7 _) _ _ (rC d 0 Z Z Z mT Z);obtain⟨b,u,D,_⟩:=ky (hT:=hT) underlying9 k k (Y7 _) _ _ (rC d 1 Z Z Z tB Z);obtain⟨c,x,J⟩:=rd_val (hT:=hT) k k (Y7 _) _ _ (rC d 2 Z Z Z CJ Z);refine⟨⟨a,b,c⟩,j.iF (o':=1) Z (u.iF (o':=2) Z (x.iF (o':=5) Z (.end_ (A.trans EZ)))),?_⟩;simp only[QT,Term.ts,bk,Zm,Z2,Rows.uptoBulk,Rows.uptoBulkAll];have:=yM (H:=H) b;rw[<-D]at this;simp only[bk]at this;omega
theorem He(n:Nat):Rd enc prog W hT sp held 73 Atom.c QA n:=by
 intro m _ S y h;obtain⟨J,k,rfl,rfl,F,G,j⟩:=DataW.trod_struct underlying73 h
 match J,G with
 | [x0,x1],_=>
  obtain⟨a,x,I,_⟩:=ky (hT:=hT) underlying9 k k (Y7 _) _ _ (rC j 0 Z Z Z tB Z);obtain⟨b,A,u⟩:=(kM (hT:=hT) underlying71 EZ (by decide) (fun _=>rfl) (PH k)).mono (abK k) k (Y7 _) _ _ (rC j 1 Z Z Z QK Z);refine⟨⟨a,b⟩,x.iF (o':=1) Z (A.iF (o':=2) Z (.end_ (F.trans CL))),?_⟩;have d:=yM (H:=H) a;rw[<-I]at d;have B:=u.sum (f:=Term.ts) (c:=400) fun _ _ h=>h;have D:=u.len;simp only[bk]at d B D;simp only[QA,Atom.ts,bk,Zm,Z2,Rows.uptoBulk,Rows.uptoBulkAll];omega
theorem wU: ∀n:Nat,Rd enc prog W hT sp held 101 Expr.c QE n
 |0=>fun m hm S y h=>by
  obtain rfl:m=0:=by omega
  simp[DataW.trod]at h
 |n+1=>fun m hm S y h=>by
  obtain⟨xs,k,rfl,rfl,Y,hx,j⟩:=DataW.trod_struct underlying101 h;have hs:=kM (hT:=hT) underlying99 qR (by decide) (fun _=>rfl) (wU n)
  match xs,hx with
  | [x0,x1,x2,x3,x4],_=>
   obtain⟨a,D,qa,_⟩:=mv (hT:=hT) underlying3 k k (Y7 _) _ _ (rC j 0 Z Z Z mT Z);obtain⟨b,F,qb,_⟩:=ky (hT:=hT) underlying9 k k (Y7 _) _ _ (rC j 1 Z Z Z tB Z);obtain⟨c,G,qc⟩:=rd_val (hT:=hT) k k (Y7 _) _ _ (rC j 2 Z Z Z CJ Z);obtain⟨d,I,qd,_⟩:=mv (hT:=hT) underlying3 k k (Y7 _) _ _ (rC j 3 Z Z Z mT Z);obtain⟨e,J,B⟩:=hs k (by omega) _ _ (rC j 4 Z Z Z QJ Z);refine⟨.mk a b c d e,D.iF (o':=1) Z (F.iF (o':=2) Z (G.iF (o':=5) Z (I.iF (o':=6) Z ((J.zr (HV (.mk a b c d e))).iF (o':=7) Z (.end_ (Y.trans qR)))))),?_⟩;have u:=yM (H:=H) b;rw[<-qb]at u;have x:=B.sum (f:=Expr.ts) (c:=400) fun _ _ h=>h.1;have A:=B.sum (f:=Expr.size) (c:=1) fun _ _ h=>by have:=h.2;omega
   rw[<-Expr.tM]at x;rw[<-Expr.iG]at A;simp only[bk]at u x A;simp only[QE,Expr.ts,Expr.size,bk,Zm,Z2,Rows.uptoBulk,Rows.uptoBulkAll];omega
theorem Uh{n:Nat}(hb:Rd enc prog W hT sp held 74 (fun l:List Lit=> [cZ 30 l Lit.c]) (QL QB) n):Rd enc prog W hT sp held 103 eK.c QG (n+1):=by
 intro m hm cs y h;obtain⟨xs,k,rfl,rfl,Y,hx,j⟩:=DataW.trod_struct underlying103 h
 match xs,hx with
 | [x0,x1,x2,x3],_=>
  obtain⟨a,D,qa,_⟩:=mv (hT:=hT) underlying3 k k (Y7 _) _ _ (rC j 0 Z Z Z mT Z);obtain⟨b,F,qb,_⟩:=ky (hT:=hT) underlying9 k k (Y7 _) _ _ (rC j 1 Z Z Z tB Z);obtain⟨c,G,qc⟩:=wU (hT:=hT) k k (Y7 _) _ _ (rC j 2 Z Z Z qR Z);obtain⟨d,I,B⟩:=hb k (by omega) _ _ (rC j 3 Z Z Z H6 Z);refine⟨⟨a,b,c,d⟩,D.iF (o':=1) Z (F.iF (o':=2) Z (G.iF (o':=9) Z ((I.zr (Lt d)).iF (o':=10) Z (.end_ (Y.trans E0))))),?_⟩;have u:=yM (H:=H) b;rw[<-qb]at u;have x:=B.sum (f:=Lit.ts) (c:=400) fun _ _ h=>h.1;have A:=B.sum (f:=Lit.size) (c:=1) fun _ _ h=>by have:=h.2;omega
  rw[<-Lit.tM]at x;rw[<-Lit.iG]at A;obtain⟨J,S⟩:=qc;simp only[bk]at u x A J S;simp only[QG,bk,Zm,Z2,Rows.uptoBulk,Rows.uptoBulkAll];omega
theorem KX: ∀n:Nat,Rd enc prog W hT sp held 105 Lit.c QB n
 |0=>fun m hm J y h=>by
  obtain rfl:m=0:=by omega
  simp[DataW.trod]at h
 |n+1=>fun m hm J y h=>by
  obtain⟨xs,k,rfl,rfl,hl,hx,j⟩:=DataW.trod_struct underlying105 h;have hs:=Uh (kM (hT:=hT) underlying74 yH (by decide) (fun _=>rfl) (KX n))
  match xs,hx with
  | [x0,x1,x2,x3,x4,x5,x6],_=>
   obtain⟨a,x,qa,_⟩:=mv (hT:=hT) underlying3 k k (Y7 _) _ _ (rC j 0 Z Z Z mT Z);obtain⟨b,A,qb⟩:=He (hT:=hT) k k (Y7 _) _ _ (rC j 1 Z Z Z CL Z);obtain⟨c,B,qc,_⟩:=mv (hT:=hT) underlying3 k k (Y7 _) _ _ (rC j 2 Z Z Z mT Z);obtain⟨d,D,qd⟩:=wU (hT:=hT) k k (Y7 _) _ _ (rC j 3 Z Z Z qR Z);obtain⟨e,F,qe⟩:=wU (hT:=hT) k k (Y7 _) _ _ (rC j 4 Z Z Z qR Z);obtain⟨g,G,qg⟩:=hs k (by omega) _ _ (rC j 5 Z Z Z E0 Z);obtain⟨p,I,_⟩:=FJ (hT:=hT) k k (Y7 _) _ _ (rC j 6 Z Z Z xe Z);refine⟨.mk a b c d e g.func g.var g.dY g.body p,x.iF (o':=1) Z (A.iF (o':=3) Z (B.iF (o':=4) Z (D.iF (o':=11) Z (F.iF (o':=18) Z (G.iF (o':=28) Z (I.iF (o':=30) Z (.end_ (hl.trans yH)))))))),?_⟩;obtain⟨S,Y⟩:=qb;obtain⟨h3,h4⟩:=qd;obtain⟨h5,h6⟩:=qe;obtain⟨h7,h8⟩:=qg;have h9:=Gw x0.1;have u:=Gw x2.1;simp only[bk]at S Y h3 h4 h5 h6 h7 h8 h9 u;simp only[QB,Lit.ts,Lit.size,bk,Zm,Z2,Rows.uptoBulk,Rows.uptoBulkAll];omega
theorem PK(n:Nat):Rd enc prog W hT sp held 74 (fun l:List Lit=> [lits l]) (QL QB) n:=
 (kM (hT:=hT) underlying74 yH (by decide) (fun _=>rfl) (KX n)).mono (abK n)
end
end
end Go.Proofs.YtflegjieadkonaaGreatDoor
namespace Go.Proofs.YtflegjieadkonaaGreatDoor
open Go Go.Al Go.Proofs.Tryz Go.ChangeShapes Go.WideShapes Go.RowKit
theorem own:ownKnob prog.godebug=jp:=by kernel_rfl
theorem WH:prog.globalNamed "internal/strconv.uint64pow10" =io 0:=by kernel_rfl
theorem Mk:(prog.globals[0]?).map (·.type)=io 343:=by kernel_rfl
theorem MN:prog.cellsOf 343=20:=by kernel_rfl
theorem MO:prog.cellsOf 205=1:=by kernel_rfl
theorem J1:prog.underlying 343=io (.array 20 205):=by kernel_rfl
theorem J2:prog.underlying 205=io (.int .u64):=by kernel_rfl
abbrev LF:List (String×DataW Unit):=[("math/bits.deBruijn32tab",Rows.laid_math_bits_deBruijn32tab),("math/bits.deBruijn64tab",Rows.laid_math_bits_deBruijn64tab),("internal/strconv.uint64pow10",Rows.laid_internal_strconv_uint64pow10)]
theorem Kc{W:World}(h:laidMetH prog LF W):oK W:=by
 have j:=laidMetH.filter (fun x=>x.1== "internal/strconv.uint64pow10") h;have y:laidMet prog [("internal/strconv.uint64pow10",Lib.tabData .u64 s8)] W:=by
  rw[show LF.filter (fun x=>x.1== "internal/strconv.uint64pow10")=[("internal/strconv.uint64pow10",Lib.tabData .u64 s8)] by kernel_rfl]at j;rwa[MakeChecks.laidMetH_plain _ _ _ (by kernel_rfl)]at j
 have d:Lib.TabIs prog W "internal/strconv.uint64pow10" .u64 s8:=Lib.tabIs_of_head (rest:=[]) WH Mk J1 J2 MO MN y;intro b c hb;unfold Lib.TabIs World.var? at d;rw[WH]at d
 match b with
 |0=>
  have A:(s8.map fun z=>Value.int .u64 z).toArray=c:=Z0 hb;rw[A]at d;simp only[abY]at d;split at d
  .rename_i B T u e;exact⟨T,u,by rw[e,Z0 d]⟩
  .cases d
 |b+1=>exact nomatch hb
theorem kids:Kids prog (· <prog.types.size):=kids_rows (by kernel_rfl) (by kernel_rfl)
theorem full: ∀{t e},t<prog.types.size->prog.underlying t=io (.slice e)->0<prog.cellsOf e:=fun{t e}=>slices_full_of prog (by kernel_rfl) t e
theorem BW{H:Type}{enc:TypeId×Value->H}{W:World}(hT:oK W){k:FuncId}{f:Func}{s:ChangeSpec}{args:List PV}{vs:List Value}{B gs:List (DataW H)}{d:List MemPlace}
  (hp:Al.Pure prog k args (pB kw)) (F:args.length=vs.length) (hv: ∀(j:Nat) (p:PV),args[j]? =io p->VR (Mem.rr W hT) Vo (· <0) p (vs.getD j undef))
  (G: ∀t∈f.params.toList,t<prog.types.size) (y:s.vars=[]) (u:f.resultTypes= #[4])
  (hW:DataW.Whole enc prog f.params.toList s.vars lc W vs.toArray.toList B gs d)
  (I:(s.fn H (B++gs)).results=[.lit (.bool kw)]) (J:(s.fn H (B++gs)).args=B) (S:(s.fn H (B++gs)).vars=[]):
  Calls prog k vs.toArray W fun e W'=> ∃v,e= .returned v∧s.post enc prog f lc kw lc lc W vs.toArray v W':=by
 refine(hp.2 (Mem.rr W hT) Vo W vs (PC W hT) F hv).mono ?_;rintro e W' ⟨x,M',N',r,h',n',rfl,⟨rfl,rfl,rfl⟩,hx,hr,hvr⟩;have Y:x= .bool kw:=by
  cases hvr with
  |iv _ _ h=>cases h;rfl
 subst Y;refine⟨_,rfl,BY kids full G y hW hx.os hx.output (fun b hb=>hx.iT b hb fun i o hi=>(nomatch hi)) (fun b sp hd=>?_) J S ?_⟩
 .rw[I,u];exact trodAll_cons_mk (shut_bool underlying4 _) trodAll_mk0
 .intro j t r A D;rw[u]at A D
  match j,A,D with
  |0,A,D=>
   cases A;cases D;exact okWide_bool_mk underlying4 _
  |j+1,A,D=>simp at A
theorem bound{H:Type}{l:List (DataW H)}(b:Rows.uptoSmall H l=kw):Rows.uptoBulkAll l<=1048576:=of_decide_eq_true b
theorem Q6{H:Type}{enc:TypeId×Value->H}{W:World}(hT:oK W){v:Value}{d:DataW H}{p:List MemPlace}(b: ∃base,Value.okWide prog W .any base 3 v)(h:DataW.Trod enc prog W 0 (fun _=>kw) kw 3 v d p):
  ∃z:Int,(Lit.int .i64 z).wf=kw∧VR (Mem.rr W hT) Vo (· <0) (pI z) v:=by
 obtain⟨base,b⟩:=b;obtain⟨n,rfl,_,_,j⟩:=open_int underlying3 b h;exact⟨n,j,.iv _ _ (.v _)⟩
def LD(b:Nat)(cs:Array Value)(h:Array Obj):Array Obj:=h.modify b fun
 | .cells _ t frozen=> .cells cs t frozen
 |o=>o
noncomputable def vv(os:Os):World:=
 {World.holding prog os ⟨#[], #[],[]⟩ with
  heap:=LD 2 #[.int .u8 0,.int .u8 1,.int .u8 56,.int .u8 2,.int .u8 57,.int .u8 49,.int .u8 28,.int .u8 3,.int .u8 61,.int .u8 58,.int .u8 42,.int .u8 50,.int .u8 38,.int .u8 29,.int .u8 17,.int .u8 4,.int .u8 62,.int .u8 47,.int .u8 59,.int .u8 36,.int .u8 45,.int .u8 43,.int .u8 51,.int .u8 22,.int .u8 53,.int .u8 39,.int .u8 33,.int .u8 30,.int .u8 24,.int .u8 18,.int .u8 12,.int .u8 5,.int .u8 63,.int .u8 55,.int .u8 48,.int .u8 27,.int .u8 60,.int .u8 41,.int .u8 37,.int .u8 16,.int .u8 46,.int .u8 35,.int .u8 44,.int .u8 21,.int .u8 52,.int .u8 32,.int .u8 23,.int .u8 11,.int .u8 54,.int .u8 26,.int .u8 40,.int .u8 15,.int .u8 34,.int .u8 20,.int .u8 31,.int .u8 10,.int .u8 25,.int .u8 14,.int .u8 19,.int .u8 9,.int .u8 13,.int .u8 8,.int .u8 7,.int .u8 6] (LD 1 #[.int .u8 0,.int .u8 1,.int .u8 28,.int .u8 2,.int .u8 29,.int .u8 14,.int .u8 24,.int .u8 3,.int .u8 30,.int .u8 22,.int .u8 20,.int .u8 15,.int .u8 25,.int .u8 17,.int .u8 4,.int .u8 8,.int .u8 31,.int .u8 27,.int .u8 13,.int .u8 23,.int .u8 21,.int .u8 19,.int .u8 16,.int .u8 7,.int .u8 26,.int .u8 12,.int .u8 18,.int .u8 6,.int .u8 11,.int .u8 5,.int .u8 10,.int .u8 9] (LD 0 (s8.map fun z=>Value.int .u64 z).toArray (World.holding prog os ⟨#[], #[],[]⟩).heap))}
end Go.Proofs.YtflegjieadkonaaGreatDoor
namespace Go.Proofs.YtflegjieadkonaaGreatDoor
open Go Go.Al Go.Proofs.Tryz
def aY.z:aY:=(0,⟨0,0⟩)
theorem d64(d e:aY):bV prog 97 [ag d.c,.ptr 0 0] [an e.c] (pB lc) [(0,io (an d.c))] 1:=by
 refine aB ab func97 Z (by decide) ntmps97 Z (by simp) ?_;refine gA Z (zD [] Z (zW (zO ac)))
def dM(p:Prog)(i:Nat):List aj:=(p.aD.take i).map Decl.name
def dI(p:Prog)(i:Nat):Int:=sW (p.aD.getD i em) i (bU .str (aC (dM p i)) (p.aD.getD i em).name 0)
def jo(p:Prog):Nat->List aY
 |0=> []
 |i+1=>jo p i++(if dI p i=0 then[] else[(dI p i,(p.aD.getD i em).at_)])
def p6(p:Prog)(i:Nat):aY:=pF p (p.rules.getD i em) ((i:Int)+1)
def kg(p:Prog):Nat->List aY
 |0=> []
 |i+1=>kg p i++(if(p6 p i).1=0 then[] else[p6 p i])
def jk(p:Prog):List aY:=jo p p.aD.length++kg p p.rules.length
def dz(p:Prog):aY:=(jk p).headD aY.z
theorem DH(p:Prog)(i:Nat): ∀k,∃t,jo p (i+k)=jo p i++t
 |0=>⟨[],by simp⟩
 |k+1=>by
  obtain⟨t,h⟩:=DH p i k;exact⟨_,by rw[<-aaB,jo,h,Zc]⟩
theorem Dy(p:Prog)(i:Nat): ∀k,∃t,kg p (i+k)=kg p i++t
 |0=>⟨[],by simp⟩
 |k+1=>by
  obtain⟨t,h⟩:=Dy p i k;exact⟨_,by rw[<-aaB,kg,h,Zc]⟩
theorem JA{p:Prog}{i:Nat}(d:jo p i=[])(hi:i<p.aD.length)(h: ¬dI p i=0):dz p=(dI p i,(p.aD.getD i em).at_):=by
 obtain⟨t,b⟩:=DH p (i+1) (p.aD.length-(i+1));have e:i+1+(p.aD.length-(i+1))=p.aD.length:=by omega
 rw[e,jo,d,be h]at b;rw[dz,jk,b];rfl
theorem Jz{p:Prog}{i:Nat}(h0:jo p p.aD.length=[])(d:kg p i=[])(hi:i<p.rules.length)(h: ¬(p6 p i).1=0):dz p=p6 p i:=by
 obtain⟨t,b⟩:=Dy p (i+1) (p.rules.length-(i+1));have e:i+1+(p.rules.length-(i+1))=p.rules.length:=by omega
 rw[e,kg,d,be h]at b;rw[dz,jk,b,h0];rfl
theorem ML{p:Prog}(h0:jo p p.aD.length=[])(h1:kg p p.rules.length=[]):dz p=aY.z:=by
 rw[dz,jk,h0,h1];rfl
theorem BS{p:Prog}{i:Nat}(h:i<p.aD.length):aC (dM p (i+1))=bump (aC (dM p i)) (p.aD.getD i em).name:=by
 rw[dM,bz h,Y6];exact cS _ _
theorem FI(p:Prog)(i:Nat)(s:aj):0<=bU .str (aC (dM p i)) s 0∧bU .str (aC (dM p i)) s 0<=i:=by
 have h:=eW (dM p i) s;have b:(dM p i).length<=i:=by simp[dM];omega
 rw[bB];omega
def Prog.fit(p:Prog):Prop:=p.aD.length<=1000000000∧p.rules.length<=1000000000∧ ∀r∈p.rules,r.fit
theorem XX(p:Prog)(hb:p.fit):bV prog 96 [ag p.c,.dt (.func 97) [] [.ptr 0 0]] [an aY.z.c] (.bQ []) [(0,io (an (dz p).c))] 1:=by
 obtain⟨A,B,y⟩:=hb;refine aB ab func96 Z (by decide) ntmps96 Z (by simp) ?_;refine gA Z ?_;refine az 0 p.aD.length (Y8 _) (fun i=>⟨[(1,.dt (.func 97) [] [.ptr 0 0]),(2,.ptr 1 0),(4,.mp 2),(13,.iv (cZ 4 p.aD Decl.c)),(14,pI p.aD.length),(15,pI i)],[(0,io (an aY.z.c)),(1,io (an p.c)),(2,io (ct (aC (dM p i))))],3⟩) (fun i=>jo p i=[]) [] Z
  (zW ⟨⟨_,rfl,.of_eq Z⟩,YY Z,rfl,⟨_,rfl,.of_eq Z⟩,YY Z,rfl,Ji Z ir Z trivial⟩) fun i D u=>?_
 refine zJ Z Z (fun d=>?_) fun d=>?_
 .have d:i<p.aD.length:=zN d;have I:=FI p i (p.aD.getD i em).name;have G:=BS d;refine gA Z (zp (YL (p.aD.getD i em) i (bU .str (aC (dM p i)) (p.aD.getD i em).name 0)) ?_);refine zJ Z Z (fun g=>?_) fun g=>?_
  .have g: ¬dI p i=0:=by
    have g:(!li (dI p i=0))=kw:=g;simpa only[Z7,decide_eq_false_iff_not]using g
   rw[JA u d g];refine gA Z (zq [0] (d64 (dI p i,(p.aD.getD i em).at_) aY.z) ?_);refine zE Z Z (fun q=>?_) fun q=>?_
   .exact absurd (show kw=lc from q) (by decide)
   refine gA Z (zD [] Z (zW (zO ac)))
  .have g:dI p i=0:=by
    have g:(!li (dI p i=0))=lc:=g;simpa only[aaS,decide_eq_true_eq]using g
   refine gA Z ⟨d,by rw[jo,u,am g];rfl,[],zW (zO (zO (hM Z (by rw[G];rfl) Z trivial)))⟩
 have d:p.aD.length<=i:=zG d;have j:i=p.aD.length:=by omega
 subst j;refine gA Z (zq [] (d50 p (by omega)) ?_);refine gA Z ?_;refine xa 3 Z ?_;refine az 0 p.rules.length (Y8 _) (fun i=>⟨[(1,.dt (.func 97) [] [.ptr 0 0]),(2,.ptr 1 0),(8,.iv (df p)),(47,.iv (cZ 5 p.rules ah.c)),(48,pI p.rules.length),(49,pI i)],[(0,io (an aY.z.c)),(1,io (an p.c))],4⟩) (fun i=>kg p i=[]) [] Z
  (zW (zO (zO trivial))) fun i D x=>?_
 refine zJ Z Z (fun b=>?_) fun b=>?_
 .have b:i<p.rules.length:=zN b;have F:p.rules.getD i em∈p.rules:=by rw[YZ,Y3 b];exact ZJ b
  refine gA Z (bj (c65 p (p.rules.getD i em) ((i:Int)+1) (y _ F)) Z Z Z Z Z Z ?_);refine zJ Z Z (fun g=>?_) fun g=>?_
  .have g: ¬(p6 p i).1=0:=by
    have g:(!li ((p6 p i).1=0))=kw:=g;simpa only[Z7,decide_eq_false_iff_not]using g
   rw[Jz u x b g];refine gA Z (zq [0] (d64 (p6 p i) aY.z) ?_);refine zE Z Z (fun q=>?_) fun q=>?_
   .exact absurd (show kw=lc from q) (by decide)
   refine gA Z (zD [] Z (zW (zO ac)))
  .have g:(p6 p i).1=0:=by
    have g:(!li ((p6 p i).1=0))=lc:=g;simpa only[aaS,decide_eq_true_eq]using g
   refine gA Z ⟨b,by rw[kg,x,am g];rfl,[],zW (zO (zO trivial))⟩
 have b:p.rules.length<=i:=zG b;have j:i=p.rules.length:=by omega
 subst j;rw[ML u x];refine gA Z (zD [] Z (zW (zO ac)))
theorem c24(p:Prog)(hb:p.fit):Pure prog 56 [ag p.c] (ag (dz p).c):=by
 refine ae ab func56 Z (by decide) ntmps56 Z (by simp) Z ?_;refine gA Z (zq [2] (XX p hb) ?_);exact zU Z
end Go.Proofs.YtflegjieadkonaaGreatDoor
namespace Go.Proofs.YtflegjieadkonaaGreatDoor
open Go Go.Al Go.Proofs.Tryz Go.ChangeShapes Go.WideShapes Go.RowKit
section
theorem Dg{α:Type}(f:α->Nat): ∀l:List α,(l.map fun x=>f x+1).sum=(l.map f).sum+l.length
 | []=>rfl
 |x::r=>by simp only[Zm,aaO,ZA,Dg f r];omega
section
variable {H:Type} {enc:TypeId×Value->H} {W:World} {hT:oK W} {sp:Nat->Bool} {held:Bool}
def QD(x:Decl)(d:DataW H):Prop:=x.types.length+1<=bk d
def QR1(r:ah)(d:DataW H):Prop:=r.size+1<=bk d∧r.head.ts<=400*bk d∧ ∀l∈r.body,l.ts<=400*bk d
def YW(p:Prog)(d:DataW H):Prop:=p.size<=bk d∧p.aD.length<=bk d∧p.rules.length<=bk d∧ ∀r∈p.rules,r.size<=bk d∧r.head.ts<=400*bk d∧ ∀l∈r.body,l.ts<=400*bk d
theorem KW(n:Nat):Rd enc prog W hT sp held 76 ah.c QR1 n:=by
 intro m _ cs y h;obtain⟨xs,k,rfl,rfl,j,S,d⟩:=DataW.trod_struct underlying76 h
 match xs,S with
 | [x0,x1,x2],_=>
  obtain⟨a,A,Y⟩:=He (hT:=hT) k k (Y7 _) _ _ (rC d 0 Z Z Z CL Z);obtain⟨b,B,x⟩:=PK (hT:=hT) k k (Y7 _) _ _ (rC d 1 Z Z Z H6 Z);obtain⟨c,D,qc⟩:=FJ (hT:=hT) k k (Y7 _) _ _ (rC d 2 Z Z Z xe Z);refine⟨⟨a,b,c⟩,A.iF (o':=2) Z (B.iF (o':=3) Z (D.iF (o':=5) Z (.end_ (j.trans H5)))),?_⟩;have u:=x.sum (f:=Lit.size) (c:=1) fun _ _ h=>by have:=h.2;omega
  rw[<-Lit.iG]at u;obtain⟨F,G⟩:=Y;simp only[bk]at u F G;refine⟨?_,?_,fun l j=>?_⟩
  .simp only[ah.size,bk,Zm,Z2,Rows.uptoBulk,Rows.uptoBulkAll];omega
  .simp only[bk,Zm,Z2,Rows.uptoBulk,Rows.uptoBulkAll];omega
  .obtain⟨e,⟨I,_⟩,J⟩:=x.all l j;simp only[bk]at I J;simp only[bk,Zm,Z2,Rows.uptoBulk,Rows.uptoBulkAll];omega
theorem PL(n:Nat):Rd enc prog W hT sp held 3 ba (fun _ _=>True) n:=by
 intro m d b y h;obtain⟨z,j,_⟩:=mv (hT:=hT) underlying3 n m d b y h;exact⟨z,j,ac⟩
theorem PM(n:Nat):Rd enc prog W hT sp held 49 Decl.c QD n:=by
 intro m _ I y h;obtain⟨G,k,rfl,rfl,B,D,d⟩:=DataW.trod_struct underlying49 h
 match G,D with
 | [x0,x1,x2],_=>
  obtain⟨a,j,J,_⟩:=ky (hT:=hT) underlying9 k k (Y7 _) _ _ (rC d 0 Z Z Z tB Z);obtain⟨b,u,F⟩:=(kM (hT:=hT) underlying47 mT (by decide) (fun _=>rfl) (PL k)).mono (abK k) k (Y7 _) _ _ (rC d 1 Z Z Z QM Z);obtain⟨c,x,S⟩:=FJ (hT:=hT) k k (Y7 _) _ _ (rC d 2 Z Z Z xe Z);refine⟨⟨a,b,c⟩,j.iF (o':=1) Z (u.iF (o':=2) Z (x.iF (o':=4) Z (.end_ (B.trans H7)))),?_⟩;have A:=F.len;simp only[bk]at A;simp only[QD,bk,Zm,Z2,Rows.uptoBulk,Rows.uptoBulkAll];omega
theorem PJ(n:Nat):Rd enc prog W hT sp held 25 Prog.c YW n:=by
 intro m _ cs y h;obtain⟨xs,k,rfl,rfl,j,hx,B⟩:=DataW.trod_struct underlying25 h
 match xs,hx with
 | [x0,x1],_=>
  obtain⟨a,F,qa⟩:=(kM (hT:=hT) underlying22 H7 (by decide) (fun _=>rfl) (PM k)).mono (abK k) k (Y7 _) _ _ (rC B 0 Z Z Z QQ Z);obtain⟨b,G,D⟩:=(kM (hT:=hT) underlying23 H5 (by decide) (fun _=>rfl) (KW k)).mono (abK k) k (Y7 _) _ _ (rC B 1 Z Z Z QO Z);refine⟨⟨a,b⟩,F.iF (o':=1) Z (G.iF (o':=2) Z (.end_ (j.trans QN))),?_⟩;have u:=qa.sum (f:=fun d=>d.types.length+1) (c:=1) fun _ _ h=>by
   simp only[QD]at h;omega
  have x:=D.sum (f:=fun r=>r.size+1) (c:=1) fun _ _ h=>by have:=h.1;omega
  rw[Dg]at u x;simp only[bk]at u x;refine⟨?_,?_,?_,fun r Y=>?_⟩
  .simp only[Prog.size,bk,Zm,Z2,Rows.uptoBulk,Rows.uptoBulkAll];omega
  .simp only[bk,Zm,Z2,Rows.uptoBulk,Rows.uptoBulkAll];omega
  .simp only[bk,Zm,Z2,Rows.uptoBulk,Rows.uptoBulkAll];omega
  .obtain⟨e,⟨I,J,A⟩,S⟩:=D.all r Y;simp only[bk]at I J A S;refine⟨?_,?_,fun l j=>?_⟩
   .simp only[bk,Zm,Z2,Rows.uptoBulk,Rows.uptoBulkAll];omega
   .simp only[bk,Zm,Z2,Rows.uptoBulk,Rows.uptoBulkAll];omega
   .have:=A l j;simp only[bk,Zm,Z2,Rows.uptoBulk,Rows.uptoBulkAll];omega
end
theorem UN{H:Type}{p:Prog}{d:DataW H}(h:YW p d)(hb:bk d<=1048576):p.fit:=by
 obtain⟨y,A,B,b⟩:=h;refine⟨by omega,by omega,fun r x=>?_⟩;obtain⟨D,F,j⟩:=b r x;exact⟨by omega,by omega,fun l u=>by have:=j l u;omega⟩
theorem M6{H:Type}{enc:TypeId×Value->H}{W:World}(hT:oK W){v:Value}{d:DataW H}{p:List MemPlace}(b: ∃base,Value.okWide prog W .any base 25 v)(h:DataW.Trod enc prog W 0 (fun _=>kw) kw 25 v d p):
  ∃x:Prog,YW x d∧VR (Mem.rr W hT) Vo (· <0) (ag x.c) v:=by
 obtain⟨base,b⟩:=b;obtain⟨A,rfl,_⟩:=okWide_struct underlying25 b;obtain⟨n,y⟩:=h;obtain⟨r,j,u⟩:=PJ (hT:=hT) n n (Y7 _) _ _ y;exact⟨r,u,j.agg⟩
theorem Te{M:Mem}{N:Nm}{U:Nat->Prop}{p:IV}{a:Option Addr}{l c:Nat}(h:CR M [p] (Value.slice a l c).cells.toList):VR M N U (.iv p) (.slice a l c):= .iv _ _ (h.2 0 p Z)
end
end Go.Proofs.YtflegjieadkonaaGreatDoor
namespace Go.Proofs.YtflegjieadkonaaGreatDoor
open Go Go.Al
section
structure dC where
 kind:Int
 lit:Int
 eV:List Int
 var:aj
 deriving Inhabited,DecidableEq
structure px where
 mq:Int
 first:Int
 given:List aj
 steps:List dC
 deriving Inhabited,DecidableEq
def dC.c(s:dC):List IV:=[iI s.kind,iI s.lit,cZ 1 s.eV ba,iS s.var]
def px.c(p:px):List IV:=[iI p.mq,iI p.first,strs p.given,cZ 4 p.steps dC.c]
def dC.z:dC:=⟨0,0,[],Y5⟩
def px.z:px:=⟨0,0,[],[]⟩
section
variable (K:aj->Bool)
def Fo(t:Term):Bool:=li (t.kind=2)||(li (t.kind=1)&&K t.var)
def jh(a:Atom):List Int:=((Zp a.ad.length).filter fun i=>Fo K (a.ad.getD i em)).map fun(i:Nat)=>(i:Int)
def fD(e o:Expr):Bool:=li (e.kind=1)&&!K e.var&&(aH o).all K
def vJ(l:Lit)(i:Int):Option dC:=
 if((aH l.left).all K&&(aH l.right).all K)=kw then io ⟨2,i,[],Y5⟩
 else if l.op≠1 then jp
 else if fD K l.left l.right=kw then io ⟨3,i,[],l.left.var⟩
 else if fD K l.right l.left=kw then io ⟨3,i,[],l.right.var⟩
 else jp
def Gz(r:ah)(l:Lit)(i:Int):Option dC:=
 if((aF l.agg).all fun v=>!aE (outer r) v||K v)=kw then(if K l.a7=kw then io ⟨2,i,[],Y5⟩ else io ⟨3,i,[],l.a7⟩) else jp
def uJ(r:ah)(l:Lit)(i:Int):Option dC:=
 if l.kind=1 then io ⟨1,i,jh K l.atom,Y5⟩
 else if l.kind=2 then(if(bg l.atom).all K=kw then io ⟨2,i,[],Y5⟩ else jp)
 else if l.kind=3 then vJ K l i
 else if l.kind=4 then Gz K r l i
 else jp
def iy(r:ah)(i:Nat):Option dC:=uJ K r (r.body.getD i em) i
end
def IX(o:Option dC):dC×Bool:=match o with
 |some s=>(s,kw)
 |none=>(dC.z,lc)
def tF(r:ah)(s:dC):List aj:=if s.kind=1 then bg (r.body.getD s.lit.toNat em).atom else if s.kind=3 then[s.var] else[]
section
variable (K:aj->Bool) (r:ah) (dn:Nat->Bool)
def jT(i:Nat):Option dC:=if !dn i&&li ((r.body.getD i em).kind≠1) then iy K r i else jp
def su(b:Int×Int)(i:Nat):Int×Int:=if(!dn i&&li ((r.body.getD i em).kind=1))=kw∧((jh K (r.body.getD i em).atom).length:Int)>b.2 then((i:Int),((jh K (r.body.getD i em).atom).length:Int)) else b
def qT:Int×Int:=(Zp r.body.length).foldl (su K r dn) (-1, -1)
def ja(fstv:Int):Option dC:=match(Zp r.body.length).findSome? (jT K r dn) with
 |some s=>io s
 |none=>if 0<=fstv∧dn fstv.toNat=lc then iy K r fstv.toNat
  else if(qT K r dn).1<0 then jp else iy K r (qT K r dn).1.toNat
end
def fo(r:ah)(fstv:Int):Nat->(Nat->Bool)->(aj->Bool)->List dC
 |0,_,_=> []
 |n+1,dn,K=>match ja K r dn fstv with
  |none=> []
  |some s=>s::fo r fstv n (fun j=>dn j||decide ((j:Int)=s.lit)) (fun x=>K x||aE (tF r s) x)
theorem uI{K:aj->Bool}{r:ah}{l:Lit}{i:Int}{s:dC}(h:uJ K r l i=io s):s.lit=i:=by
 unfold uJ vJ Gz at h
 repeat' split at h
 all_goals first
  |(cases h;rfl)
  |cases h
theorem CO(K:aj->Bool)(r:ah)(dn:Nat->Bool): ∀(l:List Nat) (b:Int×Int),(l.foldl (su K r dn) b).1=b.1∨ ∃i∈l,(l.foldl (su K r dn) b).1=(i:Int)∧dn i=lc∧(r.body.getD i em).kind=1
 | [],_=> .inl Z
 |i::l,b=>by
  rw[Zw];rcases CO K r dn l (su K r dn b i) with h|⟨j,u,h⟩
  .rw[h];unfold su;split
   .rename_i d;refine .inr ⟨i,Zh,rfl,?_⟩;simpa using d.1
   .exact .inl Z
  .exact .inr ⟨j,Zg _ u,h⟩
theorem D9{K:aj->Bool}{r:ah}{dn:Nat->Bool}{fstv:Int}{s:dC}(hf:fstv<r.body.length)(h:ja K r dn fstv=io s): ∃i:Nat,s.lit=i∧i<r.body.length∧dn i=lc:=by
 unfold ja at h;cases hg:(Zp r.body.length).findSome? (jT K r dn) with
 |some s'=>
  rw[hg]at h;cases h;obtain⟨i,u,j⟩:=List.exists_of_findSome?_eq_some hg;unfold jT at j;split at j
  .rename_i d;exact⟨i,uI j,Z8.1 u,by simp at d;exact d.1⟩
  .cases j
 |none=>
  rw[hg]at h;dsimp only at h;split at h
  .rename_i d;exact⟨fstv.toNat,uI h,by omega,d.2⟩
  .split at h
   .cases h
   .rename_i hb;rcases CO K r dn (Zp r.body.length) (-1, -1) with b|⟨i,u,b,x,_⟩
    .exact absurd (show(qT K r dn).1<0 by unfold qT;rw[b];decide) hb
    .refine⟨(qT K r dn).1.toNat,uI h,?_,?_⟩
     .have:(qT K r dn).1=i:=b;have:=Z8.1 u;omega
     .have:(qT K r dn).1=i:=b;rw[this];exact x
end
theorem DJ(p:Prog): ∀i,(jo p i).length<=i
 |0=>Y7 _
 |i+1=>by
  have:=DJ p i;unfold jo;split<;>simp<;>omega
theorem Dz(p:Prog): ∀i,(kg p i).length<=i
 |0=>Y7 _
 |i+1=>by
  have:=Dz p i;unfold kg;split<;>simp<;>omega
section
section
variable {r t:ah} (hh:t.head=r.head) (hb: ∀x,x∈t.body↔x∈r.body)
include hh hb
end
section
variable {r t:ah} (hh:t.head=r.head) (hb: ∀x,x∈t.body↔x∈r.body)
include hh hb
end
structure YT (r t u:ah) (i k:Int):Prop where
 XJ: ∀x∈fe (aC (ch r)),x∈fe (aC (ay r))
 Wh: ∀x∈fe (aC (rX r)),x∈fe (aC (ch r))
 outer:fe (aC (ay t))=fe (aC (ay r))
 lim:fe (aC (ch t))=fe (aC (ch r))
 plain:fe (aC (rX t))=fe (aC (rX r))
 loc:th t i=th r k
 th: ∀x∈th r k,x∉fe (aC (ay r))
 more: ∀x∈fe (aC (ch r)),x∈fe (aC (ch u))
 hasX:Uv [88]∈fe (aC (ch u))
end
end Go.Proofs.YtflegjieadkonaaGreatDoor
namespace Go.Proofs.YtflegjieadkonaaGreatDoor
open Go Go.Al Go.Proofs.Tryz
def HH(p:Prog)(a:Atom)(i:Nat):Int:=(iw p a.rel).types.getD i em
def L6(p:Prog)(a:Atom)(i:Nat)(m:NM):Option NM:=
 if(a.ad.getD i em).kind=2 then(if(a.ad.getD i em).val.kind=HH p a i then io m else jp)
 else if(a.ad.getD i em).kind=1 then(if ef .str m (a.ad.getD i em).var=kw∧ ¬bU .str m (a.ad.getD i em).var 0=HH p a i then jp else io (cF .str m (a.ad.getD i em).var (HH p a i)))
 else io m
def SS(p:Prog)(a:Atom):Nat->Option NM
 |0=>io []
 |i+1=>(SS p a i).bind (L6 p a i)
theorem Pv{n sz:Nat}{es:List (List PV)}(h:es.all (bq n)=kw):(AO.row sz es).low n:=fun _ e b=>Zr.1 h e (Zv b)
def zg:List IV->List IV->Prop
 | [],[]=>True
 |p::r,q::s=>oL p q∧zg r s
 |_,_=>False
theorem zg.length: ∀{a b:List IV},zg a b->a.length=b.length
 | [],[],_=>rfl
 |_::_,_::_,h=>congrArg (· +1) (zg.length h.2)
 | [],_::_,h=>h.elim
 |_::_,[],h=>h.elim
theorem zg.get: ∀{a b:List IV},zg a b-> ∀(j:Nat) (q:IV),b[j]? =io q-> ∃p,a[j]? =io p∧oL p q
 | [],[],_,j,q,h=>by simp at h
 |p::r,q0::s,hh,j,q,h=>by
  cases j with
  |zero=>simp at h;subst h;exact⟨p,rfl,hh.1⟩
  |succ j=>simpa using zg.get hh.2 j q (by simpa using h)
 | [],_::_,hh,_,_,_=>hh.elim
 |_::_,[],hh,_,_,_=>hh.elim
def yI(i sz n:Nat):PV->Bool
 | .iv _=>kw
 | .sl j off len s=>bif Zt j i then Zt s sz&&aaV (off+len) n else kw
 |_=>lc
theorem JC{i sz n:Nat}{p:PV}(h:yI i sz n p=kw):p.dc i sz n:=by
 cases p with
 |iv=>trivial
 |sl j off len s=>
  simp only[yI]at h;show if j=i then s=sz∧off+len<=n else True;split
  .rename_i e;subst e;simp only[Nat.beq_refl,cond_true,Zo]at h;exact⟨Zl h.1,YY h.2⟩
  .trivial
 |_=>cases h
theorem xJ{i sz n:Nat}: ∀{l:List PV},l.all (yI i sz n)=kw->iU i sz n l
 | [],_=>trivial
 |p::r,h=>by
  rw[List.all_cons,Zo]at h;exact⟨JC h.1,xJ h.2⟩
def xR(i sz n:Nat):AH->Bool
 | []=>kw
 |(_,jp)::r=>xR i sz n r
 |(_,io (.cells cs _))::r=>cs.all (yI i sz n)&&xR i sz n r
 |(_,io (.row _ es))::r=>(es.all fun e=>e.all (yI i sz n))&&xR i sz n r
 |_::_=>lc
theorem nv{i sz n:Nat}: ∀{h:AH},xR i sz n h=kw->h.vi i sz n
 | [],_=>trivial
 |(_,jp)::r,h=>nv (h:=r) h
 |(_,io (.cells cs _))::r,h=>by
  simp only[xR,Zo]at h;exact⟨xJ h.1,nv h.2⟩
 |(_,io (.row _ es))::r,h=>by
  simp only[xR,Zo]at h;exact⟨fun e b=>xJ (Zr.1 h.1 e b),nv h.2⟩
 |(_,io (.bT _ _))::r,h=>by simp[xR]at h
 |(_,io .gK)::r,h=>by simp[xR]at h
 |(_,io (.map ..))::r,h=>by simp[xR]at h
 |(_,io (.cD ..))::r,h=>by simp[xR]at h
 |(_,io (.eO ..))::r,h=>by simp[xR]at h
theorem Md{P:Program}{nt:Nat}{Q:AQ}{k:List KI}{s:AS}{all rest:List Oper}(i:Nat){kc:KC}{V:Type}{e:V->IV}{z:V}{b:Value}{y:PV->V}{m:List (kc.K×V)}(hi:s.h.get i=io (.map kc e z b y m))
  (h:GO P nt (.ops all rest::k) Q ⟨s.f.fX i (.eE kc e z b m),(i,jp)::s.h.fX i (.eE kc e z b m),s.nx⟩):GO P nt (.ops all rest::k) Q s:=by
 intro M N a w j;obtain⟨x,A,B,F,D⟩:=qA j.1 hi
 have u:Fits x N ⟨s.f.fX i (.eE kc e z b m),(i,jp)::s.h.fX i (.eE kc e z b m),s.nx⟩ nt a w:=⟨B,fun d=>by
  rw[AF.kV];exact D _ _ (j.2.1 d),j.2.2⟩
 exact gP (fun e a2 G ⟨M2,N2,s2,hx2,hf2,hr2⟩=>⟨M2,N2,s2,A.trans hx2,hf2,hr2⟩) _ _ _ (h x N a w u)
theorem Hd(p:Prog): ∀i,∀d∈jo p i,¬d.1=0
 |0,d,h=>by cases h
 |i+1,d,h=>by
  rw[jo]at h;rcases Zf.1 h with h|h
  .exact Hd p i d h
  .split at h
   .cases h
   .rename_i g;rw[Zd]at h;subst h;exact g
theorem G9(p:Prog): ∀i,∀d∈kg p i,¬d.1=0
 |0,d,h=>by cases h
 |i+1,d,h=>by
  rw[kg]at h;rcases Zf.1 h with h|h
  .exact G9 p i d h
  .split at h
   .cases h
   .rename_i g;rw[Zd]at h;subst h;exact g
theorem Jq(p:Prog): ∀d∈jk p,¬d.1=0:=fun d h=>by
 rcases Zf.1 h with h|h
 .exact Hd p _ d h
 .exact G9 p _ d h
theorem yG(p:Prog):(dz p).1=0↔jk p=[]:=by
 unfold dz;cases h:jk p with
 |nil=>exact⟨fun _=>rfl,fun _=>rfl⟩
 |cons d l=>exact⟨fun e=>absurd e (Jq p d (by rw[h];exact Zh)),fun e=>nomatch e⟩
theorem xG(p:Prog): ∀n,kg p n=[]↔ ∀i,i<n->(p6 p i).1=0
 |0=>⟨fun _ i h=>absurd h (Z6 i),fun _=>rfl⟩
 |n+1=>by
  rw[kg,abo,xG p n];constructor
  .rintro⟨h1,h2⟩ i b;rcases ZH.1 b with h|h
   .exact h1 i h
   .subst h;by_cases g:(p6 p i).1=0
    .exact g
    .rw[be g]at h2;cases h2
  .intro h;exact⟨fun i b=>h i (by omega),am (h n (by omega))⟩
theorem cT{α:Type}[Inhabited α]{l:List α}{i:Nat}(hi:i<l.length):l.getD i em∈l:=by rw[YZ,Y3 hi];exact ZJ hi
theorem Dx(l:List aj)(s:aj):Pure prog 110 [.iv (strs l),pS s] (pB (aE l s)):=by
 refine my (bH func110 Z (by decide)) ⟨_,_,Zh⟩ fun j=>?_;simp only[maxLen]at j;refine ae ab func110 Z (by decide) ntmps110 Z (by simp) Z ?_;refine gA Z ?_
 refine az 0 l.length (Y8 _) (fun i=>⟨[(0,.iv (strs l)),(1,pS s),(5,pI i)],[],0⟩) (fun i=>(l.take i).any (fun x=>li (x=s))=lc) [] Z
  (mZ Z Z (bv (bv (bv trivial))) Z) fun i y u=>?_
 refine zJ Z Z (fun b=>?_) fun b=>?_
 .have b:=ci b;refine zJ Z Z (fun d=>?_) fun d=>?_
  .have d:li (l.getD i em=s)=kw:=d;rw[show aE l s=kw from iN b d];exact zU Z
  .have d:li (l.getD i em=s)=lc:=d;refine gA Z ⟨b,(aW u b).2 d,[],mZ Z Z (bv (bv (bv ac))) Z⟩
 .have b:=co b;rw[show aE l s=lc from any_none u b];exact zU Z
theorem G8(l m:List aj):Pure prog 116 [.iv (strs l),.iv (strs m)] (pB (m.all (aE l))):=by
 refine my (bH func116 Z (by decide)) ⟨_,_,Zg _ Zh⟩ fun j=>?_;simp only[maxLen]at j;refine ae ab func116 Z (by decide) ntmps116 Z (by simp) Z ?_;refine gA Z ?_
 refine az 0 m.length (Y8 _) (fun i=>⟨[(0,.iv (strs l)),(1,.iv (strs m)),(5,pI i)],[],0⟩) (fun i=>(m.take i).all (aE l)=kw) [] Z
  (mZ Z Z (bv (bv (bv trivial))) Z) fun i x u=>?_
 refine zJ Z Z (fun b=>?_) fun b=>?_
 .have b:=ci b;refine gA Z (zp (Dx l (m.getD i em)) ?_);refine zJ Z Z (fun d=>?_) fun d=>?_
  .have d:aE l (m.getD i em)=lc:=zA d;rw[show m.all (aE l)=lc from aaN.2 ⟨_,cT b,by rw[d];exact ZG⟩];exact zU Z
  .have d:aE l (m.getD i em)=kw:=zB d;refine gA Z ⟨b,(ld u b).2 d,[],mZ Z Z (bv (bv (bv ac))) Z⟩
 .have b:=co b;rw[Za b]at u;rw[u];exact zU Z
theorem SK(k v:List aj)(hb:k.length+v.length<=8000000000000):Pure prog 76 [.iv (strs k),.iv (strs v)] (.iv (strs (k++v))):=by
 refine ae ab func76 Z (by decide) ntmps76 Z (by simp) Z ?_;refine gA Z (cx (by first|exact .inr Z|exact .inl Z) Z Z (by simp only[oP,Y6,aaF]) (by simp))
theorem Ub(k:List aj)(v:aj)(hb:k.length<=5000000000000):bV prog 76 [.iv (strs k),.sl 0 0 1 1] [aG 1 [v] cM] (.sl 1 0 (k.length+1) 1) [(0,io (aG 1 [v] cM)),(1,io (aG 1 (k++ [v]) cM))] 2:=by
 refine aB ab func76 Z (by decide) ntmps76 Z (by simp) ?_;refine gA Z (zD [3] Z (zM ⟨.row (by simp),rfl,ac⟩ (zS (hR Z (by simp only[oP,Y6,aaF];rfl) Z ac))))
def mS(K:aj->Bool)(a:Atom)(i:Nat):List Int:=((Zp i).filter fun i=>Fo K (a.ad.getD i em)).map fun(i:Nat)=>(i:Int)
theorem EV{K:aj->Bool}{a:Atom}{i:Nat}(h:Fo K (a.ad.getD i em)=kw):mS K a (i+1)=mS K a i++ [(i:Int)]:=by
 unfold mS;rw[abg,abc,Y6,aaw,h];rfl
theorem H2{K:aj->Bool}{a:Atom}{i:Nat}(h:Fo K (a.ad.getD i em)=lc):mS K a (i+1)=mS K a i:=by
 unfold mS;rw[abg,abc,Y6,aaw,h];simp
theorem EW(K:aj->Bool)(a:Atom)(i:Nat):(mS K a i).length<=i:=by
 unfold mS;rw[Zx];exact ZS (aae _ _) (by rw[List.length_range];exact Y7 _)
theorem KJ(a:Atom)(k:List aj)(hb:a.ad.length<=10000000):Pure prog 115 [ag a.c,.iv (strs k)] (.iv (cZ 1 (jh (aE k) a) ba)):=by
 refine ae ab func115 Z (by decide) ntmps115 Z (by simp) Z ?_;refine gA Z ?_;refine fU 5 1 Z ?_;refine az 0 a.ad.length (Y8 _) (fun i=>⟨[(1,.iv (strs k)),(2,.ptr 0 0),(5,.sl 2 0 (mS (aE k) a i).length 1),(6,pI i)],[(0,io (an a.c)),(2,io (aG 1 (mS (aE k) a i) ba))],3⟩) (fun _=>True) [1] ac
  (zW (zK (zS trivial))) fun i D _=>?_
 have B:=EW (aE k) a i;refine zE Z Z (fun b=>?_) fun b=>?_
 .have b:=co b;have A:i=a.ad.length:=by omega
  rw[A];refine gA Z (cx (by first|exact .inr Z|exact .inl Z) Z Z (rfl) (rfl))
 have b:=ci b;refine gA Z (zp (Dx k (a.ad.getD i em).var) ?_);have y:Fo (aE k) (a.ad.getD i em)=lc->mS (aE k) a (i+1)=mS (aE k) a i:=H2;have d:Fo (aE k) (a.ad.getD i em)=kw->mS (aE k) a (i+1)=mS (aE k) a i++ [(i:Int)]:=EV;refine zJ Z Z (fun j=>?_) fun j=>?_
 .have j:li ((a.ad.getD i em).kind=2)=lc:=j;refine zJ Z Z (fun u=>?_) fun u=>?_
  .have u:li ((a.ad.getD i em).kind=1)=kw:=u;refine zJ Z Z (fun x=>?_) fun x=>?_
   .have x:aE k (a.ad.getD i em).var=kw:=x;have h:=d (by unfold Fo;rw[u,x];simp);refine gA Z ⟨b,ac,[5],zM (bv (bv ⟨.row (by rw[h,Y1];rfl),rfl,bv ac⟩)) (zK (hR Z (by rw[h,Y6];rfl) Z ac))⟩
   .have x:aE k (a.ad.getD i em).var=lc:=x;have h:=y (by unfold Fo;rw[j,x];simp);refine gA Z ⟨b,ac,[2],zM (bv (bv ⟨.row (by rw[h]),rfl,bv ac⟩)) (zK (hR Z (by rw[h]) Z ac))⟩
  .have u:li ((a.ad.getD i em).kind=1)=lc:=u;have h:=y (by unfold Fo;rw[j,u];rfl);refine gA Z ⟨b,ac,[2],zM (bv (bv ⟨.row (by rw[h]),rfl,bv ac⟩)) (zK (hR Z (by rw[h]) Z ac))⟩
 .have j:li ((a.ad.getD i em).kind=2)=kw:=j;have h:=d (by unfold Fo;rw[j];rfl);refine gA Z ⟨b,ac,[5],zM (bv (bv ⟨.row (by rw[h,Y1];rfl),rfl,bv ac⟩)) (zK (hR Z (by rw[h,Y6];rfl) Z ac))⟩
theorem BN(e o:Expr)(k:List aj)(hb:o.size<=100000000000):Pure prog 142 [ag e.c,ag o.c,.iv (strs k)] (pB (fD (aE k) e o)):=by
 refine ae ab func142 Z (by decide) ntmps142 Z (by simp) Z ?_;refine gA Z (bj (MS _ o (Y7 _) (by omega)) Z Z Z Z Z Z ?_);refine gA Z (zp (G8 k (aH o)) ?_);refine gA Z (zp (Dx k e.var) ?_);refine zJ Z Z (fun b=>?_) fun b=>?_
 .have b:li (e.kind=1)=kw:=b;refine zJ Z Z (fun d=>?_) fun d=>?_
  .have d:(!aE k e.var)=kw:=d;refine gA Z (zL (.of_eq ?_));unfold fD;rw[b,d];rfl
  .have d:(!aE k e.var)=lc:=d;refine gA Z (zL (.of_eq ?_));unfold fD;rw[b,d];rfl
 .have b:li (e.kind=1)=lc:=b;refine gA Z (zL (.of_eq ?_));unfold fD;rw[b];rfl
theorem Hm:aL (.bQ [.agg [pI 0,pI 0,.iv (.v (.slice jp 0 0)),pS Y5],pB lc]) (.bQ [ag dC.z.c,pB lc]):= .bQ ⟨.agg ⟨.refl _,.refl _,.nil _ _,.refl _,ac⟩,.refl _,ac⟩
theorem sE(a b:Int)(v:aj)(t:Bool):aL (.bQ [.agg [pI a,pI b,.iv (.v (.slice jp 0 0)),pS v],pB t]) (.bQ [ag (dC.mk a b [] v).c,pB t]):= .bQ ⟨.agg ⟨.refl _,.refl _,.nil _ _,.refl _,ac⟩,.refl _,ac⟩
abbrev zx(o:Option dC):PV:= .bQ [ag (IX o).1.c,pB (IX o).2]
theorem We(l:Lit)(i:Int)(k:List aj)(hb:l.size<=10000000):Pure prog 117 [ag l.c,pI i,.iv (strs k)] (zx (vJ (aE k) l i)):=by
 have A:=l.size_eq;refine ae ab func117 Z (by decide) ntmps117 Z (by simp) Z ?_;refine gA Z (bj (MS _ l.left (Y7 _) (by omega)) Z Z Z Z Z Z ?_);refine gA Z (bj (MS _ l.right (Y7 _) (by omega)) Z Z Z Z Z Z ?_);refine gA Z (zp (G8 k (aH l.left)) ?_);refine gA Z (zp (G8 k (aH l.right)) ?_);refine zE Z Z (fun x=>?_) fun x=>?_
 .have x:(aH l.left).all (aE k)=lc:=x;have u:vJ (aE k) l i=if l.op≠1 then jp else if fD (aE k) l.left l.right=kw then io ⟨3,i,[],l.left.var⟩ else if fD (aE k) l.right l.left=kw then io ⟨3,i,[],l.right.var⟩ else jp:=by
   unfold vJ;rw[be (by rw[x];simp)]
  refine zJ Z Z (fun b=>?_) fun b=>?_
  .have b: ¬l.op=1:=zX b;rw[u,am b];refine gA Z (zL ?_);exact Hm
  have b: ¬ ¬l.op=1:=by
   have b:(!li (l.op=1))=lc:=b;simpa using b
  rw[be b]at u;refine gA Z (zp (BN l.left l.right k (by omega)) ?_);refine zJ Z Z (fun d=>?_) fun d=>?_
  .have d:fD (aE k) l.left l.right=kw:=d;rw[u,am d];refine gA Z (zL ?_);exact sE _ _ _ _
  have d: ¬fD (aE k) l.left l.right=kw:=by
   have d:fD (aE k) l.left l.right=lc:=d;simp[d]
  rw[be d]at u;refine gA Z (zp (BN l.right l.left k (by omega)) ?_);refine zJ Z Z (fun j=>?_) fun j=>?_
  .have j:fD (aE k) l.right l.left=kw:=j;rw[u,am j];refine gA Z (zL ?_);exact sE _ _ _ _
  have j: ¬fD (aE k) l.right l.left=kw:=by
   have j:fD (aE k) l.right l.left=lc:=j;simp[j]
  rw[u,be j];refine gA Z (zL ?_);exact Hm
 have x:(aH l.left).all (aE k)=kw:=x;refine zJ Z Z (fun y=>?_) fun y=>?_
 .have y:(aH l.right).all (aE k)=kw:=y;rw[show vJ (aE k) l i=io ⟨2,i,[],Y5⟩ by unfold vJ;rw[x,y];rfl];refine gA Z (zL ?_);exact sE _ _ _ _
 have y:(aH l.right).all (aE k)=lc:=y;have u:vJ (aE k) l i=if l.op≠1 then jp else if fD (aE k) l.left l.right=kw then io ⟨3,i,[],l.left.var⟩ else if fD (aE k) l.right l.left=kw then io ⟨3,i,[],l.right.var⟩ else jp:=by
  unfold vJ;rw[be (by rw[x,y];simp)]
 refine zJ Z Z (fun b=>?_) fun b=>?_
 .have b: ¬l.op=1:=zX b;rw[u,am b];refine gA Z (zL ?_);exact Hm
 have b: ¬ ¬l.op=1:=by
  have b:(!li (l.op=1))=lc:=b;simpa using b
 rw[be b]at u;refine gA Z (zp (BN l.left l.right k (by omega)) ?_);refine zJ Z Z (fun d=>?_) fun d=>?_
 .have d:fD (aE k) l.left l.right=kw:=d;rw[u,am d];refine gA Z (zL ?_);exact sE _ _ _ _
 have d: ¬fD (aE k) l.left l.right=kw:=by
  have d:fD (aE k) l.left l.right=lc:=d;simp[d]
 rw[be d]at u;refine gA Z (zp (BN l.right l.left k (by omega)) ?_);refine zJ Z Z (fun j=>?_) fun j=>?_
 .have j:fD (aE k) l.right l.left=kw:=j;rw[u,am j];refine gA Z (zL ?_);exact sE _ _ _ _
 have j: ¬fD (aE k) l.right l.left=kw:=by
  have j:fD (aE k) l.right l.left=lc:=j;simp[j]
 rw[u,be j];refine gA Z (zL ?_);exact Hm
abbrev Li:List IV:=[iI 0,iI 0,.v (.slice jp 0 0),iS Y5]
theorem KL(r:ah)(i:Nat)(k:List aj)(hi:i<r.body.length)(hb:r.size<=10000000):Pure prog 84 [ag r.c,pI i,.iv (strs k)] (zx (iy (aE k) r i)):=by
 have J:r.body.length<=10000000:=by have:=Lit.au r.body;unfold ah.size at hb;omega
 have D:(r.body.getD i em).size<=10000000:=by have:=Lit.aI r.body i hi;unfold ah.size at hb;omega
 have S:=(r.body.getD i em).size_eq;refine ae ab func84 Z (by decide) ntmps84 Z (by simp) Z ?_;refine zJ Z Z (fun u=>?_) fun u=>?_
 .have u:(r.body.getD i em).kind=1:=zT u;refine gA Z (zp (KJ (r.body.getD i em).atom k (by omega)) ?_);rw[show iy (aE k) r i=io ⟨1,i,jh (aE k) (r.body.getD i em).atom,Y5⟩ by unfold iy uJ;rw[am u]];refine gA Z (zL ?_);exact .bQ ⟨.agg ⟨.refl _,.refl _,.refl _,.refl _,ac⟩,.refl _,ac⟩
 have u: ¬(r.body.getD i em).kind=1:=zF u;refine zJ Z Z (fun y=>?_) fun y=>?_
 .have y:(r.body.getD i em).kind=2:=zT y;have x:iy (aE k) r i=if(bg (r.body.getD i em).atom).all (aE k)=kw then io ⟨2,i,[],Y5⟩ else jp:=by unfold iy uJ;rw[be u,am y]
  refine gA Z (zp (QS (r.body.getD i em).atom (by omega)) ?_);refine gA Z (zp (G8 k (bg (r.body.getD i em).atom)) ?_);refine zJ Z Z (fun b=>?_) fun b=>?_
  .have b:(bg (r.body.getD i em).atom).all (aE k)=kw:=b;rw[x,am b];refine gA Z (zL ?_);exact sE _ _ _ _
  .have b:(bg (r.body.getD i em).atom).all (aE k)=lc:=b;rw[x,be (by rw[b];exact ZG)];refine gA Z (zL ?_);exact Hm
 have y: ¬(r.body.getD i em).kind=2:=zF y;refine zJ Z Z (fun b=>?_) fun b=>?_
 .have b:(r.body.getD i em).kind=3:=zT b;refine gA Z (zp (We (r.body.getD i em) i k D) ?_);rw[show iy (aE k) r i=vJ (aE k) (r.body.getD i em) i by unfold iy uJ;rw[be u,be y,am b]];refine gA Z (zL ?_);exact .refl _
 have b: ¬(r.body.getD i em).kind=3:=zF b;refine zE Z Z (fun A=>?_) fun A=>?_
 .have A: ¬(r.body.getD i em).kind=4:=zF A;rw[show iy (aE k) r i=jp by unfold iy uJ;rw[be u,be y,be b,be A]];refine gA Z (zL ?_);exact Hm
 have A:(r.body.getD i em).kind=4:=zT A;have I:(r.body.getD i em).agg.size<=10000000:=by unfold eK.size Lit.agg;dsimp only;omega
 have x:iy (aE k) r i=Gz (aE k) r (r.body.getD i em) i:=by unfold iy uJ;rw[be u,be y,be b,am A]
 unfold Gz at x;refine gA Z (zp (S7 r (by omega)) ?_);refine gA Z (zp (Vp (r.body.getD i em).agg (by omega)) ?_);have G:=gr (r.body.getD i em).agg;generalize aF (r.body.getD i em).agg=v at x G;refine gA Z ?_;refine az 0 v.length (Y8 _) (fun j=>⟨[(1,pI i),(2,.iv (strs k)),(6,.ptr 1 0),(8,.ptr 2 0),(12,.iv (strs (outer r))),(13,.iv (strs v)),(14,pI j)],[(0,io (an r.c)),(1,io (an Li)),(2,io (an (r.body.getD i em).c))],3⟩) (fun j=>(v.take j).all (fun v=>!aE (outer r) v||aE k v)=kw) [] Z
  (zW (zK (zK (zK trivial)))) fun j Y F=>?_
 refine zE Z Z (fun d=>?_) fun d=>?_
 .have d:=co d;rw[Za d]at F;rw[am F]at x;refine gA Z (zp (Dx k (r.body.getD i em).a7) ?_);refine zJ Z Z (fun B=>?_) fun B=>?_
  .have B:aE k (r.body.getD i em).a7=kw:=B;rw[x,am B];refine gA Z (zL ?_);exact sE _ _ _ _
  .have B:aE k (r.body.getD i em).a7=lc:=B;rw[x,be (by rw[B];exact ZG)];refine gA Z (zL ?_);exact sE _ _ _ _
 have d:=ci d;refine gA Z (zp (Dx (outer r) (v.getD j em)) ?_);refine gA Z (zp (Dx k (v.getD j em)) ?_);refine zJ Z Z (fun g1=>?_) fun g1=>?_
 .have g1:aE (outer r) (v.getD j em)=kw:=g1;refine zJ Z Z (fun g2=>?_) fun g2=>?_
  .have g2:aE k (v.getD j em)=lc:=zA g2
   rw[x,be (by
    rw[aav]
    exact aaN.2 ⟨_,cT d,by rw[g1,g2];exact ZG⟩)]
   refine gA Z (zL ?_);exact Hm
  .have g2:aE k (v.getD j em)=kw:=zB g2;refine gA Z ⟨d,(ld F d).2 (by rw[g1,g2];rfl),[],zW (zK (zK (zK ac)))⟩
 .have g1:aE (outer r) (v.getD j em)=lc:=g1;refine gA Z ⟨d,(ld F d).2 (by rw[g1];rfl),[],zW (zK (zK (zK ac)))⟩
theorem Pt(r:ah)(b:Int)(i:Nat)(u:List Int)(d:aj)(k:List aj)(hi:i<r.body.length)(hb:r.size<=10000000)(G:k.length<=5000000000000):Pure prog 85 [ag r.c,ag (dC.mk b i u d).c,.iv (strs k)] (.iv (strs (k++tF r (dC.mk b i u d)))):=by
 have D:r.body.length<=10000000:=by have:=Lit.au r.body;unfold ah.size at hb;omega
 have A:(r.body.getD i em).size<=10000000:=by have:=Lit.aI r.body i hi;unfold ah.size at hb;omega
 have F:=(r.body.getD i em).size_eq;have B:=cY (r.body.getD i em).atom;by_cases j:b=1
 .have e:tF r (dC.mk b i u d)=bg (r.body.getD i em).atom:=by unfold tF;rw[am j];rfl
  rw[e];refine ae ab func85 Z (by decide) ntmps85 Z (by simp) Z ?_;refine zJ Z Z (fun q=>?_) fun q=>?_
  .refine gA Z (zp (QS (r.body.getD i em).atom (by omega)) ?_);refine gA Z (zp (SK k (bg (r.body.getD i em).atom) (by omega)) ?_);exact zU Z
  .exact absurd j (zF q)
 by_cases y:b=3
 .have e:tF r (dC.mk b i u d)=[d]:=by unfold tF;rw[be j,am y]
  rw[e];refine ae ab func85 Z (by decide) ntmps85 Z (by simp) Z ?_;refine zJ Z Z (fun q=>?_) fun q=>?_
  .exact absurd (zT q) j
  refine zE Z Z (fun g=>?_) fun g=>?_
  .exact absurd y (zF g)
  refine gA Z (zq [2] (Ub k d (by omega)) ?_);refine gA Z (cx (by first|exact .inr Z|exact .inl Z) Z Z ((by rw[aaQ];exact aao fun x _=>rq _ _)) ((by simp)))
 have e:tF r (dC.mk b i u d)=[]:=by unfold tF;rw[be j,be y]
 rw[e,ZE];refine ae ab func85 Z (by decide) ntmps85 Z (by simp) Z ?_;refine zJ Z Z (fun q=>?_) fun q=>?_
 .exact absurd (zT q) j
 refine zJ Z Z (fun g=>?_) fun g=>?_
 .exact absurd (zT g) y
 exact zU Z
end Go.Proofs.YtflegjieadkonaaGreatDoor
namespace Go.Tj
section
section
variable {α:Type}
inductive pT (succ:α->List α):α->α->Prop
 |refl (a:α):pT succ a a
 |step {a b c:α}:pT succ a b->c∈succ b->pT succ a c
theorem pT.trans{succ:α->List α}{a b c:α}(h:pT succ a b)(g:pT succ b c):pT succ a c:=by
 induction g with
 |refl=>exact h
 |step _ he ih=>exact .step ih he
theorem pT.one{succ:α->List α}{a b:α}(h:b∈succ a):pT succ a b:= .step (.refl a) h
structure St (α:Type) where
 low:α->Int
 on:α->Int
 ring:α->Int
 n:Nat
 stack:List α
section
variable [DecidableEq α]
def BB(f:α->Int)(a:α)(v:Int):α->Int:=fun x=>if x=a then v else f x
theorem me(f:α->Int)(a:α)(v:Int):BB f a v a=v:=am Z
theorem nK{f:α->Int}{a x:α}{v:Int}(h: ¬x=a):BB f a v x=f x:=be h
def push(s:St α)(a:α):St α:=⟨BB s.low a ((s.n:Int)+1),BB s.on a 1,s.ring,s.n+1,s.stack++ [a]⟩
def B1(d:Int)(s:St α):St α:=match s.stack.getLast? with
 |some b=>⟨s.low,BB s.on b 2,BB s.ring b d,s.n,s.stack.dropLast⟩
 |none=>s
def ib(a:α)(b:Int):Nat->St α->St α
 |0,s=>s
 |k+1,s=>if s.on a=1 then ib a b k (B1 b s) else s
def fC(d:α->St α->Int×St α)(q:Int×St α)(b:α):Int×St α:=
 if q.2.low b=0 then(min q.1 (d b q.2).1,(d b q.2).2) else if q.2.on b=1 then(min q.1 (q.2.low b),q.2) else q
def wL(a:α)(b:Int)(q:Int×St α):Int×St α:=if q.1=b then(q.1,ib a b q.2.stack.length q.2) else q
def fk(succ:α->List α):Nat->α->St α->Int×St α
 |0,_,s=>(0,s)
 |f+1,a,s=>wL a ((s.n:Int)+1) ((succ a).foldl (fC (fk succ f)) ((s.n:Int)+1,push s a))
def jn(succ:α->List α)(f:Nat)(V:List α)(s:St α):St α:=V.foldl (fun s a=>if s.low a=0 then(fk succ f a s).2 else s) s
end
def St.o:St α:=⟨fun _=>0,fun _=>0,fun _=>0,0,[]⟩
structure Inv (succ:α->List α) (path:List α) (s:St α):Prop where
 pG: ∀a,0<=s.low a∧s.low a<=s.n
 inj: ∀a b,s.low a=s.low b->s.low a≠0->a=b
 Nr: ∀a,s.on a=0↔s.low a=0
 I0: ∀a,s.on a=0∨s.on a=1∨s.on a=2
 Ac: ∀a,s.on a=1↔a∈s.stack
 Vl:s.stack.Pairwise fun x y=>s.low x<s.low y
 QC: ∀a,s.on a=2-> ∀b∈succ a,s.on b=2
 Ul: ∀g∈path,s.on g=1
 up: ∀y,s.on y=1-> ∃g∈path,s.low g<=s.low y∧pT succ y g
 dn: ∀g∈path,∀y,s.on y=1->s.low g<=s.low y->pT succ g y
 aK: ∀y,s.low y≠0->y∉path-> ∀z∈succ y,s.low z≠0
 Wg: ∀a,s.on a=2-> ∃r,s.on r=2∧s.low r=s.ring a∧pT succ a r∧pT succ r a
 cmp: ∀a b,s.on a=2->s.on b=2->pT succ a b->pT succ b a->s.ring a=s.ring b
structure Le (s s':St α):Prop where
 low: ∀x,s.low x≠0->s'.low x=s.low x
 QC: ∀x,s.on x=2->s'.on x=2
 n:s.n<=s'.n
theorem Le.refl(s:St α):Le s s:=⟨fun _ _=>rfl,fun _ h=>h,Y7 _⟩
theorem Le.trans{s t u:St α}(h:Le s t)(g:Le t u):Le s u:=
 ⟨fun x b=>by rw[g.low x (by rw[h.low x b];exact b),h.low x b],fun x b=>g.QC x (h.QC x b),ZS h.n g.n⟩
structure Vf (succ:α->List α) (path:List α) (a:α) (s:St α) (least:Int) (s':St α) (t:List α):Prop where
 inv:Inv succ path s'
 le:Le s s'
 stack:s'.stack=s.stack++t
 new: ∀y∈t,s.low y=0
 at_:(s.n:Int)<s'.low a
 UC:least<=s'.low a
 l1: ∀y∈t,∀z∈succ y,s'.on z=1->least<=s'.low z
 l2:(s'.on a=2∧least=s'.low a)∨ ∃z∈s.stack,s'.low z=least∧pT succ a z
theorem xQ{succ:α->List α}{path:List α}{s:St α}(h:Inv succ path s){x:α}(b:s.on x=1):s.low x≠0:=fun g=>by
 have:=(h.Nr x).2 g;omega
theorem K9{succ:α->List α}{p:List α}{s s':St α}(h:Inv succ p s)(b:Le s s'){x:α}(d:s.low x≠0)(ho:s'.on x=1):s.on x=1:=by
 rcases h.I0 x with g|g|g
 .exact absurd ((h.Nr x).1 g) d
 .exact g
 .have:=b.QC x g;omega
section
variable [DecidableEq α]
theorem DO{succ:α->List α}{path:List α}{s:St α}{a:α}(h:Inv succ path s)(ha:s.low a=0)(hp: ∀g∈path,pT succ g a):Inv succ (path++ [a]) (push s a):=by
 have a0:s.on a=0:=(h.Nr a).2 ha;have I:a∉s.stack:=fun g=>by have:=(h.Ac a).2 g;omega
 have u: ∀x,¬x=a->(push s a).low x=s.low x:=fun x d=>nK d;have la:(push s a).low a=(s.n:Int)+1:=me _ _ _;have D: ∀x,¬x=a->(push s a).on x=s.on x:=fun x d=>nK d;have F:(push s a).on a=1:=me _ _ _;have hn:((push s a).n:Int)=(s.n:Int)+1:=by show((s.n+1:Nat):Int)=_;omega
 refine⟨fun x=>?_,fun x y B d=>?_,fun x=>?_,fun x=>?_,fun x=>?_,?_,fun x d b hb=>?_,fun g Y=>?_,fun y A=>?_,fun g Y y A G=>?_,fun y A J z hz=>?_,fun x d=>?_,fun x y d A h1 h2=>?_⟩
 .have:=h.pG x;by_cases e:x=a
  .subst e;rw[la,hn];omega
  .rw[u x e,hn];omega
 .have h1:=h.pG x;have h2:=h.pG y;by_cases e:x=a
  .by_cases j:y=a
   .rw[e,j]
   .rw[e,la,u y j]at B;omega
  .by_cases j:y=a
   .rw[j,la,u x e]at B;omega
   .rw[u x e,u y j]at B;rw[u x e]at d;exact h.inj x y B d
 .by_cases e:x=a
  .subst e;rw[F,la];constructor<;>intro g<;>omega
  .rw[D x e,u x e];exact h.Nr x
 .by_cases e:x=a
  .subst e;exact .inr (.inl F)
  .rw[D x e];exact h.I0 x
 .show _↔x∈s.stack++ [a];rw[Zf,Zd];by_cases e:x=a
  .subst e;simp[F]
  .rw[D x e,h.Ac x];simp[e]
 .show(s.stack++ [a]).Pairwise _;rw[aa4];refine⟨h.Vl.imp_of_mem ?_,List.pairwise_singleton _ _,fun x d y A=>?_⟩
  .intro x y d A B;rw[u x (fun e=>I (e▸d)),u y (fun e=>I (e▸A))];exact B
  .rw[Zd]at A;subst A;rw[la,u x (fun e=>I (e▸d))];have:=h.pG x;omega
 .have e: ¬x=a:=fun e=>by subst e;rw[F]at d;omega
  rw[D x e]at d;have S:=h.QC x d b hb;have j: ¬b=a:=fun e=>by subst e;omega
  rw[D b j];exact S
 .rcases Zf.1 Y with g1|g1
  .have:=h.Ul g g1;rw[D g (fun e=>by subst e;omega)];exact this
  .rw[Zd]at g1;subst g1;exact F
 .by_cases e:y=a
  .subst e;exact⟨y,aau _ Zh,abb _,.refl _⟩
  .rw[D y e]at A;obtain⟨g,g1,g2,g3⟩:=h.up y A;have j: ¬g=a:=fun e=>by have:=h.Ul g g1;subst e;omega
   exact⟨g,ZC _ g1,by rw[u g j,u y e];exact g2,g3⟩
 .rcases Zf.1 Y with g1|g1
  .have j: ¬g=a:=fun e=>by have:=h.Ul g g1;subst e;omega
   by_cases e:y=a
   .subst e;exact hp g g1
   .rw[u g j,u y e]at G;rw[D y e]at A;exact h.dn g g1 y A G
  .rw[Zd]at g1;subst g1;by_cases e:y=g
   .subst e;exact .refl _
   .rw[la,u y e]at G;have:=h.pG y;omega
 .have e: ¬y=a:=fun e=>J (aau _ (by rw[e];exact Zh))
  rw[u y e]at A;have:=h.aK y A (fun g=>J (ZC _ g)) z hz;by_cases j:z=a
  .rw[j,la];omega
  .rw[u z j];exact this
 .have e: ¬x=a:=fun e=>by subst e;rw[F]at d;omega
  rw[D x e]at d;obtain⟨r,r1,r2,r3⟩:=h.Wg x d;have j: ¬r=a:=fun e=>by subst e;omega
  exact⟨r,by rw[D r j];exact r1,by rw[u r j];exact r2,r3⟩
 .have e: ¬x=a:=fun e=>by subst e;rw[F]at d;omega
  have j: ¬y=a:=fun e=>by subst e;rw[F]at A;omega
  rw[D x e]at d;rw[D y j]at A;exact h.cmp x y d A h1 h2
theorem PW{succ:α->List α}{path:List α}{s:St α}{a:α}(h:Inv succ path s)(ha:s.low a=0):Le s (push s a):=by
 have d:s.on a=0:=(h.Nr a).2 ha;refine⟨fun x b=>nK fun e=>b (e▸ha),fun x b=>?_,by show s.n<=s.n+1;omega⟩;have: ¬x=a:=fun e=>by subst e;omega
 show BB s.on a 1 x=2;rw[nK this];exact b
def BZ(s:St α)(u c:List α)(b:Int):St α:=⟨s.low,fun x=>if x∈c then 2 else s.on x,fun x=>if x∈c then b else s.ring x,s.n,u⟩
theorem DP{a:α}{b:Int}{s:St α}(h: ¬s.on a=1): ∀k,ib a b k s=s
 |0=>rfl
 |k+1=>be h
theorem An(a:α)(d:Int)(u:List α): ∀(k:Nat) (t:List α) (s:St α),t.length<k->s.stack=u++a::t->a∉t->s.on a=1->(ib a d k s).low=s.low∧(ib a d k s).n=s.n∧(ib a d k s).stack=u∧(∀x,(ib a d k s).on x=if x∈a::t then 2 else s.on x)∧ ∀x,(ib a d k s).ring x=if x∈a::t then d else s.ring x
 |0,t,s,h,_,_,_=>absurd h (Z6 _)
 |k+1,t,s,hk,hs,hn,ho=>by
  rw[ib,am ho];rcases t.eq_nil_or_concat with e|⟨t0,b,e⟩
  .subst e;have F:s.stack.getLast? =io a:=by rw[hs];simp
   have hd:s.stack.dropLast=u:=by rw[hs];simp
   have G:B1 d s=⟨s.low,BB s.on a 2,BB s.ring a d,s.n,u⟩:=by unfold B1;rw[F,hd]
   rw[G,DP (by show¬BB s.on a 2 a=1;rw[me];decide)];exact⟨rfl,rfl,rfl,fun x=>by simp[BB],fun x=>by simp[BB]⟩
  .rw[ab6]at e;subst e;have A:s.stack=(u++a::t0)++ [b]:=by rw[hs];simp
   have F:s.stack.getLast? =io b:=by rw[A];exact List.getLast?_concat
   have hd:s.stack.dropLast=u++a::t0:=by rw[A];exact List.dropLast_concat
   have G:B1 d s=⟨s.low,BB s.on b 2,BB s.ring b d,s.n,u++a::t0⟩:=by unfold B1;rw[F,hd]
   have D: ¬a=b:=fun e=>hn (by rw[e];simp);have B:=An a d u k t0 ⟨s.low,BB s.on b 2,BB s.ring b d,s.n,u++a::t0⟩ (by simp at hk;omega) Z (fun g=>hn (ZC _ g)) (by show BB s.on b 2 a=1;rw[nK D];exact ho);rw[G];refine⟨B.1,B.2.1,B.2.2.1,fun x=>?_,fun x=>?_⟩
   .rw[B.2.2.2.1 x];by_cases j:x∈a::t0
    .rw[am j,am (by rw[<-aaC];exact ZC _ j)]
    .rw[be j];by_cases y:x=b
     .subst y;rw[am (by simp)];exact me _ _ _
     .rw[be (by rw[<-aaC,Zf,Zd];exact fun g=>g.elim j y)];exact nK y
   .rw[B.2.2.2.2 x];by_cases j:x∈a::t0
    .rw[am j,am (by rw[<-aaC];exact ZC _ j)]
    .rw[be j];by_cases y:x=b
     .subst y;rw[am (by simp)];exact me _ _ _
     .rw[be (by rw[<-aaC,Zf,Zd];exact fun g=>g.elim j y)];exact nK y
theorem St.eq{β:Type}{s t:St β}(h1:s.low=t.low)(h2:s.on=t.on)(h3:s.ring=t.ring)(b:s.n=t.n)(d:s.stack=t.stack):s=t:=by
 cases s;cases t;simp_all
theorem vf{a:α}{b:Int}{u t:List α}{k:Nat}{s:St α}(B:t.length<k)(hs:s.stack=u++a::t)(hn:a∉t)(ho:s.on a=1):ib a b k s=BZ s u (a::t) b:=by
 obtain⟨d,j,x,y,A⟩:=An a b u k t s B hs hn ho;exact St.eq d (funext y) (funext A) j x
theorem Bc{β:Type}{succ:β->List β}{path:List β}{s:St β}(h:Inv succ path s){a b:β}(ha:s.on a=2)(hr:pT succ a b):s.on b=2:=by
 induction hr with
 |refl=>exact ha
 |step _ he ih=>exact h.QC _ ih _ he
theorem PX{succ:α->List α}{path:List α}{s:St α}{a:α}{u t:List α}(h:Inv succ (path++ [a]) s)(hs:s.stack=u++a::t)(S: ∀g∈path,s.low g<s.low a)(i0: ∀z∈succ a,s.low z≠0)
  (d0: ∀y∈a::t,∀z∈succ y,s.on z=1->s.low a<=s.low z):Inv succ path (BZ s u (a::t) (s.low a)):=by
 have I:=h.Vl;rw[hs,aa4]at I;obtain⟨hu,hc,b0⟩:=I;have e0:=(aas.1 hc).1;have g0:s.on a=1:=(h.Ac a).2 (by rw[hs];simp);have hC: ∀x,x∈a::t↔(s.on x=1∧s.low a<=s.low x):=by
  intro x;constructor
  .intro d;refine⟨(h.Ac x).2 (by rw[hs];exact aau _ d),?_⟩;rcases Zj.1 d with e|e
   .rw[e];exact abb _
   .have:=e0 x e;omega
  .rintro⟨D,F⟩;have:=(h.Ac x).1 D;rw[hs]at this;rcases Zf.1 this with g|g
   .have:=b0 x g a Zh;omega
   .exact g
 have Y:a∈a::t:=Zh;have j: ∀x,x∈a::t->(BZ s u (a::t) (s.low a)).on x=2:=fun x d=>am d;have no: ∀x,x∉a::t->(BZ s u (a::t) (s.low a)).on x=s.on x:=fun x d=>be d
 have J: ∀x,x∈a::t->pT succ x a:=by
  intro x d;obtain⟨D,F⟩:=(hC x).1 d;obtain⟨g,g1,g2,g3⟩:=h.up x D;refine g3.trans (h.dn g g1 a g0 ?_);rcases Zf.1 g1 with e|e
  .have:=S g e;omega
  .rw[Zd]at e;rw[e];exact abb _
 have G: ∀x,x∈a::t->pT succ a x:=by
  intro x d;obtain⟨D,F⟩:=(hC x).1 d;exact h.dn a (by simp) x D F
 have a0: ∀y,s.low y≠0->y∉path-> ∀z∈succ y,s.low z≠0:=by
  intro y A j0 z hz;by_cases e:y=a
  .rw[e]at hz;exact i0 z hz
  .exact h.aK y A (by rw[Zf,Zd];exact fun g=>g.elim j0 e) z hz
 refine⟨h.pG,h.inj,fun x=>?_,fun x=>?_,fun x=>?_,hu,fun x d b hb=>?_,fun g hg=>?_,fun y A=>?_,fun g hg y A f0=>?_,a0,fun x d=>?_,fun x y d A D F=>?_⟩
 .by_cases e:x∈a::t
  .rw[j x e];have:=xQ h ((hC x).1 e).1;exact⟨fun g=>by omega,fun g=>absurd g this⟩
  .rw[no x e];exact h.Nr x
 .by_cases e:x∈a::t
  .exact .inr (.inr (j x e))
  .rw[no x e];exact h.I0 x
 .show _↔x∈u;by_cases e:x∈a::t
  .rw[j x e];refine⟨fun g=>by omega,fun g=>?_⟩;have D:=b0 x g a Y;have F:=((hC x).1 e).2;omega
  .rw[no x e,h.Ac x,hs,Zf];exact⟨fun g=>g.elim id fun q=>absurd q e,.inl⟩
 .by_cases e:x∈a::t
  .obtain⟨D,F⟩:=(hC x).1 e;have c0:s.low b≠0:=a0 x (xQ h D) (fun g=>by have:=S x g;omega) b hb;rcases h.I0 b with g|g|g
   .exact absurd ((h.Nr b).1 g) c0
   .exact j b ((hC b).2 ⟨g,d0 x e b hb g⟩)
   .by_cases B:b∈a::t
    .exact j b B
    .rw[no b B];exact g
  .rw[no x e]at d;have g:=h.QC x d b hb;by_cases B:b∈a::t
   .exact j b B
   .rw[no b B];exact g
 .have D:=h.Ul g (ZC _ hg);have F:=S g hg;rw[no g (fun e=>by have:=((hC g).1 e).2;omega)];exact D
 .by_cases e:y∈a::t
  .rw[j y e]at A;omega
  .rw[no y e]at A;obtain⟨g,g1,g2,g3⟩:=h.up y A;rcases Zf.1 g1 with q|q
   .exact⟨g,q,g2,g3⟩
   .rw[Zd]at q;rw[q]at g2;exact absurd ((hC y).2 ⟨A,g2⟩) e
 .by_cases e:y∈a::t
  .rw[j y e]at A;omega
  .rw[no y e]at A;exact h.dn g (ZC _ hg) y A f0
 .by_cases e:x∈a::t
  .exact⟨a,j a Y,(am e).symm,J x e,G x e⟩
  .rw[no x e]at d;obtain⟨r,r1,r2,r3⟩:=h.Wg x d;have B:r∉a::t:=fun g=>by have:=((hC r).1 g).1;omega
   refine⟨r,by rw[no r B];exact r1,?_,r3⟩;show s.low r=if x∈a::t then s.low a else s.ring x;rw[be e];exact r2
 .show(if x∈a::t then s.low a else s.ring x)=if y∈a::t then s.low a else s.ring y;by_cases e:x∈a::t
  .by_cases B:y∈a::t
   .rw[am e,am B]
   .rw[no y B]at A;have:=Bc h A F;have:=((hC x).1 e).1;omega
  .rw[no x e]at d;by_cases B:y∈a::t
   .have:=Bc h d D;have:=((hC y).1 B).1;omega
   .rw[no y B]at A;rw[be e,be B];exact h.cmp x y d A D F
theorem Jd{succ:α->List α}{path:List α}{s:St α}{a z:α}(h:Inv succ (path++ [a]) s)(d: ∀z∈succ a,s.low z≠0)(B:s.on z=1)(A:s.low z<s.low a)(hr:pT succ a z):Inv succ path s:=by
 refine⟨h.pG,h.inj,h.Nr,h.I0,h.Ac,h.Vl,h.QC,fun g b=>h.Ul g (ZC _ b),fun y u=>?_,fun g b=>h.dn g (ZC _ b),fun y u x w j=>?_,h.Wg,h.cmp⟩
 .obtain⟨g,g1,g2,g3⟩:=h.up y u;rcases Zf.1 g1 with q|q
  .exact⟨g,q,g2,g3⟩
  .rw[Zd]at q;subst q;obtain⟨k,k1,F,D⟩:=h.up z B;rcases Zf.1 k1 with q|q
   .exact⟨k,q,by omega,(g3.trans hr).trans D⟩
   .rw[Zd]at q;subst q;omega
 .by_cases e:y=a
  .rw[e]at j;exact d w j
  .exact h.aK y u (by rw[Zf,Zd];exact fun g=>g.elim x e) w j
def mb(V:List α)(s:St α):Nat:=(V.filter fun x=>li (s.low x=0)).length
theorem filter_le{β:Type}{p q:β->Bool}: ∀(l:List β),(∀x∈l,p x=kw->q x=kw)->(l.filter p).length<=(l.filter q).length
 | [],_=>Y7 _
 |x::r,h=>by
  have j:=filter_le r fun y d=>h y (Zg _ d);have b:=h x Zh;rw[aaw,aaw];split
  .rename_i g;rw[am (b g)];simp only[ZA];omega
  .split
   .simp only[ZA];omega
   .exact j
theorem filter_lt{β:Type}{p q:β->Bool}{a:β}: ∀(l:List β),(∀x∈l,p x=kw->q x=kw)->a∈l->p a=lc->q a=kw->(l.filter p).length<(l.filter q).length
 | [],_,h,_,_=>nomatch h
 |x::r,h,ha,h1,h2=>by
  have d:=filter_le r fun y b=>h y (Zg _ b);have j:=h x Zh;rw[aaw,aaw];rcases Zj.1 ha with e|e
  .subst e;rw[h1,h2];simp only[aaz,if_false,if_true,ZA];omega
  .have u:=filter_lt r (fun y b=>h y (Zg _ b)) e h1 h2;split
   .rename_i g;rw[am (j g)];simp only[ZA];omega
   .split
    .simp only[ZA];omega
    .exact u
theorem zQ{β:Type}{V:List β}{s s':St β}(h:Le s s'):mb V s'<=mb V s:=
 filter_le V fun x _ b=>by
  refine decide_eq_true (aah fun g=>?_);have:=of_decide_eq_true b;rw[h.low x g]at this;exact g this
theorem nn{V:List α}{s:St α}{a:α}(hn: ∀x,0<=s.low x∧s.low x<=s.n)(ha:a∈V)(h0:s.low a=0):mb V (push s a)<mb V s:=by
 have la:(push s a).low a=(s.n:Int)+1:=me _ _ _;refine filter_lt V (fun x _ b=>?_) ha (decide_eq_false (by rw[la];omega)) (decide_eq_true h0);have:=of_decide_eq_true b;by_cases e:x=a
 .rw[e];exact decide_eq_true h0
 .refine decide_eq_true ?_;rwa[show(push s a).low x=s.low x from nK e]at this
structure gH (succ:α->List α) (path:List α) (a:α) (s0:St α) (done:List α) (q:Int×St α) (t:List α):Prop where
 inv:Inv succ (path++ [a]) q.2
 le:Le (push s0 a) q.2
 stack:q.2.stack=s0.stack++a::t
 new: ∀y∈t,s0.low y=0
 UC:q.1<=(s0.n:Int)+1
 l1: ∀y∈t,∀z∈succ y,q.2.on z=1->q.1<=q.2.low z
 Wv: ∀z∈done,q.2.on z=1->q.1<=q.2.low z
 proc: ∀z∈done,q.2.low z≠0
 l2: ∃z,q.2.on z=1∧q.2.low z=q.1∧pT succ a z
section
variable {succ:α->List α} {path:List α} {a:α} {s0:St α} {done:List α} {q:Int×St α} {t:List α}
theorem gH.la(h:gH succ path a s0 done q t):q.2.low a=(s0.n:Int)+1:=by
 have e:(push s0 a).low a=(s0.n:Int)+1:=me _ _ _;rw[h.le.low a (by rw[e];omega),e]
theorem gH.pa(h:gH succ path a s0 done q t)(h0:Inv succ path s0)(ha:s0.low a=0): ∀g∈path,q.2.low g<q.2.low a:=by
 intro g j;have d:=h0.Ul g j;have b:=xQ h0 d;have e:(push s0 a).low g=s0.low g:=nK fun e=>b (by rw[e];exact ha);rw[h.la,h.le.low g (by rw[e];exact b),e];have:=h0.pG g;omega
theorem gH.at_(h:gH succ path a s0 done q t):a∉t:=fun g=>by
 have:=h.inv.Vl;rw[h.stack,aa4]at this;have:=(aas.1 this.2.1).1 a g;omega
theorem gH.step{V:List α}{j:α->St α->Int×St α}{f:Nat}(hV: ∀a∈V,∀b∈succ a,b∈V)
  (ih: ∀(path:List α) (b:α) (s:St α),Inv succ path s->s.low b=0->b∈V->(∀g∈path,pT succ g b)->mb V s<=f-> ∃t,Vf succ path b s (j b s).1 (j b s).2 t)
  (h:gH succ path a s0 done q t) (h0:Inv succ path s0) (ha:s0.low a=0) (Y:a∈V) {b:α} (hb:b∈succ a) (hw:mb V q.2<=f): ∃t',gH succ path a s0 (done++ [b]) (fC j q b) t':=by
 have g0:=h.la;have d0:=h.pa h0 ha;have a0:=h.at_;have c0:q.2.on a=1:=(h.inv.Ac a).2 (by rw[h.stack];simp);unfold fC;by_cases F:q.2.low b=0
 .rw[am F];have I: ∀g∈path++ [a],pT succ g b:=by
   intro g hg;refine .step (h.inv.dn g hg a c0 ?_) hb;rcases Zf.1 hg with e|e
   .have:=d0 g e;omega
   .rw[Zd]at e;rw[e];exact abb _
  obtain⟨tb,u⟩:=ih (path++ [a]) b q.2 h.inv F (hV a Y b hb) I hw;generalize j b q.2=w at u ⊢;obtain⟨G,s'⟩:=w;have B: ∀z,q.2.on z=1->s'.on z=1:=fun z d=>(u.inv.Ac z).2 (by rw[u.stack];exact ZC _ ((h.inv.Ac z).1 d));have j0:=h.le.n;have i0:(push s0 a).n=s0.n+1:=rfl;refine⟨t++tb,u.inv,h.le.trans u.le,?_,fun y J=>?_,?_,fun y J z d D=>?_,fun z d D=>?_,fun z d=>?_,?_⟩
  .show s'.stack=_;rw[u.stack,h.stack];simp
  .rcases Zf.1 J with g|g
   .exact h.new y g
   .refine aah fun hc=>?_
    have e:(push s0 a).low y=s0.low y:=nK fun e=>hc (by rw[e];exact ha);have:=h.le.low y (by rw[e];exact hc);rw[u.new y g,e]at this;exact hc this.symm
  .have:=h.UC;show min q.1 G<=_;omega
  .show min q.1 G<=s'.low z;rcases Zf.1 J with g|g
   .have f0:q.2.on y=1:=(h.inv.Ac y).2 (by rw[h.stack];simp[g]);have e0:y∉path++ [a]:=by
     rw[Zf,Zd];rintro(e|e)
     .have h1:=xQ h0 (h0.Ul y e);exact h1 (h.new y g)
     .rw[e]at g;exact a0 g
    have x:=h.inv.aK y (xQ h.inv f0) e0 z d;have A:=K9 h.inv u.le x D;have:=h.l1 y g z d A;rw[u.le.low z x];omega
   .have:G<=s'.low z:=u.l1 y g z d D;omega
  .show min q.1 G<=s'.low z;rcases Zf.1 d with g|g
   .have x:=h.proc z g;have:=h.Wv z g (K9 h.inv u.le x D);rw[u.le.low z x];omega
   .rw[Zd]at g;subst g;have:G<=s'.low z:=u.UC;omega
  .show s'.low z≠0;rcases Zf.1 d with g|g
   .have x:=h.proc z g;rw[u.le.low z x];exact x
   .rw[Zd]at g;subst g;have:(q.2.n:Int)<s'.low z:=u.at_;omega
  .obtain⟨z,S,z2,z3⟩:=h.l2;by_cases b0:q.1<=G
   .exact⟨z,B z S,by show s'.low z=min q.1 G;rw[u.le.low z (xQ h.inv S)];omega,z3⟩
   .rcases u.l2 with⟨_,g⟩|⟨w,w1,w2,w3⟩
    .have h1:G=s'.low b:=g;have h2:(q.2.n:Int)<s'.low b:=u.at_;have h3:=h.UC;omega
    .have w2:s'.low w=G:=w2;exact⟨w,B w ((h.inv.Ac w).2 w1),by show s'.low w=min q.1 G;omega,(pT.one hb).trans w3⟩
 .rw[be F];by_cases A:q.2.on b=1
  .rw[am A];refine⟨t,h.inv,h.le,h.stack,h.new,?_,fun y J z d D=>?_,fun z d D=>?_,fun z d=>?_,?_⟩
   .have:=h.UC;show min q.1 (q.2.low b)<=_;omega
   .have:=h.l1 y J z d D;show min q.1 (q.2.low b)<=q.2.low z;omega
   .show min q.1 (q.2.low b)<=q.2.low z;rcases Zf.1 d with g|g
    .have:=h.Wv z g D;omega
    .rw[Zd]at g;subst g;omega
   .rcases Zf.1 d with g|g
    .exact h.proc z g
    .rw[Zd]at g;subst g;exact F
   .obtain⟨z,S,z2,z3⟩:=h.l2;by_cases b0:q.1<=q.2.low b
    .exact⟨z,S,by show q.2.low z=min q.1 (q.2.low b);omega,z3⟩
    .exact⟨b,A,by show q.2.low b=min q.1 (q.2.low b);omega,.one hb⟩
  .rw[be A];refine⟨t,h.inv,h.le,h.stack,h.new,h.UC,h.l1,fun z d D=>?_,fun z d=>?_,h.l2⟩
   .rcases Zf.1 d with g|g
    .exact h.Wv z g D
    .rw[Zd]at g;subst g;exact absurd D A
   .rcases Zf.1 d with g|g
    .exact h.proc z g
    .rw[Zd]at g;subst g;exact F
end
theorem vp{succ:α->List α}{path:List α}{a:α}{s0:St α}{V:List α}{d:α->St α->Int×St α}{f:Nat}(hV: ∀a∈V,∀b∈succ a,b∈V)
  (A: ∀(path:List α) (b:α) (s:St α),Inv succ path s->s.low b=0->b∈V->(∀g∈path,pT succ g b)->mb V s<=f-> ∃t,Vf succ path b s (d b s).1 (d b s).2 t)
  (h0:Inv succ path s0) (ha:s0.low a=0) (j:a∈V) (u:mb V (push s0 a)<=f):
  ∀(l done:List α) (q:Int×St α) (t:List α),gH succ path a s0 done q t->(∀b∈l,b∈succ a)-> ∃F,gH succ path a s0 (done++l) (l.foldl (fC d) q) F
 | [],done,q,t,h,_=>⟨t,by rw[ZE];exact h⟩
 |b::l,done,q,t,h,hl=>by
  obtain⟨t1,B⟩:=h.step hV A h0 ha j (hl b Zh) (ZS (zQ h.le) u);obtain⟨t2,y⟩:=vp hV A h0 ha j u l (done++ [b]) _ t1 B fun x D=>hl x (Zg _ D);exact⟨t2,by rw[Zc]at y;exact y⟩
theorem sD{succ:α->List α}{V:List α}(hV: ∀a∈V,∀b∈succ a,b∈V): ∀(f:Nat) (path:List α) (a:α) (s:St α),Inv succ path s->s.low a=0->a∈V->(∀g∈path,pT succ g a)->mb V s<=f-> ∃t,Vf succ path a s (fk succ f a s).1 (fk succ f a s).2 t
 |0,path,a,s,h,ha,haV,_,hw=>by
  have:=nn h.pG haV ha;omega
 |f+1,path,a,s,h,ha,haV,hp,hw=>by
  have c0:=nn h.pG haV ha;have hi:=DO h ha hp;have la:(push s a).low a=(s.n:Int)+1:=me _ _ _;have oa:(push s a).on a=1:=me _ _ _;have I:gH succ path a s [] ((s.n:Int)+1,push s a) []:=
   ⟨hi,.refl _,rfl,fun y j=>(nomatch j),abb _,fun y j=>(nomatch j),fun z B=>(nomatch B),fun z B=>(nomatch B),⟨a,oa,la,.refl _⟩⟩
  obtain⟨t,d⟩:=vp hV (fun p b s'=>sD hV f p b s') h ha haV (by omega) (succ a) [] _ [] I fun b hb=>hb;rw[aaF]at d;rw[fk];generalize(succ a).foldl (fC (fk succ f)) ((s.n:Int)+1,push s a)=q at d ⊢;have D:=d.la;have a0:=d.pa h ha;have J:=d.at_;have Y:q.2.on a=1:=(d.inv.Ac a).2 (by rw[d.stack];simp);have u:Le s q.2:=(PW h ha).trans d.le;unfold wL;by_cases S:q.1=(s.n:Int)+1
  .rw[am S,vf (by rw[d.stack];simp;omega) d.stack J Y,<-D];refine⟨[],PX d.inv d.stack a0 d.proc fun y j z B F=>?_,⟨u.low,fun x hx=>?_,u.n⟩,by rw[ZE];rfl,fun y j=>(nomatch j),?_,?_,fun y j=>(nomatch j),.inl ⟨am Zh,?_⟩⟩
   .rw[D,<-S];rcases Zj.1 j with e|e
    .rw[e]at B;exact d.Wv z B F
    .exact d.l1 y e z B F
   .show(if x∈a::t then(2:Int) else q.2.on x)=2;split
    .rfl
    .exact u.QC x hx
   .show(s.n:Int)<q.2.low a;omega
   .show q.1<=q.2.low a;omega
   .show q.1=q.2.low a;omega
  .rw[be S];have b0:q.1<q.2.low a:=by have:=d.UC;omega
   obtain⟨z,z1,z2,z3⟩:=d.l2;have G:=d.inv.Vl;rw[d.stack,aa4]at G;refine⟨a::t,Jd d.inv d.proc z1 (by omega) z3,u,d.stack,fun y j=>?_,by omega,by omega,fun y j w A F=>?_,.inr ⟨z,?_,z2,z3⟩⟩
   .rcases Zj.1 j with e|e
    .rw[e];exact ha
    .exact d.new y e
   .rcases Zj.1 j with e|e
    .rw[e]at A;exact d.Wv w A F
    .exact d.l1 y e w A F
   .have:=(d.inv.Ac z).1 z1;rw[d.stack]at this;rcases Zf.1 this with g|g
    .exact g
    .rcases Zj.1 g with e|e
     .rw[e]at z2;omega
     .have:=(aas.1 G.2.1).1 z e;omega
theorem SN{β:Type}(succ:β->List β):Inv succ [] (St.o:St β):=
 ⟨fun _=>⟨abb _,abb _⟩,fun _ _ _ h=>absurd Z h,fun _=>Iff.rfl,fun _=> .inl Z,fun _=>⟨fun h=>(nomatch h),fun h=>(nomatch h)⟩,.nil,fun _ h=>(nomatch h),fun _ h=>(nomatch h),fun _ h=>(nomatch h),fun _ h=>(nomatch h),fun _ h=>absurd Z h,fun _ h=>(nomatch h),fun _ _ h=>(nomatch h)⟩
theorem u7{succ:α->List α}{V:List α}(hV: ∀a∈V,∀b∈succ a,b∈V){f:Nat}(hf:V.length<=f): ∀(l:List α) (s:St α),(∀a∈l,a∈V)->Inv succ [] s->Inv succ [] (jn succ f l s)∧(∀x,s.low x≠0->(jn succ f l s).low x≠0)∧ ∀a∈l,(jn succ f l s).low a≠0
 | [],s,_,h=>⟨h,fun _ d=>d,fun _ j=>(nomatch j)⟩
 |b::l,s,hl,h=>by
  have key: ∃s',(if s.low b=0 then(fk succ f b s).2 else s)=s'∧Inv succ [] s'∧(∀x,s.low x≠0->s'.low x≠0)∧s'.low b≠0:=by
   by_cases e:s.low b=0
   .obtain⟨t,u⟩:=sD hV f [] b s h e (hl b Zh) (fun g A=>nomatch A) (ZS (aae _ _) hf);refine⟨_,am e,u.inv,fun x d=>by rw[u.le.low x d];exact d,?_⟩;have:=u.at_;omega
   .exact⟨s,be e,h,fun _ d=>d,e⟩
  obtain⟨s',e,k1,B,D⟩:=key;obtain⟨i1,i2,i3⟩:=u7 hV hf l s' (fun a j=>hl a (Zg _ j)) k1;have y:jn succ f (b::l) s=jn succ f l s':=by
   show jn succ f l (if s.low b=0 then(fk succ f b s).2 else s)=_;rw[e]
  rw[y];refine⟨i1,fun x d=>i2 x (B x d),fun a j=>?_⟩;rcases Zj.1 j with q|q
  .rw[q];exact i2 b D
  .exact i3 a q
theorem IL{succ:α->List α}{V:List α}(hV: ∀a∈V,∀b∈succ a,b∈V){f:Nat}(hf:V.length<=f){a b:α}(ha:a∈V)(hb:b∈V):
  (jn succ f V St.o).ring a=(jn succ f V St.o).ring b↔pT succ a b∧pT succ b a:=by
 obtain⟨h,_,u⟩:=u7 hV hf V St.o (fun _ h=>h) (SN succ);generalize jn succ f V St.o=s at h u ⊢;have d: ∀x∈V,s.on x=2:=by
  intro x y;rcases h.I0 x with g|g|g
  .exact absurd ((h.Nr x).1 g) (u x y)
  .obtain⟨k,k1,_⟩:=h.up x g;exact nomatch k1
  .exact g
 constructor
 .intro e;obtain⟨r,J,S,D,F⟩:=h.Wg a (d a ha);obtain⟨q,G,I,A,B⟩:=h.Wg b (d b hb);have j:s.low r≠0:=fun g=>by have:=(h.Nr r).2 g;omega
  have:r=q:=h.inj r q (by omega) j;subst this;exact⟨D.trans B,A.trans F⟩
 .rintro⟨h1,h2⟩;exact h.cmp a b (d a ha) (d b hb) h1 h2
end
end
end
end Go.Tj
namespace Go.Wa
section
inductive za (R:Nat->Nat->Prop):Nat->Nat->Prop
 |refl (a:Nat):za R a a
 |step {a b c:Nat} (h:R a b) (t:za R b c):za R a c
theorem za.trans{R:Nat->Nat->Prop}{a b c:Nat}(h:za R a b)(k:za R b c):za R a c:=by
 induction h with
 |refl=>exact k
 |step h _ ih=>exact .step h (ih k)
def W(E:Nat->Nat->Bool):Nat->Nat->Nat->Bool
 |0,a,b=>E a b||a==b
 |m+1,a,b=>W E m a b||(W E m a m&&W E m m b)
variable {E:Nat->Nat->Bool}
theorem W.mono(m a b:Nat)(h:W E m a b=kw):W E (m+1) a b=kw:=by simp[W,h]
theorem W.SO{m k a b:Nat}(d:m<=k)(h:W E m a b=kw):W E k a b=kw:=by
 induction d with
 |refl=>exact h
 |step _ ih=>exact W.mono _ _ _ ih
theorem W.self(m a:Nat):W E m a a=kw:=W.SO (Y8 m) (by simp[W])
theorem W.trans: ∀(m a k b:Nat),k<m->W E m a k=kw->W E m k b=kw->W E m a b=kw
 |m+1,a,k,b,hk,d,j=>by
  simp only[W,aal,Zo]at d j ⊢;by_cases A:k=m
  .subst A;have B:W E k a k=kw:=by rcases d with h|h;exact h;exact h.1
   have D:W E k k b=kw:=by rcases j with h|h;exact h;exact h.2
   exact .inr ⟨B,D⟩
  .have u:k<m:=by omega
   rcases d with d|⟨d,y⟩<;>rcases j with j|⟨j,x⟩
   .exact .inl (W.trans m a k b u d j)
   .exact .inr ⟨W.trans m a k m u d j,x⟩
   .exact .inr ⟨d,W.trans m m k b u y j⟩
   .exact .inr ⟨d,x⟩
theorem W.sound: ∀(m a b:Nat),W E m a b=kw->za (fun a b=>E a b=kw) a b
 |0,a,b,h=>by
  simp only[W,aal,beq_iff_eq]at h;rcases h with h|h
  .exact .step h (.refl _)
  .subst h;exact .refl _
 |m+1,a,b,h=>by
  simp only[W,aal,Zo]at h;rcases h with h|⟨d,j⟩
  .exact W.sound m a b h
  .exact(W.sound m a m d).trans (W.sound m m b j)
theorem W.iff{n:Nat}(hE: ∀a b,a<n->E a b=kw->b<n){a b:Nat}(ha:a<n):W E n a b=kw↔za (fun a b=>E a b=kw) a b:=by
 refine⟨W.sound n a b,fun h=>?_⟩
 induction h with
 |refl a=>exact W.self n a
 |step h _ ih=>
  have hb:=hE _ _ ha h;exact W.trans n _ _ _ hb (W.SO (Y8 n) (by simp[W,h])) (ih hb)
def V(E:Nat->Nat->Bool)(m a b x y:Nat):Bool:=if x<a∨x=a∧y<b then W E (m+1) x y else W E m x y
theorem V.zu(m a b x:Nat):V E m a b x m=W E m x m:=by
 unfold V;split
 .simp only[W];cases W E m x m<;>simp
 .rfl
theorem V.row(m a b y:Nat):V E m a b m y=W E m m y:=by
 unfold V;split
 .simp only[W];cases W E m m y<;>simp
 .rfl
theorem V.here(m a b:Nat):V E m a b a b=W E m a b:=by unfold V;rw[be (by omega)]
theorem V.next(m a b x y:Nat):V E m a (b+1) x y=if x=a∧y=b then(V E m a b x y||(V E m a b a m&&V E m a b m b)) else V E m a b x y:=by
 by_cases h:x=a∧y=b
 .obtain⟨rfl,rfl⟩:=h;rw[am ⟨rfl,rfl⟩,V.zu,V.row,V.here];unfold V;rw[am (by omega)];rfl
 .rw[be h];unfold V;by_cases d:x<a∨x=a∧y<b
  .rw[am d,am (by omega)]
  .rw[be d,be (by omega)]
theorem V.line(m a n x y:Nat)(b:y<n):V E m a n x y=V E m (a+1) 0 x y:=by
 unfold V;by_cases h:x<a∨x=a∧y<n
 .rw[am h,am (by omega)]
 .rw[be h,be (by omega)]
theorem V.zero(m x y:Nat):V E m 0 0 x y=W E m x y:=by unfold V;rw[be (by omega)]
theorem V.full(m n x y:Nat)(b:x<n):V E m n 0 x y=W E (m+1) x y:=by unfold V;rw[am (.inl b)]
end
end Go.Wa
namespace Go.Co
section
section
variable {n:Nat} {rR:Nat->Nat->Bool} {e:Nat->Nat->Bool}
structure Far (n:Nat) (e rR:Nat->Nat->Bool):Prop where
 refl: ∀a,a<n->rR a a=kw
 trans: ∀a b c,rR a b=kw->rR b c=kw->rR a c=kw
 XO: ∀a b,a<n->e a b=kw->rR a b=kw
 lt: ∀a b,a<n->rR a b=kw->b<n
 elt: ∀a b,a<n->e a b=kw->b<n
 split: ∀a b (p:Nat->Prop),a<n->rR a b=kw->p a-> ¬p b-> ∃x y,x<n∧rR a x=kw∧p x∧e x y=kw∧ ¬p y∧rR y b=kw
def closed(n:Nat)(rR:Nat->Nat->Bool)(done:Nat->Bool):Prop:= ∀a b,a<n->done a=kw->rR a b=kw->done b=kw
def cls(rR:Nat->Nat->Bool)(a b:Nat):Bool:=rR a b&&rR b a
end
end
end Go.Co
namespace Go.Rg
open Go.Wa Go.Co Go.Tj
section
section
variable {α:Type} [Inhabited α]
def ed(V:List α)(g:α->α->Bool)(i j:Nat):Bool:=li (i<V.length)&&li (j<V.length)&&g (V.getD i em) (V.getD j em)
def rR(V:List α)(g:α->α->Bool):Nat->Nat->Bool:=W (ed V g) V.length
theorem CE{V:List α}{g:α->α->Bool}{i j:Nat}:ed V g i j=kw↔i<V.length∧j<V.length∧g (V.getD i em) (V.getD j em)=kw:=by
 simp[ed,and_assoc]
theorem rv{V:List α}{a:α}(h:a∈V): ∃i,i<V.length∧V.getD i em=a:=by
 obtain⟨i,b,rfl⟩:=aaa.1 h;exact⟨i,b,by simp[YZ,b]⟩
theorem get_mem{V:List α}{i:Nat}(h:i<V.length):V.getD i em∈V:=by
 rw[YZ,Y3 h];exact ZJ h
theorem GG{V:List α}(hn:V.Nodup){g:α->α->Bool}{succ:α->List α}(hs: ∀a∈V,∀b,b∈succ a↔b∈V∧g a b=kw){i j:Nat}(hi:i<V.length)(hj:j<V.length):
  rR V g i j=kw↔pT succ (V.getD i em) (V.getD j em):=by
 have B: ∀{x y:Nat},x<V.length->y<V.length->V.getD x em=V.getD y em->x=y:=by
  intro x y D d h;rw[YZ,YZ,Y3 D,Y3 d]at h;exact(abz hn).1 h
 rw[rR,W.iff (n:=V.length) (fun a b _ h=>(CE.1 h).2.1) hi];constructor
 .intro h;clear hj;have: ∀{a b:Nat},za (fun a b=>ed V g a b=kw) a b->pT succ (V.getD a em) (V.getD b em):=by
   intro a b h
   induction h with
   |refl a=>exact .refl _
   |step h _ ih=>
    obtain⟨u,A,F⟩:=CE.1 h;exact(pT.step (.refl _) ((hs _ (get_mem u) _).2 ⟨get_mem A,F⟩)).trans ih
  exact this h
 .intro h;have key: ∀{a b:α},pT succ a b-> ∀x,x<V.length->V.getD x em=a-> ∃y,y<V.length∧V.getD y em=b∧za (fun a b=>ed V g a b=kw) x y:=by
   intro a b h
   induction h with
   |refl=>exact fun x D G=>⟨x,D,G,.refl _⟩
   |step _ hc ih=>
    intro x D G;obtain⟨y,d,u,A⟩:=ih x D G;subst u;obtain⟨F,J⟩:=(hs _ (get_mem d) _).1 hc;obtain⟨z,I,rfl⟩:=rv F;exact⟨z,I,rfl,A.trans (.step (CE.2 ⟨d,I,J⟩) (.refl _))⟩
  obtain⟨y,d,u,A⟩:=key h i hi Z;have:=B d hj u;subst this;exact A
def ze(V:List α)(g:α->α->Bool)(ring:α->Int):Prop:= ∀i j,i<V.length->j<V.length->(ring (V.getD i em)=ring (V.getD j em)↔rR V g i j=kw∧rR V g j i=kw)
theorem KS[DecidableEq α]{V:List α}(hn:V.Nodup){g:α->α->Bool}{succ:α->List α}(hs: ∀a∈V,∀b,b∈succ a↔b∈V∧g a b=kw){f:Nat}(hf:V.length<=f):ze V g (jn succ f V St.o).ring:=by
 intro i j d u;rw[IL (fun a x b hb=>((hs a x b).1 hb).1) hf (get_mem d) (get_mem u),GG hn hs d u,GG hn hs u d]
def WJ(V:List α)(succ:α->List α)(ring:α->Int)(D:Int->Bool)(a:α):Bool:=(V.filter fun b=>li (ring b=ring a)).all fun b=>(succ b).all fun c=>li (ring c=ring a)||D (ring c)
def Gn(V:List α)(succ:α->List α)(ring:α->Int):Nat->(Int->Bool)->List (List α)
 |0,_=> []
 |f+1,D=>match V.find? (fun a=>!D (ring a)&&WJ V succ ring D a) with
  |none=> []
  |some a=>(V.filter fun b=>li (ring b=ring a))::Gn V succ ring f (fun x=>li (x=ring a)||D x)
end
end
end Go.Rg
namespace Go.Lv
section
variable (e s:Nat->Nat->Bool)
def wt(a b:Nat):Nat:=if s a b then 1 else 0
inductive Vd:Nat->Nat->Nat->Prop
 |nil (a:Nat):Vd a 0 0
 |cons {a b k w:Nat} (h:e a b=kw) (t:Vd b k w):Vd a (k+1) (w+wt s a b)
def rx(h:Nat->Nat)(a b:Nat):Nat->Nat:=if e a b=kw∧h a<h b+wt s a b then fun x=>if x=a then h b+wt s a b else h x else h
def row(h:Nat->Nat)(a:Nat):Nat->(Nat->Nat)
 |0=>h
 |b+1=>rx e s (row h a b) a b
variable {e s}
end
end Go.Lv
namespace Go.Le
open Go.Co Go.Lv
section
variable {n:Nat} {e s rR:Nat->Nat->Bool}
structure Xo (n:Nat) (e s rR:Nat->Nat->Bool) (done:Nat->Bool) (h:Nat->Nat):Prop where
 cl:closed n rR done
 zero: ∀x,done x=lc->h x=0
 XO: ∀a b,a<n->done a=kw->e a b=kw->h b+wt s a b<=h a
 ground: ∀S:Nat->Bool,(∃a,a<n∧done a=kw∧S a=lc)-> ∃x,x<n∧done x=kw∧S x=lc∧(h x=0∨ ∃y,y<n∧S y=kw∧e x y=kw∧h x<=h y+wt s x y)
theorem Xo.nil(n:Nat)(e s rR:Nat->Nat->Bool):Xo n e s rR (fun _=>lc) (fun _=>0):=
 ⟨fun _ _ _ h=>(nomatch h),fun _ _=>rfl,fun _ _ _ h=>(nomatch h),fun _ ⟨_,_,h,_⟩=>(nomatch h)⟩
end
end Go.Le
namespace Go.Or
open Go.Co Go.Lv Go.Le
section
variable {n:Nat} {e s rR:Nat->Nat->Bool}
structure YU (n:Nat) (rR:Nat->Nat->Bool) (done:Nat->Bool) (cs:List (List Nat)) (x i:Nat) (c:List Nat):Prop where
 at_:cs[i]? =io c
 mem:x∈c
 one: ∀(j:Nat) (c':List Nat),cs[j]? =io c'->x∈c'->j=i
 cl: ∀y,y∈c↔y<n∧cls rR x y=kw
 low: ∀y,y<n->rR x y=kw->done y=kw∨ ∃j c',j<=i∧cs[j]? =io c'∧y∈c'
end
end Go.Or
namespace Go.Proofs.YtflegjieadkonaaGreatDoor
open Go Go.Al
mutual
def named:Lit->List aj
 | .mk k a _ _ _ _ _ _ b _=>if k=1∨k=2 then[a.rel] else if k=4 then jt b else[]
def jt:List Lit->List aj
 | []=> []
 |l::r=>named l++jt r
end
def B9(l:Lit):List aj:=if l.kind=1∨l.kind=2 then[l.atom.rel] else if l.kind=4 then(l.ar.filter fun x=>li (x.kind=1∨x.kind=2)).map fun x=>x.atom.rel else[]
theorem qn: ∀l:List Lit,jt l=l.flatMap named
 | []=>rfl
 |x::r=>by simp only[jt,ZO,qn r]
theorem AA: ∀(b:List Lit),(∀x∈b,x.kind≠4)->jt b=(b.filter fun x=>li (x.kind=1∨x.kind=2)).map fun x=>x.atom.rel
 | [],_=>rfl
 | .mk k' a' op' le' ri' af' av' ao' b' at'::b,h=>by
  have j:k'≠4:=h (.mk k' a' op' le' ri' af' av' ao' b' at') (Zh ..);rw[jt,AA b fun y u=>h y (Zg _ u),aaw];by_cases d:k'=1∨k'=2
  .have:li ((Lit.mk k' a' op' le' ri' af' av' ao' b' at').kind=1∨(Lit.mk k' a' op' le' ri' af' av' ao' b' at').kind=2)=kw:=decide_eq_true d;rw[this,named,am d];rfl
  .have:li ((Lit.mk k' a' op' le' ri' af' av' ao' b' at').kind=1∨(Lit.mk k' a' op' le' ri' af' av' ao' b' at').kind=2)=lc:=decide_eq_false d;rw[this,named,be d,be j];rfl
theorem x8(l:Lit)(h:l.kind=4-> ∀x∈l.ar,x.kind≠4):named l=B9 l:=by
 obtain⟨k,a,op,le,A,j,y,u,b,at_⟩:=l;show(if k=1∨k=2 then[a.rel] else if k=4 then jt b else[])=if k=1∨k=2 then[a.rel] else if k=4 then(b.filter fun x=>li (x.kind=1∨x.kind=2)).map fun x=>x.atom.rel else[];by_cases d:k=4
 .rw[AA b (h d)]
 .rw[be d,be d]
def gx(l:Lit):Nat:=if l.kind=1 then 1 else 2
def c5(p:Prog):List (aj×aj×Nat):=p.rules.flatMap fun r=>r.body.flatMap fun l=>(named l).map fun t=>(r.head.rel,t,gx l)
def gD(hs:List (aj×aj×Nat))(a b:aj):Nat:=hs.foldl (fun m x=>if x.1=a∧x.2.1=b then max m x.2.2 else m) 0
theorem HP(hs:List (aj×aj×Nat))(x:aj×aj×Nat)(a b:aj):gD (hs++ [x]) a b=if x.1=a∧x.2.1=b then max (gD hs a b) x.2.2 else gD hs a b:=by
 simp[gD,aax]
theorem Cy(a b:aj): ∀(hs:List (aj×aj×Nat)) (m:Nat),m<=hs.foldl (fun m x=>if x.1=a∧x.2.1=b then max m x.2.2 else m) m∧(∀k,(a,b,k)∈hs->k<=hs.foldl (fun m x=>if x.1=a∧x.2.1=b then max m x.2.2 else m) m)∧
  (hs.foldl (fun m x=>if x.1=a∧x.2.1=b then max m x.2.2 else m) m=m∨(a,b,hs.foldl (fun m x=>if x.1=a∧x.2.1=b then max m x.2.2 else m) m)∈hs)
 | [],m=>⟨Y7 _,fun _ h=>(nomatch h),.inl Z⟩
 |(x,y,k)::hs,m=>by
  obtain⟨j,u,h3⟩:=Cy a b hs (if x=a∧y=b then max m k else m);rw[Zw];refine⟨ZS ?_ j,fun B A=>?_,?_⟩
  .split<;>omega
  .rcases Zj.1 A with h|h
   .cases h;refine ZS ?_ j;rw[am ⟨rfl,rfl⟩];exact Nat.le_max_right _ _
   .exact u B h
  .rcases h3 with h3|h3
   .by_cases d:x=a∧y=b
    .rw[am d]at h3;rcases Nat.le_total m k with h4|h4
     .right;rw[aci h4]at h3;obtain⟨rfl,rfl⟩:=d;simp only[and_self,if_true,aci h4]at h3 ⊢;rw[h3];simp
     .left;rw[Nat.max_eq_left h4]at h3;simp only[d,and_self,if_true,Nat.max_eq_left h4]at h3 ⊢;exact h3
    .rw[be d]at h3;left;simp only[be d];exact h3
   .exact .inr (Zg _ h3)
theorem WI{hs:List (aj×aj×Nat)}{a b:aj}{k:Nat}(h:(a,b,k)∈hs):k<=gD hs a b:=(Cy a b hs 0).2.1 k h
theorem SY(hs:List (aj×aj×Nat))(a b:aj):gD hs a b=0∨(a,b,gD hs a b)∈hs:=(Cy a b hs 0).2.2
theorem HC(l:Lit):gx l<=2:=by unfold gx;split<;>omega
def ns(p:Prog):List aj:=eM (p.aD.map Decl.name)
theorem pJ: ∀(l a:List aj),pW a->pW (l.foldl ins a)
 | [],_,h=>h
 |x::l,a,h=>pJ l (ins a x) (tk h x)
theorem uB{x:aj}: ∀(l a:List aj),x∈l.foldl ins a↔x∈a∨x∈l
 | [],a=>by simp
 |y::l,a=>by rw[Zw,uB l,w4,Zj,or_assoc]
theorem I5{p:Prog}(h:(p.aD.map Decl.name).Nodup):(p.aD.map Decl.name).foldl ins []=ns p:=
 mo (pJ _ _ aaL) (fM h) fun x=>by rw[uB,ns,gq];simp
theorem pW.Lh{l:List aj}(h:pW l):l.Nodup:=by
 refine ace ?_ h;intro a b d e;subst e;exact kA _ d
def eg(p:Prog)(a b:aj):Bool:=li (gD (c5 p) a b≠0)
def jQ(p:Prog):Nat->Nat->Bool:=Go.Rg.rR (ns p) (eg p)
theorem KT{p:Prog}(hn:(p.aD.map Decl.name).Nodup){f:Nat}(hf:(ns p).length<=f):Go.Rg.ze (ns p) (eg p) (Go.Tj.jn (fun a=>(ns p).filter (eg p a)) f (ns p) Go.Tj.St.o).ring:=
 Go.Rg.KS (V:=ns p) (pW.Lh (fM hn)) (fun a _ b=>by rw[ZF]) hf
def ringEq(p:Prog)(a b:aj):Bool:=(Zp (ns p).length).any fun i=>(Zp (ns p).length).any fun j=>li ((ns p).getD i em=a)&&li ((ns p).getD j em=b)&&Go.Co.cls (jQ p) i j
theorem xN{p:Prog}{a b:aj}:ringEq p a b=kw↔ ∃i j,i<(ns p).length∧j<(ns p).length∧(ns p).getD i em=a∧(ns p).getD j em=b∧jQ p i j=kw∧jQ p j i=kw:=by
 simp only[ringEq,ZQ,Z8,Zo,decide_eq_true_eq,Go.Co.cls];constructor
 .rintro⟨i,hi,j,hj,⟨h1,h2⟩,h3,h4⟩;exact⟨i,j,hi,hj,h1,h2,h3,h4⟩
 .rintro⟨i,j,hi,hj,h1,h2,h3,h4⟩;exact⟨i,hi,j,hj,⟨h1,h2⟩,h3,h4⟩
theorem vO{p:Prog}{ring:aj->Int}(hr:Go.Rg.ze (ns p) (eg p) ring){a b:aj}(ha:a∈ns p)(hb:b∈ns p):ringEq p a b=li (ring a=ring b):=by
 rw[ZN,xN,decide_eq_true_eq];constructor
 .rintro⟨i,j,d,u,rfl,rfl,x,y⟩;exact(hr i j d u).2 ⟨x,y⟩
 .intro h;obtain⟨i,d,rfl⟩:=Go.Rg.rv ha;obtain⟨j,u,rfl⟩:=Go.Rg.rv hb;obtain⟨x,y⟩:=(hr i j d u).1 h;exact⟨i,j,d,u,rfl,rfl,x,y⟩
def nO(p:Prog)(r:ah):Bool:=r.body.any fun l=>li (l.kind=1)&&ringEq p l.atom.rel r.head.rel
def rf(p:Prog)(r:ah):Option Lit:=r.body.find? fun l=>li (l.kind≠1)&&(named l).any fun t=>ringEq p t r.head.rel
def iM(r:ah):Bool:=r.head.ad.any fun t=>li (t.kind=1)&&!aE (fO r) t.var
def gL(p:Prog)(r:ah):aY:=match rf p r with
 |some l=>(70,l.at)
 |none=>if iM r=kw∧nO p r=kw then(71,r.at_) else aY.z
def dU(p:Prog):aY:=if(dz p).1≠0 then dz p else((p.rules.map (gL p)).find? fun d=>li (d.1≠0)).getD aY.z
end Go.Proofs.YtflegjieadkonaaGreatDoor
namespace Go.Re
open Go.Tj
section
variable {α:Type}
structure Mid (succ:α->List α) (S T:α->Prop) (a:α) (l:List α):Prop where
 Wl: ∀x,S x->T x
 here:T a
 new: ∀x,T x->S x∨pT succ a x
 next: ∀x,T x->S x∨x=a∨ ∀y∈succ x,T y
 done: ∀y∈l,T y
structure Top (succ:α->List α) (V:α->Prop) (T:α->Prop) (l:List α):Prop where
 new: ∀x,T x-> ∃r∈l,V r∧pT succ r x
 next: ∀x,T x-> ∀y∈succ x,T y
 done: ∀r∈l,V r->T r
end
end Go.Re
namespace Go.Proofs.YtflegjieadkonaaGreatDoor
open Go Go.Al
structure nj (p:Prog):Prop where
 nodup:(p.aD.map Decl.name).Nodup
 len:p.aD.length<=64
 yl: ∀r∈p.rules,r.head.rel∈p.aD.map Decl.name
 lits: ∀r∈p.rules,∀l∈r.body,∀t∈named l,t∈p.aD.map Decl.name
 flat: ∀r∈p.rules,∀l∈r.body,l.kind=4-> ∀x∈l.ar,x.kind≠4
theorem DI(p:Prog): ∀n,jo p n=[]-> ∀i,i<n->dI p i=0
 |0,_,i,h=>absurd h (Z6 _)
 |n+1,h,i,hi=>by
  rw[jo]at h;obtain⟨d,b⟩:=abo.1 h;rcases ZH.1 hi with h3|h3
  .exact DI p n d i h3
  .subst h3;exact Decidable.byContradiction fun j=>by rw[be j]at b;cases b
theorem vP{d:Decl}{i k:Int}(h:sW d i k=0): ¬i>=64∧ ¬k>0:=by
 unfold sW at h;split at h
 .cases h
 .split at h
  .cases h
  .rename_i b;split at h
   .cases h
   .rename_i j;exact⟨fun g=>b (.inl g),j⟩
theorem xX{α:Type}[Inhabited α]: ∀(n:Nat) (l:List α),l.length=n->(∀i,i<l.length->l.getD i em∉l.take i)->l.Nodup
 |0,l,hn,_=>by rw[abl.1 hn];exact Z3
 |n+1,l,hn,h=>by
  have hd:l=l.take n++ [l.getD n em]:=by rw[<-bz (by omega),Za (by omega)]
  have d:=xX n (l.take n) (by rw[ZP];omega) fun i u=>by
   rw[ZP]at u;have:=h i (by omega);rw[List.take_take,Nat.min_eq_left (by omega),YZ,ZX,am (by omega),<-YZ];exact this
  rw[hd,aaY];refine⟨d,by simp,fun a j b hb e=>?_⟩;rw[Zd]at hb;subst e;subst hb;exact h n (by omega) j
theorem DG{s:aj}: ∀(l:List Decl) (m:DM),ef .str (l.foldl iH m) s=kw->s∈m.map Zu∨s∈l.map Decl.name
 | [],m,h=> .inl (qx.1 h)
 |d::l,m,h=>by
  rw[Zw]at h;rcases DG l _ h with h1|h1
  .unfold iH at h1;split at h1
   .exact .inl h1
   .rename_i b;rw[dW (fun g=>b (qx.2 g))]at h1;rcases Zf.1 h1 with h3|h3
    .exact .inl h3
    .rw[Zd]at h3;subst h3;exact .inr Zh
  .exact .inr (Zg _ h1)
theorem Rh{p:Prog}{a:Atom}(h:lV p a=lc):a.rel∈p.aD.map Decl.name:=by
 unfold lV at h;rw[aaS]at h;rcases DG p.aD [] h with h1|h1
 .cases h1
 .exact h1
theorem o6{r:ah}{e:Int}(he:e≠0){f:Int->Bool}{k:aY}(h:(bL r e f k).1=0):(∀lit∈jd r.body.length,f lit=lc)∧k.1=0:=by
 unfold bL at h;split at h
 .exact absurd h he
 .rename_i b;refine⟨fun lit d=>?_,h⟩;have:=aat.1 b lit d;simpa using this
theorem FG{p:Prog}{r:ah}{n:Int}(h:(pF p r n).1=0):(yb p r).1=0:=by
 unfold pF at h;split at h
 .cases h
 .split at h
  .cases h
  .split at h
   .cases h
   .split at h
    .cases h
    .split at h
     .cases h
     .exact h
theorem Qe(n:Nat):(-1:Int)∈jd n:=ZD.2 ⟨0,by simp,by simp⟩
theorem Hp{n i:Nat}(h:i<n):(i:Int)∈jd n:=ZD.2 ⟨i+1,by simp;omega,by simp⟩
theorem I7{l:Lit}{t:aj}(hf:l.kind=4-> ∀x∈l.ar,x.kind≠4)(h:t∈named l): ∃a∈(if l.kind=4 then l.ar else[l]).flatMap b8,a.rel=t:=by
 rw[x8 l hf]at h;unfold B9 at h;split at h
 .rename_i u;rw[Zd]at h;have b: ¬l.kind=4:=by omega
  refine⟨l.atom,?_,h.symm⟩;rw[be b,aaT];exact⟨l,aaU _,by rw[b8,am u];exact aaU _⟩
 .split at h
  .rename_i b;obtain⟨x,y,rfl⟩:=ZD.1 h;obtain⟨d,j⟩:=ZF.1 y;refine⟨x.atom,?_,rfl⟩;rw[am b,aaT];exact⟨x,d,by rw[b8,am (zT j)];exact aaU _⟩
  .cases h
theorem CC{p:Prog}(h:(dz p).1=0):nj p:=by
 have I:=(yG p).1 h;unfold jk at I;obtain⟨B,D⟩:=abo.1 I;have B:=DI p _ B;have D:=(xG p _).1 D;have j: ∀r∈p.rules,(yb p r).1=0:=by
  intro r u;obtain⟨i,b,rfl⟩:=aaa.1 u;have:=FG (D i b);rwa[YZ,Y3 b]at this
 have y: ∀r∈p.rules,∀lit∈jd r.body.length,∀a∈bu r lit,a.rel∈p.aD.map Decl.name:=by
  intro r u lit A a F;have:=(o6 (by decide) (j r u)).1 lit A;exact Rh (by simpa using ZU.1 this a F)
 have d: ∀r∈p.rules,∀l∈r.body,l.kind=4-> ∀x∈l.ar,x.kind≠4:=by
  intro r u l A S x hx;obtain⟨i,b,rfl⟩:=aaa.1 A;have:=(o6 (by decide) (o6 (by decide) (o6 (by decide) (j r u)).2).2).1 _ (Hp b);have e:ak r (i:Int)=r.body[i]:=by unfold ak;simp[YZ,b]
  unfold dE at this;rw[be (by omega),e,am S,Zz]at this;simpa using ZU.1 this.1 x hx
 refine⟨xX _ _ Z fun i b J=>?_,?_,fun r u=>?_,fun r u l A t ht=>?_,d⟩
 .rw[Zx]at b;have:=(vP (B i b)).2;rw[bB]at this;have G:rS (dM p i) (p.aD.getD i em).name=0:=by omega
  rw[rG]at G;apply G;unfold dM;rw[YZ,Y9,Y3 b,<-List.map_take]at J;rw[YZ,Y3 b];exact J
 .refine aa2 fun Y=>?_
  have:=(vP (B 64 Y)).1;omega
 .exact y r u (-1) (Qe _) r.head (by unfold bu;simp)
 .obtain⟨i,b,rfl⟩:=aaa.1 A;obtain⟨a,F,rfl⟩:=I7 (d r u _ A) ht;refine y r u _ (Hp b) a ?_;have e:ak r (i:Int)=r.body[i]:=by unfold ak;simp[YZ,b]
  unfold bu o8;rw[be (by omega),e];exact F
theorem nj.c5{p:Prog}(h:nj p){x:aj×aj×Nat}(d:x∈c5 p):x.1∈p.aD.map Decl.name∧x.2.1∈p.aD.map Decl.name∧0<x.2.2:=by
 simp only[_root_.Go.Proofs.YtflegjieadkonaaGreatDoor.c5,aaT,ZD]at d;obtain⟨r,b,l,j,t,u,rfl⟩:=d;refine⟨h.yl r b,h.lits r b l j t u,?_⟩;show 0<gx l;unfold gx;split<;>omega
abbrev GM:=List ((KC.str).K×Option NM)
def IW:Option NM->IV
 |none=> .v (.map jp)
 |some r=>CU r
abbrev AZ(m:GM):IV:= .eE .str IW jp (.map jp) m
def JM(row:NM)(t:aj)(b:Int):NM:=cF .str row t (max (bU .str row t 0) b)
def lK(hs:List (aj×aj×Nat))(a:aj):NM:=hs.foldl (fun row x=>if x.1=a then JM row x.2.1 x.2.2 else row) []
def c4(p:Prog)(hs:List (aj×aj×Nat)):GM:=p.aD.map fun r=>(r.name,io (lK hs r.name))
def yq(p:Prog):IV:=if(dz p).1=0 then AZ (c4 p (c5 p)) else .v (.map jp)
theorem rn(hs:List (aj×aj×Nat))(x:aj×aj×Nat)(a:aj):lK (hs++ [x]) a=if x.1=a then JM (lK hs a) x.2.1 x.2.2 else lK hs a:=by
 simp[lK,aax]
theorem Ah(hs:List (aj×aj×Nat))(a:aj):((lK hs a).map Zu).Nodup∧ ∀b:aj,b∈(lK hs a).map Zu↔ ∃k,(a,b,k)∈hs:=by
 induction hs using tX with
 |h0=>exact⟨Z3,fun b=>by simp[lK]⟩
 |h1 hs x ih=>
  obtain⟨A,d⟩:=ih;obtain⟨y,z,k⟩:=x;rw[rn];by_cases h:y=a
  .rw[am h,JM];by_cases B:z∈(lK hs a).map Zu
   .rw[pd B];refine⟨A,fun b=>?_⟩;rw[d];constructor
    .rintro⟨j,hj⟩;exact⟨j,ZC _ hj⟩
    .rintro⟨j,hj⟩;rcases Zf.1 hj with hj|hj
     .exact⟨j,hj⟩
     .rw[Zd]at hj;cases hj;exact(d z).1 B
   .rw[dW B];refine⟨aaY.2 ⟨A,by simp,fun u hu v D e=>?_⟩,fun b=>?_⟩
    .rw[Zd]at D;subst e;subst D;exact B hu
    .rw[Zf,d,Zd];constructor
     .rintro(⟨j,hj⟩|rfl)
      .exact⟨j,ZC _ hj⟩
      .exact⟨k,aau _ (by rw[h];exact aaU _)⟩
     .rintro⟨j,hj⟩;rcases Zf.1 hj with hj|hj
      .exact .inl ⟨j,hj⟩
      .rw[Zd]at hj;cases hj;exact .inr Z
  .rw[be h];refine⟨A,fun b=>?_⟩;rw[d];constructor
   .rintro⟨j,hj⟩;exact⟨j,ZC _ hj⟩
   .rintro⟨j,hj⟩;rcases Zf.1 hj with hj|hj
    .exact⟨j,hj⟩
    .rw[Zd]at hj;cases hj;exact absurd Z h
theorem KQ(hs:List (aj×aj×Nat))(a:aj):(lK hs a).length<=hs.length:=by
 induction hs using tX with
 |h0=>exact Y7 _
 |h1 hs x ih=>
  rw[rn,Y1,ZB];split
  .have:=xP (lK hs a) x.2.1 (max (bU .str (lK hs a) x.2.1 0) x.2.2);unfold JM;omega
  .omega
def bK(p:Prog)(a:aj):List aj:=(ns p).filter (eg p a)
theorem Di{p:Prog}(h:nj p)(a:aj):eM ((lK (c5 p) a).map Zu)=bK p a:=by
 refine mo (fM (Ah _ _).1) (List.Pairwise.filter _ (fM h.nodup)) fun b=>?_;rw[gq,(Ah _ _).2,bK,ZF,ns,gq,eg,decide_eq_true_eq];constructor
 .rintro⟨k,hk⟩;have d:=h.c5 hk;refine⟨d.2.1,?_⟩;have:=WI hk;have h2:0<k:=d.2.2;omega
 .rintro⟨_,d⟩;rcases SY (c5 p) a b with h2|h2
  .exact absurd h2 d
  .exact⟨_,h2⟩
theorem LX(p:Prog)(hs:List (aj×aj×Nat)){a:aj}(h:a∈p.aD.map Decl.name):bU .str (c4 p hs) a jp=io (lK hs a):=by
 unfold c4
 revert h
 generalize p.aD=l
 induction l with
 |nil=>intro h;cases h
 |cons d l ih=>
  intro h;simp only[Zm,bU];by_cases e:d.name=a
  .rw[am e,e]
  .rw[be e];rw[Zm,Zj]at h;exact ih (h.resolve_left fun g=>e g.symm)
theorem Gd(p:Prog)(hs:List (aj×aj×Nat)):(c4 p hs).map Zu=p.aD.map Decl.name:=by
 simp[c4]
theorem vV{b:List Lit}{i:Nat}(h:i<b.length):jt (b.take (i+1))=jt (b.take i)++named (b.getD i em):=by
 rw[qn,qn,bz h,aa7];simp
mutual
theorem kz: ∀l:Lit,(named l).length<=l.size
 | .mk k a op le ri af av ao b at_=>by
  have:=tc b;unfold named Lit.size;split
  .simp;omega
  .split
   .omega
   .simp
theorem tc: ∀l:List Lit,(jt l).length<=Lit.aA l
 | []=>Y7 _
 |l::r=>by
  have b:=kz l;have d:=tc r;simp only[jt,Lit.aA,Y1];omega
end
theorem I6(b:List Lit)(i:Nat):(jt (b.take i)).length<=Lit.aA b:=by
 have d:=tc (b.take i);have j: ∀(b:List Lit) (i:Nat),Lit.aA (b.take i)<=Lit.aA b:=by
  intro b
  induction b with
  |nil=>intro i;simp[Lit.aA]
  |cons x r ih=>
   intro i;cases i with
   |zero=>simp[Lit.aA]
   |succ i=>have:=ih i;simp only[aan,Lit.aA];omega
 exact ZS d (j b i)
def Vj(n:Nat):Prop:= ∀l:Lit,l.size<=n->Pure Tryz.prog 90 [ag l.c] (.iv (strs (named l)))
theorem qo(l:Lit):named l=if l.kind=1∨l.kind=2 then[l.atom.rel] else if l.kind=4 then jt l.ar else[]:=by cases l;rfl
theorem KG: ∀n:Nat,n<=100000000000->Vj n
 |0,_=>fun l h=>absurd l.size_pos (by omega)
 |n+1,hn=>fun l h=>by
  have B:=l.size_eq;refine Al.Pure.le (aa:=[ag l.c]) (args:=[ag l.c1]) ?_ ⟨l.zr,ac⟩;refine ae ab Tryz.func90 Z (by decide) Tryz.ntmps90 Z (by simp) Z ?_;refine zJ Z Z (fun k1=>?_) fun k1=>?_
  .have k1:l.kind=1:=by simpa using k1
   rw[qo,am (.inl k1)];refine gA Z (cx (by first|exact .inr Z|exact .inl Z) Z Z (rfl) (rfl))
  have k1: ¬l.kind=1:=by simpa using k1
  refine zJ Z Z (fun d=>?_) fun d=>?_
  .have d:l.kind=2:=by simpa using d
   rw[qo,am (.inr d)];refine gA Z (cx (by first|exact .inr Z|exact .inl Z) Z Z (rfl) (rfl))
  have d: ¬l.kind=2:=by simpa using d
  rw[qo,be (by rintro(g|g);exact k1 g;exact d g)];refine zE Z Z (fun j=>?_) fun j=>?_
  .have j: ¬l.kind=4:=by simpa using j
   rw[be j];refine gA Z (zL ?_);exact .nil _ _
  have j:l.kind=4:=by simpa using j
  rw[am j];refine gA Z ?_;refine fU 3 1 Z ?_;refine az 0 l.ar.length (Y8 _) (fun i=>⟨[(3,.sl 2 0 (jt (l.ar.take i)).length 1),(19,.iv (lits l.ar)),(20,pI l.ar.length),(21,pI i)],[(2,io (aG 1 (jt (l.ar.take i)) cM))],3⟩) (fun _=>True) [1] ac
   (zW (zS trivial)) fun i D _=>?_
  have x:=I6 l.ar i;have u:=Lit.au l.ar;refine zJ Z Z (fun b=>?_) fun b=>?_
  .have b:=ci b;have y:=Lit.aI l.ar i b;have A:=kz (l.ar.getD i em);refine gA Z (zp (KG n (by omega) (l.ar.getD i em) (by omega)) ?_);refine gA Z ⟨b,ac,[4],zM ⟨.row (by rw[vV b,Y1]),rfl,bv (bv (bv ac))⟩ (hR Z (by rw[oP,vV b,Y6]) Z ac)⟩
  .have b:=co b;rw[Za b];refine gA Z (cx (by first|exact .inr Z|exact .inl Z) Z Z (rfl) (rfl))
theorem G4(l:Lit)(h:l.size<=100000000000):Pure Tryz.prog 90 [ag l.c] (.iv (strs (named l))):=KG l.size h l (Y7 _)
end Go.Proofs.YtflegjieadkonaaGreatDoor
namespace Go.Proofs.YtflegjieadkonaaGreatDoor
open Go Go.Al Go.Proofs.Tryz
section
theorem SF(x:kq)(el:Nat->List IV):Pure prog 91 [.iv (.dh 1 0 el)] (.bQ []):=by
 refine⟨bH func91 Z (by decide),fun M N w u y d A=>?_⟩;obtain⟨v,rfl⟩: ∃v,u=[v]:=by
  cases u with
  |nil=>cases d
  |cons v r=>cases r with
   |nil=>exact⟨v,rfl⟩
   |cons a b=>simp at d
 have j:=A 0 _ Z;simp only[List.getD_cons_zero]at j;obtain⟨a,a0,rfl⟩: ∃a a0,v= .slice a 0 a0:=by
  cases j with
  |iv _ _ h=>cases h with
   |ki _ _ a a0=>exact⟨a,a0,rfl⟩
   |dh _ _ _ b off a0=>exact⟨_,a0,rfl⟩
 refine(x.2 a a0 w).mono ?_;rintro e B ⟨rfl,rfl⟩;exact⟨_,M,N,.bQ [],_,_,rfl,⟨rfl,rfl,rfl⟩,.refl _ _ _ _ _,y,.bQ [] #[] Z (by simp)⟩
section
variable {V:Type}
def Hx(m:List ((KC.str).K×V))(vs:List Nat):List aj:=ju (m.map fun x=>(x.1,0)) vs
theorem En(m:List ((KC.str).K×V))(vs:List Nat)(j:Nat)(x:(KC.str).K×V)(h:m[j]? =io x):Hx m (j::vs)=Hx m vs++ [x.1]:=
 nB _ _ _ (x.1,0) (by rw[Y9,h];rfl)
theorem Hw(m:List ((KC.str).K×V))(vs:List Nat)(hn:vs.Nodup)(hb: ∀j∈vs,j<m.length)(b: ∀j,j<m.length->j∈vs):(Hx m vs).Perm (m.map (·.1)):=by
 have:=mG (m.map fun x=>(x.1,(0:Int))) vs hn (by simpa using hb) (by simpa using b);rw[aaQ]at this;exact this
theorem Hv(m:List ((KC.str).K×V))(vs:List Nat):(Hx m vs).length<=vs.length:=yg _ _
end
def IT(i:Nat):List aj->PV
 | []=> .sl i 1 0 1
 |x::r=> .sl i 0 (x::r).length 1
def zl(n:Nat):List aj->AO
 | []=> .row 1 (aaX n [pS Y5])
 |x::r=>aG 1 (x::r) cM
theorem Au(i:Nat)(l:List aj)(s:aj):IT i (l++ [s])= .sl i 0 (l.length+1) 1:=by cases l<;>simp[IT]
theorem Av(n:Nat)(l:List aj)(s:aj):zl n (l++ [s])=aG 1 (l++ [s]) cM:=by cases l<;>rfl
theorem DT{i:Nat}{l:List aj}(h:l≠ []):IT i l= .sl i 0 l.length 1:=by cases l with
 |nil=>exact absurd Z h
 |cons=>rfl
theorem DU{n:Nat}{l:List aj}(h:l≠ []):zl n l=aG 1 l cM:=by cases l with
 |nil=>exact absurd Z h
 |cons=>rfl
theorem K5(n:Nat)(l:List aj)(k:Nat):(zl n l).low k:=by
 cases l with
 |nil=>
  intro j e b;rw[aa6]at b;split at b
  .cases b;rfl
  .cases b
 |cons x r=>exact cK k
theorem K4(n:Nat)(l:List aj)(σ:Nat->Nat):(zl n l).db σ=zl n l:=by
 cases l with
 |nil=>simp only[zl,AO.db];rw[List.map_replicate];rfl
 |cons x r=>exact bA σ
theorem hO{h r:AH}{σ:Nat->Nat}{i n m:Nat}{o:AO}{l:List aj}(ho:h.get (σ i)=io o)(he:o=zl m l)(hi:Zk i n=kw)(hr:n6 n σ h r):n6 n σ h ((i,io (zl m l))::r):=
 ⟨⟨_,ho,.of_eq (by rw[K4,he])⟩,YY hi,K5 m l n,hr⟩
theorem uh(i:Nat)(l:List aj){n:Nat}(h:Zk i n=kw):(IT i l).low n=kw:=by cases l<;>exact h
theorem KD(Y:kq)(m:NM)(hm:m.length<=100000000):Pure prog 52 [.iv (CU m)] (.iv (strs (eM (m.map (·.1))))):=by
 refine ae ab func52 Z (by decide) ntmps52 Z (by simp) Z ?_;rcases Nat.eq_zero_or_pos m.length with h0|h0
 .have h0:=abl.1 h0;subst h0;refine gA Z (Gf ab 1 (fun k=>cM (([]:List aj).getD k em)) Z Z Z Z Z Z Z Z Z Z ?_);refine gA Z ?_;refine jw ([]:List ((KC.str).K×Int)) (fun _=>⟨[(3,.iv (.dh 1 0 (fun k=>cM (([]:List aj).getD k em)))),(9,.ptr 1 0)],[(1,io (.cD .str Ba ([]:List ((KC.str).K×Int)) [] jp))],2⟩) (fun _=>True) [] ac
   (zW (hI Z Z (.inl Z) Z trivial)) fun b _=>?_
  refine nV Z ac (fV Z Z Z Z Z (by decide) (fun _=>?_) fun j x B _=>?_)
  .refine gA Z (bj (SF Y _) Z Z Z Z Z Z ?_);refine gA Z (zL ?_);exact .of_eq (show _=PV.iv (strs (eM [])) by rw[rj];rfl)
  .cases B
 refine gA Z (Ez ab m.length 0 Z Z Z Z Z Z Z Z Z h0 (by omega) (by show 16*m.length<=_;omega) Z (by decide) Z (.inl ⟨rfl,rfl⟩) Z ?_);refine gA Z ?_;refine jw m (fun b=>⟨[(3,IT 2 (Hx m b)),(9,.ptr 1 0)],[(1,io (.cD .str Ba m b jp)),(2,io (zl m.length (Hx m b)))],3⟩) (fun b=>b.Nodup∧ ∀j∈b,j<m.length) [0] ⟨Z3,by simp⟩
  (zW (hI Z Z (.inl Z) Z (hO Z Z Z trivial))) fun b hJ=>?_
 obtain⟨u,y⟩:=hJ;have S:=xY u y;have F:=Hv m b;refine nV Z ac (fV Z Z Z Z Z (by decide) (fun D=>?_) fun j x B I=>?_)
 .have J:=Hw m b u y D;have G:Hx m b≠ []:=fun e=>by
   have:=J.length_eq;rw[e,Zx]at this;simp at this;omega
  rw[DT G,DU G];refine nV Z ac (bI [2] (MR Y (Hx m b) (by omega)) Z Z Z Z Z (congrArg (fun o=> [io o]) (bA _).symm) Z Z ?_);refine nV Z ac (cx (.inr Z) Z Z ((xH _ _).trans (by rw[sN J])) ?_);rw[jE,<-J.length_eq]
 .have A:=En m b j x B;have a0: ∀d,d=j::b->d.Nodup∧ ∀i∈d,i<m.length:=fun d e=>e▸⟨aam.2 ⟨I,u⟩,fun i hi=>(Zj.1 hi).elim (fun h=>h▸(Y4.1 B).1) (y i)⟩
  cases hl:Hx m b with
  |nil=>
   rw[hl,aaF]at A;refine gA Z (Cw ab Z Z Z Z Z Z Z Z Z (by simp;omega) (by simp) (mX Z) Z ?_);refine gA Z ?_;exact⟨j,x,B,I,a0 _ Z,[4],zM ⟨.of_eq (by rw[A];rfl),uh 2 _ Z,.refl _,rfl,ac⟩ (hI Z Z (.inr Z) Z (hO Z (by rw[A];rfl) Z ac))⟩
  |cons a r=>
   rw[hl]at A F;have b0:(r.length+1)<=m.length:=by simpa using ZS F S
   refine gA Z ⟨j,x,B,I,a0 _ Z,[4],zM ⟨.of_eq (by rw[A,Au];rfl),uh 2 _ Z,.refl _,rfl,ac⟩ (hI Z Z (.inr Z) Z (hO Z (by rw[A,Av,aG,Y6];rfl) Z ac))⟩
theorem KE(Y:kq)(m:GM)(hm:m.length<=100000000):Pure prog 51 [.iv (AZ m)] (.iv (strs (eM (m.map (·.1))))):=by
 refine ae ab func51 Z (by decide) ntmps51 Z (by simp) Z ?_;rcases Nat.eq_zero_or_pos m.length with h0|h0
 .have h0:=abl.1 h0;subst h0;refine gA Z (Gf ab 1 (fun k=>cM (([]:List aj).getD k em)) Z Z Z Z Z Z Z Z Z Z ?_);refine gA Z ?_;refine jw ([]:List ((KC.str).K×Option NM)) (fun _=>⟨[(3,.iv (.dh 1 0 (fun k=>cM (([]:List aj).getD k em)))),(9,.ptr 1 0)],[(1,io (.cD .str IW ([]:List ((KC.str).K×Option NM)) [] jp))],2⟩) (fun _=>True) [] ac
   (zW (hI Z Z (.inl Z) Z trivial)) fun b _=>?_
  refine nV Z ac (fV Z Z Z Z Z (by decide) (fun _=>?_) fun j x B _=>?_)
  .refine gA Z (bj (SF Y _) Z Z Z Z Z Z ?_);refine gA Z (zL ?_);exact .of_eq (show _=PV.iv (strs (eM [])) by rw[rj];rfl)
  .cases B
 refine gA Z (Ez ab m.length 0 Z Z Z Z Z Z Z Z Z h0 (by omega) (by show 16*m.length<=_;omega) Z (by decide) Z (.inl ⟨rfl,rfl⟩) Z ?_);refine gA Z ?_;refine jw m (fun b=>⟨[(3,IT 2 (Hx m b)),(9,.ptr 1 0)],[(1,io (.cD .str IW m b jp)),(2,io (zl m.length (Hx m b)))],3⟩) (fun b=>b.Nodup∧ ∀j∈b,j<m.length) [0] ⟨Z3,by simp⟩
  (zW (hI Z Z (.inl Z) Z (hO Z Z Z trivial))) fun b hJ=>?_
 obtain⟨u,y⟩:=hJ;have S:=xY u y;have F:=Hv m b;refine nV Z ac (fV Z Z Z Z Z (by decide) (fun D=>?_) fun j x B I=>?_)
 .have J:=Hw m b u y D;have G:Hx m b≠ []:=fun e=>by
   have:=J.length_eq;rw[e,Zx]at this;simp at this;omega
  rw[DT G,DU G];refine nV Z ac (bI [2] (MR Y (Hx m b) (by omega)) Z Z Z Z Z (congrArg (fun o=> [io o]) (bA _).symm) Z Z ?_);refine nV Z ac (cx (.inr Z) Z Z ((xH _ _).trans (by rw[sN J])) ?_);rw[jE,<-J.length_eq]
 .have A:=En m b j x B;have a0: ∀d,d=j::b->d.Nodup∧ ∀i∈d,i<m.length:=fun d e=>e▸⟨aam.2 ⟨I,u⟩,fun i hi=>(Zj.1 hi).elim (fun h=>h▸(Y4.1 B).1) (y i)⟩
  cases hl:Hx m b with
  |nil=>
   rw[hl,aaF]at A;refine gA Z (Cw ab Z Z Z Z Z Z Z Z Z (by simp;omega) (by simp) (mX Z) Z ?_);refine gA Z ?_;exact⟨j,x,B,I,a0 _ Z,[4],zM ⟨.of_eq (by rw[A];rfl),uh 2 _ Z,.refl _,rfl,ac⟩ (hI Z Z (.inr Z) Z (hO Z (by rw[A];rfl) Z ac))⟩
  |cons a r=>
   rw[hl]at A F;have b0:(r.length+1)<=m.length:=by simpa using ZS F S
   refine gA Z ⟨j,x,B,I,a0 _ Z,[4],zM ⟨.of_eq (by rw[A,Au];rfl),uh 2 _ Z,.refl _,rfl,ac⟩ (hI Z Z (.inr Z) Z (hO Z (by rw[A,Av,aG,Y6];rfl) Z ac))⟩
end
end Go.Proofs.YtflegjieadkonaaGreatDoor
namespace Go.Proofs.YtflegjieadkonaaGreatDoor
open Go Go.Al
def XG(b:Option Nat):IV:= .v (.map b)
def dvR(p:PV):Option Nat:=match p with
 | .iv (.v (.map b))=>b
 |_=>jp
abbrev RM:=List ((KC.str).K×Option Nat)
abbrev gO(m:RM):AO:= .map .str XG jp (.map jp) dvR m
abbrev CW:=Nat×Nat
def mw(l:List Decl)(B:List CW):RM:=ab2 (fun d b=>(d.name,io b.1)) l B
def eY(L:List (Nat×Nat×NM)):bd:=fun b=>(L.find? fun y=>y.1==b).map fun y=> .obj (ct y.2.2) y.2.1
theorem jV(L:List (Nat×Nat×NM)):(eY L).still:=by
 intro b i e h;unfold eY at h;cases hf:L.find? fun y=>y.1==b<;>rw[hf]at h<;>cases h
def rowsOf(l:List Decl)(B:List CW)(hs:List (aj×aj×Nat)):List (Nat×Nat×NM):=ab2 (fun d b=>(b.1,b.2,lK hs d.name)) l B
theorem I8{V:Type}{kc:KC}{ev:V->IV}{z:V}{b:Value}{d:PV->V}(x: ∀M,IR M (ev z) b):gi .gK (.map kc ev z b d []):=
 ⟨id,fun M N U w j u=>⟨#[],0,u,⟨rfl,by simp,by simp,by simp,by simp⟩,x M⟩⟩
structure BOK (l:List Decl) (i:Nat) (B:List CW):Prop where
 len:B.length=i
 nd:(B.map Zu).Nodup
theorem DN(l:List Decl):mw l []=[]:=by cases l<;>rfl
theorem xI(l:List Decl)(hs:List (aj×aj×Nat)):rowsOf l [] hs=[]:=by cases l<;>rfl
theorem FD(l:List Decl)(hs:List (aj×aj×Nat)):eY (rowsOf l [] hs)=bd.nil:=by rw[xI];rfl
theorem xi{α β γ:Type}[Inhabited α](f:α->β->γ): ∀(l:List α) (B:List β) (x:β),B.length<l.length->ab2 f l (B++ [x])=ab2 f l B++ [f (l.getD B.length em) x]
 |a::l,[],x,_=>by simp
 |a::l,b::B,x,h=>by
  have:=xi f l B x (by simpa using h);simp[this]
 | [],B,x,h=>absurd h (Z6 _)
theorem P6{B:List CW}{b e:Nat}(h:(B.map Zu).Nodup)(hb:b∉B.map Zu):((B++ [(b,e)]).map Zu).Nodup:=by
 rw[Y6,aaY];exact⟨h,by simp,fun u hu v d g=>hb (by simp at d;subst g;subst d;exact hu)⟩
theorem p7(hs:List (aj×aj×Nat)): ∀(l:List Decl) (B:List CW),B.length<=l.length->(rowsOf l B hs).map Zu=B.map Zu
 |_,[],_=>by simp[xI]
 |d::l,b::B,h=>by
  have:=p7 hs l B (by simpa using h);simp only[rowsOf,ab3,Zm]at this ⊢;rw[this]
 | [],b::B,h=>absurd h (by simp)
theorem IC{l:List Decl}{B:List CW}{hs:List (aj×aj×Nat)}{b:Nat}(d:B.length<=l.length)(h:eY (rowsOf l B hs) b=jp):b∉B.map Zu:=by
 rw[<-p7 hs l B d];intro j;obtain⟨y,u,rfl⟩:=ZD.1 j;unfold eY at h;rw[aa9,aat]at h;exact h y u (by simp)
theorem Dt(L:List (Nat×Nat×NM))(y:Nat×Nat×NM)(h:y.1∉L.map Zu):eY (L++ [y])=(eY L).put y.1 (.obj (ct y.2.2) y.2.1):=by
 funext c
 unfold eY bd.put;rw[abM];by_cases b:c=y.1
 .subst b;rw[am Z];have:L.find? (fun z=>z.1==y.1)=jp:=aat.2 fun z d=>by
   simp only[beq_iff_eq];exact fun e=>h (e▸abk d)
  rw[this];simp
 .rw[be b];have: ¬y.1=c:=fun e=>b e.symm;cases hf:L.find? (fun z=>z.1==c)<;>simp[this,hf]
theorem IB{l:List Decl}{B:List CW}{b e:Nat}(d:B.length<l.length)(hb:b∉B.map Zu):eY (rowsOf l (B++ [(b,e)]) [])=(eY (rowsOf l B [])).put b (.obj (ct []) e):=by
 have h:rowsOf l (B++ [(b,e)]) []=rowsOf l B []++ [(b,e,[])]:=xi _ l B (b,e) d;rw[h];exact Dt _ _ (by rw[p7 _ _ _ (Nat.le_of_lt d)];exact hb)
theorem DK: ∀(l:List Decl) (B:List CW),B.length<=l.length->(mw l B).map Zu=(l.take B.length).map Decl.name
 |_,[],_=>by simp[DN]
 |d::l,b::B,h=>by
  have:=DK l B (by simpa using h);simp only[mw,ab3,Zm,ZA,aan]at this ⊢;rw[this]
 | [],b::B,h=>absurd h (by simp)
theorem PR{V:Type}{m:List ((KC.str).K×V)}{s:aj}{v:V}(h:s∉m.map Zu):cF .str m s v=m++ [(s,v)]:=by
 induction m with
 |nil=>rfl
 |cons x r ih=>
  obtain⟨a,c⟩:=x;simp only[Zm,Zj,not_or]at h;have: ¬a=s:=fun e=>h.1 e.symm;simp only[cF,be this,ih h.2];rfl
theorem KY{l:List Decl}{B:List CW}{i b e:Nat}(hn:(l.map Decl.name).Nodup)(hi:B.length=i)(d:i<l.length):cF .str (mw l B) (l.getD i em).name (io b)=mw l (B++ [(b,e)]):=by
 subst hi;have h:mw l (B++ [(b,e)])=mw l B++ [((l.getD B.length em).name,io b)]:=xi _ l B (b,e) d;rw[h];apply PR;rw[DK l B (Nat.le_of_lt d)];intro u;have j:l.map Decl.name=(l.take B.length).map Decl.name++(l.drop B.length).map Decl.name:=by rw[<-Y6,abe]
 rw[j,aaY]at hn;refine hn.2.2 _ u _ (ZD.2 ⟨l.getD B.length em,?_,rfl⟩) Z;rw[YZ,Y3 d];exact List.mem_drop_iff_getElem.2 ⟨0,by simpa using d,by simp⟩
def mL(r:ah)(l:Lit):List (aj×aj×Nat):=(named l).map fun t=>(r.head.rel,t,gx l)
def uv(r:ah):List (aj×aj×Nat):=r.body.flatMap (mL r)
theorem HS: ∀{L:List (Nat×Nat×NM)} {j:Nat} {y:Nat×Nat×NM},(L.map Zu).Nodup->L[j]? =io y->L.find? (fun z=>z.1==y.1)=io y
 | [],_,_,_,h=>by simp at h
 |x::L,0,y,_,h=>by
  simp only[abJ,Y2]at h;subst h;simp
 |x::L,j+1,y,hn,h=>by
  rw[aa5]at h;rw[Zm,aam]at hn;have b: ¬x.1=y.1:=fun e=>hn.1 (e▸abk (Zv h));rw[ab4 (by simpa using b)];exact HS hn.2 h
theorem tZ{l:List Decl}{B:List CW}{hs:List (aj×aj×Nat)}{j:Nat}{d:Decl}{b:CW}(x:B.length=l.length)(hn:(B.map Zu).Nodup)(hd:l[j]? =io d)(hb:B[j]? =io b):eY (rowsOf l B hs) b.1=io (.obj (ct (lK hs d.name)) b.2):=by
 have h:(rowsOf l B hs)[j]? =io (b.1,b.2,lK hs d.name):=by
  unfold rowsOf;rw[ab7,hd,hb]
 have u:=HS (by rw[p7 hs l B (acf x)];exact hn) h;unfold eY;rw[u];rfl
theorem Ds{l:List Decl}{B:List CW}{hs:List (aj×aj×Nat)}{c:Nat}(b:B.length<=l.length)(h:c∉B.map Zu):eY (rowsOf l B hs) c=jp:=by
 rw[<-p7 hs l B b]at h;unfold eY;rw[aa9,aat];intro y d;simp only[beq_iff_eq];exact fun e=>h (e▸abk d)
theorem IA{l:List Decl}{B:List CW}{hs:List (aj×aj×Nat)}{j h:Nat}{d:Decl}{b:CW}{t:aj}(x:B.length=l.length)(hn:(B.map Zu).Nodup)(S:(l.map Decl.name).Nodup)(hd:l[j]? =io d)(hb:B[j]? =io b):
  (eY (rowsOf l B hs)).put b.1 (.obj (ct (JM (lK hs d.name) t h)) b.2)=eY (rowsOf l B (hs++ [(d.name,t,h)])):=by
 funext c
 unfold bd.put;by_cases A:c=b.1
 .subst A;rw[am Z,tZ x hn hd hb,rn,am Z]
 .rw[be A];by_cases J:c∈B.map Zu
  .obtain⟨b',y,rfl⟩:=ZD.1 J;obtain⟨i,D,rfl⟩:=aaa.1 y;have u:i<l.length:=by omega
   have F:i≠j:=fun e=>A (by subst e;rw[Y3 D]at hb;cases hb;rfl);rw[tZ x hn (Y3 u) (Y3 D),tZ x hn (Y3 u) (Y3 D),rn,be];intro e;have Y:=(Y4.1 hd)
   obtain⟨G,I⟩:=Y;apply F;refine(abz S (h₀:=by simpa using u) (h₁:=by simpa using G)).1 ?_;rw[abO,abO,I];exact e.symm
  .rw[Ds (acf x) J,Ds (acf x) J]
theorem Ui{l:List Decl}{B:List CW}{a:aj}(x:B.length=l.length)(u:(l.map Decl.name).Nodup)(ha:a∈l.map Decl.name): ∃(j:Nat) (d:Decl) (b:CW),l[j]? =io d∧B[j]? =io b∧d.name=a∧bU .str (mw l B) a jp=io b.1:=by
 induction l generalizing B with
 |nil=>cases ha
 |cons d l ih=>
  cases B with
  |nil=>cases x
  |cons b B=>
   by_cases h:d.name=a
   .exact⟨0,d,b,rfl,rfl,h,by simp[mw,bU,h]⟩
   .rw[Zm,aam]at u;rw[Zm,Zj]at ha;obtain⟨j,A,y,D,F,G,I⟩:=ih (by simpa using x) u.2 (ha.resolve_left fun e=>h e.symm);exact⟨j+1,A,y,D,F,G,by simpa[mw,bU,h]using I⟩
def dvG(_:PV):Option NM:=jp
theorem JZ{p:Prog}{B:List CW}(u:B.length=p.aD.length)(hn:(B.map Zu).Nodup){hs:List (aj×aj×Nat)}:Nv (eY (rowsOf p.aD B hs)) (gO (mw p.aD B)) (.map .str IW jp (.map jp) dvG (c4 p hs)):=by
 refine .map _ _ _ _ _ _ _ _ _ _ (by simp[c4,mw,u]) (fun j D x=>?_) fun M=> .v _
 obtain⟨d,hd,rfl⟩: ∃d,p.aD[j]? =io d∧D=(d.name,io (lK hs d.name)):=by
  unfold c4 at x;rw[Y9,Zb]at x;obtain⟨d,y,A⟩:=x;exact⟨d,y,A.symm⟩
 have b:j<B.length:=by rw[u];exact(Y4.1 hd).1
 refine⟨(d.name,io B[j].1),.map (io B[j].1),?_,rfl,rfl,?_⟩
 .unfold mw;rw[ab7,hd,Y3 b]
 .refine .map B[j].1 B[j].2 .str Ba 0 (.int .i64 0) Xv (lK hs d.name) ?_;exact tZ u hn hd (Y3 b)
theorem SH(hS:kq)(p:Prog)(hb:p.fit):Pure Tryz.prog 50 [ag p.c] (.bQ [.iv (yq p),pB (li ((dz p).1=0))]):=by
 refine ae ab Tryz.func50 Z (by decide) Tryz.ntmps50 Z (by simp) Z ?_;refine gA Z (zp (c24 p hb) ?_);refine zJ Z Z (fun k1=>?_) fun k1=>?_
 .have k1: ¬(dz p).1=0:=by simpa using k1
  rw[yq,be k1,decide_eq_false k1];exact zU Z
 have k1:(dz p).1=0:=by simpa using k1
 have hf:=CC k1;have v0:=hf.len;rw[yq,am k1,decide_eq_true k1];refine gM 1 Z ?_;refine HE ?_;refine aJ (bZ ?_);refine gA Z ?_;refine aJ (aJ (fS ⟨[(1,.ptr 0 0),(4,.mp 2),(20,.iv (cZ 4 p.aD Decl.c)),(21,pI p.aD.length),(22,pI 0)],[(0,io (an p.c)),(2,io (gO []))],3⟩ ?_ ?_))
 .refine gA Z (fJ [1] ?_);exact zW (zK (Ji Z (fun _=> .v _) Z ac))
 refine bS (j5 0 p.aD.length (Y8 _) (fun i (x:ULift.{1} (List CW))=>⟨[(1,.ptr 0 0),(4,.mp 2),(20,.iv (cZ 4 p.aD Decl.c)),(21,pI p.aD.length),(22,pI i)],[(0,io (an p.c)),(2,io (gO (mw p.aD x.down)))],3⟩)
  (fun i x Y=>BOK p.aD i x.down∧Y=eY (rowsOf p.aD x.down [])) ⟨[]⟩ [] ⟨⟨rfl,Z3⟩,(FD p.aD []).symm⟩
  (zW (zK (hM Z (DN p.aD).symm Z ac))) (fun _ _ _ h=>h.2▸jV _) fun i x Y hi hJ=>?_)
 obtain⟨hB,rfl⟩:=hJ;obtain⟨B⟩:=x;refine aJ (bZ ?_);refine gA Z ?_;refine aJ (dB Z (fun u=>dQ ?_) (fun u=>gG ?_))
 .have u:=ci u;refine aJ (bS (aJ (bZ ?_)));refine gA Z ?_;refine iL (bE 4 ?_);refine gA Z ?_;refine eF (xu (i:=4) (o':=ct []) Z (I8 ir)) fun t Y F=>?_;obtain⟨rfl,rfl⟩:=F;refine eF (It (i:=4) (d:=29) (jV _) Z Z ac Z) fun t Y F=>?_;obtain⟨b,e,o0,rfl,rfl⟩:=F;refine bE 1 ?_;refine gA Z ?_;refine fb (jv (bZ ?_));refine gA Z ?_;have a0:=IC (by rw[hB.len];exact hi) o0;exact⟨u,⟨B++ [(b,e)]⟩,[],⟨⟨by rw[Y1,hB.len];rfl,P6 hB.nd a0⟩,(IB (by rw[hB.len];exact u) a0).symm⟩,zW (zK (hM Z (KY hf.nodup hB.len u) Z ac))⟩
 have u:=co u;have J:B.length=p.aD.length:=by have:B.length=i:=hB.len;omega
 have c0:=hB.nd;clear hB;have x0:p.rules.length<=1000000000:=hb.2.1
 let G:Nat->List (aj×aj×Nat):=fun r=>(p.rules.take r).flatMap uv
 change GX _ _ [.code _] _ _ _;refine aJ (aJ (fS ⟨[(1,.ptr 0 0),(4,.mp 2),(32,.iv (cZ 5 p.rules ah.c)),(33,pI p.rules.length),(34,pI 0)],[(0,io (an p.c)),(2,io (gO (mw p.aD B)))],3⟩ ?_ ?_))
 .refine gA Z (fJ [] ?_);exact zW (zK (zC ac))
 refine bS (j5 0 p.rules.length (Y8 _) (fun i (_:PUnit.{2})=>⟨[(1,.ptr 0 0),(4,.mp 2),(32,.iv (cZ 5 p.rules ah.c)),(33,pI p.rules.length),(34,pI i)],[(0,io (an p.c)),(2,io (gO (mw p.aD B)))],3⟩)
  (fun i _ Y=>Y=eY (rowsOf p.aD B (G i))) ⟨⟩ [] Z (zW (zK (zC ac))) (fun _ _ _ h=>h▸jV _) fun n _ Y hn hJ=>?_)
 subst hJ;refine aJ (bZ ?_);refine gA Z ?_;refine aJ (dB Z (fun u=>dQ ?_) (fun u=>gG ?_));rotate_left
 .have u:=co u;have k0:G n=c5 p:=by show((p.rules.take n).flatMap uv)=_;rw[Za u];rfl
  rw[k0];change GX _ _ [.code _] _ _ _;refine Eu (BF (i:=2) (o':= .map .str IW jp (.map jp) dvG (c4 p (c5 p))) Z (JZ J c0)) fun t Y F=>?_;obtain⟨rfl,rfl⟩:=F;refine bZ ?_;refine gA Z (rE (.inr Z) Z (lB.map 2 Z (.done (.refl _))))
 have u:=ci u;have hR:p.rules.getD n em∈p.rules:=cT u;have f0:G (n+1)=G n++uv (p.rules.getD n em):=by show((p.rules.take (n+1)).flatMap uv)=_;rw[bz u,aa7];simp;rfl
 have b0:=hb.2.2 _ hR;have D:=b0.1;have y:=hf.yl _ hR;have A:=hf.lits _ hR;generalize m0:p.rules.getD n em=R at hR f0 b0 D y A;refine aJ (bS (aJ (bZ ?_)));refine gA Z ?_;refine aJ (fS ⟨[(1,.ptr 0 0),(4,.mp 2),(8,.ptr 3 0),(32,.iv (cZ 5 p.rules ah.c)),(33,pI p.rules.length),(34,pI n),(39,.iv (lits R.body)),(40,pI R.body.length),(41,pI 0)],[(0,io (an p.c)),(2,io (gO (mw p.aD B))),(3,io (an R.c))],4⟩ ?_ ?_)
 .refine gA Z (fJ [] ?_);subst m0;exact zW (zK (zC (zK ac)))
 have s0:R.body.length<=10000000:=by have:=Lit.au R.body;unfold ah.size at D;omega
 refine bS (j5 0 R.body.length (Y8 _) (fun i (_:PUnit.{2})=>⟨[(1,.ptr 0 0),(4,.mp 2),(8,.ptr 3 0),(32,.iv (cZ 5 p.rules ah.c)),(33,pI p.rules.length),(34,pI n),(39,.iv (lits R.body)),(40,pI R.body.length),(41,pI i)],[(0,io (an p.c)),(2,io (gO (mw p.aD B))),(3,io (an R.c))],4⟩)
  (fun i _ Y=>Y=eY (rowsOf p.aD B (G n++(R.body.take i).flatMap (mL R)))) ⟨⟩ [] (by simp) (zW (zK (zC (zK ac)))) (fun _ _ _ h=>h▸jV _) fun i _ Y t0 hJ=>?_)
 subst hJ;refine aJ (bZ ?_);refine gA Z ?_;refine aJ (dB Z (fun I=>dQ ?_) (fun I=>gG ?_));rotate_left
 .have I:=co I;rw[Za I,show G n++R.body.flatMap (mL R)=G (n+1) from f0.symm];change GX _ _ (.code _::_) _ _ _;refine bZ ?_;refine gA Z ⟨u,⟨⟩,[],rfl,zW (zK (zC ac))⟩
 have I:=ci I;have hl:R.body.getD i em∈R.body:=cT I;have g0:(R.body.take (i+1)).flatMap (mL R)=(R.body.take i).flatMap (mL R)++mL R (R.body.getD i em):=by rw[bz I,aa7];simp
 have e0:(R.body.getD i em).size<=10000000:=by have:=Lit.aI R.body i I;unfold ah.size at D;omega
 have d0:=A _ hl;generalize q0:R.body.getD i em=l at hl g0 e0 d0;refine aJ (bS (aJ (bZ ?_)));refine gA Z ?_;refine aJ (fS ⟨[(1,.ptr 0 0),(4,.mp 2),(8,.ptr 3 0),(10,.ptr 4 0),(32,.iv (cZ 5 p.rules ah.c)),(33,pI p.rules.length),(34,pI n),(39,.iv (lits R.body)),(40,pI R.body.length),(41,pI i),(46,.iv (strs (named l))),(47,pI (named l).length),(48,pI 0)],[(0,io (an p.c)),(2,io (gO (mw p.aD B))),(3,io (an R.c)),(4,io (an l.c))],5⟩ ?_ ?_)
 .subst q0;refine gA Z (zp (G4 (R.body.getD i em) (by omega)) ?_);refine gA Z (fJ [] ?_);exact zW (zK (zC (zK (zK ac))))
 have w0:=kz l
 refine bS (j5 0 (named l).length (Y8 _) (fun k (_:PUnit.{2})=>⟨[(1,.ptr 0 0),(4,.mp 2),(8,.ptr 3 0),(10,.ptr 4 0),(32,.iv (cZ 5 p.rules ah.c)),(33,pI p.rules.length),(34,pI n),(39,.iv (lits R.body)),(40,pI R.body.length),(41,pI i),(46,.iv (strs (named l))),(47,pI (named l).length),(48,pI k)],[(0,io (an p.c)),(2,io (gO (mw p.aD B))),(3,io (an R.c)),(4,io (an l.c))],5⟩)
  (fun k _ Y=>Y=eY (rowsOf p.aD B ((G n++(R.body.take i).flatMap (mL R))++((named l).take k).map fun t=>(R.head.rel,t,gx l)))) ⟨⟩ [] (by simp) (zW (zK (zC (zK (zK ac))))) (fun _ _ _ h=>h▸jV _) fun k _ Y hk hJ=>?_)
 subst hJ;refine aJ (bZ ?_);refine gA Z ?_;refine aJ (dB Z (fun h3=>dQ ?_) (fun h3=>gG ?_));rotate_left
 .have h3:=co h3;have eX:(G n++(R.body.take i).flatMap (mL R))++(named l).map (fun t=>(R.head.rel,t,gx l))=G n++(R.body.take (i+1)).flatMap (mL R):=by rw[Zc,g0];rfl
  rw[Za h3,eX];change GX _ _ (.code _::_) _ _ _;refine bZ ?_;refine gA Z ⟨I,⟨⟩,[],rfl,zW (zK (zC (zK ac)))⟩
 have h3:=ci h3;obtain⟨j,d,b,hd,i0,p0,j0⟩:=Ui J hf.nodup y;have hX:=tZ (hs:=(G n++(R.body.take i).flatMap (mL R))++((named l).take k).map fun t=>(R.head.rel,t,gx l)) J c0 hd i0;have S:=IA (hs:=(G n++(R.body.take i).flatMap (mL R))++((named l).take k).map fun t=>(R.head.rel,t,gx l)) (t:=(named l).getD k em) (h:=gx l) J c0 hf.nodup hd i0;rw[p0]at hX S;have r0:((G n++(R.body.take i).flatMap (mL R))++((named l).take k).map fun t=>(R.head.rel,t,gx l))++ [(R.head.rel,(named l).getD k em,gx l)]=(G n++(R.body.take i).flatMap (mL R))++((named l).take (k+1)).map fun t=>(R.head.rel,t,gx l):=by
  rw[bz h3,Y6,Zc];rfl
 rw[r0]at S;generalize(G n++(R.body.take i).flatMap (mL R))++((named l).take k).map (fun t=>(R.head.rel,t,gx l))=hs at hX S;refine aJ (bS (aJ (bZ ?_)));refine gA Z ?_;refine aJ (bZ ?_);refine gA Z ?_;refine aJ (fS ⟨[(1,.ptr 0 0),(4,.mp 2),(8,.ptr 3 0),(10,.ptr 4 0),(32,.iv (cZ 5 p.rules ah.c)),(33,pI p.rules.length),(34,pI n),(39,.iv (lits R.body)),(40,pI R.body.length),(41,pI i),(46,.iv (strs (named l))),(47,pI (named l).length),(48,pI k),(12,pS ((named l).getD k em)),(13,pI (gx l))],[(0,io (an p.c)),(2,io (gO (mw p.aD B))),(3,io (an R.c)),(4,io (an l.c))],5⟩ ?_ ?_)
 .refine zJ Z Z (fun h4=>?_) fun h4=>?_
  .have h4:l.kind=1:=zT h4;refine gA Z (fJ [] ?_);exact zM (bv (bv (bv (bv (bv (bv (bv (bv (bv (bv (bv (bv (bv (bv ⟨.of_eq (by rw[gx,am h4];rfl),rfl,ac⟩)))))))))))))) (zK (zC (zK (zK ac))))
  .have h4: ¬l.kind=1:=zF h4;refine gA Z (fJ [] ?_);exact zM (bv (bv (bv (bv (bv (bv (bv (bv (bv (bv (bv (bv (bv (bv ⟨.of_eq (by rw[gx,be h4];rfl),rfl,ac⟩)))))))))))))) (zK (zC (zK (zK ac))))
 refine iL (bE 12 ?_);refine gA Z ?_;refine eF (Is (d:=65) hX (show PV.iv (.v (.map (bU .str (mw p.aD B) R.head.rel jp)))=_ by rw[j0])) fun t Y F=>?_;obtain⟨rfl,rfl⟩:=F;refine eF (Kf (b:=b.1) (j:=5) (e:=b.2) (d:=59) (p:= .mp 5) (bd.dx _ _ _) fun M N U x hu n0 _ hv=>?_) fun t Y F=>?_
 .have hv:VR M N U (PV.iv (.v (.map (bU .str (mw p.aD B) R.head.rel jp)))) x:=hv;rw[j0]at hv;cases hv with
  |iv _ _ hi=>cases hi with
   |v=>rw[<-n0];exact .mp 5 hu
 obtain⟨rfl,rfl⟩:=F;refine bE 4 ?_;refine gA Z ?_;refine fb (jv (Eu (xv (b:=b.1) (e:=b.2) (i:=5) (o:=ct (JM (lK hs R.head.rel) ((named l).getD k em) (gx l))) (bd.dx _ _ _) Z Z ac) fun t Y F=>?_));obtain⟨rfl,rfl⟩:=F;rw[bd.Hg];refine bZ ?_;refine gA Z ⟨h3,⟨⟩,[],S,zW (zK (zC (zK (zK ac))))⟩
end Go.Proofs.YtflegjieadkonaaGreatDoor
namespace Go.Proofs.YtflegjieadkonaaGreatDoor
open Go Go.Al Go.Proofs.Tryz Go.Tj
def sK(e:Option aj)(i:Nat)(l:List aj):PV:=match e,l with
 |some _,[]=> .sl i 1 0 1
 |_,l=> .sl i 0 l.length 1
def sL(e:Option aj)(l:List aj):AO:=match e,l with
 |some y,[]=> .row 1 [[pS y]]
 |_,l=>aG 1 l cM
theorem od(σ:Nat->Nat)(e:Option aj)(i:Nat)(l:List aj):(sK e i l).db σ=sK e (σ i) l:=by cases e<;>cases l<;>rfl
theorem oe(σ:Nat->Nat)(e:Option aj)(l:List aj):(sL e l).db σ=sL e l:=by
 cases e<;>cases l<;>first|rfl|exact bA σ
theorem Dm{n i:Nat}(h:Zk i n=kw)(e:Option aj)(l:List aj):(sK e i l).low n=kw:=by cases e<;>cases l<;>exact h
theorem Dq(n:Nat)(e:Option aj)(l:List aj):(sL e l).low n:=by
 cases e with
 |none=>exact cK n
 |some y=>
  cases l with
  |nil=>
   intro k e b;cases k with
   |zero=>cases b;rfl
   |succ k=>cases b
  |cons=>exact cK n
theorem Dl{e:Option aj}{i:Nat}{l:List aj}(h:e=jp∨l≠ []):sK e i l= .sl i 0 l.length 1:=by
 cases e with
 |none=>rfl
 |some y=>cases l with
  |nil=>exact absurd Z (h.resolve_left (by simp))
  |cons=>rfl
theorem Dn{e:Option aj}{l:List aj}(h:e=jp∨l≠ []):sL e l=aG 1 l cM:=by
 cases e with
 |none=>rfl
 |some y=>cases l with
  |nil=>exact absurd Z (h.resolve_left (by simp))
  |cons=>rfl
structure TW where
 low:NM
 on:NM
 ring:NM
 stack:List aj
 wG:Option aj
def TW.st(w:TW):St aj:=⟨fun a=>bU .str w.low a 0,fun a=>bU .str w.on a 0,fun a=>bU .str w.ring a 0,w.low.length,w.stack⟩
structure TW.Ok (V:List aj) (w:TW):Prop where
 nz: ∀a∈w.low.map Zu,bU .str w.low a 0≠0
 nd:(w.low.map Zu).Nodup
 sub: ∀a∈w.low.map Zu,a∈V
abbrev C6:PV:= .dt (.func 92) [] [.ptr 0 0,.ptr 1 0,.ptr 2 0,.ptr 3 0,.ptr 4 0,.ptr 5 0]
abbrev tO(G:IV)(w:TW):List AO:=[.cells [.mp 6],.cells [.mp 7],.cells [sK w.wG 9 w.stack],.cells [.iv G],.cells [C6],.cells [.mp 8],ct w.low,ct w.on,ct w.ring,sL w.wG w.stack]
abbrev tH(G:IV)(w:TW)(k:Nat):AH:=[(0,io (.cells [.mp 6])),(1,io (.cells [.mp 7])),(2,io (.cells [sK w.wG k w.stack])),(3,io (.cells [.iv G])),(4,io (.cells [C6])),(5,io (.cells [.mp 8])),
 (6,io (ct w.low)),(7,io (ct w.on)),(8,io (ct w.ring)),(k,io (sL w.wG w.stack))]
theorem xl{n k:Nat}{σ:Nat->Nat}{h:AH}{G:IV}{w:TW}{B:PV}{x y A:NM}{o:AO}(b:aaV 9 n=kw)(bk:Zk k n=kw)(hs: ∀i,i<9->σ i=i)
  (g0:h.get 0=io (.cells [.mp 6])) (g1:h.get 1=io (.cells [.mp 7])) (g2:h.get 2=io (.cells [B])) (g3:h.get 3=io (.cells [.iv G])) (g4:h.get 4=io (.cells [C6])) (g5:h.get 5=io (.cells [.mp 8]))
  (g6:h.get 6=io (ct x)) (g7:h.get 7=io (ct y)) (g8:h.get 8=io (ct A)) (g9:h.get (σ k)=io o)
  (e2:B=sK w.wG (σ k) w.stack) (D:x=w.low) (F:y=w.on) (I:A=w.ring) (J:gi o (sL w.wG w.stack)):n6 n σ h (tH G w k):=by
 have S:=YY b;have bk:=YY bk;have hb: ∀i,i<9->Zk i n=kw:=fun i d=>ZI (by omega);subst e2 D F I;have r: ∀i,i<9->PV.mp (σ i)=PV.mp i:=fun i d=>by rw[hs i d]
 have j: ∀i,i<9->PV.ptr (σ i) 0=PV.ptr i 0:=fun i d=>by rw[hs i d]
 have u: ∀i,i<9->bq n [PV.mp i]=kw:=fun i d=>by simp only[bq,PV.low,hb i d]
 refine⟨⟨_,by rw[hs 0 (by omega)];exact g0,.of_eq (by simp only[AO.db,dL,PV.db,r 6 (by omega)])⟩,by omega,u 6 (by omega),
  ⟨_,by rw[hs 1 (by omega)];exact g1,.of_eq (by simp only[AO.db,dL,PV.db,r 7 (by omega)])⟩,by omega,u 7 (by omega),
  ⟨_,by rw[hs 2 (by omega)];exact g2,.of_eq (by simp only[AO.db,dL,od])⟩,by omega,by simp only[AO.low,bq,Dm (ZI bk)],
  ⟨_,by rw[hs 3 (by omega)];exact g3,.of_eq Z⟩,by omega,rfl,
  ⟨_,by rw[hs 4 (by omega)];exact g4,.of_eq (by simp only[AO.db,dL,PV.db,j 0 (by omega),j 1 (by omega),j 2 (by omega),j 3 (by omega),j 4 (by omega),j 5 (by omega)])⟩,by omega,by simp only[AO.low,bq,PV.low,hb 0 (by omega),hb 1 (by omega),hb 2 (by omega),hb 3 (by omega),hb 4 (by omega),hb 5 (by omega)],
  ⟨_,by rw[hs 5 (by omega)];exact g5,.of_eq (by simp only[AO.db,dL,PV.db,r 8 (by omega)])⟩,by omega,u 8 (by omega),
  ⟨_,by rw[hs 6 (by omega)];exact g6,.of_eq Z⟩,by omega,ac,
  ⟨_,by rw[hs 7 (by omega)];exact g7,.of_eq Z⟩,by omega,ac,
  ⟨_,by rw[hs 8 (by omega)];exact g8,.of_eq Z⟩,by omega,ac,
  ⟨_,g9,by rw[oe];exact J⟩,bk,Dq _ _ _,ac⟩
theorem BI(m:NM)(b:aj)(v:Int):(fun x=>bU .str (cF .str m b v) x 0)=BB (fun x=>bU .str m x 0) b v:=by
 funext x
 rw[kR,BB];by_cases h:b=x
 .rw[am h,am h.symm]
 .rw[be h,be fun e=>h e.symm]
def TW.push(w:TW)(a:aj):TW:=⟨cF .str w.low a ((w.low.length:Int)+1),cF .str w.on a 1,w.ring,w.stack++ [a],jp⟩
theorem TW.key{V:List aj}{w:TW}(h:w.Ok V){a:aj}(h0:w.st.low a=0):a∉w.low.map Zu:=fun g=>h.nz a g h0
theorem vR{m:NM}{a:aj}{v:Int}(h:a∉m.map Zu):(cF .str m a v).length=m.length+1:=by
 have:=congrArg abt (dW (v:=v) h);simpa using this
theorem TW.PS{V:List aj}{w:TW}(h:w.Ok V){a:aj}(h0:w.st.low a=0):(w.push a).st=Go.Tj.push w.st a:=
 St.eq (BI _ _ _) (BI _ _ _) Z (vR (TW.key h h0)) Z
theorem TW.PU{V:List aj}{w:TW}(h:w.Ok V){a:aj}(h0:w.st.low a=0)(ha:a∈V):(w.push a).Ok V:=by
 have d:=TW.key h h0;refine⟨fun x b=>?_,?_,fun x b=>?_⟩
 .show bU .str (cF .str w.low a _) x 0≠0;rw[kR];split
  .omega
  .rename_i j;have b:x∈(cF .str w.low a ((w.low.length:Int)+1)).map Zu:=b;rw[dW d,Zf,Zd]at b;exact h.nz x (b.resolve_right fun e=>j e.symm)
 .show((cF .str w.low a _).map Zu).Nodup;rw[dW d,aaY];exact⟨h.nd,by simp,fun u hu v y e=>d (by rw[Zd]at y;subst e;subst y;exact hu)⟩
 .have b:x∈(cF .str w.low a ((w.low.length:Int)+1)).map Zu:=b;rw[dW d,Zf,Zd]at b;rcases b with b|rfl
  .exact h.sub x b
  .exact ha
theorem TW.len{V:List aj}{w:TW}(h:w.Ok V):w.low.length<=V.length:=by
 have:=aaH h.nd (l₂:=V) h.sub;simpa using this
theorem TW.Ac{V:List aj}{w:TW}(h:w.Ok V){succ:aj->List aj}{path:List aj}(hI:Inv succ path w.st):w.stack.length<=V.length:=by
 refine aaH (l₂:=V) ?_ fun y A=>?_
 .refine ace ?_ hI.Vl;intro x y u e;subst e;omega
 .have b:=(hI.Ac y).2 A;have d:w.st.low y≠0:=xQ hI b;refine h.sub y (aah fun j=>d (yd j))
def TW.pop(w:TW)(u:List aj)(b:aj)(d:Int):TW:=⟨w.low,cF .str w.on b 2,cF .str w.ring b d,u,io b⟩
theorem TW.K2{w:TW}{u:List aj}{b:aj}(h:w.stack=u++ [b])(d:Int):(w.pop u b d).st=B1 d w.st:=by
 have j:w.st.stack.getLast? =io b:=by show w.stack.getLast? =_;rw[h];simp
 have x:w.st.stack.dropLast=u:=by show w.stack.dropLast=_;rw[h];simp
 unfold B1;rw[j];exact St.eq Z (BI _ _ _) (BI _ _ _) Z x.symm
theorem TW.Um{V:List aj}{w:TW}(h:w.Ok V)(u:List aj)(b:aj)(d:Int):(w.pop u b d).Ok V:=⟨h.nz,h.nd,h.sub⟩
theorem V8(b:kq){p:Prog}(hf:nj p)(d:(c5 p).length<=100000000)(a:aj):Pure prog 52 [.iv (CU (lK (c5 p) a))] (.iv (strs (bK p a))):=by
 rw[<-Di hf];exact KD b _ (ZS (KQ _ _) d)
abbrev Vx(a:aj):List PV:=[pS a,.ptr 0 0,.ptr 1 0,.ptr 2 0,.ptr 3 0,.ptr 4 0,.ptr 5 0]
abbrev vF(a:aj):AF:=[(0,pS a),(1,.ptr 0 0),(2,.ptr 1 0),(3,.ptr 2 0),(4,.ptr 3 0),(5,.ptr 4 0),(6,.ptr 5 0)]
def Ve(p:Prog)(f:Nat):Prop:= ∀(path:List aj) (a:aj) (w:TW),w.Ok (ns p)->Inv (bK p) path w.st->w.st.low a=0->a∈ns p->(∀g∈path,pT (bK p) g a)->mb (ns p) w.st<=f->
 Go.Al.Fn prog 92 (Vx a) (tO (AZ (c4 p (c5 p))) w) fun r h n=> ∃b:TW,b.Ok (ns p)∧b.st=(fk (bK p) f a w.st).2∧r=pI (fk (bK p) f a w.st).1∧h=tH (AZ (c4 p (c5 p))) b 10∧n=11
theorem LW(p:Prog)(hs:List (aj×aj×Nat)){a:aj}(h:a∈p.aD.map Decl.name):(IW (bU .str (c4 p hs) a jp)).pv= .iv (CU (lK hs a)):=by rw[LX p hs h];rfl
theorem TM(G:IV)(w:TW){n:Nat}:[io (AO.cells [PV.mp 6]),io (.cells [.mp 7]),io (.cells [sK w.wG 11 w.stack]),io (.cells [.iv G]),io (.cells [C6]),io (.cells [.mp 8]),io (ct w.low),io (ct w.on),io (ct w.ring),io (sL w.wG w.stack)]=
  (tO G w).map fun o=>io (o.db (sig [0,1,2,3,4,5,6,7,8,11] n)):=by
 have b:=od (sig [0,1,2,3,4,5,6,7,8,11] n) w.wG 9 w.stack;have d:=oe (sig [0,1,2,3,4,5,6,7,8,11] n) w.wG w.stack;show _=[io (AO.cells [PV.mp 6]),io (.cells [.mp 7]),io (.cells [(sK w.wG 9 w.stack).db (sig [0,1,2,3,4,5,6,7,8,11] n)]),io (.cells [.iv G]),io (.cells [C6]),io (.cells [.mp 8]),io (ct w.low),io (ct w.on),io (ct w.ring),io ((sL w.wG w.stack).db (sig [0,1,2,3,4,5,6,7,8,11] n))]
 rw[b,d];rfl
theorem Ki(u:List aj)(b:aj):((u++ [b]).map fun x=>(cM x).map PV.iv)[0+((((u.length+1:Nat):Int)-1).toNat)]? =io [pS b]:=by
 rw[Zq,show(((u.length+1:Nat):Int)-1).toNat=u.length by omega];simp[cM]
theorem Kj(i:Nat)(u:List aj)(b:aj):(u.length=0∧sK (io b) i u= .sl i 1 0 1)∨(0<u.length∧sK (io b) i u= .sl i 0 u.length 1):=by
 cases u with
 |nil=>exact .inl ⟨rfl,rfl⟩
 |cons x r=>exact .inr ⟨by simp,rfl⟩
theorem Dp(u:List aj)(b:aj):gi (aG 1 (u++ [b]) cM) (sL (io b) u):=by
 cases u with
 |nil=>exact .of_eq Z
 |cons x r=>
  have e:sL (io b) (x::r)= .row 1 (((x::r++ [b]).map fun y=>(cM y).map PV.iv).take (x::r).length):=by
   rw[<-List.map_take,List.take_left];rfl
  rw[e];exact .take
theorem wT{p:Prog}: ∀a∈ns p,∀b∈bK p a,b∈ns p:=fun _ _ _ h=>(ZF.1 h).1
theorem vl{p:Prog}(hf:nj p):(ns p).length<=64:=by
 have:=hf.len;rw[ns,jE,Zx];exact this
theorem JX(hS:kq){p:Prog}(hf:nj p)(hl:(c5 p).length<=100000000)(f:Nat)(ih:Ve p f):Ve p (f+1):=by
 intro path a w j0 hI h0 S hp hw;have i0:=vl hf;have f1:=nn hI.pG S h0;have n1:=TW.len j0;have q1:=TW.Ac j0 hI;have r0:a∈p.aD.map Decl.name:=by rw[ns,gq]at S;exact S
 have D:=TW.PS j0 h0;have v0:=TW.PU j0 h0 S;have p1:=aae (eg p a) (ns p);refine yy ab func92 Z (by decide) ntmps92 Z (by simp) ?_;refine go_cut 6 (fun _:Unit=>⟨(9,pI ((w.low.length:Int)+1))::(10,pI ((w.low.length:Int)+1))::vF a,tH (AZ (c4 p (c5 p))) (w.push a) 10,11⟩) Z ?_ ?_
 .have p0:bU .str (cF .str w.low a ((w.low.length:Int)+1)) a 0=(w.low.length:Int)+1:=by rw[kR,am Z]
  by_cases hu:w.wG=jp∨w.stack≠ []
  .rw[show tO (AZ (c4 p (c5 p))) w=[.cells [.mp 6],.cells [.mp 7],.cells [.sl 9 0 w.stack.length 1],.cells [.iv (AZ (c4 p (c5 p)))],.cells [C6],.cells [.mp 8],ct w.low,ct w.on,ct w.ring,aG 1 w.stack cM] by
    unfold tO;rw[Dl hu,Dn hu]]
   refine gA Z (fx () [11] ?_);exact wk Z Z Z ⟨.of_eq (congrArg pI p0),rfl,.of_eq (congrArg pI p0),rfl,bv (bv (bv (bv (bv (bv (bv ac))))))⟩
    (xl (w:=w.push a) Z Z (fun i Y=>gz (by show i<10;omega)) Z Z Z Z Z Z Z Z Z Z (by show _=PV.sl 11 0 (w.stack++ [a]).length 1;rw[Y1];rfl) Z Z Z (.of_eq (by show _=aG 1 (w.stack++ [a]) cM;rw[aG,Y6];rfl))) Z
  .obtain⟨y,hy,w0⟩: ∃y,w.wG=io y∧w.stack=[]:=by
    cases hg:w.wG with
    |none=>exact absurd (.inl hg) hu
    |some y=>exact⟨y,rfl,aah fun h=>hu (.inr h)⟩
   rw[show tO (AZ (c4 p (c5 p))) w=[.cells [.mp 6],.cells [.mp 7],.cells [.sl 9 1 0 1],.cells [.iv (AZ (c4 p (c5 p)))],.cells [C6],.cells [.mp 8],ct w.low,ct w.on,ct w.ring,.row 1 [[pS y]]] by
    unfold tO;rw[hy,w0];rfl]
   refine gA Z (Cw ab Z Z Z Z Z Z Z Z Z (by simp) (by simp) (mX Z) Z ?_);refine gA Z (fx () [11] ?_);exact wk Z Z Z ⟨.of_eq (congrArg pI p0),rfl,.of_eq (congrArg pI p0),rfl,bv (bv (bv (bv (bv (bv (bv ac))))))⟩
    (xl (w:=w.push a) Z Z (fun i Y=>gz (by show i<10;omega)) Z Z Z Z Z Z Z Z Z Z (by show _=PV.sl 11 0 (w.stack++ [a]).length 1;rw[w0];rfl) Z Z Z (.of_eq (by show _=aG 1 (w.stack++ [a]) cM;rw[w0];rfl))) Z
 intro _;have Y:=DO hI h0 hp;rw[<-D]at f1 Y;have hm:((w.push a).low.length:Int)=(w.low.length:Int)+1:=by
  have:=vR (v:=(w.low.length:Int)+1) (TW.key j0 h0);show(((cF .str w.low a _).length:Nat):Int)=_;rw[this];omega
 have la:(w.push a).st.low a=(w.st.n:Int)+1:=by rw[D];exact me _ _ _
 have oa:(w.push a).st.on a=1:=by rw[D];exact me _ _ _
 have i1:gH (bK p) path a w.st [] ((w.st.n:Int)+1,Go.Tj.push w.st a) []:=
  ⟨D▸Y,.refl _,rfl,fun y hy=>(nomatch hy),abb _,fun y hy=>(nomatch hy),fun z hz=>(nomatch hz),fun z hz=>(nomatch hz),⟨a,D▸oa,D▸la,.refl _⟩⟩
 have m0:=fun pa b s=>sD (succ:=bK p) wT f pa b s
 let I:Nat->Int×St aj:=fun i=>((bK p a).take i).foldl (Go.Tj.fC (fk (bK p) f)) ((w.st.n:Int)+1,Go.Tj.push w.st a)
 have g0: ∀i,∃t,gH (bK p) path a w.st ((bK p a).take i) (I i) t:=fun i=>by
  have:=vp wT m0 hI h0 S (by rw[<-D];omega) ((bK p a).take i) [] _ [] i1 fun b hb=>abv hb;rwa[aaF]at this
 refine gM 5 Z (Qp ab (.iv (CU (lK (c5 p) a))) Z Z Z Z (LW p _ r0) Z ?_);refine gA Z (zp (V8 hS hf hl a) ?_);refine gA Z ?_;refine ux 0 (bK p a).length (Y8 _) (fun i A=>⟨(9,pI ((w.low.length:Int)+1))::(10,pI (I i).1)::(32,.iv (strs (bK p a)))::(33,pI (bK p a).length)::(34,pI i)::vF a,tH (AZ (c4 p (c5 p))) A 11,12⟩)
  (fun i A=>A.Ok (ns p)∧A.st=(I i).2) (w.push a) [10] ⟨v0,D⟩
  (wk Z Z Z (bv (bv (bv (bv (bv (bv (bv (bv (bv (bv (bv (bv trivial))))))))))))
   (xl Z Z (fun i Y=>gz (by show i<11;omega)) Z Z Z Z Z Z Z Z Z Z Z Z Z Z (.refl _)) Z) fun i A t1 hJ=>?_
 obtain⟨B,x⟩:=hJ;obtain⟨t2,j⟩:=g0 i;have o1:(bK p a).length<=64:=ZS p1 i0;refine zJ Z Z (fun h1=>?_) fun h1=>?_
 .have h1:=ci h1;have d0:I (i+1)=Go.Tj.fC (fk (bK p) f) (I i) ((bK p a).getD i em):=cI h1;have hb:((bK p a).getD i em)∈bK p a:=cT h1;have d:Go.Tj.fC (fk (bK p) f) (I i) ((bK p a).getD i em)=if A.st.low ((bK p a).getD i em)=0 then(min (I i).1 (fk (bK p) f ((bK p a).getD i em) A.st).1,(fk (bK p) f ((bK p a).getD i em) A.st).2)
    else if A.st.on ((bK p a).getD i em)=1 then(min (I i).1 (A.st.low ((bK p a).getD i em)),A.st) else(I i):=by rw[x];rfl
  refine zJ Z Z (fun h2=>?_) fun h2=>?_
  .have h2:A.st.low ((bK p a).getD i em)=0:=zT h2;rw[am h2]at d;have b0: ∀g∈path++ [a],pT (bK p) g ((bK p a).getD i em):=by
    intro g hg;have G:(I i).2.on a=1:=(j.inv.Ac a).2 (by rw[j.stack];simp);refine .step (j.inv.dn g hg a G ?_) hb;rcases Zf.1 hg with e|e
    .have:=j.pa hI h0 g e;omega
    .rw[Zd]at e;rw[e];exact abb _
   have s1:mb (ns p) A.st<=f:=by
    have:=zQ (V:=ns p) j.le;rw[x];rw[D]at f1;omega
   refine gA Z (HK [0,1,2,3,4,5,6,7,8,11] (ih (path++ [a]) ((bK p a).getD i em) A B (x▸j.inv) h2 (wT a S ((bK p a).getD i em) hb) b0 s1) Z Z Z Z Z (TM _ _) Z ?_);rintro r h' n' ⟨w3,hok3,hst3,rfl,rfl,rfl⟩;refine⟨_,rfl,?_⟩;refine gA Z ⟨h1,w3,[12],⟨hok3,by rw[d0,d];exact hst3⟩,zM (bv ⟨.of_eq (by rw[d0,d];rfl),rfl,bv (bv (bv (bv (bv (bv (bv (bv (bv (bv ac)))))))))⟩) (xl Z Z (fun i Y=>gz (by show i<11;omega)) Z Z Z Z Z Z Z Z Z Z (od _ _ _ _) Z Z Z (.of_eq (oe _ _ _)))⟩
  .have h2: ¬A.st.low ((bK p a).getD i em)=0:=zF h2;rw[be h2]at d;refine zJ Z Z (fun h3=>?_) fun h3=>?_
   .have h3:A.st.on ((bK p a).getD i em)=1:=zT h3;rw[am h3]at d;refine gA Z ⟨h1,A,[11],⟨B,by rw[d0,d]⟩,zM (bv ⟨.of_eq (by rw[d0,d];rfl),rfl,bv (bv (bv (bv (bv (bv (bv (bv (bv (bv ac)))))))))⟩) (xl Z Z (fun i Y=>gz (by show i<11;omega)) Z Z Z Z Z Z Z Z Z Z Z Z Z Z (.refl _))⟩
   .have h3: ¬A.st.on ((bK p a).getD i em)=1:=zF h3;rw[be h3]at d;refine gA Z ⟨h1,A,[11],⟨B,by rw[d0,d];exact x⟩,zM (bv ⟨.of_eq (by rw[d0,d];rfl),rfl,bv (bv (bv (bv (bv (bv (bv (bv (bv (bv ac)))))))))⟩) (xl Z Z (fun i Y=>gz (by show i<11;omega)) Z Z Z Z Z Z Z Z Z Z Z Z Z Z (.refl _))⟩
 .have h1:=co h1;have l1:i=(bK p a).length:=by omega
  subst l1;have o0:fk (bK p) (f+1) a w.st=wL a ((w.st.n:Int)+1) (I (bK p a).length):=by
   show wL a _ ((bK p a).foldl _ _)=wL a _ (((bK p a).take (bK p a).length).foldl _ _);rw[aaI]
  have a0: ∀(w':TW) (k:Nat) (u:AS) (e:Exit),e= .normal∨e= .ret->10<=k->k<u.nx->lv pC u f92.results.toList=io (pI (I (bK p a).length).1)->w'.Ok (ns p)->w'.st=(wL a ((w.st.n:Int)+1) (I (bK p a).length)).2->
    n6 11 (sg 10 [k]) u.h (tH (AZ (c4 p (c5 p))) w' 10)->Rn pC f92.results.toList 10 (fun r h n=> ∃w':TW,w'.Ok (ns p)∧w'.st=(fk (bK p) (f+1) a w.st).2∧r=pI (fk (bK p) (f+1) a w.st).1∧h=tH (AZ (c4 p (c5 p))) w' 10∧n=11) e u:=by
   intro w' k u e he hk m1 hr t0 x0 hh;refine HR [k] he hr ⟨w',t0,by rw[o0];exact x0,rfl,rfl,rfl⟩ ⟨rfl,by show 10<=u.nx;omega,by simpa using m1,⟨.of_eq ?_,rfl,ac⟩,hh,?_⟩
   .show pI (I (bK p a).length).1=pI (fk (bK p) (f+1) a w.st).1;rw[o0];unfold wL;split<;>rfl
   .show[0,1,2,3,4,5,6,7,8,k].Nodup;simp;omega
  generalize I (bK p a).length=q at*
  refine zE Z Z (fun h4=>?_) fun h4=>?_
  .have h4: ¬q.1=(w.st.n:Int)+1:=zF h4;refine gA Z (a0 A 11 _ _ (.inr Z) (by omega) (by show 11<12;omega) Z B (by rw[wL,be h4];exact x) ?_);exact xl Z Z (fun i Y=>gz (by omega)) Z Z Z Z Z Z Z Z Z Z Z Z Z Z (.refl _)
  have h4:q.1=(w.st.n:Int)+1:=zT h4;have hE:(wL a ((w.st.n:Int)+1) q).2=ib a ((w.st.n:Int)+1) q.2.stack.length q.2:=by rw[wL,am h4]
  have G:q.2.on a=1:=(j.inv.Ac a).2 (by rw[j.stack];simp);have hF:ib a ((w.st.n:Int)+1) (t2.length+1) q.2=(wL a ((w.st.n:Int)+1) q).2:=by
   rw[hE,vf (by omega) j.stack j.at_ G,vf (by rw[j.stack];simp;omega) j.stack j.at_ G]
  generalize(wL a ((w.st.n:Int)+1) q).2=F at hF a0;refine gA Z ?_;refine oA (σ:={v:TW//v.Ok (ns p)∧((∃t,v.stack=w.stack++a::t∧a∉t∧v.stack.length<=64∧v.st.on a=1∧ib a ((w.st.n:Int)+1) (t.length+1) v.st=F)∨(v.st.on a≠1∧v.st=F))})
   (fun v=>⟨(9,pI ((w.low.length:Int)+1))::(10,pI q.1)::vF a,tH (AZ (c4 p (c5 p))) v.1 12,13⟩) (fun v=>v.1.stack.length) ⟨A,B,.inl ⟨t2,by rw[show A.stack=A.st.stack from rfl,x];exact j.stack,j.at_,ZS (TW.Ac B (x▸j.inv)) i0,by rw[x];exact G,by rw[x];exact hF⟩⟩ [11]
   (zW (xl Z Z (fun i Y=>gz (by show i<12;omega)) Z Z Z Z Z Z Z Z Z Z Z Z Z Z (.refl _))) fun v=>?_
  obtain⟨v,k0,hJ⟩:=v;rcases hJ with⟨t,hs,b1,n0,c0,J⟩|⟨c0,g1⟩
  rotate_left
  .refine zJ Z Z (fun h5=>?_) fun h5=>?_
   .exact absurd (zT h5) c0
   refine gA Z (a0 v 12 _ _ (.inr Z) (by omega) (by show 12<13;omega) Z k0 g1 ?_);exact xl Z Z (fun i Y=>gz (by omega)) Z Z Z Z Z Z Z Z Z Z Z Z Z Z (.refl _)
  have key: ∃u b,v.stack=u++ [b]∧((b=a∧B1 ((w.st.n:Int)+1) v.st=F)∨ ∃t',u=w.stack++a::t'∧a∉t'∧b≠a∧ib a ((w.st.n:Int)+1) (t'.length+1) (B1 ((w.st.n:Int)+1) v.st)=F):=by
   rcases t.eq_nil_or_concat with e|⟨t',b,e⟩
   .subst e;refine⟨w.stack,a,hs,.inl ⟨rfl,?_⟩⟩;rw[aad,ib,am c0]at J;exact J
   .rw[ab6]at e;subst e;refine⟨w.stack++a::t',b,by rw[hs];simp,.inr ⟨t',rfl,fun h=>b1 (by simp[h]),fun h=>b1 (by simp[h]),?_⟩⟩;rw[ib,am c0,Y1]at J;exact J
  obtain⟨u,b,e0,f0⟩:=key;have u1:u.length+1<=64:=by rw[e0,Y1]at n0;exact n0
  have e1:v.stack≠ []:=by rw[e0];simp
  have y0:v.stack.length=u.length+1:=by rw[e0,Y1];rfl
  have r1:tH (AZ (c4 p (c5 p))) v 12=[(0,io (.cells [.mp 6])),(1,io (.cells [.mp 7])),(2,io (.cells [.sl 12 0 (u.length+1) 1])),(3,io (.cells [.iv (AZ (c4 p (c5 p)))])),(4,io (.cells [C6])),(5,io (.cells [.mp 8])),
    (6,io (ct v.low)),(7,io (ct v.on)),(8,io (ct v.ring)),(12,io (aG 1 (u++ [b]) cM))]:=by
   unfold tH;rw[Dl (.inr e1),Dn (.inr e1),y0,e0]
  show GO prog _ _ _ ⟨_,tH (AZ (c4 p (c5 p))) v 12,_⟩;rw[r1];refine zE Z Z (fun h5=>?_) fun h5=>?_
  .exact absurd c0 (zF h5)
  refine gM 9 Z (bp ab Z Z Z Z Z (Ki u b) Z Z ?_);have a1:(v.pop u b ((w.st.n:Int)+1)).Ok (ns p)∧((∃t,(v.pop u b ((w.st.n:Int)+1)).stack=w.stack++a::t∧a∉t∧(v.pop u b ((w.st.n:Int)+1)).stack.length<=64∧(v.pop u b ((w.st.n:Int)+1)).st.on a=1∧ib a ((w.st.n:Int)+1) (t.length+1) (v.pop u b ((w.st.n:Int)+1)).st=F)∨((v.pop u b ((w.st.n:Int)+1)).st.on a≠1∧(v.pop u b ((w.st.n:Int)+1)).st=F)):=by
   refine⟨TW.Um k0 u b _,?_⟩;rcases f0 with⟨rfl,q0⟩|⟨t',hu,s0,j1,q0⟩
   .refine .inr ⟨?_,by rw[TW.K2 e0];exact q0⟩;show bU .str (cF .str v.on b 2) b 0≠1;rw[kR,am Z];decide
   .refine .inl ⟨t',hu,s0,by show u.length<=64;omega,?_,by rw[TW.K2 e0];exact q0⟩;show bU .str (cF .str v.on b 2) a 0=1;rw[kR,be j1];exact c0
  have d1:(v.pop u b ((w.st.n:Int)+1)).stack.length<v.stack.length:=by show u.length<v.stack.length;omega
  rcases Kj 12 u b with hc|hc
  .refine gA Z (HL ab u.length Z Z Z Z Z Z Z (by omega) (by omega) (by omega) (.inl ⟨hc.1,rfl⟩) Z ?_);refine gA Z ⟨⟨v.pop u b ((w.st.n:Int)+1),a1⟩,[12],d1,zW (xl Z Z (fun i Y=>gz (by show i<12;omega)) Z Z Z Z Z Z Z Z Z Z hc.2.symm Z Z Z (Dp u b))⟩
  .refine gA Z (HL ab u.length Z Z Z Z Z Z Z (by omega) (by omega) (by omega) (.inr ⟨hc.1,rfl⟩) Z ?_);refine gA Z ⟨⟨v.pop u b ((w.st.n:Int)+1),a1⟩,[12],d1,zW (xl Z Z (fun i Y=>gz (by show i<12;omega)) Z Z Z Z Z Z Z Z Z Z hc.2.symm Z Z Z (Dp u b))⟩
theorem Vw(d:kq){p:Prog}(hf:nj p)(j:(c5 p).length<=100000000): ∀f,Ve p f
 |0=>fun path a w x hI u b y A=>by
  have:=nn hI.pG b u;omega
 |f+1=>JX d hf j f (Vw d hf j f)
theorem IH(b:kq){p:Prog}(hf:nj p)(hs:List (aj×aj×Nat)):Pure prog 51 [.iv (AZ (c4 p hs))] (.iv (strs (ns p))):=by
 have h:=KE b (c4 p hs) (by have:=hf.len;simp[c4];omega);rw[show(c4 p hs).map (·.1)=p.aD.map Decl.name from Gd p hs]at h;exact h
abbrev PQ:PV:= .dt (.func 92) [] [.ptr 4 0,.ptr 5 0,.ptr 7 0,.ptr 0 0,.ptr 8 0,.ptr 6 0]
abbrev rH(G:IV)(w:TW)(k:Nat):AH:=[(0,io (.cells [.iv G])),(1,io (ct w.low)),(2,io (ct w.on)),(3,io (ct w.ring)),(4,io (.cells [.mp 1])),(5,io (.cells [.mp 2])),(6,io (.cells [.mp 3])),(7,io (.cells [sK w.wG k w.stack])),(8,io (.cells [PQ])),(k,io (sL w.wG w.stack))]
theorem Tc{n k:Nat}{σ:Nat->Nat}{h:AH}{G:IV}{w:TW}{B:PV}{x y A o:AO}(b:aaV 9 n=kw)(bk:Zk k n=kw)(hs: ∀i,i<9->σ i=i)
  (g0:h.get 0=io (.cells [.iv G])) (g1:h.get 1=io x) (g2:h.get 2=io y) (g3:h.get 3=io A)
  (g4:h.get 4=io (.cells [.mp 1])) (g5:h.get 5=io (.cells [.mp 2])) (g6:h.get 6=io (.cells [.mp 3])) (g7:h.get 7=io (.cells [B])) (g8:h.get 8=io (.cells [PQ])) (g9:h.get (σ k)=io o)
  (e1:gi x (ct w.low)) (e2:gi y (ct w.on)) (e3:gi A (ct w.ring)) (D:B=sK w.wG (σ k) w.stack) (F:gi o (sL w.wG w.stack)):n6 n σ h (rH G w k):=by
 have I:=YY b;have bk:=YY bk;have hb: ∀i,i<9->Zk i n=kw:=fun i d=>ZI (by omega);subst D;have r: ∀i,i<9->PV.mp (σ i)=PV.mp i:=fun i d=>by rw[hs i d]
 have j: ∀i,i<9->PV.ptr (σ i) 0=PV.ptr i 0:=fun i d=>by rw[hs i d]
 have u: ∀i,i<9->bq n [PV.mp i]=kw:=fun i d=>by simp only[bq,PV.low,hb i d]
 refine⟨⟨_,by rw[hs 0 (by omega)];exact g0,.of_eq Z⟩,by omega,rfl,
  ⟨_,by rw[hs 1 (by omega)];exact g1,e1⟩,by omega,ac,
  ⟨_,by rw[hs 2 (by omega)];exact g2,e2⟩,by omega,ac,
  ⟨_,by rw[hs 3 (by omega)];exact g3,e3⟩,by omega,ac,
  ⟨_,by rw[hs 4 (by omega)];exact g4,.of_eq (by simp only[AO.db,dL,PV.db,r 1 (by omega)])⟩,by omega,u 1 (by omega),
  ⟨_,by rw[hs 5 (by omega)];exact g5,.of_eq (by simp only[AO.db,dL,PV.db,r 2 (by omega)])⟩,by omega,u 2 (by omega),
  ⟨_,by rw[hs 6 (by omega)];exact g6,.of_eq (by simp only[AO.db,dL,PV.db,r 3 (by omega)])⟩,by omega,u 3 (by omega),
  ⟨_,by rw[hs 7 (by omega)];exact g7,.of_eq (by simp only[AO.db,dL,od])⟩,by omega,by simp only[AO.low,bq,Dm (ZI bk)],
  ⟨_,by rw[hs 8 (by omega)];exact g8,.of_eq (by simp only[AO.db,dL,PV.db,j 0 (by omega),j 4 (by omega),j 5 (by omega),j 6 (by omega),j 7 (by omega),j 8 (by omega)])⟩,by omega,by simp only[AO.low,bq,PV.low,hb 0 (by omega),hb 4 (by omega),hb 5 (by omega),hb 6 (by omega),hb 7 (by omega),hb 8 (by omega)],
  ⟨_,g9,by rw[oe];exact F⟩,bk,Dq _ _ _,ac⟩
theorem x9{V:Type}{kc:KC}{ev:V->IV}{z:V}{b:Value}{d:PV->V}(x: ∀M,IR M (ev z) b):gi .gK (.map kc ev z b d []):=
 ⟨id,fun M N U w j u=>⟨#[],0,u,⟨rfl,by simp,by simp,by simp,by simp⟩,x M⟩⟩
def TW.o:TW:=⟨[],[],[],[],jp⟩
theorem Uj(G:IV)(w:TW){n:Nat}:[io (AO.cells [PV.mp 1]),io (.cells [.mp 2]),io (.cells [sK w.wG 10 w.stack]),io (.cells [.iv G]),io (.cells [PQ]),io (.cells [.mp 3]),io (ct w.low),io (ct w.on),io (ct w.ring),io (sL w.wG w.stack)]=
  (tO G w).map fun o=>io (o.db (sig [4,5,7,0,8,6,1,2,3,10] n)):=by
 have b:=od (sig [4,5,7,0,8,6,1,2,3,10] n) w.wG 9 w.stack;have d:=oe (sig [4,5,7,0,8,6,1,2,3,10] n) w.wG w.stack;show _=[io (AO.cells [PV.mp 1]),io (.cells [.mp 2]),io (.cells [(sK w.wG 9 w.stack).db (sig [4,5,7,0,8,6,1,2,3,10] n)]),io (.cells [.iv G]),io (.cells [PQ]),io (.cells [.mp 3]),io (ct w.low),io (ct w.on),io (ct w.ring),io ((sL w.wG w.stack).db (sig [4,5,7,0,8,6,1,2,3,10] n))]
 rw[b,d];rfl
theorem T1(D:kq){p:Prog}(hf:nj p)(Y:(c5 p).length<=100000000):Go.Al.Fn prog 53 [.iv (AZ (c4 p (c5 p)))] [] fun r h n=> ∃m:NM,Go.Rg.ze (ns p) (eg p) (fun a=>bU .str m a 0)∧r= .iv (CU m)∧h=[]∧n=0:=by
 have F:=vl hf;refine yy ab func53 Z (by decide) ntmps53 Z (by simp) ?_;refine gA Z (zp (IH D hf (c5 p)) ?_);refine gA Z ?_;refine oy 7 0 1 Z Z ?_
 let x:Nat->St aj:=fun i=>jn (bK p) (ns p).length ((ns p).take i) St.o
 have y: ∀i,Inv (bK p) [] (x i):=fun i=>(u7 wT (Y7 _) ((ns p).take i) St.o (fun a h=>abv h) (SN _)).1
 refine ux 0 (ns p).length (Y8 _) (fun i w=>⟨[(3,.ptr 4 0),(4,.ptr 5 0),(5,.ptr 6 0),(6,.ptr 7 0),(7,.ptr 8 0),(15,.iv (strs (ns p))),(16,pI (ns p).length),(17,pI i)],rH (AZ (c4 p (c5 p))) w 10,11⟩)
  (fun i w=>w.Ok (ns p)∧w.st=x i) TW.o [9] ⟨⟨fun a h=>(nomatch h),Z3,fun a h=>(nomatch h)⟩,rfl⟩
  (wk Z Z Z (bv (bv (bv (bv (bv (bv (bv (bv trivial))))))))
   (Tc Z Z (fun i B=>gz (by show i<10;omega)) Z Z Z Z Z Z Z Z Z Z (x9 ir) (x9 ir) (x9 ir) Z (.of_eq Z)) Z) fun i w B J=>?_
 obtain⟨A,u⟩:=J;refine zJ Z Z (fun b=>?_) fun b=>?_
 .have b:=ci b;have j:x (i+1)=if(x i).low ((ns p).getD i em)=0 then(fk (bK p) (ns p).length ((ns p).getD i em) (x i)).2 else x i:=cI b;refine zJ Z Z (fun d=>?_) fun d=>?_
  .have d:w.st.low ((ns p).getD i em)=0:=zT d;rw[<-u,am d]at j;refine gA Z (HK [4,5,7,0,8,6,1,2,3,10] (Vw D hf Y (ns p).length [] ((ns p).getD i em) w A (u▸y i) d (cT b) (fun g S=>nomatch S) (aae _ _)) Z Z Z Z Z (Uj _ _) Z ?_);rintro r h' n' ⟨w3,hok3,hst3,rfl,rfl,rfl⟩;refine⟨_,rfl,?_⟩;refine gA Z ?_
   exact⟨b,w3,[11],⟨hok3,by rw[j];exact hst3⟩,wk Z Z Z (bv (bv (bv (bv (bv (bv (bv (bv ac))))))))
    (Tc Z Z (fun i B=>gz (by show i<10;omega)) Z Z Z Z Z Z Z Z Z Z (.refl _) (.refl _) (.refl _) (od _ _ _ _) (.of_eq (oe _ _ _))) Z⟩
  .have d: ¬w.st.low ((ns p).getD i em)=0:=zF d;rw[<-u,be d]at j;refine gA Z ?_
   exact⟨b,w,[10],⟨A,j.symm⟩,wk Z Z Z (bv (bv (bv (bv (bv (bv (bv (bv ac))))))))
    (Tc Z Z (fun i B=>gz (by show i<10;omega)) Z Z Z Z Z Z Z Z Z Z (.refl _) (.refl _) (.refl _) Z (.refl _)) Z⟩
 .have b:=co b;have hr:Go.Rg.ze (ns p) (eg p) (fun a=>bU .str w.ring a 0):=by
   have d:=KT hf.nodup (Y7 (ns p).length);have G:x i=jn (bK p) (ns p).length (ns p) St.o:=by show jn _ _ ((ns p).take i) _=_;rw[Za b]
   have I:(fun a=>bU .str w.ring a 0)=(jn (bK p) (ns p).length (ns p) St.o).ring:=by rw[<-G,<-u];rfl
   rw[I];exact d
  refine gA Z ⟨.inr Z,_,rfl,lB.map 3 Z (.done ⟨.iv (CU w.ring),[],0,[],⟨w.ring,hr,rfl,rfl,rfl⟩,?_⟩)⟩;exact⟨rfl,Y8 _,by simp,⟨.of_eq Z,rfl,ac⟩,ac,Z3⟩
end Go.Proofs.YtflegjieadkonaaGreatDoor
namespace Go.Proofs.YtflegjieadkonaaGreatDoor
open Go Go.Al Go.Proofs.Tryz
theorem T7(l:List aj)(s:aj):Pure prog 129 [.iv (strs l),pS s] (pI (tm (fun x:aj=>li (s=x)) l)):=by
 refine my (bH func129 Z (by decide)) ⟨_,_,Zh⟩ fun j=>?_;simp only[maxLen]at j;refine ae ab func129 Z (by decide) ntmps129 Z (by simp) Z ?_;refine gA Z ?_
 refine az 0 l.length (Y8 _) (fun i=>⟨[(0,.iv (strs l)),(1,pS s),(7,pI l.length),(8,pI i)],[],0⟩) (fun i=>(l.take i).any (fun x:aj=>li (s=x))=lc) [] (by simp)
  (mZ Z Z (bv (bv (bv (bv trivial)))) Z) fun i y u=>?_
 refine zJ Z Z (fun b=>?_) fun b=>?_
 .have b:=ci b;refine zJ Z Z (fun d=>?_) fun d=>?_
  .have d:(fun x:aj=>li (s=x)) (l.getD i em)=kw:=d;rw[jf u b d];exact zU Z
  .have d:(fun x:aj=>li (s=x)) (l.getD i em)=lc:=d;refine gA Z ⟨b,(aW u b).2 d,[],mZ Z Z (bv (bv (bv (bv ac)))) Z⟩
 .have b:=co b;rw[iK (any_none u b)];exact zU Z
theorem Ra(l:List aj)(s:aj):(l.any fun x=>li (s=x))=aE l s:=by
 rw[ZN,aM,ZQ];constructor
 .rintro⟨x,hx,h⟩;exact(zT h)▸hx
 .exact fun h=>⟨s,h,decide_eq_true Z⟩
theorem Af(l:List aj)(s:aj):Pure prog 99 [.iv (strs l),pS s] (pB (aE l s)):=by
 refine ae ab func99 Z (by decide) ntmps99 Z (by simp) Z ?_;refine gA Z (zp (T7 l s) ?_);refine gA Z (zL (.of_eq ?_));exact fP (by rw[<-Ra];exact jZ _ l)
def rN(m:NM)(r:ah)(l:Lit):Bool:=li (l.kind=1)&&li (bU .str m l.atom.rel 0=bU .str m r.head.rel 0)
abbrev Ug(m:NM)(r:ah):List AO:=[.cells [.iv (CU m)],an r.c]
abbrev Pz(m:NM)(r:ah):AH:=[(0,io (.cells [.iv (CU m)])),(1,io (an r.c))]
theorem Pl(m:NM)(r:ah)(l:Lit):bV prog 102 [ag l.c,.ptr 0 0,.ptr 1 0] (Ug m r) (pB (rN m r l)) (Pz m r) 2:=by
 refine aB ab func102 Z (by decide) ntmps102 Z (by simp) ?_;refine zJ Z Z (fun b=>?_) fun b=>?_
 .have b:l.kind=1:=zT b;refine gA Z (zD [] Z (zM ⟨.of_eq (fP (by rw[rN,decide_eq_true b,ZR])),rfl,ac⟩ ((zO (zK ac)))))
 .have b: ¬l.kind=1:=zF b;refine gA Z (zD [] Z (zM ⟨.of_eq (fP (by rw[rN,decide_eq_false b,Z9])),rfl,ac⟩ ((zO (zK ac)))))
abbrev KR:PV:= .dt (.func 102) [] [.ptr 0 0,.ptr 1 0]
theorem Pj(m:NM)(r:ah)(l:List Lit):bV prog 130 [.iv (cZ 30 l Lit.c),KR] (Ug m r) (pI (tm (rN m r) l)) (Pz m r) 2:=by
 refine vI (bH func130 Z (by decide)) ⟨_,_,Zh⟩ fun j=>?_;simp only[maxLen]at j;refine aB ab func130 Z (by decide) ntmps130 Z (by simp) ?_;refine gA Z ?_
 refine az 0 l.length (Y8 _) (fun i=>⟨[(0,.iv (cZ 30 l Lit.c)),(1,KR),(7,pI l.length),(8,pI i)],Pz m r,2⟩) (fun i=>(l.take i).any (rN m r)=lc) [] (by simp)
  (zW ((zO (zK trivial)))) fun i x u=>?_
 refine zJ Z Z (fun b=>?_) fun b=>?_
 .have b:=ci b;refine gA Z (zq [0,1] (Pl m r (l.getD i em)) ?_);refine zJ Z Z (fun d=>?_) fun d=>?_
  .have d:rN m r (l.getD i em)=kw:=d;rw[jf u b d];refine gA Z (zD [] Z (zW ((zO (zK ac)))))
  .have d:rN m r (l.getD i em)=lc:=d;refine gA Z ⟨b,(aW u b).2 d,[],zW ((zO (zK ac)))⟩
 .have b:=co b;rw[iK (any_none u b)];refine gA Z (zD [] Z (zW ((zO (zK ac)))))
theorem Pk(m:NM)(r:ah)(l:List Lit):bV prog 101 [.iv (cZ 30 l Lit.c),KR] (Ug m r) (pB (l.any (rN m r))) (Pz m r) 2:=by
 refine aB ab func101 Z (by decide) ntmps101 Z (by simp) ?_;refine gA Z (zq [0,1] (Pj m r l) ?_);refine gA Z (zD [] Z (zM ⟨.of_eq (fP (jZ _ l)),rfl,ac⟩ ((zO (zK ac)))))
theorem TZ(m:NM)(r:ah):Pure prog 60 [ag r.c,.iv (CU m)] (pB (r.body.any (rN m r))):=by
 refine ae ab func60 Z (by decide) ntmps60 Z (by simp) Z ?_;refine gA Z (zq [1,0] (Pk m r r.body) ?_);exact zU Z
def zj(m:NM)(r:ah)(l:Lit):Bool:=li (l.kind≠1)&&(named l).any fun t=>li (bU .str m t 0=bU .str m r.head.rel 0)
def zw(m:NM)(r:ah)(t:Term):Bool:=li (t.kind=1)&&!aE (fO r) t.var&&r.body.any (rN m r)
def lg(m:NM)(r:ah):aY:=match r.body.find? (zj m r) with
 |some l=>(70,l.at)
 |none=>if r.head.ad.any (zw m r)=kw then(71,r.at_) else aY.z
theorem TV(m:NM)(r:ah)(hb:r.size<=10000000):Pure prog 57 [ag r.c,.iv (CU m)] (ag (lg m r).c):=by
 have D:r.body.length<=10000000:=by have:=Lit.au r.body;unfold ah.size at hb;omega
 have J:r.head.ad.length<=10000000:=by unfold ah.size at hb;omega
 refine ae ab func57 Z (by decide) ntmps57 Z (by simp) Z ?_;refine gA Z ?_;refine az 0 r.body.length (Y8 _) (fun i=>⟨[(1,.iv (CU m)),(2,.ptr 0 0),(4,.ptr 1 0),(13,.iv (lits r.body)),(14,pI r.body.length),(15,pI i)],[(0,io (an r.c)),(1,io (an aY.z.c))],2⟩) (fun i=>(r.body.take i).any (zj m r)=lc) [] (by simp)
  (zW (zK (zK trivial))) fun i S y=>?_
 refine zJ Z Z (fun u=>?_) fun u=>?_
 .have u:=ci u;have I:(r.body.getD i em).size<=10000000:=by have:=Lit.aI r.body i u;unfold ah.size at hb;omega
  have G:=kz (r.body.getD i em);refine gA Z (zp (G4 (r.body.getD i em) (by omega)) ?_);refine gA Z ?_;refine az 0 (named (r.body.getD i em)).length (Y8 _) (fun k=>⟨[(1,.iv (CU m)),(2,.ptr 0 0),(4,.ptr 1 0),(6,.ptr 2 0),(13,.iv (lits r.body)),(14,pI r.body.length),(15,pI i),(20,.iv (strs (named (r.body.getD i em)))),(21,pI (named (r.body.getD i em)).length),(22,pI k)],[(0,io (an r.c)),(1,io (an aY.z.c)),(2,io (an (r.body.getD i em).c))],3⟩)
   (fun k=>li ((r.body.getD i em).kind≠1)=lc∨((named (r.body.getD i em)).take k).any (fun t=>li (bU .str m t 0=bU .str m r.head.rel 0))=lc) [] (.inr (by simp))
   (zW (zK (zK (zK trivial)))) fun k F hK=>?_
  refine zJ Z Z (fun b=>?_) fun b=>?_
  .have b:k<(named (r.body.getD i em)).length:=by simpa using b
   refine zJ Z Z (fun d=>?_) fun d=>?_
   .have d: ¬(r.body.getD i em).kind=1:=by simpa using d
    have hK:=hK.resolve_left (by simpa using d);refine zJ Z Z (fun j=>?_) fun j=>?_
    .have j:bU .str m ((named (r.body.getD i em)).getD k em) 0=bU .str m r.head.rel 0:=zT j;have B:zj m r (r.body.getD i em)=kw:=by
      rw[zj,decide_eq_true d,ZR];exact iN b (decide_eq_true j)
     rw[lg,kW y u B];exact zU Z
    .have j: ¬bU .str m ((named (r.body.getD i em)).getD k em) 0=bU .str m r.head.rel 0:=zF j;refine gA Z ⟨b,.inr ((aW hK b).2 (decide_eq_false j)),[],zW (zK (zK (zK ac)))⟩
   .have d:(r.body.getD i em).kind=1:=by simpa using d
    refine gA Z ⟨b,.inl (decide_eq_false fun h=>h d),[],zW (zK (zK (zK ac)))⟩
  .have b:(named (r.body.getD i em)).length<=k:=by simpa using b
   have B:zj m r (r.body.getD i em)=lc:=by
    rcases hK with hK|hK
    .rw[zj,hK,Z9]
    .rw[zj,any_none hK b,Z5]
   refine gA Z ⟨u,(aW y u).2 B,[],zW (zK (zK ac))⟩
 have u:=co u;have A:r.body.find? (zj m r)=jp:=eJ (any_none y u);rw[lg,A];refine gA Z (zp (X6 r hb) ?_);refine gA Z ?_;refine az 0 r.head.ad.length (Y8 _) (fun k=>⟨[(1,.iv (CU m)),(2,.ptr 0 0),(4,.ptr 1 0),(9,.iv (strs (fO r))),(49,.iv (cZ 5 r.head.ad Term.c)),(50,pI r.head.ad.length),(51,pI k)],[(0,io (an r.c)),(1,io (an aY.z.c))],2⟩) (fun k=>(r.head.ad.take k).any (zw m r)=lc) [] (by simp)
  (zW (zK (zK trivial))) fun k F hK=>?_
 refine zJ Z Z (fun b=>?_) fun b=>?_
 .have b:=ci b;have no:zw m r (r.head.ad.getD k em)=lc->(r.head.ad.take (k+1)).any (zw m r)=lc:=(aW hK b).2;refine zJ Z Z (fun d=>?_) fun d=>?_
  .have d:(r.head.ad.getD k em).kind=1:=zT d;refine gA Z (zp (Af (fO r) (r.head.ad.getD k em).var) ?_);refine zJ Z Z (fun j=>?_) fun j=>?_
   .have j:(!aE (fO r) (r.head.ad.getD k em).var)=kw:=j;refine gA Z (zp (TZ m r) ?_);refine zJ Z Z (fun x=>?_) fun x=>?_
    .have x:r.body.any (rN m r)=kw:=x;rw[am (iN b (by rw[zw,decide_eq_true d,j,x];rfl))];exact zU Z
    .have x:r.body.any (rN m r)=lc:=x;refine gA Z ⟨b,no (by rw[zw,x,Z5]),[],zW (zK (zK ac))⟩
   .have j:(!aE (fO r) (r.head.ad.getD k em).var)=lc:=j;refine gA Z ⟨b,no (by rw[zw,j,Z5,Z9]),[],zW (zK (zK ac))⟩
  .have d: ¬(r.head.ad.getD k em).kind=1:=zF d;refine gA Z ⟨b,no (by rw[zw,decide_eq_false d,Z9,Z9]),[],zW (zK (zK ac))⟩
 .have b:=co b;rw[be (by rw[any_none hK b];decide)];exact zU Z
theorem find_congr{α:Type}{f g:α->Bool}: ∀{l:List α},(∀x∈l,f x=g x)->l.find? f=l.find? g
 | [],_=>rfl
 |x::l,h=>by
  rw[aaR,aaR,h x Zh,find_congr fun y b=>h y (Zg _ b)]
theorem yZ{α:Type}{f g:α->Bool}{l:List α}(h: ∀x∈l,f x=g x):l.any f=l.any g:=by
 rw[ZN,ZQ,ZQ];exact⟨fun⟨x,hx,h1⟩=>⟨x,hx,by rw[<-h x hx];exact h1⟩,fun⟨x,hx,h1⟩=>⟨x,hx,by rw[h x hx];exact h1⟩⟩
theorem B8{p:Prog}{a:aj}(h:a∈p.aD.map Decl.name):a∈ns p:=by rw[ns,gq];exact h
theorem Uf{p:Prog}(hf:nj p){m:NM}(hR:Go.Rg.ze (ns p) (eg p) (fun a=>bU .str m a 0)){r:ah}(hr:r∈p.rules):r.body.any (rN m r)=nO p r:=by
 refine yZ fun l d=>?_;rw[rN];by_cases b:l.kind=1
 .have j:l.atom.rel∈named l:=by rw[qo,am (.inl b)];exact aaU _
  rw[vO hR (B8 (hf.lits r hr l d _ j)) (B8 (hf.yl r hr))]
 .rw[decide_eq_false b];rfl
theorem JT{p:Prog}(hf:nj p){m:NM}(hR:Go.Rg.ze (ns p) (eg p) (fun a=>bU .str m a 0)){r:ah}(hr:r∈p.rules):lg m r=gL p r:=by
 have b:r.body.find? (zj m r)=rf p r:=find_congr fun l j=>by
  rw[zj];congr 1;exact yZ fun t u=>(vO hR (B8 (hf.lits r hr l j t u)) (B8 (hf.yl r hr))).symm
 have d:r.head.ad.any (zw m r)=(iM r&&nO p r):=by
  rw[<-Uf hf hR hr,iM];have:zw m r=fun t=>(li (t.kind=1)&&!aE (fO r) t.var)&&r.body.any (rN m r):=rfl;rw[this];generalize r.body.any (rN m r)=c;cases c<;>simp
 rw[lg,gL,b];cases rf p r with
 |some l=>rfl
 |none=>
  simp only[d,Zo]
theorem T4(b:kq){p:Prog}(hb:p.fit)(h: ¬(dz p).1=0):Pure prog 50 [ag p.c] (.bQ [.iv (.v (.map jp)),pB lc]):=by
 have:=SH b p hb;rwa[yq,be h,decide_eq_false h]at this
theorem T3(b:kq){p:Prog}(hb:p.fit)(h:(dz p).1=0):Pure prog 50 [ag p.c] (.bQ [.iv (AZ (c4 p (c5 p))),pB kw]):=by
 have:=SH b p hb;rwa[yq,am h,decide_eq_true h]at this
theorem xw{α β:Type}(f:α->List β)(g:α->Nat)(h: ∀a,(f a).length<=g a): ∀l:List α,(l.flatMap f).length<=(l.map g).sum
 | []=>Y7 _
 |a::l=>by
  have b:=xw f g h l;have d:=h a;rw[ZO,Y1,Zm,aaO];omega
theorem iG: ∀l:List Lit,Lit.aA l=(l.map Lit.size).sum
 | []=>rfl
 |x::l=>by rw[Lit.aA,iG l,Zm,aaO]
theorem Jh{p:Prog}(hs:p.size<=10000000):(c5 p).length<=100000000:=by
 have b:=xw (fun r:ah=>r.body.flatMap fun l=>(named l).map fun t=>(r.head.rel,t,gx l)) ah.size (fun r=>by
  have:=xw (fun l=>(named l).map fun t=>(r.head.rel,t,gx l)) Lit.size (fun l=>by rw[Zx];exact kz l) r.body;rw[<-iG]at this
  unfold ah.size;omega) p.rules
 unfold Prog.size at hs;show(p.rules.flatMap _).length<=_;omega
theorem T9(D:kq)(p:Prog)(hb:p.fit)(hs:p.size<=10000000):Pure prog 17 [ag p.c] (ag (dU p).c):=by
 by_cases k1:(dz p).1=0;rotate_left
 .rw[dU,am k1];refine ae ab func17 Z (by decide) ntmps17 Z (by simp) Z ?_;refine gA Z (zp (T4 D hb k1) ?_);refine zE Z Z (fun A=>?_) fun A=>?_
  .cases A
  refine gA Z (zp (c24 p hb) ?_);exact zU Z
 have I:=CC k1;have S:p.rules.length<=1000000000:=hb.2.1;rw[dU,be (by simpa using k1)];refine ae ab func17 Z (by decide) ntmps17 Z (by simp) Z ?_;refine gA Z (zp (T3 D hb k1) ?_);refine zJ Z Z (fun A=>?_) fun A=>?_
 .cases A
 refine gA Z (HK [] (T1 D I (Jh hs)) Z Z Z Z Z Z Z ?_);rintro r Y n' ⟨m,hR,rfl,rfl,rfl⟩;refine⟨_,rfl,?_⟩;have hW:p.rules.map (lg m)=p.rules.map (gL p):=aao fun r J=>JT I hR J;rw[<-hW]
 have y: ∀i,i<p.rules.length->(p.rules.map (lg m)).getD i em=lg m (p.rules.getD i em):=fun i G=>by
  rw[YZ,Y9,Y3 G,YZ,Y3 G];rfl
 have j:(p.rules.map (lg m)).length=p.rules.length:=Zx _;refine gA Z ?_;refine az 0 p.rules.length (Y8 _) (fun i=>⟨[(1,.ptr 0 0),(2,.ptr 1 0),(5,.iv (CU m)),(21,.iv (cZ 5 p.rules ah.c)),(22,pI p.rules.length),(23,pI i)],[(0,io (an p.c)),(1,io (an aY.z.c))],2⟩) (fun i=>((p.rules.map (lg m)).take i).any (fun d=>li (d.1≠0))=lc) [] (by simp)
  (zW (zK (zK trivial))) fun i G B=>?_
 refine zJ Z Z (fun b=>?_) fun b=>?_
 .have b:=ci b;have x:=hb.2.2 _ (cT b);have F:=y i b;refine gA Z (zp (TV m (p.rules.getD i em) x.1) ?_);refine zJ Z Z (fun u=>?_) fun u=>?_
  .have u: ¬(lg m (p.rules.getD i em)).1=0:=by simpa using u
   rw[kW B (by rw[j];exact b) (by rw[F];exact decide_eq_true u),F];exact zU Z
  .have u:(lg m (p.rules.getD i em)).1=0:=by simpa using u
   refine gA Z ⟨b,(aW B (by rw[j];exact b)).2 (by rw[F];simpa using u),[],zW (zK (zK ac))⟩
 .have b:=co b;rw[eJ (any_none B (by rw[j];exact b))];exact zU Z
end Go.Proofs.YtflegjieadkonaaGreatDoor
namespace Go.Proofs.YtflegjieadkonaaGreatDoor
open Go Go.Al
section
section
variable {X:Type} (f:X->AO)
def eP(L:List (Nat×Nat×X)):bd:=fun c=>(L.find? fun y=>y.1==c).map fun y=> .obj (f y.2.2) y.2.1
theorem cO(L:List (Nat×Nat×X)):(eP f L).still:=by
 intro b i e h;unfold eP at h;cases hf:L.find? fun y=>y.1==b<;>rw[hf]at h<;>cases h
theorem EL: ∀{L:List (Nat×Nat×X)} {j:Nat} {y:Nat×Nat×X},(L.map Zu).Nodup->L[j]? =io y->L.find? (fun z=>z.1==y.1)=io y
 | [],_,_,_,h=>by simp at h
 |x::L,0,y,_,h=>by
  simp only[abJ,Y2]at h;subst h;simp
 |x::L,j+1,y,hn,h=>by
  rw[aa5]at h;rw[Zm,aam]at hn;have b: ¬x.1=y.1:=fun e=>hn.1 (e▸abk (Zv h));rw[ab4 (by simpa using b)];exact EL hn.2 h
theorem dd{L:List (Nat×Nat×X)}{j:Nat}{y:Nat×Nat×X}(hn:(L.map Zu).Nodup)(h:L[j]? =io y):eP f L y.1=io (.obj (f y.2.2) y.2.1):=by
 unfold eP;rw[EL hn h];rfl
theorem kv{L:List (Nat×Nat×X)}{c:Nat}(h:c∉L.map Zu):eP f L c=jp:=by
 unfold eP;rw[aa9,aat];intro y b;simp only[beq_iff_eq];exact fun e=>h (e▸abk b)
theorem ua{L:List (Nat×Nat×X)}{c:Nat}(h:eP f L c=jp):c∉L.map Zu:=by
 intro b;obtain⟨y,d,rfl⟩:=ZD.1 b;unfold eP at h;rw[aa9,aat]at h;exact h y d (by simp)
theorem ql{L:List (Nat×Nat×X)}{y:Nat×Nat×X}(hn:(L.map Zu).Nodup)(h:y.1∉L.map Zu):((L++ [y]).map Zu).Nodup:=by
 rw[Y6,aaY];exact⟨hn,by simp,fun u hu v b g=>h (by simp at b;subst g;subst b;exact hu)⟩
theorem sR{L:List (Nat×Nat×X)}{y:Nat×Nat×X}(hn:(L.map Zu).Nodup)(h:y.1∉L.map Zu):(eP f L).put y.1 (.obj (f y.2.2) y.2.1)=eP f (L++ [y]):=by
 funext c
 have b:=ql hn h;unfold bd.put;by_cases d:c=y.1
 .subst d;rw[am Z,dd f b (j:=L.length) (y:=y) (by simp)]
 .rw[be d];by_cases x:c∈L.map Zu
  .obtain⟨z,A,rfl⟩:=ZD.1 x;obtain⟨i,u⟩:=ZY A;rw[dd f hn u,dd f b (j:=i) (by rw[Zi (Y4.1 u).1];exact u)]
  .rw[kv f x,kv f (by simp only[Y6,Zf,not_or];exact⟨x,by simpa using d⟩)]
theorem Lm{α:Type}{l:List α}:l.Nodup↔ ∀(i j:Nat) (x:α),l[i]? =io x->l[j]? =io x->i=j:=by
 constructor
 .intro h i j x b d;obtain⟨B,u⟩:=Y4.1 b;obtain⟨D,y⟩:=Y4.1 d;exact(abz h).1 (u.trans y.symm)
 .intro h;rw[List.nodup_iff_pairwise_ne,abA];intro i j b d A e;have:=h i j l[i] (Y3 b) (by rw[Y3 d,e]);omega
theorem oY{L:List (Nat×Nat×X)}{i:Nat}{y y':Nat×Nat×X}(hn:(L.map Zu).Nodup)(B:L[i]? =io y)(h:y'.1∉L.map Zu∨y'.1=y.1):((L.set i y').map Zu).Nodup:=by
 rw[aaJ];have A:=(Y4.1 B).1;have u:(L.map Zu)[i]? =io y.1:=by rw[Y9,B];rfl
 rw[Lm]at hn ⊢;have j: ∀k,(L.map Zu)[k]? =io y'.1->i=k:=by
  intro k e;rcases h with h|h
  .exact absurd (Zv e) h
  .rw[h]at e;exact hn _ _ _ u e
 intro a b x d hb;rw[ZM]at d hb;split at d
 .rw[am (by simpa using A)]at d;cases d;split at hb
  .omega
  .have:=j b hb;omega
 .split at hb
  .rw[am (by simpa using A)]at hb;cases hb;have:=j a d;omega
  .exact hn a b x d hb
theorem ID{L:List (Nat×Nat×X)}{i j e:Nat}{y y':Nat×Nat×X}(hn:(L.map Zu).Nodup)(B:L[i]? =io y)(h:y'.1∉L.map Zu∨y'.1=y.1):
  (((eP f L).put y.1 (.out j e)).drop y.1).put y'.1 (.obj (f y'.2.2) y'.2.1)=eP f (L.set i y'):=by
 funext c
 have x:=oY hn B h;have D:=(Y4.1 B).1;unfold bd.put bd.drop;by_cases A:c=y'.1
 .subst A;rw[am Z,dd f x (j:=i) (y:=y') (by rw[ZM,am Z,am D])]
 .rw[be A];by_cases d:c=y.1
  .rw[am d,kv f];rw[aaJ];intro u;obtain⟨k,b⟩:=ZY u;rw[ZM]at b;split at b
   .rw[am (by simpa using D)]at b;cases b;exact A Z
   .rename_i F;have G:(L.map Zu)[i]? =io y.1:=by rw[Y9,B];rfl
    rw[d]at b;exact F (Lm.1 hn _ _ _ G b)
  .rw[be d];show(if c=y.1 then _ else eP f L c)=_;rw[be d];by_cases u:c∈L.map Zu
   .obtain⟨z,S,rfl⟩:=ZD.1 u;obtain⟨k,b⟩:=ZY S;have I: ¬i=k:=fun g=>d (by subst g;rw[B]at b;cases b;rfl);rw[dd f hn b,dd f x (j:=k) (by rw[ZM,be I];exact b)]
   .rw[kv f u,kv f];rw[aaJ];intro J;obtain⟨k,b⟩:=ZY J;rw[ZM]at b;split at b
    .rw[am (by simpa using D)]at b;cases b;exact A Z
    .exact u (Zv b)
end
end
section
section
variable {nt:Nat} {all:List Oper} {todo pend:List (Nat×Oper)} {R:XQ} {s s':AS} {X:bd}
theorem dR(n:Nat){C:Prop}{d b:List (Nat×Oper)}(h:S0 pC nt all n todo pend s True=(C,d,b,s'))(g:CV Tryz.prog nt all d b R s' X)
  (hC:C:=by(repeat' (first|exact ac|exact rfl|exact aL.refl _|exact aL.bk (by assumption)|apply ZL))<;>first|omega|exact fL (fun _=>rfl) _|(simp only[Zs];omega)|(simp;done)|(simp;omega)):CV Tryz.prog nt all todo pend R s X:=QF ab n h hC g
theorem dO{j:Nat}{o:Oper}{C b:Prop}(hrd:fp todo=[(j,o)])(ho:Xu pC nt s o=io (C,s'))(hg:cH nt all s.f o=io kw)(hpb:jI all pend o=kw)(hE:ph todo [j]=kw)(hag:eB pC nt all s' (bn pend o)=io b)
  (h:CV Tryz.prog nt all (todo.filter fun x=>!Zt x.1 j) (bn pend o) R s' X)
  (hC:C∧b:=by(repeat' (first|exact ac|exact rfl|exact aL.refl _|exact aL.bk (by assumption)|apply ZL))<;>first|omega|exact fL (fun _=>rfl) _|(simp only[Zs];omega)|(simp;done)|(simp;omega)):CV Tryz.prog nt all todo pend R s X:=
 UT ab hrd ho hg hpb hE hag hC.1 hC.2 h
end
end
section
section
variable {V:Type}
end
abbrev GrM:=List ((KC.int .i64).K×List aj)
abbrev YV:=List ((KC.int .i64).K×Int)
def dn(dm:YV)(x:Int):Bool:=li (x∈dm.map Zu)
section
variable {p:Prog} {ring:aj->Int} {dm:YV} {out:List (List aj)}
def scP(p:Prog)(a:aj):List aj:=(ns p).filter (eg p a)
structure CpI (p:Prog) (ring:aj->Int) (dm:YV) (out:List (List aj)):Prop where
 one: ∀e∈dm,e.2=1
 nd:(dm.map Zu).Nodup
 sub: ∀k∈dm.map Zu,∃a∈ns p,ring a=k
 cl:Go.Co.closed (ns p).length (jQ p) fun j=>dn dm (ring ((ns p).getD j em))
 eq: ∃f,f+dm.length=(ns p).length∧out++Go.Rg.Gn (ns p) (scP p) ring f (dn dm)=Go.Rg.Gn (ns p) (scP p) ring (ns p).length fun _=>lc
 len:out.length=dm.length
end
end
abbrev Xm:=Int×Nat×List aj
abbrev GL:=List (Nat×Nat×Xm)
def fR(x:Xm):AO:=aG 1 x.2.2 cM
def TO(o:Option (Nat×Nat×Nat)):Value:=match o with
 |none=> .slice jp 0 0
 |some (b,len,cap)=> .slice (io ⟨b,0,jp⟩) len cap
def PO(o:Option (Nat×Nat×Nat)):IV:= .v (TO o)
def dvS(p:PV):Option (Nat×Nat×Nat):=match p with
 | .iv (.v (.slice (io ⟨b,0,jp⟩) len cap))=>io (b,len,cap)
 |_=>jp
abbrev OM:=List ((KC.int .i64).K×Option (Nat×Nat×Nat))
abbrev Uu(m:OM):AO:= .map (.int .i64) PO jp (.slice jp 0 0) dvS m
def ofM(L:GL):OM:=L.map fun y=>(y.2.2.1,io (y.1,y.2.2.2.2.length,y.2.2.2.1))
def ox(L:GL):GrM:=L.map fun y=>(y.2.2.1,y.2.2.2.2)
structure Rk (L:GL):Prop where
 nd:(L.map Zu).Nodup
 ok: ∀y∈L,y.2.2.2.2≠ []∧y.2.2.2.2.length<=y.2.2.2.1∧y.2.2.2.1<=maxLen∧y.2.2.2.1*1=y.2.1
theorem HT(L:GL)(k:Int):lz (.int .i64) (ofM L) k=lz (.int .i64) (ox L) k:=by
 induction L with
 |nil=>rfl
 |cons y L b=>
  have b:lz (.int .i64) (ofM L) k=lz (.int .i64) (ox L) k:=b;unfold ofM ox at b ⊢;simp only[Zm,lz,b]
theorem DB(l:List aj):(aG 1 l cM).all PV.flat:=by
 intro e b q d;obtain⟨s,_,rfl⟩:=ZD.1 b;obtain⟨x,_,rfl⟩:=ZD.1 d;trivial
theorem KO{l:List aj}{a:aj}:(aG 1 (l++ [a]) cM).real=kw:=by cases l<;>rfl
theorem FB{L:GL}{b j e:Nat}:(((eP fR L).put b (.out j e)).drop b).still:=by
 intro c i g h;unfold bd.drop bd.put at h;split at h
 .cases h
 .exact cO fR L c i g h
theorem P1{L:GL}{y:Nat×Nat×Xm}(h:Rk L)(hb:y.1∉L.map Zu)(b:y.2.2.2.2≠ []∧y.2.2.2.2.length<=y.2.2.2.1∧y.2.2.2.1<=maxLen∧y.2.2.2.1*1=y.2.1):Rk (L++ [y]):=
 ⟨ql h.nd hb,fun z hz=>by
  rcases Zf.1 hz with hz|hz
  .exact h.ok z hz
  .rw[Zd]at hz;subst hz;exact b⟩
theorem Uq{L:GL}{i:Nat}{y y':Nat×Nat×Xm}(h:Rk L)(hi:L[i]? =io y)(hb:y'.1∉L.map Zu∨y'.1=y.1)(d:y'.2.2.2.2≠ []∧y'.2.2.2.2.length<=y'.2.2.2.1∧y'.2.2.2.1<=maxLen∧y'.2.2.2.1*1=y'.2.1):Rk (L.set i y'):=
 ⟨oY h.nd hi hb,fun z b=>by
  rcases abD b with b|rfl
  .exact h.ok z b
  .exact d⟩
theorem Jv{L:GL}{c j e:Nat}{y:Nat×Nat×Xm}(h:((eP fR L).put y.1 (.out j e)).drop y.1 c=jp):c∉L.map Zu∨c=y.1:=by
 by_cases b:c=y.1
 .exact .inr b
 .unfold bd.drop bd.put at h;rw[be b,be b]at h;exact .inl (ua fR h)
def dvL(_:PV):List aj:=[]
theorem Vy{L:GL}(h:Rk L):Nv (eP fR L) (Uu (ofM L)) (.map (.int .i64) strs [] (.slice jp 0 0) dvL (ox L)):=by
 refine .map _ _ _ _ _ _ _ _ _ _ (by simp[ofM,ox]) (fun j D b=>?_) fun M=> .ki ..
 .unfold ox at b;rw[Y9,Zb]at b;obtain⟨y,d,rfl⟩:=b;obtain⟨A,u,x,B⟩:=h.ok y (Zv d);refine⟨(y.2.2.1,io (y.1,y.2.2.2.2.length,y.2.2.2.1)),.slice (io ⟨y.1,0,jp⟩) y.2.2.2.2.length y.2.2.2.1,?_,rfl,rfl,?_⟩
  .unfold ofM;rw[Y9,d];rfl
  .exact .row y.1 _ _ 1 y.2.1 _ _ (dd fR h.nd d) (by simp) u x (fN Z)
section
section
variable {p:Prog}
def vD(p:Prog)(i:Nat):aj:=(ns p).getD i em
theorem C5(hf:nj p){i j:Nat}(hi:i<(ns p).length)(hj:j<(ns p).length)(h:vD p i=vD p j):i=j:=by
 have b:=pW.Lh (fM hf.nodup);unfold vD at h;rw[YZ,YZ,Y3 hi,Y3 hj]at h;exact(abz b).1 h
end
end
theorem MM{p:Prog}(h:(dU p).1=0):(dz p).1=0∧dU p=aY.z:=by
 unfold dU at h ⊢;by_cases k1:(dz p).1=0
 .rw[be (by simpa using k1)]at h ⊢;refine⟨k1,?_⟩;cases hf:(p.rules.map (gL p)).find? fun d=>li (d.1≠0) with
  |none=>rfl
  |some d=>
   rw[hf]at h;have:=List.find?_some hf;simp only[decide_eq_true_eq]at this;exact absurd h this
 .rw[am k1]at h;exact absurd h k1
section
theorem IK{p:Prog}{r:ah}{n:Int}(h:(pF p r n).1=0): ∀l∈r.body,iR l=lc:=by
 intro l d;unfold pF at h;split at h
 .cases h
 .split at h
  .cases h
  .rename_i b;simpa using aat.1 b l d
section
variable (l:List (aj×Nat)) (c:List (List aj)) (rel:aj)
theorem fold_eq{α γ:Type}{g g':γ->α->γ}: ∀(l:List α) (b:γ),(∀x∈l,∀b,g b x=g' b x)->l.foldl g b=l.foldl g' b
 | [],_,_=>rfl
 |x::l,b,h=>by
  rw[Zw,Zw,h x (Zh ..)];exact fold_eq l _ fun y d=>h y (Zg _ d)
end
section
variable {p:Prog}
end
end
section
structure Ni (p q:Prog):Prop where
 aD:q.aD=p.aD
 len:q.rules.length=p.rules.length
 mem: ∀r,r∈q.rules↔r∈p.rules
section
variable {p q:Prog}
theorem Ni.symm(h:Ni p q):Ni q p:=⟨h.aD.symm,h.len.symm,fun r=>(h.mem r).symm⟩
structure LessR (p q:Prog):Prop where
 aD:q.aD=p.aD
 len:q.rules.length<=p.rules.length
 mem: ∀r∈q.rules,r∈p.rules
end
end
section
def dX{β:Type}(n:Nat)(f:Nat->Nat->β):List (List β):=(Zp n).map fun i=>(Zp n).map fun j=>f i j
section
variable {β:Type} {n:Nat} {f f':Nat->Nat->β}
theorem fm(n:Nat)(f:Nat->Nat->β):(dX n f).length=n:=by simp[dX]
theorem mh{i:Nat}(hi:i<n):(dX n f)[i]? =io ((Zp n).map fun j=>f i j):=by
 unfold dX;rw[Y9,aaZ hi];rfl
theorem rm{g:Nat->β}{j:Nat}(hj:j<n):((Zp n).map g)[j]? =io (g j):=by
 rw[Y9,aaZ hj];rfl
theorem xL{g g':Nat->β}{b:Nat}(hb:b<n)(h: ∀j,j<n->g' j=if j=b then g' b else g j):((Zp n).map g).set b (g' b)=(Zp n).map g':=by
 apply aaM;intro j;rw[ZM];rcases aab j n with hj|hj
 .rw[rm hj,rm hj];by_cases d:b=j
  .subst d;rw[am Z,am (by simpa using hb)]
  .rw[be d,h j hj,be (fun e=>d e.symm)]
 .rw[be (by omega),abd (by simpa using hj),abd (by simpa using hj)]
theorem Df{a b:Nat}(ha:a<n)(hb:b<n)(h: ∀i j,i<n->j<n->f' i j=if i=a∧j=b then f' a b else f i j):(dX n f).set a (((Zp n).map fun j=>f a j).set b (f' a b))=dX n f':=by
 have e:((Zp n).map fun j=>f a j).set b (f' a b)=(Zp n).map fun j=>f' a j:=xL hb fun j x=>by
  rw[h a j ha x];by_cases u:j=b
  .simp[u]
  .simp[u]
 rw[e];unfold dX;refine xL (g:=fun i=>(Zp n).map fun j=>f i j) (g':=fun i=>(Zp n).map fun j=>f' i j) ha fun i y=>?_;by_cases d:i=a
 .rw[am d,d]
 .rw[be d];refine aao fun j x=>?_;rw[h i j y (Z8.1 x),be (fun g=>d g.1)]
theorem mj(h: ∀i j,i<n->j<n->f i j=f' i j):dX n f=dX n f':=by
 unfold dX;exact aao fun i b=>aao fun j d=>h i j (Z8.1 b) (Z8.1 d)
end
def gF(p:Prog)(hs:List (aj×aj×Nat))(i j:Nat):Int:=gD hs (vD p i) (vD p j)
theorem UL{hs:List (aj×aj×Nat)}(h: ∀x∈hs,x.2.2<=2)(a b:aj):gD hs a b<=2:=by
 rcases SY hs a b with h1|h1
 .omega
 .exact h _ h1
theorem HO{p:Prog}(hf:nj p){hs:List (aj×aj×Nat)}{a b k:Nat}(ha:a<(ns p).length)(hb:b<(ns p).length)(i j:Nat)(hi:i<(ns p).length)(hj:j<(ns p).length):
  gF p (hs++ [(vD p a,vD p b,k)]) i j=if i=a∧j=b then gF p (hs++ [(vD p a,vD p b,k)]) a b else gF p hs i j:=by
 by_cases h:i=a∧j=b
 .rw[am h,h.1,h.2]
 .rw[be h];unfold gF;rw[HP,be];rintro⟨h1,h2⟩;exact h ⟨(C5 hf ha hi h1).symm,(C5 hf hb hj h2).symm⟩
theorem SV{p:Prog}{hs:List (aj×aj×Nat)}{a b k:Nat}:gF p (hs++ [(vD p a,vD p b,k)]) a b=max (gF p hs a b) k:=by
 unfold gF;rw[HP,am ⟨rfl,rfl⟩];show((max (gD hs (vD p a) (vD p b)) k:Nat):Int)=max (gD hs (vD p a) (vD p b):Int) (k:Int);omega
end
end Go.Proofs.YtflegjieadkonaaGreatDoor
namespace Go.Proofs.YtflegjieadkonaaGreatDoor
open Go Go.Al Go.Proofs.Tryz
theorem Nx{s x:aj}{a:List aj}(h:Op.bytesLess s.toList x.toList=kw):bW s (a,lc) x=(a++ [s]++ [x],kw):=by
 have b:JR s x:=(Bj s x).1 h;have d: ¬x=s:=fun e=>kA s (e▸b)
 have j:Op.bytesLess x.toList s.toList=lc:=by
  cases hc:Op.bytesLess x.toList s.toList with
  |false=>rfl
  |true=>exact absurd (vo b ((Bj x s).1 hc)) (kA s)
 simp[bW,d,j]
theorem Nz{s x:aj}{a:List aj}(h:s=x):bW s (a,lc) x=(a++ [x],kw):=by
 simp[bW,h]
theorem Ny{s x:aj}{a:List aj}(h:Op.bytesLess s.toList x.toList=lc)(h2: ¬s=x):bW s (a,lc) x=(a++ [x],lc):=by
 have b:JR x s:=Ho h2 fun g=>by rw[(Bj s x).2 g]at h;cases h
 have d: ¬x=s:=fun e=>h2 e.symm;simp[bW,d,(Bj x s).2 b]
theorem JV{s x:aj}{a:List aj}:bW s (a,kw) x=(a++ [x],kw):=by simp[bW]
theorem XF(l:List aj)(s:aj)(hb:l.length<=1000000000000):Pure prog 93 [.iv (strs l),pS s] (.iv (strs (b6 l s))):=by
 refine ae ab func93 Z (by decide) ntmps93 Z (by simp) Z ?_;refine gA Z ?_;refine fU 5 1 Z ?_;refine az 0 l.length (Y8 _) (fun i=>⟨[(0,.iv (strs l)),(1,pS s),(5,.sl 1 0 (iO l s i).1.length 1),(6,pB (iO l s i).2),(7,pI i)],[(1,io (aG 1 (iO l s i).1 cM))],2⟩) (fun _=>True) [0] ac
  (zM (bv (bv (bv ⟨.rA Z,rfl,bv trivial⟩))) (zS trivial)) fun i S _=>?_
 have F:=ra l s i S;have I:(iO l s i).1.length<=i+1:=by split at F<;>omega
 have G:=sB (l:=l) (s:=s) (i:=i);have J:=sA (l:=l) (s:=s) (i:=i);generalize iO l s i=A at*
 obtain⟨a,b⟩:=A;refine zJ Z Z (fun u=>?_) fun u=>?_
 .have u:=ci u;have d:=J u;refine zJ Z Z (fun j=>?_) fun j=>?_
  .have j:(!b)=kw:=j;have B:b=lc:=by simpa using j
   subst B;refine zJ Z Z (fun x=>?_) fun x=>?_
   .have x:(Op.bytesLess s.toList (l.getD i em).toList||decide (s=l.getD i em))=kw:=x;refine zJ Z Z (fun y=>?_) fun y=>?_
    .have y:Op.bytesLess s.toList (l.getD i em).toList=kw:=y;rw[Nx y]at d;refine gA Z ⟨u,ac,[5],zM (bv (bv ⟨.row (by rw[d];simp),rfl,.rA (by rw[d]),rfl,bv ac⟩)) (hR Z (by rw[d,Y6,Y6];rfl) Z ac)⟩
    .have y:Op.bytesLess s.toList (l.getD i em).toList=lc:=y;rw[y,aag,decide_eq_true_eq]at x;rw[Nz x]at d;refine gA Z ⟨u,ac,[3],zM (bv (bv ⟨.row (by rw[d];simp),rfl,.rA (by rw[d]),rfl,bv ac⟩)) (hR Z (by rw[d];simp;rfl) Z ac)⟩
   .have x:(Op.bytesLess s.toList (l.getD i em).toList||decide (s=l.getD i em))=lc:=x;rw[Zz,decide_eq_false_iff_not]at x;rw[Ny x.1 x.2]at d;refine gA Z ⟨u,ac,[3],zM (bv (bv ⟨.row (by rw[d];simp),rfl,.of_eq (by rw[d];rfl),rfl,bv ac⟩)) (hR Z (by rw[d];simp;rfl) Z ac)⟩
  .have j:(!b)=lc:=j;have D:b=kw:=by simpa using j
   subst D;rw[JV]at d;refine gA Z ⟨u,ac,[3],zM (bv (bv ⟨.row (by rw[d];simp),rfl,.of_eq (by rw[d];rfl),rfl,bv ac⟩)) (hR Z (by rw[d];simp;rfl) Z ac)⟩
 .have u:=co u;rw[G u];refine zJ Z Z (fun j=>?_) fun j=>?_
  .have j:(!b)=kw:=j;have B:b=lc:=by simpa using j
   subst B;show GO _ _ _ (Fl pC f93.results.toList (.iv (strs (a++ [s])))) _;refine gA Z (cx (by first|exact .inr Z|exact .inl Z) Z Z ((by rw[Y6];rfl)) ((by rw[Y1];rfl)))
  .have j:(!b)=lc:=j;have D:b=kw:=by simpa using j
   subst D;show GO _ _ _ (Fl pC f93.results.toList (.iv (strs a))) _;refine gA Z (cx (by first|exact .inr Z|exact .inl Z) Z Z (rfl) (rfl))
theorem FX(p:Prog)(i:Nat):(((p.aD.take i).map Decl.name).foldl b6 []).length<=i:=by
 have h:=eL ((p.aD.take i).map Decl.name) [];unfold cv at h;simp only[aad,Zq,Zx,ZP]at h;omega
theorem Pn(p:Prog)(hb:p.aD.length<=1000000000):Pure prog 54 [ag p.c] (.iv (strs ((p.aD.map Decl.name).foldl b6 []))):=by
 refine ae ab func54 Z (by decide) ntmps54 Z (by simp) Z ?_;refine gA Z ?_;refine az 0 p.aD.length (Y8 _) (fun i=>⟨[(1,.ptr 0 0),(3,.iv (strs (((p.aD.take i).map Decl.name).foldl b6 []))),(4,pI i)],[(0,io (an p.c))],1⟩) (fun _=>True) [] ac
  (zM (bv ⟨.nil _ _,rfl,bv trivial⟩) (zK trivial)) fun i j _=>?_
 have u:=FX p i;refine zJ Z Z (fun b=>?_) fun b=>?_
 .have b:=ci b;have d:((p.aD.take (i+1)).map Decl.name).foldl b6 []=b6 (((p.aD.take i).map Decl.name).foldl b6 []) (p.aD.getD i em).name:=by
   rw[bz b,Y6,aax];rfl
  refine gA Z (zp (XF (((p.aD.take i).map Decl.name).foldl b6 []) (p.aD.getD i em).name (by omega)) ?_);refine gA Z ⟨b,ac,[],zM (bv ⟨.of_eq (by rw[d];rfl),rfl,bv ac⟩) (zK ac)⟩
 .have b:=co b;rw[Za b];exact zU Z
theorem Pm{p:Prog}(hf:nj p):Pure prog 54 [ag p.c] (.iv (strs (ns p))):=by
 have h:=Pn p (by have:=hf.len;omega);have e:(p.aD.map Decl.name).foldl b6 []=ns p:=by
  rw[<-I5 hf.nodup];exact fold_eq _ _ fun x _ b=>q9 b x
 rwa[e]at h
abbrev JO(l:List aj)(s:aj):Int:=tm (fun x:aj=>li (x=s)) l
theorem rk(l:List aj)(s:aj):Pure prog 94 [.iv (strs l),pS s] (pI (JO l s)):=by
 refine my (bH func94 Z (by decide)) ⟨_,_,Zh⟩ fun j=>?_;simp only[maxLen]at j;refine ae ab func94 Z (by decide) ntmps94 Z (by simp) Z ?_;refine gA Z ?_
 refine az 0 l.length (Y8 _) (fun i=>⟨[(0,.iv (strs l)),(1,pS s),(5,pI i)],[],0⟩) (fun i=>(l.take i).any (fun x=>li (x=s))=lc) [] Z
  (mZ Z Z (bv (bv (bv trivial))) Z) fun i y u=>?_
 refine zJ Z Z (fun b=>?_) fun b=>?_
 .have b:=ci b;refine zJ Z Z (fun d=>?_) fun d=>?_
  .have d:l.getD i em=s:=zT d;refine gA Z (zL (.of_eq ?_));rw[JO,jf u b (decide_eq_true d)];rfl
  .have d: ¬l.getD i em=s:=zF d;refine gA Z ⟨b,(aW u b).2 (by simpa using d),[],mZ Z Z (bv (bv (bv ac))) Z⟩
 .have b:=co b;refine gA Z (zL (.of_eq ?_));rw[JO,iK (any_none u b)];rfl
theorem G2(l:List aj)(s:aj)(_:l.length<=1000000000000):Pure prog 94 [.iv (strs l),pS s] (pI (JO l s)):=rk l s
theorem Wi(l:List aj)(s:aj):li (JO l s<0)=!aE l s:=by
 have h:li (JO l s>=0)=aE l s:=jZ _ l;rw[<-h,<-decide_not,decide_eq_decide];omega
theorem K3{p:Prog}(hf:nj p){i:Nat}(hi:i<(ns p).length):JO (ns p) (vD p i)=i:=by
 refine jf ?_ hi (decide_eq_true Z);rw[ZU];intro y d;obtain⟨j,u,rfl⟩:=abE.1 d;rw[decide_eq_true_eq];intro g;have b:j<(ns p).length:=by omega
 have:vD p j=vD p i:=by
  rw[<-g];unfold vD;rw[YZ,Y3 b];rfl
 have:=C5 hf b hi this;omega
theorem Gu{b:List Lit}{i:Nat}(h:i<b.length):((b.take (i+1)).filter fun x=>li (x.kind=1∨x.kind=2)).map (fun x=>x.atom.rel)=((b.take i).filter fun x=>li (x.kind=1∨x.kind=2)).map (fun x=>x.atom.rel)++(if(b.getD i em).kind=1∨(b.getD i em).kind=2 then[(b.getD i em).atom.rel] else[]):=by
 rw[bz h,abc,Y6];congr 1;by_cases d:(b.getD i em).kind=1∨(b.getD i em).kind=2
 .simp only[aaw,d,decide_true,if_true,List.filter_nil,Zm,Z2]
 .simp only[aaw,d,decide_false,if_false,List.filter_nil,Z2,aaz]
end Go.Proofs.YtflegjieadkonaaGreatDoor
namespace Go.Proofs.YtflegjieadkonaaGreatDoor
open Go Go.Al
section
section
variable {β:Type} (el:β->List IV)
abbrev wy(β:Type):=List (Nat×Nat×Nat×List β)
def fT(x:Nat×List β):AO:=aG 1 x.2 el
def IN(n:Nat)(L:wy β):List (List PV):=L.map fun y=> [PV.iv (PO (io (y.1,n,y.2.2.1)))]
def sY(n:Nat)(y:Nat×Nat×Nat×List β):List IV:=[PO (io (y.1,n,y.2.2.1))]
abbrev rO(n:Nat)(L:wy β):AO:=aG 1 L (sY n)
def dD(L:wy β):List (List β):=L.map fun y=>y.2.2.2
abbrev lD[Inhabited β](r:List β):List IV:=[cZ 1 r el]
structure zb (n:Nat) (L:wy β):Prop where
 nd:(L.map Zu).Nodup
 ok: ∀y∈L,y.2.2.2.length=n∧n<=y.2.2.1∧y.2.2.1<=maxLen∧y.2.2.1*1=y.2.1
theorem GK(n:Nat):zb n ([]:wy β):=⟨Z3,fun _ h=>(nomatch h)⟩
theorem C9{n:Nat}{L:wy β}{y:Nat×Nat×Nat×List β}(h:zb n L)(hb:y.1∉L.map Zu)(b:y.2.2.2.length=n∧n<=y.2.2.1∧y.2.2.1<=maxLen∧y.2.2.1*1=y.2.1):zb n (L++ [y]):=
 ⟨ql h.nd hb,fun z hz=>by
  rcases Zf.1 hz with hz|hz
  .exact h.ok z hz
  .rw[Zd]at hz;subst hz;exact b⟩
def pZ(L:wy β)(a:Nat)(y:Nat×Nat×Nat×List β)(r:List β):wy β:=L.set a (y.1,y.2.1,y.2.2.1,r)
theorem BC{n a:Nat}{L:wy β}{y:Nat×Nat×Nat×List β}{r:List β}(h:zb n L)(d:L[a]? =io y)(hr:r.length=n):zb n (pZ L a y r):=
 ⟨oY h.nd d (.inr Z),fun z b=>by
  rcases abD b with b|rfl
  .exact h.ok z b
  .exact⟨hr,(h.ok y (Zv d)).2⟩⟩
theorem PN{n a:Nat}{L:wy β}{y:Nat×Nat×Nat×List β}{r:List β}(b:L[a]? =io y):IN n (pZ L a y r)=IN n L:=by
 apply aaM;intro j;unfold IN pZ;rw[Y9,Y9,ZM];by_cases h:a=j
 .subst h;rw[am Z,am (Y4.1 b).1,b];rfl
 .rw[be h]
theorem FK{n a:Nat}{L:wy β}{y:Nat×Nat×Nat×List β}{r:List β}(b:L[a]? =io y):(pZ L a y r).map (fun x=>(sY n x).map PV.iv)=L.map fun x=>(sY n x).map PV.iv:=PN (n:=n) b
theorem og{n a j e:Nat}{L:wy β}{y:Nat×Nat×Nat×List β}{r:List β}(h:zb n L)(D:L[a]? =io y):((eP (fT el) L).put y.1 (.out j e)).put y.1 (.obj (aG 1 r el) y.2.1)=eP (fT el) (pZ L a y r):=by
 have d:=oY (y':=(y.1,y.2.1,y.2.2.1,r)) h.nd D (.inr Z);have F:=(Y4.1 D).1;rw[bd.Hg]
 funext c
 unfold bd.put;by_cases u:c=y.1
 .subst u;rw[am Z];exact(dd (fT el) d (j:=a) (y:=(y.1,y.2.1,y.2.2.1,r)) (by rw[ZM,am Z,am F])).symm
 .rw[be u];by_cases A:c∈L.map Zu
  .obtain⟨z,G,rfl⟩:=ZD.1 A;obtain⟨k,b⟩:=ZY G;have x: ¬a=k:=fun g=>u (by subst g;rw[D]at b;cases b;rfl);rw[dd (fT el) h.nd b];exact(dd (fT el) d (j:=k) (by rw[ZM,be x];exact b)).symm
  .rw[kv (fT el) A];refine(kv (fT el) ?_).symm;unfold pZ;rw[aaJ];intro B;obtain⟨k,b⟩:=ZY B;rw[ZM]at b;split at b
   .rw[am (by simpa using F)]at b;cases b;exact u Z
   .exact A (Zv b)
theorem BE{a:Nat}{L:wy β}{y:Nat×Nat×Nat×List β}{r:List β}:dD (pZ L a y r)=(dD L).set a r:=by
 unfold dD pZ;rw[aaJ]
theorem Fx{a:Nat}{L:wy β}{y:Nat×Nat×Nat×List β}(b:L[a]? =io y):(dD L)[a]? =io y.2.2.2:=by
 unfold dD;rw[Y9,b];rfl
theorem Vz[Inhabited β]{n:Nat}{L:wy β}(h:zb n L):Nv (eP (fT el) L) (.row 1 (IN n L)) (aG 1 (dD L) (lD el)):=by
 refine .row 1 _ _ (by simp[IN,dD]) fun k D d=>?_;unfold dD at d;rw[aaQ,Y9,Zb]at d;obtain⟨y,u,rfl⟩:=d;refine⟨[PV.iv (PO (io (y.1,n,y.2.2.1)))],by unfold IN;rw[Y9,u];rfl,rfl,fun j G b=>?_⟩
 match j,b with
 |0,b=>
  cases b;obtain⟨x,A,B,F⟩:=h.ok y (Zv u);refine⟨_,rfl,.inr ⟨_,_,rfl,rfl,?_⟩⟩;show Up _ (.slice (io ⟨y.1,0,jp⟩) n y.2.2.1) (cZ 1 y.2.2.2 el);rw[<-x];exact .row y.1 _ _ 1 y.2.1 _ _ (dd (fT el) h.nd u) (by simp) (by rw[x];exact A) B (fN Z)
 |j+1,b=>exact nomatch b
theorem jG{r:List β}:(aG 1 r el).all PV.flat:=by
 intro e b q d;obtain⟨s,_,rfl⟩:=ZD.1 b;obtain⟨x,_,rfl⟩:=ZD.1 d;trivial
end
end
end Go.Proofs.YtflegjieadkonaaGreatDoor
namespace Go.Proofs.YtflegjieadkonaaGreatDoor
open Go Go.Al Go.Proofs.Tryz
theorem SM(l:Lit)(h:l.size<=100000000000):Pure prog 95 [ag l.c] (.iv (strs (B9 l))):=by
 have F:=Lit.au l.ar;have I:=l.size_eq;refine Al.Pure.le (aa:=[ag l.c]) (args:=[ag l.c1]) ?_ ⟨l.zr,ac⟩;unfold B9;refine ae ab func95 Z (by decide) ntmps95 Z (by simp) Z ?_;refine zJ Z Z (fun k1=>?_) fun k1=>?_
 .have k1:l.kind=1:=zT k1;rw[am (.inl k1)];refine gA Z (cx (by first|exact .inr Z|exact .inl Z) Z Z (rfl) (rfl))
 have k1: ¬l.kind=1:=zF k1;refine zJ Z Z (fun D=>?_) fun D=>?_
 .have D:l.kind=2:=zT D;rw[am (.inr D)];refine gA Z (cx (by first|exact .inr Z|exact .inl Z) Z Z (rfl) (rfl))
 have D: ¬l.kind=2:=zF D;rw[be (by omega)];refine zE Z Z (fun u=>?_) fun u=>?_
 .have u: ¬l.kind=4:=zF u;rw[be u];refine gA Z (zL ?_);exact .nil _ _
 have u:l.kind=4:=zT u;rw[am u]
 let B:List Lit->List aj:=fun b=>(b.filter fun x=>li (x.kind=1∨x.kind=2)).map fun x=>x.atom.rel
 refine gA Z ?_;refine fU 3 1 Z ?_;refine az 0 l.ar.length (Y8 _) (fun i=>⟨[(1,.ptr 0 0),(3,.sl 2 0 (B (l.ar.take i)).length 1),(4,pI i)],[(0,io (an l.c1)),(2,io (aG 1 (B (l.ar.take i)) cM))],3⟩) (fun _=>True) [1] ac
  (zW (zK (zS trivial))) fun i J _=>?_
 have G:(B (l.ar.take i)).length<=l.ar.length:=by
  show((List.filter _ (l.ar.take i)).map _).length<=_;rw[Zx];exact ZS (aae _ _) (by rw[ZP];omega)
 refine zJ Z Z (fun j=>?_) fun j=>?_
 .have j:=ci j;have d:B (l.ar.take (i+1))=B (l.ar.take i)++(if(l.ar.getD i em).kind=1∨(l.ar.getD i em).kind=2 then[(l.ar.getD i em).atom.rel] else[]):=Gu j;refine zJ Z Z (fun y=>?_) fun y=>?_
  .have y: ¬(l.ar.getD i em).kind=1:=zF y;refine zJ Z Z (fun A=>?_) fun A=>?_
   .have A:(l.ar.getD i em).kind=2:=zT A;rw[am (.inr A)]at d;refine gA Z ⟨j,ac,[4],zM (bv ⟨.row (by rw[d,Y1];rfl),rfl,bv ac⟩) (zK (hR Z (by rw[d,Y6];rfl) Z ac))⟩
   .have A: ¬(l.ar.getD i em).kind=2:=zF A;rw[be (by omega),ZE]at d;refine gA Z ⟨j,ac,[2],zM (bv ⟨.row (by rw[d]),rfl,bv ac⟩) (zK (hR Z (by rw[d]) Z ac))⟩
  .have y:(l.ar.getD i em).kind=1:=zT y;rw[am (.inl y)]at d;refine gA Z ⟨j,ac,[4],zM (bv ⟨.row (by rw[d,Y1];rfl),rfl,bv ac⟩) (zK (hR Z (by rw[d,Y6];rfl) Z ac))⟩
 .have j:=co j;rw[Za j];refine gA Z (cx (by first|exact .inr Z|exact .inl Z) Z Z (rfl) (rfl))
theorem uZ{β:Type}{a:Nat}{L:wy β}{y:Nat×Nat×Nat×List β}(b:L[a]? =io y):pZ L a y y.2.2.2=L:=by
 unfold pZ;apply aaM;intro j;rw[ZM];by_cases h:a=j
 .subst h;rw[am Z,am (Y4.1 b).1,b]
 .rw[be h]
theorem HD{x:aj×aj×Nat}{r:ah}{l:Lit}(h:x∈mL r l):x.2.2<=2:=by
 obtain⟨t,_,rfl⟩:=ZD.1 h;exact HC l
theorem LS{x:aj×aj×Nat}{r:ah}(h:x∈uv r):x.2.2<=2:=by
 obtain⟨l,_,h⟩:=aaT.1 h;exact HD h
theorem Pp{p:Prog}(hf:nj p)(hb:p.fit):Pure prog 55 [ag p.c,.iv (strs (ns p))] (.iv (cZ 1 (dX (ns p).length (gF p (c5 p))) (lD ba))):=by
 have hn:=vl hf;refine ae ab func55 Z (by decide) ntmps55 Z (by simp) Z ?_
 let n:=(ns p).length
 refine HE ?_;refine aJ (bZ ?_);refine gA Z ?_;refine aJ (bZ ?_);refine gA Z ?_;refine aJ (aJ (fS ⟨[(1,.iv (strs (ns p))),(2,.ptr 0 0),(5,.sl 1 0 0 1),(6,pI 0)],[(0,io (an p.c)),(1,io (rO n ([]:wy Int)))],2⟩ ?_ ?_))
 .refine fU 5 1 Z ?_;refine gA Z (fJ [1] ?_);exact zW (zK (zS ac))
 refine bS (j5 0 n (Y8 _) (fun i (x:ULift.{1} (wy Int))=>⟨[(1,.iv (strs (ns p))),(2,.ptr 0 0),(5,.sl 2 0 i 1),(6,pI i)],[(0,io (an p.c)),(2,io (rO n x.down))],3⟩)
  (fun i x Y=>Y=eP (fT ba) x.down∧zb n x.down∧dD x.down=(dX n fun _ _=>(0:Int)).take i) ⟨[]⟩ [1] ⟨rfl,GK n,rfl⟩
  (zW (zK (zS ac))) (fun _ _ _ h=>h.1▸cO (fT ba) _) fun i x Y hi hJ=>?_)
 obtain⟨rfl,A,u⟩:=hJ;obtain⟨L⟩:=x;have A:zb n L:=A;have u:dD L=(dX n fun _ _=>(0:Int)).take i:=u;have j1:L.length=i:=by
  have:=congrArg abt u;rw[ZP,fm]at this;unfold dD at this;rw[Zx]at this;omega
 refine aJ (aJ (bZ ?_));refine gA Z ?_;refine dB Z (fun h1=>dQ ?_) (fun h1=>gG ?_)
 .have h1:=ci h1;refine aJ (bS (iL (bE 3 ?_)));refine gA Z ?_;refine bE 1 ?_;refine Ez ab n n Z Z Z Z Z Z Z Z Z (by omega) (by omega) (by show 8*n<=_;omega) Z (by decide) (z:=[pI 0]) Z (.inr ⟨rfl,rfl⟩) Z ?_;refine gA Z ?_;refine eF (xu (i:=3) (o':=aG 1 ((Zp n).map fun _=>(0:Int)) ba) Z (.of_eq ?_)) fun t Y F=>?_
  .show AO.row 1 (aaX n [pI 0])=AO.row 1 (((Zp n).map fun _=>(0:Int)).map fun x=>(ba x).map PV.iv);rw[aaQ];congr 1;apply aaM;intro j;rw[aa6,Y9];rcases aab j n with hj|hj
   .rw[am hj,aaZ hj];rfl
   .rw[be (by omega),abd (by simpa using hj)];rfl
  obtain⟨rfl,rfl⟩:=F
  refine eF (re (i:=3) (d:=23) (cO (fT ba) L) Z (by
   show(AO.row 1 (((Zp n).map fun _=>(0:Int)).map fun x=>(ba x).map PV.iv)).real=kw;have:0<n:=by omega
   obtain⟨m,hm⟩: ∃m,n=m+1:=⟨n-1,by omega⟩
   rw[hm,abp];rfl) (jG ba) Z (by omega)) fun t Y F=>?_
  obtain⟨b,e,v0,n1,g1,g2,g3,rfl,rfl⟩:=F;refine bE 3 ?_;refine gA Z ?_;refine fb (jv (bZ ?_));refine gA Z ?_;have y0:=ua (fT ba) n1
  exact⟨h1,⟨L++ [(b,e,v0,(Zp n).map fun _=>(0:Int))]⟩,[5],⟨sR (fT ba) (y:=(b,e,v0,(Zp n).map fun _=>(0:Int))) A.nd y0,C9 A y0 ⟨by simp,g1,g2,g3⟩,by
   show dD (L++ [_])=_;rw[bz (by rw[fm];exact h1),<-u];unfold dD;rw[Y6];congr 1
   rw[YZ,mh h1];rfl⟩,zM (bv (bv ⟨.row Z,rfl,bv ac⟩)) (zK (hR Z (by rw[Y6];rfl) Z ac))⟩
 have h1:=co h1;have u:dD L=dX n (gF p []):=by rw[u,Za (by rw[fm];exact h1)];rfl
 clear j1;have x1:p.rules.length<=1000000000:=hb.2.1
 let G:Nat->List (aj×aj×Nat):=fun r=>(p.rules.take r).flatMap uv
 change GX _ _ [.code _] _ _ _;refine aJ (aJ (fS ⟨[(1,.iv (strs (ns p))),(2,.ptr 0 0),(5,.sl 2 0 n 1),(7,pI 0)],[(0,io (an p.c)),(2,io (rO n L))],3⟩ ?_ ?_))
 .have o1:i=n:=by omega
  subst o1;refine gA Z (fJ [] ?_);exact zW (zK (zS ac))
 refine bS (j5 0 p.rules.length (Y8 _) (fun r (x:ULift.{1} (wy Int))=>⟨[(1,.iv (strs (ns p))),(2,.ptr 0 0),(5,.sl 2 0 n 1),(7,pI r)],[(0,io (an p.c)),(2,io (rO n x.down))],3⟩)
  (fun r x Y=>Y=eP (fT ba) x.down∧zb n x.down∧dD x.down=dX n (gF p (G r))) ⟨L⟩ [] ⟨rfl,A,u⟩
  (zW (zK (zS ac))) (fun _ _ _ h=>h.1▸cO (fT ba) _) fun r x Y hr hJ=>?_)
 clear A u;obtain⟨rfl,A,u⟩:=hJ;obtain⟨L⟩:=x;have A:zb n L:=A;have u:dD L=dX n (gF p (G r)):=u;refine aJ (aJ (bZ ?_));refine gA Z ?_;refine dB Z (fun h2=>dQ ?_) (fun h2=>gG ?_);rotate_left
 .have h2:p.rules.length<=r:=by simpa using h2
  have i1:G r=c5 p:=by show((p.rules.take r).flatMap uv)=_;rw[Za h2];rfl
  rw[i1]at u;change GX _ _ [.code _] _ _ _;refine Eu (BF (i:=2) (o':=aG 1 (dD L) (lD ba)) Z (Vz ba A)) fun t Y F=>?_;obtain⟨rfl,rfl⟩:=F;have f1:(dD L).length=n:=by rw[u,fm]
  refine bZ ?_;rw[<-u];refine gA Z (rE (.inr Z) Z (lB.KP 2 (dD L) (lD ba) Z Z (by rw[f1];show PV.dc 2 1 n (.sl 2 0 n 1);simp[PV.dc]) (.done ?_)));have e:cZ 1 (dD L) (lD ba)= .dh 1 n fun k=>lD ba ((dD L).getD k em):=by unfold cZ;rw[f1]
  rw[e];show aL (.iv (.dh 1 n fun k=>lD ba ((dD L).getD (0+k) em))) _;simp only[Zq];exact .refl _
 have h2:r<p.rules.length:=by simpa using h2
 have f0:p.rules.getD r em∈p.rules:=cT h2;have w0:G (r+1)=G r++uv (p.rules.getD r em):=by show((p.rules.take (r+1)).flatMap uv)=_;rw[bz h2,aa7];simp;rfl
 have k0:=hb.2.2 _ f0;have e0:=k0.1;have b0:=hf.yl _ f0;have c0:=hf.lits _ f0;have a0:=hf.flat _ f0;have m1:(p.rules.getD r em).body.length<=10000000:=by have:=Lit.au (p.rules.getD r em).body;unfold ah.size at e0;omega
 obtain⟨D,g0,i0⟩:=Go.Rg.rv (V:=ns p) (a:=(p.rules.getD r em).head.rel) (by rw[ns,gq];exact b0);have i0:vD p D=(p.rules.getD r em).head.rel:=i0;have b1:=G2 (ns p) (p.rules.getD r em).head.rel (by omega);have e1:=K3 hf g0;rw[i0]at e1;rw[show JO (ns p) (p.rules.getD r em).head.rel=(D:Int) from e1]at b1;refine aJ (bS (aJ (bZ ?_)));refine gA Z (zp (b1) ?_);refine gA Z ?_;refine aJ (fS ⟨[(1,.iv (strs (ns p))),(2,.ptr 0 0),(5,.sl 2 0 n 1),(7,pI r),(8,pI D),(9,pI 0)],[(0,io (an p.c)),(2,io (rO n L))],3⟩ ?_ ?_)
 .refine gA Z (fJ [] ?_);exact zW (zK (zS ac))
 generalize l1:p.rules.getD r em=R at f0 w0 k0 e0 b0 c0 a0 m1 i0
 refine bS (j5 0 R.body.length (Y8 _) (fun i (x:ULift.{1} (wy Int))=>⟨[(1,.iv (strs (ns p))),(2,.ptr 0 0),(5,.sl 2 0 n 1),(7,pI r),(8,pI D),(9,pI i)],[(0,io (an p.c)),(2,io (rO n x.down))],3⟩)
  (fun i x Y=>Y=eP (fT ba) x.down∧zb n x.down∧dD x.down=dX n (gF p (G r++(R.body.take i).flatMap (mL R)))) ⟨L⟩ [] ⟨rfl,A,by rw[List.take_zero,List.flatMap_nil,ZE];exact u⟩
  (zW (zK (zS ac))) (fun _ _ _ h=>h.1▸cO (fT ba) _) fun i x Y v1 hJ=>?_)
 clear A u;obtain⟨rfl,A,u⟩:=hJ;obtain⟨L⟩:=x;have A:zb n L:=A;have u:dD L=dX n (gF p (G r++(R.body.take i).flatMap (mL R))):=u;refine aJ (aJ (bZ ?_));subst l1;refine gA Z ?_;refine dB Z (fun h3=>dQ ?_) (fun h3=>gG ?_);rotate_left
 .have h3:(p.rules.getD r em).body.length<=i:=by simpa using h3
  rw[Za h3,show G r++(p.rules.getD r em).body.flatMap (mL (p.rules.getD r em))=G (r+1) from w0.symm]at u;change GX _ _ (.code _::_) _ _ _;refine bZ ?_;refine gA Z ⟨h2,⟨L⟩,[],⟨rfl,A,u⟩,zW (zK (zS ac))⟩
 have h3:i<(p.rules.getD r em).body.length:=by simpa using h3
 have hl:(p.rules.getD r em).body.getD i em∈(p.rules.getD r em).body:=cT h3;have x0:((p.rules.getD r em).body.take (i+1)).flatMap (mL (p.rules.getD r em))=((p.rules.getD r em).body.take i).flatMap (mL (p.rules.getD r em))++mL (p.rules.getD r em) ((p.rules.getD r em).body.getD i em):=by rw[bz h3,aa7];simp
 have s0:((p.rules.getD r em).body.getD i em).size<=10000000:=by have:=Lit.aI (p.rules.getD r em).body i h3;unfold ah.size at e0;omega
 have n0:=c0 _ hl;have s1:=x8 _ (a0 _ hl);have r1:=kz ((p.rules.getD r em).body.getD i em);refine aJ (bS (aJ (bZ ?_)));refine gA Z ?_;refine aJ (bZ ?_);refine gA Z (zp (SM ((p.rules.getD r em).body.getD i em) (by omega)) ?_);refine gA Z ?_;rw[<-s1];refine aJ (fS ⟨[(1,.iv (strs (ns p))),(2,.ptr 0 0),(5,.sl 2 0 n 1),(7,pI r),(8,pI D),(9,pI i),(10,.ptr 3 0),(11,.iv (strs (named ((p.rules.getD r em).body.getD i em)))),(12,pI 0)],[(0,io (an p.c)),(2,io (rO n L)),(3,io (an ((p.rules.getD r em).body.getD i em).c))],4⟩ ?_ ?_)
 .refine gA Z (fJ [] ?_);exact zW (zK (zS (zK ac)))
 generalize w1:(p.rules.getD r em).body.getD i em=l at hl x0 s0 n0 r1;generalize a1:G r++((p.rules.getD r em).body.take i).flatMap (mL (p.rules.getD r em))=hs0 at u
 refine bS (j5 0 (named l).length (Y8 _) (fun k (x:ULift.{1} (wy Int))=>⟨[(1,.iv (strs (ns p))),(2,.ptr 0 0),(5,.sl 2 0 n 1),(7,pI r),(8,pI D),(9,pI i),(10,.ptr 3 0),(11,.iv (strs (named l))),(12,pI k)],[(0,io (an p.c)),(2,io (rO n x.down)),(3,io (an l.c))],4⟩)
  (fun k x Y=>Y=eP (fT ba) x.down∧zb n x.down∧dD x.down=dX n (gF p (hs0++((named l).take k).map fun t=>((p.rules.getD r em).head.rel,t,gx l)))) ⟨L⟩ [] ⟨rfl,A,by rw[List.take_zero,Z2,ZE];exact u⟩
  (zW (zK (zS (zK ac)))) (fun _ _ _ h=>h.1▸cO (fT ba) _) fun k x Y hk hJ=>?_)
 clear A u;obtain⟨rfl,A,u⟩:=hJ;obtain⟨L⟩:=x;have A:zb n L:=A;have u:dD L=dX n (gF p (hs0++((named l).take k).map fun t=>((p.rules.getD r em).head.rel,t,gx l))):=u;refine aJ (aJ (bZ ?_));refine gA Z ?_;refine dB Z (fun h4=>dQ ?_) (fun h4=>gG ?_);rotate_left
 .have h4:=co h4;rw[Za h4,<-a1,Zc,show(named l).map (fun t=>((p.rules.getD r em).head.rel,t,gx l))=mL (p.rules.getD r em) l from rfl,<-x0]at u;change GX _ _ (.code _::_) _ _ _;refine bZ ?_;refine gA Z ⟨h3,⟨L⟩,[],⟨rfl,A,u⟩,zW (zK (zS ac))⟩
 have h4:=ci h4;obtain⟨B,j0,q0⟩:=Go.Rg.rv (V:=ns p) (a:=(named l).getD k em) (by rw[ns,gq];exact n0 _ (cT h4));have q0:vD p B=(named l).getD k em:=q0;have d1:=G2 (ns p) ((named l).getD k em) (by omega);have o0:=K3 hf j0;rw[q0]at o0;rw[show JO (ns p) ((named l).getD k em)=(B:Int) from o0]at d1
 let T2:AS:=⟨[(1,.iv (strs (ns p))),(2,.ptr 0 0),(5,.sl 2 0 n 1),(7,pI r),(8,pI D),(9,pI i),(10,.ptr 3 0),(11,.iv (strs (named l))),(12,pI k),(13,pI B)],[(0,io (an p.c)),(2,io (rO n L)),(3,io (an l.c))],4⟩
 refine aJ (bS (aJ (fS T2 ?_ ?_)))
 .refine gA Z (zp (d1) ?_);refine gA Z (fJ [] ?_);exact zW (zK (zS (zK ac)))
 refine aJ (fS T2 ?_ ?_)
 .refine zE Z Z (fun q1=>?_) fun q1=>?_
  .have:=zT (show li ((D:Int)<0)=kw from q1);omega
  refine zJ Z Z (fun q2=>?_) fun q2=>?_
  .have:=zT (show li ((B:Int)<0)=kw from q2);omega
  refine gA Z (fJ [] ?_);exact zW (zK (zS (zK ac)))
 have hL:L.length=n:=by
  have:=congrArg abt u;rw[fm]at this;unfold dD at this;rwa[Zx]at this
 have p1:D<L.length:=by omega
 obtain⟨y,I⟩: ∃y,L[D]? =io y:=⟨_,Y3 p1⟩
 obtain⟨k1,k2,k3,k4⟩:=A.ok y (Zv I);have S:(hs0++((named l).take k).map fun t=>((p.rules.getD r em).head.rel,t,gx l))++ [(vD p D,vD p B,gx l)]=hs0++((named l).take (k+1)).map fun t=>((p.rules.getD r em).head.rel,t,gx l):=by
  rw[bz h4,Y6,Zc,i0,q0];rfl
 have m0: ∀x∈hs0++((named l).take k).map (fun t=>((p.rules.getD r em).head.rel,t,gx l)),x.2.2<=2:=fun x hx=>by
  rw[<-a1]at hx;rcases Zf.1 hx with hx|hx
  .rcases Zf.1 hx with hx|hx
   .obtain⟨_,_,hx⟩:=aaT.1 hx;exact LS hx
   .obtain⟨_,_,hx⟩:=aaT.1 hx;exact HD hx
  .obtain⟨t,_,rfl⟩:=ZD.1 hx;exact HC l
 generalize hs0++((named l).take k).map (fun t=>((p.rules.getD r em).head.rel,t,gx l))=hs1 at u S m0;have t0:y.2.2.2=(Zp n).map fun j=>gF p hs1 D j:=by
  have:=Fx I;rw[u,mh g0]at this;exact(Z0 this).symm
 have d0:=Df (n:=n) (f:=gF p hs1) (f':=gF p (hs1++ [(vD p D,vD p B,gx l)])) g0 j0 (HO hf g0 j0);rw[SV]at d0;have t1:0<=gF p hs1 D B:=Int.natCast_nonneg _;have u1:gF p hs1 D B<=2:=by
  have:=UL m0 (vD p D) (vD p B);unfold gF;omega
 have J: ∀r:List Int,r.length=n->(aG 1 r ba).real=kw:=fun r hr=>by
  cases r with
  |nil=>simp at hr;omega
  |cons=>rfl
 refine aJ (bZ ?_);refine gA Z ?_;refine dB Z (fun q3=>?_) (fun q3=>?_)
 .have q3: ¬l.kind=1:=zX q3;have hh:gx l=2:=by rw[gx,be q3]
  have hm:max (gF p hs1 D B) (gx l:Int)=2:=by rw[hh];omega
  refine iL (bE 3 ?_);refine gA Z ?_;refine bE 1 ?_;refine bp ab Z Z Z Z Z (show(L.map fun x=>(sY n x).map PV.iv)[0+D]? =io ((sY n y).map PV.iv) by rw[Zq,Y9,I];rfl) Z Z ?_;refine gA Z ?_;refine eF (kr (d:=88) (sz:=1) (dd (fT ba) A.nd I) Z (by omega) k2 k3 k4) fun t Y F=>?_;obtain⟨rfl,rfl⟩:=F;refine bE 2 ?_;refine gA Z ?_;refine bE 1 ?_;refine kE ab Z Z Z (i:=4) (sz:=1) (q:=0+B) Z Z Z Z (by simp only[Zx];omega) Z Z Z Z ?_;refine gA Z ?_;refine eF (xu (i:=4) (o':=aG 1 (y.2.2.2.set B 2) ba) Z (.of_eq ?_)) fun t Y F=>?_
  .show AO.row 1 ((y.2.2.2.map fun x=>(ba x).map PV.iv).set (0+B) ((ba 2).map PV.iv))=AO.row 1 ((y.2.2.2.set B 2).map fun x=>(ba x).map PV.iv);rw[Zq,aaJ]
  obtain⟨rfl,rfl⟩:=F;refine eF (xv (b:=y.1) (e:=y.2.1) (i:=4) (o:=aG 1 (y.2.2.2.set B 2) ba) (bd.dx _ _ _) Z (J _ (by rw[aaG];exact k1)) (jG ba)) fun t Y F=>?_;obtain⟨rfl,rfl⟩:=F;refine fb (jv (bZ ?_));refine gA Z ?_
  exact⟨h4,⟨pZ L D y (y.2.2.2.set B 2)⟩,[],⟨og ba A I,BC A I (by rw[aaG];exact k1),by
   show dD (pZ L D y (y.2.2.2.set B 2))=_
   rw[BE,u,<-S,t0,<-hm];exact d0⟩,zW (zK (hR Z (FK I).symm Z (zK ac)))⟩
 .have q3:l.kind=1:=zY q3;have hh:gx l=1:=by rw[gx,am q3]
  refine aJ (iL (bE 3 ?_));refine gA Z ?_;refine bE 1 ?_;refine bp ab Z Z Z Z Z (show(L.map fun x=>(sY n x).map PV.iv)[0+D]? =io ((sY n y).map PV.iv) by rw[Zq,Y9,I];rfl) Z Z ?_;refine gA Z ?_;refine eF (kr (d:=94) (sz:=1) (dd (fT ba) A.nd I) Z (by omega) k2 k3 k4) fun t Y F=>?_;obtain⟨rfl,rfl⟩:=F;refine bE 2 ?_;refine gA Z ?_;refine bE 1 ?_;refine bp ab Z Z Z Z Z (show(y.2.2.2.map fun x=>(ba x).map PV.iv)[0+B]? =io ((ba (y.2.2.2.getD B em)).map PV.iv) from gB (by omega)) Z Z ?_;refine gA Z ?_;refine bE 1 ?_;refine gA Z ?_;refine eF (xv (b:=y.1) (e:=y.2.1) (i:=4) (o:=aG 1 y.2.2.2 ba) (bd.dx _ _ _) Z (J _ k1) (jG ba)) fun t Y F=>?_;obtain⟨rfl,rfl⟩:=F;rw[og ba A I,uZ I];have p0:y.2.2.2.getD B em=gF p hs1 D B:=by rw[t0,YZ,rm j0];rfl
  refine fb (dB Z (fun q4=>?_) (fun q4=>?_))
  .have q4:gF p hs1 D B=0:=by rw[<-p0];exact zT q4
   have hm:max (gF p hs1 D B) (gx l:Int)=1:=by rw[hh];omega
   refine iL (bE 3 ?_);refine gA Z ?_;refine bE 1 ?_;refine bp ab Z Z Z Z Z (show(L.map fun x=>(sY n x).map PV.iv)[0+D]? =io ((sY n y).map PV.iv) by rw[Zq,Y9,I];rfl) Z Z ?_;refine gA Z ?_;refine eF (kr (d:=102) (sz:=1) (dd (fT ba) A.nd I) Z (by omega) k2 k3 k4) fun t Y F=>?_;obtain⟨rfl,rfl⟩:=F;refine bE 2 ?_;refine gA Z ?_;refine bE 1 ?_;refine kE ab Z Z Z (i:=5) (sz:=1) (q:=0+B) Z Z Z Z (by simp only[Zx];omega) Z Z Z Z ?_;refine gA Z ?_;refine eF (xu (i:=5) (o':=aG 1 (y.2.2.2.set B 1) ba) Z (.of_eq ?_)) fun t Y F=>?_
   .show AO.row 1 ((y.2.2.2.map fun x=>(ba x).map PV.iv).set (0+B) ((ba 1).map PV.iv))=AO.row 1 ((y.2.2.2.set B 1).map fun x=>(ba x).map PV.iv);rw[Zq,aaJ]
   obtain⟨rfl,rfl⟩:=F;refine eF (xv (b:=y.1) (e:=y.2.1) (i:=5) (o:=aG 1 (y.2.2.2.set B 1) ba) (bd.dx _ _ _) Z (J _ (by rw[aaG];exact k1)) (jG ba)) fun t Y F=>?_;obtain⟨rfl,rfl⟩:=F;refine fb (jv (bZ ?_));refine gA Z ?_
   exact⟨h4,⟨pZ L D y (y.2.2.2.set B 1)⟩,[],⟨og ba A I,BC A I (by rw[aaG];exact k1),by
    show dD (pZ L D y (y.2.2.2.set B 1))=_
    rw[BE,u,<-S,t0,<-hm];exact d0⟩,zW (zK (hR Z (FK I).symm Z (zK ac)))⟩
  .have q4: ¬gF p hs1 D B=0:=by rw[<-p0];exact zF q4
   have hm:max (gF p hs1 D B) (gx l:Int)=gF p hs1 D B:=by rw[hh];omega
   refine dQ (jv (bZ ?_));refine gA Z ?_
   exact⟨h4,⟨L⟩,[],⟨rfl,A,by
    show dD L=_;rw[u,<-S];refine mj fun i j hi hj=>?_;rw[HO hf g0 j0 i j hi hj];by_cases r0:i=D∧j=B
    .rw[am r0,SV,hm,r0.1,r0.2]
    .rw[be r0]⟩,zW (zK (zS (zK ac)))⟩
abbrev iB(b:Bool):IV:= .v (.bool b)
def bD(b:Bool):List IV:=[iB b]
abbrev wI(n:Nat)(f:Nat->Nat->Bool):IV:=cZ 1 (dX n f) (lD bD)
abbrev gI(n:Nat)(g:Nat->Nat->Int):IV:=cZ 1 (dX n g) (lD ba)
theorem tT{β:Type}[Inhabited β]{n:Nat}{f:Nat->Nat->β}{a b:Nat}(ha:a<n)(hb:b<n):((dX n f).getD a em).getD b em=f a b:=by
 rw[YZ,YZ,mh ha,aaq,rm hb];rfl
theorem pY{β:Type}[Inhabited β]{n:Nat}{f:Nat->Nat->β}{a:Nat}(ha:a<n):((dX n f).getD a em).length=n:=by
 rw[YZ,mh ha];simp
abbrev pQ(D:List Bool)(b:Nat):Bool:=D.getD b em
theorem Ag{sz q:Nat}{es:List (List PV)}{p p':PV}(h:aL p p'):gi (.row sz (es.set q [p])) (.row sz (es.set q [p'])):=by
 refine⟨fun hr=>?_,fun M N U w i G=>?_⟩
 .cases es with
  |nil=>exact hr
  |cons a r=>cases q<;>rfl
 .have key: ∀(k:Nat) (e:List PV),(es.set q [p'])[k]? =io e-> ∃d,(es.set q [p])[k]? =io d∧d.length=e.length∧ ∀(j:Nat) (x:PV),e[j]? =io x-> ∃A,d[j]? =io A∧aL A x:=by
   intro k e b;rw[ZM]at b;by_cases y:q=k
   .rw[am y]at b;by_cases D:q<es.length
    .rw[am D]at b;cases b;refine⟨[p],by rw[ZM,am y,am D],rfl,fun j x u=>?_⟩;cases j with
     |zero=>cases u;exact⟨p,rfl,h⟩
     |succ j=>simp at u
    .rw[be D]at b;cases b
   .rw[be y]at b;exact⟨e,by rw[ZM,be y];exact b,rfl,fun j x u=>⟨x,u,.refl x⟩⟩
  rcases G with G|⟨J,c,T,S,Y,I,h4,h5⟩
  .refine .inl ?_;have hz:es.length=0:=by have:=congrArg abt G;rw[aaG]at this;exact this
   rw[ZW hz];rfl
  .refine .inr ⟨J,c,T,S,Y,by rw[aaG]at I ⊢;exact I,fun k e b=>?_,fun k e j x b u=>?_⟩
   .obtain⟨d,B,hb,_⟩:=key k e b;rw[<-hb];exact h4 k d B
   .obtain⟨d,B,_,hc⟩:=key k e b;obtain⟨A,hd,F⟩:=hc j x u;exact F M N U _ (h5 k d j A B hd)
theorem WA{P:Program}{nt:Nat}{Q:XQ}{k:List XI}{s:AS}{X:bd}{c:Code}{L:List Nat}{t:AS}(hw:Wk s.nx L s t)(h:GX P nt (.code c::k) Q t X):GX P nt (.code c::k) Q s X:=by
 intro M N a w B D;obtain⟨g1,g2⟩:=iW.frame (hw.ext (.refl _ _ _ _ _)) D;exact AX.then h (hw.fits B) g2 fun e a2 G x y F A u b j d=>⟨x,y,F,A,g1.trans u,b,j,d⟩
set_option maxHeartbeats 1000000 in
theorem Wb{n:Nat}(hn:n<=64)(g:Nat->Nat->Int)(E:Nat->Nat->Bool)(hE: ∀i j,i<n->j<n->E i j=li (g i j>0)):Pure prog 63 [.iv (gI n g)] (.iv (cZ 1 (dX n (Go.Wa.W E n)) (lD bD))):=by
 have q0:=fm n g;refine ae ab func63 Z (by decide) ntmps63 Z (by simp) Z ?_;refine HE ?_;refine aJ (bZ ?_);refine gA Z ?_;refine aJ (bZ ?_);refine gA Z ?_;refine aJ (aJ (fS ⟨[(0,.iv (gI n g)),(3,.sl 0 0 0 1),(4,pI 0)],[(0,io (rO n ([]:wy Bool)))],1⟩ ?_ ?_))
 .refine fU 3 1 Z ?_;refine gA Z (fJ [0] ?_);exact zW (zS ac)
 refine bS (j5 0 n (Y8 _) (fun i (x:ULift.{1} (wy Bool))=>⟨[(0,.iv (gI n g)),(3,.sl 1 0 i 1),(4,pI i)],[(1,io (rO n x.down))],2⟩)
  (fun i x Y=>Y=eP (fT bD) x.down∧zb n x.down∧dD x.down=(dX n (Go.Wa.W E 0)).take i) ⟨[]⟩ [0] ⟨rfl,GK n,rfl⟩
  (zW (zS ac)) (fun _ _ _ h=>h.1▸cO (fT bD) _) fun i x Y hi hJ=>?_)
 obtain⟨rfl,u,A⟩:=hJ;obtain⟨L⟩:=x;have u:zb n L:=u;have A:dD L=(dX n (Go.Wa.W E 0)).take i:=A;have v0:L.length=i:=by
  have:=congrArg abt A;rw[ZP,fm]at this;unfold dD at this;rw[Zx]at this;omega
 refine aJ (aJ (bZ ?_));refine gA Z ?_;refine dB Z (fun h1=>dQ ?_) (fun h1=>gG ?_)
 .have h1:i<n:=by
   have h:i<(dX n g).length:=by simpa using h1
   omega
  let B:Nat->List Bool:=fun k=>(Zp n).map fun j=>if j<k then Go.Wa.W E 0 i j else lc
  refine aJ (bS (aJ (fS ⟨[(0,.iv (gI n g)),(3,.sl 1 0 i 1),(4,pI i),(5,.sl 2 0 n 1)],[(1,io (rO n L)),(2,io (aG 1 (B 0) bD))],3⟩ ?_ ?_)))
  .refine gA Z (Ez ab n n Z Z Z Z Z Z Z (by rw[q0]) (by rw[q0]) (by omega) (by omega) (by show 1*n<=_;omega) Z (by decide) (z:=[pB lc]) Z (.inr ⟨rfl,rfl⟩) Z ?_);refine gA Z (fJ [2] ?_)
   exact zW (zS (hR Z (by
    show aaX n [pB lc]=((Zp n).map fun j=>if j<0 then Go.Wa.W E 0 i j else lc).map fun x=>(bD x).map PV.iv;rw[aaQ];apply aaM;intro j;rw[aa6,Y9];rcases aab j n with hj|hj
    .rw[am hj,aaZ hj];rfl
    .rw[be (by omega),abd (by simpa using hj)];rfl) Z ac))
  refine aJ (fS ⟨[(0,.iv (gI n g)),(3,.sl 1 0 i 1),(4,pI i),(5,.sl 2 0 n 1)],[(1,io (rO n L)),(2,io (aG 1 (B n) bD))],3⟩ ?_ ?_)
  .refine gA Z ?_;refine az 0 n (Y8 _) (fun k=>⟨[(0,.iv (gI n g)),(3,.sl 1 0 i 1),(4,pI i),(5,.sl 2 0 n 1),(6,pI k)],[(1,io (rO n L)),(2,io (aG 1 (B k) bD))],3⟩) (fun _=>True) [] ac
    (zW (zS (zS trivial))) fun k hk _=>?_
   refine zE Z Z (fun h2=>?_) fun h2=>?_
   .have h2:n<=k:=by
     have h:(dX n g).length<=k:=by simpa using h2
     omega
    have x0:k=n:=by omega
    subst x0;refine gA Z (fJ [] ?_);exact zW (zS (zS ac))
   have h2:k<n:=by
    have h:k<(dX n g).length:=by simpa using h2
    omega
   have e1:=pY (f:=g) h1;have k0:=tT (f:=g) h1 h2;have hw:Go.Wa.W E 0 i k=(li (g i k>0)||decide (i=k)):=by
    show(E i k||i==k)=_;rw[hE i k h1 h2];rfl
   have I:(B k).set k (Go.Wa.W E 0 i k)=B (k+1):=by
    have:=xL (n:=n) (g:=fun j=>if j<k then Go.Wa.W E 0 i j else lc) (g':=fun j=>if j<k+1 then Go.Wa.W E 0 i j else lc) h2 fun j hj=>by
     by_cases m0:j=k
     .simp[m0]
     .rw[be m0];by_cases n0:j<k
      .rw[am n0,am (by omega)]
      .rw[be n0,be (by omega)]
    rw[am (aar k)]at this;exact this
   have d1:(B k).length=n:=by simp[B]
   refine zJ Z Z (fun S=>?_) fun S=>?_
   .have S:li (((dX n g).getD i em).getD k em>0)=lc:=S;rw[k0]at S;refine gA Z (SU (d:=39) (p:=pB (Go.Wa.W E 0 i k)) (.of_eq (fP (by rw[hw,S,aag,decide_eq_decide];omega))) ?_);refine kE ab Z Z Z (i:=2) (sz:=1) (q:=0+k) Z Z Z Z (by simp only[Zx];omega) Z Z Z Z ?_;refine gA Z ⟨h2,ac,[],zW (zS (hR Z (by rw[Zq,<-I,aaJ];rfl) Z ac))⟩
   .have S:li (((dX n g).getD i em).getD k em>0)=kw:=S;rw[k0]at S;refine gA Z (SU (d:=39) (p:=pB (Go.Wa.W E 0 i k)) (.rA (by rw[hw,S];rfl)) ?_);refine kE ab Z Z Z (i:=2) (sz:=1) (q:=0+k) Z Z Z Z (by simp only[Zx];omega) Z Z Z Z ?_;refine gA Z ⟨h2,ac,[],zW (zS (hR Z (by rw[Zq,<-I,aaJ];rfl) Z ac))⟩
  have g0:B n=(Zp n).map fun j=>Go.Wa.W E 0 i j:=aao fun j hj=>am (Z8.1 hj);rw[g0];refine iL (bE 2 ?_);refine gA Z ?_
  refine eF (re (i:=2) (d:=42) (cO (fT bD) L) Z (by
   have:0<n:=by omega
   obtain⟨m,hm⟩: ∃m,n=m+1:=⟨n-1,by omega⟩
   rw[hm,abp];rfl) (jG bD) Z (by omega)) fun t Y J=>?_
  obtain⟨b,e,i0,G,g1,g2,g3,rfl,rfl⟩:=J;refine bE 3 ?_;refine gA Z ?_;refine fb (jv (bZ ?_));refine gA Z ?_;have j0:=ua (fT bD) G
  exact⟨h1,⟨L++ [(b,e,i0,(Zp n).map fun j=>Go.Wa.W E 0 i j)]⟩,[4],⟨sR (fT bD) (y:=(b,e,i0,(Zp n).map fun j=>Go.Wa.W E 0 i j)) u.nd j0,C9 u j0 ⟨by simp,g1,g2,g3⟩,by
   show dD (L++ [_])=_;rw[bz (by rw[fm];exact h1),<-A];unfold dD;rw[Y6];congr 1
   rw[YZ,mh h1];rfl⟩,zM (bv ⟨.row Z,rfl,bv ac⟩) (hR Z (by rw[Y6];rfl) Z ac)⟩
 have h1:n<=i:=by
  have h:(dX n g).length<=i:=by simpa using h1
  omega
 have w0:i=n:=by omega
 have A:dD L=dX n (Go.Wa.W E 0):=by rw[A,Za (by rw[fm];exact h1)]
 clear v0;change GX _ _ [.code _] _ _ _;refine aJ (aJ (fS ⟨[(0,.iv (gI n g)),(3,.sl 1 0 n 1),(7,pI 0)],[(1,io (rO n L))],2⟩ ?_ ?_))
 .subst w0;refine gA Z (fJ [] ?_);exact zW (zS ac)
 refine bS (j5 0 n (Y8 _) (fun m (x:ULift.{1} (wy Bool))=>⟨[(0,.iv (gI n g)),(3,.sl 1 0 n 1),(7,pI m)],[(1,io (rO n x.down))],2⟩)
  (fun m x Y=>Y=eP (fT bD) x.down∧zb n x.down∧dD x.down=dX n (Go.Wa.W E m)) ⟨L⟩ [] ⟨rfl,u,A⟩
  (zW (zS ac)) (fun _ _ _ h=>h.1▸cO (fT bD) _) fun m x Y hm hJ=>?_)
 clear u A;obtain⟨rfl,u,A⟩:=hJ;obtain⟨L⟩:=x;have u:zb n L:=u;have A:dD L=dX n (Go.Wa.W E m):=A;refine aJ (aJ (bZ ?_));refine gA Z ?_;refine dB Z (fun qm=>dQ ?_) (fun qm=>gG ?_);rotate_left
 .have h2:n<=m:=by
   have h:(dX n g).length<=m:=by simpa using qm
   omega
  have e0:m=n:=by omega
  rw[e0]at A;change GX _ _ [.code _] _ _ _;refine Eu (BF (i:=1) (o':=aG 1 (dD L) (lD bD)) Z (Vz bD u)) fun t Y J=>?_;obtain⟨rfl,rfl⟩:=J;have f0:(dD L).length=n:=by rw[A,fm]
  refine bZ ?_;rw[<-A];refine gA Z (rE (.inr Z) Z (lB.KP 1 (dD L) (lD bD) Z Z (by rw[f0];show PV.dc 1 1 n (.sl 1 0 n 1);simp[PV.dc]) (.done ?_)));have e:cZ 1 (dD L) (lD bD)= .dh 1 n fun k=>lD bD ((dD L).getD k em):=by unfold cZ;rw[f0]
  rw[e];show aL (.iv (.dh 1 n fun k=>lD bD ((dD L).getD (0+k) em))) _;simp only[Zq];exact .refl _
 have e0:m<n:=by
  have h:m<(dX n g).length:=by simpa using qm
  omega
 refine aJ (bS (aJ (fS ⟨[(0,.iv (gI n g)),(3,.sl 1 0 n 1),(7,pI m),(8,pI 0)],[(1,io (rO n L))],2⟩ ?_ ?_)))
 .refine gA Z (fJ [] ?_);exact zW (zS ac)
 refine bS (j5 0 n (Y8 _) (fun a (x:ULift.{1} (wy Bool))=>⟨[(0,.iv (gI n g)),(3,.sl 1 0 n 1),(7,pI m),(8,pI a)],[(1,io (rO n x.down))],2⟩)
  (fun a x Y=>Y=eP (fT bD) x.down∧zb n x.down∧dD x.down=dX n (Go.Wa.V E m a 0)) ⟨L⟩ [] ⟨rfl,u,A.trans (mj fun x y _ _=>(Go.Wa.V.zero m x y).symm)⟩
  (zW (zS ac)) (fun _ _ _ h=>h.1▸cO (fT bD) _) fun a x Y ha hJ=>?_)
 clear u A;obtain⟨rfl,u,A⟩:=hJ;obtain⟨L⟩:=x;have u:zb n L:=u;have A:dD L=dX n (Go.Wa.V E m a 0):=A;refine aJ (aJ (bZ ?_));refine gA Z ?_;refine dB Z (fun qa=>dQ ?_) (fun qa=>gG ?_);rotate_left
 .have h2:n<=a:=by
   have h:(dX n g).length<=a:=by simpa using qa
   omega
  have d0:a=n:=by omega
  rw[d0]at A;change GX _ _ (.code _::_) _ _ _;refine bZ ?_;refine gA Z ⟨e0,⟨L⟩,[],⟨rfl,u,A.trans (mj fun x y hx _=>Go.Wa.V.full m n x y hx)⟩,zW (zS ac)⟩
 have d0:a<n:=by
  have h:a<(dX n g).length:=by simpa using qa
  omega
 refine aJ (bS (aJ (fS ⟨[(0,.iv (gI n g)),(3,.sl 1 0 n 1),(7,pI m),(8,pI a),(9,pI 0)],[(1,io (rO n L))],2⟩ ?_ ?_)))
 .refine gA Z (fJ [] ?_);exact zW (zS ac)
 refine bS (j5 0 n (Y8 _) (fun b (x:ULift.{1} (wy Bool))=>⟨[(0,.iv (gI n g)),(3,.sl 1 0 n 1),(7,pI m),(8,pI a),(9,pI b)],[(1,io (rO n x.down))],2⟩)
  (fun b x Y=>Y=eP (fT bD) x.down∧zb n x.down∧dD x.down=dX n (Go.Wa.V E m a b)) ⟨L⟩ [] ⟨rfl,u,A⟩
  (zW (zS ac)) (fun _ _ _ h=>h.1▸cO (fT bD) _) fun b x Y hb hJ=>?_)
 clear u A;obtain⟨rfl,u,A⟩:=hJ;obtain⟨L⟩:=x;have u:zb n L:=u;have A:dD L=dX n (Go.Wa.V E m a b):=A;refine aJ (aJ (bZ ?_));refine gA Z ?_;refine dB Z (fun qb=>dQ ?_) (fun qb=>gG ?_);rotate_left
 .have h2:n<=b:=by
   have h:(dX n g).length<=b:=by simpa using qb
   omega
  have G:b=n:=by omega
  rw[G]at A;change GX _ _ (.code _::_) _ _ _;refine bZ ?_;refine gA Z ⟨d0,⟨L⟩,[],⟨rfl,u,A.trans (mj fun x y _ hy=>Go.Wa.V.line m a n x y hy)⟩,zW (zS ac)⟩
 have G:b<n:=by
  have h:b<(dX n g).length:=by simpa using qb
  omega
 have hL:L.length=n:=by
  have:=congrArg abt A;rw[fm]at this;unfold dD at this;rwa[Zx]at this
 have a0: ∀r:List Bool,r.length=n->(aG 1 r bD).real=kw:=fun r hr=>by
  cases r with
  |nil=>simp at hr;omega
  |cons=>rfl
 have y0:a<L.length:=by omega
 have a1:m<L.length:=by omega
 obtain⟨F,D⟩: ∃y,L[a]? =io y:=⟨_,Y3 y0⟩
 obtain⟨ym,c0⟩: ∃y,L[m]? =io y:=⟨_,Y3 a1⟩
 obtain⟨k1,k2,k3,k4⟩:=u.ok F (Zv D);obtain⟨j1,j2,j3,j4⟩:=u.ok ym (Zv c0);have p0:F.2.2.2=(Zp n).map fun j=>Go.Wa.V E m a b a j:=by
  have:=Fx D;rw[A,mh d0]at this;exact(Z0 this).symm
 have b1:ym.2.2.2=(Zp n).map fun j=>Go.Wa.V E m a b m j:=by
  have:=Fx c0;rw[A,mh e0]at this;exact(Z0 this).symm
 have r0:F.2.2.2.getD m em=Go.Wa.V E m a b a m:=by rw[p0,YZ,rm e0];rfl
 have s0:ym.2.2.2.getD b em=Go.Wa.V E m a b m b:=by rw[b1,YZ,rm G];rfl
 have o0:(Go.Wa.V E m a b a m&&Go.Wa.V E m a b m b)=lc->dD L=dX n (Go.Wa.V E m a (b+1)):=fun h=>A.trans (mj fun x y _ _=>by
  rw[Go.Wa.V.next,h,aaD];by_cases t0:x=a∧y=b
  .rw[am t0]
  .rw[be t0])
 refine aJ (bS (aJ (iL (bE 3 ?_))));refine gA Z ?_;refine bE 1 ?_;refine bp ab Z Z Z Z Z (show(L.map fun x=>(sY n x).map PV.iv)[0+a]? =io ((sY n F).map PV.iv) by rw[Zq,Y9,D];rfl) Z Z ?_;refine gA Z ?_;refine eF (kr (d:=66) (sz:=1) (dd (fT bD) u.nd D) Z (by omega) k2 k3 k4) fun t Y J=>?_;obtain⟨rfl,rfl⟩:=J;refine bE 2 ?_;refine gA Z ?_;refine bE 1 ?_;refine bp ab Z Z Z Z Z (show(F.2.2.2.map fun x=>(bD x).map PV.iv)[0+m]? =io ((bD (F.2.2.2.getD m em)).map PV.iv) from gB (by omega)) Z Z ?_;refine gA Z ?_;refine bE 1 ?_;refine gA Z ?_;refine eF (xv (b:=F.1) (e:=F.2.1) (i:=2) (o:=aG 1 F.2.2.2 bD) (bd.dx _ _ _) Z (a0 _ k1) (jG bD)) fun t Y J=>?_;obtain⟨rfl,rfl⟩:=J;rw[og bD u D,uZ D];refine bE 3 ?_;refine zJ Z Z (fun S=>?_) fun S=>?_
 .have S:Go.Wa.V E m a b a m=kw:=by rw[<-r0];exact S
  refine gA Z ?_;refine bE 1 ?_;refine gM 1 Z (bp ab Z Z Z Z Z (show(L.map fun x=>(sY n x).map PV.iv)[0+m]? =io ((sY n ym).map PV.iv) by rw[Zq,Y9,c0];rfl) Z Z ?_);refine gA Z ?_;refine eF (kr (d:=74) (sz:=1) (dd (fT bD) u.nd c0) Z (by omega) j2 j3 j4) fun t Y J=>?_;obtain⟨rfl,rfl⟩:=J;refine bE 2 ?_;refine gA Z ?_;refine bE 1 ?_;refine gM 1 Z (bp ab Z Z Z Z Z (show(ym.2.2.2.map fun x=>(bD x).map PV.iv)[0+b]? =io ((bD (ym.2.2.2.getD b em)).map PV.iv) from gB (by omega)) Z Z ?_);refine gA Z ?_;refine eF (xv (b:=ym.1) (e:=ym.2.1) (i:=3) (o:=aG 1 ym.2.2.2 bD) (bd.dx _ _ _) Z (a0 _ j1) (jG bD)) fun t Y J=>?_;obtain⟨rfl,rfl⟩:=J;rw[og bD u c0,uZ c0];refine bE 1 ?_;refine gA Z ?_;refine fb (dB Z (fun q2=>?_) (fun q2=>?_))
  .have q2:Go.Wa.V E m a b m b=kw:=by rw[<-s0];exact q2
   have hw:Go.Wa.V E m a (b+1) a b=kw:=by rw[Go.Wa.V.next,am ⟨rfl,rfl⟩,S,q2];simp
   have I:=Df (n:=n) (f:=Go.Wa.V E m a b) (f':=Go.Wa.V E m a (b+1)) d0 G fun i j _ _=>by
    rw[Go.Wa.V.next m a b i j];by_cases b0:i=a∧j=b
    .rw[am b0,am b0,Go.Wa.V.next,am ⟨rfl,rfl⟩,b0.1,b0.2]
    .rw[be b0,be b0]
   rw[hw]at I;refine WA (L:=[]) (t:=⟨[(0,.iv (gI n g)),(3,.sl 1 0 n 1),(7,pI m),(8,pI a),(9,pI b)],[(1,io (rO n L))],4⟩) (zW (zS ac)) ?_;refine iL (bE 3 ?_);refine gA Z ?_;refine bE 1 ?_;refine bp ab Z Z Z Z Z (show(L.map fun x=>(sY n x).map PV.iv)[0+a]? =io ((sY n F).map PV.iv) by rw[Zq,Y9,D];rfl) Z Z ?_;refine gA Z ?_;refine eF (kr (d:=82) (sz:=1) (dd (fT bD) u.nd D) Z (by omega) k2 k3 k4) fun t Y J=>?_;obtain⟨rfl,rfl⟩:=J;refine bE 2 ?_;refine gA Z ?_;refine bE 1 ?_;refine kE ab Z Z Z (i:=4) (sz:=1) (q:=0+b) Z Z Z Z (by simp only[Zx];omega) Z Z Z Z ?_;refine gA Z ?_;refine eF (xu (i:=4) (o':=aG 1 (F.2.2.2.set b kw) bD) Z ((Ag (sz:=1) (es:=F.2.2.2.map fun x=>(bD x).map PV.iv) (q:=0+b) (p:= .kb kw) (p':= .iv (iB kw)) (.kb kw)).trans (.of_eq ?_))) fun t Y J=>?_
   .show AO.row 1 ((F.2.2.2.map fun x=>(bD x).map PV.iv).set (0+b) ((bD kw).map PV.iv))=AO.row 1 ((F.2.2.2.set b kw).map fun x=>(bD x).map PV.iv);rw[Zq,aaJ]
   obtain⟨rfl,rfl⟩:=J;refine eF (xv (b:=F.1) (e:=F.2.1) (i:=4) (o:=aG 1 (F.2.2.2.set b kw) bD) (bd.dx _ _ _) Z (a0 _ (by rw[aaG];exact k1)) (jG bD)) fun t Y J=>?_;obtain⟨rfl,rfl⟩:=J;refine fb (jv (bZ (kn (L:=[]) (t:=⟨[(0,.iv (gI n g)),(3,.sl 1 0 n 1),(7,pI m),(8,pI a),(9,pI b)],[(1,io (rO n (pZ L a F (F.2.2.2.set b kw))))],5⟩) (zW (hR Z (FK D).symm Z ac)) ?_)));refine gA Z ?_
   exact⟨G,⟨pZ L a F (F.2.2.2.set b kw)⟩,[],⟨og bD u D,BC u D (by rw[aaG];exact k1),by
    show dD (pZ L a F (F.2.2.2.set b kw))=_
    rw[BE,A,p0];exact I⟩,zW (zS ac)⟩
  .have q2:Go.Wa.V E m a b m b=lc:=by rw[<-s0];exact q2
   refine dQ (jv (bZ ?_));refine gA Z ⟨G,⟨L⟩,[],⟨rfl,u,o0 (by rw[q2,Z5])⟩,zW (zS ac)⟩
 .have S:Go.Wa.V E m a b a m=lc:=by rw[<-r0];exact S
  refine gA Z ?_;refine bE 5 ?_;refine gA Z ?_;refine fb ?_
  first
   |refine Gc (t:=lc) Z ?_
   |refine dB (t:=lc) Z (fun q=>nomatch q) (fun _=>?_)
  refine dQ (jv (bZ ?_));refine gA Z ⟨G,⟨L⟩,[],⟨rfl,u,o0 (by rw[S,Z9])⟩,zW (zS ac)⟩
theorem Ai{p:Prog}(hf:nj p){i j:Nat}(hi:i<(ns p).length)(hj:j<(ns p).length):ringEq p (vD p i) (vD p j)=(jQ p i j&&jQ p j i):=by
 rw[ZN,xN,Zo];constructor
 .rintro⟨i',j',hi',hj',h1,h2,h3,h4⟩;obtain rfl:=C5 hf hi' hi h1;obtain rfl:=C5 hf hj' hj h2;exact⟨h3,h4⟩
 .exact fun h=>⟨i,j,hi,hj,rfl,rfl,h.1,h.2⟩
theorem Ib{p:Prog}(hf:nj p){a:aj}(ha:a∈p.aD.map Decl.name): ∃i,i<(ns p).length∧vD p i=a∧JO (ns p) a=(i:Int):=by
 obtain⟨i,b,d⟩:=Go.Rg.rv (V:=ns p) (a:=a) (by rw[ns,gq];exact ha);refine⟨i,b,d,?_⟩;have:=K3 hf b;rwa[show vD p i=a from d]at this
theorem Xt{i:Nat}{α:Prop}(h:li ((i:Int)>=0)=lc):α:=by
 have:=zF h;omega
theorem oS{r:ah}(h:r.size<=10000000):r.body.length<=10000000∧r.head.ad.length<=10000000:=by
 have:=Lit.au r.body;unfold ah.size at h;exact⟨by omega,by omega⟩
abbrev fI(p:Prog):IV:=wI (ns p).length (jQ p)
theorem Ph{p:Prog}(hf:nj p){r:ah}(hr:r∈p.rules)(J:r.size<=10000000):Pure prog 62 [ag r.c,.iv (strs (ns p)),.iv (fI p)] (pB (nO p r)):=by
 have hn:=vl hf;have d0:=fm (ns p).length (jQ p);have a0:=(oS J).1;obtain⟨a,B,F,I⟩:=Ib hf (hf.yl r hr);have u:=rk (ns p) r.head.rel;rw[I]at u;have b0:=pY (f:=jQ p) B;refine ae ab func62 Z (by decide) ntmps62 Z (by simp) Z ?_;refine gA Z (zp (u) ?_);refine gA Z ?_;refine az 0 r.body.length (Y8 _) (fun i=>⟨[(1,.iv (strs (ns p))),(2,.iv (fI p)),(3,.ptr 0 0),(7,pI a),(8,pI i)],[(0,io (an r.c))],1⟩) (fun i=>(r.body.take i).any (fun l=>li (l.kind=1)&&ringEq p l.atom.rel r.head.rel)=lc) [] Z
  (zW (zK trivial)) fun i hi A=>?_
 refine zE Z Z (fun d=>?_) fun d=>?_
 .have d:=co d;rw[show nO p r=lc from any_none A d];exact zU Z
 have d:=ci d;have hl:=cT d;refine zJ Z Z (fun j=>?_) fun j=>?_
 .have j:(!li ((r.body.getD i em).kind=1))=kw:=j;refine gA Z ⟨d,(aW A d).2 (by simp only[Bool.and_eq_false_iff];exact .inl (by simpa using j)),[],zW (zK ac)⟩
 have j:(r.body.getD i em).kind=1:=zY j;have hm:(r.body.getD i em).atom.rel∈named (r.body.getD i em):=by rw[qo,am (.inl j)];exact aaU _
 obtain⟨b,hb,G,y⟩:=Ib hf (hf.lits r hr _ hl _ hm);have x:=rk (ns p) (r.body.getD i em).atom.rel;rw[y]at x;have c0:=pY (f:=jQ p) hb;have S:=tT (f:=jQ p) B hb;have Y:=tT (f:=jQ p) hb B;have D:(li ((r.body.getD i em).kind=1)&&ringEq p (r.body.getD i em).atom.rel r.head.rel)=(jQ p b a&&jQ p a b):=by
  rw[decide_eq_true j,ZR,<-F,<-G,Ai hf hb B]
 refine gA Z (zp (x) ?_);refine zE Z Z (fun g1=>?_) fun g1=>?_
 .exact Xt g1
 refine zE Z Z (fun g2=>?_) fun g2=>?_
 .exact Xt g2
 refine zE Z Z (fun g3=>?_) fun g3=>?_
 .have g3:jQ p a b=lc:=by rw[<-S];exact g3
  refine gA Z ⟨d,(aW A d).2 (by rw[D,g3,Z5]),[],zW (zK ac)⟩
 have g3:jQ p a b=kw:=by rw[<-S];exact g3
 refine zJ Z Z (fun g4=>?_) fun g4=>?_
 .have g4:jQ p b a=kw:=by rw[<-Y];exact g4
  rw[show nO p r=kw from iN d (by rw[D,g3,g4];rfl)];exact zU Z
 .have g4:jQ p b a=lc:=by rw[<-Y];exact g4
  refine gA Z ⟨d,(aW A d).2 (by rw[D,g4,Z9]),[],zW (zK ac)⟩
theorem IJ(r:ah)(y:r.size<=10000000):Pure prog 104 [ag r.c] (pB (iM r)):=by
 have A:=(oS y).2;refine ae ab func104 Z (by decide) ntmps104 Z (by simp) Z ?_;refine gA Z (zp (c34 r (by omega)) ?_);refine gA Z ?_;refine az 0 r.head.ad.length (Y8 _) (fun i=>⟨[(1,.ptr 0 0),(3,.iv (strs (fO r))),(4,pI i)],[(0,io (an r.c))],1⟩) (fun i=>(r.head.ad.take i).any (fun t=>li (t.kind=1)&&!aE (fO r) t.var)=lc) [] Z
  (zW (zK trivial)) fun i B x=>?_
 refine zE Z Z (fun b=>?_) fun b=>?_
 .have b:=co b;rw[show iM r=lc from any_none x b];exact zU Z
 have b:=ci b;refine zE Z Z (fun d=>?_) fun d=>?_
 .have d:li ((r.head.ad.getD i em).kind=1)=lc:=d;refine gA Z ⟨b,(aW x b).2 (by rw[d,Z9]),[],zW (zK ac)⟩
 have d:li ((r.head.ad.getD i em).kind=1)=kw:=d;have u:=Wi (fO r) (r.head.ad.getD i em).var;refine gA Z (zp (rk (fO r) (r.head.ad.getD i em).var) ?_);refine zJ Z Z (fun j=>?_) fun j=>?_
 .have j:li (JO (fO r) (r.head.ad.getD i em).var<0)=kw:=j;rw[show iM r=kw from iN b (by rw[d,<-u,j];rfl)];exact zU Z
 .have j:li (JO (fO r) (r.head.ad.getD i em).var<0)=lc:=j;refine gA Z ⟨b,(aW x b).2 (by rw[d,<-u,j];rfl),[],zW (zK ac)⟩
def stL(p:Prog)(r:ah)(l:Lit):Bool:=li (l.kind≠1)&&(named l).any fun t=>ringEq p t r.head.rel
theorem Pe{p:Prog}(hf:nj p){r:ah}(hr:r∈p.rules)(x:r.size<=10000000):Pure prog 66 [ag r.c,.iv (strs (ns p)),.iv (fI p)] (ag (gL p r).c):=by
 have hn:=vl hf;have k0:=fm (ns p).length (jQ p);have f0:=(oS x).1;obtain⟨a,S,a0,d0⟩:=Ib hf (hf.yl r hr);have F:=rk (ns p) r.head.rel;rw[d0]at F;have i0:=pY (f:=jQ p) S;refine ae ab func66 Z (by decide) ntmps66 Z (by simp) Z ?_;refine gA Z (zp (F) ?_);refine gA Z ?_;refine az 0 r.body.length (Y8 _) (fun i=>⟨[(1,.iv (strs (ns p))),(2,.iv (fI p)),(3,.ptr 0 0),(6,.ptr 1 0),(7,pI a),(8,pI i)],[(0,io (an r.c)),(1,io (an aY.z.c))],2⟩) (fun i=>(r.body.take i).any (stL p r)=lc) [] Z
  (zW (zK (zK trivial))) fun i hi Y=>?_
 refine zE Z Z (fun j=>?_) fun j=>?_
 .have j:=co j;have y:rf p r=jp:=eJ (any_none Y j);have hw:gL p r=if iM r=kw∧nO p r=kw then(71,r.at_) else aY.z:=by rw[gL,y]
  refine gA Z (zp (Ph hf hr x) ?_);refine zJ Z Z (fun g1=>?_) fun g1=>?_
  .have g1:nO p r=kw:=g1;refine gA Z (zp (IJ r x) ?_);refine zJ Z Z (fun g2=>?_) fun g2=>?_
   .have g2:iM r=kw:=g2;rw[hw,am ⟨g2,g1⟩];exact zU Z
   .have g2:iM r=lc:=g2;rw[hw,be (by rw[g2];exact fun h=>nomatch h.1)];exact zU Z
  .have g1:nO p r=lc:=g1;rw[hw,be (by rw[g1];exact fun h=>nomatch h.2)];exact zU Z
 have j:=ci j;have hl:=cT j;have c0:=x8 _ (hf.flat r hr _ hl);have g0:=kz (r.body.getD i em);have e0:(r.body.getD i em).size<=10000000:=by have:=Lit.aI r.body i j;unfold ah.size at x;omega
 have D:=hf.lits r hr _ hl;have B:=SM (r.body.getD i em) (by omega);rw[<-c0]at B;refine gA Z (zp (B) ?_);refine gA Z ?_;refine az 0 (named (r.body.getD i em)).length (Y8 _) (fun k=>⟨[(1,.iv (strs (ns p))),(2,.iv (fI p)),(3,.ptr 0 0),(6,.ptr 1 0),(7,pI a),(8,pI i),(9,.iv (strs (named (r.body.getD i em)))),(10,pI k)],[(0,io (an r.c)),(1,io (an aY.z.c))],2⟩) (fun k=>((named (r.body.getD i em)).take k).any (fun t=>li ((r.body.getD i em).kind≠1)&&ringEq p t r.head.rel)=lc) [] Z
  (zW (zK (zK trivial))) fun k hk J=>?_
 refine zE Z Z (fun d=>?_) fun d=>?_
 .have d:(named (r.body.getD i em)).length<=k:=by simpa using d
  have A:=any_none J d;refine gA Z ?_;refine⟨j,(aW Y j).2 ?_,[],zW (zK (zK ac))⟩;unfold stL;generalize li ((r.body.getD i em).kind≠1)=c at A;cases c with
  |false=>rfl
  |true=>simpa using A
 have d:k<(named (r.body.getD i em)).length:=by simpa using d
 have ht:=cT d;obtain⟨b,hb,b0,I⟩:=Ib hf (D _ ht);have G:=rk (ns p) ((named (r.body.getD i em)).getD k em);rw[I]at G;have j0:=pY (f:=jQ p) hb;have e1:=tT (f:=jQ p) S hb;have e2:=tT (f:=jQ p) hb S;have hQ:ringEq p ((named (r.body.getD i em)).getD k em) r.head.rel=(jQ p b a&&jQ p a b):=by
  rw[<-a0,<-b0,Ai hf hb S]
 refine gA Z (zp (G) ?_);refine zE Z Z (fun u=>?_) fun u=>?_
 .have u:li ((r.body.getD i em).kind≠1)=lc:=by
   have u:(!li ((r.body.getD i em).kind=1))=lc:=u;simpa using u
  refine gA Z ⟨d,(aW J d).2 (by rw[u,Z9]),[],zW (zK (zK ac))⟩
 have u:li ((r.body.getD i em).kind≠1)=kw:=by
  have u:(!li ((r.body.getD i em).kind=1))=kw:=u;simpa using u
 refine zE Z Z (fun g1=>?_) fun g1=>?_
 .exact Xt g1
 refine zE Z Z (fun g2=>?_) fun g2=>?_
 .exact Xt g2
 refine zE Z Z (fun g3=>?_) fun g3=>?_
 .have g3:jQ p a b=lc:=by rw[<-e1];exact g3
  refine gA Z ⟨d,(aW J d).2 (by rw[hQ,g3,Z5,Z5]),[],zW (zK (zK ac))⟩
 have g3:jQ p a b=kw:=by rw[<-e1];exact g3
 refine zJ Z Z (fun g4=>?_) fun g4=>?_
 .have g4:jQ p b a=kw:=by rw[<-e2];exact g4
  have y:rf p r=io (r.body.getD i em):=kW Y j (by
   show(li ((r.body.getD i em).kind≠1)&&(named (r.body.getD i em)).any fun t=>ringEq p t r.head.rel)=kw;rw[u,ZR]
   exact iN d (by rw[hQ,g3,g4];rfl))
  rw[show gL p r=(70,(r.body.getD i em).at) by rw[gL,y]];exact zU Z
 .have g4:jQ p b a=lc:=by rw[<-e2];exact g4
  refine gA Z ⟨d,(aW J d).2 (by rw[hQ,g4,Z9,Z5]),[],zW (zK (zK ac))⟩
end Go.Proofs.YtflegjieadkonaaGreatDoor
namespace Go.Proofs.YtflegjieadkonaaGreatDoor
open Go Go.Al
section
theorem Cx{α:Type}{f:Nat->Option α}{n:Nat}(h: ∀j,j<n->f j=jp):(Zp n).findSome? f=jp:=by
 rw[List.findSome?_eq_none_iff];exact fun x b=>h x (Z8.1 b)
theorem Gh{α:Type}{f:Nat->Option α}{i:Nat}{s:α}(h: ∀j,j<i->f j=jp)(hs:f i=io s): ∀{n:Nat},i<n->(Zp n).findSome? f=io s
 |n+1,hi=>by
  rw[abg,abN];rcases ZH.1 hi with hi|hi
  .rw[Gh h hs hi];rfl
  .subst hi;rw[Cx h];simp[hs]
section
variable (K:aj->Bool) (r:ah) (dn:Nat->Bool)
def kZ(i:Nat):Int×Int:=(Zp i).foldl (su K r dn) (-1, -1)
theorem yP(i:Nat):kZ K r dn (i+1)=su K r dn (kZ K r dn i) i:=by
 unfold kZ;rw[abg,aax];rfl
end
set_option maxHeartbeats 1000000 in
theorem KK(r:ah)(D:List Bool)(fstv:Int)(k:List aj)(hD:D.length=r.body.length)(hf:fstv<r.body.length)(hb:r.size<=10000000):
  bV Tryz.prog 106 [ag r.c,.sl 0 0 r.body.length 1,pI fstv,.iv (strs k)] [aG 1 D bD] (zx (ja (aE k) r (pQ D) fstv)) [(0,io (aG 1 D bD))] 1:=by
 have f0:r.body.length<=10000000:=by have:=Lit.au r.body;unfold ah.size at hb;omega
 have b0: ∀i,i<r.body.length->(r.body.getD i em).size<=10000000:=fun i hi=>by have:=Lit.aI r.body i hi;unfold ah.size at hb;omega
 refine aB ab Tryz.func106 Z (by decide) Tryz.ntmps106 Z (by simp) ?_;refine gA Z ?_;refine az 0 r.body.length (Y8 _) (fun i=>⟨[(1,.sl 0 0 r.body.length 1),(2,pI fstv),(3,.iv (strs k)),(4,.ptr 1 0),(8,.ptr 2 0),(10,pI i)],[(0,io (aG 1 D bD)),(1,io (an r.c)),(2,io (an Li))],3⟩) (fun i=> ∀j,j<i->jT (aE k) r (pQ D) j=jp) [] (fun j hj=>absurd hj (Z6 j))
  (zW (zS (zK (zK trivial)))) fun i hi hJ=>?_
 refine zJ Z Z (fun I=>?_) fun I=>?_
 .have I:=ci I;have A:jT (aE k) r (pQ D) i=jp-> ∀j,j<i+1->jT (aE k) r (pQ D) j=jp:=fun h j hj=>by
   rcases ZH.1 hj with hj|hj
   .exact hJ j hj
   .subst hj;exact h
  refine gM 8 Z (bp ab Z Z Z Z Z (gB (l:=D) (f:=bD) (i:=i) (by omega)) Z Z ?_);refine zE Z Z (fun x=>?_) fun x=>?_
  .have x:pQ D i=kw:=by
    have x:(!D.getD i em)=lc:=x;simpa using x
   refine gA Z ⟨I,A (by unfold jT;rw[x];rfl),[],zW (zS (zK (zK ac)))⟩
  have x:pQ D i=lc:=by
   have x:(!D.getD i em)=kw:=x;simpa using x
  refine zE Z Z (fun B=>?_) fun B=>?_
  .have B:(r.body.getD i em).kind=1:=zY B;refine gA Z ⟨I,A (by unfold jT;exact be (by rw[decide_eq_false (not_not_intro B),Z5];exact ZG)),[],zW (zS (zK (zK ac)))⟩
  have B: ¬(r.body.getD i em).kind=1:=zX B;have ht:jT (aE k) r (pQ D) i=iy (aE k) r i:=by unfold jT;exact am (by rw[x,decide_eq_true B];rfl)
  have S:=KL r i k I hb;cases hk:iy (aE k) r i with
  |none=>
   rw[hk]at S ht;refine gA Z (zp (S) ?_);refine zJ Z Z (fun F=>?_) fun F=>?_
   .exact absurd F (by decide)
   refine gA Z ?_;exact⟨I,A ht,[],zW (zS (zK (zK ac)))⟩
  |some s=>
   rw[hk]at S ht;refine gA Z (zp (S) ?_);refine zE Z Z (fun F=>?_) fun F=>?_
   .exact absurd F (show¬(kw=lc) by decide)
   have hn:ja (aE k) r (pQ D) fstv=io s:=by unfold ja;rw[Gh hJ ht I]
   rw[hn];refine gA Z (zD [] Z (zW (zS ac)))
 have I:=co I;have y:ja (aE k) r (pQ D) fstv=if 0<=fstv∧pQ D fstv.toNat=lc then iy (aE k) r fstv.toNat
   else if(qT (aE k) r (pQ D)).1<0 then jp else iy (aE k) r (qT (aE k) r (pQ D)).1.toNat:=by
  unfold ja;rw[Cx fun j hj=>hJ j (by omega)]
 refine gM 1 Z (go_cut 1 (fun(_:{u:Unit// ¬(0<=fstv∧pQ D fstv.toNat=lc)})=>⟨[(1,.sl 0 0 r.body.length 1),(3,.iv (strs k)),(4,.ptr 1 0),(8,.ptr 2 0)],[(0,io (aG 1 D bD)),(1,io (an r.c)),(2,io (an Li))],3⟩) Z ?_ ?_)
 .refine zE Z Z (fun Y=>?_) fun Y=>?_
  .have Y: ¬0<=fstv:=by have:=zF Y;omega
   refine gA Z (fx ⟨(),fun g=>Y g.1⟩ [] ?_);exact zW (zS (zK (zK ac)))
  have Y:0<=fstv:=by have:=zT Y;omega
  refine gM 6 Z (bp ab Z Z Z Z Z (gB (l:=D) (f:=bD) (i:=fstv.toNat) (by omega)) Z Z ?_);refine zE Z Z (fun G=>?_) fun G=>?_
  .have G:pQ D fstv.toNat=kw:=by
    have G:(!D.getD fstv.toNat em)=lc:=G;simpa using G
   refine gA Z (fx ⟨(),fun g=>by rw[G]at g;exact nomatch g.2⟩ [] ?_);exact zW (zS (zK (zK ac)))
  have G:pQ D fstv.toNat=lc:=by
   have G:(!D.getD fstv.toNat em)=kw:=G;simpa using G
  rw[am ⟨Y,G⟩]at y;have S:=KL r fstv.toNat k (by omega) hb;rw[Int.toNat_of_nonneg Y]at S;rw[y];refine gA Z (zp (S) ?_);refine gA Z (QI (fun h=>nomatch h) (eU [] (.inr Z) Z (zW (zS ac))))
 rintro⟨_,hno⟩;rw[be hno]at y;refine gA Z ?_;refine az 0 r.body.length (Y8 _) (fun i=>⟨[(1,.sl 0 0 r.body.length 1),(3,.iv (strs k)),(4,.ptr 1 0),(8,.ptr 2 0),(13,pI (kZ (aE k) r (pQ D) i).1),(14,pI (kZ (aE k) r (pQ D) i).2),(15,pI i)],[(0,io (aG 1 D bD)),(1,io (an r.c)),(2,io (an Li))],3⟩) (fun _=>True) [] ac
  (zW (zS (zK (zK trivial)))) fun i hi _=>?_
 refine zJ Z Z (fun J=>?_) fun J=>?_
 .have J:=ci J;have i0:=b0 i J;have g0:=(r.body.getD i em).size_eq;have d:=yP (aE k) r (pQ D) i;unfold su at d;refine gM 8 Z (bp ab Z Z Z Z Z (gB (l:=D) (f:=bD) (i:=i) (by omega)) Z Z ?_);refine zE Z Z (fun x=>?_) fun x=>?_
  .have x:pQ D i=kw:=by
    have x:(!D.getD i em)=lc:=x;simpa using x
   rw[be (fun g=>by rw[x]at g;exact nomatch g.1)]at d;refine gA Z ⟨J,ac,[],zM (bv (bv (bv (bv ⟨.of_eq (by rw[d];rfl),rfl,.of_eq (by rw[d];rfl),rfl,bv ac⟩)))) (zS (zK (zK ac)))⟩
  have x:pQ D i=lc:=by
   have x:(!D.getD i em)=kw:=x;simpa using x
  refine zE Z Z (fun B=>?_) fun B=>?_
  .have B: ¬(r.body.getD i em).kind=1:=zF B;rw[be (fun g=>by rw[decide_eq_false B,Z5]at g;exact nomatch g.1)]at d;refine gA Z ⟨J,ac,[],zM (bv (bv (bv (bv ⟨.of_eq (by rw[d];rfl),rfl,.of_eq (by rw[d];rfl),rfl,bv ac⟩)))) (zS (zK (zK ac)))⟩
  have B:(r.body.getD i em).kind=1:=zT B;refine gA Z (zp (KJ (r.body.getD i em).atom k (by omega)) ?_);refine zJ Z Z (fun F=>?_) fun F=>?_
  .have F:((jh (aE k) (r.body.getD i em).atom).length:Int)>(kZ (aE k) r (pQ D) i).2:=zT F;rw[am ⟨by rw[x,decide_eq_true B];rfl,F⟩]at d;refine gA Z ⟨J,ac,[],zM (bv (bv (bv (bv ⟨.of_eq (by rw[d];rfl),rfl,.of_eq (by rw[d];rfl),rfl,bv ac⟩)))) (zS (zK (zK ac)))⟩
  .have F: ¬((jh (aE k) (r.body.getD i em).atom).length:Int)>(kZ (aE k) r (pQ D) i).2:=zF F;rw[be (fun g=>F g.2)]at d;refine gA Z ⟨J,ac,[],zM (bv (bv (bv (bv ⟨.of_eq (by rw[d];rfl),rfl,.of_eq (by rw[d];rfl),rfl,bv ac⟩)))) (zS (zK (zK ac)))⟩
 have J:=co J;have e0:i=r.body.length:=by omega
 subst e0;have c0:qT (aE k) r (pQ D)=kZ (aE k) r (pQ D) r.body.length:=rfl;have a0:=CO (aE k) r (pQ D) (Zp r.body.length) (-1, -1);rw[show(Zp r.body.length).foldl (su (aE k) r (pQ D)) (-1, -1)=kZ (aE k) r (pQ D) r.body.length from rfl]at a0;rw[c0]at y;generalize kZ (aE k) r (pQ D) r.body.length=best at y a0 ⊢;refine zJ Z Z (fun g1=>?_) fun g1=>?_
 .have g1:best.1<0:=zT g1;rw[am g1]at y;rw[y];refine gA Z (zD [] Z (zM ⟨Hm,rfl,ac⟩ (zS ac)))
 .have g1: ¬best.1<0:=zF g1;rw[be g1]at y;rcases a0 with h|⟨b,d0,h,_⟩
  .exact absurd (show best.1<0 by rw[h];decide) g1
  have S:=KL r b k (Z8.1 d0) hb;rw[<-h]at S;rw[h,Zs]at y;rw[y];refine gA Z (zp (S) ?_);refine gA Z (zD [] Z (zW (zS ac)))
end
end Go.Proofs.YtflegjieadkonaaGreatDoor
namespace Go.Proofs.YtflegjieadkonaaGreatDoor
open Go Go.Al Go.Proofs.Tryz
abbrev pU(n:Int):PV:= .iv (.v (.int .u8 n))
def gW(c:Int):Bool:=li (c>=97)&&li (c<=122)
def tC(c:Int):Bool:=li (c>=65)&&li (c<=90)
def Gm(c:Int):Bool:=(li (c>=48)&&li (c<=57))||decide (c=95)
theorem Xd(c:Int):Pure prog 206 [pU c] (pB (gW c)):=by
 refine ae ab func206 Z (by decide) ntmps206 Z (by simp) Z ?_
 repeat' (first|(refine gA Z (zI (fun _=>?_) (fun _=>?_)))|(refine gA Z (zL (.of_eq ?_))))
 all_goals(refine(fP ?_:pB _=pB _);simp_all [gW];try omega)
theorem Yz(c:Int):Pure prog 231 [pU c] (pB (tC c)):=by
 refine ae ab func231 Z (by decide) ntmps231 Z (by simp) Z ?_
 repeat' (first|(refine gA Z (zI (fun _=>?_) (fun _=>?_)))|(refine gA Z (zL (.of_eq ?_))))
 all_goals(refine(fP ?_:pB _=pB _);simp_all [tC];try omega)
theorem YA(c:Int):Pure prog 230 [pU c] (pB (Gm c)):=by
 refine ae ab func230 Z (by decide) ntmps230 Z (by simp) Z ?_
 repeat' (first|(refine gA Z (zI (fun _=>?_) (fun _=>?_)))|(refine gA Z (zL (.of_eq ?_))))
 all_goals(refine(fP ?_:pB _=pB _);simp_all [Gm];try omega)
theorem Hi(b:UInt8):okB b=(Gm (b.toNat:Int)||(gW (b.toNat:Int)||tC (b.toNat:Int))):=by
 unfold okB Ns Gm gW tC;rw[ZN];simp only[aal,Zo,decide_eq_true_iff];omega
def cA(s:aj)(i:Nat):UInt8:=s.data.toList.getD i 0
def fF(s:aj):Bool:=li (1<=s.size)&&(li (s.size<=32)&&(Zp s.size).all fun i=>li (i=0)||okB (cA s i))
theorem Ha{s:aj}(h0: ¬s.size<1)(h1: ¬s.size>32)(h: ∀j,1<=j->j<s.size->okB (cA s j)=kw):fF s=kw:=by
 unfold fF;rw[decide_eq_true (show 1<=s.size by omega),decide_eq_true (show s.size<=32 by omega),ZR,ZR,Zr];intro j b;by_cases d:j=0
 .simp[d]
 .rw[h j (by omega) (Z8.1 b)];simp
theorem Hb{s:aj}{j:Nat}(hj:1<=j)(h1:j<s.size)(h:okB (cA s j)=lc):fF s=lc:=by
 rw[<-aav];intro b;unfold fF at b;simp only[Zo,Zr]at b;have:=b.2.2 j (Z8.2 h1);rw[h,decide_eq_false (by omega)]at this;cases this
theorem c99(s:aj):Pure prog 204 [pS s] (pB (fF s)):=by
 refine ae ab func204 Z (by decide) ntmps204 Z (by simp) Z ?_;refine zE Z Z (fun g1=>?_) fun g1=>?_
 .have g1:s.size<1:=by
   have:=zT (show li ((s.size:Int)<1)=kw from g1);omega
  refine gA Z (zL (.of_eq ?_));refine(fP ?_:pB lc=_);unfold fF;rw[decide_eq_false (show¬1<=s.size by omega)];rfl
 have g1: ¬s.size<1:=by
  have:=zF (show li ((s.size:Int)<1)=lc from g1);omega
 refine zJ Z Z (fun g2=>?_) fun g2=>?_
 .have g2:s.size>32:=by
   have:=zT (show li ((s.size:Int)>32)=kw from g2);omega
  refine gA Z (zL (.of_eq ?_));refine(fP ?_:pB lc=_);unfold fF;rw[decide_eq_false (show¬s.size<=32 by omega)];simp
 have g2: ¬s.size>32:=by
  have:=zF (show li ((s.size:Int)>32)=lc from g2);omega
 refine gA Z ?_;refine az 1 s.size (by omega) (fun i=>⟨[(0,pS s),(3,pI i)],[],0⟩) (fun i=>1<=i∧ ∀j,1<=j->j<i->okB (cA s j)=kw) [] ⟨Y7 _,fun j d J=>by omega⟩ (mZ Z Z (bv (bv ac)) Z) fun i S D=>?_;obtain⟨F,D⟩:=D;refine zJ Z Z (fun d=>?_) fun d=>?_
 .have d:=ci d;have u:=Hi (cA s i);have x:okB (cA s i)=kw-> ∀j,1<=j->j<i+1->okB (cA s j)=kw:=fun h j a b=>by
   by_cases I:j=i
   .subst I;exact h
   .exact D j a (by omega)
  refine gA Z (zp (YA ((cA s i).toNat:Int)) ?_);refine gA Z (zp (Xd ((cA s i).toNat:Int)) ?_);refine gA Z (zp (Yz ((cA s i).toNat:Int)) ?_);refine zJ Z Z (fun y=>?_) fun y=>?_
  .have y:Gm ((cA s i).toNat:Int)=lc:=by simpa using y
   refine zJ Z Z (fun A=>?_) fun A=>?_
   .have A:gW ((cA s i).toNat:Int)=lc:=by simpa using A
    refine zJ Z Z (fun B=>?_) fun B=>?_
    .have B:tC ((cA s i).toNat:Int)=lc:=by simpa using B
     rw[y,A,B]at u;rw[Hb F d u];exact zU Z
    .have B:tC ((cA s i).toNat:Int)=kw:=by simpa using B
     rw[B]at u;refine gA Z ⟨d,⟨by omega,x (by rw[u];simp)⟩,[],mZ Z Z (bv (bv ac)) Z⟩
   .have A:gW ((cA s i).toNat:Int)=kw:=by simpa using A
    rw[A]at u
    repeat(refine gA Z (zI (fun q=>?_) (fun q=>?_));all_goals(try(simp at q;done)))
    refine gA Z ⟨d,⟨by omega,x (by rw[u];simp)⟩,[],mZ Z Z (bv (bv ac)) Z⟩
  .have y:Gm ((cA s i).toNat:Int)=kw:=by simpa using y
   rw[y]at u
   repeat(refine gA Z (zI (fun q=>?_) (fun q=>?_));all_goals(try(simp at q;done)))
   refine gA Z ⟨d,⟨by omega,x (by rw[u];simp)⟩,[],mZ Z Z (bv (bv ac)) Z⟩
 .have d:=co d;have G:i=s.size:=by omega
  subst G;rw[Ha g1 g2 D];exact zU Z
theorem YN(s:aj):Pure prog 205 [pS s] (pB (DE s)):=by
 refine ae ab func205 Z (by decide) ntmps205 Z (by simp) Z ?_
 repeat' (first|(refine gA Z (zI (fun _=>?_) (fun _=>?_)))|(refine gA Z (zL (.of_eq ?_))))
 all_goals(refine(fP ?_:pB _=pB _))
 all_goals(simp only[DE,PB,abW,List.any_nil, *];rfl)
theorem va(s:aj)(h:fF s=kw):pz s 97 122=gW (hd s):=by
 unfold fF at h;simp only[Zo,Zr,decide_eq_true_iff]at h;obtain⟨y,B,D⟩:=h;have u: ¬s=⟨#[]⟩:=fun e=>by rw[e]at y;exact absurd y (by decide)
 unfold pz gW;rw[decide_eq_false u,decide_eq_true B,abu,ZR,ZR];rw[ZN];simp only[Zo,decide_eq_true_iff,Zr];constructor
 .rintro⟨a,b,_⟩;exact⟨a,b⟩
 .rintro⟨a,b⟩;refine⟨a,b,fun x F=>?_⟩;obtain⟨j,A,rfl⟩:=aaa.1 F;have d:j<s.size:=by simpa using A
  have:=D j (Z8.2 d);rw[aal,decide_eq_true_iff]at this;have hb:cA s j=s.data.toList[j]:=by
   unfold cA;rw[YZ,Y3 A];rfl
  rcases this with rfl|this
  .rw[<-hb,Hi];have:hd s=((cA s 0).toNat:Int):=rfl;rw[<-this];have:gW (hd s)=kw:=by unfold gW;simp[a,b]
   rw[this];simp
  .rw[<-hb];exact this
theorem u9(s:aj)(A hi:Int)(h:fF s=lc):pz s A hi=lc:=by
 rw[<-aav];intro u;rw[<-aav]at h;apply h;unfold pz at u;simp only[Zo,Zr,decide_eq_true_iff]at u;obtain⟨x,B,_,_,y⟩:=u;have F:1<=s.size:=GV (by simpa using x);refine Ha (by omega) (by omega) fun j D d=>?_;have b:j<s.data.toList.length:=by simpa using d
 have:cA s j=s.data.toList[j]:=by
  unfold cA;rw[YZ,Y3 b];rfl
 rw[this];exact y _ (ZJ b)
theorem c56(s:aj):Pure prog 173 [pS s] (pB (ep s)):=by
 refine ae ab func173 Z (by decide) ntmps173 Z (by simp) Z ?_;refine gA Z (zp (c99 s) ?_);refine gA Z (zp (YN s) ?_);refine zJ Z Z (fun g1=>?_) fun g1=>?_
 .have g1:fF s=kw:=g1;have b:0<s.size:=by
   unfold fF at g1;simp only[Zo,decide_eq_true_iff]at g1;omega
  refine zJ Z Z (fun g2=>?_) fun g2=>?_
  .have g2:DE s=lc:=by simpa using g2
   refine gA Z (zp (Xd (hd s)) ?_);refine gA Z (zL (.of_eq ?_));refine(fP ?_:pB _=pB _);rw[ep,g2,va s g1];rfl
  .have g2:DE s=kw:=by simpa using g2
   refine gA Z (zL (.of_eq ?_));refine(fP ?_:pB _=pB _);rw[ep,g2];rfl
 .have g1:fF s=lc:=by simpa using g1
  repeat(refine gA Z (zI (fun q=>?_) (fun q=>?_));all_goals(try(simp at q;done)))
  refine gA Z (zL (.of_eq ?_));refine(fP ?_:pB _=pB _);rw[ep,u9 s 97 122 g1];simp
def findD(l:List Decl)(s:aj):Option Decl:=l.find? fun d=>li (d.name=s)
theorem Jg{V:Type}{m:List ((KC.str).K×V)}{k s:aj}{v:V}:ef .str (cF .str m k v) s=(li (k=s)||ef .str m s):=by
 rw[ZN,aal,decide_eq_true_iff,qx,qx];by_cases h:k∈m.map Zu
 .rw[pd h];constructor
  .exact .inr
  .rintro(rfl|h2)
   .exact h
   .exact h2
 .rw[dW h,Zf,Zd];constructor
  .rintro(h2|h2)
   .exact .inr h2
   .exact .inl h2.symm
  .rintro(h2|h2)
   .exact .inr h2.symm
   .exact .inl h2
theorem vc(s:aj): ∀(l:List Decl) (m:DM),ef .str (l.foldl iH m) s=(ef .str m s||(findD l s).isSome)∧bU .str (l.foldl iH m) s Decl.z=if ef .str m s=kw then bU .str m s Decl.z else(findD l s).getD Decl.z
 | [],m=>by
  refine⟨by simp[findD],?_⟩;simp only[List.foldl_nil,findD,List.find?_nil,Option.getD_none];cases h:ef .str m s with
  |true=>rfl
  |false=>
   rw[be (by simp)];refine yd fun b=>?_
   rw[qx.2 b]at h;cases h
 |d::l,m=>by
  rw[Zw];obtain⟨j,b⟩:=vc s l (iH m d);rw[j,b];have u:findD (d::l) s=if d.name=s then io d else findD l s:=by
   unfold findD;rw[aaR];by_cases h:d.name=s
   .rw[decide_eq_true h,am h]
   .rw[decide_eq_false h,be h]
  rw[u];unfold iH;cases hk:ef .str m d.name with
  |true=>
   simp only[if_true];by_cases h:d.name=s
   .subst h;simp[hk]
   .rw[be h];exact⟨rfl,rfl⟩
  |false=>
   simp only[aaz,if_false];rw[Jg,kR];by_cases h:d.name=s
   .subst h;simp[hk]
   .rw[be h,be h,decide_eq_false h];exact⟨rfl,rfl⟩
theorem PD(p:Prog)(s:aj):ef .str (Ak p) s=(findD p.aD s).isSome:=by
 have:=(vc s p.aD []).1;rw[show ef .str ([]:DM) s=lc from rfl,aag]at this;exact this
theorem KV(p:Prog)(s:aj):iw p s=(findD p.aD s).getD Decl.z:=by
 have:=(vc s p.aD []).2;rw[show ef .str ([]:DM) s=lc from rfl,be (by simp)]at this;exact this
theorem Jp{l:List Decl}{s:aj}{i:Nat}(b:findD (l.take i) s=jp)(hi:i<l.length)(h: ¬(l.getD i em).name=s):findD (l.take (i+1)) s=jp:=by
 unfold findD at*
 rw[bz hi,abM,b,aaR,decide_eq_false h];rfl
theorem Mq{l:List Decl}{s:aj}{i:Nat}(b:findD (l.take i) s=jp)(hi:i<l.length)(h:(l.getD i em).name=s):findD l s=io (l.getD i em):=by
 unfold findD at*
 have e:l=l.take i++(l.getD i em::l.drop (i+1)):=by
  rw[YZ,Y3 hi,aaq,List.getElem_cons_drop,abe]
 have key:(l.take i++(l.getD i em::l.drop (i+1))).find? (fun d=>li (d.name=s))=io (l.getD i em):=by
  rw[abM,b,aaR,decide_eq_true h];rfl
 rwa[<-e]at key
theorem X4(p:Prog)(s:aj)(hb:p.aD.length<=1000000000000):Pure prog 235 [ag p.c,pS s] (.bQ [ag (iw p s).c,pB (ef .str (Ak p) s)]):=by
 rw[PD,KV];refine ae ab func235 Z (by decide) ntmps235 Z (by simp) Z ?_;refine gA Z ?_;refine az 0 p.aD.length (Y8 _) (fun i=>⟨[(1,pS s),(2,.ptr 0 0),(4,.ptr 1 0),(6,pI i)],[(0,io (an p.c)),(1,io (.cells [pS Y5,.iv (.v (.slice jp 0 0)),pI 0,pI 0]))],2⟩) (fun i=>findD (p.aD.take i) s=jp) [] Z
  (zW (zK (zO trivial))) fun i x j=>?_
 refine zJ Z Z (fun b=>?_) fun b=>?_
 .have b:=ci b;refine zJ Z Z (fun d=>?_) fun d=>?_
  .have d:(p.aD.getD i em).name=s:=by simpa using d
   refine gA Z (zL ?_);rw[Mq j b d];exact .refl _
  .have d: ¬(p.aD.getD i em).name=s:=by simpa using d
   refine gA Z ⟨b,Jp j b d,[],zW (zK (zO ac))⟩
 .have b:=co b;have u:i=p.aD.length:=by omega
  subst u;rw[Za (Y7 _)]at j;rw[j];refine gA Z (zL ?_);exact .bQ ⟨.agg ⟨.refl _,.nil _ _,.refl _,.refl _,ac⟩,.refl _,ac⟩
theorem W2(c:Int):Pure prog 287 [pU c] (pB (gW c)):=by
 refine ae ab func287 Z (by decide) ntmps287 Z (by simp) Z ?_
 repeat' (first|(refine gA Z (zI (fun _=>?_) (fun _=>?_)))|(refine gA Z (zL (.of_eq ?_))))
 all_goals(refine(fP ?_:pB _=pB _);simp_all [gW];try omega)
theorem WY(c:Int):Pure prog 298 [pU c] (pB (tC c)):=by
 refine ae ab func298 Z (by decide) ntmps298 Z (by simp) Z ?_
 repeat' (first|(refine gA Z (zI (fun _=>?_) (fun _=>?_)))|(refine gA Z (zL (.of_eq ?_))))
 all_goals(refine(fP ?_:pB _=pB _);simp_all [tC];try omega)
def Jx(c:Int):Bool:=li (c>=48)&&li (c<=57)
theorem Yi(c:Int):Pure prog 299 [pU c] (pB (Jx c)):=by
 refine ae ab func299 Z (by decide) ntmps299 Z (by simp) Z ?_
 repeat' (first|(refine gA Z (zI (fun _=>?_) (fun _=>?_)))|(refine gA Z (zL (.of_eq ?_))))
 all_goals(refine(fP ?_:pB _=pB _);simp_all [Jx];try omega)
theorem Yl(s:aj):Pure prog 288 [pS s] (pB (DE s)):=by
 refine ae ab func288 Z (by decide) ntmps288 Z (by simp) Z ?_
 repeat' (first|(refine gA Z (zI (fun _=>?_) (fun _=>?_)))|(refine gA Z (zL (.of_eq ?_))))
 all_goals(refine(fP ?_:pB _=pB _))
 all_goals(simp only[DE,PB,abW,List.any_nil, *];rfl)
theorem PA{s:aj}(h: ∀j,1<=j->j<s.size->okB (cA s j)=kw):fF s=(li (1<=s.size)&&li (s.size<=32)):=by
 unfold fF;have:((Zp s.size).all fun i=>li (i=0)||okB (cA s i))=kw:=by
  rw[Zr];intro j b;by_cases d:j=0
  .simp[d]
  .rw[h j (by omega) (Z8.1 b)];simp
 rw[this,Bool.and_true]
theorem W3(s:aj)(hs:s.size<=1000000000000):Pure prog 286 [pS s] (pB (fF s)):=by
 refine ae ab func286 Z (by decide) ntmps286 Z (by simp) Z ?_;refine gA Z ?_;by_cases a0:s.size=0
 .have S:fF s=lc:=by unfold fF;rw[decide_eq_false (by omega)];rfl
  rw[S];refine az 1 1 (by omega) (fun i=>⟨[(0,pS s),(3,pI i)],[],0⟩) (fun i=>i=1) [] Z (mZ Z Z (bv (bv ac)) Z) fun i Y F=>?_;subst F;refine zJ Z Z (fun d=>?_) fun d=>?_
  .have d:(1:Int)<s.size:=zT d;omega
  .refine zJ Z Z (fun G=>?_) fun G=>?_
   .have:=zT (show li ((s.size:Int)>=1)=kw from G);omega
   .exact zU Z
 refine az 1 s.size (by omega) (fun i=>⟨[(0,pS s),(3,pI i)],[],0⟩) (fun i=>1<=i∧ ∀j,1<=j->j<i->okB (cA s j)=kw) [] ⟨Y7 _,fun j d G=>by omega⟩ (mZ Z Z (bv (bv ac)) Z) fun i Y F=>?_;obtain⟨I,F⟩:=F;refine zJ Z Z (fun d=>?_) fun d=>?_
 .have d:=ci d;have u:okB (cA s i)=(gW ((cA s i).toNat:Int)||(tC ((cA s i).toNat:Int)||(Jx ((cA s i).toNat:Int)||decide (((cA s i).toNat:Int)=95)))):=by
   rw[Hi];unfold Gm;rw[ZN];simp only[Jx,aal,Zo,decide_eq_true_iff];constructor
   .rintro((h|h)|(h|h))
    .exact .inr (.inr (.inl h))
    .exact .inr (.inr (.inr h))
    .exact .inl h
    .exact .inr (.inl h)
   .rintro(h|(h|(h|h)))
    .exact .inr (.inl h)
    .exact .inr (.inr h)
    .exact .inl (.inl h)
    .exact .inl (.inr h)
  have x:okB (cA s i)=kw-> ∀j,1<=j->j<i+1->okB (cA s j)=kw:=fun h j a b=>by
   by_cases J:j=i
   .subst J;exact h
   .exact F j a (by omega)
  refine gA Z (zp (W2 ((cA s i).toNat:Int)) ?_);refine zJ Z Z (fun y=>?_) fun y=>?_
  .have y:gW ((cA s i).toNat:Int)=lc:=by simpa using y
   refine gA Z (zp (WY ((cA s i).toNat:Int)) ?_);refine zJ Z Z (fun A=>?_) fun A=>?_
   .have A:tC ((cA s i).toNat:Int)=lc:=by simpa using A
    refine gA Z (zp (Yi ((cA s i).toNat:Int)) ?_);refine zJ Z Z (fun B=>?_) fun B=>?_
    .have B:Jx ((cA s i).toNat:Int)=lc:=by simpa using B
     refine zJ Z Z (fun D=>?_) fun D=>?_
     .have D: ¬((cA s i).toNat:Int)=95:=by
       have g:(!li (((cA s i).toNat:Int)=95))=kw:=D;simpa only[Z7,decide_eq_false_iff_not]using g
      rw[y,A,B,decide_eq_false D]at u;rw[Hb I d u];exact zU Z
     .have D:((cA s i).toNat:Int)=95:=by
       have g:(!li (((cA s i).toNat:Int)=95))=lc:=D;simpa only[aaS,decide_eq_true_eq]using g
      rw[decide_eq_true D]at u;refine gA Z ⟨d,⟨by omega,x (by rw[u];simp)⟩,[],mZ Z Z (bv (bv ac)) Z⟩
    .have B:Jx ((cA s i).toNat:Int)=kw:=by simpa using B
     rw[B]at u
     repeat(refine gA Z (zI (fun q=>?_) (fun q=>?_));all_goals(try(simp at q;done)))
     refine gA Z ⟨d,⟨by omega,x (by rw[u];simp)⟩,[],mZ Z Z (bv (bv ac)) Z⟩
   .have A:tC ((cA s i).toNat:Int)=kw:=by simpa using A
    rw[A]at u
    repeat(refine gA Z (zI (fun q=>?_) (fun q=>?_));all_goals(try(simp at q;done)))
    refine gA Z ⟨d,⟨by omega,x (by rw[u];simp)⟩,[],mZ Z Z (bv (bv ac)) Z⟩
  .have y:gW ((cA s i).toNat:Int)=kw:=by simpa using y
   rw[y]at u
   repeat(refine gA Z (zI (fun q=>?_) (fun q=>?_));all_goals(try(simp at q;done)))
   refine gA Z ⟨d,⟨by omega,x (by rw[u];simp)⟩,[],mZ Z Z (bv (bv ac)) Z⟩
 .have d:=co d;have S:=PA (s:=s) fun j a b=>F j a (by omega);have e1:((s.size:Int)>=1)=(1<=s.size):=propext ⟨fun h=>by omega,fun h=>by omega⟩;have e2:((s.size:Int)<=32)=(s.size<=32):=propext ⟨fun h=>by omega,fun h=>by omega⟩
  repeat' (first|(refine gA Z (zI (fun _=>?_) (fun _=>?_)))|(refine gA Z (zL (.of_eq ?_))))
  all_goals(refine(fP ?_:pB _=pB _);simp_all;try omega)
theorem KU(s:aj)(h:fF s=kw):ei s=tC (hd s):=by
 unfold fF at h;simp only[Zo,Zr,decide_eq_true_iff]at h;obtain⟨y,B,D⟩:=h;have u: ¬s=⟨#[]⟩:=fun e=>by rw[e]at y;exact absurd y (by decide)
 unfold ei pz tC;rw[decide_eq_false u,decide_eq_true B,abu,ZR,ZR];rw[ZN];simp only[Zo,decide_eq_true_iff,Zr];constructor
 .rintro⟨a,b,_⟩;exact⟨a,b⟩
 .rintro⟨a,b⟩;refine⟨a,b,fun x F=>?_⟩;obtain⟨j,A,rfl⟩:=aaa.1 F;have d:j<s.size:=by simpa using A
  have:=D j (Z8.2 d);rw[aal,decide_eq_true_iff]at this;have hb:cA s j=s.data.toList[j]:=by
   unfold cA;rw[YZ,Y3 A];rfl
  rcases this with rfl|this
  .rw[<-hb,Hi];have:hd s=((cA s 0).toNat:Int):=rfl;rw[<-this];have:tC (hd s)=kw:=by unfold tC;simp[a,b]
   rw[this];simp
  .rw[<-hb];exact this
theorem DD{s:aj}(h:fF s=kw):0<s.size:=by
 unfold fF at h;simp only[Zo,decide_eq_true_iff]at h;omega
theorem W6(s:aj)(hs:s.size<=1000000000000):Pure prog 275 [pS s] (pB (ep s)):=by
 refine ae ab func275 Z (by decide) ntmps275 Z (by simp) Z ?_;refine gA Z (zp (W3 s hs) ?_);refine zJ Z Z (fun g1=>?_) fun g1=>?_
 .have g1:fF s=kw:=g1;have b:=DD g1;refine gA Z (zp (W2 (hd s)) ?_);refine zJ Z Z (fun g2=>?_) fun g2=>?_
  .have g2:gW (hd s)=kw:=g2;refine gA Z (zp (Yl s) ?_);refine gA Z (zL (.of_eq ?_));refine(fP ?_:pB _=pB _);rw[ep,va s g1,g2,Bool.and_true]
  .have g2:gW (hd s)=lc:=by simpa using g2
   repeat(refine gA Z (zI (fun q=>?_) (fun q=>?_));all_goals(try(simp at q;done)))
   refine gA Z (zL (.of_eq ?_));refine(fP ?_:pB _=pB _);rw[ep,va s g1,g2,Z5]
 .have g1:fF s=lc:=by simpa using g1
  repeat(refine gA Z (zI (fun q=>?_) (fun q=>?_));all_goals(try(simp at q;done)))
  refine gA Z (zL (.of_eq ?_));refine(fP ?_:pB _=pB _);rw[ep,u9 s 97 122 g1];simp
theorem W1(s:aj)(hs:s.size<=1000000000000):Pure prog 289 [pS s] (pB (ei s)):=by
 refine ae ab func289 Z (by decide) ntmps289 Z (by simp) Z ?_;refine gA Z (zp (W3 s hs) ?_);refine zJ Z Z (fun g1=>?_) fun g1=>?_
 .have g1:fF s=kw:=g1;have b:=DD g1;refine gA Z (zp (WY (hd s)) ?_);refine gA Z (zL (.of_eq ?_));refine(fP ?_:pB _=pB _);rw[KU s g1]
 .have g1:fF s=lc:=by simpa using g1
  repeat(refine gA Z (zI (fun q=>?_) (fun q=>?_));all_goals(try(simp at q;done)))
  refine gA Z (zL (.of_eq ?_));refine(fP ?_:pB _=pB _);rw[ei,u9 s 65 90 g1]
theorem Yh(v:tG):Pure prog 300 [ag v.c] (pI (du v)):=by
 refine ae ab func300 Z (by decide) ntmps300 Z (by simp) Z ?_
 repeat' (first|(refine gA Z (zI (fun _=>?_) (fun _=>?_)))|(refine gA Z (zL (.of_eq ?_))))
 all_goals(have hE:(⟨#[]⟩:ByteArray)=Y5:=rfl;refine congrArg pI ?_;simp_all [du];try omega)
end Go.Proofs.YtflegjieadkonaaGreatDoor
