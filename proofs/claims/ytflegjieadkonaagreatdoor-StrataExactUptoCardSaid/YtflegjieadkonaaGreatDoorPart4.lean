/-
  What the proofs of the claims need: part 4 of 7.
-/
import Derived.Test.YtflegjieadkonaaGreatDoorPart3
import Derived.KernelRfl
import Derived.Test.YtflegjieadkonaaGreatDoorRows
import Derived.WalkKit
import Derived.ProofKit
import Derived.OpenShut
import Derived.Deep.DeepHandedRow
import Derived.Lib.LaidTab
import Derived.LaidSub
import Derived.MakeChecks
import Derived.Test.YtflegjieadkonaaGreatDoorCards
import Derived.Test.YtflegjieadkonaaGreatDoorTie
open And renaming intro→YW
open Bool renaming and_eq_false_iff→Z8,and_eq_true→YB,and_false→Zv,and_true→aaF,eq_false_iff→Zq,eq_iff_iff→YU,false_and→Zm,false_eq_true→ZH,false_or→Zt,not_eq_false'→ZJ,not_eq_true→ZQ,not_eq_true'→Y1,not_false→aaC,or_eq_false_iff→Y6,or_eq_true→Y3,or_false→Z9,true_and→Zc
open ByteArray renaming empty→Yp
open Classical renaming byContradiction→Zu,em→abM
open Int renaming le_refl→aak,toNat_natCast→YK
open List.Nodup renaming length_le_of_subset→Zl
open List.Pairwise renaming imp→abE,nil→Z6
open List renaming all_append→aaT,all_cons→abe,all_eq_false→Z1,all_eq_true→YG,any_eq_false→Y5,any_eq_true→Y8,append_assoc→Yu,append_eq_nil_iff→aaY,append_nil→Y0,concat_eq_append→abp,cons_append→ZO,countP_cons→aa2,countP_eq_length→abq,countP_le_length→abr,countP_mono_left→aa0,countP_pos_iff→abA,ext_getElem?→ZS,filter_append→aaq,filter_cons→ZD,find?_append→aaZ,find?_cons→ZN,find?_cons_of_neg→abm,find?_eq_none→Zx,find?_eq_some_iff_getElem→aar,find?_some→aa4,flatMap_append→aai,flatMap_cons→Zk,foldl_append→Z7,foldl_cons→YN,getD_cons_succ→ZE,getD_eq_getElem?_getD→Ye,getElem?_append_left→YA,getElem?_cons_succ→aau,getElem?_cons_zero→aaV,getElem?_eq_getElem→Yi,getElem?_eq_none→Z0,getElem?_eq_some_iff→Yj,getElem?_map→Yo,getElem?_of_mem→Y9,getElem?_range→ZL,getElem?_replicate→aad,getElem?_set→Y4,getElem?_take→Zi,getElem?_zipWith→abt,getElem_inj→aaM,getElem_map→aa1,getElem_mem→YZ,length→aaG,length_append→Yg,length_cons→YT,length_eq_zero_iff→ZP,length_filter_le→Ze,length_map→YH,length_nil→ZM,length_range→aah,length_singleton→YY,length_take→YV,map_append→Yk,map_congr_left→ZC,map_cons→Yz,map_map→Z4,map_nil→Y7,map_set→ZV,map_take→abB,mem_append→Ys,mem_append_left→YQ,mem_append_right→ZK,mem_cons→Yx,mem_cons_of_mem→Yt,mem_cons_self→Yy,mem_filter→YO,mem_flatMap→ZZ,mem_iff_getElem→ZA,mem_map→YP,mem_map_of_mem→Zs,mem_of_find?_eq_some→aal,mem_of_getElem?→YL,mem_of_mem_take→aaI,mem_or_eq_of_mem_set→aaP,mem_range→YM,mem_singleton→Yr,mem_singleton_self→aae,mem_take_iff_getElem→aam,nil_append→aaj,nodup_append→Z2,nodup_cons→Zo,nodup_nil→Zd,pairwise_append→aat,pairwise_cons→ZI,pairwise_iff_getElem→aaN,range→Yv,replicate→ZW,sum_cons→aaa,take_length→Z5,take_of_length_le→Yn,take_succ_cons→ZF,zipWith→abk,zipWith_cons_cons→abl
open Nat renaming add_assoc→ZR,add_le_add_right→aa3,beq→YJ,ble→aaf,ble_eq_true_of_le→YX,blt→YD,eq_of_beq_eq_true→YE,le_antisymm→aa5,le_of_ble_eq_true→Yd,le_of_eq→abF,le_of_not_lt→aap,le_refl→Ym,le_succ→aaH,le_trans→YR,lt_or_ge→Zj,lt_succ_iff_lt_or_eq→Zp,max_eq_right→abI,not_lt_zero→Z3,zero_add→YC,zero_le→Yl
open Option renaming bind_some→abg,map_eq_none_iff→aax,map_eq_some_iff→Yq,map_some→Zg
open Option.some renaming inj→Zh,injEq→Yh
open Prod renaming fst→YI
open Prod.mk renaming injEq→Yw
set_option maxRecDepth 100000
open Bool renaming false→li,true→lc
open Decidable renaming decide→lw
open Inhabited renaming default→io
open Option renaming none→kw,some→jp
open Array renaming getD_eq_getD_getElem?→Yf
open Array renaming range→abv
open Array renaming getElem?_map→aaD
open Option renaming getD_some→ZG
open Array renaming getElem?_eq_getElem→Zb
open Nat renaming mul_le_mul_right→YS
open Nat renaming add_mul→Zz
open Array renaming getElem?_append_left→Zr
open List renaming getElem?_append_right→YF
open Array renaming getElem?_toList→Zn
namespace Go.Proofs.YtflegjieadkonaaGreatDoor
open Go Go.Al Go.Proofs.Tryz
theorem lG{P:Program}{nt:Nat}{Q:AQ}{k:List KI}{s t:AS}{c:Code}(L:List Nat)(h0:Wk s.nx L s t)(h:GO P nt (.code c::k) Q t):GO P nt (.code c::k) Q s:=by
 intro M N a w u;exact AW.then h (h0.fits u) fun e A B d j s' y b x=>⟨d,j,s',(h0.ext (.refl _ _ _ _ _)).trans y,b,x⟩
theorem Py:gi .gn (rS []):=⟨id,fun M N U w j b=>⟨#[],0,b,⟨rfl,by simp,by simp,by simp,by simp⟩,.agg _ _ Z fun j p b=>by
 match j,b with
 |0,b=>cases b;exact .v _
 |1,b=>cases b;exact .v _
 |j+2,b=>simp[aM.c]at b⟩⟩
theorem Pz:gi .gn (sa []):=⟨id,fun M N U w j b=>⟨#[],0,b,⟨rfl,by simp,by simp,by simp,by simp⟩,ig M⟩⟩
def jj(s:aj):Expr:= .mk 1 s ⟨0,0,Yp⟩ 0 []
abbrev E2(s:aj):PV:= .agg [pI 1,pS s,pI 0,pI 0,pS Yp,pI 0,.iv (.v (.slice kw 0 0))]
theorem q8(s:aj):aG (E2 s) (ag (jj s).c):= .agg ⟨.refl _,.refl _,.refl _,.refl _,.refl _,.refl _,.nil _ _,ac⟩
theorem jC(s:aj):(jj s).size=1:=rfl
def wv(r:aq)(i:Int)(t:TS)(f:Int)(v:aj)(o:Expr):TS:=
 if f=2 then(t.add (gm r i i o)).add (gm r i i (jj v)) else if f=1 then t.add (gm r i i (jj v)) else jx r i i t (jj v) o
def sc(p:Prog)(r:aq)(i:Int)(t:TS)(b:List Lit):Nat->TS
 |0=>t
 |k+1=>pN p r i i (sc p r i t b k) (b.getD k io)
def stepT(p:Prog)(r:aq)(i:Int)(t:TS)(l:Lit):TS:=
 if l.kind=4 then sc p r i (wv r i t l.dY l.bp l.kQ) l.au l.au.length else pN p r i (-1) t l
def TS.o:TS:=⟨[],[],[]⟩
def fi(p:Prog)(r:aq):Nat->TS
 |0=>TS.o.add (gq p r r.head (-1) (-1) r.head.ae.length)
 |k+1=>stepT p r k (fi p r k) (r.body.getD k io)
def cI(b:UM)(m:KM)(w:Want):KM:=if w.has=0∧bY (.si .i64) m (aO b w.at_) 0=0 then ck (.si .i64) m (aO b w.at_) w.kind else m
def oN(p:Prog)(r:aq):TS:=⟨(fi p r r.body.length).up,(fi p r r.body.length).ws,(fi p r r.body.length).ws.foldl (cI (fi p r r.body.length).up) []⟩
theorem JL(r:aq)(i:Int){t:TS}(ok:iT t.up)(f:Int)(v:aj)(o:Expr):iT (wv r i t f v o).up:=by
 unfold wv
 repeat' split
 .exact ok
 .exact ok
 .exact EU r i i ok _ _
theorem DY(p:Prog)(r:aq)(i:Int){t:TS}(ok:iT t.up)(b:List Lit): ∀k,iT (sc p r i t b k).up
 |0=>ok
 |k+1=>Lg p r i i (DY p r i ok b k) _
theorem OC(p:Prog)(r:aq)(i:Int){t:TS}(ok:iT t.up)(l:Lit):iT (stepT p r i t l).up:=by
 unfold stepT;split
 .exact DY p r i (JL r i ok _ _ _) _ _
 .exact Lg p r i (-1) ok l
theorem Cn(p:Prog)(r:aq): ∀k,iT (fi p r k).up
 |0=>trivial
 |k+1=>OC p r k (Cn p r k) _
theorem yX(r:aq)(lit w:Int)(t:TS)(a b:Expr):(jx r lit w t a b).kind=t.kind:=by
 have d: ∀(t:TS) u v,(sI t u v).kind=t.kind:=fun t u v=>by unfold sI;split<;>rfl
 have j: ∀(t:TS) x y,(fW r lit w t x y).kind=t.kind:=fun t x y=>by
  unfold fW;split
  .exact d _ _ _
  .rfl
 unfold jx;split<;>exact j _ _ _
theorem DK(p:Prog)(r:aq)(lit w:Int)(t:TS)(l:Lit):(pN p r lit w t l).kind=t.kind:=by
 unfold pN
 repeat' split
 .rfl
 .exact yX r lit w t _ _
 .rfl
 .rfl
theorem Ho(p:Prog)(r:aq)(i:Int)(t:TS)(b:List Lit): ∀k,(sc p r i t b k).kind=t.kind
 |0=>rfl
 |k+1=>by rw[sc,DK,Ho p r i t b k]
theorem Ih(p:Prog)(r:aq)(i:Int)(t:TS)(l:Lit):(stepT p r i t l).kind=t.kind:=by
 unfold stepT;split
 .rw[Ho];unfold wv
  repeat' split
  .rfl
  .rfl
  .exact yX r i i t _ _
 .exact DK p r i (-1) t l
theorem A4(p:Prog)(r:aq): ∀k,(fi p r k).kind=[]
 |0=>rfl
 |k+1=>by rw[fi,Ih,A4 p r k]
theorem Gt(r:aq)(i:Int)(t:TS)(f:Int)(v:aj)(o:Expr):(wv r i t f v o).ws.length<=t.ws.length+o.size+2:=by
 have j:=jW r i i o;have b:=jW r i i (jj v);have d:=Bc r i i t (jj v) o;rw[jC]at b d;unfold wv
 repeat' split
 .show((t.ws++_)++_).length<=_;rw[Yg,Yg];omega
 .show(t.ws++_).length<=_;rw[Yg];omega
 .omega
theorem eS: ∀(l:List Lit) (i:Nat),i<l.length->Lit.aA (l.take i)+(l.getD i io).size<=Lit.aA l
 | [],i,h=>by simp at h
 |s::r,0,_=>by simp[Lit.aA]
 |s::r,i+1,h=>by
  have:=eS r i (by simpa using h);simp only[ZF,ZE,Lit.aA];omega
theorem Lit.oP(l:List Lit)(i:Nat)(h:i<l.length):Lit.aA (l.take (i+1))=Lit.aA (l.take i)+(l.getD i io).size:=by
 rw[aK h];have: ∀(a:List Lit) (b:Lit),Lit.aA (a++ [b])=Lit.aA a+b.size:=by
  intro a b
  induction a with
  |nil=>simp[Lit.aA]
  |cons x r ih=>simp only[ZO,Lit.aA,ih];omega
 exact this _ _
theorem yf(p:Prog)(r:aq)(i:Int)(t:TS)(b:List Lit): ∀k,k<=b.length->(sc p r i t b k).ws.length<=t.ws.length+Lit.aA (b.take k)
 |0,_=>by simp[sc,Lit.aA]
 |k+1,h=>by
  have d:=yf p r i t b k (by omega);have j:=Hd p r i i (sc p r i t b k) (b.getD k io);rw[sc,Lit.oP b k (by omega)];omega
theorem J9(p:Prog)(r:aq)(i:Int)(t:TS)(l:Lit):(stepT p r i t l).ws.length<=t.ws.length+l.size:=by
 have d:=l.size_eq;unfold stepT;split
 .have b:=yf p r i (wv r i t l.dY l.bp l.kQ) l.au l.au.length (Ym _);have j:=Gt r i t l.dY l.bp l.kQ;rw[Z5]at b;omega
 .exact Hd p r i (-1) t l
theorem yI(p:Prog)(r:aq): ∀k,k<=r.body.length->(fi p r k).ws.length<=r.head.ae.length+Lit.aA (r.body.take k)
 |0,_=>by
  have:=pr p r r.head (-1) (-1) r.head.ae.length;show([]++_).length<=_;simp only[aaj];omega
 |k+1,h=>by
  have b:=yI p r k (by omega);have d:=J9 p r k (fi p r k) (r.body.getD k io);rw[fi,Lit.oP r.body k (by omega)];omega
theorem Xb(r:aq)(b:UM)(d:KM)(W:IV)(v0:aM)(ok:iT b):cj prog 201 [.ptr 0 0,ag v0.c] [.cells [.iv (da r),.mp 1,.iv W,.mp 2],rS b,sa d] (ag (aO b v0).c) [(0,jp (.cells [.iv (da r),.mp 1,.iv W,.mp 2])),(1,jp (rS b)),(2,jp (sa d))] 3:=by
 refine aE ab func201 Z (by decide) ntmps201 Z (by simp) ?_;refine gA Z ?_
 refine ow (σ:={v:aM//aO b v=aO b v0}) (fun v=>⟨[(0,.ptr 0 0),(3,.ptr 3 0),(4,.ptr 4 0)],
  [(0,jp (.cells [.iv (da r),.mp 1,.iv W,.mp 2])),(1,jp (rS b)),(2,jp (sa d)),(3,jp (.cells [pS v.1.1,pI v.1.2])),(4,jp (.cells [pS ⟨#[]⟩,pI 0]))],5⟩) (fun v=>H4 b v.1) ⟨v0,rfl⟩ []
  (zW (zO (zC (zC ⟨⟨_,rfl,.of_eq Z⟩,Yd Z,rfl,⟨_,rfl,.of_eq Z⟩,Yd Z,rfl,ac⟩)))) fun v=>?_
 obtain⟨v,j⟩:=v;refine zJ Z Z (fun g=>?_) fun g=>?_
 .have h:ej (.si .i64) b v=li:=by simpa using g
  have e:aO b v0=v:=by rw[<-j];exact ub b v h
  refine gA Z (zD [] Z (zM ⟨.of_eq (congrArg (fun x:aM=>ag x.c) e.symm),rfl,ac⟩ (zO (zC (zC ac)))))
 .have h:ej (.si .i64) b v=lc:=by simpa using g
  obtain⟨u,y⟩:=p4 b v ok h;refine gA Z ⟨⟨bY (.si .i64) b v aM.z,u.trans j⟩,[],y,zW (zO (zC (zC ⟨⟨_,rfl,.of_eq Z⟩,Yd Z,rfl,⟨_,rfl,.of_eq Z⟩,Yd Z,rfl,ac⟩)))⟩
set_option maxHeartbeats 2000000 in
theorem c49(p:Prog)(r:aq)(hb:r.size<=100000000):Pure prog 168 [.iv (dr p),.iv (da r)] (.iv (SZ r (oN p r))):=by
 unfold aq.size at hb;have c0:=Lit.ax r.body;have j0:r.body.length<=Lit.aA r.body:=c0;refine ad ab func168 Z (by decide) ntmps168 Z (by simp) Z ?_;refine gM 14 Z (k9 2 2 5 Z Z ?_);refine lG [] (t:=⟨[(0,.iv (dr p)),(1,.iv (da r)),(5,.ptr 2 0)],[(2,jp (TS.cell r 0 3 TS.o.ws.length 1)),(0,jp (rS TS.o.up)),(3,jp (aC 5 TS.o.ws Want.c)),(1,jp (sa TS.o.kind))],4⟩)
  (zW ⟨⟨_,rfl,.of_eq Z⟩,Yd Z,rfl,⟨_,rfl,Py⟩,Yd Z,ac,⟨_,rfl,.of_eq Z⟩,Yd Z,cH _,⟨_,rfl,Pz⟩,Yd Z,ac,ac⟩) ?_
 refine gA Z (Ed (d90 p r TS.o r.head (-1) (-1) (by show 0+_<=_;omega)) Z Z Z Z Z Z Z (by first|rfl|(rw[Yg];rfl)|simp) (by first|rfl|(rw[Yk];rfl)|(simp only[Yk,Yu];rfl)) Z Z Z Z Z Z ?_);refine gA Z ?_
 refine ar 0 r.body.length (Yl _) (fun i=>⟨[(0,.iv (dr p)),(1,.iv (da r)),(5,.ptr 2 0),(31,.iv (lits r.body)),(32,pI r.body.length),(33,pI i)],
  [(2,jp (TS.cell r 0 5 (fi p r i).ws.length 1)),(0,jp (rS (fi p r i).up)),(5,jp (aC 5 (fi p r i).ws Want.c)),(1,jp (sa (fi p r i).kind))],6⟩) (fun _=>True) _ ac
  (QH (t:=fi p r 0) Z Z Z Z Z Z Z Z Z Z Z (bv (bv (bv (bv (bv (bv trivial))))))) fun i hi _=>?_
 have g0:=yI p r i hi;have B:=Cn p r i;refine zJ Z Z (fun y=>?_) fun y=>?_
 .have y:=ci y;have m0:=eS r.body i y;have F:fi p r (i+1)=stepT p r i (fi p r i) (r.body.getD i io):=rfl;generalize fi p r i=t1 at*
  have n0:=(r.body.getD i io).size_eq;refine zJ Z Z (fun D=>?_) fun D=>?_
  .have D: ¬(r.body.getD i io).kind=4:=by have g:(!lw ((r.body.getD i io).kind=4))=lc:=D;simpa only[Y1,decide_eq_false_iff_not]using g
   have hS:stepT p r i t1 (r.body.getD i io)=pN p r i (-1) t1 (r.body.getD i io):=be D;rw[hS]at F;refine gA Z (Hr (d91 p r t1 (r.body.getD i io) i (-1) B (by omega)) ?_);refine gA Z ⟨y,ac,_,sy (F.symm)⟩
  have D:(r.body.getD i io).kind=4:=by have g:(!lw ((r.body.getD i io).kind=4))=li:=D;simpa only[ZJ,decide_eq_true_eq]using g
  have hS:stepT p r i t1 (r.body.getD i io)=sc p r i (wv r i t1 (r.body.getD i io).dY (r.body.getD i io).bp (r.body.getD i io).kQ) (r.body.getD i io).au (r.body.getD i io).au.length:=am D;rw[hS]at F;have Y:wv r i t1 (r.body.getD i io).dY (r.body.getD i io).bp (r.body.getD i io).kQ=if(r.body.getD i io).dY=2 then(t1.add (gm r i i (r.body.getD i io).kQ)).add (gm r i i (jj (r.body.getD i io).bp)) else if(r.body.getD i io).dY=1 then t1.add (gm r i i (jj (r.body.getD i io).bp)) else jx r i i t1 (jj (r.body.getD i io).bp) (r.body.getD i io).kQ:=rfl;have C:=JL r i B (r.body.getD i io).dY (r.body.getD i io).bp (r.body.getD i io).kQ;have i0:=Gt r i t1 (r.body.getD i io).dY (r.body.getD i io).bp (r.body.getD i io).kQ;have b0:=Lit.ax (r.body.getD i io).au;have o0:=jC (r.body.getD i io).bp;have k0:=jW r i i (r.body.getD i io).kQ;generalize wv r i t1 (r.body.getD i io).dY (r.body.getD i io).bp (r.body.getD i io).kQ=V at*
  refine zJ Z Z (fun f2=>?_) fun f2=>?_
  .have f2:(r.body.getD i io).dY=2:=zT f2;have S:V=(t1.add (gm r i i (r.body.getD i io).kQ)).add (gm r i i (jj (r.body.getD i io).bp)):=by rw[Y,am f2]
   refine gA Z (Hr (Mq r t1 (r.body.getD i io).kQ i i (by omega)) ?_);refine gA Z (Ed (cj.le (aa:=[.ptr 0 0,E2 (r.body.getD i io).bp,pI i,pI i]) (Mq r (t1.add (gm r i i (r.body.getD i io).kQ)) (jj (r.body.getD i io).bp) i i (by show(t1.ws++_).length+_<=_;rw[Yg,jC];omega)) ⟨.refl _,q8 _,.refl _,.refl _,ac⟩) Z Z Z Z Z Z Z (by first|rfl|(rw[Yg];rfl)|simp) (by first|rfl|(rw[Yk];rfl)|(simp only[Yk,Yu];rfl)) Z Z Z Z Z Z ?_);refine gA Z ?_;refine ar 0 (r.body.getD i io).au.length (Yl _) (fun k=>⟨[(0,.iv (dr p)),(1,.iv (da r)),(5,.ptr 2 0),(6,pI i),(31,.iv (lits r.body)),(32,pI r.body.length),(33,pI i),(79,.iv (lits (r.body.getD i io).au)),(80,pI (r.body.getD i io).au.length),(81,pI k)],[(2,jp (TS.cell r 0 10 (sc p r i V (r.body.getD i io).au k).ws.length 1)),(0,jp (rS (sc p r i V (r.body.getD i io).au k).up)),(10,jp (aC 5 (sc p r i V (r.body.getD i io).au k).ws Want.c)),(1,jp (sa (sc p r i V (r.body.getD i io).au k).kind))],11⟩) (fun _=>True) _ ac
    (QH S.symm Z Z Z Z Z Z Z Z Z Z (bv (bv (bv (bv (bv (bv (bv ⟨.iv (ly _),rfl,bv (bv trivial)⟩)))))))) fun k u _=>?_
   have G:=yf p r i V (r.body.getD i io).au k u;have j:=DY p r i C (r.body.getD i io).au k;have I:sc p r i V (r.body.getD i io).au (k+1)=pN p r i i (sc p r i V (r.body.getD i io).au k) ((r.body.getD i io).au.getD k io):=rfl;refine zJ Z Z (fun d=>?_) fun d=>?_
   .have d:k<(r.body.getD i io).au.length:=zN d;have J:=eS (r.body.getD i io).au k d;refine gA Z (Hr (d91 p r (sc p r i V (r.body.getD i io).au k) ((r.body.getD i io).au.getD k io) i i j (by omega)) ?_);refine gA Z ⟨d,ac,_,sy (rfl)⟩
   .have d:(r.body.getD i io).au.length<=k:=zG d;have x:k=(r.body.getD i io).au.length:=by omega
    subst x;refine gA Z ⟨y,ac,_,sy (F.symm)⟩
  have f2: ¬(r.body.getD i io).dY=2:=zF f2;rw[be f2]at Y;refine zJ Z Z (fun f1=>?_) fun f1=>?_
  .have f1:(r.body.getD i io).dY=1:=zT f1;have S:V=t1.add (gm r i i (jj (r.body.getD i io).bp)):=by rw[Y,am f1]
   refine gA Z (Hr (cj.le (aa:=[.ptr 0 0,E2 (r.body.getD i io).bp,pI i,pI i]) (Mq r t1 (jj (r.body.getD i io).bp) i i (by rw[jC];omega)) ⟨.refl _,q8 _,.refl _,.refl _,ac⟩) ?_);refine gA Z ?_;refine ar 0 (r.body.getD i io).au.length (Yl _) (fun k=>⟨[(0,.iv (dr p)),(1,.iv (da r)),(5,.ptr 2 0),(6,pI i),(31,.iv (lits r.body)),(32,pI r.body.length),(33,pI i),(79,.iv (lits (r.body.getD i io).au)),(80,pI (r.body.getD i io).au.length),(81,pI k)],[(2,jp (TS.cell r 0 9 (sc p r i V (r.body.getD i io).au k).ws.length 1)),(0,jp (rS (sc p r i V (r.body.getD i io).au k).up)),(9,jp (aC 5 (sc p r i V (r.body.getD i io).au k).ws Want.c)),(1,jp (sa (sc p r i V (r.body.getD i io).au k).kind))],10⟩) (fun _=>True) _ ac
    (QH S.symm Z Z Z Z Z Z Z Z Z Z (bv (bv (bv (bv (bv (bv (bv ⟨.iv (ly _),rfl,bv (bv trivial)⟩)))))))) fun k u _=>?_
   have G:=yf p r i V (r.body.getD i io).au k u;have j:=DY p r i C (r.body.getD i io).au k;have I:sc p r i V (r.body.getD i io).au (k+1)=pN p r i i (sc p r i V (r.body.getD i io).au k) ((r.body.getD i io).au.getD k io):=rfl;refine zJ Z Z (fun d=>?_) fun d=>?_
   .have d:k<(r.body.getD i io).au.length:=zN d;have J:=eS (r.body.getD i io).au k d;refine gA Z (Hr (d91 p r (sc p r i V (r.body.getD i io).au k) ((r.body.getD i io).au.getD k io) i i j (by omega)) ?_);refine gA Z ⟨d,ac,_,sy (rfl)⟩
   .have d:(r.body.getD i io).au.length<=k:=zG d;have x:k=(r.body.getD i io).au.length:=by omega
    subst x;refine gA Z ⟨y,ac,_,sy (F.symm)⟩
  .have f1: ¬(r.body.getD i io).dY=1:=zF f1;have S:V=jx r i i t1 (jj (r.body.getD i io).bp) (r.body.getD i io).kQ:=by rw[Y,be f1]
   refine gA Z (Hr (cj.le (aa:=[.ptr 0 0,E2 (r.body.getD i io).bp,ag (r.body.getD i io).kQ.c,pI i,pI i]) (d93 r t1 (jj (r.body.getD i io).bp) (r.body.getD i io).kQ i i B (by rw[jC];omega)) ⟨.refl _,q8 _,.refl _,.refl _,.refl _,ac⟩) ?_);refine gA Z ?_;refine ar 0 (r.body.getD i io).au.length (Yl _) (fun k=>⟨[(0,.iv (dr p)),(1,.iv (da r)),(5,.ptr 2 0),(6,pI i),(31,.iv (lits r.body)),(32,pI r.body.length),(33,pI i),(79,.iv (lits (r.body.getD i io).au)),(80,pI (r.body.getD i io).au.length),(81,pI k)],[(2,jp (TS.cell r 0 9 (sc p r i V (r.body.getD i io).au k).ws.length 1)),(0,jp (rS (sc p r i V (r.body.getD i io).au k).up)),(9,jp (aC 5 (sc p r i V (r.body.getD i io).au k).ws Want.c)),(1,jp (sa (sc p r i V (r.body.getD i io).au k).kind))],10⟩) (fun _=>True) _ ac
    (QH S.symm Z Z Z Z Z Z Z Z Z Z (bv (bv (bv (bv (bv (bv (bv ⟨.iv (ly _),rfl,bv (bv trivial)⟩)))))))) fun k u _=>?_
   have G:=yf p r i V (r.body.getD i io).au k u;have j:=DY p r i C (r.body.getD i io).au k;have I:sc p r i V (r.body.getD i io).au (k+1)=pN p r i i (sc p r i V (r.body.getD i io).au k) ((r.body.getD i io).au.getD k io):=rfl;refine zJ Z Z (fun d=>?_) fun d=>?_
   .have d:k<(r.body.getD i io).au.length:=zN d;have J:=eS (r.body.getD i io).au k d;refine gA Z (Hr (d91 p r (sc p r i V (r.body.getD i io).au k) ((r.body.getD i io).au.getD k io) i i j (by omega)) ?_);refine gA Z ⟨d,ac,_,sy (rfl)⟩
   .have d:(r.body.getD i io).au.length<=k:=zG d;have x:k=(r.body.getD i io).au.length:=by omega
    subst x;refine gA Z ⟨y,ac,_,sy (F.symm)⟩
 .have y:=co y;have d0:i=r.body.length:=by omega
  subst d0;have hT:oN p r=⟨(fi p r r.body.length).up,(fi p r r.body.length).ws,(fi p r r.body.length).ws.foldl (cI (fi p r r.body.length).up) []⟩:=rfl;rw[hT];rw[Z5]at g0;have f0:(fi p r r.body.length).kind=[]:=A4 p r _;generalize fi p r r.body.length=t1 at*
  have a0:t1.kind=(t1.ws.take 0).foldl (cI t1.up) []:=f0;refine gA Z ?_;refine uv 5 (fun k=>Want.c (t1.ws.getD k io)) Z (cL Z) (by simp[AF.rk,PV.bG,qS]) ⟨(by simp[AO.rk,dC,PV.bG]),ac,jT _ _ _ _ _ _,ac,ac⟩ ?_
  refine ar 0 t1.ws.length (Yl _) (fun i=>⟨[(5,.ptr 2 0),(96,.iv (cT 5 t1.ws Want.c)),(97,pI t1.ws.length),(98,pI i)],
   [(2,jp (.cells [.iv (da r),.mp 0,.iv (cT 5 t1.ws Want.c),.mp 1])),(0,jp (rS t1.up)),(1,jp (sa ((t1.ws.take i).foldl (cI t1.up) [])))],6⟩) (fun _=>True) [] ac
   (zM (bv ⟨.dp Z (fun k _=>by rw[YC]),rfl,bv (bv trivial)⟩) ⟨⟨_,rfl,.cells ⟨.refl _,.refl _,.dp Z (fun k _=>by rw[YC]),.refl _,ac⟩⟩,Yd Z,rfl,zC (hM Z a0 Z trivial)⟩) fun i hi _=>?_
  refine zJ Z Z (fun d=>?_) fun d=>?_
  .have d:i<t1.ws.length:=zN d;have A:=cF (g:=cI t1.up) (b:=[]) d;refine gA Z (zq [2,0,1] (Xb r t1.up ((t1.ws.take i).foldl (cI t1.up) []) (cT 5 t1.ws Want.c) (t1.ws.getD i io).at_ B) ?_);refine zJ Z Z (fun g1=>?_) fun g1=>?_
   .have g1:(t1.ws.getD i io).has=0:=zT g1;refine zJ Z Z (fun g2=>?_) fun g2=>?_
    .have g2:bY (.si .i64) ((t1.ws.take i).foldl (cI t1.up) []) (aO t1.up (t1.ws.getD i io).at_) 0=0:=zT g2;have u:cI t1.up ((t1.ws.take i).foldl (cI t1.up) []) (t1.ws.getD i io)=ck (.si .i64) ((t1.ws.take i).foldl (cI t1.up) []) (aO t1.up (t1.ws.getD i io).at_) (t1.ws.getD i io).kind:=am ⟨g1,g2⟩;rw[u]at A;refine gA Z ⟨d,ac,[],zW (zO (zC (hM Z (by first|exact A.symm|(rw[A];rfl)) Z ac)))⟩
    .have g2: ¬bY (.si .i64) ((t1.ws.take i).foldl (cI t1.up) []) (aO t1.up (t1.ws.getD i io).at_) 0=0:=zF g2;have u:cI t1.up ((t1.ws.take i).foldl (cI t1.up) []) (t1.ws.getD i io)=(t1.ws.take i).foldl (cI t1.up) []:=be fun h=>g2 h.2;rw[u]at A;refine gA Z ⟨d,ac,[],zW (zO (zC (hM Z (by first|exact A.symm|(rw[A];rfl)) Z ac)))⟩
   .have g1: ¬(t1.ws.getD i io).has=0:=zF g1;have u:cI t1.up ((t1.ws.take i).foldl (cI t1.up) []) (t1.ws.getD i io)=(t1.ws.take i).foldl (cI t1.up) []:=be fun h=>g1 h.1;rw[u]at A;refine gA Z ⟨d,ac,[],zW (zO (zC (hM Z (by first|exact A.symm|(rw[A];rfl)) Z ac)))⟩
  .have d:t1.ws.length<=i:=zG d;have e0:t1.ws.take i=t1.ws:=Yn d;refine ox Z ac (kf (.inr Z) Z (.map 0 Z (.map 1 Z (.cells 2 _ Z (show _=List.map PV.iv [da r,upI t1.up,cT 5 t1.ws Want.c,kdI (t1.ws.foldl (cI t1.up) [])] by rw[e0];rfl) (.done (.of_eq Z))))))
def lX(a:Atom):Bool:=(ku WS.o a).bad
def jZ(l:Lit):Bool:=(eG l.size l WS.o).bad
def pA(l:Lit):Bool:=lw (l.kind=4)&&lw ((l.au.length:Int)>12)
def ja(n:Nat):List Int:=(Yv (n+1)).map fun k:Nat=>(k:Int)-1
theorem rn(n:Nat):(ja n).length=n+1:=by simp[ja]
theorem rq(n k:Nat)(h:k<n+1):(ja n).getD k io=(k:Int)-1:=by simp[ja,h]
def vB(f:Int->Bool)(n:Nat):Option Int:=(ja n).find? f
abbrev aT:=Int×Pos
def aT.c(d:aT):List IV:=[iI d.1,iI d.2.line,iI d.2.HN]
def bF(r:aq)(e:Int)(f:Int->Bool)(k:aT):aT:=match vB f r.body.length with
 |some lit=>(e,fw r lit)
 |none=>k
def xX(p:Prog)(r:aq):aT:=
 bF r 61 (fun lit=>(bs r lit).any fun x=>lZ p x)<|bF r 62 (fun lit=>(bs r lit).any fun x=>nn p x)<|bF r 65 (dH r)<|bF r 63 (nI (oN p r))<|bF r 64 (dQ r) (0,⟨0,0⟩)
def ua(p:Prog)(r:aq)(n:Int):aT:=
 if lX r.head=lc then(1,r.at_) else match r.body.find? jZ with
 |some l=>(1,l.at)
 |none=>if n>256∨(r.body.length:Int)>12 then(66,r.at_) else if(tQ r:Int)>24 then(66,r.at_) else match r.body.find? pA with
  |some l=>(66,l.at)
  |none=>xX p r
def aq.fit(r:aq):Prop:=r.size<=10000000∧r.head.ts<=900000000∧ ∀l∈r.body,l.ts<=900000000
theorem eP{α:Type}{p:α->Bool}{l:List α}(h:l.any p=li):l.find? p=kw:=by
 rw[Zx];intro x b;have:=Y5.1 h x b;simpa using this
theorem j9{α:Type}[Inhabited α]{p:α->Bool}{l:List α}{i:Nat}(h:(l.take i).any p=li)(hi:i<l.length)(hp:p (l.getD i io)=lc):l.find? p=jp (l.getD i io):=by
 have b:l.getD i io=l[i]:=by simp[hi]
 rw[b]at hp ⊢;rw[aar];refine⟨hp,i,hi,rfl,fun j d=>?_⟩;have:=Y5.1 h l[j] (List.mem_iff_getElem?.2 ⟨j,by rw[Zi,am d,Yi (by omega)]⟩);simpa using this
def kX(p:Prog)(r:aq):List (List PV):=[[pI 61,.dx (.func 160) [] [.ptr 1 0,.ptr 0 0]],[pI 62,.dx (.func 164) [] [.ptr 1 0,.ptr 0 0]],[pI 65,.dx (.func 166) [] [.ptr 1 0]],[pI 63,.dx (.func 169) [.iv (SZ r (oN p r))] []],[pI 64,.dx (.func 170) [.iv (da r)] []]]
theorem c9(p:Prog)(r:aq)(n:Nat)(h:YD 1 n=lc):(AO.row 2 (kX p r)).low n:=by
 have d:YD 0 n=lc:=YX (by have:=Yd h;omega);intro k e b
 match k,b with
 |0,b=>cases b;simp[bq,PV.low,h,d]
 |1,b=>cases b;simp[bq,PV.low,h,d]
 |2,b=>cases b;simp[bq,PV.low,h,d]
 |3,b=>cases b;simp[bq,PV.low,h,d]
 |4,b=>cases b;simp[bq,PV.low,h,d]
 |k+5,b=>simp[kX]at b
theorem mF{r:aq}{e:Int}{f:Int->Bool}{k:aT}{i:Nat}(d:((ja r.body.length).take i).any f=li)(hi:i<r.body.length+1)(h:f ((i:Int)-1)=lc):bF r e f k=(e,fw r ((i:Int)-1)):=by
 have b:=rq r.body.length i hi;have:=j9 d (by rw[rn];exact hi) (by rw[b];exact h);rw[b]at this;rw[bF,vB,this]
theorem om{r:aq}{e:Int}{f:Int->Bool}{k:aT}{i:Nat}(b:((ja r.body.length).take i).any f=li)(hi:r.body.length+1<=i):bF r e f k=k:=by
 rw[Yn (by rw[rn];exact hi)]at b;rw[bF,vB,eP b]
theorem oj{r:aq}{f:Int->Bool}{i:Nat}(b:((ja r.body.length).take i).any f=li)(hi:i<r.body.length+1)(h:f ((i:Int)-1)=li):((ja r.body.length).take (i+1)).any f=li:=by
 refine(a7 b (by rw[rn];exact hi)).2 ?_;rw[rq _ _ hi];exact h
set_option maxHeartbeats 4000000 in
theorem c65(p:Prog)(r:aq)(n:Int)(hb:r.fit):Pure prog 125 [.iv (dr p),ag r.c,pI n] (ag (ua p r n).c):=by
 obtain⟨hb,F,G⟩:=hb;have b0:r.size=r.head.ae.length+Lit.aA r.body:=rfl;have J:=Lit.ax r.body;refine ad ab func125 Z (by decide) ntmps125 Z (by simp) Z ?_;refine gA Z (zp (c61 r.head F) ?_);refine zJ Z Z (fun g1=>?_) fun g1=>?_
 .have g1:lX r.head=lc:=by
   cases h:lX r.head with
   |true=>rfl
   |false=>
    have h:(ku WS.o r.head).bad=li:=h;rw[h]at g1;simp at g1
  rw[ua,am g1];exact zU Z
 have g1: ¬lX r.head=lc:=by
  intro h;have h:(ku WS.o r.head).bad=lc:=h;rw[h]at g1;simp at g1
 rw[ua,be g1];refine gA Z ?_;refine ar 0 r.body.length (Yl _) (fun i=>⟨[(2,pI n),(3,.ptr 0 0),(4,.ptr 1 0),(6,.ptr 2 0),(32,.iv (lits r.body)),(33,pI r.body.length),(34,pI i)],[(0,jp (.cells [.iv (dr p)])),(1,jp (ak r.c)),(2,jp (.cells [pI 0,pI 0,pI 0]))],3⟩) (fun i=>(r.body.take i).any jZ=li) [] (by simp)
  (zW ⟨⟨_,rfl,.of_eq Z⟩,Yd Z,rfl,⟨_,rfl,.of_eq Z⟩,Yd Z,rfl,⟨_,rfl,.of_eq Z⟩,Yd Z,rfl,ac⟩) fun i S j=>?_
 refine zJ Z Z (fun A=>?_) fun A=>?_
 .have A:i<r.body.length:=zN A;have D:=a7 j A;have Y:r.body.getD i io∈r.body:=by rw[Ye,Yi A];exact YZ A
  have a0:=Lit.aS r.body i A;refine gA Z (bn (X0 (r.body.getD i io) (G _ Y) (by omega)) Z Z Z Z Z Z ?_);refine zJ Z Z (fun y=>?_) fun y=>?_
  .have y:jZ (r.body.getD i io)=lc:=by
    cases h:jZ (r.body.getD i io) with
    |true=>rfl
    |false=>
     have h:(eG (r.body.getD i io).size (r.body.getD i io) WS.o).bad=li:=h;have g:(!lw ((if(eG (r.body.getD i io).size (r.body.getD i io) WS.o).bad=lc then(50:Int) else 0)=0))=lc:=y;rw[h]at g;simp at g
   rw[j9 j A y];exact zU Z
  .have y:jZ (r.body.getD i io)=li:=by
    cases h:jZ (r.body.getD i io) with
    |false=>rfl
    |true=>
     have h:(eG (r.body.getD i io).size (r.body.getD i io) WS.o).bad=lc:=h;have g:(!lw ((if(eG (r.body.getD i io).size (r.body.getD i io) WS.o).bad=lc then(50:Int) else 0)=0))=li:=y;rw[h]at g;simp at g
   refine gA Z ⟨A,D.2 y,[],zW ⟨⟨_,rfl,.of_eq Z⟩,Yd Z,rfl,⟨_,rfl,.of_eq Z⟩,Yd Z,rfl,⟨_,rfl,.of_eq Z⟩,Yd Z,rfl,ac⟩⟩
 have A:r.body.length<=i:=zG A;rw[Yn A]at j;rw[eP j];refine zE Z Z (fun g2=>?_) fun g2=>?_
 .have g2:n>256:=by simpa using g2
  rw[am (.inl g2)];exact zU Z
 have g2: ¬n>256:=zF g2;refine zJ Z Z (fun g3=>?_) fun g3=>?_
 .rw[am (.inr (zT g3))];exact zU Z
 have g3: ¬(r.body.length:Int)>12:=zF g3;rw[be (by rintro(h|h);exact g2 h;exact g3 h)];refine gA Z (zp (c48 r (by omega)) ?_);refine gA Z (zp (XZ r (by omega)) ?_);refine zJ Z Z (fun g4=>?_) fun g4=>?_
 .rw[am (zT g4)];exact zU Z
 have g4: ¬(tQ r:Int)>24:=zF g4;rw[be g4];refine gA Z ?_;refine ar 0 r.body.length (Yl _) (fun i=>⟨[(3,.ptr 0 0),(4,.ptr 1 0),(6,.ptr 2 0),(13,.iv (da r)),(69,.iv (lits r.body)),(70,pI r.body.length),(71,pI i)],[(0,jp (.cells [.iv (dr p)])),(1,jp (ak r.c)),(2,jp (.cells [pI 0,pI 0,pI 0]))],3⟩) (fun i=>(r.body.take i).any pA=li) [] (by simp)
  (zW ⟨⟨_,rfl,.of_eq Z⟩,Yd Z,rfl,⟨_,rfl,.of_eq Z⟩,Yd Z,rfl,⟨_,rfl,.of_eq Z⟩,Yd Z,rfl,ac⟩) fun i S j=>?_
 refine zJ Z Z (fun y=>?_) fun y=>?_
 .have y:i<r.body.length:=zN y;have D:=a7 j y;refine zJ Z Z (fun k1=>?_) fun k1=>?_
  .have k1:(r.body.getD i io).kind=4:=zT k1;refine zJ Z Z (fun C=>?_) fun C=>?_
   .have C:pA (r.body.getD i io)=lc:=by rw[pA,decide_eq_true k1];exact C
    rw[j9 j y C];exact zU Z
   .have C:pA (r.body.getD i io)=li:=by rw[pA,decide_eq_true k1];exact C
    refine gA Z ⟨y,D.2 C,[],zW ⟨⟨_,rfl,.of_eq Z⟩,Yd Z,rfl,⟨_,rfl,.of_eq Z⟩,Yd Z,rfl,⟨_,rfl,.of_eq Z⟩,Yd Z,rfl,ac⟩⟩
  .have k1: ¬(r.body.getD i io).kind=4:=zF (by have g:lw ((r.body.getD i io).kind=4)=li:=k1;exact g);refine gA Z ⟨y,D.2 (by rw[pA,decide_eq_false k1];rfl),[],zW ⟨⟨_,rfl,.of_eq Z⟩,Yd Z,rfl,⟨_,rfl,.of_eq Z⟩,Yd Z,rfl,⟨_,rfl,.of_eq Z⟩,Yd Z,rfl,ac⟩⟩
 have y:r.body.length<=i:=zG y;rw[Yn y]at j;rw[eP j];refine gA Z (zp (c49 p r (by omega)) ?_);refine gA Z ?_;refine lG [] (t:=⟨[(3,.ptr 0 0),(4,.ptr 1 0),(6,.ptr 2 0),(104,.sl 3 0 5 2),(105,pI 5),(106,pI 0)],[(0,jp (.cells [.iv (dr p)])),(1,jp (ak r.c)),(2,jp (.cells [pI 0,pI 0,pI 0])),(3,jp (.row 2 (kX p r)))],4⟩)
  (zW (zO (zO (zO ⟨⟨_,rfl,.of_eq Z⟩,Yd Z,c9 p r _ Z,ac⟩)))) ?_
 have I:(oN p r).ws.length<=1000000000000:=by have:=yI p r r.body.length (Ym _);rw[Z5]at this;show(fi p r r.body.length).ws.length<=_;omega
 rw[xX];refine LO (n:=6) ?_;refine zE Z Z (fun q=>?_) fun q=>?_
 .exact absurd (show lc=li from q) (by decide)
 refine gA Z ?_;refine ar 0 (r.body.length+1) (Yl _) (fun k=>⟨[(3,.ptr 0 0),(4,.ptr 1 0),(6,.ptr 2 0),(18,.ptr 4 0),(19,pI ((k:Int)-1)),(104,.sl 3 0 5 2),(105,pI 5),(106,pI 0)],[(0,jp (.cells [.iv (dr p)])),(1,jp (ak r.c)),(2,jp (.cells [pI 0,pI 0,pI 0])),(3,jp (.row 2 (kX p r))),(4,jp (.cells [pI 61,.dx (.func 160) [] [.ptr 1 0,.ptr 0 0]]))],5⟩) (fun k=>((ja r.body.length).take k).any (fun lit=>(bs r lit).any fun x=>lZ p x)=li) [] Z
  (zW (zO (zO (zO ⟨⟨_,rfl,.of_eq Z⟩,Yd Z,c9 p r _ Z,(zO trivial)⟩)))) fun k B j=>?_
 refine zJ Z Z (fun d=>?_) fun d=>?_
 .have d:(k:Int)-1<r.body.length:=zT d;have b:k<r.body.length+1:=by omega
  refine gA Z (zq [1,0] (d110 p r ((k:Int)-1) (by omega) (by omega)) ?_);refine zJ Z Z (fun u=>?_) fun u=>?_
  .rw[mF j b u];refine gA Z (kR (ME r ((k:Int)-1) d) ?_);exact zU Z
  .refine gA Z ?_;exact⟨b,oj j b u,[],zM (bv (bv (bv (bv ⟨.of_eq (Fw (by omega)),rfl,bv (bv (bv ac))⟩)))) (zO (zO (zO ⟨⟨_,rfl,.of_eq Z⟩,Yd Z,c9 p r _ Z,(zO ac)⟩)))⟩
 have d: ¬(k:Int)-1<r.body.length:=zF d;rw[om j (by omega)];clear j B d;refine zE Z Z (fun q=>?_) fun q=>?_
 .exact absurd (show lc=li from q) (by decide)
 refine gA Z ?_;refine ar 0 (r.body.length+1) (Yl _) (fun k=>⟨[(3,.ptr 0 0),(4,.ptr 1 0),(6,.ptr 2 0),(18,.ptr 5 0),(19,pI ((k:Int)-1)),(104,.sl 3 0 5 2),(105,pI 5),(106,pI 1)],[(0,jp (.cells [.iv (dr p)])),(1,jp (ak r.c)),(2,jp (.cells [pI 0,pI 0,pI 0])),(3,jp (.row 2 (kX p r))),(5,jp (.cells [pI 62,.dx (.func 164) [] [.ptr 1 0,.ptr 0 0]]))],6⟩) (fun k=>((ja r.body.length).take k).any (fun lit=>(bs r lit).any fun x=>nn p x)=li) [] Z
  (zW (zO (zO (zO ⟨⟨_,rfl,.of_eq Z⟩,Yd Z,c9 p r _ Z,(zO trivial)⟩)))) fun k B j=>?_
 refine zJ Z Z (fun d=>?_) fun d=>?_
 .have d:(k:Int)-1<r.body.length:=zT d;have b:k<r.body.length+1:=by omega
  refine gA Z (zq [1,0] (d114 p r ((k:Int)-1) (by omega) (by omega)) ?_);refine zJ Z Z (fun u=>?_) fun u=>?_
  .rw[mF j b u];refine gA Z (kR (ME r ((k:Int)-1) d) ?_);exact zU Z
  .refine gA Z ?_;exact⟨b,oj j b u,[],zM (bv (bv (bv (bv ⟨.of_eq (Fw (by omega)),rfl,bv (bv (bv ac))⟩)))) (zO (zO (zO ⟨⟨_,rfl,.of_eq Z⟩,Yd Z,c9 p r _ Z,(zO ac)⟩)))⟩
 have d: ¬(k:Int)-1<r.body.length:=zF d;rw[om j (by omega)];clear j B d;refine zE Z Z (fun q=>?_) fun q=>?_
 .exact absurd (show lc=li from q) (by decide)
 refine gA Z ?_;refine ar 0 (r.body.length+1) (Yl _) (fun k=>⟨[(3,.ptr 0 0),(4,.ptr 1 0),(6,.ptr 2 0),(18,.ptr 6 0),(19,pI ((k:Int)-1)),(104,.sl 3 0 5 2),(105,pI 5),(106,pI 2)],[(0,jp (.cells [.iv (dr p)])),(1,jp (ak r.c)),(2,jp (.cells [pI 0,pI 0,pI 0])),(3,jp (.row 2 (kX p r))),(6,jp (.cells [pI 65,.dx (.func 166) [] [.ptr 1 0]]))],7⟩) (fun k=>((ja r.body.length).take k).any (dH r)=li) [] Z
  (zW (zO (zO (zO ⟨⟨_,rfl,.of_eq Z⟩,Yd Z,c9 p r _ Z,(zO trivial)⟩)))) fun k B j=>?_
 refine zJ Z Z (fun d=>?_) fun d=>?_
 .have d:(k:Int)-1<r.body.length:=zT d;have b:k<r.body.length+1:=by omega
  refine gA Z (zq [1] (d116 r ((k:Int)-1) (by omega) (by omega)) ?_);refine zJ Z Z (fun u=>?_) fun u=>?_
  .rw[mF j b u];refine gA Z (kR (ME r ((k:Int)-1) d) ?_);exact zU Z
  .refine gA Z ?_;exact⟨b,oj j b u,[],zM (bv (bv (bv (bv ⟨.of_eq (Fw (by omega)),rfl,bv (bv (bv ac))⟩)))) (zO (zO (zO ⟨⟨_,rfl,.of_eq Z⟩,Yd Z,c9 p r _ Z,(zO ac)⟩)))⟩
 have d: ¬(k:Int)-1<r.body.length:=zF d;rw[om j (by omega)];clear j B d;refine zE Z Z (fun q=>?_) fun q=>?_
 .exact absurd (show lc=li from q) (by decide)
 refine gA Z ?_;refine ar 0 (r.body.length+1) (Yl _) (fun k=>⟨[(3,.ptr 0 0),(4,.ptr 1 0),(6,.ptr 2 0),(18,.ptr 7 0),(19,pI ((k:Int)-1)),(104,.sl 3 0 5 2),(105,pI 5),(106,pI 3)],[(0,jp (.cells [.iv (dr p)])),(1,jp (ak r.c)),(2,jp (.cells [pI 0,pI 0,pI 0])),(3,jp (.row 2 (kX p r))),(7,jp (.cells [pI 63,.dx (.func 169) [.iv (SZ r (oN p r))] []]))],8⟩) (fun k=>((ja r.body.length).take k).any (nI (oN p r))=li) [] Z
  (zW (zO (zO (zO ⟨⟨_,rfl,.of_eq Z⟩,Yd Z,c9 p r _ Z,(zO trivial)⟩)))) fun k B j=>?_
 refine zJ Z Z (fun d=>?_) fun d=>?_
 .have d:(k:Int)-1<r.body.length:=zT d;have b:k<r.body.length+1:=by omega
  refine gA Z (bn (XX r (oN p r) ((k:Int)-1) (Cn p r _) I) Z Z Z Z Z Z ?_);refine zJ Z Z (fun u=>?_) fun u=>?_
  .rw[mF j b u];refine gA Z (kR (ME r ((k:Int)-1) d) ?_);exact zU Z
  .refine gA Z ?_;exact⟨b,oj j b u,[],zM (bv (bv (bv (bv ⟨.of_eq (Fw (by omega)),rfl,bv (bv (bv ac))⟩)))) (zO (zO (zO ⟨⟨_,rfl,.of_eq Z⟩,Yd Z,c9 p r _ Z,(zO ac)⟩)))⟩
 have d: ¬(k:Int)-1<r.body.length:=zF d;rw[om j (by omega)];clear j B d;refine zE Z Z (fun q=>?_) fun q=>?_
 .exact absurd (show lc=li from q) (by decide)
 refine gA Z ?_;refine ar 0 (r.body.length+1) (Yl _) (fun k=>⟨[(3,.ptr 0 0),(4,.ptr 1 0),(6,.ptr 2 0),(18,.ptr 8 0),(19,pI ((k:Int)-1)),(104,.sl 3 0 5 2),(105,pI 5),(106,pI 4)],[(0,jp (.cells [.iv (dr p)])),(1,jp (ak r.c)),(2,jp (.cells [pI 0,pI 0,pI 0])),(3,jp (.row 2 (kX p r))),(8,jp (.cells [pI 64,.dx (.func 170) [.iv (da r)] []]))],9⟩) (fun k=>((ja r.body.length).take k).any (dQ r)=li) [] Z
  (zW (zO (zO (zO ⟨⟨_,rfl,.of_eq Z⟩,Yd Z,c9 p r _ Z,(zO trivial)⟩)))) fun k B j=>?_
 refine zJ Z Z (fun d=>?_) fun d=>?_
 .have d:(k:Int)-1<r.body.length:=zT d;have b:k<r.body.length+1:=by omega
  refine gA Z (zp (XW r ((k:Int)-1) (by omega) (by omega)) ?_);refine zJ Z Z (fun u=>?_) fun u=>?_
  .rw[mF j b u];refine gA Z (kR (ME r ((k:Int)-1) d) ?_);exact zU Z
  .refine gA Z ?_;exact⟨b,oj j b u,[],zM (bv (bv (bv (bv ⟨.of_eq (Fw (by omega)),rfl,bv (bv (bv ac))⟩)))) (zO (zO (zO ⟨⟨_,rfl,.of_eq Z⟩,Yd Z,c9 p r _ Z,(zO ac)⟩)))⟩
 have d: ¬(k:Int)-1<r.body.length:=zF d;rw[om j (by omega)];clear j B d;refine zJ Z Z (fun q=>?_) fun q=>?_
 .exact absurd (show li=lc from q) (by decide)
 exact zU Z
section
theorem mW:prog.cellsOf 3=1:=by kernel_rfl
theorem vG:prog.cellsOf 9=1:=by kernel_rfl
theorem Cl:prog.cellsOf 98=3:=by kernel_rfl
theorem ED:prog.cellsOf 143=5:=by kernel_rfl
theorem Qd:prog.cellsOf 71=1:=by kernel_rfl
theorem Cm:prog.cellsOf 73=2:=by kernel_rfl
theorem Qc:prog.cellsOf 99=1:=by kernel_rfl
theorem qO:prog.cellsOf 101=7:=by kernel_rfl
theorem EE:prog.cellsOf 103=10:=by kernel_rfl
theorem HR:prog.cellsOf 74=1:=by kernel_rfl
theorem yF:prog.cellsOf 105=30:=by kernel_rfl
theorem xg:prog.cellsOf 35=2:=by kernel_rfl
theorem HQ:prog.cellsOf 76=5:=by kernel_rfl
theorem Qe:prog.cellsOf 47=1:=by kernel_rfl
theorem HS:prog.cellsOf 49=4:=by kernel_rfl
theorem Qh:prog.cellsOf 22=1:=by kernel_rfl
theorem Qg:prog.cellsOf 23=1:=by kernel_rfl
theorem Qf:prog.cellsOf 25=2:=by kernel_rfl
section
variable {H:Type}
abbrev bk(d:DataW H):Nat:=Rows.uptoBulk d
theorem Gi(d:DataW H):1<=bk d:=by
 cases d with
 |lit l=>cases l<;>simp[bk,Rows.uptoBulk]
 |nil=>simp[bk,Rows.uptoBulk]
 |ptr d=>simp[bk,Rows.uptoBulk]
 |slice elems spare=>simp[bk,Rows.uptoBulk]
 |agg parts=>simp[bk,Rows.uptoBulk]
 |iface t d=>simp[bk,Rows.uptoBulk]
 |map entries=>simp[bk,Rows.uptoBulk]
 |held h=>simp[bk,Rows.uptoBulk]
theorem yK(s:ByteArray):bk (DataW.lit (H:=H) (.string s.data.toList))=s.size+1:=by
 simp[bk,Rows.uptoBulk]
theorem _root_.Go.Al.QL.sum{α:Type}{Q:α->DataW H->Prop}{l:List α}{d:DataW H}(h:QL Q l d){f:α->Nat}{c:Nat}(hf: ∀x e,Q x e->f x<=c*bk e):(l.map f).sum<=c*bk d:=by
 obtain⟨el,hd,b,u⟩:=h;have key: ∀(l:List α) (el:List (DataW H)),l.length=el.length->(∀(i:Nat) (x:α) (e:DataW H),l[i]? =jp x->el[i]? =jp e->Q x e)->(l.map f).sum<=c*Rows.uptoBulkAll el:=by
  intro l
  induction l with
  |nil=>intro el _ _;simp
  |cons x r ih=>
   intro el y u;cases el with
   |nil=>simp at y
   |cons e el=>
    have j:=hf x e (u 0 x e Z Z);have C:=ih el (by simpa using y) fun i x e B A=>u (i+1) x e (by simpa using B) (by simpa using A);simp only[Yz,aaa,Rows.uptoBulkAll,Nat.mul_add];simp only[bk]at j;omega
 have j:=key l el b u;rcases hd with⟨rfl,rfl⟩|⟨sp,rfl⟩
 .simp[Rows.uptoBulkAll]at j;omega
 .refine YR j (Nat.mul_le_mul_left c ?_);simp only[bk,Rows.uptoBulk];omega
theorem CP{α:Type}: ∀l:List α,(l.map fun _=>1).sum=l.length
 | []=>rfl
 |x::r=>by simp only[Yz,aaa,YT,CP r];omega
theorem _root_.Go.Al.QL.len{α:Type}{Q:α->DataW H->Prop}{l:List α}{d:DataW H}(h:QL Q l d):l.length<=bk d:=by
 have:=h.sum (f:=fun _=>1) (c:=1) fun x e _=>by have:=Gi e;omega
 have e:=CP l;omega
theorem _root_.Go.Al.QL.all{α:Type}{Q:α->DataW H->Prop}{l:List α}{d:DataW H}(h:QL Q l d): ∀x∈l,∃e,Q x e∧bk e<=bk d:=by
 intro x C;obtain⟨el,hd,j,B⟩:=h;obtain⟨i,A,rfl⟩:=ZA.1 C;have b:i<el.length:=by omega
 refine⟨el[i],B i _ _ (Yi A) (Yi b),?_⟩;have key: ∀(el:List (DataW H)),∀e∈el,bk e<=Rows.uptoBulkAll el:=by
  intro el
  induction el with
  |nil=>intro e he;cases he
  |cons y r ih=>
   intro e he;simp only[Rows.uptoBulkAll];rcases Yx.1 he with rfl|he
   .simp only[bk];omega
   .have:=ih e he;omega
 have u:=key el el[i] (YZ b);rcases hd with⟨rfl,rfl⟩|⟨sp,rfl⟩
 .simp at b
 .refine YR u ?_;simp only[bk,Rows.uptoBulk];omega
end
theorem Expr.iu: ∀l:List Expr,Expr.aA l=(l.map Expr.size).sum
 | []=>rfl
 |e::r=>by simp only[Expr.aA,Yz,aaa,Expr.iu r]
theorem Expr.tK: ∀l:List Expr,Expr.lJ l=(l.map Expr.ts).sum
 | []=>rfl
 |e::r=>by simp only[Expr.lJ,Yz,aaa,Expr.tK r]
theorem Lit.iu: ∀l:List Lit,Lit.aA l=(l.map Lit.size).sum
 | []=>rfl
 |e::r=>by simp only[Lit.aA,Yz,aaa,Lit.iu r]
theorem Lit.tK: ∀l:List Lit,Lit.lJ l=(l.map Lit.ts).sum
 | []=>rfl
 |e::r=>by simp only[Lit.lJ,Yz,aaa,Lit.tK r]
section
variable {H:Type} {enc:TypeId×Value->H} {W:World} {hT:sv W} {sp:Nat->Bool} {held:Bool}
def QV(v:tE)(d:DataW H):Prop:=v.sym.size<=bk d
def QT(t:Term)(d:DataW H):Prop:=t.ts<=400*bk d
def QA(a:Atom)(d:DataW H):Prop:=a.ts<=400*bk d∧a.ae.length<=bk d
def QE(e:Expr)(d:DataW H):Prop:=e.ts<=400*bk d∧e.size<=bk d
def QP(_:Pos)(_:DataW H):Prop:=True
def Pos.c(p:Pos):List IV:=[iI p.line,iI p.HN]
def QG(g:fa)(d:DataW H):Prop:=g.var.size+g.ef.ts+Lit.lJ g.body<=400*bk d∧g.ef.size+Lit.aA g.body<=bk d
def QB(l:Lit)(d:DataW H):Prop:=l.ts<=400*bk d∧l.size<=bk d
theorem rd_val(n:Nat):Rd enc prog W hT sp held 98 tE.c QV n:=by
 intro m _ F y h;obtain⟨D,k,rfl,rfl,A,B,d⟩:=DataW.trod_struct underlying98 h
 match D,B with
 | [x0,x1,x2],_=>
  obtain⟨a,j,G,_⟩:=mz (hT:=hT) underlying3 k k (Ym _) _ _ (rv d 0 Z Z Z mW Z);obtain⟨b,u,I,_⟩:=mz (hT:=hT) underlying3 k k (Ym _) _ _ (rv d 1 Z Z Z mW Z);obtain⟨c,x,C,_⟩:=l9 (hT:=hT) underlying9 k k (Ym _) _ _ (rv d 2 Z Z Z vG Z);refine⟨⟨a,b,c⟩,j.ir (o':=1) Z (u.ir (o':=2) Z (x.ir (o':=3) Z (.end_ (A.trans Cl)))),?_⟩;simp only[QV,bk,Yz,Y7,Rows.uptoBulk,Rows.uptoBulkAll];have:=yK (H:=H) c;rw[<-C]at this;simp only[bk]at this;omega
theorem Fs(n:Nat):Rd enc prog W hT sp held 35 Pos.c QP n:=by
 intro m _ C y h;obtain⟨B,k,rfl,rfl,x,A,d⟩:=DataW.trod_struct underlying35 h
 match B,A with
 | [x0,x1],_=>
  obtain⟨a,j,D,_⟩:=mz (hT:=hT) underlying3 k k (Ym _) _ _ (rv d 0 Z Z Z mW Z);obtain⟨b,u,F,_⟩:=mz (hT:=hT) underlying3 k k (Ym _) _ _ (rv d 1 Z Z Z mW Z);exact⟨⟨a,b⟩,j.ir (o':=1) Z (u.ir (o':=2) Z (.end_ (x.trans xg))),ac⟩
theorem O8(n:Nat):Rd enc prog W hT sp held 143 Term.c QT n:=by
 intro m _ F y h;obtain⟨D,k,rfl,rfl,A,B,d⟩:=DataW.trod_struct underlying143 h
 match D,B with
 | [x0,x1,x2],_=>
  obtain⟨a,j,G,_⟩:=mz (hT:=hT) underlying3 k k (Ym _) _ _ (rv d 0 Z Z Z mW Z);obtain⟨b,u,C,_⟩:=l9 (hT:=hT) underlying9 k k (Ym _) _ _ (rv d 1 Z Z Z vG Z);obtain⟨c,x,I⟩:=rd_val (hT:=hT) k k (Ym _) _ _ (rv d 2 Z Z Z Cl Z);refine⟨⟨a,b,c⟩,j.ir (o':=1) Z (u.ir (o':=2) Z (x.ir (o':=5) Z (.end_ (A.trans ED)))),?_⟩;simp only[QT,Term.ts,bk,Yz,Y7,Rows.uptoBulk,Rows.uptoBulkAll];have:=yK (H:=H) b;rw[<-C]at this;simp only[bk]at this;omega
theorem G1(n:Nat):Rd enc prog W hT sp held 73 Atom.c QA n:=by
 intro m _ J y h;obtain⟨I,k,rfl,rfl,D,F,j⟩:=DataW.trod_struct underlying73 h
 match I,F with
 | [x0,x1],_=>
  obtain⟨a,x,G,_⟩:=l9 (hT:=hT) underlying9 k k (Ym _) _ _ (rv j 0 Z Z Z vG Z);obtain⟨b,A,u⟩:=(my (hT:=hT) underlying71 ED (by decide) (fun _=>rfl) (O8 k)).mono (aaH k) k (Ym _) _ _ (rv j 1 Z Z Z Qd Z);refine⟨⟨a,b⟩,x.ir (o':=1) Z (A.ir (o':=2) Z (.end_ (D.trans Cm))),?_⟩;have d:=yK (H:=H) a;rw[<-G]at d;have B:=u.sum (f:=Term.ts) (c:=400) fun _ _ h=>h;have C:=u.len;simp only[bk]at d B C;simp only[QA,Atom.ts,bk,Yz,Y7,Rows.uptoBulk,Rows.uptoBulkAll];omega
theorem wR: ∀n:Nat,Rd enc prog W hT sp held 101 Expr.c QE n
 |0=>fun m Y J y h=>by
  obtain rfl:m=0:=by omega
  simp[DataW.trod]at h
 |n+1=>fun m Y J y h=>by
  obtain⟨xs,k,rfl,rfl,S,hx,j⟩:=DataW.trod_struct underlying101 h;have hs:=my (hT:=hT) underlying99 qO (by decide) (fun _=>rfl) (wR n)
  match xs,hx with
  | [x0,x1,x2,x3,x4],_=>
   obtain⟨a,C,qa,_⟩:=mz (hT:=hT) underlying3 k k (Ym _) _ _ (rv j 0 Z Z Z mW Z);obtain⟨b,D,qb,_⟩:=l9 (hT:=hT) underlying9 k k (Ym _) _ _ (rv j 1 Z Z Z vG Z);obtain⟨c,F,qc⟩:=rd_val (hT:=hT) k k (Ym _) _ _ (rv j 2 Z Z Z Cl Z);obtain⟨d,G,qd,_⟩:=mz (hT:=hT) underlying3 k k (Ym _) _ _ (rv j 3 Z Z Z mW Z);obtain⟨e,I,B⟩:=hs k (by omega) _ _ (rv j 4 Z Z Z Qc Z);refine⟨.mk a b c d e,C.ir (o':=1) Z (D.ir (o':=2) Z (F.ir (o':=5) Z (G.ir (o':=6) Z ((I.x9 (HG (.mk a b c d e))).ir (o':=7) Z (.end_ (S.trans qO)))))),?_⟩;have u:=yK (H:=H) b;rw[<-qb]at u;have x:=B.sum (f:=Expr.ts) (c:=400) fun _ _ h=>h.1;have A:=B.sum (f:=Expr.size) (c:=1) fun _ _ h=>by have:=h.2;omega
   rw[<-Expr.tK]at x;rw[<-Expr.iu]at A;simp only[bk]at u x A;simp only[QE,Expr.ts,Expr.size,bk,Yz,Y7,Rows.uptoBulk,Rows.uptoBulkAll];omega
theorem Th{n:Nat}(hb:Rd enc prog W hT sp held 74 (fun l:List Lit=> [cT 30 l Lit.c]) (QL QB) n):Rd enc prog W hT sp held 103 fa.c QG (n+1):=by
 intro m hm cs y h;obtain⟨xs,k,rfl,rfl,S,Y,j⟩:=DataW.trod_struct underlying103 h
 match xs,Y with
 | [x0,x1,x2,x3],_=>
  obtain⟨a,C,qa,_⟩:=mz (hT:=hT) underlying3 k k (Ym _) _ _ (rv j 0 Z Z Z mW Z);obtain⟨b,D,qb,_⟩:=l9 (hT:=hT) underlying9 k k (Ym _) _ _ (rv j 1 Z Z Z vG Z);obtain⟨c,F,qc⟩:=wR (hT:=hT) k k (Ym _) _ _ (rv j 2 Z Z Z qO Z);obtain⟨d,G,B⟩:=hb k (by omega) _ _ (rv j 3 Z Z Z HR Z);refine⟨⟨a,b,c,d⟩,C.ir (o':=1) Z (D.ir (o':=2) Z (F.ir (o':=9) Z ((G.x9 (FL d)).ir (o':=10) Z (.end_ (S.trans EE))))),?_⟩;have u:=yK (H:=H) b;rw[<-qb]at u;have x:=B.sum (f:=Lit.ts) (c:=400) fun _ _ h=>h.1;have A:=B.sum (f:=Lit.size) (c:=1) fun _ _ h=>by have:=h.2;omega
  rw[<-Lit.tK]at x;rw[<-Lit.iu]at A;obtain⟨I,J⟩:=qc;simp only[bk]at u x A I J;simp only[QG,bk,Yz,Y7,Rows.uptoBulk,Rows.uptoBulkAll];omega
theorem KL: ∀n:Nat,Rd enc prog W hT sp held 105 Lit.c QB n
 |0=>fun m hm I y h=>by
  obtain rfl:m=0:=by omega
  simp[DataW.trod]at h
 |n+1=>fun m hm I y h=>by
  obtain⟨xs,k,rfl,rfl,hl,hx,j⟩:=DataW.trod_struct underlying105 h;have hs:=Th (my (hT:=hT) underlying74 yF (by decide) (fun _=>rfl) (KL n))
  match xs,hx with
  | [x0,x1,x2,x3,x4,x5,x6],_=>
   obtain⟨a,x,qa,_⟩:=mz (hT:=hT) underlying3 k k (Ym _) _ _ (rv j 0 Z Z Z mW Z);obtain⟨b,A,qb⟩:=G1 (hT:=hT) k k (Ym _) _ _ (rv j 1 Z Z Z Cm Z);obtain⟨c,B,qc,_⟩:=mz (hT:=hT) underlying3 k k (Ym _) _ _ (rv j 2 Z Z Z mW Z);obtain⟨d,C,qd⟩:=wR (hT:=hT) k k (Ym _) _ _ (rv j 3 Z Z Z qO Z);obtain⟨e,D,qe⟩:=wR (hT:=hT) k k (Ym _) _ _ (rv j 4 Z Z Z qO Z);obtain⟨g,F,qg⟩:=hs k (by omega) _ _ (rv j 5 Z Z Z EE Z);obtain⟨p,G,_⟩:=Fs (hT:=hT) k k (Ym _) _ _ (rv j 6 Z Z Z xg Z);refine⟨.mk a b c d e g.func g.var g.ef g.body p,x.ir (o':=1) Z (A.ir (o':=3) Z (B.ir (o':=4) Z (C.ir (o':=11) Z (D.ir (o':=18) Z (F.ir (o':=28) Z (G.ir (o':=30) Z (.end_ (hl.trans yF)))))))),?_⟩;obtain⟨J,S⟩:=qb;obtain⟨Y,h4⟩:=qd;obtain⟨h5,h6⟩:=qe;obtain⟨h7,h8⟩:=qg;have h9:=Gi x0.1;have u:=Gi x2.1;simp only[bk]at J S Y h4 h5 h6 h7 h8 h9 u;simp only[QB,Lit.ts,Lit.size,bk,Yz,Y7,Rows.uptoBulk,Rows.uptoBulkAll];omega
theorem Pa(n:Nat):Rd enc prog W hT sp held 74 (fun l:List Lit=> [lits l]) (QL QB) n:=
 (my (hT:=hT) underlying74 yF (by decide) (fun _=>rfl) (KL n)).mono (aaH n)
end
end
end Go.Proofs.YtflegjieadkonaaGreatDoor
namespace Go.Proofs.YtflegjieadkonaaGreatDoor
open Go Go.Al Go.Proofs.Tryz Go.ChangeShapes Go.WideShapes Go.RowKit
theorem own:ownKnob prog.godebug=kw:=by kernel_rfl
theorem VJ:prog.globalNamed "internal/strconv.uint64pow10" =jp 0:=by kernel_rfl
theorem LZ:(prog.globals[0]?).map (·.type)=jp 343:=by kernel_rfl
theorem Mz:prog.cellsOf 343=20:=by kernel_rfl
theorem MA:prog.cellsOf 205=1:=by kernel_rfl
theorem JO:prog.underlying 343=jp (.array 20 205):=by kernel_rfl
theorem JP:prog.underlying 205=jp (.int .u64):=by kernel_rfl
abbrev Lo:List (String×DataW Unit):=[("math/bits.deBruijn32tab",Rows.laid_math_bits_deBruijn32tab),("math/bits.deBruijn64tab",Rows.laid_math_bits_deBruijn64tab),("internal/strconv.uint64pow10",Rows.laid_internal_strconv_uint64pow10)]
theorem J1{W:World}(h:laidMetH prog Lo W):sv W:=by
 have j:=laidMetH.filter (fun x=>x.1== "internal/strconv.uint64pow10") h;have y:laidMet prog [("internal/strconv.uint64pow10",Lib.tabData .u64 s9)] W:=by
  rw[show Lo.filter (fun x=>x.1== "internal/strconv.uint64pow10")=[("internal/strconv.uint64pow10",Lib.tabData .u64 s9)] by kernel_rfl]at j;rwa[MakeChecks.laidMetH_plain _ _ _ (by kernel_rfl)]at j
 have d:Lib.TabIs prog W "internal/strconv.uint64pow10" .u64 s9:=Lib.tabIs_of_head (rest:=[]) VJ LZ JO JP MA Mz y;intro b c hb;unfold Lib.TabIs World.var? at d;rw[VJ]at d
 match b with
 |0=>
  have A:(s9.map fun z=>Value.int .u64 z).toArray=c:=Zh hb;rw[A]at d;simp only[abg]at d;split at d
  .rename_i B T u e;exact⟨T,u,by rw[e,Zh d]⟩
  .cases d
 |b+1=>exact nomatch hb
theorem kids:Kids prog (· <prog.types.size):=kids_rows (by kernel_rfl) (by kernel_rfl)
theorem full: ∀{t e},t<prog.types.size->prog.underlying t=jp (.slice e)->0<prog.cellsOf e:=fun{t e}=>slices_full_of prog (by kernel_rfl) t e
theorem BG{H:Type}{enc:TypeId×Value->H}{W:World}(hT:sv W){k:FuncId}{f:Func}{s:ChangeSpec}{args:List PV}{vs:List Value}{B gs:List (DataW H)}{d:List MemPlace}
  (hp:Al.Pure prog k args (pB lc)) (D:args.length=vs.length) (hv: ∀(j:Nat) (p:PV),args[j]? =jp p->VR (Mem.rY W hT) Wz (· <0) p (vs.getD j undef))
  (F: ∀t∈f.params.toList,t<prog.types.size) (y:s.vars=[]) (u:f.resultTypes= #[4])
  (Y:DataW.Whole enc prog f.params.toList s.vars li W vs.toArray.toList B gs d)
  (G:(s.fn H (B++gs)).results=[.lit (.bool lc)]) (I:(s.fn H (B++gs)).args=B) (J:(s.fn H (B++gs)).vars=[]):
  Calls prog k vs.toArray W fun e W'=> ∃v,e= .returned v∧s.post enc prog f li lc li li W vs.toArray v W':=by
 refine(hp.2 (Mem.rY W hT) Wz W vs (O4 W hT) D hv).mono ?_;rintro e W' ⟨x,M',N',r,h',n',rfl,⟨rfl,rfl,rfl⟩,hx,hr,hvr⟩;have S:x= .bool lc:=by
  cases hvr with
  |iv _ _ h=>cases h;rfl
 subst S;refine⟨_,rfl,BH kids full F y Y hx.os hx.output (fun b hb=>hx.jO b hb fun i o hi=>(nomatch hi)) (fun b sp hd=>?_) I J ?_⟩
 .rw[G,u];exact trodAll_cons_mk (shut_bool underlying4 _) trodAll_mk0
 .intro j t r A C;rw[u]at A C
  match j,A,C with
  |0,A,C=>
   cases A;cases C;exact okWide_bool_mk underlying4 _
  |j+1,A,C=>simp at A
theorem bound{H:Type}{l:List (DataW H)}(b:Rows.uptoSmall H l=lc):Rows.uptoBulkAll l<=1048576:=of_decide_eq_true b
def Ln(b:Nat)(cs:Array Value)(h:Array Obj):Array Obj:=h.modify b fun
 | .cells _ t frozen=> .cells cs t frozen
 |o=>o
noncomputable def vo(os:Os):World:=
 {World.holding prog os ⟨#[], #[],[]⟩ with
  heap:=Ln 2 #[.int .u8 0,.int .u8 1,.int .u8 56,.int .u8 2,.int .u8 57,.int .u8 49,.int .u8 28,.int .u8 3,.int .u8 61,.int .u8 58,.int .u8 42,.int .u8 50,.int .u8 38,.int .u8 29,.int .u8 17,.int .u8 4,.int .u8 62,.int .u8 47,.int .u8 59,.int .u8 36,.int .u8 45,.int .u8 43,.int .u8 51,.int .u8 22,.int .u8 53,.int .u8 39,.int .u8 33,.int .u8 30,.int .u8 24,.int .u8 18,.int .u8 12,.int .u8 5,.int .u8 63,.int .u8 55,.int .u8 48,.int .u8 27,.int .u8 60,.int .u8 41,.int .u8 37,.int .u8 16,.int .u8 46,.int .u8 35,.int .u8 44,.int .u8 21,.int .u8 52,.int .u8 32,.int .u8 23,.int .u8 11,.int .u8 54,.int .u8 26,.int .u8 40,.int .u8 15,.int .u8 34,.int .u8 20,.int .u8 31,.int .u8 10,.int .u8 25,.int .u8 14,.int .u8 19,.int .u8 9,.int .u8 13,.int .u8 8,.int .u8 7,.int .u8 6] (Ln 1 #[.int .u8 0,.int .u8 1,.int .u8 28,.int .u8 2,.int .u8 29,.int .u8 14,.int .u8 24,.int .u8 3,.int .u8 30,.int .u8 22,.int .u8 20,.int .u8 15,.int .u8 25,.int .u8 17,.int .u8 4,.int .u8 8,.int .u8 31,.int .u8 27,.int .u8 13,.int .u8 23,.int .u8 21,.int .u8 19,.int .u8 16,.int .u8 7,.int .u8 26,.int .u8 12,.int .u8 18,.int .u8 6,.int .u8 11,.int .u8 5,.int .u8 10,.int .u8 9] (Ln 0 (s9.map fun z=>Value.int .u64 z).toArray (World.holding prog os ⟨#[], #[],[]⟩).heap))}
end Go.Proofs.YtflegjieadkonaaGreatDoor
namespace Go.Proofs.YtflegjieadkonaaGreatDoor
open Go Go.Al Go.Proofs.Tryz
def aT.z:aT:=(0,⟨0,0⟩)
theorem d64(d e:aT):cj prog 97 [ag d.c,.ptr 0 0] [ak e.c] (pB li) [(0,jp (ak d.c))] 1:=by
 refine aE ab func97 Z (by decide) ntmps97 Z (by simp) ?_;refine gA Z (zD [] Z (zW (zO ac)))
def dP(p:Prog)(i:Nat):List aj:=(p.aB.take i).map Decl.name
def dM(p:Prog)(i:Nat):Int:=sY (p.aB.getD i io) i (bY .str (aJ (dP p i)) (p.aB.getD i io).name 0)
def jo(p:Prog):Nat->List aT
 |0=> []
 |i+1=>jo p i++(if dM p i=0 then[] else[(dM p i,(p.aB.getD i io).at_)])
def rG(p:Prog)(i:Nat):aT:=ua p (p.rules.getD i io) ((i:Int)+1)
def km(p:Prog):Nat->List aT
 |0=> []
 |i+1=>km p i++(if(rG p i).1=0 then[] else[rG p i])
def ke(p:Prog):List aT:=jo p p.aB.length++km p p.rules.length
def bu(p:Prog):aT:=(ke p).headD aT.z
theorem Dj(p:Prog)(i:Nat): ∀k,∃t,jo p (i+k)=jo p i++t
 |0=>⟨[],by simp⟩
 |k+1=>by
  obtain⟨t,h⟩:=Dj p i k;exact⟨_,by rw[<-ZR,jo,h,Yu]⟩
theorem C8(p:Prog)(i:Nat): ∀k,∃t,km p (i+k)=km p i++t
 |0=>⟨[],by simp⟩
 |k+1=>by
  obtain⟨t,h⟩:=C8 p i k;exact⟨_,by rw[<-ZR,km,h,Yu]⟩
theorem Jp{p:Prog}{i:Nat}(d:jo p i=[])(hi:i<p.aB.length)(h: ¬dM p i=0):bu p=(dM p i,(p.aB.getD i io).at_):=by
 obtain⟨t,b⟩:=Dj p (i+1) (p.aB.length-(i+1));have e:i+1+(p.aB.length-(i+1))=p.aB.length:=by omega
 rw[e,jo,d,be h]at b;rw[bu,ke,b];rfl
theorem Jo{p:Prog}{i:Nat}(h0:jo p p.aB.length=[])(d:km p i=[])(hi:i<p.rules.length)(h: ¬(rG p i).1=0):bu p=rG p i:=by
 obtain⟨t,b⟩:=C8 p (i+1) (p.rules.length-(i+1));have e:i+1+(p.rules.length-(i+1))=p.rules.length:=by omega
 rw[e,km,d,be h]at b;rw[bu,ke,b,h0];rfl
theorem My{p:Prog}(h0:jo p p.aB.length=[])(h1:km p p.rules.length=[]):bu p=aT.z:=by
 rw[bu,ke,h0,h1];rfl
theorem BE{p:Prog}{i:Nat}(h:i<p.aB.length):aJ (dP p (i+1))=bump (aJ (dP p i)) (p.aB.getD i io).name:=by
 rw[dP,aK h,Yk];exact eh _ _
theorem Fq(p:Prog)(i:Nat)(s:aj):0<=bY .str (aJ (dP p i)) s 0∧bY .str (aJ (dP p i)) s 0<=i:=by
 have h:=jg (dP p i) s;have b:(dP p i).length<=i:=by simp[dP];omega
 rw[bR];omega
def Prog.fit(p:Prog):Prop:=p.aB.length<=1000000000∧p.rules.length<=1000000000∧ ∀r∈p.rules,r.fit
theorem Xa(p:Prog)(hb:p.fit):cj prog 96 [ag p.c,.dx (.func 97) [] [.ptr 0 0]] [ak aT.z.c] (.bX []) [(0,jp (ak (bu p).c))] 1:=by
 obtain⟨A,B,y⟩:=hb;refine aE ab func96 Z (by decide) ntmps96 Z (by simp) ?_;refine gA Z ?_;refine ar 0 p.aB.length (Yl _) (fun i=>⟨[(1,.dx (.func 97) [] [.ptr 0 0]),(2,.ptr 1 0),(4,.mp 2),(13,.iv (cT 4 p.aB Decl.c)),(14,pI p.aB.length),(15,pI i)],[(0,jp (ak aT.z.c)),(1,jp (ak p.c)),(2,jp (dd (aJ (dP p i))))],3⟩) (fun i=>jo p i=[]) [] Z
  (zW ⟨⟨_,rfl,.of_eq Z⟩,Yd Z,rfl,⟨_,rfl,.of_eq Z⟩,Yd Z,rfl,LD Z ig Z trivial⟩) fun i C u=>?_
 refine zJ Z Z (fun d=>?_) fun d=>?_
 .have d:i<p.aB.length:=zN d;have G:=Fq p i (p.aB.getD i io).name;have F:=BE d;refine gA Z (zp (X3 (p.aB.getD i io) i (bY .str (aJ (dP p i)) (p.aB.getD i io).name 0)) ?_);refine zJ Z Z (fun g=>?_) fun g=>?_
  .have g: ¬dM p i=0:=by
    have g:(!lw (dM p i=0))=lc:=g;simpa only[Y1,decide_eq_false_iff_not]using g
   rw[Jp u d g];refine gA Z (zq [0] (d64 (dM p i,(p.aB.getD i io).at_) aT.z) ?_);refine zE Z Z (fun q=>?_) fun q=>?_
   .exact absurd (show lc=li from q) (by decide)
   refine gA Z (zD [] Z (zW (zO ac)))
  .have g:dM p i=0:=by
    have g:(!lw (dM p i=0))=li:=g;simpa only[ZJ,decide_eq_true_eq]using g
   refine gA Z ⟨d,by rw[jo,u,am g];rfl,[],zW (zO (zO (hM Z (by rw[F];rfl) Z trivial)))⟩
 have d:p.aB.length<=i:=zG d;have j:i=p.aB.length:=by omega
 subst j;refine gA Z (zq [] (d50 p (by omega)) ?_);refine gA Z ?_;refine PU 3 Z ?_;refine ar 0 p.rules.length (Yl _) (fun i=>⟨[(1,.dx (.func 97) [] [.ptr 0 0]),(2,.ptr 1 0),(8,.iv (dr p)),(47,.iv (cT 5 p.rules aq.c)),(48,pI p.rules.length),(49,pI i)],[(0,jp (ak aT.z.c)),(1,jp (ak p.c))],4⟩) (fun i=>km p i=[]) [] Z
  (zW (zO (zO trivial))) fun i C x=>?_
 refine zJ Z Z (fun b=>?_) fun b=>?_
 .have b:i<p.rules.length:=zN b;have D:p.rules.getD i io∈p.rules:=by rw[Ye,Yi b];exact YZ b
  refine gA Z (bn (c65 p (p.rules.getD i io) ((i:Int)+1) (y _ D)) Z Z Z Z Z Z ?_);refine zJ Z Z (fun g=>?_) fun g=>?_
  .have g: ¬(rG p i).1=0:=by
    have g:(!lw ((rG p i).1=0))=lc:=g;simpa only[Y1,decide_eq_false_iff_not]using g
   rw[Jo u x b g];refine gA Z (zq [0] (d64 (rG p i) aT.z) ?_);refine zE Z Z (fun q=>?_) fun q=>?_
   .exact absurd (show lc=li from q) (by decide)
   refine gA Z (zD [] Z (zW (zO ac)))
  .have g:(rG p i).1=0:=by
    have g:(!lw ((rG p i).1=0))=li:=g;simpa only[ZJ,decide_eq_true_eq]using g
   refine gA Z ⟨b,by rw[km,x,am g];rfl,[],zW (zO (zO trivial))⟩
 have b:p.rules.length<=i:=zG b;have j:i=p.rules.length:=by omega
 subst j;rw[My u x];refine gA Z (zD [] Z (zW (zO ac)))
theorem c24(p:Prog)(hb:p.fit):Pure prog 56 [ag p.c] (ag (bu p).c):=by
 refine ad ab func56 Z (by decide) ntmps56 Z (by simp) Z ?_;refine gA Z (zq [2] (Xa p hb) ?_);exact zU Z
end Go.Proofs.YtflegjieadkonaaGreatDoor
namespace Go.Proofs.YtflegjieadkonaaGreatDoor
open Go Go.Al Go.Proofs.Tryz Go.ChangeShapes Go.WideShapes Go.RowKit
section
theorem CO{α:Type}(f:α->Nat): ∀l:List α,(l.map fun x=>f x+1).sum=(l.map f).sum+l.length
 | []=>rfl
 |x::r=>by simp only[Yz,aaa,YT,CO f r];omega
section
variable {H:Type} {enc:TypeId×Value->H} {W:World} {hT:sv W} {sp:Nat->Bool} {held:Bool}
def QD(x:Decl)(d:DataW H):Prop:=x.types.length+1<=bk d
def QR1(r:aq)(d:DataW H):Prop:=r.size+1<=bk d∧r.head.ts<=400*bk d∧ ∀l∈r.body,l.ts<=400*bk d
def Ya(p:Prog)(d:DataW H):Prop:=p.size<=bk d∧p.aB.length<=bk d∧p.rules.length<=bk d∧ ∀r∈p.rules,r.size<=bk d∧r.head.ts<=400*bk d∧ ∀l∈r.body,l.ts<=400*bk d
theorem KK(n:Nat):Rd enc prog W hT sp held 76 aq.c QR1 n:=by
 intro m _ cs y h;obtain⟨Y,k,rfl,rfl,j,J,d⟩:=DataW.trod_struct underlying76 h
 match Y,J with
 | [x0,x1,x2],_=>
  obtain⟨a,A,S⟩:=G1 (hT:=hT) k k (Ym _) _ _ (rv d 0 Z Z Z Cm Z);obtain⟨b,B,x⟩:=Pa (hT:=hT) k k (Ym _) _ _ (rv d 1 Z Z Z HR Z);obtain⟨c,C,qc⟩:=Fs (hT:=hT) k k (Ym _) _ _ (rv d 2 Z Z Z xg Z);refine⟨⟨a,b,c⟩,A.ir (o':=2) Z (B.ir (o':=3) Z (C.ir (o':=5) Z (.end_ (j.trans HQ)))),?_⟩;have u:=x.sum (f:=Lit.size) (c:=1) fun _ _ h=>by have:=h.2;omega
  rw[<-Lit.iu]at u;obtain⟨D,F⟩:=S;simp only[bk]at u D F;refine⟨?_,?_,fun l j=>?_⟩
  .simp only[aq.size,bk,Yz,Y7,Rows.uptoBulk,Rows.uptoBulkAll];omega
  .simp only[bk,Yz,Y7,Rows.uptoBulk,Rows.uptoBulkAll];omega
  .obtain⟨e,⟨G,_⟩,I⟩:=x.all l j;simp only[bk]at G I;simp only[bk,Yz,Y7,Rows.uptoBulk,Rows.uptoBulkAll];omega
theorem Pb(n:Nat):Rd enc prog W hT sp held 3 aY (fun _ _=>True) n:=by
 intro m d b y h;obtain⟨z,j,_⟩:=mz (hT:=hT) underlying3 n m d b y h;exact⟨z,j,ac⟩
theorem Pc(n:Nat):Rd enc prog W hT sp held 49 Decl.c QD n:=by
 intro m _ G y h;obtain⟨F,k,rfl,rfl,B,C,d⟩:=DataW.trod_struct underlying49 h
 match F,C with
 | [x0,x1,x2],_=>
  obtain⟨a,j,I,_⟩:=l9 (hT:=hT) underlying9 k k (Ym _) _ _ (rv d 0 Z Z Z vG Z);obtain⟨b,u,D⟩:=(my (hT:=hT) underlying47 mW (by decide) (fun _=>rfl) (Pb k)).mono (aaH k) k (Ym _) _ _ (rv d 1 Z Z Z Qe Z);obtain⟨c,x,J⟩:=Fs (hT:=hT) k k (Ym _) _ _ (rv d 2 Z Z Z xg Z);refine⟨⟨a,b,c⟩,j.ir (o':=1) Z (u.ir (o':=2) Z (x.ir (o':=4) Z (.end_ (B.trans HS)))),?_⟩;have A:=D.len;simp only[bk]at A;simp only[QD,bk,Yz,Y7,Rows.uptoBulk,Rows.uptoBulkAll];omega
theorem O9(n:Nat):Rd enc prog W hT sp held 25 Prog.c Ya n:=by
 intro m _ cs y h;obtain⟨xs,k,rfl,rfl,j,Y,B⟩:=DataW.trod_struct underlying25 h
 match xs,Y with
 | [x0,x1],_=>
  obtain⟨a,D,qa⟩:=(my (hT:=hT) underlying22 HS (by decide) (fun _=>rfl) (Pc k)).mono (aaH k) k (Ym _) _ _ (rv B 0 Z Z Z Qh Z);obtain⟨b,F,C⟩:=(my (hT:=hT) underlying23 HQ (by decide) (fun _=>rfl) (KK k)).mono (aaH k) k (Ym _) _ _ (rv B 1 Z Z Z Qg Z);refine⟨⟨a,b⟩,D.ir (o':=1) Z (F.ir (o':=2) Z (.end_ (j.trans Qf))),?_⟩;have u:=qa.sum (f:=fun d=>d.types.length+1) (c:=1) fun _ _ h=>by
   simp only[QD]at h;omega
  have x:=C.sum (f:=fun r=>r.size+1) (c:=1) fun _ _ h=>by have:=h.1;omega
  rw[CO]at u x;simp only[bk]at u x;refine⟨?_,?_,?_,fun r S=>?_⟩
  .simp only[Prog.size,bk,Yz,Y7,Rows.uptoBulk,Rows.uptoBulkAll];omega
  .simp only[bk,Yz,Y7,Rows.uptoBulk,Rows.uptoBulkAll];omega
  .simp only[bk,Yz,Y7,Rows.uptoBulk,Rows.uptoBulkAll];omega
  .obtain⟨e,⟨G,I,A⟩,J⟩:=C.all r S;simp only[bk]at G I A J;refine⟨?_,?_,fun l j=>?_⟩
   .simp only[bk,Yz,Y7,Rows.uptoBulk,Rows.uptoBulkAll];omega
   .simp only[bk,Yz,Y7,Rows.uptoBulk,Rows.uptoBulkAll];omega
   .have:=A l j;simp only[bk,Yz,Y7,Rows.uptoBulk,Rows.uptoBulkAll];omega
end
theorem TM{H:Type}{p:Prog}{d:DataW H}(h:Ya p d)(hb:bk d<=1048576):p.fit:=by
 obtain⟨y,A,B,b⟩:=h;refine⟨by omega,by omega,fun r x=>?_⟩;obtain⟨C,D,j⟩:=b r x;exact⟨by omega,by omega,fun l u=>by have:=j l u;omega⟩
theorem MK{H:Type}{enc:TypeId×Value->H}{W:World}(hT:sv W){v:Value}{d:DataW H}{p:List MemPlace}(b: ∃base,Value.okWide prog W .any base 25 v)(h:DataW.Trod enc prog W 0 (fun _=>lc) lc 25 v d p):
  ∃x:Prog,Ya x d∧VR (Mem.rY W hT) Wz (· <0) (ag x.c) v:=by
 obtain⟨base,b⟩:=b;obtain⟨A,rfl,_⟩:=okWide_struct underlying25 b;obtain⟨n,y⟩:=h;obtain⟨r,j,u⟩:=O9 (hT:=hT) n n (Ym _) _ _ y;exact⟨r,u,j.agg⟩
end
end Go.Proofs.YtflegjieadkonaaGreatDoor
namespace Go.Tj
section
section
variable {α:Type}
inductive pP (succ:α->List α):α->α->Prop
 |refl (a:α):pP succ a a
 |step {a b c:α}:pP succ a b->c∈succ b->pP succ a c
theorem pP.trans{succ:α->List α}{a b c:α}(h:pP succ a b)(g:pP succ b c):pP succ a c:=by
 induction g with
 |refl=>exact h
 |step _ he ih=>exact .step ih he
theorem pP.one{succ:α->List α}{a b:α}(h:b∈succ a):pP succ a b:= .step (.refl a) h
structure St (α:Type) where
 low:α->Int
 on:α->Int
 ring:α->Int
 n:Nat
 stack:List α
section
variable [DecidableEq α]
def Bm(f:α->Int)(a:α)(v:Int):α->Int:=fun x=>if x=a then v else f x
theorem mg(f:α->Int)(a:α)(v:Int):Bm f a v a=v:=am Z
theorem nK{f:α->Int}{a x:α}{v:Int}(h: ¬x=a):Bm f a v x=f x:=be h
def push(s:St α)(a:α):St α:=⟨Bm s.low a ((s.n:Int)+1),Bm s.on a 1,s.ring,s.n+1,s.stack++ [a]⟩
def BJ(d:Int)(s:St α):St α:=match s.stack.getLast? with
 |some b=>⟨s.low,Bm s.on b 2,Bm s.ring b d,s.n,s.stack.dropLast⟩
 |none=>s
def gW(a:α)(b:Int):Nat->St α->St α
 |0,s=>s
 |k+1,s=>if s.on a=1 then gW a b k (BJ b s) else s
def fH(d:α->St α->Int×St α)(q:Int×St α)(b:α):Int×St α:=
 if q.2.low b=0 then(min q.1 (d b q.2).1,(d b q.2).2) else if q.2.on b=1 then(min q.1 (q.2.low b),q.2) else q
def wK(a:α)(b:Int)(q:Int×St α):Int×St α:=if q.1=b then(q.1,gW a b q.2.stack.length q.2) else q
def ft(succ:α->List α):Nat->α->St α->Int×St α
 |0,_,s=>(0,s)
 |f+1,a,s=>wK a ((s.n:Int)+1) ((succ a).foldl (fH (ft succ f)) ((s.n:Int)+1,push s a))
def jn(succ:α->List α)(f:Nat)(V:List α)(s:St α):St α:=V.foldl (fun s a=>if s.low a=0 then(ft succ f a s).2 else s) s
end
def St.o:St α:=⟨fun _=>0,fun _=>0,fun _=>0,0,[]⟩
structure Inv (succ:α->List α) (path:List α) (s:St α):Prop where
 pG: ∀a,0<=s.low a∧s.low a<=s.n
 inj: ∀a b,s.low a=s.low b->s.low a≠0->a=b
 M7: ∀a,s.on a=0↔s.low a=0
 IF: ∀a,s.on a=0∨s.on a=1∨s.on a=2
 zy: ∀a,s.on a=1↔a∈s.stack
 Un:s.stack.Pairwise fun x y=>s.low x<s.low y
 P5: ∀a,s.on a=2-> ∀b∈succ a,s.on b=2
 Tm: ∀g∈path,s.on g=1
 up: ∀y,s.on y=1-> ∃g∈path,s.low g<=s.low y∧pP succ y g
 dn: ∀g∈path,∀y,s.on y=1->s.low g<=s.low y->pP succ g y
 aI: ∀y,s.low y≠0->y∉path-> ∀z∈succ y,s.low z≠0
 Vk: ∀a,s.on a=2-> ∃r,s.on r=2∧s.low r=s.ring a∧pP succ a r∧pP succ r a
 cmp: ∀a b,s.on a=2->s.on b=2->pP succ a b->pP succ b a->s.ring a=s.ring b
structure Le (s s':St α):Prop where
 low: ∀x,s.low x≠0->s'.low x=s.low x
 P5: ∀x,s.on x=2->s'.on x=2
 n:s.n<=s'.n
theorem Le.refl(s:St α):Le s s:=⟨fun _ _=>rfl,fun _ h=>h,Ym _⟩
theorem Le.trans{s t u:St α}(h:Le s t)(g:Le t u):Le s u:=
 ⟨fun x b=>by rw[g.low x (by rw[h.low x b];exact b),h.low x b],fun x b=>g.P5 x (h.P5 x b),YR h.n g.n⟩
structure Uf (succ:α->List α) (path:List α) (a:α) (s:St α) (least:Int) (s':St α) (t:List α):Prop where
 inv:Inv succ path s'
 le:Le s s'
 stack:s'.stack=s.stack++t
 new: ∀y∈t,s.low y=0
 at_:(s.n:Int)<s'.low a
 Tw:least<=s'.low a
 l1: ∀y∈t,∀z∈succ y,s'.on z=1->least<=s'.low z
 l2:(s'.on a=2∧least=s'.low a)∨ ∃z∈s.stack,s'.low z=least∧pP succ a z
theorem xM{succ:α->List α}{path:List α}{s:St α}(h:Inv succ path s){x:α}(b:s.on x=1):s.low x≠0:=fun g=>by
 have:=(h.M7 x).2 g;omega
theorem KZ{succ:α->List α}{p:List α}{s s':St α}(h:Inv succ p s)(b:Le s s'){x:α}(d:s.low x≠0)(ho:s'.on x=1):s.on x=1:=by
 rcases h.IF x with g|g|g
 .exact absurd ((h.M7 x).1 g) d
 .exact g
 .have:=b.P5 x g;omega
section
variable [DecidableEq α]
theorem Dq{succ:α->List α}{path:List α}{s:St α}{a:α}(h:Inv succ path s)(ha:s.low a=0)(hp: ∀g∈path,pP succ g a):Inv succ (path++ [a]) (push s a):=by
 have a0:s.on a=0:=(h.M7 a).2 ha;have G:a∉s.stack:=fun g=>by have:=(h.zy a).2 g;omega
 have u: ∀x,¬x=a->(push s a).low x=s.low x:=fun x d=>nK d;have la:(push s a).low a=(s.n:Int)+1:=mg _ _ _;have C: ∀x,¬x=a->(push s a).on x=s.on x:=fun x d=>nK d;have D:(push s a).on a=1:=mg _ _ _;have hn:((push s a).n:Int)=(s.n:Int)+1:=by show((s.n+1:Nat):Int)=_;omega
 refine⟨fun x=>?_,fun x y B d=>?_,fun x=>?_,fun x=>?_,fun x=>?_,?_,fun x d b hb=>?_,fun g S=>?_,fun y A=>?_,fun g S y A F=>?_,fun y A I z hz=>?_,fun x d=>?_,fun x y d A Y h2=>?_⟩
 .have:=h.pG x;by_cases e:x=a
  .subst e;rw[la,hn];omega
  .rw[u x e,hn];omega
 .have Y:=h.pG x;have h2:=h.pG y;by_cases e:x=a
  .by_cases j:y=a
   .rw[e,j]
   .rw[e,la,u y j]at B;omega
  .by_cases j:y=a
   .rw[j,la,u x e]at B;omega
   .rw[u x e,u y j]at B;rw[u x e]at d;exact h.inj x y B d
 .by_cases e:x=a
  .subst e;rw[D,la];constructor<;>intro g<;>omega
  .rw[C x e,u x e];exact h.M7 x
 .by_cases e:x=a
  .subst e;exact .inr (.inl D)
  .rw[C x e];exact h.IF x
 .show _↔x∈s.stack++ [a];rw[Ys,Yr];by_cases e:x=a
  .subst e;simp[D]
  .rw[C x e,h.zy x];simp[e]
 .show(s.stack++ [a]).Pairwise _;rw[aat];refine⟨h.Un.imp_of_mem ?_,List.pairwise_singleton _ _,fun x d y A=>?_⟩
  .intro x y d A B;rw[u x (fun e=>G (e▸d)),u y (fun e=>G (e▸A))];exact B
  .rw[Yr]at A;subst A;rw[la,u x (fun e=>G (e▸d))];have:=h.pG x;omega
 .have e: ¬x=a:=fun e=>by subst e;rw[D]at d;omega
  rw[C x e]at d;have J:=h.P5 x d b hb;have j: ¬b=a:=fun e=>by subst e;omega
  rw[C b j];exact J
 .rcases Ys.1 S with g1|g1
  .have:=h.Tm g g1;rw[C g (fun e=>by subst e;omega)];exact this
  .rw[Yr]at g1;subst g1;exact D
 .by_cases e:y=a
  .subst e;exact⟨y,ZK _ Yy,aak _,.refl _⟩
  .rw[C y e]at A;obtain⟨g,g1,g2,g3⟩:=h.up y A;have j: ¬g=a:=fun e=>by have:=h.Tm g g1;subst e;omega
   exact⟨g,YQ _ g1,by rw[u g j,u y e];exact g2,g3⟩
 .rcases Ys.1 S with g1|g1
  .have j: ¬g=a:=fun e=>by have:=h.Tm g g1;subst e;omega
   by_cases e:y=a
   .subst e;exact hp g g1
   .rw[u g j,u y e]at F;rw[C y e]at A;exact h.dn g g1 y A F
  .rw[Yr]at g1;subst g1;by_cases e:y=g
   .subst e;exact .refl _
   .rw[la,u y e]at F;have:=h.pG y;omega
 .have e: ¬y=a:=fun e=>I (ZK _ (by rw[e];exact Yy))
  rw[u y e]at A;have:=h.aI y A (fun g=>I (YQ _ g)) z hz;by_cases j:z=a
  .rw[j,la];omega
  .rw[u z j];exact this
 .have e: ¬x=a:=fun e=>by subst e;rw[D]at d;omega
  rw[C x e]at d;obtain⟨r,r1,r2,r3⟩:=h.Vk x d;have j: ¬r=a:=fun e=>by subst e;omega
  exact⟨r,by rw[C r j];exact r1,by rw[u r j];exact r2,r3⟩
 .have e: ¬x=a:=fun e=>by subst e;rw[D]at d;omega
  have j: ¬y=a:=fun e=>by subst e;rw[D]at A;omega
  rw[C x e]at d;rw[C y j]at A;exact h.cmp x y d A Y h2
theorem Pk{succ:α->List α}{path:List α}{s:St α}{a:α}(h:Inv succ path s)(ha:s.low a=0):Le s (push s a):=by
 have d:s.on a=0:=(h.M7 a).2 ha;refine⟨fun x b=>nK fun e=>b (e▸ha),fun x b=>?_,by show s.n<=s.n+1;omega⟩;have: ¬x=a:=fun e=>by subst e;omega
 show Bm s.on a 1 x=2;rw[nK this];exact b
def BI(s:St α)(u c:List α)(b:Int):St α:=⟨s.low,fun x=>if x∈c then 2 else s.on x,fun x=>if x∈c then b else s.ring x,s.n,u⟩
theorem Ds{a:α}{b:Int}{s:St α}(h: ¬s.on a=1): ∀k,gW a b k s=s
 |0=>rfl
 |k+1=>be h
theorem z7(a:α)(d:Int)(u:List α): ∀(k:Nat) (t:List α) (s:St α),t.length<k->s.stack=u++a::t->a∉t->s.on a=1->(gW a d k s).low=s.low∧(gW a d k s).n=s.n∧(gW a d k s).stack=u∧(∀x,(gW a d k s).on x=if x∈a::t then 2 else s.on x)∧ ∀x,(gW a d k s).ring x=if x∈a::t then d else s.ring x
 |0,t,s,h,_,_,_=>absurd h (Z3 _)
 |k+1,t,s,hk,hs,hn,ho=>by
  rw[gW,am ho];rcases t.eq_nil_or_concat with e|⟨t0,b,e⟩
  .subst e;have D:s.stack.getLast? =jp a:=by rw[hs];simp
   have hd:s.stack.dropLast=u:=by rw[hs];simp
   have F:BJ d s=⟨s.low,Bm s.on a 2,Bm s.ring a d,s.n,u⟩:=by unfold BJ;rw[D,hd]
   rw[F,Ds (by show¬Bm s.on a 2 a=1;rw[mg];decide)];exact⟨rfl,rfl,rfl,fun x=>by simp[Bm],fun x=>by simp[Bm]⟩
  .rw[abp]at e;subst e;have A:s.stack=(u++a::t0)++ [b]:=by rw[hs];simp
   have D:s.stack.getLast? =jp b:=by rw[A];exact List.getLast?_concat
   have hd:s.stack.dropLast=u++a::t0:=by rw[A];exact List.dropLast_concat
   have F:BJ d s=⟨s.low,Bm s.on b 2,Bm s.ring b d,s.n,u++a::t0⟩:=by unfold BJ;rw[D,hd]
   have C: ¬a=b:=fun e=>hn (by rw[e];simp);have B:=z7 a d u k t0 ⟨s.low,Bm s.on b 2,Bm s.ring b d,s.n,u++a::t0⟩ (by simp at hk;omega) Z (fun g=>hn (YQ _ g)) (by show Bm s.on b 2 a=1;rw[nK C];exact ho);rw[F];refine⟨B.1,B.2.1,B.2.2.1,fun x=>?_,fun x=>?_⟩
   .rw[B.2.2.2.1 x];by_cases j:x∈a::t0
    .rw[am j,am (by rw[<-ZO];exact YQ _ j)]
    .rw[be j];by_cases y:x=b
     .subst y;rw[am (by simp)];exact mg _ _ _
     .rw[be (by rw[<-ZO,Ys,Yr];exact fun g=>g.elim j y)];exact nK y
   .rw[B.2.2.2.2 x];by_cases j:x∈a::t0
    .rw[am j,am (by rw[<-ZO];exact YQ _ j)]
    .rw[be j];by_cases y:x=b
     .subst y;rw[am (by simp)];exact mg _ _ _
     .rw[be (by rw[<-ZO,Ys,Yr];exact fun g=>g.elim j y)];exact nK y
theorem St.eq{β:Type}{s t:St β}(h1:s.low=t.low)(h2:s.on=t.on)(h3:s.ring=t.ring)(b:s.n=t.n)(d:s.stack=t.stack):s=t:=by
 cases s;cases t;simp_all
theorem vd{a:α}{b:Int}{u t:List α}{k:Nat}{s:St α}(B:t.length<k)(hs:s.stack=u++a::t)(hn:a∉t)(ho:s.on a=1):gW a b k s=BI s u (a::t) b:=by
 obtain⟨d,j,x,y,A⟩:=z7 a b u k t s B hs hn ho;exact St.eq d (funext y) (funext A) j x
theorem AZ{β:Type}{succ:β->List β}{path:List β}{s:St β}(h:Inv succ path s){a b:β}(ha:s.on a=2)(hr:pP succ a b):s.on b=2:=by
 induction hr with
 |refl=>exact ha
 |step _ he ih=>exact h.P5 _ ih _ he
theorem Pl{succ:α->List α}{path:List α}{s:St α}{a:α}{u t:List α}(h:Inv succ (path++ [a]) s)(hs:s.stack=u++a::t)(J: ∀g∈path,s.low g<s.low a)(g0: ∀z∈succ a,s.low z≠0)
  (c0: ∀y∈a::t,∀z∈succ y,s.on z=1->s.low a<=s.low z):Inv succ path (BI s u (a::t) (s.low a)):=by
 have G:=h.Un;rw[hs,aat]at G;obtain⟨hu,hc,a0⟩:=G;have d0:=(ZI.1 hc).1;have f0:s.on a=1:=(h.zy a).2 (by rw[hs];simp);have hC: ∀x,x∈a::t↔(s.on x=1∧s.low a<=s.low x):=by
  intro x;constructor
  .intro d;refine⟨(h.zy x).2 (by rw[hs];exact ZK _ d),?_⟩;rcases Yx.1 d with e|e
   .rw[e];exact aak _
   .have:=d0 x e;omega
  .rintro⟨C,D⟩;have:=(h.zy x).1 C;rw[hs]at this;rcases Ys.1 this with g|g
   .have:=a0 x g a Yy;omega
   .exact g
 have S:a∈a::t:=Yy;have j: ∀x,x∈a::t->(BI s u (a::t) (s.low a)).on x=2:=fun x d=>am d;have no: ∀x,x∉a::t->(BI s u (a::t) (s.low a)).on x=s.on x:=fun x d=>be d
 have I: ∀x,x∈a::t->pP succ x a:=by
  intro x d;obtain⟨C,D⟩:=(hC x).1 d;obtain⟨g,g1,g2,g3⟩:=h.up x C;refine g3.trans (h.dn g g1 a f0 ?_);rcases Ys.1 g1 with e|e
  .have:=J g e;omega
  .rw[Yr]at e;rw[e];exact aak _
 have F: ∀x,x∈a::t->pP succ a x:=by
  intro x d;obtain⟨C,D⟩:=(hC x).1 d;exact h.dn a (by simp) x C D
 have Y: ∀y,s.low y≠0->y∉path-> ∀z∈succ y,s.low z≠0:=by
  intro y A i0 z hz;by_cases e:y=a
  .rw[e]at hz;exact g0 z hz
  .exact h.aI y A (by rw[Ys,Yr];exact fun g=>g.elim i0 e) z hz
 refine⟨h.pG,h.inj,fun x=>?_,fun x=>?_,fun x=>?_,hu,fun x d b hb=>?_,fun g hg=>?_,fun y A=>?_,fun g hg y A e0=>?_,Y,fun x d=>?_,fun x y d A C D=>?_⟩
 .by_cases e:x∈a::t
  .rw[j x e];have:=xM h ((hC x).1 e).1;exact⟨fun g=>by omega,fun g=>absurd g this⟩
  .rw[no x e];exact h.M7 x
 .by_cases e:x∈a::t
  .exact .inr (.inr (j x e))
  .rw[no x e];exact h.IF x
 .show _↔x∈u;by_cases e:x∈a::t
  .rw[j x e];refine⟨fun g=>by omega,fun g=>?_⟩;have C:=a0 x g a S;have D:=((hC x).1 e).2;omega
  .rw[no x e,h.zy x,hs,Ys];exact⟨fun g=>g.elim id fun q=>absurd q e,.inl⟩
 .by_cases e:x∈a::t
  .obtain⟨C,D⟩:=(hC x).1 e;have b0:s.low b≠0:=Y x (xM h C) (fun g=>by have:=J x g;omega) b hb;rcases h.IF b with g|g|g
   .exact absurd ((h.M7 b).1 g) b0
   .exact j b ((hC b).2 ⟨g,c0 x e b hb g⟩)
   .by_cases B:b∈a::t
    .exact j b B
    .rw[no b B];exact g
  .rw[no x e]at d;have g:=h.P5 x d b hb;by_cases B:b∈a::t
   .exact j b B
   .rw[no b B];exact g
 .have C:=h.Tm g (YQ _ hg);have D:=J g hg;rw[no g (fun e=>by have:=((hC g).1 e).2;omega)];exact C
 .by_cases e:y∈a::t
  .rw[j y e]at A;omega
  .rw[no y e]at A;obtain⟨g,g1,g2,g3⟩:=h.up y A;rcases Ys.1 g1 with q|q
   .exact⟨g,q,g2,g3⟩
   .rw[Yr]at q;rw[q]at g2;exact absurd ((hC y).2 ⟨A,g2⟩) e
 .by_cases e:y∈a::t
  .rw[j y e]at A;omega
  .rw[no y e]at A;exact h.dn g (YQ _ hg) y A e0
 .by_cases e:x∈a::t
  .exact⟨a,j a S,(am e).symm,I x e,F x e⟩
  .rw[no x e]at d;obtain⟨r,r1,r2,r3⟩:=h.Vk x d;have B:r∉a::t:=fun g=>by have:=((hC r).1 g).1;omega
   refine⟨r,by rw[no r B];exact r1,?_,r3⟩;show s.low r=if x∈a::t then s.low a else s.ring x;rw[be e];exact r2
 .show(if x∈a::t then s.low a else s.ring x)=if y∈a::t then s.low a else s.ring y;by_cases e:x∈a::t
  .by_cases B:y∈a::t
   .rw[am e,am B]
   .rw[no y B]at A;have:=AZ h A D;have:=((hC x).1 e).1;omega
  .rw[no x e]at d;by_cases B:y∈a::t
   .have:=AZ h d C;have:=((hC y).1 B).1;omega
   .rw[no y B]at A;rw[be e,be B];exact h.cmp x y d A C D
theorem IX{succ:α->List α}{path:List α}{s:St α}{a z:α}(h:Inv succ (path++ [a]) s)(d: ∀z∈succ a,s.low z≠0)(B:s.on z=1)(A:s.low z<s.low a)(hr:pP succ a z):Inv succ path s:=by
 refine⟨h.pG,h.inj,h.M7,h.IF,h.zy,h.Un,h.P5,fun g b=>h.Tm g (YQ _ b),fun y u=>?_,fun g b=>h.dn g (YQ _ b),fun y u x w j=>?_,h.Vk,h.cmp⟩
 .obtain⟨g,g1,g2,g3⟩:=h.up y u;rcases Ys.1 g1 with q|q
  .exact⟨g,q,g2,g3⟩
  .rw[Yr]at q;subst q;obtain⟨k,k1,D,C⟩:=h.up z B;rcases Ys.1 k1 with q|q
   .exact⟨k,q,by omega,(g3.trans hr).trans C⟩
   .rw[Yr]at q;subst q;omega
 .by_cases e:y=a
  .rw[e]at j;exact d w j
  .exact h.aI y u (by rw[Ys,Yr];exact fun g=>g.elim x e) w j
def mf(V:List α)(s:St α):Nat:=(V.filter fun x=>lw (s.low x=0)).length
theorem filter_le{β:Type}{p q:β->Bool}: ∀(l:List β),(∀x∈l,p x=lc->q x=lc)->(l.filter p).length<=(l.filter q).length
 | [],_=>Ym _
 |x::r,h=>by
  have j:=filter_le r fun y d=>h y (Yt _ d);have b:=h x Yy;rw[ZD,ZD];split
  .rename_i g;rw[am (b g)];simp only[YT];omega
  .split
   .simp only[YT];omega
   .exact j
theorem filter_lt{β:Type}{p q:β->Bool}{a:β}: ∀(l:List β),(∀x∈l,p x=lc->q x=lc)->a∈l->p a=li->q a=lc->(l.filter p).length<(l.filter q).length
 | [],_,h,_,_=>nomatch h
 |x::r,h,ha,h1,h2=>by
  have d:=filter_le r fun y b=>h y (Yt _ b);have j:=h x Yy;rw[ZD,ZD];rcases Yx.1 ha with e|e
  .subst e;rw[h1,h2];simp only[ZH,if_false,if_true,YT];omega
  .have u:=filter_lt r (fun y b=>h y (Yt _ b)) e h1 h2;split
   .rename_i g;rw[am (j g)];simp only[YT];omega
   .split
    .simp only[YT];omega
    .exact u
theorem zn{β:Type}{V:List β}{s s':St β}(h:Le s s'):mf V s'<=mf V s:=
 filter_le V fun x _ b=>by
  refine decide_eq_true (Zu fun g=>?_);have:=of_decide_eq_true b;rw[h.low x g]at this;exact g this
theorem nq{V:List α}{s:St α}{a:α}(hn: ∀x,0<=s.low x∧s.low x<=s.n)(ha:a∈V)(h0:s.low a=0):mf V (push s a)<mf V s:=by
 have la:(push s a).low a=(s.n:Int)+1:=mg _ _ _;refine filter_lt V (fun x _ b=>?_) ha (decide_eq_false (by rw[la];omega)) (decide_eq_true h0);have:=of_decide_eq_true b;by_cases e:x=a
 .rw[e];exact decide_eq_true h0
 .refine decide_eq_true ?_;rwa[show(push s a).low x=s.low x from nK e]at this
structure gy (succ:α->List α) (path:List α) (a:α) (s0:St α) (done:List α) (q:Int×St α) (t:List α):Prop where
 inv:Inv succ (path++ [a]) q.2
 le:Le (push s0 a) q.2
 stack:q.2.stack=s0.stack++a::t
 new: ∀y∈t,s0.low y=0
 Tw:q.1<=(s0.n:Int)+1
 l1: ∀y∈t,∀z∈succ y,q.2.on z=1->q.1<=q.2.low z
 Vz: ∀z∈done,q.2.on z=1->q.1<=q.2.low z
 proc: ∀z∈done,q.2.low z≠0
 l2: ∃z,q.2.on z=1∧q.2.low z=q.1∧pP succ a z
section
variable {succ:α->List α} {path:List α} {a:α} {s0:St α} {done:List α} {q:Int×St α} {t:List α}
theorem gy.la(h:gy succ path a s0 done q t):q.2.low a=(s0.n:Int)+1:=by
 have e:(push s0 a).low a=(s0.n:Int)+1:=mg _ _ _;rw[h.le.low a (by rw[e];omega),e]
theorem gy.pa(h:gy succ path a s0 done q t)(h0:Inv succ path s0)(ha:s0.low a=0): ∀g∈path,q.2.low g<q.2.low a:=by
 intro g j;have d:=h0.Tm g j;have b:=xM h0 d;have e:(push s0 a).low g=s0.low g:=nK fun e=>b (by rw[e];exact ha);rw[h.la,h.le.low g (by rw[e];exact b),e];have:=h0.pG g;omega
theorem gy.at_(h:gy succ path a s0 done q t):a∉t:=fun g=>by
 have:=h.inv.Un;rw[h.stack,aat]at this;have:=(ZI.1 this.2.1).1 a g;omega
theorem gy.step{V:List α}{j:α->St α->Int×St α}{f:Nat}(hV: ∀a∈V,∀b∈succ a,b∈V)
  (ih: ∀(path:List α) (b:α) (s:St α),Inv succ path s->s.low b=0->b∈V->(∀g∈path,pP succ g b)->mf V s<=f-> ∃t,Uf succ path b s (j b s).1 (j b s).2 t)
  (h:gy succ path a s0 done q t) (h0:Inv succ path s0) (ha:s0.low a=0) (S:a∈V) {b:α} (hb:b∈succ a) (hw:mf V q.2<=f): ∃t',gy succ path a s0 (done++ [b]) (fH j q b) t':=by
 have f0:=h.la;have c0:=h.pa h0 ha;have Y:=h.at_;have b0:q.2.on a=1:=(h.inv.zy a).2 (by rw[h.stack];simp);unfold fH;by_cases D:q.2.low b=0
 .rw[am D];have G: ∀g∈path++ [a],pP succ g b:=by
   intro g hg;refine .step (h.inv.dn g hg a b0 ?_) hb;rcases Ys.1 hg with e|e
   .have:=c0 g e;omega
   .rw[Yr]at e;rw[e];exact aak _
  obtain⟨tb,u⟩:=ih (path++ [a]) b q.2 h.inv D (hV a S b hb) G hw;generalize j b q.2=w at u ⊢;obtain⟨F,s'⟩:=w;have B: ∀z,q.2.on z=1->s'.on z=1:=fun z d=>(u.inv.zy z).2 (by rw[u.stack];exact YQ _ ((h.inv.zy z).1 d));have i0:=h.le.n;have g0:(push s0 a).n=s0.n+1:=rfl;refine⟨t++tb,u.inv,h.le.trans u.le,?_,fun y I=>?_,?_,fun y I z d C=>?_,fun z d C=>?_,fun z d=>?_,?_⟩
  .show s'.stack=_;rw[u.stack,h.stack];simp
  .rcases Ys.1 I with g|g
   .exact h.new y g
   .refine Zu fun hc=>?_
    have e:(push s0 a).low y=s0.low y:=nK fun e=>hc (by rw[e];exact ha);have:=h.le.low y (by rw[e];exact hc);rw[u.new y g,e]at this;exact hc this.symm
  .have:=h.Tw;show min q.1 F<=_;omega
  .show min q.1 F<=s'.low z;rcases Ys.1 I with g|g
   .have e0:q.2.on y=1:=(h.inv.zy y).2 (by rw[h.stack];simp[g]);have d0:y∉path++ [a]:=by
     rw[Ys,Yr];rintro(e|e)
     .have h1:=xM h0 (h0.Tm y e);exact h1 (h.new y g)
     .rw[e]at g;exact Y g
    have x:=h.inv.aI y (xM h.inv e0) d0 z d;have A:=KZ h.inv u.le x C;have:=h.l1 y g z d A;rw[u.le.low z x];omega
   .have:F<=s'.low z:=u.l1 y g z d C;omega
  .show min q.1 F<=s'.low z;rcases Ys.1 d with g|g
   .have x:=h.proc z g;have:=h.Vz z g (KZ h.inv u.le x C);rw[u.le.low z x];omega
   .rw[Yr]at g;subst g;have:F<=s'.low z:=u.Tw;omega
  .show s'.low z≠0;rcases Ys.1 d with g|g
   .have x:=h.proc z g;rw[u.le.low z x];exact x
   .rw[Yr]at g;subst g;have:(q.2.n:Int)<s'.low z:=u.at_;omega
  .obtain⟨z,J,z2,z3⟩:=h.l2;by_cases a0:q.1<=F
   .exact⟨z,B z J,by show s'.low z=min q.1 F;rw[u.le.low z (xM h.inv J)];omega,z3⟩
   .rcases u.l2 with⟨_,g⟩|⟨w,w1,w2,w3⟩
    .have h1:F=s'.low b:=g;have h2:(q.2.n:Int)<s'.low b:=u.at_;have h3:=h.Tw;omega
    .have w2:s'.low w=F:=w2;exact⟨w,B w ((h.inv.zy w).2 w1),by show s'.low w=min q.1 F;omega,(pP.one hb).trans w3⟩
 .rw[be D];by_cases A:q.2.on b=1
  .rw[am A];refine⟨t,h.inv,h.le,h.stack,h.new,?_,fun y I z d C=>?_,fun z d C=>?_,fun z d=>?_,?_⟩
   .have:=h.Tw;show min q.1 (q.2.low b)<=_;omega
   .have:=h.l1 y I z d C;show min q.1 (q.2.low b)<=q.2.low z;omega
   .show min q.1 (q.2.low b)<=q.2.low z;rcases Ys.1 d with g|g
    .have:=h.Vz z g C;omega
    .rw[Yr]at g;subst g;omega
   .rcases Ys.1 d with g|g
    .exact h.proc z g
    .rw[Yr]at g;subst g;exact D
   .obtain⟨z,J,z2,z3⟩:=h.l2;by_cases a0:q.1<=q.2.low b
    .exact⟨z,J,by show q.2.low z=min q.1 (q.2.low b);omega,z3⟩
    .exact⟨b,A,by show q.2.low b=min q.1 (q.2.low b);omega,.one hb⟩
  .rw[be A];refine⟨t,h.inv,h.le,h.stack,h.new,h.Tw,h.l1,fun z d C=>?_,fun z d=>?_,h.l2⟩
   .rcases Ys.1 d with g|g
    .exact h.Vz z g C
    .rw[Yr]at g;subst g;exact absurd C A
   .rcases Ys.1 d with g|g
    .exact h.proc z g
    .rw[Yr]at g;subst g;exact D
end
theorem vl{succ:α->List α}{path:List α}{a:α}{s0:St α}{V:List α}{d:α->St α->Int×St α}{f:Nat}(A: ∀a∈V,∀b∈succ a,b∈V)
  (B: ∀(path:List α) (b:α) (s:St α),Inv succ path s->s.low b=0->b∈V->(∀g∈path,pP succ g b)->mf V s<=f-> ∃t,Uf succ path b s (d b s).1 (d b s).2 t)
  (h0:Inv succ path s0) (ha:s0.low a=0) (j:a∈V) (u:mf V (push s0 a)<=f):
  ∀(l done:List α) (q:Int×St α) (t:List α),gy succ path a s0 done q t->(∀b∈l,b∈succ a)-> ∃F,gy succ path a s0 (done++l) (l.foldl (fH d) q) F
 | [],done,q,t,h,_=>⟨t,by rw[Y0];exact h⟩
 |b::l,done,q,t,h,hl=>by
  obtain⟨t1,C⟩:=h.step A B h0 ha j (hl b Yy) (YR (zn h.le) u);obtain⟨t2,y⟩:=vl A B h0 ha j u l (done++ [b]) _ t1 C fun x D=>hl x (Yt _ D);exact⟨t2,by rw[Yu]at y;exact y⟩
theorem sE{succ:α->List α}{V:List α}(hV: ∀a∈V,∀b∈succ a,b∈V): ∀(f:Nat) (path:List α) (a:α) (s:St α),Inv succ path s->s.low a=0->a∈V->(∀g∈path,pP succ g a)->mf V s<=f-> ∃t,Uf succ path a s (ft succ f a s).1 (ft succ f a s).2 t
 |0,path,a,s,h,ha,haV,_,hw=>by
  have:=nq h.pG haV ha;omega
 |f+1,path,a,s,h,ha,haV,hp,hw=>by
  have b0:=nq h.pG haV ha;have hi:=Dq h ha hp;have la:(push s a).low a=(s.n:Int)+1:=mg _ _ _;have oa:(push s a).on a=1:=mg _ _ _;have G:gy succ path a s [] ((s.n:Int)+1,push s a) []:=
   ⟨hi,.refl _,rfl,fun y j=>(nomatch j),aak _,fun y j=>(nomatch j),fun z B=>(nomatch B),fun z B=>(nomatch B),⟨a,oa,la,.refl _⟩⟩
  obtain⟨t,d⟩:=vl hV (fun p b s'=>sE hV f p b s') h ha haV (by omega) (succ a) [] _ [] G fun b hb=>hb;rw[aaj]at d;rw[ft];generalize(succ a).foldl (fH (ft succ f)) ((s.n:Int)+1,push s a)=q at d ⊢;have C:=d.la;have Y:=d.pa h ha;have I:=d.at_;have S:q.2.on a=1:=(d.inv.zy a).2 (by rw[d.stack];simp);have u:Le s q.2:=(Pk h ha).trans d.le;unfold wK;by_cases J:q.1=(s.n:Int)+1
  .rw[am J,vd (by rw[d.stack];simp;omega) d.stack I S,<-C];refine⟨[],Pl d.inv d.stack Y d.proc fun y j z B D=>?_,⟨u.low,fun x hx=>?_,u.n⟩,by rw[Y0];rfl,fun y j=>(nomatch j),?_,?_,fun y j=>(nomatch j),.inl ⟨am Yy,?_⟩⟩
   .rw[C,<-J];rcases Yx.1 j with e|e
    .rw[e]at B;exact d.Vz z B D
    .exact d.l1 y e z B D
   .show(if x∈a::t then(2:Int) else q.2.on x)=2;split
    .rfl
    .exact u.P5 x hx
   .show(s.n:Int)<q.2.low a;omega
   .show q.1<=q.2.low a;omega
   .show q.1=q.2.low a;omega
  .rw[be J];have a0:q.1<q.2.low a:=by have:=d.Tw;omega
   obtain⟨z,z1,z2,z3⟩:=d.l2;have F:=d.inv.Un;rw[d.stack,aat]at F;refine⟨a::t,IX d.inv d.proc z1 (by omega) z3,u,d.stack,fun y j=>?_,by omega,by omega,fun y j w A D=>?_,.inr ⟨z,?_,z2,z3⟩⟩
   .rcases Yx.1 j with e|e
    .rw[e];exact ha
    .exact d.new y e
   .rcases Yx.1 j with e|e
    .rw[e]at A;exact d.Vz w A D
    .exact d.l1 y e w A D
   .have:=(d.inv.zy z).1 z1;rw[d.stack]at this;rcases Ys.1 this with g|g
    .exact g
    .rcases Yx.1 g with e|e
     .rw[e]at z2;omega
     .have:=(ZI.1 F.2.1).1 z e;omega
theorem RZ{β:Type}(succ:β->List β):Inv succ [] (St.o:St β):=
 ⟨fun _=>⟨aak _,aak _⟩,fun _ _ _ h=>absurd Z h,fun _=>Iff.rfl,fun _=> .inl Z,fun _=>⟨fun h=>(nomatch h),fun h=>(nomatch h)⟩,.nil,fun _ h=>(nomatch h),fun _ h=>(nomatch h),fun _ h=>(nomatch h),fun _ h=>(nomatch h),fun _ h=>absurd Z h,fun _ h=>(nomatch h),fun _ _ h=>(nomatch h)⟩
theorem u4{succ:α->List α}{V:List α}(y: ∀a∈V,∀b∈succ a,b∈V){f:Nat}(hf:V.length<=f): ∀(l:List α) (s:St α),(∀a∈l,a∈V)->Inv succ [] s->Inv succ [] (jn succ f l s)∧(∀x,s.low x≠0->(jn succ f l s).low x≠0)∧ ∀a∈l,(jn succ f l s).low a≠0
 | [],s,_,h=>⟨h,fun _ d=>d,fun _ j=>(nomatch j)⟩
 |b::l,s,hl,h=>by
  have key: ∃s',(if s.low b=0 then(ft succ f b s).2 else s)=s'∧Inv succ [] s'∧(∀x,s.low x≠0->s'.low x≠0)∧s'.low b≠0:=by
   by_cases e:s.low b=0
   .obtain⟨t,u⟩:=sE y f [] b s h e (hl b Yy) (fun g B=>nomatch B) (YR (Ze _ _) hf);refine⟨_,am e,u.inv,fun x d=>by rw[u.le.low x d];exact d,?_⟩;have:=u.at_;omega
   .exact⟨s,be e,h,fun _ d=>d,e⟩
  obtain⟨s',e,k1,C,D⟩:=key;obtain⟨i1,i2,i3⟩:=u4 y hf l s' (fun a j=>hl a (Yt _ j)) k1;have A:jn succ f (b::l) s=jn succ f l s':=by
   show jn succ f l (if s.low b=0 then(ft succ f b s).2 else s)=_;rw[e]
  rw[A];refine⟨i1,fun x d=>i2 x (C x d),fun a j=>?_⟩;rcases Yx.1 j with q|q
  .rw[q];exact i2 b D
  .exact i3 a q
theorem Iv{succ:α->List α}{V:List α}(y: ∀a∈V,∀b∈succ a,b∈V){f:Nat}(hf:V.length<=f){a b:α}(ha:a∈V)(hb:b∈V):
  (jn succ f V St.o).ring a=(jn succ f V St.o).ring b↔pP succ a b∧pP succ b a:=by
 obtain⟨h,_,u⟩:=u4 y hf V St.o (fun _ h=>h) (RZ succ);generalize jn succ f V St.o=s at h u ⊢;have d: ∀x∈V,s.on x=2:=by
  intro x A;rcases h.IF x with g|g|g
  .exact absurd ((h.M7 x).1 g) (u x A)
  .obtain⟨k,k1,_⟩:=h.up x g;exact nomatch k1
  .exact g
 constructor
 .intro e;obtain⟨r,J,S,D,F⟩:=h.Vk a (d a ha);obtain⟨q,G,I,B,C⟩:=h.Vk b (d b hb);have j:s.low r≠0:=fun g=>by have:=(h.M7 r).2 g;omega
  have:r=q:=h.inj r q (by omega) j;subst this;exact⟨D.trans C,B.trans F⟩
 .rintro⟨h1,h2⟩;exact h.cmp a b (d a ha) (d b hb) h1 h2
end
end
end
end Go.Tj
namespace Go.Wa
section
inductive rQ (R:Nat->Nat->Prop):Nat->Nat->Prop
 |refl (a:Nat):rQ R a a
 |step {a b c:Nat} (h:R a b) (t:rQ R b c):rQ R a c
theorem rQ.trans{R:Nat->Nat->Prop}{a b c:Nat}(h:rQ R a b)(k:rQ R b c):rQ R a c:=by
 induction h with
 |refl=>exact k
 |step h _ ih=>exact .step h (ih k)
def W(E:Nat->Nat->Bool):Nat->Nat->Nat->Bool
 |0,a,b=>E a b||a==b
 |m+1,a,b=>W E m a b||(W E m a m&&W E m m b)
variable {E:Nat->Nat->Bool}
theorem W.mono(m a b:Nat)(h:W E m a b=lc):W E (m+1) a b=lc:=by simp[W,h]
theorem W.R0{m k a b:Nat}(d:m<=k)(h:W E m a b=lc):W E k a b=lc:=by
 induction d with
 |refl=>exact h
 |step _ ih=>exact W.mono _ _ _ ih
theorem W.self(m a:Nat):W E m a a=lc:=W.R0 (Yl m) (by simp[W])
theorem W.trans: ∀(m a k b:Nat),k<m->W E m a k=lc->W E m k b=lc->W E m a b=lc
 |m+1,a,k,b,hk,d,j=>by
  simp only[W,Y3,YB]at d j ⊢;by_cases A:k=m
  .subst A;have B:W E k a k=lc:=by rcases d with h|h;exact h;exact h.1
   have C:W E k k b=lc:=by rcases j with h|h;exact h;exact h.2
   exact .inr ⟨B,C⟩
  .have u:k<m:=by omega
   rcases d with d|⟨d,y⟩<;>rcases j with j|⟨j,x⟩
   .exact .inl (W.trans m a k b u d j)
   .exact .inr ⟨W.trans m a k m u d j,x⟩
   .exact .inr ⟨d,W.trans m m k b u y j⟩
   .exact .inr ⟨d,x⟩
theorem W.sound: ∀(m a b:Nat),W E m a b=lc->rQ (fun a b=>E a b=lc) a b
 |0,a,b,h=>by
  simp only[W,Y3,beq_iff_eq]at h;rcases h with h|h
  .exact .step h (.refl _)
  .subst h;exact .refl _
 |m+1,a,b,h=>by
  simp only[W,Y3,YB]at h;rcases h with h|⟨d,j⟩
  .exact W.sound m a b h
  .exact(W.sound m a m d).trans (W.sound m m b j)
theorem W.iff{n:Nat}(hE: ∀a b,a<n->E a b=lc->b<n){a b:Nat}(ha:a<n):W E n a b=lc↔rQ (fun a b=>E a b=lc) a b:=by
 refine⟨W.sound n a b,fun h=>?_⟩
 induction h with
 |refl a=>exact W.self n a
 |step h _ ih=>
  have hb:=hE _ _ ha h;exact W.trans n _ _ _ hb (W.R0 (Yl n) (by simp[W,h])) (ih hb)
def V(E:Nat->Nat->Bool)(m a b x y:Nat):Bool:=if x<a∨x=a∧y<b then W E (m+1) x y else W E m x y
theorem V.HN(m a b x:Nat):V E m a b x m=W E m x m:=by
 unfold V;split
 .simp only[W];cases W E m x m<;>simp
 .rfl
theorem V.row(m a b y:Nat):V E m a b m y=W E m m y:=by
 unfold V;split
 .simp only[W];cases W E m m y<;>simp
 .rfl
theorem V.here(m a b:Nat):V E m a b a b=W E m a b:=by unfold V;rw[be (by omega)]
theorem V.next(m a b x y:Nat):V E m a (b+1) x y=if x=a∧y=b then(V E m a b x y||(V E m a b a m&&V E m a b m b)) else V E m a b x y:=by
 by_cases h:x=a∧y=b
 .obtain⟨rfl,rfl⟩:=h;rw[am ⟨rfl,rfl⟩,V.HN,V.row,V.here];unfold V;rw[am (by omega)];rfl
 .rw[be h];unfold V;by_cases d:x<a∨x=a∧y<b
  .rw[am d,am (by omega)]
  .rw[be d,be (by omega)]
theorem V.line(m a n x y:Nat)(b:y<n):V E m a n x y=V E m (a+1) 0 x y:=by
 unfold V;by_cases h:x<a∨x=a∧y<n
 .rw[am h,am (by omega)]
 .rw[be h,be (by omega)]
theorem V.zero(m x y:Nat):V E m 0 0 x y=W E m x y:=by unfold V;rw[be (by omega)]
theorem V.full(m n x y:Nat)(b:x<n):V E m n 0 x y=W E (m+1) x y:=by unfold V;rw[am (.inl b)]
end
end Go.Wa
namespace Go.Co
section
def dq(n:Nat)(d:(Nat->Bool)->Nat->Bool)(cls:Nat->Nat->Bool):Nat->(Nat->Bool)->List (List Nat)
 |0,_=> []
 |f+1,done=>match(Yv n).find? (fun a=>!done a&&d done a) with
  |none=> []
  |some a=>(Yv n).filter (cls a)::dq n d cls f (fun b=>done b||cls a b)
section
variable {n:Nat} {bW:Nat->Nat->Bool} {e:Nat->Nat->Bool}
def cX(n:Nat)(bW:Nat->Nat->Bool)(done:Nat->Bool)(a:Nat):Bool:=(Yv n).all fun b=>!(bW a b&&!bW b a)||done b
def lH(n:Nat)(bW e:Nat->Nat->Bool)(done:Nat->Bool)(a:Nat):Bool:=(Yv n).all fun b=>!(bW a b&&bW b a)||(Yv n).all fun c=>!e b c||(bW c a&&bW a c)||done c
structure QC (n:Nat) (e bW:Nat->Nat->Bool):Prop where
 refl: ∀a,a<n->bW a a=lc
 trans: ∀a b c,bW a b=lc->bW b c=lc->bW a c=lc
 wL: ∀a b,a<n->e a b=lc->bW a b=lc
 lt: ∀a b,a<n->bW a b=lc->b<n
 WB: ∀a b,a<n->e a b=lc->b<n
 split: ∀a b (p:Nat->Prop),a<n->bW a b=lc->p a-> ¬p b-> ∃x y,x<n∧bW a x=lc∧p x∧e x y=lc∧ ¬p y∧bW y b=lc
def closed(n:Nat)(bW:Nat->Nat->Bool)(done:Nat->Bool):Prop:= ∀a b,a<n->done a=lc->bW a b=lc->done b=lc
theorem Cc(hf:QC n e bW){done:Nat->Bool}(hd:closed n bW done){a:Nat}(ha:a<n):cX n bW done a=lH n bW e done a:=by
 rw[YU];simp only[cX,lH,YG,YM,Y3,Y1,Z8,YB,ZJ];constructor
 .intro h b hb;by_cases d:bW a b=lc∧bW b a=lc
  .refine .inr fun c I=>?_
   by_cases B:e b c=lc
   .have j:bW a c=lc:=hf.trans _ _ _ d.1 (hf.wL _ _ hb B);by_cases u:bW c a=lc
    .exact .inl (.inr ⟨u,j⟩)
    .rcases h c I with(h3|h3)|h3
     .rw[j]at h3;cases h3
     .exact absurd h3 u
     .exact .inr h3
   .exact .inl (.inl (Zq.2 B))
  .by_cases j:bW a b=lc
   .exact .inl (.inr (Zq.2 fun u=>d ⟨j,u⟩))
   .exact .inl (.inl (Zq.2 j))
 .intro h b hb;by_cases d:bW a b=lc
  .by_cases A:bW b a=lc
   .exact .inl (.inr A)
   .refine .inr ?_;obtain⟨x,y,C,j,u,h3,F,G⟩:=hf.split a b (fun x=>bW x a=lc) ha d (hf.refl a ha) A;have D:y<n:=hf.WB _ _ C h3;rcases h x C with(h6|h6)|h6
    .rw[j]at h6;cases h6
    .rw[u]at h6;cases h6
    .rcases h6 y D with(h7|h7)|h7
     .rw[h3]at h7;cases h7
     .exact absurd h7.1 F
     .exact hd y b D h7 G
  .exact .inl (.inl (Zq.2 d))
def cls(bW:Nat->Nat->Bool)(a b:Nat):Bool:=bW a b&&bW b a
theorem qK(hf:QC n e bW){done:Nat->Bool}(hd:closed n bW done){a:Nat}(ha:a<n)(d:cX n bW done a=lc):closed n bW (fun b=>done b||cls bW a b):=by
 intro x y C u B;simp only[cls,Y3,YB]at u ⊢;rcases u with u|⟨u,D⟩
 .exact .inl (hd x y C u B)
 .have j:=hf.trans _ _ _ u B;by_cases A:bW y a=lc
  .exact .inr ⟨j,A⟩
  .left;simp only[cX,YG,YM,Y3,Y1,Z8,ZJ]at d;rcases d y (hf.lt _ _ ha j) with(h4|h4)|h4
   .rw[j]at h4;cases h4
   .exact absurd h4 A
   .exact h4
theorem find_congr{α:Type}{p q:α->Bool}: ∀{l:List α},(∀x∈l,p x=q x)->l.find? p=l.find? q
 | [],_=>rfl
 |x::l,h=>by
  rw[ZN,ZN,h x (by simp),find_congr fun y b=>h y (Yt _ b)]
theorem AB(hf:QC n e bW): ∀(f:Nat) (done:Nat->Bool),closed n bW done->dq n (cX n bW) (cls bW) f done=dq n (lH n bW e) (cls bW) f done
 |0,_,_=>rfl
 |f+1,done,hd=>by
  have j:(Yv n).find? (fun a=>!done a&&cX n bW done a)=(Yv n).find? (fun a=>!done a&&lH n bW e done a):=
   find_congr fun a b=>by rw[Cc hf hd (YM.1 b)]
  unfold dq;rw[<-j];split
  .rfl
  .rename_i a b;have d:=aa4 b;have u:=YM.1 (aal b);simp only[YB]at d;rw[AB hf f _ (qK hf hd u d.2)]
theorem wb(hf:QC n e bW){done:Nat->Bool}(a0: ∃a,a<n∧done a=li): ∃a,a<n∧done a=li∧cX n bW done a=lc:=by
 have key: ∀(m:Nat) (a:Nat),a<n->done a=li->(Yv n).countP (bW a)<=m-> ∃a,a<n∧done a=li∧cX n bW done a=lc:=by
  intro m
  induction m with
  |zero=>
   intro a d _ Y;have:0<(Yv n).countP (bW a):=abA.2 ⟨a,YM.2 d,hf.refl a d⟩;omega
  |succ m ih=>
   intro a d j Y;by_cases h:cX n bW done a=lc
   .exact⟨a,d,j,h⟩
   .have S: ∃b,b<n∧bW a b=lc∧bW b a=li∧done b=li:=by
     simp only[cX,ZQ,Z1,YM,Y3,Y1,Z8,ZJ,not_or]at h;obtain⟨b,hb,⟨B,C⟩,D⟩:=h;exact⟨b,hb,by simpa using B,by simpa using C,by simpa using D⟩
    obtain⟨b,hb,B,C,D⟩:=S;refine ih b hb D ?_;have c0:(Yv n).countP (bW b)<(Yv n).countP (bW a):=by
     have u: ∀x∈Yv n,bW b x=lc->bW a x=lc:=fun x _ I=>hf.trans _ _ _ B I
     have: ∀l:List Nat,(∀x∈l,bW b x=lc->bW a x=lc)->a∈l->l.countP (bW b)<l.countP (bW a):=by
      intro l
      induction l with
      |nil=>intro _ h;cases h
      |cons x l ihl=>
       intro G hm;have b0:l.countP (bW b)<=l.countP (bW a):=aa0 fun y J=>G y (Yt _ J);rw[aa2,aa2];by_cases A:a=x
       .subst A;rw[C,hf.refl a d];simp;omega
       .have F:a∈l:=by
         rcases Yx.1 hm with h|h
         .exact absurd h A
         .exact h
        have:=ihl (fun y J=>G y (Yt _ J)) F;have I:=G x (by simp);cases hbx:bW b x with
        |false=>simp;split<;>omega
        |true=>rw[I hbx];simp;omega
     exact this _ u (YM.2 d)
    omega
 obtain⟨a,d,j⟩:=a0;exact key _ a d j (Ym _)
theorem F4{d d':Nat->Bool}(h: ∀j,j<n->d j=d' j)(a:Nat):lH n bW e d a=lH n bW e d' a:=by
 unfold lH;rw[YU];simp only[YG,YM];constructor
 .intro g b hb;have:=g b hb;rw[Y3]at this ⊢;refine this.imp id fun g2=>?_;simp only[YG,YM]at g2 ⊢;exact fun c u=>by rw[<-h c u];exact g2 c u
 .intro g b hb;have:=g b hb;rw[Y3]at this ⊢;refine this.imp id fun g2=>?_;simp only[YG,YM]at g2 ⊢;exact fun c u=>by rw[h c u];exact g2 c u
theorem vX{K:Nat->Nat->Bool}: ∀{f:Nat} {d d':Nat->Bool},(∀j,j<n->d j=d' j)->dq n (lH n bW e) K f d=dq n (lH n bW e) K f d'
 |0,_,_,_=>rfl
 |f+1,d,d',h=>by
  have b:(Yv n).find? (fun a=>!d a&&lH n bW e d a)=(Yv n).find? (fun a=>!d' a&&lH n bW e d' a):=
   find_congr fun a u=>by rw[F4 h,h a (YM.1 u)]
  unfold dq;rw[b];split
  .rfl
  .rename_i a _;rw[vX fun j x=>by rw[h j x]]
end
end
end Go.Co
namespace Go.Fa
open Go.Wa Go.Co
theorem H3{R:Nat->Nat->Prop}{a b:Nat}(h:rQ R a b)(p:Nat->Prop):p a-> ¬p b-> ∃x y,rQ R a x∧p x∧R x y∧ ¬p y∧rQ R y b:=by
 induction h with
 |refl a=>exact fun d j=>absurd d j
 | @step a c b h t ih=>
  intro d j;by_cases u:p c
  .obtain⟨x,y,g1,g2,g3,g4,g5⟩:=ih u j;exact⟨x,y,.step h g1,g2,g3,g4,g5⟩
  .exact⟨a,c,.refl a,d,h,u,t⟩
theorem VM{n:Nat}{E:Nat->Nat->Bool}(hE: ∀a b,E a b=lc->a<n∧b<n):QC n E (W E n):=by
 have j: ∀a b,a<n->E a b=lc->b<n:=fun a b _ h=>(hE a b h).2
 have A: ∀{a b:Nat},rQ (fun a b=>E a b=lc) a b->W E n a b=lc:=by
  intro a b h;by_cases d:a<n
  .exact(W.iff j d).2 h
  .cases h with
   |refl=>exact W.self n a
   |step h _=>exact absurd (hE _ _ h).1 d
 have u: ∀{a b:Nat},rQ (fun a b=>E a b=lc) a b->a<n->b<n:=by
  intro a b h
  induction h with
  |refl a=>exact id
  |step h _ ih=>exact fun _=>ih (hE _ _ h).2
 refine⟨fun a _=>W.self n a,fun a b c B C=>A ((W.sound n a b B).trans (W.sound n b c C)),fun a b _ h=>A (.step h (.refl _)),fun a b d h=>u (W.sound n a b h) d,j,fun a b p d h B C=>?_⟩;obtain⟨x,y,g1,g2,g3,g4,g5⟩:=H3 (W.sound n a b h) p B C;exact⟨x,y,u g1 d,A g1,g2,g3,g4,A g5⟩
end Go.Fa
namespace Go.Rg
open Go.Wa Go.Co Go.Tj
section
section
variable {α:Type} [Inhabited α]
def ed(V:List α)(g:α->α->Bool)(i j:Nat):Bool:=lw (i<V.length)&&lw (j<V.length)&&g (V.getD i io) (V.getD j io)
def bW(V:List α)(g:α->α->Bool):Nat->Nat->Bool:=W (ed V g) V.length
theorem kg{V:List α}{g:α->α->Bool}{i j:Nat}:ed V g i j=lc↔i<V.length∧j<V.length∧g (V.getD i io) (V.getD j io)=lc:=by
 simp[ed,and_assoc]
theorem qE(V:List α)(g:α->α->Bool):QC V.length (ed V g) (bW V g):=Go.Fa.VM fun _ _ h=>⟨(kg.1 h).1,(kg.1 h).2.1⟩
theorem kO{V:List α}{a:α}(h:a∈V): ∃i,i<V.length∧V.getD i io=a:=by
 obtain⟨i,b,rfl⟩:=ZA.1 h;exact⟨i,b,by simp[Ye,b]⟩
theorem get_mem{V:List α}{i:Nat}(h:i<V.length):V.getD i io∈V:=by
 rw[Ye,Yi h];exact YZ h
theorem Gs{V:List α}(hn:V.Nodup){g:α->α->Bool}{succ:α->List α}(hs: ∀a∈V,∀b,b∈succ a↔b∈V∧g a b=lc){i j:Nat}(hi:i<V.length)(hj:j<V.length):
  bW V g i j=lc↔pP succ (V.getD i io) (V.getD j io):=by
 have B: ∀{x y:Nat},x<V.length->y<V.length->V.getD x io=V.getD y io->x=y:=by
  intro x y C d h;rw[Ye,Ye,Yi C,Yi d]at h;exact(aaM hn).1 h
 rw[bW,W.iff (n:=V.length) (fun a b _ h=>(kg.1 h).2.1) hi];constructor
 .intro h;clear hj;have: ∀{a b:Nat},rQ (fun a b=>ed V g a b=lc) a b->pP succ (V.getD a io) (V.getD b io):=by
   intro a b h
   induction h with
   |refl a=>exact .refl _
   |step h _ ih=>
    obtain⟨u,A,D⟩:=kg.1 h;exact(pP.step (.refl _) ((hs _ (get_mem u) _).2 ⟨get_mem A,D⟩)).trans ih
  exact this h
 .intro h;have key: ∀{a b:α},pP succ a b-> ∀x,x<V.length->V.getD x io=a-> ∃y,y<V.length∧V.getD y io=b∧rQ (fun a b=>ed V g a b=lc) x y:=by
   intro a b h
   induction h with
   |refl=>exact fun x C F=>⟨x,C,F,.refl _⟩
   |step _ hc ih=>
    intro x C F;obtain⟨y,d,u,A⟩:=ih x C F;subst u;obtain⟨D,I⟩:=(hs _ (get_mem d) _).1 hc;obtain⟨z,G,rfl⟩:=kO D;exact⟨z,G,rfl,A.trans (.step (kg.2 ⟨d,G,I⟩) (.refl _))⟩
  obtain⟨y,d,u,A⟩:=key h i hi Z;have:=B d hj u;subst this;exact A
def oJ(V:List α)(g:α->α->Bool)(ring:α->Int):Prop:= ∀i j,i<V.length->j<V.length->(ring (V.getD i io)=ring (V.getD j io)↔bW V g i j=lc∧bW V g j i=lc)
theorem KF[DecidableEq α]{V:List α}(hn:V.Nodup){g:α->α->Bool}{succ:α->List α}(hs: ∀a∈V,∀b,b∈succ a↔b∈V∧g a b=lc){f:Nat}(hf:V.length<=f):oJ V g (jn succ f V St.o).ring:=by
 intro i j d u;rw[Iv (fun a x b hb=>((hs a x b).1 hb).1) hf (get_mem d) (get_mem u),Gs hn hs d u,Gs hn hs u d]
def AN(V:List α)(succ:α->List α)(ring:α->Int)(D:Int->Bool)(a:α):Bool:=(V.filter fun b=>lw (ring b=ring a)).all fun b=>(succ b).all fun c=>lw (ring c=ring a)||D (ring c)
def mV(V:List α)(succ:α->List α)(ring:α->Int):Nat->(Int->Bool)->List (List α)
 |0,_=> []
 |f+1,D=>match V.find? (fun a=>!D (ring a)&&AN V succ ring D a) with
  |none=> []
  |some a=>(V.filter fun b=>lw (ring b=ring a))::mV V succ ring f (fun x=>lw (x=ring a)||D x)
theorem zZ(V:List α):(Yv V.length).map (fun i=>V.getD i io)=V:=by
 apply List.ext_getElem
 .simp
 .intro i d b;simp[Ye,b]
theorem F7(V:List α)(p:α->Bool):V.filter p=((Yv V.length).filter fun i=>p (V.getD i io)).map fun i=>V.getD i io:=by
 have:=List.filter_map (p:=p) (f:=fun i=>V.getD i io) (l:=Yv V.length);rw[zZ]at this;exact this
theorem L7(V:List α)(p:α->Bool):V.find? p=((Yv V.length).find? fun i=>p (V.getD i io)).map fun i=>V.getD i io:=by
 have:=List.find?_map (f:=fun i=>V.getD i io) (p:=p) (l:=Yv V.length);rw[zZ]at this;exact this
theorem zi{β:Type}{p q:β->Bool}{l:List β}(h: ∀x∈l,p x=q x):l.filter p=l.filter q:=List.filter_congr h
theorem Mx{V:List α}{g:α->α->Bool}{ring:α->Int}(hr:oJ V g ring){i:Nat}(hi:i<V.length):
  (V.filter fun b=>lw (ring b=ring (V.getD i io)))=((Yv V.length).filter (cls (bW V g) i)).map fun i=>V.getD i io:=by
 rw[F7];congr 1;refine zi fun j d=>?_;have:=hr j i (YM.1 d) hi;rw[YU,decide_eq_true_eq,this];simp[cls,and_comm]
theorem vz{V:List α}{g:α->α->Bool}{ring:α->Int}(hr:oJ V g ring){succ:α->List α}(hs: ∀a∈V,∀b,b∈succ a↔b∈V∧g a b=lc){D:Int->Bool}{i:Nat}(hi:i<V.length):
  AN V succ ring D (V.getD i io)=lH V.length (bW V g) (ed V g) (fun j=>D (ring (V.getD j io))) i:=by
 rw[YU];simp only[AN,lH,YG,YO,decide_eq_true_eq,YM,Y3,Y1,Z8,YB];constructor
 .intro h b hb;by_cases d:bW V g i b=lc∧bW V g b i=lc
  .refine .inr fun c u=>?_
   by_cases G:ed V g b c=lc
   .obtain⟨_,_,B⟩:=kg.1 G;rcases h (V.getD b io) ⟨get_mem hb,(hr b i hb hi).2 ⟨d.2,d.1⟩⟩ (V.getD c io) ((hs _ (get_mem hb) _).2 ⟨get_mem u,B⟩) with h4|h4
    .exact .inl (.inr ((hr c i u hi).1 h4))
    .exact .inr h4
   .exact .inl (.inl (Zq.2 G))
  .left;by_cases x:bW V g i b=lc
   .exact .inr (Zq.2 fun A=>d ⟨x,A⟩)
   .exact .inl (Zq.2 x)
 .rintro h b ⟨hb,hrb⟩ c d;obtain⟨y,C,rfl⟩:=kO hb;obtain⟨x,A⟩:=(hs _ hb _).1 d;obtain⟨z,F,rfl⟩:=kO x;obtain⟨B,h4⟩:=(hr y i C hi).1 hrb;rcases h y C with(h5|h5)|h5
  .rw[h4]at h5;cases h5
  .rw[B]at h5;cases h5
  .rcases h5 z F with(h6|h6)|h6
   .rw[kg.2 ⟨C,F,A⟩]at h6;cases h6
   .exact .inl ((hr z i F hi).2 h6)
   .exact .inr h6
theorem uF{V:List α}{g:α->α->Bool}{ring:α->Int}(hr:oJ V g ring){succ:α->List α}(hs: ∀a∈V,∀b,b∈succ a↔b∈V∧g a b=lc): ∀(f:Nat) (D:Int->Bool),
  mV V succ ring f D=(dq V.length (lH V.length (bW V g) (ed V g)) (cls (bW V g)) f (fun j=>D (ring (V.getD j io)))).map fun c=>c.map fun i=>V.getD i io
 |0,_=>rfl
 |f+1,D=>by
  have x:(Yv V.length).find? (fun i=>!D (ring (V.getD i io))&&AN V succ ring D (V.getD i io))=
    (Yv V.length).find? (fun i=>!D (ring (V.getD i io))&&lH V.length (bW V g) (ed V g) (fun j=>D (ring (V.getD j io))) i):=
   find_congr fun i u=>by rw[vz hr hs (YM.1 u)]
  unfold mV dq;rw[L7,x];cases hfi:(Yv V.length).find? (fun i=>!D (ring (V.getD i io))&&lH V.length (bW V g) (ed V g) (fun j=>D (ring (V.getD j io))) i) with
  |none=>rfl
  |some i=>
   have u:=YM.1 (aal hfi);simp only[Zg,Yz];rw[Mx hr u,uF hr hs f];have y:=vX (n:=V.length) (bW:=bW V g) (e:=ed V g) (K:=cls (bW V g)) (f:=f) (d:=fun j=>lw (ring (V.getD j io)=ring (V.getD i io))||D (ring (V.getD j io)))
    (d':=fun j=>D (ring (V.getD j io))||cls (bW V g) i j) fun j A=>?_
   .rw[y]
   have:=hr j i A u;rw[YU];simp only[Y3,decide_eq_true_eq,this,cls,YB];exact⟨fun h=>h.symm.imp id fun h=>⟨h.2,h.1⟩,fun h=>h.symm.imp (fun h=>⟨h.2,h.1⟩) id⟩
end
end
end Go.Rg
namespace Go.Lv
section
variable (e s:Nat->Nat->Bool)
def wt(a b:Nat):Nat:=if s a b then 1 else 0
inductive Ud:Nat->Nat->Nat->Prop
 |nil (a:Nat):Ud a 0 0
 |cons {a b k w:Nat} (h:e a b=lc) (t:Ud b k w):Ud a (k+1) (w+wt s a b)
def rx(h:Nat->Nat)(a b:Nat):Nat->Nat:=if e a b=lc∧h a<h b+wt s a b then fun x=>if x=a then h b+wt s a b else h x else h
def row(h:Nat->Nat)(a:Nat):Nat->(Nat->Nat)
 |0=>h
 |b+1=>rx e s (row h a b) a b
def GV(n:Nat)(h:Nat->Nat):Nat->(Nat->Nat)
 |0=>h
 |a+1=>row e s (GV n h a) a n
def high(n:Nat):Nat->(Nat->Nat)
 |0=>fun _=>0
 |t+1=>GV e s n (high n t) n
theorem RY(h:Nat->Nat)(a b x:Nat):h x<=rx e s h a b x:=by
 unfold rx;split
 .rename_i j;show h x<=if x=a then _ else _;split
  .rename_i d;subst d;omega
  .exact Ym _
 .exact Ym _
theorem OW(h:Nat->Nat){a b:Nat}(d:e a b=lc):h b+wt s a b<=rx e s h a b a:=by
 unfold rx;split
 .show _<=if a=a then _ else _;rw[am Z];exact Ym _
 .rename_i j;have: ¬h a<h b+wt s a b:=fun hh=>j ⟨d,hh⟩;omega
theorem BB(h:Nat->Nat)(a x:Nat): ∀m,h x<=row e s h a m x
 |0=>Ym _
 |m+1=>YR (BB h a x m) (RY e s _ a m x)
theorem oc(h:Nat->Nat){a b:Nat}(d:e a b=lc): ∀m,b<m->h b+wt s a b<=row e s h a m a
 |m+1,hb=>by
  by_cases j:b=m
  .subst j;exact YR (aa3 (BB e s h a b b) _) (OW e s _ d)
  .exact YR (oc h d m (by omega)) (RY e s _ a m a)
theorem Fo(n:Nat)(h:Nat->Nat)(x:Nat): ∀m,h x<=GV e s n h m x
 |0=>Ym _
 |m+1=>YR (Fo n h x m) (BB e s _ m x n)
theorem De(n:Nat)(h:Nat->Nat){a b:Nat}(d:e a b=lc)(hb:b<n): ∀m,a<m->h b+wt s a b<=GV e s n h m a
 |m+1,ha=>by
  by_cases j:a=m
  .subst j;exact YR (aa3 (Fo e s n h b a) _) (oc e s _ d n hb)
  .exact YR (De n h d hb m (by omega)) (BB e s _ m a n)
theorem Ax(n:Nat)(x:Nat): ∀{t u:Nat},t<=u->high e s n t x<=high e s n u x:=by
 intro t u h
 induction h with
 |refl=>exact Ym _
 |step _ ih=>exact YR ih (Fo e s n _ x n)
variable {e s}
theorem Vj{L h:Nat->Nat}(d: ∀a b,e a b=lc->L b+wt s a b<=L a)(hh: ∀x,h x<=L x)(a b x:Nat):rx e s h a b x<=L x:=by
 unfold rx;split
 .rename_i j;show(if x=a then _ else _)<=_;split
  .rename_i u;subst u;exact YR (aa3 (hh b) _) (d x b j.1)
  .exact hh x
 .exact hh x
theorem Kw{L h:Nat->Nat}(d: ∀a b,e a b=lc->L b+wt s a b<=L a)(hh: ∀x,h x<=L x)(a:Nat): ∀m x,row e s h a m x<=L x
 |0,x=>hh x
 |m+1,x=>Vj d (Kw d hh a m) a m x
theorem KA{L h:Nat->Nat}(d: ∀a b,e a b=lc->L b+wt s a b<=L a)(n:Nat)(hh: ∀x,h x<=L x): ∀m x,GV e s n h m x<=L x
 |0,x=>hh x
 |m+1,x=>Kw d (KA d n hh m) m n x
theorem w6{L:Nat->Nat}(d: ∀a b,e a b=lc->L b+wt s a b<=L a)(n:Nat): ∀t x,high e s n t x<=L x
 |0,_=>Yl _
 |t+1,x=>KA d n (w6 d n t) n x
end
end Go.Lv
namespace Go.Le
open Go.Co Go.Lv
section
variable {n:Nat} {e s bW:Nat->Nat->Bool}
def Qz(n:Nat)(e s:Nat->Nat->Bool)(L:Nat->Nat):Prop:= ∀S:Nat->Bool,(∃a,a<n∧S a=li)-> ∃x,x<n∧S x=li∧(L x=0∨ ∃y,y<n∧S y=lc∧e x y=lc∧L x<=L y+wt s x y)
theorem vE{α:Type}{p q:α->Bool}: ∀{l:List α},(∀x∈l,p x=lc->q x=lc)->(∃x∈l,p x=li∧q x=lc)->l.countP p<l.countP q
 | [],_,⟨x,hx,_⟩=>nomatch hx
 |y::l,h,⟨x,hx,h1,h2⟩=>by
  have d:l.countP p<=l.countP q:=aa0 fun z b=>h z (Yt _ b);rw[aa2,aa2];rcases Yx.1 hx with rfl|hx
  .rw[h1,h2];simp;omega
  .have:=vE (fun z b=>h z (Yt _ b)) ⟨x,hx,h1,h2⟩;have j:=h y (by simp);cases hp:p y with
   |false=>simp;split<;>omega
   |true=>rw[j hp];simp;omega
theorem DZ{t:Nat}(S:n<=t){L:Nat->Nat}(D: ∀a b,e a b=lc->L b+wt s a b<=L a)(hg:Qz n e s L){a:Nat}(ha:a<n):high e s n t a=L a:=by
 have key: ∀u,u<=n->u<=(Yv n).countP fun x=>lw (high e s n u x=L x):=by
  intro u
  induction u with
  |zero=>exact fun _=>Yl _
  |succ u G=>
   intro hu;have G:=G (by omega);have d: ∀x∈Yv n,lw (high e s n u x=L x)=lc->lw (high e s n (u+1) x=L x)=lc:=by
    intro x _ j;rw[decide_eq_true_eq]at j ⊢;refine aa5 (w6 D n (u+1) x) ?_;rw[<-j];exact Ax e s n x (aaH u)
   by_cases a0: ∃a,a<n∧lw (high e s n u a=L a)=li
   .obtain⟨x,j,C,A⟩:=hg _ a0;have:(Yv n).countP (fun x=>lw (high e s n u x=L x))<(Yv n).countP fun x=>lw (high e s n (u+1) x=L x):=by
     refine vE d ⟨x,YM.2 j,C,?_⟩;rw[decide_eq_true_eq];refine aa5 (w6 D n (u+1) x) ?_;rcases A with A|⟨y,Y,B,I,J⟩
     .rw[A];exact Yl _
     .rw[decide_eq_true_eq]at B;refine YR J ?_;rw[<-B];exact De e s n _ I Y n j
    omega
   .have F:(Yv n).countP (fun x=>lw (high e s n u x=L x))=n:=by
     have:(Yv n).countP (fun x=>lw (high e s n u x=L x))=(Yv n).length:=by
      rw[abq];intro x j;cases h:lw (high e s n u x=L x) with
      |true=>rfl
      |false=>exact absurd ⟨x,YM.1 j,h⟩ a0
     rw[this,aah]
    have:(Yv n).countP (fun x=>lw (high e s n u x=L x))<=(Yv n).countP fun x=>lw (high e s n (u+1) x=L x):=aa0 d;omega
 have C:=key n (Ym n);have A: ∀x∈Yv n,lw (high e s n n x=L x)=lc:=by
  rw[<-abq,aah];exact aa5 (by have:=abr (p:=fun x=>lw (high e s n n x=L x)) (l:=Yv n);rwa[aah]at this) C
 have B:=of_decide_eq_true (A a (YM.2 ha));refine aa5 (w6 D n t a) ?_;rw[<-B];exact Ax e s n a S
def top(n:Nat)(e s:Nat->Nat->Bool)(h:Nat->Nat)(c:List Nat):Nat:=
 c.foldl (fun m a=>(Yv n).foldl (fun m b=>if e a b=lc then max m (h b+wt s a b) else m) m) 0
def PK(n:Nat)(e s:Nat->Nat->Bool):List (List Nat)->(Nat->Nat)->(Nat->Nat)
 | [],h=>h
 |c::r,h=>PK n e s r (fun x=>if x∈c then top n e s h c else h x)
theorem foldl_max{α:Type}(p:α->Bool)(f:α->Nat): ∀(l:List α) (m:Nat),m<=l.foldl (fun m b=>if p b=lc then max m (f b) else m) m∧
  (∀b∈l,p b=lc->f b<=l.foldl (fun m b=>if p b=lc then max m (f b) else m) m)∧(l.foldl (fun m b=>if p b=lc then max m (f b) else m) m=m∨ ∃b∈l,p b=lc∧l.foldl (fun m b=>if p b=lc then max m (f b) else m) m=f b)
 | [],m=>⟨Ym _,fun _ h=>(nomatch h),.inl Z⟩
 |b::l,m=>by
  obtain⟨u,x,j⟩:=foldl_max p f l (if p b=lc then max m (f b) else m);rw[YN];refine⟨YR ?_ u,fun c hc d=>?_,?_⟩
  .split<;>omega
  .rcases Yx.1 hc with rfl|hc
   .rw[am d]at u ⊢;omega
   .exact x c hc d
  .rcases j with j|⟨c,hc,d,j⟩
   .rw[j];by_cases d:p b=lc
    .rw[am d];rcases Nat.le_total m (f b) with h|h
     .exact .inr ⟨b,by simp,d,by omega⟩
     .exact .inl (by omega)
    .rw[be d];exact .inl Z
   .exact .inr ⟨c,Yt _ hc,d,j⟩
theorem Bn(n:Nat)(e s:Nat->Nat->Bool)(h:Nat->Nat): ∀(c:List Nat) (m:Nat),(m<=c.foldl (fun m a=>(Yv n).foldl (fun m b=>if e a b=lc then max m (h b+wt s a b) else m) m) m)∧
  (∀a∈c,∀b,b<n->e a b=lc->h b+wt s a b<=c.foldl (fun m a=>(Yv n).foldl (fun m b=>if e a b=lc then max m (h b+wt s a b) else m) m) m)∧
  (c.foldl (fun m a=>(Yv n).foldl (fun m b=>if e a b=lc then max m (h b+wt s a b) else m) m) m=m∨ ∃a∈c,∃b,b<n∧e a b=lc∧c.foldl (fun m a=>(Yv n).foldl (fun m b=>if e a b=lc then max m (h b+wt s a b) else m) m) m=h b+wt s a b)
 | [],m=>⟨Ym _,fun _ h=>(nomatch h),.inl Z⟩
 |a::c,m=>by
  obtain⟨g1,g2,g3⟩:=foldl_max (fun b=>e a b) (fun b=>h b+wt s a b) (Yv n) m;obtain⟨u,y,d⟩:=Bn n e s h c ((Yv n).foldl (fun m b=>if e a b=lc then max m (h b+wt s a b) else m) m);rw[YN];refine⟨YR g1 u,fun x hx b hb j=>?_,?_⟩
  .rcases Yx.1 hx with rfl|hx
   .exact YR (g2 b (YM.2 hb) j) u
   .exact y x hx b hb j
  .rcases d with d|⟨x,hx,b,hb,j,d⟩
   .rcases g3 with g3|⟨b,hb,j,g3⟩
    .exact .inl (d.trans g3)
    .exact .inr ⟨a,by simp,b,YM.1 hb,j,d.trans g3⟩
   .exact .inr ⟨x,Yt _ hx,b,hb,j,d⟩
theorem JV{h:Nat->Nat}{c:List Nat}{a b:Nat}(ha:a∈c)(hb:b<n)(he:e a b=lc):h b+wt s a b<=top n e s h c:=(Bn n e s h c 0).2.1 a ha b hb he
theorem E5(h:Nat->Nat)(c:List Nat):top n e s h c=0∨ ∃a∈c,∃b,b<n∧e a b=lc∧top n e s h c=h b+wt s a b:=(Bn n e s h c 0).2.2
structure EX (n:Nat) (e s bW:Nat->Nat->Bool) (done:Nat->Bool) (h:Nat->Nat):Prop where
 cl:closed n bW done
 zero: ∀x,done x=li->h x=0
 wL: ∀a b,a<n->done a=lc->e a b=lc->h b+wt s a b<=h a
 ground: ∀S:Nat->Bool,(∃a,a<n∧done a=lc∧S a=li)-> ∃x,x<n∧done x=lc∧S x=li∧(h x=0∨ ∃y,y<n∧S y=lc∧e x y=lc∧h x<=h y+wt s x y)
theorem EX.next(hf:QC n e bW)(hs: ∀a b,e a b=lc->bW b a=lc->s a b=li){done:Nat->Bool}{h:Nat->Nat}(hd:EX n e s bW done h){a:Nat}(ha:a<n)(o0:done a=li)(G:cX n bW done a=lc):
  EX n e s bW (fun b=>done b||cls bW a b) (fun x=>if x∈(Yv n).filter (cls bW a) then top n e s h ((Yv n).filter (cls bW a)) else h x):=by
 have D: ∀x,x∈(Yv n).filter (cls bW a)↔x<n∧bW a x=lc∧bW x a=lc:=by
  intro x;simp[cls,YO,YM]
 have g0: ∀x,x<n->bW a x=lc->bW x a=lc->done x=li:=by
  intro x d _ B;cases A:done x with
  |false=>rfl
  |true=>have:=hd.cl x a d A B;rw[o0]at this;cases this
 have f0: ∀b,bW a b=lc->bW b a=li->done b=lc:=by
  intro b j B;simp only[cX,YG,YM,Y3,Y1,Z8,ZJ]at G;rcases G b (hf.lt _ _ ha j) with(h4|h4)|h4
  .rw[j]at h4;cases h4
  .rw[B]at h4;cases h4
  .exact h4
 have C: ∀x,x<n->done x=lc->(if x∈(Yv n).filter (cls bW a) then top n e s h ((Yv n).filter (cls bW a)) else h x)=h x:=by
  intro x d A;rw[be];rw[D];rintro⟨_,j,B⟩;rw[g0 x d j B]at A;cases A
 have I: ∀x,x<n->bW a x=lc->bW x a=lc->(if x∈(Yv n).filter (cls bW a) then top n e s h ((Yv n).filter (cls bW a)) else h x)=top n e s h ((Yv n).filter (cls bW a)):=
  fun x d j B=>am ((D x).2 ⟨d,j,B⟩)
 have a0: ∀x y,x<n->bW a x=lc->bW x a=lc->e x y=lc->bW y a=lc->h y+wt s x y=0:=by
  intro x y d j B J F;have Y:=hf.WB _ _ d J;have h4:bW a y=lc:=hf.trans _ _ _ j (hf.wL _ _ d J);rw[hd.zero y (g0 y Y h4 F)];simp[wt,hs x y J (hf.trans _ _ _ F j)]
 refine⟨qK hf hd.cl ha G,fun x d=>?_,fun x y d A J=>?_,fun S hS=>?_⟩
 .simp only[Y6]at d;rw[be]
  .exact hd.zero x d.1
  .rw[D];rintro⟨_,j,B⟩;have:=d.2;simp[cls,j,B]at this
 .have Y:=hf.WB _ _ d J;simp only[Y3,cls,YB]at A;rcases A with A|⟨j,B⟩
  .have n0:done y=lc:=hd.cl x y d A (hf.wL _ _ d J);rw[C x d A,C y Y n0];exact hd.wL x y d A J
  .rw[I x d j B];have F:bW a y=lc:=hf.trans _ _ _ j (hf.wL _ _ d J);cases h4:bW y a with
   |true=>
    rw[I y Y F h4];have:wt s x y=0:=by simp[wt,hs x y J (hf.trans _ _ _ h4 j)]
    omega
   |false=>
    rw[C y Y (f0 y F h4)];exact JV ((D x).2 ⟨d,j,B⟩) Y J
 .by_cases d0: ∃x,x<n∧done x=lc∧S x=li
  .obtain⟨x,d,j,B,F⟩:=hd.ground S d0;refine⟨x,d,by simp[j],B,?_⟩;rw[C x d j];rcases F with F|⟨y,Y,h4,h5,h6⟩
   .exact .inl F
   .exact .inr ⟨y,Y,h4,h5,by rw[C y Y (hd.cl x y d j (hf.wL _ _ d h5))];exact h6⟩
  .have b0: ∀x,x<n->done x=lc->S x=lc:=fun x d j=>by
    cases B:S x with
    |true=>rfl
    |false=>exact absurd ⟨x,d,j,B⟩ d0
   obtain⟨x,d,j,B⟩:=hS;simp only[Y3,cls,YB]at j;rcases j with j|⟨j,F⟩
   .exact absurd ⟨x,d,j,B⟩ d0
   rcases E5 (n:=n) (e:=e) (s:=s) h ((Yv n).filter (cls bW a)) with ht|⟨a',k0,b,hb,J,ht⟩
   .exact⟨x,d,by simp[cls,j,F],B,.inl (by rw[I x d j F,ht])⟩
   .obtain⟨g1,g2,g3⟩:=(D a').1 k0;cases hba:bW b a with
    |true=>
     have:=a0 a' b g1 g2 g3 J hba;exact⟨x,d,by simp[cls,j,F],B,.inl (by rw[I x d j F,ht,this])⟩
    |false=>
     have e0:=f0 b (hf.trans _ _ _ g2 (hf.wL _ _ g1 J)) hba;cases hSa:S a' with
     |false=>
      exact⟨a',g1,by simp[cls,g2,g3],hSa,.inr ⟨b,hb,b0 b hb e0,J,by rw[I a' g1 g2 g3,C b hb e0,ht];exact Ym _⟩⟩
     |true=>
      obtain⟨u,v,hu,h4,h5,h6,h7,h8⟩:=hf.split x a' (fun z=>S z=li) d (hf.trans _ _ _ F g2) B (by rw[hSa];simp);have hv:=hf.WB _ _ hu h6;have c0:bW a u=lc:=hf.trans _ _ _ j h4;have j0:bW v a=lc:=hf.trans _ _ _ h8 g3;have i0:bW u a=lc:=hf.trans _ _ _ (hf.wL _ _ hu h6) j0;have m0:bW a v=lc:=hf.trans _ _ _ c0 (hf.wL _ _ hu h6);exact⟨u,hu,by simp[cls,c0,i0],h5,.inr ⟨v,hv,by simpa using h7,h6,by rw[I u hu c0 i0,I v hv m0 j0];omega⟩⟩
theorem EX.nil(n:Nat)(e s bW:Nat->Nat->Bool):EX n e s bW (fun _=>li) (fun _=>0):=
 ⟨fun _ _ _ h=>(nomatch h),fun _ _=>rfl,fun _ _ _ h=>(nomatch h),fun _ ⟨_,_,h,_⟩=>(nomatch h)⟩
theorem uB{α:Type}{p:α->Bool}: ∀{l:List α},(∃x∈l,p x=lc)-> ∃y,l.find? p=jp y
 | [],⟨_,h,_⟩=>nomatch h
 |x::l,⟨y,h,hp⟩=>by
  rw[ZN];cases hx:p x with
  |true=>exact⟨x,rfl⟩
  |false=>
   rcases Yx.1 h with rfl|h
   .rw[hx]at hp;cases hp
   .exact uB ⟨y,h,hp⟩
theorem DQ(hf:QC n e bW)(hs: ∀a b,e a b=lc->bW b a=lc->s a b=li): ∀(f:Nat) (done:Nat->Bool) (h:Nat->Nat),EX n e s bW done h->(Yv n).countP (fun x=>!done x)<=f->
  ∃all:Nat->Bool,(∀x,x<n->all x=lc)∧EX n e s bW all (PK n e s (dq n (cX n bW) (cls bW) f done) h)
 | 0,done,h,hd,hc=>⟨done,fun x A=>by
   cases hdx:done x with
   |true=>rfl
   |false=>
    have:0<(Yv n).countP (fun x=>!done x):=abA.2 ⟨x,YM.2 A,by simp[hdx]⟩
    omega,hd⟩
 |f+1,done,h,hd,hc=>by
  unfold dq;split
  .rename_i j;refine⟨done,fun x A=>?_,hd⟩;cases hdx:done x with
   |true=>rfl
   |false=>
    obtain⟨a,F,u,B⟩:=wb hf ⟨x,A,hdx⟩;obtain⟨y,D⟩:=uB (p:=fun a=>!done a&&cX n bW done a) (l:=Yv n) ⟨a,YM.2 F,by simp[u,B]⟩;rw[j]at D;cases D
  .rename_i a d;have u:=aa4 d;have B:=YM.1 (aal d);simp only[YB,Y1]at u;have C:=hd.next hf hs B u.1 u.2;refine DQ hf hs f _ _ C ?_;have:(Yv n).countP (fun x=>!(done x||cls bW a x))<(Yv n).countP fun x=>!done x:=by
    refine vE (fun x _ A=>?_) ⟨a,YM.2 B,?_,?_⟩
    .simp only[Bool.not_or,YB]at A;exact A.1
    .simp[cls,hf.refl a B]
    .simp[u.1]
   omega
theorem Lj(hf:QC n e bW)(hlt: ∀a b,e a b=lc->a<n∧b<n)(hs: ∀a b,e a b=lc->bW b a=lc->s a b=li){t:Nat}(C:n<=t){a:Nat}(ha:a<n):
  high e s n t a=PK n e s (dq n (cX n bW) (cls bW) n (fun _=>li)) (fun _=>0) a:=by
 obtain⟨all,j,u⟩:=DQ hf hs n _ _ (EX.nil n e s bW) (by have:=abr (p:=fun x:Nat=>!li) (l:=Yv n);rwa[aah]at this);refine DZ C (fun x y d=>u.wL x y (hlt x y d).1 (j x (hlt x y d).1) d) (fun S ⟨x,hx,hS⟩=>?_) ha;obtain⟨y,D,_,A,B⟩:=u.ground S ⟨x,hx,j x hx,hS⟩;exact⟨y,D,A,B⟩
end
end Go.Le
namespace Go.Or
open Go.Co Go.Lv Go.Le
section
variable {n:Nat} {e s bW:Nat->Nat->Bool}
structure X9 (n:Nat) (bW:Nat->Nat->Bool) (done:Nat->Bool) (cs:List (List Nat)) (x i:Nat) (c:List Nat):Prop where
 at_:cs[i]? =jp c
 mem:x∈c
 one: ∀(j:Nat) (c':List Nat),cs[j]? =jp c'->x∈c'->j=i
 cl: ∀y,y∈c↔y<n∧cls bW x y=lc
 low: ∀y,y<n->bW x y=lc->done y=lc∨ ∃j c',j<=i∧cs[j]? =jp c'∧y∈c'
end
end Go.Or
namespace Go.Proofs.YtflegjieadkonaaGreatDoor
open Go Go.Al
mutual
def named:Lit->List aj
 | .mk k a _ _ _ _ _ _ b _=>if k=1∨k=2 then[a.rel] else if k=4 then jt b else[]
def jt:List Lit->List aj
 | []=> []
 |l::r=>named l++jt r
end
def BQ(l:Lit):List aj:=if l.kind=1∨l.kind=2 then[l.atom.rel] else if l.kind=4 then(l.au.filter fun x=>lw (x.kind=1∨x.kind=2)).map fun x=>x.atom.rel else[]
theorem qk: ∀l:List Lit,jt l=l.flatMap named
 | []=>rfl
 |x::r=>by simp only[jt,Zk,qk r]
theorem Ak: ∀(b:List Lit),(∀x∈b,x.kind≠4)->jt b=(b.filter fun x=>lw (x.kind=1∨x.kind=2)).map fun x=>x.atom.rel
 | [],_=>rfl
 | .mk k' a' op' le' ri' af' av' ao' b' at'::b,h=>by
  have j:k'≠4:=h (.mk k' a' op' le' ri' af' av' ao' b' at') (Yy ..);rw[jt,Ak b fun y u=>h y (Yt _ u),ZD];by_cases d:k'=1∨k'=2
  .have:lw ((Lit.mk k' a' op' le' ri' af' av' ao' b' at').kind=1∨(Lit.mk k' a' op' le' ri' af' av' ao' b' at').kind=2)=lc:=decide_eq_true d;rw[this,named,am d];rfl
  .have:lw ((Lit.mk k' a' op' le' ri' af' av' ao' b' at').kind=1∨(Lit.mk k' a' op' le' ri' af' av' ao' b' at').kind=2)=li:=decide_eq_false d;rw[this,named,be d,be j];rfl
theorem xV(l:Lit)(h:l.kind=4-> ∀x∈l.au,x.kind≠4):named l=BQ l:=by
 obtain⟨k,a,op,le,A,j,y,u,b,at_⟩:=l;show(if k=1∨k=2 then[a.rel] else if k=4 then jt b else[])=if k=1∨k=2 then[a.rel] else if k=4 then(b.filter fun x=>lw (x.kind=1∨x.kind=2)).map fun x=>x.atom.rel else[];by_cases d:k=4
 .rw[Ak b (h d)]
 .rw[be d,be d]
def fZ(l:Lit):Nat:=if l.kind=1 then 1 else 2
def aD(p:Prog):List (aj×aj×Nat):=p.rules.flatMap fun r=>r.body.flatMap fun l=>(named l).map fun t=>(r.head.rel,t,fZ l)
def gD(hs:List (aj×aj×Nat))(a b:aj):Nat:=hs.foldl (fun m x=>if x.1=a∧x.2.1=b then max m x.2.2 else m) 0
theorem Cb(hs:List (aj×aj×Nat))(x:aj×aj×Nat)(a b:aj):gD (hs++ [x]) a b=if x.1=a∧x.2.1=b then max (gD hs a b) x.2.2 else gD hs a b:=by
 simp[gD,Z7]
theorem Cd(a b:aj): ∀(hs:List (aj×aj×Nat)) (m:Nat),m<=hs.foldl (fun m x=>if x.1=a∧x.2.1=b then max m x.2.2 else m) m∧(∀k,(a,b,k)∈hs->k<=hs.foldl (fun m x=>if x.1=a∧x.2.1=b then max m x.2.2 else m) m)∧
  (hs.foldl (fun m x=>if x.1=a∧x.2.1=b then max m x.2.2 else m) m=m∨(a,b,hs.foldl (fun m x=>if x.1=a∧x.2.1=b then max m x.2.2 else m) m)∈hs)
 | [],m=>⟨Ym _,fun _ h=>(nomatch h),.inl Z⟩
 |(x,y,k)::hs,m=>by
  obtain⟨j,u,h3⟩:=Cd a b hs (if x=a∧y=b then max m k else m);rw[YN];refine⟨YR ?_ j,fun B A=>?_,?_⟩
  .split<;>omega
  .rcases Yx.1 A with h|h
   .cases h;refine YR ?_ j;rw[am ⟨rfl,rfl⟩];exact Nat.le_max_right _ _
   .exact u B h
  .rcases h3 with h3|h3
   .by_cases d:x=a∧y=b
    .rw[am d]at h3;rcases Nat.le_total m k with h4|h4
     .right;rw[abI h4]at h3;obtain⟨rfl,rfl⟩:=d;simp only[and_self,if_true,abI h4]at h3 ⊢;rw[h3];simp
     .left;rw[Nat.max_eq_left h4]at h3;simp only[d,and_self,if_true,Nat.max_eq_left h4]at h3 ⊢;exact h3
    .rw[be d]at h3;left;simp only[be d];exact h3
   .exact .inr (Yt _ h3)
theorem R7{hs:List (aj×aj×Nat)}{a b:aj}{k:Nat}(h:(a,b,k)∈hs):k<=gD hs a b:=(Cd a b hs 0).2.1 k h
theorem HA(hs:List (aj×aj×Nat))(a b:aj):gD hs a b=0∨(a,b,gD hs a b)∈hs:=(Cd a b hs 0).2.2
theorem B4(l:Lit):fZ l<=2:=by unfold fZ;split<;>omega
theorem TI(p:Prog)(a b:aj):gD (aD p) a b<=2:=by
 rcases HA (aD p) a b with h|h
 .omega
 .generalize gD (aD p) a b=k at h;simp only[aD,ZZ,YP,Yw]at h;obtain⟨r,_,l,_,t,_,_,_,h⟩:=h;rw[<-h];exact B4 l
def ns(p:Prog):List aj:=eR (p.aB.map Decl.name)
theorem pJ: ∀(l a:List aj),pR a->pR (l.foldl ins a)
 | [],_,h=>h
 |x::l,a,h=>pJ l (ins a x) (tm h x)
theorem uz{x:aj}: ∀(l a:List aj),x∈l.foldl ins a↔x∈a∨x∈l
 | [],a=>by simp
 |y::l,a=>by rw[YN,uz l,wY,Yx,or_assoc]
theorem IL{p:Prog}(h:(p.aB.map Decl.name).Nodup):(p.aB.map Decl.name).foldl ins []=ns p:=
 mr (pJ _ _ Z6) (fM h) fun x=>by rw[uz,ns,db];simp
theorem pR.K5{l:List aj}(h:pR l):l.Nodup:=by
 refine abE ?_ h;intro a b d e;subst e;exact kE _ d
def eg(p:Prog)(a b:aj):Bool:=lw (gD (aD p) a b≠0)
def Cu(p:Prog)(a b:aj):Bool:=lw (gD (aD p) a b=2)
def Cf(p:Prog):List (aj×aj×Bool):=(ns p).flatMap fun a=>((ns p).filter (eg p a)).map fun b=>(a,b,Cu p a b)
def bQ(p:Prog):Nat->Nat->Bool:=Go.Rg.bW (ns p) (eg p)
def dc(p:Prog):List (List aj):=(Go.Co.dq (ns p).length (Go.Co.cX (ns p).length (bQ p)) (Go.Co.cls (bQ p)) (ns p).length (fun _=>li)).map fun c=>c.map fun i=>(ns p).getD i io
def kr(p:Prog):Nat->Nat:=Go.Lv.high (Go.Rg.ed (ns p) (eg p)) (fun i j=>Cu p ((ns p).getD i io) ((ns p).getD j io)) (ns p).length ((ns p).length+1)
def bS(p:Prog):List (aj×Nat):=(Yv (ns p).length).map fun i=>((ns p).getD i io,kr p i)
theorem EA{p:Prog}{ring:aj->Int}(hr:Go.Rg.oJ (ns p) (eg p) ring):
  Go.Rg.mV (ns p) (fun a=>(ns p).filter (eg p a)) ring (ns p).length (fun _=>li)=dc p:=by
 rw[Go.Rg.uF hr (fun a _ b=>by rw[YO])];have h:=Go.Co.AB (Go.Rg.qE (ns p) (eg p)) (ns p).length (fun _=>li) (fun _ _ _ h=>by cases h);unfold dc bQ;rw[h]
theorem BR{p:Prog}(hs: ∀i j,Go.Rg.ed (ns p) (eg p) i j=lc->bQ p j i=lc->Cu p ((ns p).getD i io) ((ns p).getD j io)=li){i:Nat}(hi:i<(ns p).length):
  kr p i=Go.Le.PK (ns p).length (Go.Rg.ed (ns p) (eg p)) (fun i j=>Cu p ((ns p).getD i io) ((ns p).getD j io)) (Go.Co.dq (ns p).length (Go.Co.cX (ns p).length (bQ p)) (Go.Co.cls (bQ p)) (ns p).length (fun _=>li)) (fun _=>0) i:=
 Go.Le.Lj (Go.Rg.qE (ns p) (eg p)) (fun _ _ h=>⟨(Go.Rg.kg.1 h).1,(Go.Rg.kg.1 h).2.1⟩) hs (aaH _) hi
theorem KG{p:Prog}(hn:(p.aB.map Decl.name).Nodup){f:Nat}(hf:(ns p).length<=f):Go.Rg.oJ (ns p) (eg p) (Go.Tj.jn (fun a=>(ns p).filter (eg p a)) f (ns p) Go.Tj.St.o).ring:=
 Go.Rg.KF (V:=ns p) (pR.K5 (fM hn)) (fun a _ b=>by rw[YO]) hf
def ringEq(p:Prog)(a b:aj):Bool:=(Yv (ns p).length).any fun i=>(Yv (ns p).length).any fun j=>lw ((ns p).getD i io=a)&&lw ((ns p).getD j io=b)&&Go.Co.cls (bQ p) i j
theorem sU{p:Prog}{a b:aj}:ringEq p a b=lc↔ ∃i j,i<(ns p).length∧j<(ns p).length∧(ns p).getD i io=a∧(ns p).getD j io=b∧bQ p i j=lc∧bQ p j i=lc:=by
 simp only[ringEq,Y8,YM,YB,decide_eq_true_eq,Go.Co.cls];constructor
 .rintro⟨i,hi,j,hj,⟨h1,h2⟩,h3,h4⟩;exact⟨i,j,hi,hj,h1,h2,h3,h4⟩
 .rintro⟨i,j,hi,hj,h1,h2,h3,h4⟩;exact⟨i,hi,j,hj,⟨h1,h2⟩,h3,h4⟩
theorem vJ{p:Prog}{ring:aj->Int}(hr:Go.Rg.oJ (ns p) (eg p) ring){a b:aj}(ha:a∈ns p)(hb:b∈ns p):ringEq p a b=lw (ring a=ring b):=by
 rw[YU,sU,decide_eq_true_eq];constructor
 .rintro⟨i,j,d,u,rfl,rfl,x,y⟩;exact(hr i j d u).2 ⟨x,y⟩
 .intro h;obtain⟨i,d,rfl⟩:=Go.Rg.kO ha;obtain⟨j,u,rfl⟩:=Go.Rg.kO hb;obtain⟨x,y⟩:=(hr i j d u).1 h;exact⟨i,j,d,u,rfl,rfl,x,y⟩
def jm(p:Prog)(r:aq):Bool:=r.body.any fun l=>lw (l.kind=1)&&ringEq p l.atom.rel r.head.rel
def lK(p:Prog)(r:aq):Option Lit:=r.body.find? fun l=>lw (l.kind≠1)&&(named l).any fun t=>ringEq p t r.head.rel
def iF(r:aq):Bool:=r.head.ae.any fun t=>lw (t.kind=1)&&!ch (fN r) t.var
def ew(p:Prog)(r:aq):aT:=match lK p r with
 |some l=>(70,l.at)
 |none=>if iF r=lc∧jm p r=lc then(71,r.at_) else aT.z
def dD(p:Prog):aT:=if(bu p).1≠0 then bu p else((p.rules.map (ew p)).find? fun d=>lw (d.1≠0)).getD aT.z
def fv(p:Prog)(n:Int):Bool:=lw ((bu p).1=0)&&lw (1<=n)&&lw (n<=p.rules.length)&&jm p (p.rules.getD (n-1).toNat io)
def jH(p:Prog):Bool:=lw ((bu p).1=0)&&p.rules.all fun r=>r.body.all fun l=>lw (l.kind≠2)&&lw (l.kind≠4)
theorem wy{p:Prog}{r:aq}(h:(ew p r).1=0):lK p r=kw:=by
 unfold ew at h;split at h
 .cases h
 .assumption
theorem xn{p:Prog}(h0:(bu p).1=0)(h:(dD p).1=0): ∀r∈p.rules,(ew p r).1=0:=by
 intro r b;unfold dD at h;rw[be (by simpa using h0)]at h;cases hf:(p.rules.map (ew p)).find? fun d=>lw (d.1≠0) with
 |none=>
  have:=Zx.1 hf (ew p r) (Zs b);simpa using this
 |some d=>
  rw[hf]at h;have:=aa4 hf;simp only[ne_eq,decide_not,Y1,decide_eq_false_iff_not]at this;exact absurd h this
theorem CS{p:Prog}(h: ∀r∈p.rules,lK p r=kw): ∀i j,Go.Rg.ed (ns p) (eg p) i j=lc->bQ p j i=lc->Cu p ((ns p).getD i io) ((ns p).getD j io)=li:=by
 intro i j u B;obtain⟨x,C,_⟩:=Go.Rg.kg.1 u;cases hs:Cu p ((ns p).getD i io) ((ns p).getD j io) with
 |false=>rfl
 |true=>
  rw[Cu,decide_eq_true_eq]at hs;rcases HA (aD p) ((ns p).getD i io) ((ns p).getD j io) with h1|h1
  .omega
  .rw[hs]at h1;simp only[aD,ZZ,YP,Yw]at h1;obtain⟨r,F,l,D,t,G,y,A,d⟩:=h1;have b:l.kind≠1:=by
    intro b;rw[fZ,am b]at d;cases d
   have:=Zx.1 (h r F) l D;simp only[YB,decide_eq_true_eq,Y8,not_and,not_exists]at this;refine absurd ?_ (this b t G);rw[sU];exact⟨j,i,C,x,A.symm,y.symm,B,(Go.Rg.qE (ns p) (eg p)).wL i j x u⟩
end Go.Proofs.YtflegjieadkonaaGreatDoor
namespace Go.Re
open Go.Tj
section
variable {α:Type}
structure Mid (succ:α->List α) (S T:α->Prop) (a:α) (l:List α):Prop where
 Vn: ∀x,S x->T x
 here:T a
 new: ∀x,T x->S x∨pP succ a x
 next: ∀x,T x->S x∨x=a∨ ∀y∈succ x,T y
 done: ∀y∈l,T y
structure Top (succ:α->List α) (V:α->Prop) (T:α->Prop) (l:List α):Prop where
 new: ∀x,T x-> ∃r∈l,V r∧pP succ r x
 next: ∀x,T x-> ∀y∈succ x,T y
 done: ∀r∈l,V r->T r
end
end Go.Re
namespace Go.Proofs.YtflegjieadkonaaGreatDoor
open Go Go.Al
theorem Dl(p:Prog): ∀i,(jo p i).length<=i
 |0=>Ym _
 |i+1=>by
  have:=Dl p i;unfold jo;split<;>simp<;>omega
theorem Da(p:Prog): ∀i,(km p i).length<=i
 |0=>Ym _
 |i+1=>by
  have:=Da p i;unfold km;split<;>simp<;>omega
section
section
variable {r t:aq} (hh:t.head=r.head) (hb: ∀x,x∈t.body↔x∈r.body)
include hh hb
end
section
variable {r t:aq} (hh:t.head=r.head) (hb: ∀x,x∈t.body↔x∈r.body)
include hh hb
end
structure X8 (r t u:aq) (i k:Int):Prop where
 WW: ∀x∈fu (aJ (b6 r)),x∈fu (aJ (az r))
 Vl: ∀x∈fu (aJ (rV r)),x∈fu (aJ (b6 r))
 outer:fu (aJ (az t))=fu (aJ (az r))
 lim:fu (aJ (b6 t))=fu (aJ (b6 r))
 plain:fu (aJ (rV t))=fu (aJ (rV r))
 loc:ti t i=ti r k
 ti: ∀x∈ti r k,x∉fu (aJ (az r))
 more: ∀x∈fu (aJ (b6 r)),x∈fu (aJ (b6 u))
 hasX:Ts [88]∈fu (aJ (b6 u))
end
def Ht(p:Prog)(a:Atom)(i:Nat):Int:=(ik p a.rel).types.getD i io
def LN(p:Prog)(a:Atom)(i:Nat)(m:NM):Option NM:=
 if(a.ae.getD i io).kind=2 then(if(a.ae.getD i io).val.kind=Ht p a i then jp m else kw)
 else if(a.ae.getD i io).kind=1 then(if ej .str m (a.ae.getD i io).var=lc∧ ¬bY .str m (a.ae.getD i io).var 0=Ht p a i then kw else jp (ck .str m (a.ae.getD i io).var (Ht p a i)))
 else jp m
def R4(p:Prog)(a:Atom):Nat->Option NM
 |0=>jp []
 |i+1=>(R4 p a i).bind (LN p a i)
theorem wQ{n sz:Nat}{es:List (List PV)}(h:es.all (bq n)=lc):(AO.row sz es).low n:=fun _ e b=>YG.1 h e (YL b)
def y8:List IV->List IV->Prop
 | [],[]=>True
 |p::r,q::s=>nT p q∧y8 r s
 |_,_=>False
theorem y8.length: ∀{a b:List IV},y8 a b->a.length=b.length
 | [],[],_=>rfl
 |_::_,_::_,h=>congrArg (· +1) (y8.length h.2)
 | [],_::_,h=>h.elim
 |_::_,[],h=>h.elim
theorem y8.get: ∀{a b:List IV},y8 a b-> ∀(j:Nat) (q:IV),b[j]? =jp q-> ∃p,a[j]? =jp p∧nT p q
 | [],[],_,j,q,h=>by simp at h
 |p::r,q0::s,hh,j,q,h=>by
  cases j with
  |zero=>simp at h;subst h;exact⟨p,rfl,hh.1⟩
  |succ j=>simpa using y8.get hh.2 j q (by simpa using h)
 | [],_::_,hh,_,_,_=>hh.elim
 |_::_,[],hh,_,_,_=>hh.elim
def yG(i sz n:Nat):PV->Bool
 | .iv _=>lc
 | .sl j off len s=>bif YJ j i then YJ s sz&&aaf (off+len) n else lc
 |_=>li
theorem Jr{i sz n:Nat}{p:PV}(h:yG i sz n p=lc):p.bG i sz n:=by
 cases p with
 |iv=>trivial
 |sl j off len s=>
  simp only[yG]at h;show if j=i then s=sz∧off+len<=n else True;split
  .rename_i e;subst e;simp only[Nat.beq_refl,cond_true,YB]at h;exact⟨YE h.1,Yd h.2⟩
  .trivial
 |_=>cases h
theorem xI{i sz n:Nat}: ∀{l:List PV},l.all (yG i sz n)=lc->dC i sz n l
 | [],_=>trivial
 |p::r,h=>by
  rw[abe,YB]at h;exact⟨Jr h.1,xI h.2⟩
def xN(i sz n:Nat):AH->Bool
 | []=>lc
 |(_,kw)::r=>xN i sz n r
 |(_,jp (.cells cs _))::r=>cs.all (yG i sz n)&&xN i sz n r
 |(_,jp (.row _ es))::r=>(es.all fun e=>e.all (yG i sz n))&&xN i sz n r
 |_::_=>li
theorem fO{i sz n:Nat}: ∀{h:AH},xN i sz n h=lc->h.vg i sz n
 | [],_=>trivial
 |(_,kw)::r,h=>fO (h:=r) h
 |(_,jp (.cells cs _))::r,h=>by
  simp only[xN,YB]at h;exact⟨xI h.1,fO h.2⟩
 |(_,jp (.row _ es))::r,h=>by
  simp only[xN,YB]at h;exact⟨fun e b=>xI (YG.1 h.1 e b),fO h.2⟩
 |(_,jp (.bM _ _))::r,h=>by simp[xN]at h
 |(_,jp .gn)::r,h=>by simp[xN]at h
 |(_,jp (.map ..))::r,h=>by simp[xN]at h
 |(_,jp (.b3 ..))::r,h=>by simp[xN]at h
 |(_,jp (.eT ..))::r,h=>by simp[xN]at h
theorem G0(p:Prog): ∀i,∀d∈jo p i,¬d.1=0
 |0,d,h=>by cases h
 |i+1,d,h=>by
  rw[jo]at h;rcases Ys.1 h with h|h
  .exact G0 p i d h
  .split at h
   .cases h
   .rename_i g;rw[Yr]at h;subst h;exact g
theorem GQ(p:Prog): ∀i,∀d∈km p i,¬d.1=0
 |0,d,h=>by cases h
 |i+1,d,h=>by
  rw[km]at h;rcases Ys.1 h with h|h
  .exact GQ p i d h
  .split at h
   .cases h
   .rename_i g;rw[Yr]at h;subst h;exact g
theorem Jb(p:Prog): ∀d∈ke p,¬d.1=0:=fun d h=>by
 rcases Ys.1 h with h|h
 .exact G0 p _ d h
 .exact GQ p _ d h
theorem Gd(p:Prog):(bu p).1=0↔ke p=[]:=by
 unfold bu;cases h:ke p with
 |nil=>exact⟨fun _=>rfl,fun _=>rfl⟩
 |cons d l=>exact⟨fun e=>absurd e (Jb p d (by rw[h];exact Yy)),fun e=>nomatch e⟩
theorem C9(p:Prog): ∀n,km p n=[]↔ ∀i,i<n->(rG p i).1=0
 |0=>⟨fun _ i h=>absurd h (Z3 i),fun _=>rfl⟩
 |n+1=>by
  rw[km,aaY,C9 p n];constructor
  .rintro⟨h1,h2⟩ i b;rcases Zp.1 b with h|h
   .exact h1 i h
   .subst h;by_cases g:(rG p i).1=0
    .exact g
    .rw[be g]at h2;cases h2
  .intro h;exact⟨fun i b=>h i (by omega),am (h n (by omega))⟩
theorem bx{α:Type}[Inhabited α]{l:List α}{i:Nat}(hi:i<l.length):l.getD i io∈l:=by rw[Ye,Yi hi];exact YZ hi
structure jP (p:Prog):Prop where
 nodup:(p.aB.map Decl.name).Nodup
 len:p.aB.length<=64
 yh: ∀r∈p.rules,r.head.rel∈p.aB.map Decl.name
 lits: ∀r∈p.rules,∀l∈r.body,∀t∈named l,t∈p.aB.map Decl.name
 flat: ∀r∈p.rules,∀l∈r.body,l.kind=4-> ∀x∈l.au,x.kind≠4
theorem Dk(p:Prog): ∀n,jo p n=[]-> ∀i,i<n->dM p i=0
 |0,_,i,h=>absurd h (Z3 _)
 |n+1,h,i,hi=>by
  rw[jo]at h;obtain⟨d,b⟩:=aaY.1 h;rcases Zp.1 hi with h3|h3
  .exact Dk p n d i h3
  .subst h3;exact Decidable.byContradiction fun j=>by rw[be j]at b;cases b
theorem vK{d:Decl}{i k:Int}(h:sY d i k=0): ¬i>=64∧ ¬k>0:=by
 unfold sY at h;split at h
 .cases h
 .split at h
  .cases h
  .rename_i b;split at h
   .cases h
   .rename_i j;exact⟨fun g=>b (.inl g),j⟩
theorem xS{α:Type}[Inhabited α]: ∀(n:Nat) (l:List α),l.length=n->(∀i,i<l.length->l.getD i io∉l.take i)->l.Nodup
 |0,l,hn,_=>by rw[ZP.1 hn];exact Zd
 |n+1,l,hn,h=>by
  have hd:l=l.take n++ [l.getD n io]:=by rw[<-aK (by omega),Yn (by omega)]
  have d:=xS n (l.take n) (by rw[YV];omega) fun i u=>by
   rw[YV]at u;have:=h i (by omega);rw[List.take_take,Nat.min_eq_left (by omega),Ye,Zi,am (by omega),<-Ye];exact this
  rw[hd,Z2];refine⟨d,by simp,fun a j b hb e=>?_⟩;rw[Yr]at hb;subst e;subst hb;exact h n (by omega) j
theorem Di{s:aj}: ∀(l:List Decl) (m:DM),ej .str (l.foldl iw m) s=lc->s∈m.map YI∨s∈l.map Decl.name
 | [],m,h=> .inl (qu.1 h)
 |d::l,m,h=>by
  rw[YN]at h;rcases Di l _ h with h1|h1
  .unfold iw at h1;split at h1
   .exact .inl h1
   .rename_i b;rw[dX (fun g=>b (qu.2 g))]at h1;rcases Ys.1 h1 with h3|h3
    .exact .inl h3
    .rw[Yr]at h3;subst h3;exact .inr Yy
  .exact .inr (Yt _ h1)
theorem Qu{p:Prog}{a:Atom}(h:lZ p a=li):a.rel∈p.aB.map Decl.name:=by
 unfold lZ at h;rw[ZJ]at h;rcases Di p.aB [] h with h1|h1
 .cases h1
 .exact h1
theorem o5{r:aq}{e:Int}(he:e≠0){f:Int->Bool}{k:aT}(h:(bF r e f k).1=0):(∀lit∈ja r.body.length,f lit=li)∧k.1=0:=by
 unfold bF at h;split at h
 .exact absurd h he
 .rename_i b;refine⟨fun lit d=>?_,h⟩;have:=Zx.1 b lit d;simpa using this
theorem Fm{p:Prog}{r:aq}{n:Int}(h:(ua p r n).1=0):(xX p r).1=0:=by
 unfold ua at h;split at h
 .cases h
 .split at h
  .cases h
  .split at h
   .cases h
   .split at h
    .cases h
    .split at h
     .cases h
     .exact h
theorem PF(n:Nat):(-1:Int)∈ja n:=YP.2 ⟨0,by simp,by simp⟩
theorem Hb{n i:Nat}(h:i<n):(i:Int)∈ja n:=YP.2 ⟨i+1,by simp;omega,by simp⟩
theorem IN{l:Lit}{t:aj}(hf:l.kind=4-> ∀x∈l.au,x.kind≠4)(h:t∈named l): ∃a∈(if l.kind=4 then l.au else[l]).flatMap b5,a.rel=t:=by
 rw[xV l hf]at h;unfold BQ at h;split at h
 .rename_i u;rw[Yr]at h;have b: ¬l.kind=4:=by omega
  refine⟨l.atom,?_,h.symm⟩;rw[be b,ZZ];exact⟨l,aae _,by rw[b5,am u];exact aae _⟩
 .split at h
  .rename_i b;obtain⟨x,y,rfl⟩:=YP.1 h;obtain⟨d,j⟩:=YO.1 y;refine⟨x.atom,?_,rfl⟩;rw[am b,ZZ];exact⟨x,d,by rw[b5,am (zT j)];exact aae _⟩
  .cases h
theorem gx{p:Prog}(h:(bu p).1=0):jP p:=by
 have G:=(Gd p).1 h;unfold ke at G;obtain⟨B,C⟩:=aaY.1 G;have B:=Dk p _ B;have C:=(C9 p _).1 C;have j: ∀r∈p.rules,(xX p r).1=0:=by
  intro r u;obtain⟨i,b,rfl⟩:=ZA.1 u;have:=Fm (C i b);rwa[Ye,Yi b]at this
 have y: ∀r∈p.rules,∀lit∈ja r.body.length,∀a∈bs r lit,a.rel∈p.aB.map Decl.name:=by
  intro r u lit A a D;have:=(o5 (by decide) (j r u)).1 lit A;exact Qu (by simpa using Y5.1 this a D)
 have d: ∀r∈p.rules,∀l∈r.body,l.kind=4-> ∀x∈l.au,x.kind≠4:=by
  intro r u l A J x hx;obtain⟨i,b,rfl⟩:=ZA.1 A;have:=(o5 (by decide) (o5 (by decide) (o5 (by decide) (j r u)).2).2).1 _ (Hb b);have e:ah r (i:Int)=r.body[i]:=by unfold ah;simp[Ye,b]
  unfold dH at this;rw[be (by omega),e,am J,Y6]at this;simpa using Y5.1 this.1 x hx
 refine⟨xS _ _ Z fun i b I=>?_,?_,fun r u=>?_,fun r u l A t Y=>?_,d⟩
 .rw[YH]at b;have:=(vK (B i b)).2;rw[bR]at this;have F:tA (dP p i) (p.aB.getD i io).name=0:=by omega
  rw[rz]at F;apply F;unfold dP;rw[Ye,Yo,Yi b,<-abB]at I;rw[Ye,Yi b];exact I
 .refine aap fun S=>?_
  have:=(vK (B 64 S)).1;omega
 .exact y r u (-1) (PF _) r.head (by unfold bs;simp)
 .obtain⟨i,b,rfl⟩:=ZA.1 A;obtain⟨a,D,rfl⟩:=IN (d r u _ A) Y;refine y r u _ (Hb b) a ?_;have e:ah r (i:Int)=r.body[i]:=by unfold ah;simp[Ye,b]
  unfold bs o7;rw[be (by omega),e];exact D
theorem jP.aD{p:Prog}(h:jP p){x:aj×aj×Nat}(d:x∈aD p):x.1∈p.aB.map Decl.name∧x.2.1∈p.aB.map Decl.name∧0<x.2.2:=by
 simp only[_root_.Go.Proofs.YtflegjieadkonaaGreatDoor.aD,ZZ,YP]at d;obtain⟨r,b,l,j,t,u,rfl⟩:=d;refine⟨h.yh r b,h.lits r b l j t u,?_⟩;show 0<fZ l;unfold fZ;split<;>omega
abbrev GM:=List ((KC.str).K×Option NM)
def IC:Option NM->IV
 |none=> .v (.map kw)
 |some r=>tD r
abbrev ru(m:GM):IV:= .fF .str IC kw (.map kw) m
def Gk(row:NM)(t:aj)(b:Int):NM:=ck .str row t (max (bY .str row t 0) b)
def c5(hs:List (aj×aj×Nat))(a:aj):NM:=hs.foldl (fun row x=>if x.1=a then Gk row x.2.1 x.2.2 else row) []
def bE(p:Prog)(hs:List (aj×aj×Nat)):GM:=p.aB.map fun r=>(r.name,jp (c5 hs r.name))
def yk(p:Prog):IV:=if(bu p).1=0 then ru (bE p (aD p)) else .v (.map kw)
theorem od(hs:List (aj×aj×Nat))(x:aj×aj×Nat)(a:aj):c5 (hs++ [x]) a=if x.1=a then Gk (c5 hs a) x.2.1 x.2.2 else c5 hs a:=by
 simp[c5,Z7]
theorem GU(hs:List (aj×aj×Nat))(a b:aj):bY .str (c5 hs a) b 0=(gD hs a b:Int):=by
 induction hs using mu with
 |h0=>rfl
 |h1 hs x ih=>
  rw[od,Cb];by_cases h:x.1=a
  .rw[am h,Gk,iZ];by_cases d:x.2.1=b
   .rw[am d,am ⟨h,d⟩,d,ih];omega
   .rw[be d,be (fun g=>d g.2),ih]
  .rw[be h,be (fun g=>h g.1),ih]
theorem rh(hs:List (aj×aj×Nat))(a:aj):((c5 hs a).map YI).Nodup∧ ∀b:aj,b∈(c5 hs a).map YI↔ ∃k,(a,b,k)∈hs:=by
 induction hs using mu with
 |h0=>exact⟨Zd,fun b=>by simp[c5]⟩
 |h1 hs x ih=>
  obtain⟨A,d⟩:=ih;obtain⟨y,z,k⟩:=x;rw[od];by_cases h:y=a
  .rw[am h,Gk];by_cases B:z∈(c5 hs a).map YI
   .rw[pc B];refine⟨A,fun b=>?_⟩;rw[d];constructor
    .rintro⟨j,hj⟩;exact⟨j,YQ _ hj⟩
    .rintro⟨j,hj⟩;rcases Ys.1 hj with hj|hj
     .exact⟨j,hj⟩
     .rw[Yr]at hj;cases hj;exact(d z).1 B
   .rw[dX B];refine⟨Z2.2 ⟨A,by simp,fun u hu v C e=>?_⟩,fun b=>?_⟩
    .rw[Yr]at C;subst e;subst C;exact B hu
    .rw[Ys,d,Yr];constructor
     .rintro(⟨j,hj⟩|rfl)
      .exact⟨j,YQ _ hj⟩
      .exact⟨k,ZK _ (by rw[h];exact aae _)⟩
     .rintro⟨j,hj⟩;rcases Ys.1 hj with hj|hj
      .exact .inl ⟨j,hj⟩
      .rw[Yr]at hj;cases hj;exact .inr Z
  .rw[be h];refine⟨A,fun b=>?_⟩;rw[d];constructor
   .rintro⟨j,hj⟩;exact⟨j,YQ _ hj⟩
   .rintro⟨j,hj⟩;rcases Ys.1 hj with hj|hj
    .exact⟨j,hj⟩
    .rw[Yr]at hj;cases hj;exact absurd Z h
theorem Ky(hs:List (aj×aj×Nat))(a:aj):(c5 hs a).length<=hs.length:=by
 induction hs using mu with
 |h0=>exact Ym _
 |h1 hs x ih=>
  rw[od,Yg,YY];split
  .have:=xL (c5 hs a) x.2.1 (max (bY .str (c5 hs a) x.2.1 0) x.2.2);unfold Gk;omega
  .omega
def a8(p:Prog)(a:aj):List aj:=(ns p).filter (eg p a)
theorem nr{p:Prog}(h:jP p)(a:aj):eR ((c5 (aD p) a).map YI)=a8 p a:=by
 refine mr (fM (rh _ _).1) (List.Pairwise.filter _ (fM h.nodup)) fun b=>?_;rw[db,(rh _ _).2,a8,YO,ns,db,eg,decide_eq_true_eq];constructor
 .rintro⟨k,hk⟩;have d:=h.aD hk;refine⟨d.2.1,?_⟩;have:=R7 hk;have h2:0<k:=d.2.2;omega
 .rintro⟨_,d⟩;rcases HA (aD p) a b with h2|h2
  .exact absurd h2 d
  .exact⟨_,h2⟩
theorem LG(p:Prog)(hs:List (aj×aj×Nat)){a:aj}(h:a∈p.aB.map Decl.name):bY .str (bE p hs) a kw=jp (c5 hs a):=by
 unfold bE
 revert h
 generalize p.aB=l
 induction l with
 |nil=>intro h;cases h
 |cons d l ih=>
  intro h;simp only[Yz,bY];by_cases e:d.name=a
  .rw[am e,e]
  .rw[be e];rw[Yz,Yx]at h;exact ih (h.resolve_left fun g=>e g.symm)
theorem FZ(p:Prog)(hs:List (aj×aj×Nat)):(bE p hs).map YI=p.aB.map Decl.name:=by
 simp[bE]
theorem vR{b:List Lit}{i:Nat}(h:i<b.length):jt (b.take (i+1))=jt (b.take i)++named (b.getD i io):=by
 rw[qk,qk,aK h,aai];simp
mutual
theorem kD: ∀l:Lit,(named l).length<=l.size
 | .mk k a op le ri af av ao b at_=>by
  have:=td b;unfold named Lit.size;split
  .simp;omega
  .split
   .omega
   .simp
theorem td: ∀l:List Lit,(jt l).length<=Lit.aA l
 | []=>Ym _
 |l::r=>by
  have b:=kD l;have d:=td r;simp only[jt,Lit.aA,Yg];omega
end
theorem IM(b:List Lit)(i:Nat):(jt (b.take i)).length<=Lit.aA b:=by
 have d:=td (b.take i);have j: ∀(b:List Lit) (i:Nat),Lit.aA (b.take i)<=Lit.aA b:=by
  intro b
  induction b with
  |nil=>intro i;simp[Lit.aA]
  |cons x r ih=>
   intro i;cases i with
   |zero=>simp[Lit.aA]
   |succ i=>have:=ih i;simp only[ZF,Lit.aA];omega
 exact YR d (j b i)
def Uj(n:Nat):Prop:= ∀l:Lit,l.size<=n->Pure Tryz.prog 90 [ag l.c] (.iv (strs (named l)))
theorem ql(l:Lit):named l=if l.kind=1∨l.kind=2 then[l.atom.rel] else if l.kind=4 then jt l.au else[]:=by cases l;rfl
theorem Kp: ∀n:Nat,n<=100000000000->Uj n
 |0,_=>fun l h=>absurd l.size_pos (by omega)
 |n+1,hn=>fun l h=>by
  have B:=l.size_eq;refine Al.Pure.le (aa:=[ag l.c]) (args:=[ag l.c1]) ?_ ⟨l.x9,ac⟩;refine ad ab Tryz.func90 Z (by decide) Tryz.ntmps90 Z (by simp) Z ?_;refine zJ Z Z (fun k1=>?_) fun k1=>?_
  .have k1:l.kind=1:=by simpa using k1
   rw[ql,am (.inl k1)];refine gA Z (cG (by first|exact .inr Z|exact .inl Z) Z Z (rfl) (rfl))
  have k1: ¬l.kind=1:=by simpa using k1
  refine zJ Z Z (fun d=>?_) fun d=>?_
  .have d:l.kind=2:=by simpa using d
   rw[ql,am (.inr d)];refine gA Z (cG (by first|exact .inr Z|exact .inl Z) Z Z (rfl) (rfl))
  have d: ¬l.kind=2:=by simpa using d
  rw[ql,be (by rintro(g|g);exact k1 g;exact d g)];refine zE Z Z (fun j=>?_) fun j=>?_
  .have j: ¬l.kind=4:=by simpa using j
   rw[be j];refine gA Z (zL ?_);exact .nil _ _
  have j:l.kind=4:=by simpa using j
  rw[am j];refine gA Z ?_;refine dF 3 1 Z ?_;refine ar 0 l.au.length (Yl _) (fun i=>⟨[(3,.sl 2 0 (jt (l.au.take i)).length 1),(19,.iv (lits l.au)),(20,pI l.au.length),(21,pI i)],[(2,jp (aC 1 (jt (l.au.take i)) cR))],3⟩) (fun _=>True) [1] ac
   (zW (zS trivial)) fun i C _=>?_
  have x:=IM l.au i;have u:=Lit.ax l.au;refine zJ Z Z (fun b=>?_) fun b=>?_
  .have b:=ci b;have y:=Lit.aS l.au i b;have A:=kD (l.au.getD i io);refine gA Z (zp (Kp n (by omega) (l.au.getD i io) (by omega)) ?_);refine gA Z ⟨b,ac,[4],zM ⟨.row (by rw[vR b,Yg]),rfl,bv (bv (bv ac))⟩ (hR Z (by rw[oO,vR b,Yk]) Z ac)⟩
  .have b:=co b;rw[Yn b];refine gA Z (cG (by first|exact .inr Z|exact .inl Z) Z Z (rfl) (rfl))
theorem GJ(l:Lit)(h:l.size<=100000000000):Pure Tryz.prog 90 [ag l.c] (.iv (strs (named l))):=Kp l.size h l (Ym _)
end Go.Proofs.YtflegjieadkonaaGreatDoor
namespace Go.Proofs.YtflegjieadkonaaGreatDoor
open Go Go.Al Go.Proofs.Tryz
section
theorem Ke(x:fD)(el:Nat->List IV):Pure prog 91 [.iv (.dp 1 0 el)] (.bX []):=by
 refine⟨bN func91 Z (by decide),fun M N w u y d A=>?_⟩;obtain⟨v,rfl⟩: ∃v,u=[v]:=by
  cases u with
  |nil=>cases d
  |cons v r=>cases r with
   |nil=>exact⟨v,rfl⟩
   |cons a b=>simp at d
 have j:=A 0 _ Z;simp only[List.getD_cons_zero]at j;obtain⟨a,a0,rfl⟩: ∃a a0,v= .slice a 0 a0:=by
  cases j with
  |iv _ _ h=>cases h with
   |lz _ _ a a0=>exact⟨a,a0,rfl⟩
   |dp _ _ _ b off a0=>exact⟨_,a0,rfl⟩
 refine(x.2 a a0 w).mono ?_;rintro e B ⟨rfl,rfl⟩;exact⟨_,M,N,.bX [],_,_,rfl,⟨rfl,rfl,rfl⟩,.refl _ _ _ _ _,y,.bX [] #[] Z (by simp)⟩
section
variable {V:Type}
def Hk(m:List ((KC.str).K×V))(vs:List Nat):List aj:=ju (m.map fun x=>(x.1,0)) vs
theorem DV(m:List ((KC.str).K×V))(vs:List Nat)(j:Nat)(x:(KC.str).K×V)(h:m[j]? =jp x):Hk m (j::vs)=Hk m vs++ [x.1]:=
 nC _ _ _ (x.1,0) (by rw[Yo,h];rfl)
theorem Hj(m:List ((KC.str).K×V))(vs:List Nat)(hn:vs.Nodup)(hb: ∀j∈vs,j<m.length)(b: ∀j,j<m.length->j∈vs):(Hk m vs).Perm (m.map (·.1)):=by
 have:=mJ (m.map fun x=>(x.1,(0:Int))) vs hn (by simpa using hb) (by simpa using b);rw[Z4]at this;exact this
theorem Hi(m:List ((KC.str).K×V))(vs:List Nat):(Hk m vs).length<=vs.length:=yb _ _
end
def IA(i:Nat):List aj->PV
 | []=> .sl i 1 0 1
 |x::r=> .sl i 0 (x::r).length 1
def zb(n:Nat):List aj->AO
 | []=> .row 1 (ZW n [pS Yp])
 |x::r=>aC 1 (x::r) cR
theorem Ac(i:Nat)(l:List aj)(s:aj):IA i (l++ [s])= .sl i 0 (l.length+1) 1:=by cases l<;>simp[IA]
theorem Ad(n:Nat)(l:List aj)(s:aj):zb n (l++ [s])=aC 1 (l++ [s]) cR:=by cases l<;>rfl
theorem Dw{i:Nat}{l:List aj}(h:l≠ []):IA i l= .sl i 0 l.length 1:=by cases l with
 |nil=>exact absurd Z h
 |cons=>rfl
theorem Dx{n:Nat}{l:List aj}(h:l≠ []):zb n l=aC 1 l cR:=by cases l with
 |nil=>exact absurd Z h
 |cons=>rfl
theorem KV(n:Nat)(l:List aj)(k:Nat):(zb n l).low k:=by
 cases l with
 |nil=>
  intro j e b;rw[aad]at b;split at b
  .cases b;rfl
  .cases b
 |cons x r=>exact cH k
theorem KU(n:Nat)(l:List aj)(σ:Nat->Nat):(zb n l).c6 σ=zb n l:=by
 cases l with
 |nil=>simp only[zb,AO.c6];rw[List.map_replicate];rfl
 |cons x r=>exact bA σ
theorem hO{h r:AH}{σ:Nat->Nat}{i n m:Nat}{o:AO}{l:List aj}(ho:h.get (σ i)=jp o)(he:o=zb m l)(hi:YD i n=lc)(hr:qY n σ h r):qY n σ h ((i,jp (zb m l))::r):=
 ⟨⟨_,ho,.of_eq (by rw[KU,he])⟩,Yd hi,KV m l n,hr⟩
theorem uh(i:Nat)(l:List aj){n:Nat}(h:YD i n=lc):(IA i l).low n=lc:=by cases l<;>exact h
theorem Kl(S:fD)(m:NM)(hm:m.length<=100000000):Pure prog 52 [.iv (tD m)] (.iv (strs (eR (m.map (·.1))))):=by
 refine ad ab func52 Z (by decide) ntmps52 Z (by simp) Z ?_;rcases Nat.eq_zero_or_pos m.length with h0|h0
 .have h0:=ZP.1 h0;subst h0;refine gA Z (yl ab 1 (fun k=>cR (([]:List aj).getD k io)) Z Z Z Z Z Z Z Z Z Z ?_);refine gA Z ?_;refine ib ([]:List ((KC.str).K×Int)) (fun _=>⟨[(3,.iv (.dp 1 0 (fun k=>cR (([]:List aj).getD k io)))),(9,.ptr 1 0)],[(1,jp (.b3 .str yw ([]:List ((KC.str).K×Int)) [] kw))],2⟩) (fun _=>True) [] ac
   (zW (hI Z Z (.inl Z) Z trivial)) fun b _=>?_
  refine ox Z ac (eW Z Z Z Z Z (by decide) (fun _=>?_) fun j x B _=>?_)
  .refine gA Z (bn (Ke S _) Z Z Z Z Z Z ?_);refine gA Z (zL ?_);exact .of_eq (show _=PV.iv (strs (eR [])) by rw[re];rfl)
  .cases B
 refine gA Z (AE ab m.length 0 Z Z Z Z Z Z Z Z Z h0 (by omega) (by show 16*m.length<=_;omega) Z (by decide) Z (.inl ⟨rfl,rfl⟩) Z ?_);refine gA Z ?_;refine ib m (fun b=>⟨[(3,IA 2 (Hk m b)),(9,.ptr 1 0)],[(1,jp (.b3 .str yw m b kw)),(2,jp (zb m.length (Hk m b)))],3⟩) (fun b=>b.Nodup∧ ∀j∈b,j<m.length) [0] ⟨Zd,by simp⟩
  (zW (hI Z Z (.inl Z) Z (hO Z Z Z trivial))) fun b hJ=>?_
 obtain⟨u,y⟩:=hJ;have J:=xT u y;have D:=Hi m b;refine ox Z ac (eW Z Z Z Z Z (by decide) (fun C=>?_) fun j x B G=>?_)
 .have I:=Hj m b u y C;have F:Hk m b≠ []:=fun e=>by
   have:=I.length_eq;rw[e,YH]at this;simp at this;omega
  rw[Dw F,Dx F];refine ox Z ac (iO [2] (MD S (Hk m b) (by omega)) Z Z Z Z Z (congrArg (fun o=> [jp o]) (bA _).symm) Z Z ?_);refine ox Z ac (cG (.inr Z) Z Z ((xG _ _).trans (by rw[sN I])) ?_);rw[jE,<-I.length_eq]
 .have A:=DV m b j x B;have a0: ∀d,d=j::b->d.Nodup∧ ∀i∈d,i<m.length:=fun d e=>e▸⟨Zo.2 ⟨G,u⟩,fun i hi=>(Yx.1 hi).elim (fun h=>h▸(Yj.1 B).1) (y i)⟩
  cases hl:Hk m b with
  |nil=>
   rw[hl,aaj]at A;refine gA Z (Ca ab Z Z Z Z Z Z Z Z Z (by simp;omega) (by simp) (nf Z) Z ?_);refine gA Z ?_;exact⟨j,x,B,G,a0 _ Z,[4],zM ⟨.of_eq (by rw[A];rfl),uh 2 _ Z,.refl _,rfl,ac⟩ (hI Z Z (.inr Z) Z (hO Z (by rw[A];rfl) Z ac))⟩
  |cons a r=>
   rw[hl]at A D;have Y:(r.length+1)<=m.length:=by simpa using YR D J
   refine gA Z ⟨j,x,B,G,a0 _ Z,[4],zM ⟨.of_eq (by rw[A,Ac];rfl),uh 2 _ Z,.refl _,rfl,ac⟩ (hI Z Z (.inr Z) Z (hO Z (by rw[A,Ad,aC,Yk];rfl) Z ac))⟩
theorem Km(S:fD)(m:GM)(hm:m.length<=100000000):Pure prog 51 [.iv (ru m)] (.iv (strs (eR (m.map (·.1))))):=by
 refine ad ab func51 Z (by decide) ntmps51 Z (by simp) Z ?_;rcases Nat.eq_zero_or_pos m.length with h0|h0
 .have h0:=ZP.1 h0;subst h0;refine gA Z (yl ab 1 (fun k=>cR (([]:List aj).getD k io)) Z Z Z Z Z Z Z Z Z Z ?_);refine gA Z ?_;refine ib ([]:List ((KC.str).K×Option NM)) (fun _=>⟨[(3,.iv (.dp 1 0 (fun k=>cR (([]:List aj).getD k io)))),(9,.ptr 1 0)],[(1,jp (.b3 .str IC ([]:List ((KC.str).K×Option NM)) [] kw))],2⟩) (fun _=>True) [] ac
   (zW (hI Z Z (.inl Z) Z trivial)) fun b _=>?_
  refine ox Z ac (eW Z Z Z Z Z (by decide) (fun _=>?_) fun j x B _=>?_)
  .refine gA Z (bn (Ke S _) Z Z Z Z Z Z ?_);refine gA Z (zL ?_);exact .of_eq (show _=PV.iv (strs (eR [])) by rw[re];rfl)
  .cases B
 refine gA Z (AE ab m.length 0 Z Z Z Z Z Z Z Z Z h0 (by omega) (by show 16*m.length<=_;omega) Z (by decide) Z (.inl ⟨rfl,rfl⟩) Z ?_);refine gA Z ?_;refine ib m (fun b=>⟨[(3,IA 2 (Hk m b)),(9,.ptr 1 0)],[(1,jp (.b3 .str IC m b kw)),(2,jp (zb m.length (Hk m b)))],3⟩) (fun b=>b.Nodup∧ ∀j∈b,j<m.length) [0] ⟨Zd,by simp⟩
  (zW (hI Z Z (.inl Z) Z (hO Z Z Z trivial))) fun b hJ=>?_
 obtain⟨u,y⟩:=hJ;have J:=xT u y;have D:=Hi m b;refine ox Z ac (eW Z Z Z Z Z (by decide) (fun C=>?_) fun j x B G=>?_)
 .have I:=Hj m b u y C;have F:Hk m b≠ []:=fun e=>by
   have:=I.length_eq;rw[e,YH]at this;simp at this;omega
  rw[Dw F,Dx F];refine ox Z ac (iO [2] (MD S (Hk m b) (by omega)) Z Z Z Z Z (congrArg (fun o=> [jp o]) (bA _).symm) Z Z ?_);refine ox Z ac (cG (.inr Z) Z Z ((xG _ _).trans (by rw[sN I])) ?_);rw[jE,<-I.length_eq]
 .have A:=DV m b j x B;have a0: ∀d,d=j::b->d.Nodup∧ ∀i∈d,i<m.length:=fun d e=>e▸⟨Zo.2 ⟨G,u⟩,fun i hi=>(Yx.1 hi).elim (fun h=>h▸(Yj.1 B).1) (y i)⟩
  cases hl:Hk m b with
  |nil=>
   rw[hl,aaj]at A;refine gA Z (Ca ab Z Z Z Z Z Z Z Z Z (by simp;omega) (by simp) (nf Z) Z ?_);refine gA Z ?_;exact⟨j,x,B,G,a0 _ Z,[4],zM ⟨.of_eq (by rw[A];rfl),uh 2 _ Z,.refl _,rfl,ac⟩ (hI Z Z (.inr Z) Z (hO Z (by rw[A];rfl) Z ac))⟩
  |cons a r=>
   rw[hl]at A D;have Y:(r.length+1)<=m.length:=by simpa using YR D J
   refine gA Z ⟨j,x,B,G,a0 _ Z,[4],zM ⟨.of_eq (by rw[A,Ac];rfl),uh 2 _ Z,.refl _,rfl,ac⟩ (hI Z Z (.inr Z) Z (hO Z (by rw[A,Ad,aC,Yk];rfl) Z ac))⟩
theorem sS(b:fD):Pure prog 51 [.iv (.v (.map kw))] (.iv (strs [])):=by
 refine ad ab func51 Z (by decide) ntmps51 Z (by simp) Z ?_;refine gA Z (I5 ab Z Z Z Z Z Z ?_);refine gA Z (yl ab 1 (fun k=>cR (([]:List aj).getD k io)) Z Z Z Z Z Z Z Z Z Z ?_);refine gA Z (I4 ab Z Z Z Z Z Z ?_);refine gA Z ?_;refine ib ([]:List ((KC.str).K×Int)) (fun _=>⟨[(3,.iv (.dp 1 0 (fun k=>cR (([]:List aj).getD k io)))),(9,.ptr 1 0)],[(1,jp (.b3 .str iI ([]:List ((KC.str).K×Int)) [] kw))],2⟩) (fun _=>True) [] ac
  (zW (hI Z Z (.inl Z) Z trivial)) fun u _=>?_
 refine ox Z ac (eW Z Z Z Z Z (by decide) (fun _=>?_) fun j x d _=>?_)
 .refine gA Z (bn (Ke b _) Z Z Z Z Z Z ?_);refine gA Z (zL ?_);exact .of_eq Z
 .cases d
end
end Go.Proofs.YtflegjieadkonaaGreatDoor
namespace Go.Proofs.YtflegjieadkonaaGreatDoor
open Go Go.Al
def WQ(b:Option Nat):IV:= .v (.map b)
def dvR(p:PV):Option Nat:=match p with
 | .iv (.v (.map b))=>b
 |_=>kw
abbrev RM:=List ((KC.str).K×Option Nat)
abbrev gO(m:RM):AO:= .map .str WQ kw (.map kw) dvR m
abbrev Cx:=Nat×Nat
def mA(l:List Decl)(B:List Cx):RM:=abk (fun d b=>(d.name,jp b.1)) l B
def fb(L:List (Nat×Nat×NM)):bc:=fun b=>(L.find? fun y=>y.1==b).map fun y=> .obj (dd y.2.2) y.2.1
theorem jS(L:List (Nat×Nat×NM)):(fb L).still:=by
 intro b i e h;unfold fb at h;cases hf:L.find? fun y=>y.1==b<;>rw[hf]at h<;>cases h
def rowsOf(l:List Decl)(B:List Cx)(hs:List (aj×aj×Nat)):List (Nat×Nat×NM):=abk (fun d b=>(b.1,b.2,c5 hs d.name)) l B
theorem IP{V:Type}{kc:KC}{ev:V->IV}{z:V}{b:Value}{d:PV->V}(x: ∀M,IR M (ev z) b):gi .gn (.map kc ev z b d []):=
 ⟨id,fun M N U w j u=>⟨#[],0,u,⟨rfl,by simp,by simp,by simp,by simp⟩,x M⟩⟩
structure BOK (l:List Decl) (i:Nat) (B:List Cx):Prop where
 len:B.length=i
 nd:(B.map YI).Nodup
theorem Dn(l:List Decl):mA l []=[]:=by cases l<;>rfl
theorem xH(l:List Decl)(hs:List (aj×aj×Nat)):rowsOf l [] hs=[]:=by cases l<;>rfl
theorem Fg(l:List Decl)(hs:List (aj×aj×Nat)):fb (rowsOf l [] hs)=bc.nil:=by rw[xH];rfl
theorem xk{α β γ:Type}[Inhabited α](f:α->β->γ): ∀(l:List α) (B:List β) (x:β),B.length<l.length->abk f l (B++ [x])=abk f l B++ [f (l.getD B.length io) x]
 |a::l,[],x,_=>by simp
 |a::l,b::B,x,h=>by
  have:=xk f l B x (by simpa using h);simp[this]
 | [],B,x,h=>absurd h (Z3 _)
theorem Pv{B:List Cx}{b e:Nat}(h:(B.map YI).Nodup)(hb:b∉B.map YI):((B++ [(b,e)]).map YI).Nodup:=by
 rw[Yk,Z2];exact⟨h,by simp,fun u hu v d g=>hb (by simp at d;subst g;subst d;exact hu)⟩
theorem pZ(hs:List (aj×aj×Nat)): ∀(l:List Decl) (B:List Cx),B.length<=l.length->(rowsOf l B hs).map YI=B.map YI
 |_,[],_=>by simp[xH]
 |d::l,b::B,h=>by
  have:=pZ hs l B (by simpa using h);simp only[rowsOf,abl,Yz]at this ⊢;rw[this]
 | [],b::B,h=>absurd h (by simp)
theorem Io{l:List Decl}{B:List Cx}{hs:List (aj×aj×Nat)}{b:Nat}(d:B.length<=l.length)(h:fb (rowsOf l B hs) b=kw):b∉B.map YI:=by
 rw[<-pZ hs l B d];intro j;obtain⟨y,u,rfl⟩:=YP.1 j;unfold fb at h;rw[aax,Zx]at h;exact h y u (by simp)
theorem C5(L:List (Nat×Nat×NM))(y:Nat×Nat×NM)(h:y.1∉L.map YI):fb (L++ [y])=(fb L).put y.1 (.obj (dd y.2.2) y.2.1):=by
 funext c
 unfold fb bc.put;rw[aaZ];by_cases b:c=y.1
 .subst b;rw[am Z];have:L.find? (fun z=>z.1==y.1)=kw:=Zx.2 fun z d=>by
   simp only[beq_iff_eq];exact fun e=>h (e▸Zs d)
  rw[this];simp
 .rw[be b];have: ¬y.1=c:=fun e=>b e.symm;cases hf:L.find? (fun z=>z.1==c)<;>simp[this,hf]
theorem Im{l:List Decl}{B:List Cx}{b e:Nat}(d:B.length<l.length)(hb:b∉B.map YI):fb (rowsOf l (B++ [(b,e)]) [])=(fb (rowsOf l B [])).put b (.obj (dd []) e):=by
 have h:rowsOf l (B++ [(b,e)]) []=rowsOf l B []++ [(b,e,[])]:=xk _ l B (b,e) d;rw[h];exact C5 _ _ (by rw[pZ _ _ _ (Nat.le_of_lt d)];exact hb)
theorem Dm: ∀(l:List Decl) (B:List Cx),B.length<=l.length->(mA l B).map YI=(l.take B.length).map Decl.name
 |_,[],_=>by simp[Dn]
 |d::l,b::B,h=>by
  have:=Dm l B (by simpa using h);simp only[mA,abl,Yz,YT,ZF]at this ⊢;rw[this]
 | [],b::B,h=>absurd h (by simp)
theorem Pg{V:Type}{m:List ((KC.str).K×V)}{s:aj}{v:V}(h:s∉m.map YI):ck .str m s v=m++ [(s,v)]:=by
 induction m with
 |nil=>rfl
 |cons x r ih=>
  obtain⟨a,c⟩:=x;simp only[Yz,Yx,not_or]at h;have: ¬a=s:=fun e=>h.1 e.symm;simp only[ck,be this,ih h.2];rfl
theorem KN{l:List Decl}{B:List Cx}{i b e:Nat}(hn:(l.map Decl.name).Nodup)(hi:B.length=i)(d:i<l.length):ck .str (mA l B) (l.getD i io).name (jp b)=mA l (B++ [(b,e)]):=by
 subst hi;have h:mA l (B++ [(b,e)])=mA l B++ [((l.getD B.length io).name,jp b)]:=xk _ l B (b,e) d;rw[h];apply Pg;rw[Dm l B (Nat.le_of_lt d)];intro u;have j:l.map Decl.name=(l.take B.length).map Decl.name++(l.drop B.length).map Decl.name:=by rw[<-Yk,List.take_append_drop]
 rw[j,Z2]at hn;refine hn.2.2 _ u _ (YP.2 ⟨l.getD B.length io,?_,rfl⟩) Z;rw[Ye,Yi d];exact List.mem_drop_iff_getElem.2 ⟨0,by simpa using d,by simp⟩
def mO(r:aq)(l:Lit):List (aj×aj×Nat):=(named l).map fun t=>(r.head.rel,t,fZ l)
def uq(r:aq):List (aj×aj×Nat):=r.body.flatMap (mO r)
theorem HD: ∀{L:List (Nat×Nat×NM)} {j:Nat} {y:Nat×Nat×NM},(L.map YI).Nodup->L[j]? =jp y->L.find? (fun z=>z.1==y.1)=jp y
 | [],_,_,_,h=>by simp at h
 |x::L,0,y,_,h=>by
  simp only[aaV,Yh]at h;subst h;simp
 |x::L,j+1,y,hn,h=>by
  rw[aau]at h;rw[Yz,Zo]at hn;have b: ¬x.1=y.1:=fun e=>hn.1 (e▸Zs (YL h));rw[abm (by simpa using b)];exact HD hn.2 h
theorem tT{l:List Decl}{B:List Cx}{hs:List (aj×aj×Nat)}{j:Nat}{d:Decl}{b:Cx}(x:B.length=l.length)(hn:(B.map YI).Nodup)(hd:l[j]? =jp d)(hb:B[j]? =jp b):fb (rowsOf l B hs) b.1=jp (.obj (dd (c5 hs d.name)) b.2):=by
 have h:(rowsOf l B hs)[j]? =jp (b.1,b.2,c5 hs d.name):=by
  unfold rowsOf;rw[abt,hd,hb]
 have u:=HD (by rw[pZ hs l B (abF x)];exact hn) h;unfold fb;rw[u];rfl
theorem C4{l:List Decl}{B:List Cx}{hs:List (aj×aj×Nat)}{c:Nat}(b:B.length<=l.length)(h:c∉B.map YI):fb (rowsOf l B hs) c=kw:=by
 rw[<-pZ hs l B b]at h;unfold fb;rw[aax,Zx];intro y d;simp only[beq_iff_eq];exact fun e=>h (e▸Zs d)
theorem Il{l:List Decl}{B:List Cx}{hs:List (aj×aj×Nat)}{j h:Nat}{d:Decl}{b:Cx}{t:aj}(x:B.length=l.length)(hn:(B.map YI).Nodup)(J:(l.map Decl.name).Nodup)(hd:l[j]? =jp d)(hb:B[j]? =jp b):
  (fb (rowsOf l B hs)).put b.1 (.obj (dd (Gk (c5 hs d.name) t h)) b.2)=fb (rowsOf l B (hs++ [(d.name,t,h)])):=by
 funext c
 unfold bc.put;by_cases A:c=b.1
 .subst A;rw[am Z,tT x hn hd hb,od,am Z]
 .rw[be A];by_cases I:c∈B.map YI
  .obtain⟨Y,y,rfl⟩:=YP.1 I;obtain⟨i,C,rfl⟩:=ZA.1 y;have u:i<l.length:=by omega
   have D:i≠j:=fun e=>A (by subst e;rw[Yi C]at hb;cases hb;rfl);rw[tT x hn (Yi u) (Yi C),tT x hn (Yi u) (Yi C),od,be];intro e;have S:=(Yj.1 hd)
   obtain⟨F,G⟩:=S;apply D;refine(aaM J (h₀:=by simpa using u) (h₁:=by simpa using F)).1 ?_;rw[aa1,aa1,G];exact e.symm
  .rw[C4 (abF x) I,C4 (abF x) I]
theorem Ti{l:List Decl}{B:List Cx}{a:aj}(x:B.length=l.length)(u:(l.map Decl.name).Nodup)(ha:a∈l.map Decl.name): ∃(j:Nat) (d:Decl) (b:Cx),l[j]? =jp d∧B[j]? =jp b∧d.name=a∧bY .str (mA l B) a kw=jp b.1:=by
 induction l generalizing B with
 |nil=>cases ha
 |cons d l ih=>
  cases B with
  |nil=>cases x
  |cons b B=>
   by_cases h:d.name=a
   .exact⟨0,d,b,rfl,rfl,h,by simp[mA,bY,h]⟩
   .rw[Yz,Zo]at u;rw[Yz,Yx]at ha;obtain⟨j,A,y,C,D,F,G⟩:=ih (by simpa using x) u.2 (ha.resolve_left fun e=>h e.symm);exact⟨j+1,A,y,C,D,F,by simpa[mA,bY,h]using G⟩
def dvG(_:PV):Option NM:=kw
theorem JM{p:Prog}{B:List Cx}(u:B.length=p.aB.length)(hn:(B.map YI).Nodup){hs:List (aj×aj×Nat)}:Nb (fb (rowsOf p.aB B hs)) (gO (mA p.aB B)) (.map .str IC kw (.map kw) dvG (bE p hs)):=by
 refine .map _ _ _ _ _ _ _ _ _ _ (by simp[bE,mA,u]) (fun j C x=>?_) fun M=> .v _
 obtain⟨d,hd,rfl⟩: ∃d,p.aB[j]? =jp d∧C=(d.name,jp (c5 hs d.name)):=by
  unfold bE at x;rw[Yo,Yq]at x;obtain⟨d,y,A⟩:=x;exact⟨d,y,A.symm⟩
 have b:j<B.length:=by rw[u];exact(Yj.1 hd).1
 refine⟨(d.name,jp B[j].1),.map (jp B[j].1),?_,rfl,rfl,?_⟩
 .unfold mA;rw[abt,hd,Yi b]
 .refine .map B[j].1 B[j].2 .str yw 0 (.int .i64 0) WD (c5 hs d.name) ?_;exact tT u hn hd (Yi b)
theorem Ko(hS:fD)(p:Prog)(hb:p.fit):Pure Tryz.prog 50 [ag p.c] (.bX [.iv (yk p),pB (lw ((bu p).1=0))]):=by
 refine ad ab Tryz.func50 Z (by decide) Tryz.ntmps50 Z (by simp) Z ?_;refine gA Z (zp (c24 p hb) ?_);refine zJ Z Z (fun k1=>?_) fun k1=>?_
 .have k1: ¬(bu p).1=0:=by simpa using k1
  rw[yk,be k1,decide_eq_false k1];exact zU Z
 have k1:(bu p).1=0:=by simpa using k1
 have hf:=gx k1;have v0:=hf.len;rw[yk,am k1,decide_eq_true k1];refine gM 1 Z ?_;refine Hq ?_;refine aH (b7 ?_);refine gA Z ?_;refine aH (aH (gp ⟨[(1,.ptr 0 0),(4,.mp 2),(20,.iv (cT 4 p.aB Decl.c)),(21,pI p.aB.length),(22,pI 0)],[(0,jp (ak p.c)),(2,jp (gO []))],3⟩ ?_ ?_))
 .refine gA Z (j6 [1] ?_);exact zW (zK (LD Z (fun _=> .v _) Z ac))
 refine bV (kI 0 p.aB.length (Yl _) (fun i (x:ULift.{1} (List Cx))=>⟨[(1,.ptr 0 0),(4,.mp 2),(20,.iv (cT 4 p.aB Decl.c)),(21,pI p.aB.length),(22,pI i)],[(0,jp (ak p.c)),(2,jp (gO (mA p.aB x.down)))],3⟩)
  (fun i x Y=>BOK p.aB i x.down∧Y=fb (rowsOf p.aB x.down [])) ⟨[]⟩ [] ⟨⟨rfl,Zd⟩,(Fg p.aB []).symm⟩
  (zW (zK (hM Z (Dn p.aB).symm Z ac))) (fun _ _ _ h=>h.2▸jS _) fun i x Y hi hJ=>?_)
 obtain⟨hB,rfl⟩:=hJ;obtain⟨B⟩:=x;refine aH (b7 ?_);refine gA Z ?_;refine aH (eV Z (fun u=>fo ?_) (fun u=>iE ?_))
 .have u:=ci u;refine aH (bV (aH (b7 ?_)));refine gA Z ?_;refine iD (bC 4 ?_);refine gA Z ?_;refine eK (xy (i:=4) (o':=dd []) Z (IP ig)) fun t Y D=>?_;obtain⟨rfl,rfl⟩:=D;refine eK (Ic (i:=4) (d:=29) (jS _) Z Z ac Z) fun t Y D=>?_;obtain⟨b,e,o0,rfl,rfl⟩:=D;refine bC 1 ?_;refine gA Z ?_;refine ff (lA (b7 ?_));refine gA Z ?_;have a0:=Io (by rw[hB.len];exact hi) o0;exact⟨u,⟨B++ [(b,e)]⟩,[],⟨⟨by rw[Yg,hB.len];rfl,Pv hB.nd a0⟩,(Im (by rw[hB.len];exact u) a0).symm⟩,zW (zK (hM Z (KN hf.nodup hB.len u) Z ac))⟩
 have u:=co u;have I:B.length=p.aB.length:=by have:B.length=i:=hB.len;omega
 have c0:=hB.nd;clear hB;have x0:p.rules.length<=1000000000:=hb.2.1
 let G:Nat->List (aj×aj×Nat):=fun r=>(p.rules.take r).flatMap uq
 change GX _ _ [.code _] _ _ _;refine aH (aH (gp ⟨[(1,.ptr 0 0),(4,.mp 2),(32,.iv (cT 5 p.rules aq.c)),(33,pI p.rules.length),(34,pI 0)],[(0,jp (ak p.c)),(2,jp (gO (mA p.aB B)))],3⟩ ?_ ?_))
 .refine gA Z (j6 [] ?_);exact zW (zK (zC ac))
 refine bV (kI 0 p.rules.length (Yl _) (fun i (_:PUnit.{2})=>⟨[(1,.ptr 0 0),(4,.mp 2),(32,.iv (cT 5 p.rules aq.c)),(33,pI p.rules.length),(34,pI i)],[(0,jp (ak p.c)),(2,jp (gO (mA p.aB B)))],3⟩)
  (fun i _ Y=>Y=fb (rowsOf p.aB B (G i))) ⟨⟩ [] Z (zW (zK (zC ac))) (fun _ _ _ h=>h▸jS _) fun n _ Y hn hJ=>?_)
 subst hJ;refine aH (b7 ?_);refine gA Z ?_;refine aH (eV Z (fun u=>fo ?_) (fun u=>iE ?_));rotate_left
 .have u:=co u;have k0:G n=aD p:=by show((p.rules.take n).flatMap uq)=_;rw[Yn u];rfl
  rw[k0];change GX _ _ [.code _] _ _ _;refine D9 (Bt (i:=2) (o':= .map .str IC kw (.map kw) dvG (bE p (aD p))) Z (JM I c0)) fun t Y D=>?_;obtain⟨rfl,rfl⟩:=D;refine b7 ?_;refine gA Z (kf (.inr Z) Z (iR.map 2 Z (.done (.refl _))))
 have u:=ci u;have hR:p.rules.getD n io∈p.rules:=bx u;have f0:G (n+1)=G n++uq (p.rules.getD n io):=by show((p.rules.take (n+1)).flatMap uq)=_;rw[aK u,aai];simp;rfl
 have b0:=hb.2.2 _ hR;have C:=b0.1;have y:=hf.yh _ hR;have A:=hf.lits _ hR;generalize m0:p.rules.getD n io=R at hR f0 b0 C y A;refine aH (bV (aH (b7 ?_)));refine gA Z ?_;refine aH (gp ⟨[(1,.ptr 0 0),(4,.mp 2),(8,.ptr 3 0),(32,.iv (cT 5 p.rules aq.c)),(33,pI p.rules.length),(34,pI n),(39,.iv (lits R.body)),(40,pI R.body.length),(41,pI 0)],[(0,jp (ak p.c)),(2,jp (gO (mA p.aB B))),(3,jp (ak R.c))],4⟩ ?_ ?_)
 .refine gA Z (j6 [] ?_);subst m0;exact zW (zK (zC (zK ac)))
 have s0:R.body.length<=10000000:=by have:=Lit.ax R.body;unfold aq.size at C;omega
 refine bV (kI 0 R.body.length (Yl _) (fun i (_:PUnit.{2})=>⟨[(1,.ptr 0 0),(4,.mp 2),(8,.ptr 3 0),(32,.iv (cT 5 p.rules aq.c)),(33,pI p.rules.length),(34,pI n),(39,.iv (lits R.body)),(40,pI R.body.length),(41,pI i)],[(0,jp (ak p.c)),(2,jp (gO (mA p.aB B))),(3,jp (ak R.c))],4⟩)
  (fun i _ Y=>Y=fb (rowsOf p.aB B (G n++(R.body.take i).flatMap (mO R)))) ⟨⟩ [] (by simp) (zW (zK (zC (zK ac)))) (fun _ _ _ h=>h▸jS _) fun i _ Y t0 hJ=>?_)
 subst hJ;refine aH (b7 ?_);refine gA Z ?_;refine aH (eV Z (fun F=>fo ?_) (fun F=>iE ?_));rotate_left
 .have F:=co F;rw[Yn F,show G n++R.body.flatMap (mO R)=G (n+1) from f0.symm];change GX _ _ (.code _::_) _ _ _;refine b7 ?_;refine gA Z ⟨u,⟨⟩,[],rfl,zW (zK (zC ac))⟩
 have F:=ci F;have hl:R.body.getD i io∈R.body:=bx F;have g0:(R.body.take (i+1)).flatMap (mO R)=(R.body.take i).flatMap (mO R)++mO R (R.body.getD i io):=by rw[aK F,aai];simp
 have e0:(R.body.getD i io).size<=10000000:=by have:=Lit.aS R.body i F;unfold aq.size at C;omega
 have d0:=A _ hl;generalize q0:R.body.getD i io=l at hl g0 e0 d0;refine aH (bV (aH (b7 ?_)));refine gA Z ?_;refine aH (gp ⟨[(1,.ptr 0 0),(4,.mp 2),(8,.ptr 3 0),(10,.ptr 4 0),(32,.iv (cT 5 p.rules aq.c)),(33,pI p.rules.length),(34,pI n),(39,.iv (lits R.body)),(40,pI R.body.length),(41,pI i),(46,.iv (strs (named l))),(47,pI (named l).length),(48,pI 0)],[(0,jp (ak p.c)),(2,jp (gO (mA p.aB B))),(3,jp (ak R.c)),(4,jp (ak l.c))],5⟩ ?_ ?_)
 .subst q0;refine gA Z (zp (GJ (R.body.getD i io) (by omega)) ?_);refine gA Z (j6 [] ?_);exact zW (zK (zC (zK (zK ac))))
 have w0:=kD l
 refine bV (kI 0 (named l).length (Yl _) (fun k (_:PUnit.{2})=>⟨[(1,.ptr 0 0),(4,.mp 2),(8,.ptr 3 0),(10,.ptr 4 0),(32,.iv (cT 5 p.rules aq.c)),(33,pI p.rules.length),(34,pI n),(39,.iv (lits R.body)),(40,pI R.body.length),(41,pI i),(46,.iv (strs (named l))),(47,pI (named l).length),(48,pI k)],[(0,jp (ak p.c)),(2,jp (gO (mA p.aB B))),(3,jp (ak R.c)),(4,jp (ak l.c))],5⟩)
  (fun k _ Y=>Y=fb (rowsOf p.aB B ((G n++(R.body.take i).flatMap (mO R))++((named l).take k).map fun t=>(R.head.rel,t,fZ l)))) ⟨⟩ [] (by simp) (zW (zK (zC (zK (zK ac))))) (fun _ _ _ h=>h▸jS _) fun k _ Y hk hJ=>?_)
 subst hJ;refine aH (b7 ?_);refine gA Z ?_;refine aH (eV Z (fun S=>fo ?_) (fun S=>iE ?_));rotate_left
 .have S:=co S;have eX:(G n++(R.body.take i).flatMap (mO R))++(named l).map (fun t=>(R.head.rel,t,fZ l))=G n++(R.body.take (i+1)).flatMap (mO R):=by rw[Yu,g0];rfl
  rw[Yn S,eX];change GX _ _ (.code _::_) _ _ _;refine b7 ?_;refine gA Z ⟨F,⟨⟩,[],rfl,zW (zK (zC (zK ac)))⟩
 have S:=ci S;obtain⟨j,d,b,hd,i0,p0,j0⟩:=Ti I hf.nodup y;have hX:=tT (hs:=(G n++(R.body.take i).flatMap (mO R))++((named l).take k).map fun t=>(R.head.rel,t,fZ l)) I c0 hd i0;have J:=Il (hs:=(G n++(R.body.take i).flatMap (mO R))++((named l).take k).map fun t=>(R.head.rel,t,fZ l)) (t:=(named l).getD k io) (h:=fZ l) I c0 hf.nodup hd i0;rw[p0]at hX J;have r0:((G n++(R.body.take i).flatMap (mO R))++((named l).take k).map fun t=>(R.head.rel,t,fZ l))++ [(R.head.rel,(named l).getD k io,fZ l)]=(G n++(R.body.take i).flatMap (mO R))++((named l).take (k+1)).map fun t=>(R.head.rel,t,fZ l):=by
  rw[aK S,Yk,Yu];rfl
 rw[r0]at J;generalize(G n++(R.body.take i).flatMap (mO R))++((named l).take k).map (fun t=>(R.head.rel,t,fZ l))=hs at hX J;refine aH (bV (aH (b7 ?_)));refine gA Z ?_;refine aH (b7 ?_);refine gA Z ?_;refine aH (gp ⟨[(1,.ptr 0 0),(4,.mp 2),(8,.ptr 3 0),(10,.ptr 4 0),(32,.iv (cT 5 p.rules aq.c)),(33,pI p.rules.length),(34,pI n),(39,.iv (lits R.body)),(40,pI R.body.length),(41,pI i),(46,.iv (strs (named l))),(47,pI (named l).length),(48,pI k),(12,pS ((named l).getD k io)),(13,pI (fZ l))],[(0,jp (ak p.c)),(2,jp (gO (mA p.aB B))),(3,jp (ak R.c)),(4,jp (ak l.c))],5⟩ ?_ ?_)
 .refine zJ Z Z (fun h4=>?_) fun h4=>?_
  .have h4:l.kind=1:=zT h4;refine gA Z (j6 [] ?_);exact zM (bv (bv (bv (bv (bv (bv (bv (bv (bv (bv (bv (bv (bv (bv ⟨.of_eq (by rw[fZ,am h4];rfl),rfl,ac⟩)))))))))))))) (zK (zC (zK (zK ac))))
  .have h4: ¬l.kind=1:=zF h4;refine gA Z (j6 [] ?_);exact zM (bv (bv (bv (bv (bv (bv (bv (bv (bv (bv (bv (bv (bv (bv ⟨.of_eq (by rw[fZ,be h4];rfl),rfl,ac⟩)))))))))))))) (zK (zC (zK (zK ac))))
 refine iD (bC 12 ?_);refine gA Z ?_;refine eK (Ib (d:=65) hX (show PV.iv (.v (.map (bY .str (mA p.aB B) R.head.rel kw)))=_ by rw[j0])) fun t Y D=>?_;obtain⟨rfl,rfl⟩:=D;refine eK (J4 (b:=b.1) (j:=5) (e:=b.2) (d:=59) (p:= .mp 5) (bc.dB _ _ _) fun M N U x hu n0 _ hv=>?_) fun t Y D=>?_
 .have hv:VR M N U (PV.iv (.v (.map (bY .str (mA p.aB B) R.head.rel kw)))) x:=hv;rw[j0]at hv;cases hv with
  |iv _ _ hi=>cases hi with
   |v=>rw[<-n0];exact .mp 5 hu
 obtain⟨rfl,rfl⟩:=D;refine bC 4 ?_;refine gA Z ?_;refine ff (lA (D9 (xz (b:=b.1) (e:=b.2) (i:=5) (o:=dd (Gk (c5 hs R.head.rel) ((named l).getD k io) (fZ l))) (bc.dB _ _ _) Z Z ac) fun t Y D=>?_));obtain⟨rfl,rfl⟩:=D;rw[bc.G3];refine b7 ?_;refine gA Z ⟨S,⟨⟩,[],J,zW (zK (zC (zK (zK ac))))⟩
end Go.Proofs.YtflegjieadkonaaGreatDoor
namespace Go.Proofs.YtflegjieadkonaaGreatDoor
open Go Go.Al Go.Proofs.Tryz Go.Tj
def sK(e:Option aj)(i:Nat)(l:List aj):PV:=match e,l with
 |some _,[]=> .sl i 1 0 1
 |_,l=> .sl i 0 l.length 1
def sL(e:Option aj)(l:List aj):AO:=match e,l with
 |some y,[]=> .row 1 [[pS y]]
 |_,l=>aC 1 l cR
theorem nY(σ:Nat->Nat)(e:Option aj)(i:Nat)(l:List aj):(sK e i l).c6 σ=sK e (σ i) l:=by cases e<;>cases l<;>rfl
theorem nZ(σ:Nat->Nat)(e:Option aj)(l:List aj):(sL e l).c6 σ=sL e l:=by
 cases e<;>cases l<;>first|rfl|exact bA σ
theorem CW{n i:Nat}(h:YD i n=lc)(e:Option aj)(l:List aj):(sK e i l).low n=lc:=by cases e<;>cases l<;>exact h
theorem CZ(n:Nat)(e:Option aj)(l:List aj):(sL e l).low n:=by
 cases e with
 |none=>exact cH n
 |some y=>
  cases l with
  |nil=>
   intro k e b;cases k with
   |zero=>cases b;rfl
   |succ k=>cases b
  |cons=>exact cH n
theorem CV{e:Option aj}{i:Nat}{l:List aj}(h:e=kw∨l≠ []):sK e i l= .sl i 0 l.length 1:=by
 cases e with
 |none=>rfl
 |some y=>cases l with
  |nil=>exact absurd Z (h.resolve_left (by simp))
  |cons=>rfl
theorem CX{e:Option aj}{l:List aj}(h:e=kw∨l≠ []):sL e l=aC 1 l cR:=by
 cases e with
 |none=>rfl
 |some y=>cases l with
  |nil=>exact absurd Z (h.resolve_left (by simp))
  |cons=>rfl
structure TW where
 low:NM
 on:NM
 ring:NM
 stack:List aj
 wG:Option aj
def TW.st(w:TW):St aj:=⟨fun a=>bY .str w.low a 0,fun a=>bY .str w.on a 0,fun a=>bY .str w.ring a 0,w.low.length,w.stack⟩
structure TW.Ok (V:List aj) (w:TW):Prop where
 nz: ∀a∈w.low.map YI,bY .str w.low a 0≠0
 nd:(w.low.map YI).Nodup
 sub: ∀a∈w.low.map YI,a∈V
abbrev CD:PV:= .dx (.func 92) [] [.ptr 0 0,.ptr 1 0,.ptr 2 0,.ptr 3 0,.ptr 4 0,.ptr 5 0]
abbrev tO(G:IV)(w:TW):List AO:=[.cells [.mp 6],.cells [.mp 7],.cells [sK w.wG 9 w.stack],.cells [.iv G],.cells [CD],.cells [.mp 8],dd w.low,dd w.on,dd w.ring,sL w.wG w.stack]
abbrev tH(G:IV)(w:TW)(k:Nat):AH:=[(0,jp (.cells [.mp 6])),(1,jp (.cells [.mp 7])),(2,jp (.cells [sK w.wG k w.stack])),(3,jp (.cells [.iv G])),(4,jp (.cells [CD])),(5,jp (.cells [.mp 8])),
 (6,jp (dd w.low)),(7,jp (dd w.on)),(8,jp (dd w.ring)),(k,jp (sL w.wG w.stack))]
theorem xo{n k:Nat}{σ:Nat->Nat}{h:AH}{G:IV}{w:TW}{B:PV}{x y A:NM}{o:AO}(b:aaf 9 n=lc)(bk:YD k n=lc)(hs: ∀i,i<9->σ i=i)
  (g0:h.get 0=jp (.cells [.mp 6])) (g1:h.get 1=jp (.cells [.mp 7])) (g2:h.get 2=jp (.cells [B])) (g3:h.get 3=jp (.cells [.iv G])) (g4:h.get 4=jp (.cells [CD])) (g5:h.get 5=jp (.cells [.mp 8]))
  (g6:h.get 6=jp (dd x)) (g7:h.get 7=jp (dd y)) (g8:h.get 8=jp (dd A)) (g9:h.get (σ k)=jp o)
  (e2:B=sK w.wG (σ k) w.stack) (C:x=w.low) (D:y=w.on) (F:A=w.ring) (I:gi o (sL w.wG w.stack)):qY n σ h (tH G w k):=by
 have J:=Yd b;have bk:=Yd bk;have hb: ∀i,i<9->YD i n=lc:=fun i d=>YX (by omega);subst e2 C D F;have r: ∀i,i<9->PV.mp (σ i)=PV.mp i:=fun i d=>by rw[hs i d]
 have j: ∀i,i<9->PV.ptr (σ i) 0=PV.ptr i 0:=fun i d=>by rw[hs i d]
 have u: ∀i,i<9->bq n [PV.mp i]=lc:=fun i d=>by simp only[bq,PV.low,hb i d]
 refine⟨⟨_,by rw[hs 0 (by omega)];exact g0,.of_eq (by simp only[AO.c6,dZ,PV.c6,r 6 (by omega)])⟩,by omega,u 6 (by omega),
  ⟨_,by rw[hs 1 (by omega)];exact g1,.of_eq (by simp only[AO.c6,dZ,PV.c6,r 7 (by omega)])⟩,by omega,u 7 (by omega),
  ⟨_,by rw[hs 2 (by omega)];exact g2,.of_eq (by simp only[AO.c6,dZ,nY])⟩,by omega,by simp only[AO.low,bq,CW (YX bk)],
  ⟨_,by rw[hs 3 (by omega)];exact g3,.of_eq Z⟩,by omega,rfl,
  ⟨_,by rw[hs 4 (by omega)];exact g4,.of_eq (by simp only[AO.c6,dZ,PV.c6,j 0 (by omega),j 1 (by omega),j 2 (by omega),j 3 (by omega),j 4 (by omega),j 5 (by omega)])⟩,by omega,by simp only[AO.low,bq,PV.low,hb 0 (by omega),hb 1 (by omega),hb 2 (by omega),hb 3 (by omega),hb 4 (by omega),hb 5 (by omega)],
  ⟨_,by rw[hs 5 (by omega)];exact g5,.of_eq (by simp only[AO.c6,dZ,PV.c6,r 8 (by omega)])⟩,by omega,u 8 (by omega),
  ⟨_,by rw[hs 6 (by omega)];exact g6,.of_eq Z⟩,by omega,ac,
  ⟨_,by rw[hs 7 (by omega)];exact g7,.of_eq Z⟩,by omega,ac,
  ⟨_,by rw[hs 8 (by omega)];exact g8,.of_eq Z⟩,by omega,ac,
  ⟨_,g9,by rw[nZ];exact I⟩,bk,CZ _ _ _,ac⟩
theorem Bw(m:NM)(b:aj)(v:Int):(fun x=>bY .str (ck .str m b v) x 0)=Bm (fun x=>bY .str m x 0) b v:=by
 funext x
 rw[iZ,Bm];by_cases h:b=x
 .rw[am h,am h.symm]
 .rw[be h,be fun e=>h e.symm]
def TW.push(w:TW)(a:aj):TW:=⟨ck .str w.low a ((w.low.length:Int)+1),ck .str w.on a 1,w.ring,w.stack++ [a],kw⟩
theorem TW.key{V:List aj}{w:TW}(h:w.Ok V){a:aj}(h0:w.st.low a=0):a∉w.low.map YI:=fun g=>h.nz a g h0
theorem vN{m:NM}{a:aj}{v:Int}(h:a∉m.map YI):(ck .str m a v).length=m.length+1:=by
 have:=congrArg aaG (dX (v:=v) h);simpa using this
theorem TW.Ph{V:List aj}{w:TW}(h:w.Ok V){a:aj}(h0:w.st.low a=0):(w.push a).st=Go.Tj.push w.st a:=
 St.eq (Bw _ _ _) (Bw _ _ _) Z (vN (TW.key h h0)) Z
theorem TW.Pj{V:List aj}{w:TW}(h:w.Ok V){a:aj}(h0:w.st.low a=0)(ha:a∈V):(w.push a).Ok V:=by
 have d:=TW.key h h0;refine⟨fun x b=>?_,?_,fun x b=>?_⟩
 .show bY .str (ck .str w.low a _) x 0≠0;rw[iZ];split
  .omega
  .rename_i j;have b:x∈(ck .str w.low a ((w.low.length:Int)+1)).map YI:=b;rw[dX d,Ys,Yr]at b;exact h.nz x (b.resolve_right fun e=>j e.symm)
 .show((ck .str w.low a _).map YI).Nodup;rw[dX d,Z2];exact⟨h.nd,by simp,fun u hu v y e=>d (by rw[Yr]at y;subst e;subst y;exact hu)⟩
 .have b:x∈(ck .str w.low a ((w.low.length:Int)+1)).map YI:=b;rw[dX d,Ys,Yr]at b;rcases b with b|rfl
  .exact h.sub x b
  .exact ha
theorem TW.len{V:List aj}{w:TW}(h:w.Ok V):w.low.length<=V.length:=by
 have:=Zl h.nd (l₂:=V) h.sub;simpa using this
theorem TW.zy{V:List aj}{w:TW}(h:w.Ok V){succ:aj->List aj}{path:List aj}(hI:Inv succ path w.st):w.stack.length<=V.length:=by
 refine Zl (l₂:=V) ?_ fun y A=>?_
 .refine abE ?_ hI.Un;intro x y u e;subst e;omega
 .have b:=(hI.zy y).2 A;have d:w.st.low y≠0:=xM hI b;refine h.sub y (Zu fun j=>d (xZ j))
def TW.pop(w:TW)(u:List aj)(b:aj)(d:Int):TW:=⟨w.low,ck .str w.on b 2,ck .str w.ring b d,u,jp b⟩
theorem TW.KS{w:TW}{u:List aj}{b:aj}(h:w.stack=u++ [b])(d:Int):(w.pop u b d).st=BJ d w.st:=by
 have j:w.st.stack.getLast? =jp b:=by show w.stack.getLast? =_;rw[h];simp
 have x:w.st.stack.dropLast=u:=by show w.stack.dropLast=_;rw[h];simp
 unfold BJ;rw[j];exact St.eq Z (Bw _ _ _) (Bw _ _ _) Z x.symm
theorem TW.Tn{V:List aj}{w:TW}(h:w.Ok V)(u:List aj)(b:aj)(d:Int):(w.pop u b d).Ok V:=⟨h.nz,h.nd,h.sub⟩
theorem RW(b:fD){p:Prog}(hf:jP p)(d:(aD p).length<=100000000)(a:aj):Pure prog 52 [.iv (tD (c5 (aD p) a))] (.iv (strs (a8 p a))):=by
 rw[<-nr hf];exact Kl b _ (YR (Ky _ _) d)
abbrev Uz(a:aj):List PV:=[pS a,.ptr 0 0,.ptr 1 0,.ptr 2 0,.ptr 3 0,.ptr 4 0,.ptr 5 0]
abbrev vF(a:aj):AF:=[(0,pS a),(1,.ptr 0 0),(2,.ptr 1 0),(3,.ptr 2 0),(4,.ptr 3 0),(5,.ptr 4 0),(6,.ptr 5 0)]
def Ue(p:Prog)(f:Nat):Prop:= ∀(path:List aj) (a:aj) (w:TW),w.Ok (ns p)->Inv (a8 p) path w.st->w.st.low a=0->a∈ns p->(∀g∈path,pP (a8 p) g a)->mf (ns p) w.st<=f->
 Go.Al.Fn prog 92 (Uz a) (tO (ru (bE p (aD p))) w) fun r h n=> ∃b:TW,b.Ok (ns p)∧b.st=(ft (a8 p) f a w.st).2∧r=pI (ft (a8 p) f a w.st).1∧h=tH (ru (bE p (aD p))) b 10∧n=11
theorem qv(p:Prog)(hs:List (aj×aj×Nat)){a:aj}(h:a∈p.aB.map Decl.name):(IC (bY .str (bE p hs) a kw)).pv= .iv (tD (c5 hs a)):=by rw[LG p hs h];rfl
theorem S4(G:IV)(w:TW){n:Nat}:[jp (AO.cells [PV.mp 6]),jp (.cells [.mp 7]),jp (.cells [sK w.wG 11 w.stack]),jp (.cells [.iv G]),jp (.cells [CD]),jp (.cells [.mp 8]),jp (dd w.low),jp (dd w.on),jp (dd w.ring),jp (sL w.wG w.stack)]=
  (tO G w).map fun o=>jp (o.c6 (sig [0,1,2,3,4,5,6,7,8,11] n)):=by
 have b:=nY (sig [0,1,2,3,4,5,6,7,8,11] n) w.wG 9 w.stack;have d:=nZ (sig [0,1,2,3,4,5,6,7,8,11] n) w.wG w.stack;show _=[jp (AO.cells [PV.mp 6]),jp (.cells [.mp 7]),jp (.cells [(sK w.wG 9 w.stack).c6 (sig [0,1,2,3,4,5,6,7,8,11] n)]),jp (.cells [.iv G]),jp (.cells [CD]),jp (.cells [.mp 8]),jp (dd w.low),jp (dd w.on),jp (dd w.ring),jp ((sL w.wG w.stack).c6 (sig [0,1,2,3,4,5,6,7,8,11] n))]
 rw[b,d];rfl
theorem J6(u:List aj)(b:aj):((u++ [b]).map fun x=>(cR x).map PV.iv)[0+((((u.length+1:Nat):Int)-1).toNat)]? =jp [pS b]:=by
 rw[YC,show(((u.length+1:Nat):Int)-1).toNat=u.length by omega];simp[cR]
theorem J7(i:Nat)(u:List aj)(b:aj):(u.length=0∧sK (jp b) i u= .sl i 1 0 1)∨(0<u.length∧sK (jp b) i u= .sl i 0 u.length 1):=by
 cases u with
 |nil=>exact .inl ⟨rfl,rfl⟩
 |cons x r=>exact .inr ⟨by simp,rfl⟩
theorem CY(u:List aj)(b:aj):gi (aC 1 (u++ [b]) cR) (sL (jp b) u):=by
 cases u with
 |nil=>exact .of_eq Z
 |cons x r=>
  have e:sL (jp b) (x::r)= .row 1 (((x::r++ [b]).map fun y=>(cR y).map PV.iv).take (x::r).length):=by
   rw[<-abB,List.take_left];rfl
  rw[e];exact .take
theorem wP{p:Prog}: ∀a∈ns p,∀b∈a8 p a,b∈ns p:=fun _ _ _ h=>(YO.1 h).1
theorem jr{p:Prog}(hf:jP p):(ns p).length<=64:=by
 have:=hf.len;rw[ns,jE,YH];exact this
theorem JK(hS:fD){p:Prog}(hf:jP p)(hl:(aD p).length<=100000000)(f:Nat)(ih:Ue p f):Ue p (f+1):=by
 intro path a w i0 hI h0 J hp hw;have g0:=jr hf;have d1:=nq hI.pG J h0;have l1:=TW.len i0;have o1:=TW.zy i0 hI;have q0:a∈p.aB.map Decl.name:=by rw[ns,db]at J;exact J
 have C:=TW.Ph i0 h0;have t0:=TW.Pj i0 h0 J;have n1:=Ze (eg p a) (ns p);refine yt ab func92 Z (by decide) ntmps92 Z (by simp) ?_;refine go_cut 6 (fun _:Unit=>⟨(9,pI ((w.low.length:Int)+1))::(10,pI ((w.low.length:Int)+1))::vF a,tH (ru (bE p (aD p))) (w.push a) 10,11⟩) Z ?_ ?_
 .have o0:bY .str (ck .str w.low a ((w.low.length:Int)+1)) a 0=(w.low.length:Int)+1:=by rw[iZ,am Z]
  by_cases hu:w.wG=kw∨w.stack≠ []
  .rw[show tO (ru (bE p (aD p))) w=[.cells [.mp 6],.cells [.mp 7],.cells [.sl 9 0 w.stack.length 1],.cells [.iv (ru (bE p (aD p)))],.cells [CD],.cells [.mp 8],dd w.low,dd w.on,dd w.ring,aC 1 w.stack cR] by
    unfold tO;rw[CV hu,CX hu]]
   refine gA Z (eL () [11] ?_);exact wk Z Z Z ⟨.of_eq (congrArg pI o0),rfl,.of_eq (congrArg pI o0),rfl,bv (bv (bv (bv (bv (bv (bv ac))))))⟩
    (xo (w:=w.push a) Z Z (fun i S=>gr (by show i<10;omega)) Z Z Z Z Z Z Z Z Z Z (by show _=PV.sl 11 0 (w.stack++ [a]).length 1;rw[Yg];rfl) Z Z Z (.of_eq (by show _=aC 1 (w.stack++ [a]) cR;rw[aC,Yk];rfl))) Z
  .obtain⟨y,hy,v0⟩: ∃y,w.wG=jp y∧w.stack=[]:=by
    cases hg:w.wG with
    |none=>exact absurd (.inl hg) hu
    |some y=>exact⟨y,rfl,Zu fun h=>hu (.inr h)⟩
   rw[show tO (ru (bE p (aD p))) w=[.cells [.mp 6],.cells [.mp 7],.cells [.sl 9 1 0 1],.cells [.iv (ru (bE p (aD p)))],.cells [CD],.cells [.mp 8],dd w.low,dd w.on,dd w.ring,.row 1 [[pS y]]] by
    unfold tO;rw[hy,v0];rfl]
   refine gA Z (Ca ab Z Z Z Z Z Z Z Z Z (by simp) (by simp) (nf Z) Z ?_);refine gA Z (eL () [11] ?_);exact wk Z Z Z ⟨.of_eq (congrArg pI o0),rfl,.of_eq (congrArg pI o0),rfl,bv (bv (bv (bv (bv (bv (bv ac))))))⟩
    (xo (w:=w.push a) Z Z (fun i S=>gr (by show i<10;omega)) Z Z Z Z Z Z Z Z Z Z (by show _=PV.sl 11 0 (w.stack++ [a]).length 1;rw[v0];rfl) Z Z Z (.of_eq (by show _=aC 1 (w.stack++ [a]) cR;rw[v0];rfl))) Z
 intro _;have S:=Dq hI h0 hp;rw[<-C]at d1 S;have hm:((w.push a).low.length:Int)=(w.low.length:Int)+1:=by
  have:=vN (v:=(w.low.length:Int)+1) (TW.key i0 h0);show(((ck .str w.low a _).length:Nat):Int)=_;rw[this];omega
 have la:(w.push a).st.low a=(w.st.n:Int)+1:=by rw[C];exact mg _ _ _
 have oa:(w.push a).st.on a=1:=by rw[C];exact mg _ _ _
 have f1:gy (a8 p) path a w.st [] ((w.st.n:Int)+1,Go.Tj.push w.st a) []:=
  ⟨C▸S,.refl _,rfl,fun y hy=>(nomatch hy),aak _,fun y hy=>(nomatch hy),fun z hz=>(nomatch hz),fun z hz=>(nomatch hz),⟨a,C▸oa,C▸la,.refl _⟩⟩
 have k0:=fun pa b s=>sE (succ:=a8 p) wP f pa b s
 let G:Nat->Int×St aj:=fun i=>((a8 p a).take i).foldl (Go.Tj.fH (ft (a8 p) f)) ((w.st.n:Int)+1,Go.Tj.push w.st a)
 have f0: ∀i,∃t,gy (a8 p) path a w.st ((a8 p a).take i) (G i) t:=fun i=>by
  have:=vl wP k0 hI h0 J (by rw[<-C];omega) ((a8 p a).take i) [] _ [] f1 fun b hb=>aaI hb;rwa[aaj]at this
 refine gM 5 Z (uu ab (.iv (tD (c5 (aD p) a))) Z Z Z Z (qv p _ q0) Z ?_);refine gA Z (zp (RW hS hf hl a) ?_);refine gA Z ?_;refine pe 0 (a8 p a).length (Yl _) (fun i A=>⟨(9,pI ((w.low.length:Int)+1))::(10,pI (G i).1)::(32,.iv (strs (a8 p a)))::(33,pI (a8 p a).length)::(34,pI i)::vF a,tH (ru (bE p (aD p))) A 11,12⟩)
  (fun i A=>A.Ok (ns p)∧A.st=(G i).2) (w.push a) [10] ⟨t0,C⟩
  (wk Z Z Z (bv (bv (bv (bv (bv (bv (bv (bv (bv (bv (bv (bv trivial))))))))))))
   (xo Z Z (fun i S=>gr (by show i<11;omega)) Z Z Z Z Z Z Z Z Z Z Z Z Z Z (.refl _)) Z) fun i A r1 hJ=>?_
 obtain⟨B,x⟩:=hJ;obtain⟨t2,j⟩:=f0 i;have m1:(a8 p a).length<=64:=YR n1 g0;refine zJ Z Z (fun h1=>?_) fun h1=>?_
 .have h1:=ci h1;have c0:G (i+1)=Go.Tj.fH (ft (a8 p) f) (G i) ((a8 p a).getD i io):=cF h1;have hb:((a8 p a).getD i io)∈a8 p a:=bx h1;have d:Go.Tj.fH (ft (a8 p) f) (G i) ((a8 p a).getD i io)=if A.st.low ((a8 p a).getD i io)=0 then(min (G i).1 (ft (a8 p) f ((a8 p a).getD i io) A.st).1,(ft (a8 p) f ((a8 p a).getD i io) A.st).2)
    else if A.st.on ((a8 p a).getD i io)=1 then(min (G i).1 (A.st.low ((a8 p a).getD i io)),A.st) else(G i):=by rw[x];rfl
  refine zJ Z Z (fun h2=>?_) fun h2=>?_
  .have h2:A.st.low ((a8 p a).getD i io)=0:=zT h2;rw[am h2]at d;have b0: ∀g∈path++ [a],pP (a8 p) g ((a8 p a).getD i io):=by
    intro g hg;have D:(G i).2.on a=1:=(j.inv.zy a).2 (by rw[j.stack];simp);refine .step (j.inv.dn g hg a D ?_) hb;rcases Ys.1 hg with e|e
    .have:=j.pa hI h0 g e;omega
    .rw[Yr]at e;rw[e];exact aak _
   have q1:mf (ns p) A.st<=f:=by
    have:=zn (V:=ns p) j.le;rw[x];rw[C]at d1;omega
   refine gA Z (Eh [0,1,2,3,4,5,6,7,8,11] (ih (path++ [a]) ((a8 p a).getD i io) A B (x▸j.inv) h2 (wP a J ((a8 p a).getD i io) hb) b0 q1) Z Z Z Z Z (S4 _ _) Z ?_);rintro r h' n' ⟨w3,hok3,hst3,rfl,rfl,rfl⟩;refine⟨_,rfl,?_⟩;refine gA Z ⟨h1,w3,[12],⟨hok3,by rw[c0,d];exact hst3⟩,zM (bv ⟨.of_eq (by rw[c0,d];rfl),rfl,bv (bv (bv (bv (bv (bv (bv (bv (bv (bv ac)))))))))⟩) (xo Z Z (fun i S=>gr (by show i<11;omega)) Z Z Z Z Z Z Z Z Z Z (nY _ _ _ _) Z Z Z (.of_eq (nZ _ _ _)))⟩
  .have h2: ¬A.st.low ((a8 p a).getD i io)=0:=zF h2;rw[be h2]at d;refine zJ Z Z (fun h3=>?_) fun h3=>?_
   .have h3:A.st.on ((a8 p a).getD i io)=1:=zT h3;rw[am h3]at d;refine gA Z ⟨h1,A,[11],⟨B,by rw[c0,d]⟩,zM (bv ⟨.of_eq (by rw[c0,d];rfl),rfl,bv (bv (bv (bv (bv (bv (bv (bv (bv (bv ac)))))))))⟩) (xo Z Z (fun i S=>gr (by show i<11;omega)) Z Z Z Z Z Z Z Z Z Z Z Z Z Z (.refl _))⟩
   .have h3: ¬A.st.on ((a8 p a).getD i io)=1:=zF h3;rw[be h3]at d;refine gA Z ⟨h1,A,[11],⟨B,by rw[c0,d];exact x⟩,zM (bv ⟨.of_eq (by rw[c0,d];rfl),rfl,bv (bv (bv (bv (bv (bv (bv (bv (bv (bv ac)))))))))⟩) (xo Z Z (fun i S=>gr (by show i<11;omega)) Z Z Z Z Z Z Z Z Z Z Z Z Z Z (.refl _))⟩
 .have h1:=co h1;have i1:i=(a8 p a).length:=by omega
  subst i1;have n0:ft (a8 p) (f+1) a w.st=wK a ((w.st.n:Int)+1) (G (a8 p a).length):=by
   show wK a _ ((a8 p a).foldl _ _)=wK a _ (((a8 p a).take (a8 p a).length).foldl _ _);rw[Z5]
  have a0: ∀(w':TW) (k:Nat) (u:AS) (e:Exit),e= .normal∨e= .ret->10<=k->k<u.nx->lv pC u f92.results.toList=jp (pI (G (a8 p a).length).1)->w'.Ok (ns p)->w'.st=(wK a ((w.st.n:Int)+1) (G (a8 p a).length)).2->
    qY 11 (sg 10 [k]) u.h (tH (ru (bE p (aD p))) w' 10)->QF pC f92.results.toList 10 (fun r h n=> ∃w':TW,w'.Ok (ns p)∧w'.st=(ft (a8 p) (f+1) a w.st).2∧r=pI (ft (a8 p) (f+1) a w.st).1∧h=tH (ru (bE p (aD p))) w' 10∧n=11) e u:=by
   intro w' k u e he hk j1 hr s0 w0 hh;refine HC [k] he hr ⟨w',s0,by rw[n0];exact w0,rfl,rfl,rfl⟩ ⟨rfl,by show 10<=u.nx;omega,by simpa using j1,⟨.of_eq ?_,rfl,ac⟩,hh,?_⟩
   .show pI (G (a8 p a).length).1=pI (ft (a8 p) (f+1) a w.st).1;rw[n0];unfold wK;split<;>rfl
   .show[0,1,2,3,4,5,6,7,8,k].Nodup;simp;omega
  generalize G (a8 p a).length=q at*
  refine zE Z Z (fun h4=>?_) fun h4=>?_
  .have h4: ¬q.1=(w.st.n:Int)+1:=zF h4;refine gA Z (a0 A 11 _ _ (.inr Z) (by omega) (by show 11<12;omega) Z B (by rw[wK,be h4];exact x) ?_);exact xo Z Z (fun i S=>gr (by omega)) Z Z Z Z Z Z Z Z Z Z Z Z Z Z (.refl _)
  have h4:q.1=(w.st.n:Int)+1:=zT h4;have hE:(wK a ((w.st.n:Int)+1) q).2=gW a ((w.st.n:Int)+1) q.2.stack.length q.2:=by rw[wK,am h4]
  have D:q.2.on a=1:=(j.inv.zy a).2 (by rw[j.stack];simp);have hF:gW a ((w.st.n:Int)+1) (t2.length+1) q.2=(wK a ((w.st.n:Int)+1) q).2:=by
   rw[hE,vd (by omega) j.stack j.at_ D,vd (by rw[j.stack];simp;omega) j.stack j.at_ D]
  generalize(wK a ((w.st.n:Int)+1) q).2=F at hF a0;refine gA Z ?_;refine ow (σ:={v:TW//v.Ok (ns p)∧((∃t,v.stack=w.stack++a::t∧a∉t∧v.stack.length<=64∧v.st.on a=1∧gW a ((w.st.n:Int)+1) (t.length+1) v.st=F)∨(v.st.on a≠1∧v.st=F))})
   (fun v=>⟨(9,pI ((w.low.length:Int)+1))::(10,pI q.1)::vF a,tH (ru (bE p (aD p))) v.1 12,13⟩) (fun v=>v.1.stack.length) ⟨A,B,.inl ⟨t2,by rw[show A.stack=A.st.stack from rfl,x];exact j.stack,j.at_,YR (TW.zy B (x▸j.inv)) g0,by rw[x];exact D,by rw[x];exact hF⟩⟩ [11]
   (zW (xo Z Z (fun i S=>gr (by show i<12;omega)) Z Z Z Z Z Z Z Z Z Z Z Z Z Z (.refl _))) fun v=>?_
  obtain⟨v,j0,hJ⟩:=v;rcases hJ with⟨t,hs,z0,m0,Y,I⟩|⟨Y,e1⟩
  rotate_left
  .refine zJ Z Z (fun h5=>?_) fun h5=>?_
   .exact absurd (zT h5) Y
   refine gA Z (a0 v 12 _ _ (.inr Z) (by omega) (by show 12<13;omega) Z j0 e1 ?_);exact xo Z Z (fun i S=>gr (by omega)) Z Z Z Z Z Z Z Z Z Z Z Z Z Z (.refl _)
  have key: ∃u b,v.stack=u++ [b]∧((b=a∧BJ ((w.st.n:Int)+1) v.st=F)∨ ∃t',u=w.stack++a::t'∧a∉t'∧b≠a∧gW a ((w.st.n:Int)+1) (t'.length+1) (BJ ((w.st.n:Int)+1) v.st)=F):=by
   rcases t.eq_nil_or_concat with e|⟨t',b,e⟩
   .subst e;refine⟨w.stack,a,hs,.inl ⟨rfl,?_⟩⟩;rw[ZM,gW,am Y]at I;exact I
   .rw[abp]at e;subst e;refine⟨w.stack++a::t',b,by rw[hs];simp,.inr ⟨t',rfl,fun h=>z0 (by simp[h]),fun h=>z0 (by simp[h]),?_⟩⟩;rw[gW,am Y,Yg]at I;exact I
  obtain⟨u,b,d0,e0⟩:=key;have s1:u.length+1<=64:=by rw[d0,Yg]at m0;exact m0
  have b1:v.stack≠ []:=by rw[d0];simp
  have x0:v.stack.length=u.length+1:=by rw[d0,Yg];rfl
  have p1:tH (ru (bE p (aD p))) v 12=[(0,jp (.cells [.mp 6])),(1,jp (.cells [.mp 7])),(2,jp (.cells [.sl 12 0 (u.length+1) 1])),(3,jp (.cells [.iv (ru (bE p (aD p)))])),(4,jp (.cells [CD])),(5,jp (.cells [.mp 8])),
    (6,jp (dd v.low)),(7,jp (dd v.on)),(8,jp (dd v.ring)),(12,jp (aC 1 (u++ [b]) cR))]:=by
   unfold tH;rw[CV (.inr b1),CX (.inr b1),x0,d0]
  show GO prog _ _ _ ⟨_,tH (ru (bE p (aD p))) v 12,_⟩;rw[p1];refine zE Z Z (fun h5=>?_) fun h5=>?_
  .exact absurd Y (zF h5)
  refine gM 9 Z (bB ab Z Z Z Z Z (J6 u b) Z Z ?_);have y0:(v.pop u b ((w.st.n:Int)+1)).Ok (ns p)∧((∃t,(v.pop u b ((w.st.n:Int)+1)).stack=w.stack++a::t∧a∉t∧(v.pop u b ((w.st.n:Int)+1)).stack.length<=64∧(v.pop u b ((w.st.n:Int)+1)).st.on a=1∧gW a ((w.st.n:Int)+1) (t.length+1) (v.pop u b ((w.st.n:Int)+1)).st=F)∨((v.pop u b ((w.st.n:Int)+1)).st.on a≠1∧(v.pop u b ((w.st.n:Int)+1)).st=F)):=by
   refine⟨TW.Tn j0 u b _,?_⟩;rcases e0 with⟨rfl,p0⟩|⟨t',hu,r0,g1,p0⟩
   .refine .inr ⟨?_,by rw[TW.KS d0];exact p0⟩;show bY .str (ck .str v.on b 2) b 0≠1;rw[iZ,am Z];decide
   .refine .inl ⟨t',hu,r0,by show u.length<=64;omega,?_,by rw[TW.KS d0];exact p0⟩;show bY .str (ck .str v.on b 2) a 0=1;rw[iZ,be g1];exact Y
  have a1:(v.pop u b ((w.st.n:Int)+1)).stack.length<v.stack.length:=by show u.length<v.stack.length;omega
  rcases J7 12 u b with hc|hc
  .refine gA Z (Hw ab u.length Z Z Z Z Z Z Z (by omega) (by omega) (by omega) (.inl ⟨hc.1,rfl⟩) Z ?_);refine gA Z ⟨⟨v.pop u b ((w.st.n:Int)+1),y0⟩,[12],a1,zW (xo Z Z (fun i S=>gr (by show i<12;omega)) Z Z Z Z Z Z Z Z Z Z hc.2.symm Z Z Z (CY u b))⟩
  .refine gA Z (Hw ab u.length Z Z Z Z Z Z Z (by omega) (by omega) (by omega) (.inr ⟨hc.1,rfl⟩) Z ?_);refine gA Z ⟨⟨v.pop u b ((w.st.n:Int)+1),y0⟩,[12],a1,zW (xo Z Z (fun i S=>gr (by show i<12;omega)) Z Z Z Z Z Z Z Z Z Z hc.2.symm Z Z Z (CY u b))⟩
theorem Uy(d:fD){p:Prog}(hf:jP p)(j:(aD p).length<=100000000): ∀f,Ue p f
 |0=>fun path a w x hI u b y A=>by
  have:=nq hI.pG b u;omega
 |f+1=>JK d hf j f (Uy d hf j f)
theorem n7(b:fD){p:Prog}(hf:jP p)(hs:List (aj×aj×Nat)):Pure prog 51 [.iv (ru (bE p hs))] (.iv (strs (ns p))):=by
 have h:=Km b (bE p hs) (by have:=hf.len;simp[bE];omega);rw[show(bE p hs).map (·.1)=p.aB.map Decl.name from FZ p hs]at h;exact h
abbrev Pf:PV:= .dx (.func 92) [] [.ptr 4 0,.ptr 5 0,.ptr 7 0,.ptr 0 0,.ptr 8 0,.ptr 6 0]
abbrev rH(G:IV)(w:TW)(k:Nat):AH:=[(0,jp (.cells [.iv G])),(1,jp (dd w.low)),(2,jp (dd w.on)),(3,jp (dd w.ring)),(4,jp (.cells [.mp 1])),(5,jp (.cells [.mp 2])),(6,jp (.cells [.mp 3])),(7,jp (.cells [sK w.wG k w.stack])),(8,jp (.cells [Pf])),(k,jp (sL w.wG w.stack))]
theorem Sm{n k:Nat}{σ:Nat->Nat}{h:AH}{G:IV}{w:TW}{B:PV}{x y A o:AO}(b:aaf 9 n=lc)(bk:YD k n=lc)(hs: ∀i,i<9->σ i=i)
  (g0:h.get 0=jp (.cells [.iv G])) (g1:h.get 1=jp x) (g2:h.get 2=jp y) (g3:h.get 3=jp A)
  (g4:h.get 4=jp (.cells [.mp 1])) (g5:h.get 5=jp (.cells [.mp 2])) (g6:h.get 6=jp (.cells [.mp 3])) (g7:h.get 7=jp (.cells [B])) (g8:h.get 8=jp (.cells [Pf])) (g9:h.get (σ k)=jp o)
  (e1:gi x (dd w.low)) (e2:gi y (dd w.on)) (e3:gi A (dd w.ring)) (C:B=sK w.wG (σ k) w.stack) (D:gi o (sL w.wG w.stack)):qY n σ h (rH G w k):=by
 have F:=Yd b;have bk:=Yd bk;have hb: ∀i,i<9->YD i n=lc:=fun i d=>YX (by omega);subst C;have r: ∀i,i<9->PV.mp (σ i)=PV.mp i:=fun i d=>by rw[hs i d]
 have j: ∀i,i<9->PV.ptr (σ i) 0=PV.ptr i 0:=fun i d=>by rw[hs i d]
 have u: ∀i,i<9->bq n [PV.mp i]=lc:=fun i d=>by simp only[bq,PV.low,hb i d]
 refine⟨⟨_,by rw[hs 0 (by omega)];exact g0,.of_eq Z⟩,by omega,rfl,
  ⟨_,by rw[hs 1 (by omega)];exact g1,e1⟩,by omega,ac,
  ⟨_,by rw[hs 2 (by omega)];exact g2,e2⟩,by omega,ac,
  ⟨_,by rw[hs 3 (by omega)];exact g3,e3⟩,by omega,ac,
  ⟨_,by rw[hs 4 (by omega)];exact g4,.of_eq (by simp only[AO.c6,dZ,PV.c6,r 1 (by omega)])⟩,by omega,u 1 (by omega),
  ⟨_,by rw[hs 5 (by omega)];exact g5,.of_eq (by simp only[AO.c6,dZ,PV.c6,r 2 (by omega)])⟩,by omega,u 2 (by omega),
  ⟨_,by rw[hs 6 (by omega)];exact g6,.of_eq (by simp only[AO.c6,dZ,PV.c6,r 3 (by omega)])⟩,by omega,u 3 (by omega),
  ⟨_,by rw[hs 7 (by omega)];exact g7,.of_eq (by simp only[AO.c6,dZ,nY])⟩,by omega,by simp only[AO.low,bq,CW (YX bk)],
  ⟨_,by rw[hs 8 (by omega)];exact g8,.of_eq (by simp only[AO.c6,dZ,PV.c6,j 0 (by omega),j 4 (by omega),j 5 (by omega),j 6 (by omega),j 7 (by omega),j 8 (by omega)])⟩,by omega,by simp only[AO.low,bq,PV.low,hb 0 (by omega),hb 4 (by omega),hb 5 (by omega),hb 6 (by omega),hb 7 (by omega),hb 8 (by omega)],
  ⟨_,g9,by rw[nZ];exact D⟩,bk,CZ _ _ _,ac⟩
theorem xW{V:Type}{kc:KC}{ev:V->IV}{z:V}{b:Value}{d:PV->V}(x: ∀M,IR M (ev z) b):gi .gn (.map kc ev z b d []):=
 ⟨id,fun M N U w j u=>⟨#[],0,u,⟨rfl,by simp,by simp,by simp,by simp⟩,x M⟩⟩
def TW.o:TW:=⟨[],[],[],[],kw⟩
theorem Tk(G:IV)(w:TW){n:Nat}:[jp (AO.cells [PV.mp 1]),jp (.cells [.mp 2]),jp (.cells [sK w.wG 10 w.stack]),jp (.cells [.iv G]),jp (.cells [Pf]),jp (.cells [.mp 3]),jp (dd w.low),jp (dd w.on),jp (dd w.ring),jp (sL w.wG w.stack)]=
  (tO G w).map fun o=>jp (o.c6 (sig [4,5,7,0,8,6,1,2,3,10] n)):=by
 have b:=nY (sig [4,5,7,0,8,6,1,2,3,10] n) w.wG 9 w.stack;have d:=nZ (sig [4,5,7,0,8,6,1,2,3,10] n) w.wG w.stack;show _=[jp (AO.cells [PV.mp 1]),jp (.cells [.mp 2]),jp (.cells [(sK w.wG 9 w.stack).c6 (sig [4,5,7,0,8,6,1,2,3,10] n)]),jp (.cells [.iv G]),jp (.cells [Pf]),jp (.cells [.mp 3]),jp (dd w.low),jp (dd w.on),jp (dd w.ring),jp ((sL w.wG w.stack).c6 (sig [4,5,7,0,8,6,1,2,3,10] n))]
 rw[b,d];rfl
theorem Fk(C:fD){p:Prog}(hf:jP p)(S:(aD p).length<=100000000):Go.Al.Fn prog 53 [.iv (ru (bE p (aD p)))] [] fun r h n=> ∃m:NM,Go.Rg.oJ (ns p) (eg p) (fun a=>bY .str m a 0)∧r= .iv (tD m)∧h=[]∧n=0:=by
 have D:=jr hf;refine yt ab func53 Z (by decide) ntmps53 Z (by simp) ?_;refine gA Z (zp (n7 C hf (aD p)) ?_);refine gA Z ?_;refine k9 7 0 1 Z Z ?_
 let x:Nat->St aj:=fun i=>jn (a8 p) (ns p).length ((ns p).take i) St.o
 have y: ∀i,Inv (a8 p) [] (x i):=fun i=>(u4 wP (Ym _) ((ns p).take i) St.o (fun a h=>aaI h) (RZ _)).1
 refine pe 0 (ns p).length (Yl _) (fun i w=>⟨[(3,.ptr 4 0),(4,.ptr 5 0),(5,.ptr 6 0),(6,.ptr 7 0),(7,.ptr 8 0),(15,.iv (strs (ns p))),(16,pI (ns p).length),(17,pI i)],rH (ru (bE p (aD p))) w 10,11⟩)
  (fun i w=>w.Ok (ns p)∧w.st=x i) TW.o [9] ⟨⟨fun a h=>(nomatch h),Zd,fun a h=>(nomatch h)⟩,rfl⟩
  (wk Z Z Z (bv (bv (bv (bv (bv (bv (bv (bv trivial))))))))
   (Sm Z Z (fun i B=>gr (by show i<10;omega)) Z Z Z Z Z Z Z Z Z Z (xW ig) (xW ig) (xW ig) Z (.of_eq Z)) Z) fun i w B I=>?_
 obtain⟨A,u⟩:=I;refine zJ Z Z (fun b=>?_) fun b=>?_
 .have b:=ci b;have j:x (i+1)=if(x i).low ((ns p).getD i io)=0 then(ft (a8 p) (ns p).length ((ns p).getD i io) (x i)).2 else x i:=cF b;refine zJ Z Z (fun d=>?_) fun d=>?_
  .have d:w.st.low ((ns p).getD i io)=0:=zT d;rw[<-u,am d]at j;refine gA Z (Eh [4,5,7,0,8,6,1,2,3,10] (Uy C hf S (ns p).length [] ((ns p).getD i io) w A (u▸y i) d (bx b) (fun g J=>nomatch J) (Ze _ _)) Z Z Z Z Z (Tk _ _) Z ?_);rintro r h' n' ⟨w3,hok3,hst3,rfl,rfl,rfl⟩;refine⟨_,rfl,?_⟩;refine gA Z ?_
   exact⟨b,w3,[11],⟨hok3,by rw[j];exact hst3⟩,wk Z Z Z (bv (bv (bv (bv (bv (bv (bv (bv ac))))))))
    (Sm Z Z (fun i B=>gr (by show i<10;omega)) Z Z Z Z Z Z Z Z Z Z (.refl _) (.refl _) (.refl _) (nY _ _ _ _) (.of_eq (nZ _ _ _))) Z⟩
  .have d: ¬w.st.low ((ns p).getD i io)=0:=zF d;rw[<-u,be d]at j;refine gA Z ?_
   exact⟨b,w,[10],⟨A,j.symm⟩,wk Z Z Z (bv (bv (bv (bv (bv (bv (bv (bv ac))))))))
    (Sm Z Z (fun i B=>gr (by show i<10;omega)) Z Z Z Z Z Z Z Z Z Z (.refl _) (.refl _) (.refl _) Z (.refl _)) Z⟩
 .have b:=co b;have Y:Go.Rg.oJ (ns p) (eg p) (fun a=>bY .str w.ring a 0):=by
   have d:=KG hf.nodup (Ym (ns p).length);have F:x i=jn (a8 p) (ns p).length (ns p) St.o:=by show jn _ _ ((ns p).take i) _=_;rw[Yn b]
   have G:(fun a=>bY .str w.ring a 0)=(jn (a8 p) (ns p).length (ns p) St.o).ring:=by rw[<-F,<-u];rfl
   rw[G];exact d
  refine gA Z ⟨.inr Z,_,rfl,iR.map 3 Z (.done ⟨.iv (tD w.ring),[],0,[],⟨w.ring,Y,rfl,rfl,rfl⟩,?_⟩)⟩;exact⟨rfl,Yl _,by simp,⟨.of_eq Z,rfl,ac⟩,ac,Zd⟩
end Go.Proofs.YtflegjieadkonaaGreatDoor
namespace Go.Proofs.YtflegjieadkonaaGreatDoor
open Go Go.Al Go.Proofs.Tryz
theorem Td(l:List aj)(s:aj):Pure prog 129 [.iv (strs l),pS s] (pI (tn (fun x:aj=>lw (s=x)) l)):=by
 refine p6 (bN func129 Z (by decide)) ⟨_,_,Yy⟩ fun j=>?_;simp only[maxLen]at j;refine ad ab func129 Z (by decide) ntmps129 Z (by simp) Z ?_;refine gA Z ?_
 refine ar 0 l.length (Yl _) (fun i=>⟨[(0,.iv (strs l)),(1,pS s),(7,pI l.length),(8,pI i)],[],0⟩) (fun i=>(l.take i).any (fun x:aj=>lw (s=x))=li) [] (by simp)
  (kT Z Z (bv (bv (bv (bv trivial)))) Z) fun i y u=>?_
 refine zJ Z Z (fun b=>?_) fun b=>?_
 .have b:=ci b;refine zJ Z Z (fun d=>?_) fun d=>?_
  .have d:(fun x:aj=>lw (s=x)) (l.getD i io)=lc:=d;rw[jd u b d];exact zU Z
  .have d:(fun x:aj=>lw (s=x)) (l.getD i io)=li:=d;refine gA Z ⟨b,(a7 u b).2 d,[],kT Z Z (bv (bv (bv (bv ac)))) Z⟩
 .have b:=co b;rw[iC (any_none u b)];exact zU Z
theorem Qr(l:List aj)(s:aj):(l.any fun x=>lw (s=x))=ch l s:=by
 rw[YU,aP,Y8];constructor
 .rintro⟨x,hx,h⟩;exact(zT h)▸hx
 .exact fun h=>⟨s,h,decide_eq_true Z⟩
theorem Is(l:List aj)(s:aj):Pure prog 99 [.iv (strs l),pS s] (pB (ch l s)):=by
 refine ad ab func99 Z (by decide) ntmps99 Z (by simp) Z ?_;refine gA Z (zp (Td l s) ?_);refine gA Z (zL (.of_eq ?_));exact fx (by rw[<-Qr];exact j5 _ l)
def rI(m:NM)(r:aq)(l:Lit):Bool:=lw (l.kind=1)&&lw (bY .str m l.atom.rel 0=bY .str m r.head.rel 0)
abbrev Tg(m:NM)(r:aq):List AO:=[.cells [.iv (tD m)],ak r.c]
abbrev O1(m:NM)(r:aq):AH:=[(0,jp (.cells [.iv (tD m)])),(1,jp (ak r.c))]
theorem OP(m:NM)(r:aq)(l:Lit):cj prog 102 [ag l.c,.ptr 0 0,.ptr 1 0] (Tg m r) (pB (rI m r l)) (O1 m r) 2:=by
 refine aE ab func102 Z (by decide) ntmps102 Z (by simp) ?_;refine zJ Z Z (fun b=>?_) fun b=>?_
 .have b:l.kind=1:=zT b;refine gA Z (zD [] Z (zM ⟨.of_eq (fx (by rw[rI,decide_eq_true b,Zc])),rfl,ac⟩ ((zO (zK ac)))))
 .have b: ¬l.kind=1:=zF b;refine gA Z (zD [] Z (zM ⟨.of_eq (fx (by rw[rI,decide_eq_false b,Zm])),rfl,ac⟩ ((zO (zK ac)))))
abbrev KE:PV:= .dx (.func 102) [] [.ptr 0 0,.ptr 1 0]
theorem OL(m:NM)(r:aq)(l:List Lit):cj prog 130 [.iv (cT 30 l Lit.c),KE] (Tg m r) (pI (tn (rI m r) l)) (O1 m r) 2:=by
 refine vC (bN func130 Z (by decide)) ⟨_,_,Yy⟩ fun j=>?_;simp only[maxLen]at j;refine aE ab func130 Z (by decide) ntmps130 Z (by simp) ?_;refine gA Z ?_
 refine ar 0 l.length (Yl _) (fun i=>⟨[(0,.iv (cT 30 l Lit.c)),(1,KE),(7,pI l.length),(8,pI i)],O1 m r,2⟩) (fun i=>(l.take i).any (rI m r)=li) [] (by simp)
  (zW ((zO (zK trivial)))) fun i x u=>?_
 refine zJ Z Z (fun b=>?_) fun b=>?_
 .have b:=ci b;refine gA Z (zq [0,1] (OP m r (l.getD i io)) ?_);refine zJ Z Z (fun d=>?_) fun d=>?_
  .have d:rI m r (l.getD i io)=lc:=d;rw[jd u b d];refine gA Z (zD [] Z (zW ((zO (zK ac)))))
  .have d:rI m r (l.getD i io)=li:=d;refine gA Z ⟨b,(a7 u b).2 d,[],zW ((zO (zK ac)))⟩
 .have b:=co b;rw[iC (any_none u b)];refine gA Z (zD [] Z (zW ((zO (zK ac)))))
theorem OO(m:NM)(r:aq)(l:List Lit):cj prog 101 [.iv (cT 30 l Lit.c),KE] (Tg m r) (pB (l.any (rI m r))) (O1 m r) 2:=by
 refine aE ab func101 Z (by decide) ntmps101 Z (by simp) ?_;refine gA Z (zq [0,1] (OL m r l) ?_);refine gA Z (zD [] Z (zM ⟨.of_eq (fx (j5 _ l)),rfl,ac⟩ ((zO (zK ac)))))
theorem Kn(m:NM)(r:aq):Pure prog 60 [ag r.c,.iv (tD m)] (pB (r.body.any (rI m r))):=by
 refine ad ab func60 Z (by decide) ntmps60 Z (by simp) Z ?_;refine gA Z (zq [1,0] (OO m r r.body) ?_);exact zU Z
def za(m:NM)(r:aq)(l:Lit):Bool:=lw (l.kind≠1)&&(named l).any fun t=>lw (bY .str m t 0=bY .str m r.head.rel 0)
def zj(m:NM)(r:aq)(t:Term):Bool:=lw (t.kind=1)&&!ch (fN r) t.var&&r.body.any (rI m r)
def lh(m:NM)(r:aq):aT:=match r.body.find? (za m r) with
 |some l=>(70,l.at)
 |none=>if r.head.ae.any (zj m r)=lc then(71,r.at_) else aT.z
theorem Tb(m:NM)(r:aq)(hb:r.size<=10000000):Pure prog 57 [ag r.c,.iv (tD m)] (ag (lh m r).c):=by
 have C:r.body.length<=10000000:=by have:=Lit.ax r.body;unfold aq.size at hb;omega
 have I:r.head.ae.length<=10000000:=by unfold aq.size at hb;omega
 refine ad ab func57 Z (by decide) ntmps57 Z (by simp) Z ?_;refine gA Z ?_;refine ar 0 r.body.length (Yl _) (fun i=>⟨[(1,.iv (tD m)),(2,.ptr 0 0),(4,.ptr 1 0),(13,.iv (lits r.body)),(14,pI r.body.length),(15,pI i)],[(0,jp (ak r.c)),(1,jp (ak aT.z.c))],2⟩) (fun i=>(r.body.take i).any (za m r)=li) [] (by simp)
  (zW (zK (zK trivial))) fun i J y=>?_
 refine zJ Z Z (fun u=>?_) fun u=>?_
 .have u:=ci u;have G:(r.body.getD i io).size<=10000000:=by have:=Lit.aS r.body i u;unfold aq.size at hb;omega
  have F:=kD (r.body.getD i io);refine gA Z (zp (GJ (r.body.getD i io) (by omega)) ?_);refine gA Z ?_;refine ar 0 (named (r.body.getD i io)).length (Yl _) (fun k=>⟨[(1,.iv (tD m)),(2,.ptr 0 0),(4,.ptr 1 0),(6,.ptr 2 0),(13,.iv (lits r.body)),(14,pI r.body.length),(15,pI i),(20,.iv (strs (named (r.body.getD i io)))),(21,pI (named (r.body.getD i io)).length),(22,pI k)],[(0,jp (ak r.c)),(1,jp (ak aT.z.c)),(2,jp (ak (r.body.getD i io).c))],3⟩)
   (fun k=>lw ((r.body.getD i io).kind≠1)=li∨((named (r.body.getD i io)).take k).any (fun t=>lw (bY .str m t 0=bY .str m r.head.rel 0))=li) [] (.inr (by simp))
   (zW (zK (zK (zK trivial)))) fun k D hK=>?_
  refine zJ Z Z (fun b=>?_) fun b=>?_
  .have b:k<(named (r.body.getD i io)).length:=by simpa using b
   refine zJ Z Z (fun d=>?_) fun d=>?_
   .have d: ¬(r.body.getD i io).kind=1:=by simpa using d
    have hK:=hK.resolve_left (by simpa using d);refine zJ Z Z (fun j=>?_) fun j=>?_
    .have j:bY .str m ((named (r.body.getD i io)).getD k io) 0=bY .str m r.head.rel 0:=zT j;have B:za m r (r.body.getD i io)=lc:=by
      rw[za,decide_eq_true d,Zc];exact ji b (decide_eq_true j)
     rw[lh,j9 y u B];exact zU Z
    .have j: ¬bY .str m ((named (r.body.getD i io)).getD k io) 0=bY .str m r.head.rel 0:=zF j;refine gA Z ⟨b,.inr ((a7 hK b).2 (decide_eq_false j)),[],zW (zK (zK (zK ac)))⟩
   .have d:(r.body.getD i io).kind=1:=by simpa using d
    refine gA Z ⟨b,.inl (decide_eq_false fun h=>h d),[],zW (zK (zK (zK ac)))⟩
  .have b:(named (r.body.getD i io)).length<=k:=by simpa using b
   have B:za m r (r.body.getD i io)=li:=by
    rcases hK with hK|hK
    .rw[za,hK,Zm]
    .rw[za,any_none hK b,Zv]
   refine gA Z ⟨u,(a7 y u).2 B,[],zW (zK (zK ac))⟩
 have u:=co u;have A:r.body.find? (za m r)=kw:=eP (any_none y u);rw[lh,A];refine gA Z (zp (Xj r hb) ?_);refine gA Z ?_;refine ar 0 r.head.ae.length (Yl _) (fun k=>⟨[(1,.iv (tD m)),(2,.ptr 0 0),(4,.ptr 1 0),(9,.iv (strs (fN r))),(49,.iv (cT 5 r.head.ae Term.c)),(50,pI r.head.ae.length),(51,pI k)],[(0,jp (ak r.c)),(1,jp (ak aT.z.c))],2⟩) (fun k=>(r.head.ae.take k).any (zj m r)=li) [] (by simp)
  (zW (zK (zK trivial))) fun k D hK=>?_
 refine zJ Z Z (fun b=>?_) fun b=>?_
 .have b:=ci b;have no:zj m r (r.head.ae.getD k io)=li->(r.head.ae.take (k+1)).any (zj m r)=li:=(a7 hK b).2;refine zJ Z Z (fun d=>?_) fun d=>?_
  .have d:(r.head.ae.getD k io).kind=1:=zT d;refine gA Z (zp (Is (fN r) (r.head.ae.getD k io).var) ?_);refine zJ Z Z (fun j=>?_) fun j=>?_
   .have j:(!ch (fN r) (r.head.ae.getD k io).var)=lc:=j;refine gA Z (zp (Kn m r) ?_);refine zJ Z Z (fun x=>?_) fun x=>?_
    .have x:r.body.any (rI m r)=lc:=x;rw[am (ji b (by rw[zj,decide_eq_true d,j,x];rfl))];exact zU Z
    .have x:r.body.any (rI m r)=li:=x;refine gA Z ⟨b,no (by rw[zj,x,Zv]),[],zW (zK (zK ac))⟩
   .have j:(!ch (fN r) (r.head.ae.getD k io).var)=li:=j;refine gA Z ⟨b,no (by rw[zj,j,Zv,Zm]),[],zW (zK (zK ac))⟩
  .have d: ¬(r.head.ae.getD k io).kind=1:=zF d;refine gA Z ⟨b,no (by rw[zj,decide_eq_false d,Zm,Zm]),[],zW (zK (zK ac))⟩
 .have b:=co b;rw[be (by rw[any_none hK b];decide)];exact zU Z
theorem find_congr{α:Type}{f g:α->Bool}: ∀{l:List α},(∀x∈l,f x=g x)->l.find? f=l.find? g
 | [],_=>rfl
 |x::l,h=>by
  rw[ZN,ZN,h x Yy,find_congr fun y b=>h y (Yt _ b)]
theorem yW{α:Type}{f g:α->Bool}{l:List α}(h: ∀x∈l,f x=g x):l.any f=l.any g:=by
 rw[YU,Y8,Y8];exact⟨fun⟨x,hx,h1⟩=>⟨x,hx,by rw[<-h x hx];exact h1⟩,fun⟨x,hx,h1⟩=>⟨x,hx,by rw[h x hx];exact h1⟩⟩
theorem BP{p:Prog}{a:aj}(h:a∈p.aB.map Decl.name):a∈ns p:=by rw[ns,db];exact h
theorem KB{p:Prog}(hf:jP p){m:NM}(hR:Go.Rg.oJ (ns p) (eg p) (fun a=>bY .str m a 0)){r:aq}(hr:r∈p.rules):r.body.any (rI m r)=jm p r:=by
 refine yW fun l d=>?_;rw[rI];by_cases b:l.kind=1
 .have j:l.atom.rel∈named l:=by rw[ql,am (.inl b)];exact aae _
  rw[vJ hR (BP (hf.lits r hr l d _ j)) (BP (hf.yh r hr))]
 .rw[decide_eq_false b];rfl
theorem JH{p:Prog}(hf:jP p){m:NM}(hR:Go.Rg.oJ (ns p) (eg p) (fun a=>bY .str m a 0)){r:aq}(hr:r∈p.rules):lh m r=ew p r:=by
 have b:r.body.find? (za m r)=lK p r:=find_congr fun l j=>by
  rw[za];congr 1;exact yW fun t u=>(vJ hR (BP (hf.lits r hr l j t u)) (BP (hf.yh r hr))).symm
 have d:r.head.ae.any (zj m r)=(iF r&&jm p r):=by
  rw[<-KB hf hR hr,iF];have:zj m r=fun t=>(lw (t.kind=1)&&!ch (fN r) t.var)&&r.body.any (rI m r):=rfl;rw[this];generalize r.body.any (rI m r)=c;cases c<;>simp
 rw[lh,ew,b];cases lK p r with
 |some l=>rfl
 |none=>
  simp only[d,YB]
theorem Bz(b:fD){p:Prog}(hb:p.fit)(h: ¬(bu p).1=0):Pure prog 50 [ag p.c] (.bX [.iv (.v (.map kw)),pB li]):=by
 have:=Ko b p hb;rwa[yk,be h,decide_eq_false h]at this
theorem xE(b:fD){p:Prog}(hb:p.fit)(h:(bu p).1=0):Pure prog 50 [ag p.c] (.bX [.iv (ru (bE p (aD p))),pB lc]):=by
 have:=Ko b p hb;rwa[yk,am h,decide_eq_true h]at this
theorem tN{α β:Type}(f:α->List β)(g:α->Nat)(h: ∀a,(f a).length<=g a): ∀l:List α,(l.flatMap f).length<=(l.map g).sum
 | []=>Ym _
 |a::l=>by
  have b:=tN f g h l;have d:=h a;rw[Zk,Yg,Yz,aaa];omega
theorem iu: ∀l:List Lit,Lit.aA l=(l.map Lit.size).sum
 | []=>rfl
 |x::l=>by rw[Lit.aA,iu l,Yz,aaa]
theorem rr{p:Prog}(hs:p.size<=10000000):(aD p).length<=100000000:=by
 have b:=tN (fun r:aq=>r.body.flatMap fun l=>(named l).map fun t=>(r.head.rel,t,fZ l)) aq.size (fun r=>by
  have:=tN (fun l=>(named l).map fun t=>(r.head.rel,t,fZ l)) Lit.size (fun l=>by rw[YH];exact kD l) r.body;rw[<-iu]at this
  unfold aq.size;omega) p.rules
 unfold Prog.size at hs;show(p.rules.flatMap _).length<=_;omega
theorem BA(C:fD)(p:Prog)(hb:p.fit)(hs:p.size<=10000000):Pure prog 17 [ag p.c] (ag (dD p).c):=by
 by_cases k1:(bu p).1=0;rotate_left
 .rw[dD,am k1];refine ad ab func17 Z (by decide) ntmps17 Z (by simp) Z ?_;refine gA Z (zp (Bz C hb k1) ?_);refine zE Z Z (fun A=>?_) fun A=>?_
  .cases A
  refine gA Z (zp (c24 p hb) ?_);exact zU Z
 have G:=gx k1;have S:p.rules.length<=1000000000:=hb.2.1;rw[dD,be (by simpa using k1)];refine ad ab func17 Z (by decide) ntmps17 Z (by simp) Z ?_;refine gA Z (zp (xE C hb k1) ?_);refine zJ Z Z (fun A=>?_) fun A=>?_
 .cases A
 refine gA Z (Eh [] (Fk C G (rr hs)) Z Z Z Z Z Z Z ?_);rintro r Y n' ⟨m,hR,rfl,rfl,rfl⟩;refine⟨_,rfl,?_⟩;have I:p.rules.map (lh m)=p.rules.map (ew p):=ZC fun r J=>JH G hR J;rw[<-I]
 have y: ∀i,i<p.rules.length->(p.rules.map (lh m)).getD i io=lh m (p.rules.getD i io):=fun i F=>by
  rw[Ye,Yo,Yi F,Ye,Yi F];rfl
 have j:(p.rules.map (lh m)).length=p.rules.length:=YH _;refine gA Z ?_;refine ar 0 p.rules.length (Yl _) (fun i=>⟨[(1,.ptr 0 0),(2,.ptr 1 0),(5,.iv (tD m)),(21,.iv (cT 5 p.rules aq.c)),(22,pI p.rules.length),(23,pI i)],[(0,jp (ak p.c)),(1,jp (ak aT.z.c))],2⟩) (fun i=>((p.rules.map (lh m)).take i).any (fun d=>lw (d.1≠0))=li) [] (by simp)
  (zW (zK (zK trivial))) fun i F B=>?_
 refine zJ Z Z (fun b=>?_) fun b=>?_
 .have b:=ci b;have x:=hb.2.2 _ (bx b);have D:=y i b;refine gA Z (zp (Tb m (p.rules.getD i io) x.1) ?_);refine zJ Z Z (fun u=>?_) fun u=>?_
  .have u: ¬(lh m (p.rules.getD i io)).1=0:=by simpa using u
   rw[j9 B (by rw[j];exact b) (by rw[D];exact decide_eq_true u),D];exact zU Z
  .have u:(lh m (p.rules.getD i io)).1=0:=by simpa using u
   refine gA Z ⟨b,(a7 B (by rw[j];exact b)).2 (by rw[D];simpa using u),[],zW (zK (zK ac))⟩
 .have b:=co b;rw[eP (any_none B (by rw[j];exact b))];exact zU Z
def iJ(l:Lit):Bool:=lw (l.kind≠2)&&lw (l.kind≠4)
theorem zH(B:fD)(p:Prog)(hb:p.fit):Pure prog 18 [ag p.c] (pB (jH p)):=by
 have D:p.rules.length<=1000000000:=hb.2.1;refine ad ab func18 Z (by decide) ntmps18 Z (by simp) Z ?_;refine gA Z (zp (Ko B p hb) ?_);refine gA Z ?_;refine ar 0 p.rules.length (Yl _) (fun i=>⟨[(1,.ptr 0 0),(4,pB (lw ((bu p).1=0)&&(p.rules.take i).all fun r=>r.body.all iJ)),(15,.iv (cT 5 p.rules aq.c)),(16,pI p.rules.length),(17,pI i)],[(0,jp (ak p.c))],1⟩) (fun _=>True) [] ac
  (zM (bv ⟨.of_eq (fx (by simp)),rfl,bv (bv (bv trivial))⟩) (zK trivial)) fun i F _=>?_
 refine zJ Z Z (fun u=>?_) fun u=>?_
 .have u:=ci u;have x:=(hb.2.2 _ (bx u)).1;have C:(p.rules.getD i io).body.length<=10000000:=by have:=Lit.ax (p.rules.getD i io).body;unfold aq.size at x;omega
  have A:(lw ((bu p).1=0)&&(p.rules.take (i+1)).all fun r=>r.body.all iJ)=((lw ((bu p).1=0)&&(p.rules.take i).all fun r=>r.body.all iJ)&&(p.rules.getD i io).body.all iJ):=by
   rw[aK u,aaT,Bool.and_assoc];simp
  generalize(lw ((bu p).1=0)&&(p.rules.take i).all fun r=>r.body.all iJ)=b at*
  refine gA Z ?_;refine ar 0 (p.rules.getD i io).body.length (Yl _) (fun k=>⟨[(1,.ptr 0 0),(4,pB (b&&((p.rules.getD i io).body.take k).all iJ)),(6,.ptr 1 0),(15,.iv (cT 5 p.rules aq.c)),(16,pI p.rules.length),(17,pI i),(22,.iv (lits (p.rules.getD i io).body)),(23,pI (p.rules.getD i io).body.length),(24,pI k)],[(0,jp (ak p.c)),(1,jp (ak (p.rules.getD i io).c))],2⟩) (fun _=>True) [] ac
   (zM (bv ⟨.of_eq (fx (by simp)),rfl,bv (bv (bv (bv (bv (bv (bv trivial))))))⟩) (zK (zK trivial))) fun k G _=>?_
  refine zJ Z Z (fun j=>?_) fun j=>?_
  .have j:k<(p.rules.getD i io).body.length:=by simpa using j
   have y:(b&&((p.rules.getD i io).body.take (k+1)).all iJ)=((b&&((p.rules.getD i io).body.take k).all iJ)&&iJ ((p.rules.getD i io).body.getD k io)):=by
    rw[aK j,aaT,Bool.and_assoc];simp
   generalize(b&&((p.rules.getD i io).body.take k).all iJ)=c at*
   have a0: ∀d:Bool,d=(c&&iJ ((p.rules.getD i io).body.getD k io))->d=(b&&((p.rules.getD i io).body.take (k+1)).all iJ):=fun d h=>by rw[y,h]
   refine zJ Z Z (fun g1=>?_) fun g1=>?_
   .have g1:c=lc:=g1;refine zJ Z Z (fun g2=>?_) fun g2=>?_
    .refine gA Z ?_;exact⟨j,ac,[],zM (bv ⟨.of_eq (fx (a0 _ (by rw[g1,iJ,decide_eq_true (show(((p.rules.getD i io).body.getD k io).kind≠2) by simpa using g2)];simp))),rfl,bv (bv (bv (bv (bv (bv (bv ac))))))⟩) (zK (zK ac))⟩
    .refine gA Z ?_;exact⟨j,ac,[],zM (bv ⟨aG.rK (a0 _ (by rw[g1,iJ,decide_eq_false (show¬(((p.rules.getD i io).body.getD k io).kind≠2) by simpa using g2)];simp)),rfl,bv (bv (bv (bv (bv (bv (bv ac))))))⟩) (zK (zK ac))⟩
   .have g1:c=li:=g1;refine gA Z ⟨j,ac,[],zM (bv ⟨aG.rK (a0 _ (by rw[g1];simp)),rfl,bv (bv (bv (bv (bv (bv (bv ac))))))⟩) (zK (zK ac))⟩
  .have j:(p.rules.getD i io).body.length<=k:=by simpa using j
   refine gA Z ⟨u,ac,[],zM (bv ⟨.of_eq (fx (by rw[A,Yn j])),rfl,bv (bv (bv ac))⟩) (zK ac)⟩
 .have u:=co u;refine gA Z (zL (.of_eq ?_));rw[Yn u];rfl
abbrev Wx:=aj×aj×Bool
def yA(x:Wx):List IV:=[iS x.1,iS x.2.1,.v (.bool x.2.2)]
def kK(p:Prog):List Wx:=if(bu p).1=0 then Cf p else[]
def bz(p:Prog)(a:aj):List Wx:=(a8 p a).map fun b=>(a,b,Cu p a b)
theorem yy{p:Prog}{i:Nat}(h:i<(ns p).length):((ns p).take (i+1)).flatMap (bz p)=((ns p).take i).flatMap (bz p)++bz p ((ns p).getD i io):=by
 rw[aK h,aai];simp
theorem CQ(p:Prog)(a:aj):(a8 p a).length<=(ns p).length:=Ze _ _
theorem yz{p:Prog}(h:(ns p).length<=64)(i:Nat):(((ns p).take i).flatMap (bz p)).length<=10000:=by
 have b:=tN (bz p) (fun _=>64) (fun a=>by unfold bz;rw[YH];exact YR (CQ p a) h) ((ns p).take i);have d: ∀l:List aj,(l.map fun _=>64).sum=l.length*64:=by
  intro l
  induction l with
  |nil=>rfl
  |cons x l ih=>rw[Yz,aaa,ih,YT];omega
 rw[d,YV]at b;omega
theorem Ks(j:fD)(p:Prog)(hb:p.fit)(hs:p.size<=10000000):Pure prog 13 [ag p.c] (.iv (cT 3 (kK p) yA)):=by
 by_cases k1:(bu p).1=0;rotate_left
 .rw[kK,be k1];refine ad ab func13 Z (by decide) ntmps13 Z (by simp) Z ?_;refine gA Z (zp (Bz j hb k1) ?_);refine gA Z (zp (sS j) ?_);refine gA Z ?_;refine ar 0 0 (Yl _) (fun i=>⟨[(5,.iv (.v (.slice kw 0 0))),(17,pI 0),(18,pI 0)],[],1⟩) (fun _=>True) [] ac
   (zW trivial) fun i D _=>?_
  refine zJ Z Z (fun b=>?_) fun b=>?_
  .exact absurd b (by decide)
  refine gA Z (zL ?_);exact .nil _ _
 have y:=gx k1;have J:=jr y;rw[kK,am k1];refine ad ab func13 Z (by decide) ntmps13 Z (by simp) Z ?_;refine gA Z (zp (xE j hb k1) ?_);refine gA Z (zp (n7 j y (aD p)) ?_);refine gA Z ?_;refine dF 5 3 Z ?_;refine ar 0 (ns p).length (Yl _) (fun i=>⟨[(3,.iv (ru (bE p (aD p)))),(5,.sl 2 0 (((ns p).take i).flatMap (bz p)).length 3),(16,.iv (strs (ns p))),(17,pI (ns p).length),(18,pI i)],[(2,jp (aC 3 (((ns p).take i).flatMap (bz p)) yA))],3⟩) (fun _=>True) [1] ac
  (zW (zS trivial)) fun i D _=>?_
 refine zJ Z Z (fun b=>?_) fun b=>?_
 .have b:=ci b;have B:(ns p).getD i io∈p.aB.map Decl.name:=by have:=bx b;rwa[ns,db]at this
  have x:=yy b;have G:=yz J i;have S:=CQ p ((ns p).getD i io);refine gM 13 Z (uu ab (.iv (tD (c5 (aD p) ((ns p).getD i io)))) Z Z Z Z (qv p _ B) Z ?_);refine gA Z (zp (RW j y (rr hs) ((ns p).getD i io)) ?_);refine gA Z ?_;refine ar 0 (a8 p ((ns p).getD i io)).length (Yl _) (fun k=>⟨[(3,.iv (ru (bE p (aD p)))),(7,pS ((ns p).getD i io)),(5,.sl 3 0 (((ns p).take i).flatMap (bz p)++(bz p ((ns p).getD i io)).take k).length 3),(16,.iv (strs (ns p))),(17,pI (ns p).length),(18,pI i),(25,.iv (strs (a8 p ((ns p).getD i io)))),(26,pI (a8 p ((ns p).getD i io)).length),(27,pI k)],[(3,jp (aC 3 (((ns p).take i).flatMap (bz p)++(bz p ((ns p).getD i io)).take k) yA))],4⟩) (fun _=>True) [2] ac
   (zM (bv (bv ⟨.row (by simp),rfl,bv (bv (bv (bv (bv (bv trivial)))))⟩)) (hR Z (by simp) Z trivial)) fun k Y _=>?_
  refine zJ Z Z (fun d=>?_) fun d=>?_
  .have d:k<(a8 p ((ns p).getD i io)).length:=by simpa using d
   have u:(bz p ((ns p).getD i io)).take (k+1)=(bz p ((ns p).getD i io)).take k++ [((ns p).getD i io,(a8 p ((ns p).getD i io)).getD k io,Cu p ((ns p).getD i io) ((a8 p ((ns p).getD i io)).getD k io))]:=by
    unfold bz;rw[<-abB,aK d,Yk];simp
   have F:((bz p ((ns p).getD i io)).take k).length<=64:=by rw[YV];omega
   have I:(((ns p).take i).flatMap (bz p)++(bz p ((ns p).getD i io)).take k).length<=100000:=by rw[Yg];omega
   have C:lw (bY .str (c5 (aD p) ((ns p).getD i io)) ((a8 p ((ns p).getD i io)).getD k io) 0=2)=Cu p ((ns p).getD i io) ((a8 p ((ns p).getD i io)).getD k io):=by
    rw[GU,Cu];exact decide_eq_decide.2 (by omega)
   have A:((ns p).take i).flatMap (bz p)++(bz p ((ns p).getD i io)).take (k+1)=(((ns p).take i).flatMap (bz p)++(bz p ((ns p).getD i io)).take k)++ [((ns p).getD i io,(a8 p ((ns p).getD i io)).getD k io,lw (bY .str (c5 (aD p) ((ns p).getD i io)) ((a8 p ((ns p).getD i io)).getD k io) 0=2))]:=by
    rw[u,C,Yu]
   clear u C;generalize((ns p).take i).flatMap (bz p)++(bz p ((ns p).getD i io)).take k=L at*
   refine gM 15 Z (uu ab (.iv (tD (c5 (aD p) ((ns p).getD i io)))) Z Z Z Z (qv p _ B) Z ?_);refine gA Z ⟨d,ac,[5],zM (bv (bv ⟨.row (by rw[A,Yg];rfl),rfl,bv (bv (bv (bv (bv (bv ac)))))⟩)) (hR Z (by rw[A,Yk];rfl) Z ac)⟩
  .have d:(a8 p ((ns p).getD i io)).length<=k:=by simpa using d
   have e:(bz p ((ns p).getD i io)).take k=bz p ((ns p).getD i io):=Yn (by unfold bz;rw[YH];exact d);refine gA Z ⟨b,ac,[3],zM (bv ⟨.row (by rw[e,x]),rfl,bv (bv (bv ac))⟩) (hR Z (by rw[e,x]) Z ac)⟩
 .have b:=co b;rw[Yn b];refine gA Z (cG (by first|exact .inr Z|exact .inl Z) Z Z (rfl) (rfl))
theorem GH(d:fD)(p:Prog)(n:Int)(hb:p.fit)(hs:p.size<=10000000):Pure prog 20 [ag p.c,pI n] (pB (fv p n)):=by
 have A:p.rules.length<=1000000000:=hb.2.1;by_cases k1:(bu p).1=0;rotate_left
 .rw[show fv p n=li by unfold fv;rw[decide_eq_false k1];simp];refine ad ab func20 Z (by decide) ntmps20 Z (by simp) Z ?_;refine gA Z (zp (Bz d hb k1) ?_);refine zJ Z Z (fun b=>?_) fun b=>?_
  .cases b
  exact zU Z
 have u:=gx k1;refine ad ab func20 Z (by decide) ntmps20 Z (by simp) Z ?_;refine gA Z (zp (xE d hb k1) ?_);refine zE Z Z (fun b=>?_) fun b=>?_
 .cases b
 refine zE Z Z (fun g1=>?_) fun g1=>?_
 .have g1: ¬1<=n:=by simpa using g1
  rw[show fv p n=li by unfold fv;rw[decide_eq_false g1];simp];exact zU Z
 have g1:1<=n:=by simpa using g1
 refine zE Z Z (fun g2=>?_) fun g2=>?_
 .have g2: ¬n<=p.rules.length:=by simpa using g2
  rw[show fv p n=li by unfold fv;rw[decide_eq_false g2];simp];exact zU Z
 have g2:n<=p.rules.length:=by simpa using g2
 have x:(n-1).toNat<p.rules.length:=by omega
 have y:=bx (l:=p.rules) x;have j:fv p n=jm p (p.rules.getD (n-1).toNat io):=by unfold fv;rw[decide_eq_true k1,decide_eq_true g1,decide_eq_true g2];rfl
 refine gA Z (TF ab [] (Fk d u (rr hs)) Z Z Z Z Z Z Z Z Z Z Z (by(repeat' (first|exact ac|exact rfl|exact aG.refl _|exact aG.bk (by assumption)|apply YW))<;>first|omega|(simp only[YK];omega)|(simp;done)|(simp;omega)) ?_);rintro r B C ⟨m,hR,rfl,rfl,rfl⟩;refine⟨_,rfl,_,rfl,(by(repeat' (first|exact ac|exact rfl|exact aG.refl _|exact aG.bk (by assumption)|apply YW))<;>first|omega|(simp only[YK];omega)|(simp;done)|(simp;omega)),?_⟩;refine gA Z (kR (Kn m (p.rules.getD (n-1).toNat io)) ?_);refine gA Z (zL (.of_eq ?_));rw[j,<-KB u hR y];rfl
end Go.Proofs.YtflegjieadkonaaGreatDoor
namespace Go.Proofs.YtflegjieadkonaaGreatDoor
open Go Go.Al
section
section
variable {X:Type} (f:X->AO)
def fh(L:List (Nat×Nat×X)):bc:=fun c=>(L.find? fun y=>y.1==c).map fun y=> .obj (f y.2.2) y.2.1
theorem cW(L:List (Nat×Nat×X)):(fh f L).still:=by
 intro b i e h;unfold fh at h;cases hf:L.find? fun y=>y.1==b<;>rw[hf]at h<;>cases h
theorem Er: ∀{L:List (Nat×Nat×X)} {j:Nat} {y:Nat×Nat×X},(L.map YI).Nodup->L[j]? =jp y->L.find? (fun z=>z.1==y.1)=jp y
 | [],_,_,_,h=>by simp at h
 |x::L,0,y,_,h=>by
  simp only[aaV,Yh]at h;subst h;simp
 |x::L,j+1,y,hn,h=>by
  rw[aau]at h;rw[Yz,Zo]at hn;have b: ¬x.1=y.1:=fun e=>hn.1 (e▸Zs (YL h));rw[abm (by simpa using b)];exact Er hn.2 h
theorem df{L:List (Nat×Nat×X)}{j:Nat}{y:Nat×Nat×X}(hn:(L.map YI).Nodup)(h:L[j]? =jp y):fh f L y.1=jp (.obj (f y.2.2) y.2.1):=by
 unfold fh;rw[Er hn h];rfl
theorem kA{L:List (Nat×Nat×X)}{c:Nat}(h:c∉L.map YI):fh f L c=kw:=by
 unfold fh;rw[aax,Zx];intro y b;simp only[beq_iff_eq];exact fun e=>h (e▸Zs b)
theorem tU{L:List (Nat×Nat×X)}{c:Nat}(h:fh f L c=kw):c∉L.map YI:=by
 intro b;obtain⟨y,d,rfl⟩:=YP.1 b;unfold fh at h;rw[aax,Zx]at h;exact h y d (by simp)
theorem qi{L:List (Nat×Nat×X)}{y:Nat×Nat×X}(hn:(L.map YI).Nodup)(h:y.1∉L.map YI):((L++ [y]).map YI).Nodup:=by
 rw[Yk,Z2];exact⟨hn,by simp,fun u hu v b g=>h (by simp at b;subst g;subst b;exact hu)⟩
theorem sR{L:List (Nat×Nat×X)}{y:Nat×Nat×X}(hn:(L.map YI).Nodup)(h:y.1∉L.map YI):(fh f L).put y.1 (.obj (f y.2.2) y.2.1)=fh f (L++ [y]):=by
 funext c
 have b:=qi hn h;unfold bc.put;by_cases d:c=y.1
 .subst d;rw[am Z,df f b (j:=L.length) (y:=y) (by simp)]
 .rw[be d];by_cases x:c∈L.map YI
  .obtain⟨z,A,rfl⟩:=YP.1 x;obtain⟨i,u⟩:=Y9 A;rw[df f hn u,df f b (j:=i) (by rw[YA (Yj.1 u).1];exact u)]
  .rw[kA f x,kA f (by simp only[Yk,Ys,not_or];exact⟨x,by simpa using d⟩)]
theorem K8{α:Type}{l:List α}:l.Nodup↔ ∀(i j:Nat) (x:α),l[i]? =jp x->l[j]? =jp x->i=j:=by
 constructor
 .intro h i j x b d;obtain⟨B,u⟩:=Yj.1 b;obtain⟨C,y⟩:=Yj.1 d;exact(aaM h).1 (u.trans y.symm)
 .intro h;rw[List.nodup_iff_pairwise_ne,aaN];intro i j b d A e;have:=h i j l[i] (Yi b) (by rw[Yi d,e]);omega
theorem oW{L:List (Nat×Nat×X)}{i:Nat}{y y':Nat×Nat×X}(hn:(L.map YI).Nodup)(B:L[i]? =jp y)(h:y'.1∉L.map YI∨y'.1=y.1):((L.set i y').map YI).Nodup:=by
 rw[ZV];have A:=(Yj.1 B).1;have u:(L.map YI)[i]? =jp y.1:=by rw[Yo,B];rfl
 rw[K8]at hn ⊢;have j: ∀k,(L.map YI)[k]? =jp y'.1->i=k:=by
  intro k e;rcases h with h|h
  .exact absurd (YL e) h
  .rw[h]at e;exact hn _ _ _ u e
 intro a b x d hb;rw[Y4]at d hb;split at d
 .rw[am (by simpa using A)]at d;cases d;split at hb
  .omega
  .have:=j b hb;omega
 .split at hb
  .rw[am (by simpa using A)]at hb;cases hb;have:=j a d;omega
  .exact hn a b x d hb
theorem Ip{L:List (Nat×Nat×X)}{i j e:Nat}{y y':Nat×Nat×X}(hn:(L.map YI).Nodup)(B:L[i]? =jp y)(h:y'.1∉L.map YI∨y'.1=y.1):
  (((fh f L).put y.1 (.out j e)).drop y.1).put y'.1 (.obj (f y'.2.2) y'.2.1)=fh f (L.set i y'):=by
 funext c
 have x:=oW hn B h;have C:=(Yj.1 B).1;unfold bc.put bc.drop;by_cases A:c=y'.1
 .subst A;rw[am Z,df f x (j:=i) (y:=y') (by rw[Y4,am Z,am C])]
 .rw[be A];by_cases d:c=y.1
  .rw[am d,kA f];rw[ZV];intro u;obtain⟨k,b⟩:=Y9 u;rw[Y4]at b;split at b
   .rw[am (by simpa using C)]at b;cases b;exact A Z
   .rename_i D;have F:(L.map YI)[i]? =jp y.1:=by rw[Yo,B];rfl
    rw[d]at b;exact D (K8.1 hn _ _ _ F b)
  .rw[be d];show(if c=y.1 then _ else fh f L c)=_;rw[be d];by_cases u:c∈L.map YI
   .obtain⟨z,J,rfl⟩:=YP.1 u;obtain⟨k,b⟩:=Y9 J;have G: ¬i=k:=fun g=>d (by subst g;rw[B]at b;cases b;rfl);rw[df f hn b,df f x (j:=k) (by rw[Y4,be G];exact b)]
   .rw[kA f u,kA f];rw[ZV];intro I;obtain⟨k,b⟩:=Y9 I;rw[Y4]at b;split at b
    .rw[am (by simpa using C)]at b;cases b;exact A Z
    .exact u (YL b)
end
end
section
section
variable {nt:Nat} {all:List Oper} {todo pend:List (Nat×Oper)} {R:XQ} {s s':AS} {X:bc}
theorem dR(n:Nat){C:Prop}{d b:List (Nat×Oper)}(h:R9 pC nt all n todo pend s True=(C,d,b,s'))(g:Cw Tryz.prog nt all d b R s' X)
  (hC:C:=by(repeat' (first|exact ac|exact rfl|exact aG.refl _|exact aG.bk (by assumption)|apply YW))<;>first|omega|exact fL (fun _=>rfl) _|(simp only[YK];omega)|(simp;done)|(simp;omega)):Cw Tryz.prog nt all todo pend R s X:=P7 ab n h hC g
theorem dO{j:Nat}{o:Oper}{C b:Prop}(hrd:eJ todo=[(j,o)])(ho:WC pC nt s o=jp (C,s'))(hg:cE nt all s.f o=jp lc)(hpb:iW all pend o=lc)(hE:oA todo [j]=lc)(hag:dK pC nt all s' (bg pend o)=jp b)
  (h:Cw Tryz.prog nt all (todo.filter fun x=>!YJ x.1 j) (bg pend o) R s' X)
  (hC:C∧b:=by(repeat' (first|exact ac|exact rfl|exact aG.refl _|exact aG.bk (by assumption)|apply YW))<;>first|omega|exact fL (fun _=>rfl) _|(simp only[YK];omega)|(simp;done)|(simp;omega)):Cw Tryz.prog nt all todo pend R s X:=
 TU ab hrd ho hg hpb hE hag hC.1 hC.2 h
end
end
section
section
variable {V:Type}
theorem Lf{m:List ((KC.int .i64).K×V)}{s t:Int}{v z:V}:bY (.int .i64) (ck (.int .i64) m s v) t z=if s=t then v else bY (.int .i64) m t z:=by
 induction m with
 |nil=>simp only[ck,bY]
 |cons x r ih=>
  obtain⟨a,b⟩:=x;simp only[ck];by_cases h:a=s
  .rw[am h];simp only[bY];by_cases d:s=t
   .simp[d]
   .have: ¬a=t:=fun e=>d (h▸e)
    rw[be d,be d,be this]
  .rw[be h];simp only[bY,ih];by_cases d:a=t
   .have: ¬s=t:=fun e=>h (d.trans e.symm)
    simp[d,this]
   .simp[d]
theorem Lq{m:List ((KC.int .i64).K×V)}{s:Int}{v:V}(h:s∈m.map YI):(ck (.int .i64) m s v).map YI=m.map YI:=by
 induction m with
 |nil=>simp at h
 |cons x r ih=>
  obtain⟨a,b⟩:=x;simp only[ck];by_cases d:a=s
  .rw[am d];simp[d]
  .have: ¬s=a:=fun e=>d e.symm
   rw[be d,Yz,ih (by simpa[this]using h)];rfl
theorem Dp{m:List ((KC.int .i64).K×V)}{s:Int}{v:V}(h:s∉m.map YI):ck (.int .i64) m s v=m++ [(s,v)]:=by
 induction m with
 |nil=>simp[ck]
 |cons x r ih=>
  obtain⟨a,b⟩:=x;simp only[Yz,Yx,not_or]at h;have: ¬a=s:=fun e=>h.1 e.symm;simp only[ck,be this,ih h.2];rfl
theorem FI{m:List ((KC.int .i64).K×V)}{t:Int}{z:V}(h:t∉m.map YI):bY (.int .i64) m t z=z:=by
 induction m with
 |nil=>rfl
 |cons x r ih=>
  obtain⟨a,b⟩:=x;simp only[Yz,Yx,not_or]at h;have: ¬a=t:=fun e=>h.1 e.symm;simp only[bY,be this];exact ih h.2
theorem PC{m:List ((KC.int .i64).K×V)}{t:Int}{z:V}(h:t∈m.map YI):(t,bY (.int .i64) m t z)∈m:=by
 induction m with
 |nil=>simp at h
 |cons x r ih=>
  obtain⟨a,b⟩:=x;by_cases d:a=t
  .simp only[bY,am d];exact d▸Yy ..
  .have j: ¬t=a:=fun e=>d e.symm
   simp only[bY,be d];exact Yt _ (ih (by simpa[j]using h))
end
abbrev Wu:=List ((KC.int .i64).K×List aj)
def Jz(ring:aj->Int)(G:Wu)(a:aj):Wu:=ck (.int .i64) G (ring a) (bY (.int .i64) G (ring a) []++ [a])
def rM(ring:aj->Int)(l:List aj):Wu:=l.foldl (Jz ring) []
theorem Ea(ring:aj->Int)(l:List aj)(a:aj):rM ring (l++ [a])=Jz ring (rM ring l) a:=by simp[rM,Z7]
theorem FY(ring:aj->Int)(l:List aj)(k:Int):bY (.int .i64) (rM ring l) k []=l.filter fun b=>lw (ring b=k):=by
 induction l using mu with
 |h0=>rfl
 |h1 l a ih=>
  rw[Ea,Jz,Lf,aaq];by_cases h:ring a=k
  .rw[am h,h,ih];simp[h]
  .rw[be h,ih];simp[h]
theorem ou(ring:aj->Int)(l:List aj):((rM ring l).map YI).Nodup∧ ∀k:Int,k∈(rM ring l).map YI↔ ∃a∈l,ring a=k:=by
 induction l using mu with
 |h0=>exact⟨Zd,fun k=>by simp[rM]⟩
 |h1 l a ih=>
  obtain⟨j,d⟩:=ih;rw[Ea,Jz];by_cases h:ring a∈(rM ring l).map YI
  .rw[Lq h];refine⟨j,fun k=>?_⟩;rw[d];constructor
   .rintro⟨b,hb,e⟩;exact⟨b,YQ _ hb,e⟩
   .rintro⟨b,hb,e⟩;rcases Ys.1 hb with hb|hb
    .exact⟨b,hb,e⟩
    .rw[Yr]at hb;subst hb;rw[<-e];exact(d _).1 h
  .rw[Dp h,Yk];refine⟨Z2.2 ⟨j,by simp,fun u hu v x e=>?_⟩,fun k=>?_⟩
   .simp only[Yz,Y7,Yr]at x;subst x;subst e;exact h hu
   .rw[Ys,d];constructor
    .rintro(⟨b,hb,e⟩|hk)
     .exact⟨b,YQ _ hb,e⟩
     .simp only[Yz,Y7,Yr]at hk;exact⟨a,by simp,hk.symm⟩
    .rintro⟨b,hb,e⟩;rcases Ys.1 hb with hb|hb
     .exact .inl ⟨b,hb,e⟩
     .rw[Yr]at hb;subst hb;exact .inr (by simp[e])
abbrev Sj:=List ((KC.int .i64).K×Int)
def dn(dm:Sj)(x:Int):Bool:=lw (x∈dm.map YI)
section
variable {p:Prog} {ring:aj->Int} {dm:Sj} {out:List (List aj)}
def OI(p:Prog)(a:aj):List aj:=(ns p).filter (eg p a)
def L5(p:Prog)(ring:aj->Int)(dm:Sj)(a:aj):Bool:=Go.Rg.AN (ns p) (OI p) ring (dn dm) a
structure H0 (p:Prog) (ring:aj->Int) (dm:Sj) (out:List (List aj)):Prop where
 one: ∀e∈dm,e.2=1
 nd:(dm.map YI).Nodup
 sub: ∀k∈dm.map YI,∃a∈ns p,ring a=k
 cl:Go.Co.closed (ns p).length (bQ p) fun j=>dn dm (ring ((ns p).getD j io))
 eq: ∃f,f+dm.length=(ns p).length∧out++Go.Rg.mV (ns p) (OI p) ring f (dn dm)=Go.Rg.mV (ns p) (OI p) ring (ns p).length fun _=>li
 len:out.length=dm.length
theorem T3:H0 p ring [] []:=
 ⟨fun _ h=>(nomatch h),Zd,fun _ h=>(nomatch h),fun _ _ _ h=>by simp[dn]at h,⟨(ns p).length,rfl,by congr 1⟩,rfl⟩
theorem H0.lk(h:H0 p ring dm out)(x:Int):bY (.int .i64) dm x 0=if dn dm x then 1 else 0:=by
 unfold dn;by_cases b:x∈dm.map YI
 .simp only[b,decide_true,if_true];exact h.one _ (PC b)
 .simp only[b,decide_false,ZH,if_false];exact FI b
theorem H0.le(h:H0 p ring dm out):dm.length<=(ns p).length:=by
 obtain⟨f,b,_⟩:=h.eq;omega
theorem TA(p:Prog)(ring:aj->Int):(rM ring (ns p)).length<=(ns p).length:=by
 have:=Zl (ou ring (ns p)).1 (l₂:=(ns p).map ring) (fun k d=>by
  obtain⟨a,b,rfl⟩:=((ou ring (ns p)).2 k).1 d
  exact Zs b)
 simpa using this
theorem H0.done(h:H0 p ring dm out)(hg:(rM ring (ns p)).length<=dm.length):out=Go.Rg.mV (ns p) (OI p) ring (ns p).length fun _=>li:=by
 have b: ∀a∈ns p,dn dm (ring a)=lc:=fun a d=>by
  unfold dn;rw[decide_eq_true_eq];rcases abM (ring a∈dm.map YI) with h1|h1
  .exact h1
  .exfalso
   have:=Zl (Zo.2 ⟨h1,h.nd⟩) (l₂:=(rM ring (ns p)).map YI) (fun k hk=>by
    rcases Yx.1 hk with rfl|hk
    .exact((ou ring (ns p)).2 _).2 ⟨a,d,rfl⟩
    .exact((ou ring (ns p)).2 _).2 (h.sub k hk))
   simp at this;omega
 obtain⟨f,_,j⟩:=h.eq;have u:Go.Rg.mV (ns p) (OI p) ring f (dn dm)=[]:=by
  cases f with
  |zero=>rfl
  |succ f=>
   unfold Go.Rg.mV;rw[Zx.2 fun a d=>by simp[b a d]]
 rw[u,Y0]at j;exact j
theorem H0.has(hr:Go.Rg.oJ (ns p) (eg p) ring)(h:H0 p ring dm out)(hg:dm.length<(rM ring (ns p)).length): ∃a∈ns p,dn dm (ring a)=li∧L5 p ring dm a=lc:=by
 have a0: ∃i,i<(ns p).length∧dn dm (ring ((ns p).getD i io))=li:=by
  rcases abM (∃i,i<(ns p).length∧dn dm (ring ((ns p).getD i io))=li) with h1|h1
  .exact h1
  .exfalso
   have:=Zl (ou ring (ns p)).1 (l₂:=dm.map YI) (fun k y=>by
    obtain⟨a,x,rfl⟩:=((ou ring (ns p)).2 k).1 y;obtain⟨i,d,rfl⟩:=Go.Rg.kO x;have u:dn dm (ring ((ns p).getD i io))=lc:=by
     cases h3:dn dm (ring ((ns p).getD i io)) with
     |true=>rfl
     |false=>exact absurd ⟨i,d,h3⟩ h1
    exact zT u)
   simp at this;omega
 obtain⟨i,d,h1,u⟩:=Go.Co.wb (Go.Rg.qE (ns p) (eg p)) (done:=fun j=>dn dm (ring ((ns p).getD j io))) a0;refine⟨_,Go.Rg.get_mem d,h1,?_⟩;unfold L5;rw[Go.Rg.vz hr (fun a _ b=>by rw[OI,YO]) d,<-Go.Co.Cc (Go.Rg.qE (ns p) (eg p)) h.cl d];exact u
theorem H0.step(hr:Go.Rg.oJ (ns p) (eg p) ring)(h:H0 p ring dm out){i:Nat}(hi:i<(ns p).length)(hb: ∀b∈(ns p).take i,(!dn dm (ring b)&&L5 p ring dm b)=li)(h1:dn dm (ring ((ns p).getD i io))=li)(h2:L5 p ring dm ((ns p).getD i io)=lc):
  H0 p ring (ck (.int .i64) dm (ring ((ns p).getD i io)) 1) (out++ [bY (.int .i64) (rM ring (ns p)) (ring ((ns p).getD i io)) []]):=by
 have hk:ring ((ns p).getD i io)∉dm.map YI:=zF h1;have C: ∀x:Int,dn (dm++ [(ring ((ns p).getD i io),1)]) x=(lw (x=ring ((ns p).getD i io))||dn dm x):=fun x=>by
  unfold dn;rw[YU];simp only[Yk,Yz,Y7,Ys,Yr,Y3,decide_eq_true_eq];exact or_comm
 have S:Go.Co.cX (ns p).length (bQ p) (fun j=>dn dm (ring ((ns p).getD j io))) i=lc:=by
  have:=h2;unfold L5 at this;rw[Go.Rg.vz hr (fun a _ b=>by rw[OI,YO]) hi,<-Go.Co.Cc (Go.Rg.qE (ns p) (eg p)) h.cl hi]at this;exact this
 have F:=Go.Co.qK (Go.Rg.qE (ns p) (eg p)) h.cl hi S;have B: ∀j,j<(ns p).length->dn (dm++ [(ring ((ns p).getD i io),1)]) (ring ((ns p).getD j io))=(dn dm (ring ((ns p).getD j io))||Go.Co.cls (bQ p) i j):=fun j I=>by
  rw[C,Bool.or_comm];congr 1;have:=hr j i I hi;rw[YU,decide_eq_true_eq,this];simp[Go.Co.cls,bQ,and_comm]
 have Y:dm.length<(ns p).length:=by
  have:=Zl (Zo.2 ⟨hk,h.nd⟩) (l₂:=(ns p).map ring) (fun k hk=>by
   rcases Yx.1 hk with rfl|hk
   .exact Zs (Go.Rg.get_mem hi)
   .obtain⟨a,y,rfl⟩:=h.sub k hk
    exact Zs y)
  simp at this;omega
 rw[Dp hk];refine⟨fun e he=>?_,?_,fun k hk2=>?_,fun a b y d A=>?_,?_,by simp[h.len]⟩
 .rcases Ys.1 he with he|he
  .exact h.one e he
  .rw[Yr]at he;subst he;rfl
 .rw[Yk];exact Z2.2 ⟨h.nd,by simp,fun u hu v J e=>by simp only[Yz,Y7,Yr]at J;subst J;subst e;exact hk hu⟩
 .rw[Yk]at hk2;rcases Ys.1 hk2 with hk2|hk2
  .exact h.sub k hk2
  .simp only[Yz,Y7,Yr]at hk2;exact⟨_,Go.Rg.get_mem hi,hk2.symm⟩
 .have D:=(Go.Rg.qE (ns p) (eg p)).lt a b y A;have d:=(B a y).symm.trans d;show dn _ _=lc;rw[B b D];exact F a b y d A
 .obtain⟨f,hf,he⟩:=h.eq;cases f with
  |zero=>omega
  |succ f=>
   refine⟨f,by simp;omega,?_⟩;rw[<-he,Yu];congr 1
   conv=>rhs;unfold Go.Rg.mV
   have G:(ns p).find? (fun a=>!dn dm (ring a)&&Go.Rg.AN (ns p) (OI p) ring (dn dm) a)=jp ((ns p).getD i io):=by
    rw[aar];refine⟨by simp only[h1,aaC,Zc];exact h2,i,hi,by rw[Ye,Yi hi];rfl,fun j I=>?_⟩;have:=hb ((ns p)[j]'(by omega)) (by rw[aam];exact⟨j,by omega,rfl⟩);unfold L5 at this;rw[this];rfl
   rw[G];simp only[FY];rw[show dn (dm++ [(ring ((ns p).getD i io),1)])=fun x=>lw (x=ring ((ns p).getD i io))||dn dm x from funext C];rfl
end
end
end Go.Proofs.YtflegjieadkonaaGreatDoor
namespace Go.Proofs.YtflegjieadkonaaGreatDoor
open Go Go.Al Go.Proofs.Tryz
abbrev Wv:=Int×Nat×List aj
abbrev GL:=List (Nat×Nat×Wv)
def fR(x:Wv):AO:=aC 1 x.2.2 cR
def S6(o:Option (Nat×Nat×Nat)):Value:=match o with
 |none=> .slice kw 0 0
 |some (b,len,cap)=> .slice (jp ⟨b,0,kw⟩) len cap
def Pe(o:Option (Nat×Nat×Nat)):IV:= .v (S6 o)
def dvS(p:PV):Option (Nat×Nat×Nat):=match p with
 | .iv (.v (.slice (jp ⟨b,0,kw⟩) len cap))=>jp (b,len,cap)
 |_=>kw
abbrev OM:=List ((KC.int .i64).K×Option (Nat×Nat×Nat))
abbrev Vq(m:OM):AO:= .map (.int .i64) Pe kw (.slice kw 0 0) dvS m
def ofM(L:GL):OM:=L.map fun y=>(y.2.2.1,jp (y.1,y.2.2.2.2.length,y.2.2.2.1))
def rL(L:GL):Wu:=L.map fun y=>(y.2.2.1,y.2.2.2.2)
structure Uk (L:GL):Prop where
 nd:(L.map YI).Nodup
 ok: ∀y∈L,y.2.2.2.2≠ []∧y.2.2.2.2.length<=y.2.2.2.1∧y.2.2.2.1<=maxLen∧y.2.2.2.1*1=y.2.1
theorem HE(L:GL)(k:Int):lB (.int .i64) (ofM L) k=lB (.int .i64) (rL L) k:=by
 induction L with
 |nil=>rfl
 |cons y L b=>
  have b:lB (.int .i64) (ofM L) k=lB (.int .i64) (rL L) k:=b;unfold ofM rL at b ⊢;simp only[Yz,lB,b]
theorem Dc(l:List aj):(aC 1 l cR).all PV.flat:=by
 intro e b q d;obtain⟨s,_,rfl⟩:=YP.1 b;obtain⟨x,_,rfl⟩:=YP.1 d;trivial
theorem Kv{l:List aj}{a:aj}:(aC 1 (l++ [a]) cR).real=lc:=by cases l<;>rfl
theorem Fe{L:GL}{b j e:Nat}:(((fh fR L).put b (.out j e)).drop b).still:=by
 intro c i g h;unfold bc.drop bc.put at h;split at h
 .cases h
 .exact cW fR L c i g h
theorem Pq{ring:aj->Int}{L:GL}{l:List aj}{a:aj}(hg:rL L=rM ring l):
  (lB (.int .i64) (ofM L) (ring a)=kw∧bY (.int .i64) (ofM L) (ring a) kw=kw∧(∀b e a0,ck (.int .i64) (ofM L) (ring a) (jp (b,1,a0))=ofM (L++ [(b,e,ring a,a0,[a])])∧rL (L++ [(b,e,ring a,a0,[a])])=rM ring (l++ [a])))∨
  ∃i y,L[i]? =jp y∧bY (.int .i64) (ofM L) (ring a) kw=jp (y.1,y.2.2.2.2.length,y.2.2.2.1)∧(∀b e a0,ck (.int .i64) (ofM L) (ring a) (jp (b,y.2.2.2.2.length+1,a0))=ofM (L.set i (b,e,ring a,a0,y.2.2.2.2++ [a]))∧rL (L.set i (b,e,ring a,a0,y.2.2.2.2++ [a]))=rM ring (l++ [a])):=by
 have A:rM ring (l++ [a])=Jz ring (rL L) a:=by rw[hg];simp[rM,Z7]
 rw[A,Jz];cases hf:lB (.int .i64) (ofM L) (ring a) with
 |none=>
  obtain⟨d,_,u,_⟩:=mc hf;rw[HE]at hf;obtain⟨x,_,C,_⟩:=mc hf;exact .inl ⟨rfl,d kw,fun b e a0=>⟨by rw[u];simp[ofM],by rw[C,x];simp[rL]⟩⟩
 |some i=>
  right;obtain⟨v,d,u,_,x,_⟩:=mb hf;rw[HE]at hf;obtain⟨F,g1,g2,_,g3,_⟩:=mb hf;have j: ∃y,L[i]? =jp y:=by
   unfold ofM at d;rw[Yo,Yq]at d;obtain⟨y,j,_⟩:=d;exact⟨y,j⟩
  obtain⟨y,j⟩:=j;have D:v=jp (y.1,y.2.2.2.2.length,y.2.2.2.1):=by
   unfold ofM at d;rw[Yo,j]at d;simp only[Zg,Yh,Yw]at d;exact d.2.symm
  have B:F=y.2.2.2.2:=by
   unfold rL at g1;rw[Yo,j]at g1;simp only[Zg,Yh,Yw]at g1;exact g1.2.symm
  refine⟨i,y,j,by rw[u kw,D],fun b e a0=>⟨?_,?_⟩⟩
  .rw[x];unfold ofM;rw[ZV];simp
  .rw[g3,g2 [],B];unfold rL;rw[ZV]
theorem Po{L:GL}{y:Nat×Nat×Wv}(h:Uk L)(hb:y.1∉L.map YI)(b:y.2.2.2.2≠ []∧y.2.2.2.2.length<=y.2.2.2.1∧y.2.2.2.1<=maxLen∧y.2.2.2.1*1=y.2.1):Uk (L++ [y]):=
 ⟨qi h.nd hb,fun z hz=>by
  rcases Ys.1 hz with hz|hz
  .exact h.ok z hz
  .rw[Yr]at hz;subst hz;exact b⟩
theorem To{L:GL}{i:Nat}{y y':Nat×Nat×Wv}(h:Uk L)(hi:L[i]? =jp y)(hb:y'.1∉L.map YI∨y'.1=y.1)(d:y'.2.2.2.2≠ []∧y'.2.2.2.2.length<=y'.2.2.2.1∧y'.2.2.2.1<=maxLen∧y'.2.2.2.1*1=y'.2.1):Uk (L.set i y'):=
 ⟨oW h.nd hi hb,fun z b=>by
  rcases aaP b with b|rfl
  .exact h.ok z b
  .exact d⟩
theorem Ji{L:GL}{c j e:Nat}{y:Nat×Nat×Wv}(h:((fh fR L).put y.1 (.out j e)).drop y.1 c=kw):c∉L.map YI∨c=y.1:=by
 by_cases b:c=y.1
 .exact .inr b
 .unfold bc.drop bc.put at h;rw[be b,be b]at h;exact .inl (tU fR h)
def W1(_:PV):List aj:=[]
theorem UB{L:GL}(h:Uk L):Nb (fh fR L) (Vq (ofM L)) (.map (.int .i64) strs [] (.slice kw 0 0) W1 (rL L)):=by
 refine .map _ _ _ _ _ _ _ _ _ _ (by simp[ofM,rL]) (fun j C b=>?_) fun M=> .lz ..
 .unfold rL at b;rw[Yo,Yq]at b;obtain⟨y,d,rfl⟩:=b;obtain⟨A,u,x,B⟩:=h.ok y (YL d);refine⟨(y.2.2.1,jp (y.1,y.2.2.2.2.length,y.2.2.2.1)),.slice (jp ⟨y.1,0,kw⟩) y.2.2.2.2.length y.2.2.2.1,?_,rfl,rfl,?_⟩
  .unfold ofM;rw[Yo,d];rfl
  .exact .row y.1 _ _ 1 y.2.1 _ _ (df fR h.nd d) (by simp) u x (cL Z)
abbrev VK(G:Wu):AO:= .map (.int .i64) strs [] (.slice kw 0 0) W1 G
abbrev VS(dm:Sj):AO:= .map (.int .i64) yw 0 (.int .i64 0) WD dm
def okC(p:Prog)(ring:aj->Int)(dm:Sj)(a b:aj):Bool:=(a8 p b).all fun c=>lw (ring c=ring a)||dn dm (ring c)
theorem TL(p:Prog)(ring:aj->Int)(dm:Sj)(a:aj):L5 p ring dm a=(bY (.int .i64) (rM ring (ns p)) (ring a) []).all (okC p ring dm a):=by
 rw[FY];rfl
theorem mem_row{p:Prog}(h:jP p)(a b:aj):b∈(c5 (aD p) a).map YI↔b∈a8 p a:=by
 rw[<-nr h a,db]
def kh(p:Prog):List (List aj):=if(bu p).1=0 then dc p else[]
def pn(l:List aj):List IV:=[strs l]
theorem GN(hS:fD){p:Prog}(hb:p.fit)(hs:p.size<=10000000)(k1:(bu p).1=0):Pure prog 14 [ag p.c] (.iv (cT 1 (dc p) pn)):=by
 have hf:=gx k1;have hn:=jr hf;refine ad ab func14 Z (by decide) ntmps14 Z (by simp) Z ?_;refine gA Z (zp (xE hS hb k1) ?_);refine gA Z (Eh [] (Fk hS hf (rr hs)) Z Z Z Z Z Z Z ?_);rintro r h' n' ⟨m,hRm,rfl,rfl,rfl⟩;refine⟨_,rfl,?_⟩
 let ring:aj->Int:=fun a=>bY .str m a 0
 refine gM 2 Z (Hq ?_);refine aH (b7 ?_);refine gA Z ?_;refine aH (aH (gp ⟨[(3,.iv (ru (bE p (aD p)))),(5,.iv (tD m)),(6,.mp 1),(25,.iv (strs (ns p))),(26,pI (ns p).length),(27,pI 0)],[(1,jp (Vq []))],2⟩ ?_ ?_))
 .refine gA Z (zp (n7 hS hf (aD p)) ?_);refine gA Z (j6 [] ?_);exact zW (LD Z (fun _=> .v _) Z ac)
 refine bV (kI 0 (ns p).length (Yl _) (fun i (x:ULift.{1} GL)=>⟨[(3,.iv (ru (bE p (aD p)))),(5,.iv (tD m)),(6,.mp 1),(25,.iv (strs (ns p))),(26,pI (ns p).length),(27,pI i)],[(1,jp (Vq (ofM x.down)))],2⟩)
  (fun i x Y=>Y=fh fR x.down∧Uk x.down∧rL x.down=rM ring ((ns p).take i)∧ ∀y∈x.down,y.2.2.2.2.length<=i) ⟨[]⟩ [] ⟨rfl,⟨Zd,fun y C=>(nomatch C)⟩,rfl,fun y C=>(nomatch C)⟩
  (zW (zC ac)) (fun _ _ _ h=>h.1▸cW fR _) fun i x Y hi hJ=>?_)
 obtain⟨rfl,A,I,J⟩:=hJ;obtain⟨L⟩:=x;have A:Uk L:=A;have I:rL L=rM ring ((ns p).take i):=I;have J: ∀y∈L,y.2.2.2.2.length<=i:=J;refine aH (b7 ?_);refine gA Z ?_;refine aH (eV Z (fun h1=>fo ?_) (fun h1=>iE ?_))
 .have h1:=ci h1;have d0:=Pq (ring:=ring) (a:=(ns p).getD i io) I;rw[<-aK h1]at d0;refine aH (bV (aH (b7 ?_)));refine gA Z ?_;refine LF cz Z Z Z ?_;refine dR 10 Z ?_;refine dO Z Z Z Z Z Z ?_;rcases d0 with⟨_,D,hnew⟩|⟨j,y,C,D,hnew⟩
  .refine qH (RT (d:=39) (p:= .iv (.v (.slice kw 0 0))) (.of_eq (show PV.iv (.v (S6 (bY (.int .i64) (ofM L) (ring ((ns p).getD i io)) kw)))=_ by rw[D];rfl))) fun t Y B=>?_
   obtain⟨rfl,rfl⟩:=B;refine dO Z Z Z Z Z Z ?_;refine qH (RS (t:=⟨[(3,.iv (ru (bE p (aD p)))),(5,.iv (tD m)),(6,.mp 1),(25,.iv (strs (ns p))),(26,pI (ns p).length),(27,pI i),(31,.mp 1),(34,.iv (yw (ring ((ns p).getD i io)))),(42,.sl 4 0 1 1)],[(1,jp (Vq (ofM L))),(4,jp (aC 1 [(ns p).getD i io] cR))],5⟩) (L:=[]) (zW (zC (zS ac)))) fun t Y B=>?_;obtain⟨rfl,rfl⟩:=B;refine qH (q9 (i:=4) (d:=42) (cW fR L) Z Z (Dc _) Z (by simp)) fun t Y B=>?_;obtain⟨b,e,a0,f0,g1,g2,g3,rfl,rfl⟩:=B;refine dO Z Z Z Z Z Z ?_;refine HI ?_;refine lA (b7 ?_);refine gA Z ?_;have G:=tU fR f0;obtain⟨q1,q2⟩:=hnew b e a0
   exact⟨h1,⟨L++ [(b,e,ring ((ns p).getD i io),a0,[(ns p).getD i io])]⟩,[],⟨sR fR (y:=(b,e,ring ((ns p).getD i io),a0,[(ns p).getD i io])) A.nd G,Po A G ⟨by simp,by simpa using g1,g2,g3⟩,q2,fun z hz=>by
    rcases Ys.1 hz with hz|hz
    .have:=J z hz;omega
    .rw[Yr]at hz;subst hz;simp⟩,zW (hM Z q1 Z ac)⟩
  .obtain⟨k1,k2,k3,k4⟩:=A.ok y (YL C);have k5:=J y (YL C);refine qH (kv (d:=39) (sz:=1) (df fR A.nd C) (show PV.iv (.v (S6 (bY (.int .i64) (ofM L) (ring ((ns p).getD i io)) kw)))=_ by rw[D];rfl) (List.length_pos_iff.2 k1) k2 k3 k4) fun t Y B=>?_;obtain⟨rfl,rfl⟩:=B;refine qH (RT (d:=39) (p:= .sl 3 0 (y.2.2.2.2.map fun x=>(cR x).map PV.iv).length 1) (aG.row (by simp))) fun t Y B=>?_;obtain⟨rfl,rfl⟩:=B;refine dO Z Z Z Z Z Z ?_ ⟨?_,?_⟩;rotate_left
   .exact⟨rfl,by simp,rfl,by simp;omega,by simp;omega⟩
   .repeat' (first|exact ac|exact rfl|exact aG.refl _|apply YW)
   refine qH (RS (t:=⟨[(3,.iv (ru (bE p (aD p)))),(5,.iv (tD m)),(6,.mp 1),(25,.iv (strs (ns p))),(26,pI (ns p).length),(27,pI i),(31,.mp 1),(34,.iv (yw (ring ((ns p).getD i io)))),(42,.sl 4 0 (y.2.2.2.2.length+1) 1)],[(1,jp (Vq (ofM L))),(4,jp (aC 1 (y.2.2.2.2++ [(ns p).getD i io]) cR))],5⟩) (L:=[]) (zM (bv (bv (bv (bv (bv (bv (bv (bv ⟨.row (by simp),rfl,ac⟩)))))))) (zC (hR Z (by simp;rfl) Z ac)))) fun t Y B=>?_;obtain⟨rfl,rfl⟩:=B;refine qH (Ie y.1) fun t Y B=>?_;obtain⟨rfl,rfl⟩:=B;refine qH (q9 (i:=4) (d:=42) Fe Z Kv (Dc _) Z (by simp)) fun t Y B=>?_;obtain⟨b,e,a0,f0,g1,g2,g3,rfl,rfl⟩:=B;refine dO Z Z Z Z Z Z ?_;refine HI ?_;refine lA (b7 ?_);refine gA Z ?_;have G:=Ji f0;obtain⟨q1,q2⟩:=hnew b e a0
   exact⟨h1,⟨L.set j (b,e,ring ((ns p).getD i io),a0,y.2.2.2.2++ [(ns p).getD i io])⟩,[],⟨Ip fR (y':=(b,e,ring ((ns p).getD i io),a0,y.2.2.2.2++ [(ns p).getD i io])) A.nd C G,To A C G ⟨by simp,by simpa using g1,g2,g3⟩,q2,fun z hz=>by
    rcases aaP hz with hz|rfl
    .have:=J z hz;omega
    .simp;exact k5⟩,zW (hM Z q1 Z ac)⟩
 .have h1:=co h1;rw[Yn h1]at I;change GX _ _ [.code _] _ _ _;refine D9 (Bt (i:=1) (o':= .map (.int .i64) strs [] (.slice kw 0 0) W1 (rL L)) Z (UB A)) fun t Y B=>?_;obtain⟨rfl,rfl⟩:=B;rw[I];refine b7 ?_;refine gA Z ?_;refine dF 10 1 Z ?_
  refine ow (σ:={x:Sj×List (List aj)//H0 p ring x.1 x.2}) (fun x=>⟨[(3,.iv (ru (bE p (aD p)))),(5,.iv (tD m)),(6,.mp 1),(9,.mp 2),(10,.sl 4 0 x.1.2.length 1)],[(1,jp (VK (rM ring (ns p)))),(2,jp (VS x.1.1)),(4,jp (aC 1 x.1.2 pn))],5⟩)
   (fun x=>(rM ring (ns p)).length-x.1.1.length) ⟨([],[]),T3⟩ [3]
   (zW (zC (LD Z (fun _=> .v _) Z (zS trivial)))) ?_
  rintro⟨⟨dm,out⟩,u⟩;have u:H0 p ring dm out:=u;have t0:=u.le;have v0:=TA p ring;have x0:=u.len;refine zJ Z Z (fun h2=>?_) fun h2=>?_
  .have h2:dm.length<(rM ring (ns p)).length:=by simpa using h2
   refine gA Z (zp (n7 hS hf (aD p)) ?_);refine gA Z ?_;refine ar 0 (ns p).length (Yl _) (fun i=>⟨[(3,.iv (ru (bE p (aD p)))),(5,.iv (tD m)),(6,.mp 1),(9,.mp 2),(10,.sl 4 0 out.length 1),(51,.iv (strs (ns p))),(52,pI (ns p).length),(53,pI i)],[(1,jp (VK (rM ring (ns p)))),(2,jp (VS dm)),(4,jp (aC 1 out pn))],5⟩)
    (fun i=> ∀b∈(ns p).take i,(!dn dm (ring b)&&L5 p ring dm b)=li) [] (fun b hb=>(nomatch hb)) (zW (zC (zC (zS trivial)))) fun i hi hJ=>?_
   refine zJ Z Z (fun S=>?_) fun S=>?_
   .have S:=ci S;have i0:(!dn dm (ring ((ns p).getD i io))&&L5 p ring dm ((ns p).getD i io))=li-> ∀b∈(ns p).take (i+1),(!dn dm (ring b)&&L5 p ring dm b)=li:=fun h b hb=>by
     rw[aK S]at hb;rcases Ys.1 hb with hb|hb
     .exact hJ b hb
     .rw[Yr]at hb;subst hb;exact h
    have D:=u.lk (ring ((ns p).getD i io));have j0:=TL p ring dm ((ns p).getD i io);have d0:=u.step hRm S hJ;have n0:=FY ring (ns p) (ring ((ns p).getD i io));have p0:(bY (.int .i64) (rM ring (ns p)) (ring ((ns p).getD i io)) []).length<=64:=by rw[n0];exact YR (Ze _ _) hn
    have r0: ∀b∈bY (.int .i64) (rM ring (ns p)) (ring ((ns p).getD i io)) [],b∈p.aB.map Decl.name:=fun b hb=>by
     rw[n0]at hb;have:=(YO.1 hb).1;rwa[ns,db]at this
    let a:=((ns p).getD i io)
    let l:List aj:=bY (.int .i64) (rM ring (ns p)) (ring a) []
    refine zJ Z Z (fun F=>?_) fun F=>?_
    .have F:bY (.int .i64) dm (ring a) 0=1:=zT F;have hd:dn dm (ring a)=lc:=by
      rw[D]at F;cases hd:dn dm (ring a) with
      |true=>rfl
      |false=>rw[hd]at F;simp at F
     refine gA Z ⟨S,i0 (by rw[hd];rfl),[],zW (zC (zC (zS ac)))⟩
    .have F: ¬bY (.int .i64) dm (ring a) 0=1:=zF F;have hd:dn dm (ring a)=li:=by
      rw[D]at F;cases hd:dn dm (ring a) with
      |false=>rfl
      |true=>rw[hd]at F;simp at F
     refine gA Z ?_;refine ar 0 l.length (Yl _) (fun k=>⟨[(3,.iv (ru (bE p (aD p)))),(5,.iv (tD m)),(6,.mp 1),(9,.mp 2),(10,.sl 4 0 out.length 1),(51,.iv (strs (ns p))),(52,pI (ns p).length),(53,pI i),(12,pS a),(67,.iv (strs l)),(68,pI l.length),(69,pI k)],[(1,jp (VK (rM ring (ns p)))),(2,jp (VS dm)),(4,jp (aC 1 out pn))],5⟩)
      (fun k=>(l.take k).all (okC p ring dm a)=lc) [] Z (zW (zC (zC (zS trivial)))) fun k hk hK=>?_
     refine zJ Z Z (fun h5=>?_) fun h5=>?_
     .have h5:=ci h5;have hb:=r0 _ (bx h5);have q0:l.length<=64:=p0;refine gM 13 Z (uu ab (.iv (tD (c5 (aD p) (l.getD k io)))) Z Z Z Z (qv p _ hb) Z ?_);refine gA Z ?_;refine ib (c5 (aD p) (l.getD k io)) (fun vs=>⟨[(3,.iv (ru (bE p (aD p)))),(5,.iv (tD m)),(6,.mp 1),(9,.mp 2),(10,.sl 4 0 out.length 1),(51,.iv (strs (ns p))),(52,pI (ns p).length),(53,pI i),(12,pS a),(67,.iv (strs l)),(68,pI l.length),(69,pI k),(76,.ptr 5 0)],[(1,jp (VK (rM ring (ns p)))),(2,jp (VS dm)),(4,jp (aC 1 out pn)),(5,jp (.b3 .str yw (c5 (aD p) (l.getD k io)) vs kw))],6⟩)
       (fun vs=> ∀j∈vs,∀x,(c5 (aD p) (l.getD k io))[j]? =jp x->(lw (ring x.1=ring a)||dn dm (ring x.1))=lc) [] (fun j hj=>(nomatch hj))
       (zW (zC (zC (zS (hI Z Z (.inl Z) Z trivial))))) fun vs hV=>?_
      refine ox Z ac (eW Z Z Z Z Z (by decide) (fun e0=>?_) fun j x hx hj=>?_)
      .refine gA Z ?_;refine⟨h5,?_,[],zW (zC (zC (zS ac)))⟩;rw[aK h5,aaT,hK,Zc,abe,List.all_nil,aaF];refine YG.2 fun c hc=>?_;obtain⟨e,he,rfl⟩:=YP.1 ((mem_row hf _ _).2 hc);obtain⟨i',k0⟩:=Y9 he;exact hV i' (e0 i' (Yj.1 k0).1) e k0
      .have b0:(ring x.1=ring a∨dn dm (ring x.1)=lc)->(lw (ring x.1=ring a)||dn dm (ring x.1))=lc:=fun h=>by simpa using h
       have o0:=u.lk (ring x.1);refine zJ Z Z (fun h6=>?_) fun h6=>?_
       .have h6: ¬ring x.1=ring a:=by simpa using h6
        refine zJ Z Z (fun h7=>?_) fun h7=>?_
        .have h7:bY (.int .i64) dm (ring x.1) 0=0:=zT h7;have g0:dn dm (ring x.1)=li:=by
          cases hd:dn dm (ring x.1) with
          |false=>rfl
          |true=>rw[o0,hd]at h7;simp at h7
         have s0:L5 p ring dm a=li:=by
          rw[j0];refine Z1.2 ⟨_,bx h5,?_⟩;rw[ZQ];refine Z1.2 ⟨x.1,(mem_row hf _ _).1 (Zs (YL hx)),?_⟩;simp only[g0,Z9,decide_eq_true_eq];exact h6
         refine gA Z ⟨S,i0 (by rw[s0,Zv]),[],zW (zC (zC (zS ac)))⟩
        .have h7: ¬bY (.int .i64) dm (ring x.1) 0=0:=zF h7;have g0:dn dm (ring x.1)=lc:=by
          cases hd:dn dm (ring x.1) with
          |true=>rfl
          |false=>rw[o0,hd]at h7;simp at h7
         refine gA Z ?_
         exact⟨j,x,hx,hj,(fun i hi y C=>by
         rcases Yx.1 hi with rfl|hi
         .rw[hx]at C;cases C;exact b0 (.inr g0)
         .exact hV i hi y C),[],zW (zC (zC (zS (hI Z Z (.inr Z) Z ac))))⟩
       .have h6:ring x.1=ring a:=by simpa using h6
        refine gA Z ?_
        exact⟨j,x,hx,hj,(fun i hi y C=>by
         rcases Yx.1 hi with rfl|hi
         .rw[hx]at C;cases C;exact b0 (.inl h6)
         .exact hV i hi y C),[],zW (zC (zC (zS (hI Z Z (.inr Z) Z ac))))⟩
     .have h5:=co h5;rw[Yn h5]at hK;have c0:=d0 hd (by rw[j0];exact hK);have m0:=c0.len;rw[Yg,YY]at m0;refine gA Z ?_ ⟨⟨ac,.refl _⟩,by simp,by simp,rfl,by omega,by omega⟩;refine⟨⟨(ck (.int .i64) dm (ring a) 1,out++ [l]),c0⟩,[6],?_,zM (bv (bv (bv (bv ⟨.row (by rw[Yg];rfl),rfl,ac⟩)))) (zC (zC (hR Z (by rw[Yk];rfl) Z ac)))⟩;show(rM ring (ns p)).length-(ck (.int .i64) dm (ring a) 1).length<(rM ring (ns p)).length-dm.length;have w0:out.length+1=(ck (.int .i64) dm (ring a) 1).length:=m0;omega
   .exfalso;have S:=co S;rw[Yn S]at hJ;obtain⟨a,ha,g1,g2⟩:=u.has hRm h2;have:=hJ a ha;rw[g1,g2]at this;cases this
  .have h2:(rM ring (ns p)).length<=dm.length:=by simpa using h2
   have:=u.done h2;rw[show Go.Rg.mV (ns p) (OI p) ring (ns p).length (fun _=>li)=dc p from EA hRm]at this;subst this;refine gA Z (cG (by first|exact .inr Z|exact .inl Z) Z Z (rfl) (rfl))
theorem OQ(d:fD):Pure prog 53 [.iv (.v (.map kw))] (.iv (tD [])):=by
 refine ad ab func53 Z (by decide) ntmps53 Z (by simp) Z ?_;refine gA Z (zp (sS d) ?_);refine gA Z ?_;refine ar 0 0 (Yl _) (fun i=>⟨[(5,.ptr 6 0),(16,pI 0),(17,pI 0)],[(3,jp (dd [])),(6,jp (.cells [.mp 3]))],9⟩) (fun _=>True) [] ac
  (zW (LD Z (fun _=> .v _) Z (zO trivial))) fun i j _=>?_
 refine zJ Z Z (fun b=>?_) fun b=>?_
 .exact absurd b (by decide)
 refine gA Z ⟨.inr Z,_,rfl,iR.map 3 Z (.done (.of_eq Z))⟩
theorem Kt(d:fD)(p:Prog)(hb:p.fit)(hs:p.size<=10000000):Pure prog 14 [ag p.c] (.iv (cT 1 (kh p) pn)):=by
 by_cases k1:(bu p).1=0
 .rw[kh,am k1];exact GN d hb hs k1
 rw[kh,be k1];refine ad ab func14 Z (by decide) ntmps14 Z (by simp) Z ?_;refine gA Z (zp (Bz d hb k1) ?_);refine gA Z (zp (OQ d) ?_);refine gA Z (zp (sS d) ?_);refine gA Z ?_;refine ar 0 0 (Yl _) (fun i=>⟨[(6,.mp 1),(26,pI 0),(27,pI 0)],[(1,jp .gn)],2⟩) (fun _=>True) [] ac
  (zW ⟨⟨_,rfl,.of_eq Z⟩,Yd Z,ac,ac⟩) fun i j _=>?_
 refine zJ Z Z (fun b=>?_) fun b=>?_
 .exact absurd b (by decide)
 refine gA Z ?_;refine ar 0 0 (Yl _) (fun i=>⟨[(6,.mp 1),(9,.mp 2),(10,.iv (.v (.slice kw 0 0)))],[(1,jp (VK [])),(2,jp (VS []))],3⟩) (fun _=>True) [] ac
  (zW (LD Z (fun _=> .lz ..) Z (LD Z (fun _=> .v _) Z trivial))) fun i j _=>?_
 refine zJ Z Z (fun b=>?_) fun b=>?_
 .exact absurd b (by decide)
 refine gA Z (zL ?_);exact .nil _ _
end Go.Proofs.YtflegjieadkonaaGreatDoor
namespace Go.Proofs.YtflegjieadkonaaGreatDoor
open Go Go.Al
section
section
variable {p:Prog}
def eD(p:Prog):Nat->Nat->Bool:=Go.Rg.ed (ns p) (eg p)
def sD(p:Prog)(i j:Nat):Bool:=Cu p ((ns p).getD i io) ((ns p).getD j io)
def yC(p:Prog):List (List Nat):=Go.Co.dq (ns p).length (Go.Co.cX (ns p).length (bQ p)) (Go.Co.cls (bQ p)) (ns p).length (fun _=>li)
def vD(p:Prog)(i:Nat):aj:=(ns p).getD i io
theorem oC(p:Prog):dc p=(yC p).map fun c=>c.map (vD p):=rfl
theorem AA{n:Nat}{F:(Nat->Bool)->Nat->Bool}{K:Nat->Nat->Bool}: ∀(f:Nat) (d:Nat->Bool),∀c∈Go.Co.dq n F K f d,∀i∈c,i<n
 |0,_,c,hc,_,_=>by cases hc
 |f+1,d,c,hc,i,hi=>by
  unfold Go.Co.dq at hc;split at hc
  .cases hc
  .rcases Yx.1 hc with rfl|hc
   .exact YM.1 (YO.1 hi).1
   .exact AA f _ c hc i hi
theorem Mt{c:List Nat}(hc:c∈yC p){i:Nat}(hi:i∈c):i<(ns p).length:=AA _ _ c hc i hi
theorem xt(hf:jP p){i j:Nat}(hi:i<(ns p).length)(hj:j<(ns p).length)(h:vD p i=vD p j):i=j:=by
 have b:=pR.K5 (fM hf.nodup);unfold vD at h;rw[Ye,Ye,Yi hi,Yi hj]at h;exact(aaM b).1 h
def JE(p:Prog)(k:Nat):Nat->Nat:=Go.Le.PK (ns p).length (eD p) (sD p) ((yC p).take k) fun _=>0
structure Nc (p:Prog) (k:Nat) (H:NM):Prop where
 is: ∀i,i<(ns p).length->bY .str H (vD p i) 0=(JE p k i:Int)
 le: ∀i,JE p k i<=k
theorem DP(n:Nat)(e s:Nat->Nat->Bool)(c:List Nat): ∀(l:List (List Nat)) (h:Nat->Nat),Go.Le.PK n e s (l++ [c]) h=fun x=>if x∈c then Go.Le.top n e s (Go.Le.PK n e s l h) c else Go.Le.PK n e s l h x
 | [],h=>rfl
 |d::l,h=>by
  rw[ZO,Go.Le.PK,DP n e s c l];rfl
theorem Tv:Nc p 0 []:=⟨fun i _=>by rfl,fun i=>Ym _⟩
theorem GR{a:aj}{x:(KC.str).K×Int}(hx:x∈c5 (aD p) a):x.2=(gD (aD p) a x.1:Int):=by
 have b:=(rh (aD p) a).1;rw[<-GU];generalize c5 (aD p) a=m at hx b
 induction m with
 |nil=>cases hx
 |cons y r ih=>
  obtain⟨s,v⟩:=y;rw[Yz,Zo]at b;rcases Yx.1 hx with rfl|hx
  .simp[bY]
  .have: ¬s=x.1:=fun e=>b.1 (YP.2 ⟨x,hx,e.symm⟩)
   simp only[bY,be this];exact ih hx b.2
theorem GS(hf:jP p){a:aj}{x:(KC.str).K×Int}(d:x∈c5 (aD p) a):1<=x.2∧x.2<=2:=by
 have u:=GR d;have y:=TI p a x.1;obtain⟨k,b⟩:=((rh (aD p) a).2 x.1).1 (Zs d);have A:=R7 b;have j:=(hf.aD b).2.2;simp only at j;omega
theorem oc(hf:jP p){i:Nat}(hi:i<(ns p).length){x:(KC.str).K×Int}(d:x∈c5 (aD p) (vD p i)): ∃j,j<(ns p).length∧vD p j=x.1∧eD p i j=lc∧x.2=(Go.Lv.wt (sD p) i j:Int)+1:=by
 have D:x.1∈a8 p (vD p i):=by rw[<-nr hf,db];exact Zs d
 obtain⟨B,C⟩:=YO.1 D;obtain⟨j,y,A⟩:=Go.Rg.kO B;have b:vD p j=x.1:=A;refine⟨j,y,A,Go.Rg.kg.2 ⟨hi,y,?_⟩,?_⟩
 .show eg p (vD p i) (vD p j)=lc;rw[b];exact C
 .have F:=GR d;have G:=GS hf d;unfold Go.Lv.wt sD;show x.2=((if Cu p (vD p i) (vD p j)=lc then 1 else 0:Nat):Int)+1;rw[b];unfold Cu;by_cases u:gD (aD p) (vD p i) x.1=2
  .rw[am (by simpa using u)];omega
  .rw[be (by simpa using u)];omega
theorem Mc(hf:jP p){i j:Nat}(h:eD p i j=lc): ∃x∈c5 (aD p) (vD p i),x.1=vD p j∧x.2=(Go.Lv.wt (sD p) i j:Int)+1:=by
 obtain⟨C,u,B⟩:=Go.Rg.kg.1 h;have y:vD p j∈a8 p (vD p i):=YO.2 ⟨Go.Rg.get_mem u,B⟩;rw[<-nr hf,db]at y;obtain⟨x,A,b⟩:=YP.1 y;obtain⟨G,d,D,_,F⟩:=oc hf C A;have:G=j:=xt hf d u (D.trans b);subst this;exact⟨x,A,b,F⟩
def Bg(p:Prog)(H:NM)(c:List aj)(v:Int):Prop:=0<=v∧(∀a∈c,∀x∈c5 (aD p) a,bY .str H x.1 0+x.2-1<=v)∧(v=0∨ ∃a∈c,∃x∈c5 (aD p) a,v=bY .str H x.1 0+x.2-1)
theorem Ox(H:NM):Bg p H [] 0:=⟨aak _,fun _ h=>(nomatch h),.inl Z⟩
def rF(H row:NM)(v:Int)(vs:List Nat):Int:=vs.foldr (fun j m=>max m (bY .str H (row.getD j io).1 0+(row.getD j io).2-1)) v
theorem uS(H row:NM)(v:Int): ∀vs:List Nat,v<=rF H row v vs∧(∀j∈vs,bY .str H (row.getD j io).1 0+(row.getD j io).2-1<=rF H row v vs)∧
  (rF H row v vs=v∨ ∃j∈vs,rF H row v vs=bY .str H (row.getD j io).1 0+(row.getD j io).2-1)
 | []=>⟨aak _,fun _ h=>(nomatch h),.inl Z⟩
 |j::vs=>by
  obtain⟨x,u,b⟩:=uS H row v vs;show v<=max (rF H row v vs) _∧(∀i∈j::vs,_<=max (rF H row v vs) _)∧(max (rF H row v vs) _=v∨ ∃i∈j::vs,max (rF H row v vs) _=_)
  generalize d:bY .str H (row.getD j io).1 0+(row.getD j io).2-1=g;refine⟨by omega,fun i hi=>?_,?_⟩
  .rcases Yx.1 hi with rfl|hi
   .rw[d];omega
   .have:=u i hi;omega
  .rcases Int.le_total (rF H row v vs) g with h4|h4
   .exact .inr ⟨j,by simp,by rw[d];omega⟩
   .rcases b with b|⟨i,hi,b⟩
    .exact .inl (by omega)
    .exact .inr ⟨i,Yt _ hi,by omega⟩
theorem JU{H:NM}{c:List aj}{a:aj}{v:Int}(h:Bg p H c v){vs:List Nat}(h1: ∀j∈vs,j<(c5 (aD p) a).length)(h2: ∀j,j<(c5 (aD p) a).length->j∈vs):Bg p H (c++ [a]) (rF H (c5 (aD p) a) v vs):=by
 obtain⟨g1,g2,g3⟩:=uS H (c5 (aD p) a) v vs;refine⟨Int.le_trans h.1 g1,fun b hb x u=>?_,?_⟩
 .rcases Ys.1 hb with hb|hb
  .exact Int.le_trans (h.2.1 b hb x u) g1
  .rw[Yr]at hb;subst hb;obtain⟨j,d⟩:=Y9 u;have A:=(Yj.1 d).1;have:=g2 j (h2 j A);rw[Ye,d]at this;exact this
 .rcases g3 with g3|⟨j,d,g3⟩
  .rcases h.2.2 with y|⟨b,hb,x,u,y⟩
   .exact .inl (g3.trans y)
   .exact .inr ⟨b,YQ _ hb,x,u,g3.trans y⟩
  .exact .inr ⟨a,by simp,_,bx (h1 j d),g3⟩
theorem Ow(hf:jP p){k:Nat}{H:NM}(D:Nc p k H){c:List Nat}(hc:c∈yC p){v:Int}(h:Bg p H (c.map (vD p)) v):v=(Go.Le.top (ns p).length (eD p) (sD p) (JE p k) c:Int):=by
 obtain⟨F,G,b⟩:=h;apply Int.le_antisymm
 .rcases b with b|⟨a,I,x,A,b⟩
  .omega
  .obtain⟨i,d,rfl⟩:=YP.1 I;obtain⟨j,u,J,y,S⟩:=oc hf (Mt hc d) A;have:=Go.Le.JV (s:=sD p) (h:=JE p k) d u y;rw[<-J,D.is j u]at b;omega
 .rcases Go.Le.E5 (n:=(ns p).length) (e:=eD p) (s:=sD p) (JE p k) c with C|⟨i,d,j,u,y,C⟩
  .rw[C];exact F
  .obtain⟨x,A,B,S⟩:=Mc hf y;have:=G _ (Zs d) x A;rw[B,D.is j u]at this;omega
theorem S1{k:Nat}{H:NM}(d:Nc p k H)(c:List Nat):Go.Le.top (ns p).length (eD p) (sD p) (JE p k) c<=k+1:=by
 rcases Go.Le.E5 (n:=(ns p).length) (e:=eD p) (s:=sD p) (JE p k) c with b|⟨i,y,j,A,x,b⟩
 .omega
 .have:=d.le j;have u:Go.Lv.wt (sD p) i j<=1:=by unfold Go.Lv.wt;split<;>omega
  omega
theorem Nc.step(hf:jP p){k:Nat}{H A:NM}(u:Nc p k H)(I:k<(yC p).length){v:Int}(h:Bg p H (((yC p).getD k io).map (vD p)) v)
  (C:(∀b∈((yC p).getD k io).map (vD p),bY .str A b 0=v)∧ ∀b:aj,b∉((yC p).getD k io).map (vD p)->bY .str A b 0=bY .str H b 0):Nc p (k+1) A:=by
 have D:(yC p).getD k io∈yC p:=bx I;have Y:=Ow hf u D h;have B:=S1 u ((yC p).getD k io);have d:JE p (k+1)=fun x=>if x∈(yC p).getD k io then Go.Le.top (ns p).length (eD p) (sD p) (JE p k) ((yC p).getD k io) else JE p k x:=by
  unfold JE;rw[aK I,DP]
 refine⟨fun i F=>?_,fun i=>?_⟩
 .rw[d];by_cases y:i∈(yC p).getD k io
  .rw[C.1 _ (Zs y),Y];simp only[y,if_true]
  .rw[C.2 _ ?_,u.is i F]
   .simp only[y,if_false]
   .intro J;obtain⟨j,G,S⟩:=YP.1 J;have:=xt hf (Mt D G) F S;subst this;exact y G
 .rw[d];simp only;split
  .exact B
  .have:=u.le i;omega
end
end
end Go.Proofs.YtflegjieadkonaaGreatDoor
namespace Go.Proofs.YtflegjieadkonaaGreatDoor
open Go Go.Al Go.Proofs.Tryz
def EZ(x:aj×Nat):List IV:=[iS x.1,iI x.2]
def gu(p:Prog):List (aj×Nat):=if(dD p).1=0 then bS p else[]
theorem uH{p:Prog}(h:(dD p).1=0):(bu p).1=0∧dD p=aT.z:=by
 unfold dD at h ⊢;by_cases k1:(bu p).1=0
 .rw[be (by simpa using k1)]at h ⊢;refine⟨k1,?_⟩;cases hf:(p.rules.map (ew p)).find? fun d=>lw (d.1≠0) with
  |none=>rfl
  |some d=>
   rw[hf]at h;have:=aa4 hf;simp only[decide_eq_true_eq]at this;exact absurd h this
 .rw[am k1]at h;exact absurd h k1
theorem mP{n:Nat}{F:(Nat->Bool)->Nat->Bool}{K:Nat->Nat->Bool}: ∀(f:Nat) (d:Nat->Bool),(Go.Co.dq n F K f d).length<=f∧ ∀c∈Go.Co.dq n F K f d,c.length<=n
 |0,_=>⟨Ym _,fun _ h=>(nomatch h)⟩
 |f+1,d=>by
  unfold Go.Co.dq;split
  .exact⟨Yl _,fun _ h=>(nomatch h)⟩
  .obtain⟨b,j⟩:=mP (n:=n) (F:=F) (K:=K) f _;refine⟨Nat.succ_le_succ b,fun c hc=>?_⟩;rcases Yx.1 hc with rfl|hc
   .exact YR (Ze _ _) (by simp)
   .exact j c hc
theorem Nc.bd{p:Prog}(hf:jP p){k:Nat}{H:NM}(h:Nc p k H){i:Nat}(hi:i<(ns p).length){x:(KC.str).K×Int}(u:x∈c5 (aD p) (vD p i)):0<=bY .str H x.1 0∧bY .str H x.1 0<=k:=by
 obtain⟨j,b,d,_⟩:=oc hf hi u;have:=h.is j b;have y:=h.le j;rw[d]at this;omega
theorem Vu{p:Prog}(h0:(dD p).1=0){H:NM}(h:Nc p (yC p).length H){i:Nat}(hi:i<(ns p).length):bY .str H (vD p i) 0=(kr p i:Int):=by
 have b:=BR (CS fun r d=>wy (xn (uH h0).1 h0 r d)) hi;rw[h.is i hi,b];unfold JE;rw[Yn (Ym _)];rfl
theorem x8(p:Prog){i:Nat}(hi:i<(ns p).length):(bS p).getD i io=(vD p i,kr p i):=by
 unfold bS;rw[Ye,Yo,ZL hi];rfl
theorem gZ(p:Prog):(bS p).length=(ns p).length:=by simp[bS]
theorem GK(hS:fD)(p:Prog)(hb:p.fit)(hs:p.size<=10000000):Pure prog 15 [ag p.c] (.bX [.iv (cT 2 (gu p) EZ),ag (dD p).c]):=by
 by_cases k1:(dD p).1=0;rotate_left
 .rw[gu,be k1];refine ad ab func15 Z (by decide) ntmps15 Z (by simp) Z ?_;refine gA Z (zp (BA hS p hb hs) ?_);refine zJ Z Z (fun k2=>?_) fun k2=>?_
  .refine gA Z (zL ?_);exact .bX ⟨.nil _ _,.refl _,ac⟩
  .exact absurd (by simpa using k2) k1
 obtain⟨k0,kz⟩:=uH k1;have hf:=gx k0;have hn:=jr hf;have t0:(yC p).length<=(ns p).length:=(mP _ _).1;have g0: ∀c∈yC p,c.length<=(ns p).length:=(mP _ _).2;have r0:(dc p).length=(yC p).length:=by rw[oC,YH]
 rw[gu,am k1];refine ad ab func15 Z (by decide) ntmps15 Z (by simp) Z ?_;refine gA Z (zp (BA hS p hb hs) ?_);refine zJ Z Z (fun k2=>?_) fun k2=>?_
 .exact absurd k1 (by simpa using k2)
 refine gA Z (zp (xE hS hb k0) ?_);refine gA Z (zp (GN hS hb hs k0) ?_);refine gA Z ?_;refine pe 0 (dc p).length (Yl _) (fun k (H:NM)=>⟨[(3,.ptr 1 0),(5,.iv (ru (bE p (aD p)))),(7,.mp 3),(33,.iv (cT 1 (dc p) pn)),(34,pI (dc p).length),(35,pI k)],[(1,jp (ak aT.z.c)),(3,jp (dd H))],4⟩) (fun k H=>Nc p k H) [] [] Tv
  (zW (zK (LD Z (fun _=> .v _) Z trivial))) fun k H hk hH=>?_
 refine zJ Z Z (fun J=>?_) fun J=>?_
 .have J:=ci J;have u:k<(yC p).length:=by omega
  let c:List aj:=(dc p).getD k io
  have B:c=((yC p).getD k io).map (vD p):=by
   show(dc p).getD k io=_;rw[oC,Ye,Yo,Yi u,Ye,Yi u];rfl
  have s0:=g0 _ (bx u);have i0:c.length<=64:=by rw[B,YH];omega
  have f0: ∀b∈c,∃i,i<(ns p).length∧vD p i=b:=fun b hb=>by
   rw[B]at hb;obtain⟨i,hi,e⟩:=YP.1 hb;exact⟨i,Mt (bx u) hi,e⟩
  refine gA Z ?_;refine pe 0 c.length (Yl _) (fun t (v:Int)=>⟨[(3,.ptr 1 0),(5,.iv (ru (bE p (aD p)))),(7,.mp 3),(33,.iv (cT 1 (dc p) pn)),(34,pI (dc p).length),(35,pI k),(9,.iv (strs c)),(10,pI v),(39,.iv (strs c)),(40,pI c.length),(41,pI t)],[(1,jp (ak aT.z.c)),(3,jp (dd H))],4⟩) (fun t v=>Bg p H (c.take t) v∧v<=1000) 0 [] ⟨Ox H,by decide⟩
   (zW (zK (zC trivial))) fun t v ht S=>?_
  obtain⟨S,x0⟩:=S;have w0:=S.1;refine zJ Z Z (fun d=>?_) fun d=>?_
  .have d:=ci d;obtain⟨ia,c0,e0⟩:=f0 _ (bx d);have n0:c.getD t io∈p.aB.map Decl.name:=by
    rw[<-e0];have:=Go.Rg.get_mem c0;rwa[ns,db]at this
   have b0: ∀x∈c5 (aD p) (c.getD t io),(0<=bY .str H x.1 0∧bY .str H x.1 0<=64)∧1<=x.2∧x.2<=2:=fun x C=>by
    have A:=GS hf C;rw[<-e0]at C;have h4:=hH.bd hf c0 C;omega
   refine gM 13 Z (uu ab (.iv (tD (c5 (aD p) (c.getD t io)))) Z Z Z Z (qv p _ n0) Z ?_);refine gA Z ?_;refine ib (c5 (aD p) (c.getD t io)) (fun y=>⟨[(3,.ptr 1 0),(5,.iv (ru (bE p (aD p)))),(7,.mp 3),(33,.iv (cT 1 (dc p) pn)),(34,pI (dc p).length),(35,pI k),(9,.iv (strs c)),(10,pI (rF H (c5 (aD p) (c.getD t io)) v y)),(39,.iv (strs c)),(40,pI c.length),(41,pI t),(48,.ptr 4 0)],[(1,jp (ak aT.z.c)),(3,jp (dd H)),(4,jp (.b3 .str yw (c5 (aD p) (c.getD t io)) y kw))],5⟩)
    (fun y=> ∀j∈y,j<(c5 (aD p) (c.getD t io)).length) [] (fun j hj=>(nomatch hj))
    (zW (zK (zC (hI Z Z (.inl Z) Z trivial)))) fun y Y=>?_
   obtain⟨g1,g2,g3⟩:=uS H (c5 (aD p) (c.getD t io)) v y;have o0:rF H (c5 (aD p) (c.getD t io)) v y<=1000:=by
    rcases g3 with g3|⟨j,hj,g3⟩
    .omega
    .have:=b0 _ (bx (Y j hj));omega
   refine ox Z ac (eW Z Z Z Z Z (by decide) (fun a0=>?_) fun j x C hj=>?_)
   .refine gA Z ?_;exact⟨d,rF H (c5 (aD p) (c.getD t io)) v y,[],⟨by rw[aK d];exact JU S Y a0,o0⟩,zW (zK (zC ac))⟩
   .have y0:=b0 x (YL C);have q0:(c5 (aD p) (c.getD t io)).getD j io=x:=by rw[Ye,C];rfl
    have p0:max (rF H (c5 (aD p) (c.getD t io)) v y) (bY .str H x.1 0+x.2-1)=rF H (c5 (aD p) (c.getD t io)) v (j::y):=by
     show _=max (rF H (c5 (aD p) (c.getD t io)) v y) _;rw[q0]
    refine gA Z ⟨j,x,C,hj,fun i hi=>(Yx.1 hi).elim (fun h=>h▸(Yj.1 C).1) (Y i),[],zM (bv (bv (bv (bv (bv (bv (bv ⟨.of_eq (by rw[<-p0];rfl),rfl,bv (bv (bv (bv ac)))⟩))))))) (zK (zC (hI Z Z (.inr Z) Z ac)))⟩
  .have d:=co d;rw[Yn d]at S;refine gA Z ?_;refine pe 0 c.length (Yl _) (fun t (D:NM)=>⟨[(3,.ptr 1 0),(5,.iv (ru (bE p (aD p)))),(7,.mp 3),(33,.iv (cT 1 (dc p) pn)),(34,pI (dc p).length),(35,pI k),(10,pI v),(63,.iv (strs c)),(64,pI c.length),(65,pI t)],[(1,jp (ak aT.z.c)),(3,jp (dd D))],4⟩) (fun t D=>(∀b∈c.take t,bY .str D b 0=v)∧ ∀b:aj,b∉c.take t->bY .str D b 0=bY .str H b 0) H [] ⟨fun b hb=>(nomatch hb),fun b _=>rfl⟩
    (zW (zK (zC trivial))) fun t D ht Y=>?_
   obtain⟨F,G⟩:=Y;refine zJ Z Z (fun A=>?_) fun A=>?_
   .have A:=ci A;refine gA Z ?_;refine⟨A,ck .str D (c.getD t io) v,[],⟨fun b hb=>?_,fun b hb=>?_⟩,zW (zK (zC ac))⟩
    .rw[iZ];by_cases I:c.getD t io=b
     .rw[am I]
     .rw[be I];rw[aK A]at hb;rcases Ys.1 hb with hb|hb
      .exact F b hb
      .exact absurd (Yr.1 hb).symm I
    .rw[aK A,Ys,not_or]at hb;rw[iZ,be (fun e=>hb.2 (by rw[e];simp)),G b hb.1]
   .have A:=co A;rw[Yn A]at F G;refine gA Z ⟨J,D,[],hH.step hf u (B▸S) (B▸⟨F,G⟩),zW (zK (zC ac))⟩
 .have J:=co J;have j0:k=(yC p).length:=by omega
  subst j0;refine gA Z (zp (n7 hS hf (aD p)) ?_);refine gA Z ?_;refine dF 17 2 Z ?_;refine ar 0 (ns p).length (Yl _) (fun i=>⟨[(3,.ptr 1 0),(7,.mp 3),(17,.sl 5 0 ((bS p).take i).length 2),(75,.iv (strs (ns p))),(76,pI (ns p).length),(77,pI i)],[(1,jp (ak aT.z.c)),(3,jp (dd H)),(5,jp (aC 2 ((bS p).take i) EZ))],6⟩) (fun _=>True) [4] ac
   (zW (zK (zC (zS trivial)))) fun i hi _=>?_
  refine zJ Z Z (fun d=>?_) fun d=>?_
  .have d:=ci d;have v0:((bS p).take i).length<=64:=by rw[YV,gZ];omega
   have d0:(bS p).take (i+1)=(bS p).take i++ [(vD p i,kr p i)]:=by rw[aK (by rw[gZ];exact d),x8 p d]
   have m0:=Vu k1 hH d;refine gA Z ?_
   exact⟨d,ac,[7],zM (bv (bv ⟨.row (by rw[d0,Yg];rfl),rfl,bv (bv (bv ac))⟩)) (zK (zC (hR Z (by
    rw[d0,Yk];show _=_++ [[PV.iv (iS (vD p i)),PV.iv (iI (kr p i:Int))]]
    rw[<-m0];rfl) Z ac)))⟩
  .have d:=co d;have e:(bS p).take i=bS p:=Yn (by rw[gZ];exact d);rw[kz];refine gA Z ⟨.inr Z,_,rfl,?_⟩;rw[e];refine .row 5 (fun k=>EZ ((bS p).getD k io)) Z (cL Z) ?_ (.done (.bX ⟨?_,.refl _,ac⟩))
   .refine⟨?_,⟨ac,ac,ac,ac⟩,ac⟩;show PV.bG 5 2 _ (.sl 5 0 (bS p).length 2);simp[PV.bG]
   .show aG (.iv (.dp 2 (bS p).length fun k=>EZ ((bS p).getD (0+k) io))) (.iv (cT 2 (bS p) EZ));simp only[YC];exact .refl _
theorem KO{n i:Nat}(h:i<n):(Yv n).getD i io=i:=by rw[Ye,ZL h];rfl
end Go.Proofs.YtflegjieadkonaaGreatDoor
namespace Go.Proofs.YtflegjieadkonaaGreatDoor
open Go Go.Al
section
section
variable (l:List (aj×Nat)) (c:List (List aj)) (rel:aj)
theorem fold_eq{α γ:Type}{g g':γ->α->γ}: ∀(l:List α) (b:γ),(∀x∈l,∀b,g b x=g' b x)->l.foldl g b=l.foldl g' b
 | [],_,_=>rfl
 |x::l,b,h=>by
  rw[YN,YN,h x (Yy ..)];exact fold_eq l _ fun y d=>h y (Yt _ d)
end
section
variable {p:Prog}
end
end
section
structure MV (p q:Prog):Prop where
 aB:q.aB=p.aB
 len:q.rules.length=p.rules.length
 mem: ∀r,r∈q.rules↔r∈p.rules
section
variable {p q:Prog}
theorem MV.symm(h:MV p q):MV q p:=⟨h.aB.symm,h.len.symm,fun r=>(h.mem r).symm⟩
structure LessR (p q:Prog):Prop where
 aB:q.aB=p.aB
 len:q.rules.length<=p.rules.length
 mem: ∀r∈q.rules,r∈p.rules
end
end
section
def dA{β:Type}(n:Nat)(f:Nat->Nat->β):List (List β):=(Yv n).map fun i=>(Yv n).map fun j=>f i j
section
variable {β:Type} {n:Nat} {f f':Nat->Nat->β}
theorem dz(n:Nat)(f:Nat->Nat->β):(dA n f).length=n:=by simp[dA]
theorem mo{i:Nat}(hi:i<n):(dA n f)[i]? =jp ((Yv n).map fun j=>f i j):=by
 unfold dA;rw[Yo,ZL hi];rfl
theorem lO{g:Nat->β}{j:Nat}(hj:j<n):((Yv n).map g)[j]? =jp (g j):=by
 rw[Yo,ZL hj];rfl
theorem p3{g g':Nat->β}{b:Nat}(hb:b<n)(h: ∀j,j<n->g' j=if j=b then g' b else g j):((Yv n).map g).set b (g' b)=(Yv n).map g':=by
 apply ZS;intro j;rw[Y4];rcases Zj j n with hj|hj
 .rw[lO hj,lO hj];by_cases d:b=j
  .subst d;rw[am Z,am (by simpa using hb)]
  .rw[be d,h j hj,be (fun e=>d e.symm)]
 .rw[be (by omega),Z0 (by simpa using hj),Z0 (by simpa using hj)]
theorem CN{a b:Nat}(ha:a<n)(hb:b<n)(h: ∀i j,i<n->j<n->f' i j=if i=a∧j=b then f' a b else f i j):(dA n f).set a (((Yv n).map fun j=>f a j).set b (f' a b))=dA n f':=by
 have e:((Yv n).map fun j=>f a j).set b (f' a b)=(Yv n).map fun j=>f' a j:=p3 hb fun j x=>by
  rw[h a j ha x];by_cases u:j=b
  .simp[u]
  .simp[u]
 rw[e];unfold dA;refine p3 (g:=fun i=>(Yv n).map fun j=>f i j) (g':=fun i=>(Yv n).map fun j=>f' i j) ha fun i y=>?_;by_cases d:i=a
 .rw[am d,d]
 .rw[be d];refine ZC fun j x=>?_;rw[h i j y (YM.1 x),be (fun g=>d g.1)]
theorem mq(h: ∀i j,i<n->j<n->f i j=f' i j):dA n f=dA n f':=by
 unfold dA;exact ZC fun i b=>ZC fun j d=>h i j (YM.1 b) (YM.1 d)
end
def gF(p:Prog)(hs:List (aj×aj×Nat))(i j:Nat):Int:=gD hs (vD p i) (vD p j)
theorem TH{hs:List (aj×aj×Nat)}(h: ∀x∈hs,x.2.2<=2)(a b:aj):gD hs a b<=2:=by
 rcases HA hs a b with h1|h1
 .omega
 .exact h _ h1
theorem Hz{p:Prog}(hf:jP p){hs:List (aj×aj×Nat)}{a b k:Nat}(ha:a<(ns p).length)(hb:b<(ns p).length)(i j:Nat)(hi:i<(ns p).length)(hj:j<(ns p).length):
  gF p (hs++ [(vD p a,vD p b,k)]) i j=if i=a∧j=b then gF p (hs++ [(vD p a,vD p b,k)]) a b else gF p hs i j:=by
 by_cases h:i=a∧j=b
 .rw[am h,h.1,h.2]
 .rw[be h];unfold gF;rw[Cb,be];rintro⟨h1,h2⟩;exact h ⟨(xt hf ha hi h1).symm,(xt hf hb hj h2).symm⟩
theorem R6{p:Prog}{hs:List (aj×aj×Nat)}{a b k:Nat}:gF p (hs++ [(vD p a,vD p b,k)]) a b=max (gF p hs a b) k:=by
 unfold gF;rw[Cb,am ⟨rfl,rfl⟩];show((max (gD hs (vD p a) (vD p b)) k:Nat):Int)=max (gD hs (vD p a) (vD p b):Int) (k:Int);omega
end
end Go.Proofs.YtflegjieadkonaaGreatDoor
namespace Go.Proofs.YtflegjieadkonaaGreatDoor
open Go Go.Al Go.Proofs.Tryz
theorem Nf{s x:aj}{a:List aj}(h:Op.bytesLess s.toList x.toList=lc):bO s (a,li) x=(a++ [s]++ [x],lc):=by
 have b:JF s x:=(A6 s x).1 h;have d: ¬x=s:=fun e=>kE s (e▸b)
 have j:Op.bytesLess x.toList s.toList=li:=by
  cases hc:Op.bytesLess x.toList s.toList with
  |false=>rfl
  |true=>exact absurd (vk b ((A6 x s).1 hc)) (kE s)
 simp[bO,d,j]
theorem Nh{s x:aj}{a:List aj}(h:s=x):bO s (a,li) x=(a++ [x],lc):=by
 simp[bO,h]
theorem Ng{s x:aj}{a:List aj}(h:Op.bytesLess s.toList x.toList=li)(h2: ¬s=x):bO s (a,li) x=(a++ [x],li):=by
 have b:JF x s:=Ha h2 fun g=>by rw[(A6 s x).2 g]at h;cases h
 have d: ¬x=s:=fun e=>h2 e.symm;simp[bO,d,(A6 x s).2 b]
theorem JI{s x:aj}{a:List aj}:bO s (a,lc) x=(a++ [x],lc):=by simp[bO]
theorem WN(l:List aj)(s:aj)(hb:l.length<=1000000000000):Pure prog 93 [.iv (strs l),pS s] (.iv (strs (bZ l s))):=by
 refine ad ab func93 Z (by decide) ntmps93 Z (by simp) Z ?_;refine gA Z ?_;refine dF 5 1 Z ?_;refine ar 0 l.length (Yl _) (fun i=>⟨[(0,.iv (strs l)),(1,pS s),(5,.sl 1 0 (iH l s i).1.length 1),(6,pB (iH l s i).2),(7,pI i)],[(1,jp (aC 1 (iH l s i).1 cR))],2⟩) (fun _=>True) [0] ac
  (zM (bv (bv (bv ⟨.rK Z,rfl,bv trivial⟩))) (zS trivial)) fun i J _=>?_
 have D:=q6 l s i J;have G:(iH l s i).1.length<=i+1:=by split at D<;>omega
 have F:=sB (l:=l) (s:=s) (i:=i);have I:=sA (l:=l) (s:=s) (i:=i);generalize iH l s i=A at*
 obtain⟨a,b⟩:=A;refine zJ Z Z (fun u=>?_) fun u=>?_
 .have u:=ci u;have d:=I u;refine zJ Z Z (fun j=>?_) fun j=>?_
  .have j:(!b)=lc:=j;have B:b=li:=by simpa using j
   subst B;refine zJ Z Z (fun x=>?_) fun x=>?_
   .have x:(Op.bytesLess s.toList (l.getD i io).toList||decide (s=l.getD i io))=lc:=x;refine zJ Z Z (fun y=>?_) fun y=>?_
    .have y:Op.bytesLess s.toList (l.getD i io).toList=lc:=y;rw[Nf y]at d;refine gA Z ⟨u,ac,[5],zM (bv (bv ⟨.row (by rw[d];simp),rfl,.rK (by rw[d]),rfl,bv ac⟩)) (hR Z (by rw[d,Yk,Yk];rfl) Z ac)⟩
    .have y:Op.bytesLess s.toList (l.getD i io).toList=li:=y;rw[y,Zt,decide_eq_true_eq]at x;rw[Nh x]at d;refine gA Z ⟨u,ac,[3],zM (bv (bv ⟨.row (by rw[d];simp),rfl,.rK (by rw[d]),rfl,bv ac⟩)) (hR Z (by rw[d];simp;rfl) Z ac)⟩
   .have x:(Op.bytesLess s.toList (l.getD i io).toList||decide (s=l.getD i io))=li:=x;rw[Y6,decide_eq_false_iff_not]at x;rw[Ng x.1 x.2]at d;refine gA Z ⟨u,ac,[3],zM (bv (bv ⟨.row (by rw[d];simp),rfl,.of_eq (by rw[d];rfl),rfl,bv ac⟩)) (hR Z (by rw[d];simp;rfl) Z ac)⟩
  .have j:(!b)=li:=j;have C:b=lc:=by simpa using j
   subst C;rw[JI]at d;refine gA Z ⟨u,ac,[3],zM (bv (bv ⟨.row (by rw[d];simp),rfl,.of_eq (by rw[d];rfl),rfl,bv ac⟩)) (hR Z (by rw[d];simp;rfl) Z ac)⟩
 .have u:=co u;rw[F u];refine zJ Z Z (fun j=>?_) fun j=>?_
  .have j:(!b)=lc:=j;have B:b=li:=by simpa using j
   subst B;show GO _ _ _ (EW pC f93.results.toList (.iv (strs (a++ [s])))) _;refine gA Z (cG (by first|exact .inr Z|exact .inl Z) Z Z ((by rw[Yk];rfl)) ((by rw[Yg];rfl)))
  .have j:(!b)=li:=j;have C:b=lc:=by simpa using j
   subst C;show GO _ _ _ (EW pC f93.results.toList (.iv (strs a))) _;refine gA Z (cG (by first|exact .inr Z|exact .inl Z) Z Z (rfl) (rfl))
theorem FD(p:Prog)(i:Nat):(((p.aB.take i).map Decl.name).foldl bZ []).length<=i:=by
 have h:=eQ ((p.aB.take i).map Decl.name) [];unfold cv at h;simp only[ZM,YC,YH,YV]at h;omega
theorem OS(p:Prog)(hb:p.aB.length<=1000000000):Pure prog 54 [ag p.c] (.iv (strs ((p.aB.map Decl.name).foldl bZ []))):=by
 refine ad ab func54 Z (by decide) ntmps54 Z (by simp) Z ?_;refine gA Z ?_;refine ar 0 p.aB.length (Yl _) (fun i=>⟨[(1,.ptr 0 0),(3,.iv (strs (((p.aB.take i).map Decl.name).foldl bZ []))),(4,pI i)],[(0,jp (ak p.c))],1⟩) (fun _=>True) [] ac
  (zM (bv ⟨.nil _ _,rfl,bv trivial⟩) (zK trivial)) fun i j _=>?_
 have u:=FD p i;refine zJ Z Z (fun b=>?_) fun b=>?_
 .have b:=ci b;have d:((p.aB.take (i+1)).map Decl.name).foldl bZ []=bZ (((p.aB.take i).map Decl.name).foldl bZ []) (p.aB.getD i io).name:=by
   rw[aK b,Yk,Z7];rfl
  refine gA Z (zp (WN (((p.aB.take i).map Decl.name).foldl bZ []) (p.aB.getD i io).name (by omega)) ?_);refine gA Z ⟨b,ac,[],zM (bv ⟨.of_eq (by rw[d];rfl),rfl,bv ac⟩) (zK ac)⟩
 .have b:=co b;rw[Yn b];exact zU Z
theorem tY{p:Prog}(hf:jP p):Pure prog 54 [ag p.c] (.iv (strs (ns p))):=by
 have h:=OS p (by have:=hf.len;omega);have e:(p.aB.map Decl.name).foldl bZ []=ns p:=by
  rw[<-IL hf.nodup];exact fold_eq _ _ fun x _ b=>qZ b x
 rwa[e]at h
abbrev JB(l:List aj)(s:aj):Int:=tn (fun x:aj=>lw (x=s)) l
theorem rf(l:List aj)(s:aj):Pure prog 94 [.iv (strs l),pS s] (pI (JB l s)):=by
 refine p6 (bN func94 Z (by decide)) ⟨_,_,Yy⟩ fun j=>?_;simp only[maxLen]at j;refine ad ab func94 Z (by decide) ntmps94 Z (by simp) Z ?_;refine gA Z ?_
 refine ar 0 l.length (Yl _) (fun i=>⟨[(0,.iv (strs l)),(1,pS s),(5,pI i)],[],0⟩) (fun i=>(l.take i).any (fun x=>lw (x=s))=li) [] Z
  (kT Z Z (bv (bv (bv trivial))) Z) fun i y u=>?_
 refine zJ Z Z (fun b=>?_) fun b=>?_
 .have b:=ci b;refine zJ Z Z (fun d=>?_) fun d=>?_
  .have d:l.getD i io=s:=zT d;refine gA Z (zL (.of_eq ?_));rw[JB,jd u b (decide_eq_true d)];rfl
  .have d: ¬l.getD i io=s:=zF d;refine gA Z ⟨b,(a7 u b).2 (by simpa using d),[],kT Z Z (bv (bv (bv ac))) Z⟩
 .have b:=co b;refine gA Z (zL (.of_eq ?_));rw[JB,iC (any_none u b)];rfl
theorem GI(l:List aj)(s:aj)(_:l.length<=1000000000000):Pure prog 94 [.iv (strs l),pS s] (pI (JB l s)):=rf l s
theorem Vm(l:List aj)(s:aj):lw (JB l s<0)=!ch l s:=by
 have h:lw (JB l s>=0)=ch l s:=j5 _ l;rw[<-h,<-decide_not,decide_eq_decide];omega
theorem KT{p:Prog}(hf:jP p){i:Nat}(hi:i<(ns p).length):JB (ns p) (vD p i)=i:=by
 refine jd ?_ hi (decide_eq_true Z);rw[Y5];intro y d;obtain⟨j,u,rfl⟩:=aam.1 d;rw[decide_eq_true_eq];intro g;have b:j<(ns p).length:=by omega
 have:vD p j=vD p i:=by
  rw[<-g];unfold vD;rw[Ye,Yi b];rfl
 have:=xt hf b hi this;omega
theorem Gh{b:List Lit}{i:Nat}(h:i<b.length):((b.take (i+1)).filter fun x=>lw (x.kind=1∨x.kind=2)).map (fun x=>x.atom.rel)=((b.take i).filter fun x=>lw (x.kind=1∨x.kind=2)).map (fun x=>x.atom.rel)++(if(b.getD i io).kind=1∨(b.getD i io).kind=2 then[(b.getD i io).atom.rel] else[]):=by
 rw[aK h,aaq,Yk];congr 1;by_cases d:(b.getD i io).kind=1∨(b.getD i io).kind=2
 .simp only[ZD,d,decide_true,if_true,List.filter_nil,Yz,Y7]
 .simp only[ZD,d,decide_false,if_false,List.filter_nil,Y7,ZH]
end Go.Proofs.YtflegjieadkonaaGreatDoor
namespace Go.Proofs.YtflegjieadkonaaGreatDoor
open Go Go.Al
section
section
variable {β:Type} (el:β->List IV)
abbrev wu(β:Type):=List (Nat×Nat×Nat×List β)
def fT(x:Nat×List β):AO:=aC 1 x.2 el
def Ix(n:Nat)(L:wu β):List (List PV):=L.map fun y=> [PV.iv (Pe (jp (y.1,n,y.2.2.1)))]
def sZ(n:Nat)(y:Nat×Nat×Nat×List β):List IV:=[Pe (jp (y.1,n,y.2.2.1))]
abbrev rO(n:Nat)(L:wu β):AO:=aC 1 L (sZ n)
def dG(L:wu β):List (List β):=L.map fun y=>y.2.2.2
abbrev lE[Inhabited β](r:List β):List IV:=[cT 1 r el]
structure y5 (n:Nat) (L:wu β):Prop where
 nd:(L.map YI).Nodup
 ok: ∀y∈L,y.2.2.2.length=n∧n<=y.2.2.1∧y.2.2.1<=maxLen∧y.2.2.1*1=y.2.1
theorem Gw(n:Nat):y5 n ([]:wu β):=⟨Zd,fun _ h=>(nomatch h)⟩
theorem CG{n:Nat}{L:wu β}{y:Nat×Nat×Nat×List β}(h:y5 n L)(hb:y.1∉L.map YI)(b:y.2.2.2.length=n∧n<=y.2.2.1∧y.2.2.1<=maxLen∧y.2.2.1*1=y.2.1):y5 n (L++ [y]):=
 ⟨qi h.nd hb,fun z hz=>by
  rcases Ys.1 hz with hz|hz
  .exact h.ok z hz
  .rw[Yr]at hz;subst hz;exact b⟩
def pV(L:wu β)(a:Nat)(y:Nat×Nat×Nat×List β)(r:List β):wu β:=L.set a (y.1,y.2.1,y.2.2.1,r)
theorem Bo{n a:Nat}{L:wu β}{y:Nat×Nat×Nat×List β}{r:List β}(h:y5 n L)(d:L[a]? =jp y)(hr:r.length=n):y5 n (pV L a y r):=
 ⟨oW h.nd d (.inr Z),fun z b=>by
  rcases aaP b with b|rfl
  .exact h.ok z b
  .exact⟨hr,(h.ok y (YL d)).2⟩⟩
theorem Pd{n a:Nat}{L:wu β}{y:Nat×Nat×Nat×List β}{r:List β}(b:L[a]? =jp y):Ix n (pV L a y r)=Ix n L:=by
 apply ZS;intro j;unfold Ix pV;rw[Yo,Yo,Y4];by_cases h:a=j
 .subst h;rw[am Z,am (Yj.1 b).1,b];rfl
 .rw[be h]
theorem Ft{n a:Nat}{L:wu β}{y:Nat×Nat×Nat×List β}{r:List β}(b:L[a]? =jp y):(pV L a y r).map (fun x=>(sZ n x).map PV.iv)=L.map fun x=>(sZ n x).map PV.iv:=Pd (n:=n) b
theorem n6{n a j e:Nat}{L:wu β}{y:Nat×Nat×Nat×List β}{r:List β}(h:y5 n L)(C:L[a]? =jp y):((fh (fT el) L).put y.1 (.out j e)).put y.1 (.obj (aC 1 r el) y.2.1)=fh (fT el) (pV L a y r):=by
 have d:=oW (y':=(y.1,y.2.1,y.2.2.1,r)) h.nd C (.inr Z);have D:=(Yj.1 C).1;rw[bc.G3]
 funext c
 unfold bc.put;by_cases u:c=y.1
 .subst u;rw[am Z];exact(df (fT el) d (j:=a) (y:=(y.1,y.2.1,y.2.2.1,r)) (by rw[Y4,am Z,am D])).symm
 .rw[be u];by_cases A:c∈L.map YI
  .obtain⟨z,F,rfl⟩:=YP.1 A;obtain⟨k,b⟩:=Y9 F;have x: ¬a=k:=fun g=>u (by subst g;rw[C]at b;cases b;rfl);rw[df (fT el) h.nd b];exact(df (fT el) d (j:=k) (by rw[Y4,be x];exact b)).symm
  .rw[kA (fT el) A];refine(kA (fT el) ?_).symm;unfold pV;rw[ZV];intro B;obtain⟨k,b⟩:=Y9 B;rw[Y4]at b;split at b
   .rw[am (by simpa using D)]at b;cases b;exact u Z
   .exact A (YL b)
theorem Br{a:Nat}{L:wu β}{y:Nat×Nat×Nat×List β}{r:List β}:dG (pV L a y r)=(dG L).set a r:=by
 unfold dG pV;rw[ZV]
theorem E9{a:Nat}{L:wu β}{y:Nat×Nat×Nat×List β}(b:L[a]? =jp y):(dG L)[a]? =jp y.2.2.2:=by
 unfold dG;rw[Yo,b];rfl
theorem UC[Inhabited β]{n:Nat}{L:wu β}(h:y5 n L):Nb (fh (fT el) L) (.row 1 (Ix n L)) (aC 1 (dG L) (lE el)):=by
 refine .row 1 _ _ (by simp[Ix,dG]) fun k C d=>?_;unfold dG at d;rw[Z4,Yo,Yq]at d;obtain⟨y,u,rfl⟩:=d;refine⟨[PV.iv (Pe (jp (y.1,n,y.2.2.1)))],by unfold Ix;rw[Yo,u];rfl,rfl,fun j F b=>?_⟩
 match j,b with
 |0,b=>
  cases b;obtain⟨x,A,B,D⟩:=h.ok y (YL u);refine⟨_,rfl,.inr ⟨_,_,rfl,rfl,?_⟩⟩;show Up _ (.slice (jp ⟨y.1,0,kw⟩) n y.2.2.1) (cT 1 y.2.2.2 el);rw[<-x];exact .row y.1 _ _ 1 y.2.1 _ _ (df (fT el) h.nd u) (by simp) (by rw[x];exact A) B (cL Z)
 |j+1,b=>exact nomatch b
theorem jG{r:List β}:(aC 1 r el).all PV.flat:=by
 intro e b q d;obtain⟨s,_,rfl⟩:=YP.1 b;obtain⟨x,_,rfl⟩:=YP.1 d;trivial
end
end
theorem RX(l:Lit)(h:l.size<=100000000000):Pure Tryz.prog 95 [ag l.c] (.iv (strs (BQ l))):=by
 have D:=Lit.ax l.au;have G:=l.size_eq;refine Al.Pure.le (aa:=[ag l.c]) (args:=[ag l.c1]) ?_ ⟨l.x9,ac⟩;unfold BQ;refine ad ab Tryz.func95 Z (by decide) Tryz.ntmps95 Z (by simp) Z ?_;refine zJ Z Z (fun k1=>?_) fun k1=>?_
 .have k1:l.kind=1:=zT k1;rw[am (.inl k1)];refine gA Z (cG (by first|exact .inr Z|exact .inl Z) Z Z (rfl) (rfl))
 have k1: ¬l.kind=1:=zF k1;refine zJ Z Z (fun C=>?_) fun C=>?_
 .have C:l.kind=2:=zT C;rw[am (.inr C)];refine gA Z (cG (by first|exact .inr Z|exact .inl Z) Z Z (rfl) (rfl))
 have C: ¬l.kind=2:=zF C;rw[be (by omega)];refine zE Z Z (fun u=>?_) fun u=>?_
 .have u: ¬l.kind=4:=zF u;rw[be u];refine gA Z (zL ?_);exact .nil _ _
 have u:l.kind=4:=zT u;rw[am u]
 let B:List Lit->List aj:=fun b=>(b.filter fun x=>lw (x.kind=1∨x.kind=2)).map fun x=>x.atom.rel
 refine gA Z ?_;refine dF 3 1 Z ?_;refine ar 0 l.au.length (Yl _) (fun i=>⟨[(1,.ptr 0 0),(3,.sl 2 0 (B (l.au.take i)).length 1),(4,pI i)],[(0,jp (ak l.c1)),(2,jp (aC 1 (B (l.au.take i)) cR))],3⟩) (fun _=>True) [1] ac
  (zW (zK (zS trivial))) fun i I _=>?_
 have F:(B (l.au.take i)).length<=l.au.length:=by
  show((List.filter _ (l.au.take i)).map _).length<=_;rw[YH];exact YR (Ze _ _) (by rw[YV];omega)
 refine zJ Z Z (fun j=>?_) fun j=>?_
 .have j:=ci j;have d:B (l.au.take (i+1))=B (l.au.take i)++(if(l.au.getD i io).kind=1∨(l.au.getD i io).kind=2 then[(l.au.getD i io).atom.rel] else[]):=Gh j;refine zJ Z Z (fun y=>?_) fun y=>?_
  .have y: ¬(l.au.getD i io).kind=1:=zF y;refine zJ Z Z (fun A=>?_) fun A=>?_
   .have A:(l.au.getD i io).kind=2:=zT A;rw[am (.inr A)]at d;refine gA Z ⟨j,ac,[4],zM (bv ⟨.row (by rw[d,Yg];rfl),rfl,bv ac⟩) (zK (hR Z (by rw[d,Yk];rfl) Z ac))⟩
   .have A: ¬(l.au.getD i io).kind=2:=zF A;rw[be (by omega),Y0]at d;refine gA Z ⟨j,ac,[2],zM (bv ⟨.row (by rw[d]),rfl,bv ac⟩) (zK (hR Z (by rw[d]) Z ac))⟩
  .have y:(l.au.getD i io).kind=1:=zT y;rw[am (.inl y)]at d;refine gA Z ⟨j,ac,[4],zM (bv ⟨.row (by rw[d,Yg];rfl),rfl,bv ac⟩) (zK (hR Z (by rw[d,Yk];rfl) Z ac))⟩
 .have j:=co j;rw[Yn j];refine gA Z (cG (by first|exact .inr Z|exact .inl Z) Z Z (rfl) (rfl))
end Go.Proofs.YtflegjieadkonaaGreatDoor
