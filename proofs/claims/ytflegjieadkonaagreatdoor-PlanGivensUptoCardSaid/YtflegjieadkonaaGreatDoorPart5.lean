/-
  What the proofs of the claims need: part 5 of 7.
-/
import Derived.Test.YtflegjieadkonaaGreatDoorPart4
open And renaming intro→ZL
open Bool renaming and_eq_true→Zo,and_false→Z5,eq_false_iff→aaK,eq_iff_iff→ZN,false_and→Z9,false_eq_true→aaz,false_ne_true→ZG,false_or→aag,not_eq_true→aav,not_eq_true'→Z7,or_assoc→abX,or_eq_false_iff→Zz,or_eq_true→aal,or_false→aaD,or_true→aba,true_and→ZR,true_or→abx
open ByteArray renaming empty→Y5,ext→ack,size→abP,size_append→Z1
open Classical renaming byContradiction→aah
open Decidable renaming not_not→abr
open Int renaming le_refl→abb,toNat_natCast→Zs
open List renaming all_eq_false→aaN,all_eq_true→Zr,any_eq_false→ZU,any_eq_true→ZQ,append_assoc→Zc,append_nil→ZE,cons_append→aaC,drop_eq_getElem_cons→abF,eq_nil_of_length_eq_zero→ZW,ext_getElem?→aaM,filter_append→abc,find?_append→abM,find?_cons→aaR,find?_eq_none→aat,find?_eq_some_iff_getElem→abm,findIdx?_eq_none_iff→abC,findIdx?_eq_some_iff_getElem→abf,findSome?_append→abN,flatMap_cons→ZO,foldl_append→aax,foldl_cons→Zw,getD_cons_succ→aap,getD_eq_getElem?_getD→YZ,getElem?_append_left→Zi,getElem?_append_right→Zn,getElem?_cons_succ→aa5,getElem?_drop→aai,getElem?_eq_getElem→Y3,getElem?_eq_some_iff→Y4,getElem?_map→Y9,getElem?_replicate→aa6,getElem?_set→ZM,getElem?_take→ZX,getElem_mem→ZJ,length_append→Y1,length_cons→ZA,length_filter_le→aae,length_map→Zx,length_nil→aad,length_set→aaG,length_singleton→ZB,length_take→ZP,map_append→Y6,map_congr_left→aao,map_cons→Zm,map_map→aaQ,map_nil→Z2,map_set→aaJ,mem_append→Zf,mem_append_left→ZC,mem_append_right→aau,mem_cons→Zj,mem_cons_of_mem→Zg,mem_cons_self→Zh,mem_filter→ZF,mem_flatMap→aaT,mem_iff_getElem→aaa,mem_map→ZD,mem_of_find?_eq_some→abB,mem_of_getElem?→Zv,mem_or_eq_of_mem_set→abD,mem_range→Z8,mem_singleton→Zd,mem_take_iff_getElem→abE,nodup_cons→aam,nodup_nil→Z3,not_mem_nil→aby,pairwise_append→aa4,pairwise_cons→aas,range→Zp,range_succ→abg,range_succ_eq_map→abp,replicate→aaX,sum_cons→aaO,take_length→aaI,take_of_length_le→Za,take_succ_cons→aan
open Nat renaming add_assoc→aaB,add_mul→aaf,add_zero→aa8,beq→Zt,ble→aaV,ble_eq_true_of_le→ZI,blt→Zk,eq_of_beq_eq_true→Zl,le_add_left→aaA,le_of_ble_eq_true→YY,le_refl→Y7,le_succ→abK,le_trans→ZS,lt_succ_iff_lt_or_eq→ZH,lt_succ_of_lt→aaE,lt_succ_self→aar,not_lt_zero→Z6,sub_self→ab0,succ_mul→aaW,zero_add→Zq,zero_le→Y8
open Option renaming map_eq_some_iff→Zb,map_some→ZZ
open Option.some renaming injEq→Y2
open Prod renaming fst→Zu
open Prod.mk renaming injEq→Ze
set_option maxRecDepth 100000
open Bool renaming false→lc,true→kw
open Decidable renaming decide→li
open Inhabited renaming default→em
open Option renaming none→jp,some→io
open Array renaming getD_eq_getD_getElem?→Y0
open Array renaming range→abR
open Array renaming getElem?_map→abn
open Option renaming getD_some→aaq
open Array renaming getElem?_eq_getElem→ZV
open Nat renaming mul_le_mul_right→Zy
open Array renaming getElem?_append_left→Z4
open Array renaming getElem?_toList→aac
namespace Go.Proofs.YtflegjieadkonaaGreatDoor
open Go Go.Al Go.Proofs.Tryz
theorem yQ(a b:List UInt8):(⟨a.toArray⟩:ByteArray)++⟨b.toArray⟩=⟨(a++b).toArray⟩:=by
 apply ack;rw[ByteArray.data_append];simp
theorem bsize(a:List UInt8):(⟨a.toArray⟩:ByteArray).size=a.length:=by simp[abP]
theorem S9{s:aj}{i:Nat}(h:i<s.data.toList.length):s.extract i (i+1)=⟨[s.data.toList.getD i em].toArray⟩:=by
 apply ack;rw[ByteArray.data_extract];apply Array.ext';simp only[Array.toList_extract];rw[List.extract_eq_take_drop,YZ,Y3 h];have e:s.data.toList.drop i=s.data.toList[i]::s.data.toList.drop (i+1):=abF h;rw[e,show i+1-i=1 by omega];simp
theorem XK: ∀k:Nat,k<16->Qm.extract k (k+1)=⟨[Cn (k:Int)].toArray⟩:=fun k h=>S9 (by
 have:Qm.data.toList.length=16:=rfl
 omega)
theorem WX(n:Int)(h0:0<=n)(h1:n<16):Pure prog 306 [pU n] (pS ⟨[Cn n].toArray⟩):=by
 have b:IntKind.u8.wrap (n+1)=n+1:=IntWalk.u8_in _ (by omega);obtain⟨k,rfl⟩: ∃k:Nat,n=(k:Int):=⟨n.toNat,by omega⟩
 have d:=XK k (by omega);have j:Qm.size=16:=rfl;refine ae ab func306 Z (by decide) ntmps306 Z (by simp) Z ?_;refine nV Z (by simp only[b];refine⟨?_,?_⟩<;>first|trivial|omega|(refine⟨?_,?_⟩<;>first|trivial|omega|(refine⟨?_,?_⟩<;>first|trivial|omega))) (zL (.of_eq ?_));rw[b,<-d];rfl
theorem Yg(s:aj)(hs:s.size<=1000):Pure prog 301 [pS s] (pS (p9 s)):=by
 have hl:s.data.toList.length=s.size:=by simp
 refine ae ab func301 Z (by decide) ntmps301 Z (by simp) Z ?_;refine gA Z ?_;refine az 0 s.data.toList.length (Y8 _) (fun i=>⟨[(0,pS s),(3,pS ⟨(nh s i).toArray⟩),(4,pI i)],[],0⟩) (fun _=>True) [] ac
  (mZ Z Z (bv (bv (bv trivial))) Z) fun i hi _=>?_
 have hq:=ug s i;have hz:=bsize (nh s i);have z1:(⟨#[34]⟩:ByteArray).size=1:=rfl;have z2:(⟨#[92,34]⟩:ByteArray).size=2:=rfl;have z3:(⟨#[92,92]⟩:ByteArray).size=2:=rfl;have z4:(⟨#[92,110]⟩:ByteArray).size=2:=rfl;have z5:(⟨#[92,120]⟩:ByteArray).size=2:=rfl;refine zE Z Z (fun j=>?_) fun j=>?_
 .have j:s.data.toList.length<=i:=by
   have:=zF (show li ((i:Int)<(s.size:Int))=lc from j);omega
  refine gA Z (zL (.of_eq ?_));rw[show(⟨#[34]⟩:ByteArray)=⟨[34].toArray⟩ from rfl,yQ];simp only[nh,p9,Za j];rfl
 have j:i<s.data.toList.length:=by
  have:=zT (show li ((i:Int)<(s.size:Int))=kw from j);omega
 have b:=As j;have d:s.data.toList.getD (i:Int).toNat 0=s.data.toList.getD i em:=rfl;have u:=S9 j;generalize hc:s.data.toList.getD i em=c at b d u;refine zJ Z Z (fun y=>?_) fun y=>?_
 .have y:c.toNat=34:=by have:=zT y;rw[d]at this;omega
  rw[qB,am (.inl y)]at b;have Y:c=34:=UInt8.toNat_inj.1 y;refine gA Z ⟨j,ac,[],mZ Z Z (bv ⟨.of_eq (by rw[b,Y,show(⟨#[92,34]⟩:ByteArray)=⟨[92,34].toArray⟩ from rfl,yQ];rfl),rfl,bv ac⟩) Z⟩
 have y: ¬c.toNat=34:=by have:=zF y;rw[d]at this;omega
 refine zJ Z Z (fun A=>?_) fun A=>?_
 .have A:c.toNat=92:=by have:=zT A;rw[d]at this;omega
  rw[qB,am (.inr A)]at b;have a0:c=92:=UInt8.toNat_inj.1 A;refine gA Z ⟨j,ac,[],mZ Z Z (bv ⟨.of_eq (by rw[b,a0,show(⟨#[92,92]⟩:ByteArray)=⟨[92,92].toArray⟩ from rfl,yQ];rfl),rfl,bv ac⟩) Z⟩
 have A: ¬c.toNat=92:=by have:=zF A;rw[d]at this;omega
 rw[qB,be (by omega)]at b;refine zJ Z Z (fun B=>?_) fun B=>?_
 .have B:c.toNat=10:=by have:=zT B;rw[d]at this;omega
  rw[am B]at b;refine gA Z ⟨j,ac,[],mZ Z Z (bv ⟨.of_eq (by rw[b,show(⟨#[92,110]⟩:ByteArray)=⟨[92,110].toArray⟩ from rfl,yQ];rfl),rfl,bv ac⟩) Z⟩
 have B: ¬c.toNat=10:=by have:=zF B;rw[d]at this;omega
 rw[be B]at b;have b0:=LP c;have c0:=Ls c;have D:=WX (Ql c) b0.1 b0.2;have F:=WX (SQ c) c0.1 c0.2;rw[<-hc]at D F;have d0:c.toNat<32∨126<c.toNat-> ∀x:ByteArray,x=((⟨(nh s i).toArray⟩++(⟨#[92,120]⟩:ByteArray))++⟨[Cn (Ql c)].toArray⟩)++⟨[Cn (SQ c)].toArray⟩->pS x=pS ⟨(nh s (i+1)).toArray⟩:=fun h x e=>by
  rw[am h]at b;rw[e,b,show(⟨#[92,120]⟩:ByteArray)=⟨[92,120].toArray⟩ from rfl,yQ,yQ,yQ];simp
 have J:((⟨(nh s i).toArray⟩:ByteArray)++(⟨#[92,120]⟩:ByteArray)).size=(nh s i).length+2:=by
  rw[show(⟨#[92,120]⟩:ByteArray)=⟨[92,120].toArray⟩ from rfl,yQ,bsize,Y1];rfl
 have S: ∀z,((⟨(nh s i).toArray⟩:ByteArray)++(⟨#[92,120]⟩:ByteArray)++⟨[Cn z].toArray⟩).size=(nh s i).length+3:=fun z=>by
  rw[show(⟨#[92,120]⟩:ByteArray)=⟨[92,120].toArray⟩ from rfl,yQ,yQ,bsize,Y1,Y1];rfl
 have e1: ∀z,(⟨[Cn z].toArray⟩:ByteArray).size=1:=fun z=>rfl;have e2:(⟨[Cn (Ql (s.data.toList.getD i em))].toArray⟩:ByteArray).size=1:=rfl;refine zJ Z Z (fun G=>?_) fun G=>?_
 .have G: ¬c.toNat<32:=by have:=zF G;rw[d]at this;omega
  refine zJ Z Z (fun I=>?_) fun I=>?_
  .have I:126<c.toNat:=by have:=zT I;rw[d]at this;omega
   refine gA Z (zp (D) ?_);refine gA Z (zp (F) ?_);refine nV Z (by(repeat' (first|exact ac|exact rfl|apply ZL))<;>first|omega|(rw[J,e1];omega)|(rw[S,e1];omega)) ?_;exact⟨j,ac,[],mZ Z Z (bv ⟨.of_eq (d0 (.inr I) _ (by rw[<-hc])),rfl,bv ac⟩) Z⟩
  have I: ¬126<c.toNat:=by have:=zF I;rw[d]at this;omega
  rw[be (by omega)]at b;have e0:(s.extract i (i+1)).size=1:=by rw[u];rfl
  refine nV Z (by(repeat' (first|exact ac|exact rfl|apply ZL))<;>first|omega|(rw[show((i:Int)+1).toNat=i+1 by omega,show(i:Int).toNat=i by omega,e0];omega)) ?_;exact⟨j,ac,[],mZ Z Z (bv ⟨.of_eq (by show pS _=pS _;rw[show((i:Int)+1).toNat=i+1 by omega,show(i:Int).toNat=i by omega,u,b,yQ]),rfl,bv ac⟩) Z⟩
 .have G:c.toNat<32:=by have:=zT G;rw[d]at this;omega
  refine gA Z (zp (D) ?_);refine gA Z (zp (F) ?_);refine nV Z (by(repeat' (first|exact ac|exact rfl|apply ZL))<;>first|omega|(rw[J,e1];omega)|(rw[S,e1];omega)) ?_;exact⟨j,ac,[],mZ Z Z (bv ⟨.of_eq (d0 (.inl G) _ (by rw[<-hc])),rfl,bv ac⟩) Z⟩
theorem Yk(v:tG):Pure prog 290 [ag v.c] (.bQ [pS (n9 v),pI (du v)]):=by
 refine ae ab func290 Z (by decide) ntmps290 Z (by simp) Z ?_;refine gA Z (zp (Yh v) ?_);refine zJ Z Z (fun b=>?_) fun b=>?_
 .have b: ¬du v=0:=by simpa using b
  refine gA Z (zL (.of_eq ?_));rw[n9,be b];rfl
 have b:du v=0:=by simpa using b
 rw[n9,am b,b];refine zJ Z Z (fun d=>?_) fun d=>?_
 .have d:v.kind=1:=by simpa using d
  have:=sG b d;refine gA Z (zp (WZ v.num (by omega) (by omega)) ?_);refine gA Z (zL (.of_eq ?_));rw[tP,am d];rfl
 have d: ¬v.kind=1:=by simpa using d
 have u:=sF b d;refine gA Z (zp (W6 v.sym (by omega)) ?_);refine zJ Z Z (fun j=>?_) fun j=>?_
 .have j:ep v.sym=kw:=j;refine gA Z (zL (.of_eq ?_));rw[tP,be d,am j];rfl
 .have j: ¬ep v.sym=kw:=by simpa using j
  refine gA Z (zp (Yg v.sym (by omega)) ?_);refine gA Z (zL (.of_eq ?_));rw[tP,be d,be j];rfl
abbrev nZ:=aj×Bool
def nZ.c(t:nZ):List IV:=[iS t.1,.v (.bool t.2)]
def eZ(kind:Int)(b:aj)(v:tG):nZ:=if kind=1 then(b,!ei b||!cU v) else(n9 v,!li (du v=0)||!li (b=Y5))
theorem W5(kind:Int)(b:aj)(v:tG)(hs:b.size<=1000000000000):Pure prog 276 [pI kind,pS b,ag v.c] (ag (eZ kind b v).c):=by
 refine ae ab func276 Z (by decide) ntmps276 Z (by simp) Z ?_;refine zJ Z Z (fun d=>?_) fun d=>?_
 .have d:kind=1:=by simpa using d
  refine gA Z (zp (W1 b hs) ?_);unfold eZ;rw[am d];refine zJ Z Z (fun g=>?_) fun g=>?_
  .have g:ei b=kw:=by simpa using g
   refine gA Z (zL ?_);exact .agg ⟨.refl _,.of_eq (fP (by rw[g];simp[cU])),ac⟩
  .have g:ei b=lc:=by simpa using g
   refine gA Z (zL ?_);exact .agg ⟨.refl _,.rA (by rw[g];rfl),ac⟩
 .have d: ¬kind=1:=by simpa using d
  refine gA Z (zp (Yk v) ?_);unfold eZ;rw[be d];refine zJ Z Z (fun g=>?_) fun g=>?_
  .have g:du v=0:=by simpa using g
   refine gA Z (zL ?_);exact .agg ⟨.refl _,.of_eq (fP (by rw[g];rfl)),ac⟩
  .have g: ¬du v=0:=by simpa using g
   refine gA Z (zL ?_);exact .agg ⟨.refl _,.rA (by simp[g]),ac⟩
def Nc(x:Term):nZ:=(Kz,!li (x.var=Y5)||!cU x.val)
def pD(x:Term):nZ:=if x.kind=3 then Nc x else((eZ x.kind x.var x.val).1,(eZ x.kind x.var x.val).2||(!li (x.kind=1)&&!li (x.kind=2)))
def eG(a:Atom):Nat->nZ
 |0=>(a.rel++sO,!ep a.rel)
 |i+1=>((if(i:Int)>0 then(eG a i).1++wE else(eG a i).1)++(pD (a.ad.getD i em)).1,(eG a i).2||(pD (a.ad.getD i em)).2)
def fg(a:Atom):nZ:=((eG a a.ad.length).1++sC,(eG a a.ad.length).2)
theorem s9(k:Int)(s:aj)(v:tG):(eZ k s v).1.size<=s.size+300:=by
 have:=n8 v;unfold eZ;split
 .show s.size<=_;omega
 .show(n9 v).size<=_;omega
theorem Ir(x:Term):(pD x).1.size<=x.var.size+300:=by
 have:=s9 x.kind x.var x.val;unfold pD;split
 .show Kz.size<=_;have:Kz.size=1:=rfl;omega
 .exact this
theorem pt(a:Atom): ∀i,i<=a.ad.length->(eG a i).1.size<=a.rel.size+1+((a.ad.take i).map Term.ts).sum
 |0,_=>by
  show(a.rel++sO).size<=_;rw[Z1];have:sO.size=1:=rfl;omega
 |i+1,h=>by
  have b:=pt a i (by omega);have d:=Ir (a.ad.getD i em);have j:wE.size=2:=rfl;have u:(a.ad.getD i em).ts=(a.ad.getD i em).var.size+310:=rfl;have x:((a.ad.take (i+1)).map Term.ts).sum=((a.ad.take i).map Term.ts).sum+(a.ad.getD i em).ts:=by
   rw[bz (by omega),Y6,List.sum_append];simp
  show((if(i:Int)>0 then(eG a i).1++wE else(eG a i).1)++(pD (a.ad.getD i em)).1).size<=_;rw[Z1];split
  .rw[Z1];omega
  .omega
theorem hP: ∀(b:List aj) (w:WS),(a8 w b).bad=w.bad
 | [],w=>rfl
 |s::r,w=>hP r (BU w s)
theorem xo(w:WS)(v:tG):(nJ w v).bad=(w.bad||!li (du v=0)):=by
 rw[nJ,hP];rfl
theorem de(w:WS)(b:Bool):(aT w b).bad=(w.bad||!b):=rfl
theorem Ab(w:WS)(t:Term):(lC w t).bad=(w.bad||(pD t).2):=by
 have hE:(⟨#[]⟩:ByteArray)=Y5:=rfl;unfold lC pD eZ Nc;by_cases b:t.kind=1
 .rw[am b,hP,de,be (by omega),am b,zm];simp[b]
 rw[be b];by_cases d:t.kind=2
 .rw[am d,xo,de,be (by omega),be b];simp[d,hE];cases w.bad<;>cases li (t.var=Y5)<;>cases li (du t.val=0)<;>rfl
 rw[be d];by_cases j:t.kind=3
 .rw[am j,hP,de,am j,zn];simp[hE]
 .rw[be j,be j,be b];simp[b,d,oH]
theorem tz(i:Nat)(w:WS):(iV i w).bad=w.bad:=by
 unfold iV;split
 .rfl
 .exact hP _ _
theorem xt(a:Atom): ∀i,(eD a.ad (a8 (aT WS.o (ep a.rel)) [a.rel,sO]) i).bad=(eG a i).2
 |0=>by rw[eD,hP];rfl
 |i+1=>by rw[eD,Ab,tz,xt a i];rfl
theorem Fb(a:Atom):lT a=(fg a).2:=by
 unfold lT ko fg;rw[hP,xt]
abbrev Xr(a:Atom)(i:Nat):Term:=a.ad.getD i em
structure GInv (p:Prog) (a:Atom) (n:Nat) (m:NM):Prop where
 is:SS p a n=io m
 has: ∀s,ef .str m s=kw↔ ∃k,k<n∧(Xr a k).kind=1∧(Xr a k).var=s
 val: ∀k,k<n->(Xr a k).kind=1->bU .str m (Xr a k).var 0=HH p a k
abbrev nY:nZ:=(⟨#[]⟩,kw)
def bx(e:Expr):Int:=if e.kind=4 then(if e.op=1∨e.op=2 then 1 else if e.op=3∨e.op=4∨e.op=5 then 2 else 3) else 4
def xB(op:Int):aj:=if op=1 then⟨#[32,43,32]⟩ else if op=2 then⟨#[32,45,32]⟩ else if op=3 then⟨#[32,42,32]⟩ else if op=4 then⟨#[32,47,32]⟩ else⟨#[32,109,111,100,32]⟩
def yf(e:Expr)(b:Bool):nZ:=((eZ e.kind e.var e.val).1,(eZ e.kind e.var e.val).2||(b||(!li (e.op=0)||decide ((e.args.length:Int)>0))))
def Lf(a:Expr):Bool:=pO a&&li (a.val.num>0)
def qq(a:Expr):Bool:=li (bx a<3)||Lf a
def FV(a:Expr):Bool:=pO a&&li (a.val.num=0)
def nu(a0:Bool->Expr->nZ)(e:Expr):nZ:=
 if e.op=6 then
  (if e.args.length=1 then(sM++(if FV (aP e)=kw then(⟨#[45,48]⟩:ByteArray) else(a0 (qq (aP e)) (aP e)).1),(a0 (qq (aP e)) (aP e)).2) else nY)
 else if e.args.length=2 then((a0 (li (bx (aP e)<bx e)) (aP e)).1++xB e.op++(a0 (li (bx (k9 e)<=bx e)) (k9 e)).1,(a0 (li (bx (aP e)<bx e)) (aP e)).2||(a0 (li (bx (k9 e)<=bx e)) (k9 e)).2) else nY
def gE(e:Expr)(b:Bool)(k:nZ):nZ:=
 if e.kind=1∨e.kind=2 then yf e b
 else if¬e.kind=4∨b=kw∨ ¬e.var=⟨#[]⟩∨cU e.val=lc∨e.op<1∨e.op>6 then nY else k
def bP:Nat->Expr->nZ
 |0,e=>gE e kw nY
 |1,e=>gE e lc nY
 |m+2,e=>gE e lc (nu (fun b a=>if b=kw then(sO++(bP m a).1++sC,(bP m a).2||decide (m<1)) else bP (m+1) a) e)
def ke(m:Nat)(b:Bool)(a:Expr):nZ:=if b=kw then(sO++(bP m a).1++sC,(bP m a).2||decide (m<1)) else bP (m+1) a
theorem vH(m:Nat)(e:Expr):bP (m+2) e=gE e lc (nu (ke m) e):=rfl
theorem Jr(m:Nat)(w:WS)(e:Expr):cP (m+2) w e=jL w e (km (qV m) (aT w (mA e)) e):=rfl
theorem Je(e:Expr)(b:Bool):(yf e b).1.size<=e.var.size+300:=s9 _ _ _
theorem Ad(op:Int):(xB op).size<=5:=by
 unfold xB
 repeat' split
 all_goals decide
theorem IZ(a0:Bool->Expr->nZ)(d: ∀b a,(a0 b a).1.size<=2+a.ts)(e:Expr):(nu a0 e).1.size<=e.ts:=by
 have D:=e.mf;have J:(⟨#[]⟩:ByteArray).size=0:=rfl;unfold nu;split
 .split
  .rename_i j;have y:=Expr.tN e.args 0 (by omega);have u:=d (qq (aP e)) (aP e);have A:sM.size=1:=rfl;have B:(⟨#[45,48]⟩:ByteArray).size=2:=rfl;show(sM++_).size<=_;rw[Z1];have I:(if FV (aP e)=kw then(⟨#[45,48]⟩:ByteArray) else(a0 (qq (aP e)) (aP e)).1).size<=2+(aP e).ts:=by
    by_cases x:FV (aP e)=kw
    .rw[am x];omega
    .rw[be x];exact u
   simp only[aP] at*;omega
  .show(⟨#[]⟩:ByteArray).size<=_;omega
 .split
  .rename_i j;have y:=Expr.wR e.args j;have u:=d (li (bx (aP e)<bx e)) (aP e);have F:=d (li (bx (k9 e)<=bx e)) (k9 e);have G:=Ad e.op;show((_++_)++_:ByteArray).size<=_;rw[Z1,Z1];simp only[aP,k9] at*;omega
  .show(⟨#[]⟩:ByteArray).size<=_;omega
theorem vz(e:Expr)(b:Bool)(k:nZ)(h:k.1.size<=e.ts):(gE e b k).1.size<=e.ts:=by
 have d:=e.mf;have j:(⟨#[]⟩:ByteArray).size=0:=rfl;unfold gE;split
 .have:=Je e b;omega
 split
 .show(⟨#[]⟩:ByteArray).size<=_;omega
 .exact h
theorem fw: ∀(n:Nat) (e:Expr),(bP n e).1.size<=e.ts
 |0,e=>vz _ _ _ (by show(⟨#[]⟩:ByteArray).size<=_;exact Y8 _)
 |1,e=>vz _ _ _ (by show(⟨#[]⟩:ByteArray).size<=_;exact Y8 _)
 |m+2,e=>by
  refine vz _ _ _ (IZ _ (fun b a=>?_) e);have d:sO.size=1:=rfl;have j:sC.size=1:=rfl;split
  .have:=fw m a;show((sO++(bP m a).1)++sC).size<=_;rw[Z1,Z1];omega
  .have:=fw (m+1) a;omega
theorem qW(m:Nat)(b:Bool)(a:Expr):(ke m b a).1.size<=2+a.ts:=by
 have d:sO.size=1:=rfl;have j:sC.size=1:=rfl;unfold ke;split
 .have:=fw m a;show((sO++(bP m a).1)++sC).size<=_;rw[Z1,Z1];omega
 .have:=fw (m+1) a;omega
theorem rh{op:Int}:bh op=0↔op<1∨op>6:=by
 unfold bh
 repeat' split
 all_goals omega
theorem BG(op:Int):0<=bh op:=by
 unfold bh
 repeat' split
 all_goals decide
theorem B6{e:Expr}(h:bh e.op=0):mA e=lc:=by
 unfold mA;rw[h];simp
theorem A9{e:Expr}(j:e.kind=4)(h:bh e.op=0): ∀n,(bP n e).2=kw:=by
 have d: ∀b k,(gE e b k).2=kw:=fun b k=>by
  unfold gE;rw[be (by omega),am];have:=rh.1 h;rcases this with h|h
  .exact .inr (.inr (.inr (.inr (.inl h))))
  .exact .inr (.inr (.inr (.inr (.inr h))))
 intro n
 match n with
 |0=>exact d _ _
 |1=>exact d _ _
 |m+2=>exact d _ _
theorem AP(w:WS)(e:Expr)(k:WS)(b:(aT w (mA e)).bad=kw->k.bad=kw)(ho:mA e=lc)(d:e.kind=4):(jL w e k).bad=kw:=by
 unfold jL;split
 .rfl
 rw[be (show¬e.kind=1 by omega),be (show¬e.kind=2 by omega)];exact b (by rw[de,ho];simp)
theorem Aw(a0:Bool->WS->Expr->WS)(w:WS)(e:Expr)(h:w.bad=kw):km a0 w e=oH w:=by
 unfold km;rw[am h]
theorem A8{e:Expr}(b:e.kind=4)(h:bh e.op=0): ∀n w,(cP n w e).bad=kw:=by
 intro n w
 match n with
 |0=>rfl
 |1=>exact AP _ _ _ (fun _=>rfl) (B6 h) b
 |m+2=>exact AP _ _ _ (fun g=>by rw[Aw _ _ _ g];rfl) (B6 h) b
theorem rL{e:Expr}(h: ¬(e.kind=4∧bh e.op=0)):bx e=eA e:=by
 unfold bx eA;split
 .rename_i b;have:=mt rh.2 fun g=>h ⟨b,g⟩;unfold bh;split
  .rfl
  split
  .rfl
  rw[am (by omega)]
 .rfl
theorem iJ(w:WS)(s:aj):(a8 w [s]).bad=w.bad:=rfl
theorem Fe(e:Expr):li ((e.args.length:Int)>0)=!li ((e.args.length:Int)=0):=by
 by_cases h:e.args.length=0
 .rw[h];rfl
 .rw[decide_eq_true (by omega),decide_eq_false (by omega)];rfl
theorem Es{w:WS}{e:Expr}{k:WS}{t:nZ}(h:w.bad=lc->mA e=kw->e.kind=4->k.bad=t.2)(hb:(aT w (mA e)).bad=kw->k.bad=kw):(jL w e k).bad=(w.bad||(gE e lc t).2):=by
 unfold jL gE;cases hw:w.bad with
 |true=>rfl
 |false=>
  rw[be (by decide),aag];by_cases b:e.kind=1
  .rw[am b,am (.inl b),iJ,de,hw];unfold yf eZ qk;rw[am b,Fe];cases ei e.var<;>cases cU e.val<;>cases li (e.op=0)<;>cases li ((e.args.length:Int)=0)<;>rfl
  by_cases u:e.kind=2
  .rw[be b,am u,am (.inr u),xo,de,hw];unfold yf eZ rZ;rw[be b,Fe];show(lc||!(li (e.var=Y5)&&_)||_)=_;cases li (du e.val=0)<;>cases li (e.var=Y5)<;>cases li (e.op=0)<;>cases li ((e.args.length:Int)=0)<;>rfl
  have j: ¬(e.kind=1∨e.kind=2):=by omega
  rw[be b,be u,be j];by_cases d:e.kind=4
  .rw[am d];cases ho:mA e with
   |true=>
    rw[h hw ho d,be];unfold mA at ho;rw[Zo,Zo,decide_eq_true_iff,decide_eq_true_iff]at ho;rintro(g|g|g|g|g)
    .exact g d
    .cases g
    .exact g ho.1
    .rw[g]at ho;cases ho.2.1
    .have:=rh.2 g;omega
   |false=>
    rw[hb (by rw[de,ho];simp),am];unfold mA at ho;by_cases g1:e.var=⟨#[]⟩
    .by_cases g2:cU e.val=kw
     .rw[decide_eq_true g1,g2,ZR,ZR,decide_eq_false_iff_not]at ho;have:=BG e.op;have:=rh.1 (show bh e.op=0 by omega);exact .inr (.inr (.inr (.inr this)))
     .exact .inr (.inr (.inr (.inl (by simpa using g2))))
    .exact .inr (.inr (.inl g1))
  .rw[be d,am (.inl d)];rfl
theorem M7{m:Nat}(i0: ∀w e,(cP m w e).bad=(w.bad||(bP m e).2))(i1: ∀w e,(cP (m+1) w e).bad=(w.bad||(bP (m+1) e).2))(b:Bool)(w:WS)(a:Expr):(qV m b w a).bad=(w.bad||(ke m b a).2):=by
 unfold qV ke;split
 .rw[iJ,i0,iJ];show _=(w.bad||((bP m a).2||_))
  cases m with
  |zero=>
   have:(bP 0 a).2=kw:=by
    have:=i0 ⟨lc,[],lc,0⟩ a;exact this.symm
   rw[this];rfl
  |succ m=>rw[decide_eq_false (by omega),aaD]
 .exact i1 w a
theorem CP{m:Nat}(i0: ∀w e,(cP m w e).bad=(w.bad||(bP m e).2))(i1: ∀w e,(cP (m+1) w e).bad=(w.bad||(bP (m+1) e).2)){b b':Bool}(w:WS)(a:Expr)(h: ¬(a.kind=4∧bh a.op=0)->b=b'):(qV m b w a).bad=(w.bad||(ke m b' a).2):=by
 by_cases g:a.kind=4∧bh a.op=0
 .have d:(qV m b w a).bad=kw:=by
   unfold qV;split
   .rw[iJ];exact A8 g.1 g.2 _ _
   .exact A8 g.1 g.2 _ _
  have j:(ke m b' a).2=kw:=by
   unfold ke;split
   .show((bP m a).2||_)=kw;rw[A9 g.1 g.2];rfl
   .exact A9 g.1 g.2 _
  rw[d,j,aba]
 .rw[h g];exact M7 i0 i1 _ _ _
theorem K7{m:Nat}(i0: ∀w e,(cP m w e).bad=(w.bad||(bP m e).2))(i1: ∀w e,(cP (m+1) w e).bad=(w.bad||(bP (m+1) e).2))(w:WS)(e:Expr)(hw:w.bad=lc)(d:e.kind=4)(ho:mA e=kw):(km (qV m) w e).bad=(nu (ke m) e).2:=by
 have j: ¬(e.kind=4∧bh e.op=0):=fun g=>by rw[B6 g.2]at ho;cases ho
 have b:bx e=bh e.op:=by rw[rL j];exact am d
 unfold km nu;rw[be (by rw[hw];decide)];split
 .split
  .rw[CP i0 i1 (b':=qq (aP e)) _ _ fun g=>by unfold ot qq Lf;rw[rL g]];have:(if(pO (aP e)&&li ((aP e).val.num=0))=kw then a8 (a8 w [sM]) [sM] else a8 w [sM]).bad=lc:=by
    split
    .exact hw
    .exact hw
   rw[this];rfl
  .rfl
 .split
  .rw[CP i0 i1 (b':=li (bx (k9 e)<=bx e)) _ _ fun g=>by rw[b,rL g]];rw[hP,CP i0 i1 (b':=li (bx (aP e)<bx e)) _ _ fun g=>by rw[b,rL g],hw];rfl
  .rfl
theorem qK: ∀(n:Nat) (w:WS) (e:Expr),(cP n w e).bad=(w.bad||(bP n e).2)
 |0,w,e=>by
  have:(bP 0 e).2=kw:=by
   show(gE e kw nY).2=kw;unfold gE;split
   .unfold yf;simp
   split<;>rfl
  rw[this,aba];rfl
 |1,w,e=>Es (fun _ _ _=>rfl) (fun _=>rfl)
 |m+2,w,e=>by
  rw[vH,Jr];exact Es (fun d b j=>K7 (qK m) (qK (m+1)) _ _ (by rw[de,d,b];rfl) j b) (fun g=>by rw[Aw _ _ _ g];rfl)
def eQ(a:Atom):Bool:=li (a.rel=⟨#[]⟩)&&li ((a.ad.length:Int)=0)
def js(a:eK):Bool:=li (a.func=0)&&(li (a.var=⟨#[]⟩)&&(cX a.dY&&li ((a.body.length:Int)=0)))
def gY(l:Lit):Bool:=cX l.left&&(cX l.right&&li (l.op=0))
def b5(f:Lit->nZ)(l:List Lit):Nat->nZ
 |0=>(⟨#[]⟩,lc)
 |i+1=>if(b5 f l i).2=kw then nY else if(f (l.getD i em)).2=kw then nY else((if(i:Int)>0 then(b5 f l i).1++wE else(b5 f l i).1)++(f (l.getD i em)).1,lc)
def Hl(a:eK):nZ:=
 if a.func=1 then(((a.var++p4)++fB a.func)++p5,!ei a.var||!cX a.dY) else(((((a.var++p4)++fB a.func)++p5)++(bP 17 a.dY).1)++Fm,!ei a.var||(bP 17 a.dY).2)
def oJ(f:Lit->nZ)(a:eK)(br:Int):nZ:=
 if a.func<1∨a.func>4∨br<1∨(a.body.length:Int)=0 then nY
 else(((Hl a).1++(b5 f a.body a.body.length).1)++wD,(Hl a).2||(b5 f a.body a.body.length).2)
def jK(f:Int->Lit->nZ)(br:Int)(l:Lit):nZ:=
 if l.kind=1∨l.kind=2 then(if l.kind=2 then xF++(fg l.atom).1 else(fg l.atom).1,(fg l.atom).2||(!gY l||!js l.agg))
 else if l.kind=3 then(((bP 17 l.left).1++qN l.op)++(bP 17 l.right).1,(bP 17 l.left).2||((bP 17 l.right).2||(!eQ l.atom||(!js l.agg||(li (l.op<1)||decide (l.op>6))))))
 else if l.kind=4 then((oJ (f (br-1)) l.agg br).1,(oJ (f (br-1)) l.agg br).2||(!eQ l.atom||!gY l)) else nY
def ew:Nat->Int->Lit->nZ
 |0,_,_=>nY
 |n+1,br,l=>jK (ew n) br l
theorem yL{f:Lit->WS->WS}{l:List Lit}{w:WS}(h:w.bad=kw): ∀i,di f l w i=w
 |0=>rfl
 |i+1=>by rw[di,yL h i,am h]
theorem E6{f:Lit->WS->WS}{g:Lit->nZ}{l:List Lit}{br:Int}(b: ∀l w,(f l w).br=w.br)(h: ∀i,i<l.length-> ∀w:WS,w.br=br->(f (l.getD i em) w).bad=(w.bad||(g (l.getD i em)).2))(w:WS)(hw:w.br=br): ∀i,i<=l.length->(di f l w i).bad=(w.bad||(b5 g l i).2)
 |0,_=>by show w.bad=(w.bad||false);rw[aaD]
 |i+1,hi=>by
  have d:=E6 b h w hw i (by omega);cases hb:w.bad with
  |true=>rw[yL hb,hb];rfl
  |false=>
   rw[hb,aag]at d;rw[di,d,b5,aag];split
   .rw[d];assumption
   .rename_i u;rw[h i (by omega) _ (by rw[rF,oG f b];exact hw),tz,d];rw[aav]at u;rw[u,aag];split
    .assumption
    .rename_i j;rw[aav]at j;rw[j]
theorem H8(w:WS)(n:Int):(xf w n).bad=w.bad:=rfl
theorem Us(w:WS)(a:eK):(rr (a8 (aT w (ei a.var)) [a.var,p4,fB a.func,p5]) a).bad=(w.bad||(Hl a).2):=by
 unfold rr Hl;split
 .rw[de,hP,de,abX]
 .rw[iJ,qK,hP,de,abX]
theorem Rb{f:Lit->WS->WS}{g:Int->Lit->nZ}(b: ∀l w,(f l w).br=w.br)(w:WS)(a:eK)(h: ∀i,i<a.body.length-> ∀v:WS,(f (a.body.getD i em) v).bad=(v.bad||(g (16-v.br) (a.body.getD i em)).2)):(y7 f w a).bad=(w.bad||(oJ (g (16-w.br-1)) a (16-w.br)).2):=by
 unfold y7 oJ;split
 .rw[am (by omega),aba];rfl
 .rw[be (by omega),iJ,H8,E6 (g:=g (16-w.br-1)) b (br:=w.br+1) (fun i d v j=>by rw[h i d v,j,show(16:Int)-(w.br+1)=16-w.br-1 by omega]) _ (by show(xf _ 1).br=_;show(rr _ _).br+1=_;rw[FU,dp,qp]) _ (Y7 _),H8,Us,abX]
theorem Ln(n:Nat):li ((n:Int)>0)=!li ((n:Int)=0):=by
 by_cases h:n=0
 .rw[h];rfl
 .rw[decide_eq_true (by omega),decide_eq_false (by omega)];rfl
theorem Bn(w:WS)(a:Atom):(ko w a).bad=(w.bad||(fg a).2):=by
 unfold ko fg;rw[iJ];have: ∀i,(eD a.ad (a8 (aT w (ep a.rel)) [a.rel,sO]) i).bad=(w.bad||(eG a i).2):=by
  intro i
  induction i with
  |zero=>rw[eD,hP];rfl
  |succ i ih=>rw[eD,Ab,tz,ih,eG,abX]
 exact this _
theorem Ca: ∀(n:Nat) (l:Lit) (w:WS),l.size<=n->(eC n l w).bad=(w.bad||(ew n (16-w.br) l).2)
 |0,l,w,h=>by have:=l.size_pos;omega
 |n+1,l,w,h=>by
  have hs:=l.size_eq;have b:=Rb (f:=eC n) (g:=ew n) (w6 n) (aT w (kD l)) l.agg fun i x v=>by
   have x:i<l.ar.length:=x;have:=Lit.aI l.ar i x;have:=l.left.size_pos;exact Ca n (l.ar.getD i em) v (by omega)
  rw[qp]at b;rw[eC,ew];have I:eQ l.atom=(li (l.atom.rel=⟨#[]⟩)&&li ((l.atom.ad.length:Int)=0)):=rfl;have J:js l.agg=(li (l.c7=0)&&(li (l.a7=⟨#[]⟩)&&(cX l.jR&&li ((l.ar.length:Int)=0)))):=rfl;have Y:gY l=(cX l.left&&(cX l.right&&li (l.op=0))):=rfl;have n4:(!(!li (l.atom.rel=⟨#[]⟩)||!li ((l.atom.ad.length:Int)=0)))=eQ l.atom:=by rw[I];simp
  have n5:(!(!li (l.op=0)||(!cX l.left||!cX l.right)))=gY l:=by
   rw[Y];cases li (l.op=0)<;>cases cX l.left<;>cases cX l.right<;>rfl
  have B:kD l=((li (l.kind=1)||decide (l.kind=2)||eQ l.atom)&&((!!li (l.kind=3)||gY l)&&(li (l.kind=4)||js l.agg))):=by
   unfold kD;rw[Ln,n4,n5,J]
  unfold Ei jK;rw[B]at b ⊢;generalize eQ l.atom=A at*
  generalize js l.agg=G at*
  generalize gY l=S at*
  by_cases d:l.kind=2
  .rw[am d,am (.inr d),Bn,iJ,de];simp only[d];cases w.bad<;>cases(fg l.atom).2<;>cases A<;>cases G<;>cases S<;>rfl
  by_cases k1:l.kind=1
  .rw[be d,am k1,am (.inl k1),Bn,de];simp only[k1];cases w.bad<;>cases(fg l.atom).2<;>cases A<;>cases G<;>cases S<;>rfl
  have y: ¬(l.kind=1∨l.kind=2):=by omega
  rw[be d,be k1,be y];by_cases j:l.kind=3
  .rw[am j,am j];have F:li (l.op<1)=kw∨li (l.op>6)=kw∨ ¬(l.op<1∨7<=l.op):=by
    simp only[decide_eq_true_eq];omega
   split
   .rename_i D;have:(li (l.op<1)||decide (l.op>6))=kw:=by simp;omega
    rw[this];simp[oH]
   .rename_i D;have:(li (l.op<1)||decide (l.op>6))=lc:=by simp;omega
    rw[this,qK,iJ,qK,de];simp only[j];cases w.bad<;>cases(bP 17 l.left).2<;>cases(bP 17 l.right).2<;>cases A<;>cases G<;>rfl
  rw[be j,be j];by_cases u:l.kind=4
  .rw[am u,am u,b,de];simp only[u];cases w.bad<;>cases(oJ (ew n (16-w.br-1)) l.agg (16-w.br)).2<;>cases A<;>cases G<;>cases S<;>rfl
  .rw[be u,be u];show kw=(_||true)
   rw[aba]
def pH(l:Lit):nZ:=ew l.size 16 l
theorem AJ(l:Lit):iR l=(pH l).2:=by
 unfold iR pH;rw[Ca l.size l WS.o (Y7 _)];show(lc||(ew l.size (16-0) l).2)=_;rw[aag];rfl
end Go.Proofs.YtflegjieadkonaaGreatDoor
namespace Go.Proofs.YtflegjieadkonaaGreatDoor
open Go Go.Al
section
structure Ask where
 place:Int
 item:Int
 type:Int
 qw:Int
 deriving Inhabited
def Ask.c(a:Ask):List IV:=[iI a.place,iI a.item,iI a.type,iI a.qw]
structure AK where
 items:List aN
 root:List Int
 l:List Ask
def zs:List aN->aN->Nat
 | [],_=>0
 |a::r,u=>if a=u then 0 else zs r u+1
def AK.ix(A:AK)(u:aN):Int:=((zs A.items u:Nat):Int)
def AK.item(A:AK)(u:aN):AK:=if zs A.items u<A.items.length then A else⟨A.items++ [u],A.root++ [(A.root.length:Int)],A.l⟩
def AK.ask(A:AK)(k:Ask):AK:=if k.type=1∨k.type=2 then⟨A.items,A.root,A.l++ [k]⟩ else A
def AK.want(A:AK)(b:Int)(u:aN)(d:Int):AK:=(A.item u).ask ⟨b,A.ix u,d,0⟩
def AK.rt(A:AK)(i:Int):Int:=A.root.getD i.toNat 0
def AK.tie(A:AK)(x y:Int):AK:=⟨A.items,A.root.map fun z=>if z=A.rt x then A.rt y else z,A.l⟩
section
variable (r:ah) (lit w:Int)
def mF(e:Expr)(A:AK):AK:=if e.kind=1 then A.want lit (bf r e.var w) 1 else if e.kind=2 then A.ask ⟨lit, -1,1,e.val.kind⟩ else A
mutual
def gJ:Expr->AK->AK
 | .mk k v val op args=>fun A=>if k=4 then xV args (mF r lit w (.mk k v val op args) A) else mF r lit w (.mk k v val op args) A
def xV:List Expr->AK->AK
 | []=>fun A=>A
 |e::s=>fun A=>xV s (gJ e A)
end
theorem D7: ∀(l:List Expr) (A:AK),xV r lit w l A=l.foldl (fun A e=>gJ r lit w e A) A
 | [],A=>by rw[xV];rfl
 |e::s,A=>by
  rw[xV];show xV r lit w s (gJ r lit w e A)=_;rw[D7 s];rfl
def lO(e:Expr)(A:AK):AK:=if e.kind=4 then e.args.foldl (fun A x=>gJ r lit w x A) A else A
theorem wZ(e:Expr)(A:AK):gJ r lit w e A=lO r lit w e (mF r lit w e A):=by
 cases e;rw[gJ];show(if _ then xV r lit w _ _ else _)=_;rw[D7];rfl
end
def cj(e:Expr):Int:=if e.kind=2 then e.val.kind else if e.kind=4 then 1 else 0
def j8(p:Prog)(r:ah)(a:Atom)(lit w:Int)(i:Nat)(A:AK):AK:=
 if i<(iw p a.rel).types.length then
  (if(a.ad.getD i em).kind=1 then A.want lit (bf r (a.ad.getD i em).var w) (typeAt p a i)
  else if(a.ad.getD i em).kind=2 then A.ask ⟨lit, -1,typeAt p a i,(a.ad.getD i em).val.kind⟩ else A) else A
def fK(p:Prog)(r:ah)(a:Atom)(lit w:Int)(A:AK):Nat->AK
 |0=>A
 |i+1=>j8 p r a lit w i (fK p r a lit w A i)
def lA(r:ah)(lit w:Int)(x y:Expr)(A:AK):AK:=
 if cj x=0 then(if cj y=0 then((A.item (bf r x.var w)).item (bf r y.var w)).tie (A.ix (bf r x.var w)) ((A.item (bf r x.var w)).ix (bf r y.var w)) else A.want lit (bf r x.var w) (cj y))
 else if cj y=0 then A.want lit (bf r y.var w) (cj x) else A.ask ⟨lit, -1,cj x,cj y⟩
def lE(p:Prog)(r:ah)(lit w:Int)(l:Lit)(A:AK):AK:=
 if l.kind=1∨l.kind=2 then fK p r l.atom lit w A l.atom.ad.length
 else if l.kind=3 then(if l.op=1∨l.op=2 then lA r lit w l.left l.right (lO r lit w l.right (lO r lit w l.left A)) else gJ r lit w l.right (gJ r lit w l.left A)) else A
def Fp(p:Prog)(r:ah)(i:Int)(A:AK)(b:List Lit):Nat->AK
 |0=>A
 |k+1=>lE p r i i (b.getD k em) (Fp p r i A b k)
def uU(r:ah)(i:Int)(f:Int)(v:aj)(o:Expr)(A:AK):AK:=
 if f=1 then gJ r i i (jl v) A else if f=2 then gJ r i i o (gJ r i i (jl v) A) else lA r i i (jl v) o (lO r i i o A)
def rW(p:Prog)(r:ah)(i:Int)(l:Lit)(A:AK):AK:=
 if l.kind=4 then Fp p r i (uU r i l.c7 l.a7 l.jR A) l.ar l.ar.length else lE p r i (-1) l A
def AK.o:AK:=⟨[],[],[]⟩
def lG(p:Prog)(r:ah):Nat->AK
 |0=>fK p r r.head (-1) (-1) AK.o r.head.ad.length
 |k+1=>rW p r k (r.body.getD k em) (lG p r k)
def nF(p:Prog)(r:ah):AK:=lG p r r.body.length
inductive F2 {α β:Type} (R:α->β->Prop):List α->List β->Prop
 |nil:F2 R [] []
 |cons {a b l m}:R a b->F2 R l m->F2 R (a::l) (b::m)
theorem F2.snoc{α β:Type}{R:α->β->Prop}{l:List α}{m:List β}{a:α}{b:β}(h:F2 R l m)(hr:R a b):F2 R (l++ [a]) (m++ [b]):=by
 induction h with
 |nil=>exact .cons hr .nil
 |cons h1 _ ih=>exact .cons h1 ih
theorem F2.imp{α β:Type}{R S:α->β->Prop}(f: ∀a b,R a b->S a b){l:List α}{m:List β}(h:F2 R l m):F2 S l m:=by
 induction h with
 |nil=>exact .nil
 |cons h1 _ ih=>exact .cons (f _ _ h1) ih
theorem F2.find{α β γ:Type}{R:α->β->Prop}{p:α->Bool}{q:β->Bool}{f:α->γ}{g:β->γ}(h1: ∀a b,R a b->p a=q b)(h2: ∀a b,R a b->p a=kw->f a=g b){l:List α}{m:List β}(h:F2 R l m):(l.find? p).map f=(m.find? q).map g:=by
 induction h with
 |nil=>rfl
 | @cons a b l m hr _ ih=>
  rw[aaR,aaR,<-h1 a b hr];cases hp:p a with
  |true=>exact congrArg io (h2 a b hr hp)
  |false=>exact ih
theorem F2.mem{α β:Type}{R:α->β->Prop}{l:List α}{m:List β}(h:F2 R l m): ∀a∈l,∃b∈m,R a b:=by
 induction h with
 |nil=>intro a d;cases d
 |cons h1 _ ih=>
  intro x u;rcases Zj.1 u with e|e
  .subst e;exact⟨_,Zh,h1⟩
  .obtain⟨b,hb,j⟩:=ih x e;exact⟨b,Zg _ hb,j⟩
theorem F2.Wq{α β:Type}{R:α->β->Prop}{l:List α}{m:List β}(h:F2 R l m): ∀b∈m,∃a∈l,R a b:=by
 induction h with
 |nil=>intro a d;cases d
 |cons h1 _ ih=>
  intro x u;rcases Zj.1 u with e|e
  .subst e;exact⟨_,Zh,h1⟩
  .obtain⟨b,hb,j⟩:=ih x e;exact⟨b,Zg _ hb,j⟩
def CK(b:List aN)(k:Ask)(x:Want):Prop:=k.place=x.lit∧((∃i:Nat,k.item=i∧b[i]? =io x.at_∧x.has=0∧k.type=x.kind∧(x.kind=1∨x.kind=2))∨(k.item= -1∧ ¬x.has=0∧(k.qw=k.type↔x.has=x.kind)))
theorem CK.mono{b more:List aN}{k:Ask}{x:Want}(h:CK b k x):CK (b++more) k x:=by
 obtain⟨d,j⟩:=h;refine⟨d,j.imp (fun⟨i,g1,g2,g3⟩=>⟨i,g1,?_,g3⟩) id⟩;have u:i<b.length:=by
  rcases Y4.1 g2 with⟨h,_⟩;exact h
 rw[Zi u];exact g2
structure zz (up:UM) (W:List Want) (A:AK):Prop where
 len:A.root.length=A.items.length
 lt: ∀z∈A.root,0<=z∧z<A.items.length
 cls: ∀(i j:Nat) (u v:aN),A.items[i]? =io u->A.items[j]? =io v->(A.root.getD i 0=A.root.getD j 0↔aQ up u=aQ up v)
 up: ∀q∈up,q.1∈A.items∧q.2∈A.items
 ws:F2 (CK A.items) A.l W
theorem ud{b:List aN}: ∀{j:UM} {v:aN},(∀q∈j,q.1∈b∧q.2∈b)->v∈b->aQ j v∈b
 | [],v,_,h=>h
 |(x,y)::r,v,hu,h=>by
  rw[aQ];split
  .exact ud (fun q d=>hu q (Zg _ d)) (hu _ Zh).2
  .exact ud (fun q d=>hu q (Zg _ d)) h
theorem A1{l:List Int}{i:Nat}(h:i<l.length):l.getD i 0∈l:=by
 rw[YZ,Y3 h];exact ZJ h
theorem Hy: ∀{l:List aN} {u:aN},zs l u<l.length->l[zs l u]? =io u
 | [],u,h=>by cases h
 |a::r,u,h=>by
  rw[zs]at h ⊢;split
  .rename_i e;rw[e];rfl
  .rename_i e;rw[be e,ZA]at h;rw[aa5];exact Hy (by omega)
theorem Cg: ∀{l:List aN} {u:aN},¬zs l u<l.length->u∉l∧zs l u=l.length
 | [],u,_=>⟨fun h=>(nomatch h),rfl⟩
 |a::r,u,h=>by
  rw[zs]at h ⊢;split
  .rename_i e;rw[am e]at h;exact absurd (Nat.succ_pos _) h
  .rename_i e;rw[be e,ZA]at h;obtain⟨b,d⟩:=Cg (l:=r) (u:=u) (by omega)
   exact⟨fun j=>by
    rcases Zj.1 j with g|g
    .exact e g.symm
    .exact b g,by rw[d,ZA]⟩
theorem F9(A:AK)(u:aN): ∃i:Nat,A.ix u=i∧(A.item u).items[i]? =io u:=by
 refine⟨zs A.items u,rfl,?_⟩;unfold AK.item;split
 .rename_i h;exact Hy h
 .rename_i h;rw[(Cg h).2];simp
theorem zz.item{J:UM}{W:List Want}{A:AK}(h:zz J W A)(u:aN):zz J W (A.item u):=by
 unfold AK.item;split
 .exact h
 rename_i hu;have hu:=(Cg hu).1;obtain⟨Y,h2,h3,D,h5⟩:=h;have hn:aQ J u=u:=Px fun q G e=>hu (e▸(D q G).1)
 have x: ∀(i:Nat) (v:aN),(A.items++ [u])[i]? =io v->(i<A.items.length∧A.items[i]? =io v)∨(i=A.items.length∧v=u):=fun i v d=>by
  by_cases F:i<A.items.length
  .rw[Zi F]at d;exact .inl ⟨F,d⟩
  .rw[Zn (by omega)]at d;rcases Y4.1 d with⟨g1,g2⟩;simp only[ZB]at g1;have:i-A.items.length=0:=by omega
   have S:([u]:List aN)[0]? =io v:=this▸d;exact .inr ⟨by omega,by simpa using S.symm⟩
 have I: ∀i,i<A.items.length->(A.root++ [(A.root.length:Int)]).getD i 0=A.root.getD i 0:=fun i F=>by
  rw[YZ,YZ,Zi (by omega)]
 have y:(A.root++ [(A.root.length:Int)]).getD A.items.length 0=A.items.length:=by
  rw[<-Y,YZ];simp
 have hnew: ∀(i:Nat) (v:aN),i<A.items.length->A.items[i]? =io v-> ¬A.root.getD i 0=A.items.length∧ ¬aQ J v=u:=fun i v F d=>by
  have:=h2 _ (A1 (l:=A.root) (i:=i) (by omega));refine⟨by omega,fun e=>hu ?_⟩;rw[<-e];exact ud D (Zv d)
 refine⟨by simp[Y],fun z hz=>?_,fun i j v w d hw=>?_,fun q G=>⟨ZC _ (D q G).1,ZC _ (D q G).2⟩,h5.imp fun a b=>CK.mono⟩
 .simp only[Y1,ZB];rcases Zf.1 hz with g|g
  .have:=h2 z g;omega
  .simp only[Zd]at g;omega
 .rcases x i v d with⟨g1,g2⟩|⟨g1,g2⟩<;>rcases x j w hw with⟨k1,B⟩|⟨k1,B⟩
  .rw[I i g1,I j k1];exact h3 i j v w g2 B
  .have:=hnew i v g1 g2;subst k1;subst B;rw[I i g1,y,hn];exact⟨fun e=>absurd e this.1,fun e=>absurd e this.2⟩
  .have:=hnew j w k1 B;subst g1;subst g2;rw[I j k1,y,hn];exact⟨fun e=>absurd e.symm this.1,fun e=>absurd e.symm this.2⟩
  .subst g1;subst g2;subst k1;subst B;exact⟨fun _=>rfl,fun _=>rfl⟩
theorem zz.ask{b:UM}{W:List Want}{A:AK}(h:zz b W A){k:Ask}{x:Want}(d:k.type=1∨k.type=2)(j:CK A.items k x):zz b (W++ [x]) (A.ask k):=by
 unfold AK.ask;rw[am d];exact⟨h.len,h.lt,h.cls,h.up,h.ws.snoc j⟩
theorem zz.want{d:UM}{W:List Want}{A:AK}(h:zz d W A)(lit:Int)(u:aN){t:Int}(b:t=1∨t=2):zz d (W++ [⟨lit,u,t,0⟩]) (A.want lit u t):=by
 obtain⟨i,j,x⟩:=F9 A u;exact(h.item u).ask b ⟨rfl,.inl ⟨i,j,x,rfl,rfl,b⟩⟩
theorem zz.val{u:UM}{W:List Want}{A:AK}(h:zz u W A)(lit:Int){t d j b:Int}(x:t=1∨t=2)(hh: ¬b=0)(he:d=t↔b=j):zz u (W++ [⟨lit,aN.z,j,b⟩]) (A.ask ⟨lit, -1,t,d⟩):=
 h.ask x ⟨rfl,.inr ⟨rfl,hh,he⟩⟩
theorem u6: ∀(m:UM) (p q v:aN),aQ (m++ [(p,q)]) v=if aQ m v=p then q else aQ m v
 | [],p,q,v=>by
  show(if p=v then q else v)=if v=p then q else v;by_cases h:p=v
  .rw[am h,am h.symm]
  .rw[be h,be fun e=>h e.symm]
 |(x,y)::r,p,q,v=>by
  rw[aaC,aQ,aQ];split
  .exact u6 r p q y
  .exact u6 r p q v
theorem Da{t:TS}(ok:iX t.up)(a b v:aN):aQ (sI t (aQ t.up a) (aQ t.up b)).up v=if aQ t.up v=aQ t.up a then aQ t.up b else aQ t.up v:=by
 unfold sI;split
 .rename_i h;by_cases g:aQ t.up v=aQ t.up a
  .rw[am g,<-h,g]
  .rw[be g]
 .show aQ (cF (.si .i64) t.up (aQ t.up a) (aQ t.up b)) v=_;rw[ue _ _ _ (mr _ t.up a ok (Y7 _)),u6]
theorem TL{t:TS}(ok:iX t.up)(a b:aN): ∀q∈(sI t (aQ t.up a) (aQ t.up b)).up,q∈t.up∨q=(aQ t.up a,aQ t.up b):=by
 unfold sI;split
 .exact fun q d=> .inl d
 .intro q d;have d:q∈cF (.si .i64) t.up (aQ t.up a) (aQ t.up b):=d;rw[ue _ _ _ (mr _ t.up a ok (Y7 _))]at d;rcases Zf.1 d with g|g
  .exact .inl g
  .exact .inr (by simpa using g)
theorem mrg{α:Type}[DecidableEq α](x y p q:α):((if x=p then q else x)=(if y=p then q else y))↔(x=y∨(x=p∧y=q)∨(x=q∧y=p)):=by
 by_cases b:x=p<;>by_cases d:y=p
 .rw[am b,am d,b,d];exact⟨fun _=> .inl Z,fun _=>rfl⟩
 .rw[am b,be d,b]
  exact⟨fun e=> .inr (.inl ⟨rfl,e.symm⟩),fun e=>by
   rcases e with e|⟨_,e⟩|⟨_,e⟩
   .exact absurd e.symm d
   .exact e.symm
   .exact absurd e d⟩
 .rw[be b,am d,d]
  exact⟨fun e=> .inr (.inr ⟨e,rfl⟩),fun e=>by
   rcases e with e|⟨e,_⟩|⟨e,_⟩
   .exact absurd e b
   .exact absurd e b
   .exact e⟩
 .rw[be b,be d]
  exact⟨fun e=> .inl e,fun e=>by
   rcases e with e|⟨e,_⟩|⟨_,e⟩
   .exact e
   .exact absurd e b
   .exact absurd e d⟩
theorem zz.tie{t:TS}{W:List Want}{A:AK}(h:zz t.up W A)(ok:iX t.up){x y:Nat}{u v:aN}(Y:A.items[x]? =io u)(S:A.items[y]? =io v){a b:aN}(I:(a=u∧b=v)∨(a=v∧b=u)):zz (sI t (aQ t.up a) (aQ t.up b)).up W (A.tie x y):=by
 have F: ∀{i:Nat} {w:aN},A.items[i]? =io w->i<A.root.length:=fun g=>by
  rcases Y4.1 g with⟨h',_⟩;rw[h.len];exact h'
 have J: ∀n:Nat,A.rt n=A.root.getD n 0:=fun n=>rfl
 have D: ∀i:Nat,i<A.root.length->(A.tie x y).root.getD i 0=if A.root.getD i 0=A.rt x then A.rt y else A.root.getD i 0:=fun i hi=>by
  show(A.root.map _).getD i 0=_;rw[YZ,Y9,Y3 hi,YZ,Y3 hi];rfl
 have B: ∀c,c=u∨c=v->aQ t.up c∈A.items:=fun c G=>ud h.up (by
  rcases G with e|e
  .rw[e];exact Zv Y
  .rw[e];exact Zv S)
 refine⟨by show(A.root.map _).length=_;rw[Zx];exact h.len,fun z hz=>?_,fun i j c d G hd=>?_,fun q hq=>?_,h.ws⟩
 .have hz:z∈A.root.map _:=hz;rcases ZD.1 hz with⟨z0,g1,g2⟩;have:=h.lt z0 g1;have h2:=h.lt _ (A1 (F S));subst g2;show 0<=_∧_<(A.items.length:Int)
  split
  .exact h2
  .exact this
 .rw[D i (F G),D j (F hd),J,J,mrg,Da ok,Da ok,mrg];have e1:=h.cls i j c d G hd;have e2:=h.cls i x c u G Y;have e3:=h.cls i y c v G S;have e4:=h.cls j x d u hd Y;have e5:=h.cls j y d v hd S;rw[e1,e2,e3,e4,e5];rcases I with⟨rfl,rfl⟩|⟨rfl,rfl⟩
  .exact Iff.rfl
  .exact⟨fun e=>e.imp id Or.symm,fun e=>e.imp id Or.symm⟩
 .rcases TL ok a b q hq with g|g
  .exact h.up q g
  .subst g;rcases I with⟨rfl,rfl⟩|⟨rfl,rfl⟩
   .exact⟨B _ (.inl Z),B _ (.inr Z)⟩
   .exact⟨B _ (.inr Z),B _ (.inl Z)⟩
def uz(l:List Want)(q:aN->Bool):Option Int:=(l.find? fun x=>li (x.has=0)&&q x.at_).map Want.kind
theorem nC(l m:List Want)(q:aN->Bool):uz (l++m) q=(uz l q).or (uz m q):=by
 unfold uz;rw[abM,Option.map_or]
def Sw(l m:List Want):Prop:=(∀q,uz l q=uz m q)∧ ∀x,x∈l↔x∈m
theorem Sw.refl(l:List Want):Sw l l:=⟨fun _=>rfl,fun _=>Iff.rfl⟩
theorem Sw.app{l m b d:List Want}(h:Sw l b)(g:Sw m d):Sw (l++m) (b++d):=
 ⟨fun q=>by rw[nC,nC,h.1,g.1],fun x=>by rw[Zf,Zf,h.2,g.2]⟩
theorem EE{l:List Want}(h: ∀x∈l,x.kind=1)(q:aN->Bool):uz l q=jp∨uz l q=io 1:=by
 unfold uz;cases hf:l.find? fun x=>li (x.has=0)&&q x.at_ with
 |none=>exact .inl Z
 |some x=>exact .inr (congrArg io (h x (abB hf)))
theorem Sw.swap{l m:List Want}(h1: ∀x∈l,x.kind=1)(h2: ∀x∈m,x.kind=1):Sw (l++m) (m++l):=by
 refine⟨fun q=>?_,fun x=>by rw[Zf,Zf,or_comm]⟩;rw[nC,nC];rcases EE h1 q with a|a<;>rcases EE h2 q with b|b<;>rw[a,b]<;>rfl
theorem F7(r:ah)(lit w:Int)(e:Expr): ∀x∈kC r lit w e,x.kind=1:=by
 unfold kC;split
 .intro x b;rw[Zd.1 b]
 split
 .intro x b;rw[Zd.1 b]
 .intro x b;cases b
theorem xU(r:ah)(lit w:Int): ∀(n:Nat) (e:Expr),e.size<=n-> ∀x∈gv r lit w e,x.kind=1
 |0,e,h=>by have:=e.size_pos;omega
 |n+1,e,h=>by
  intro x j;rw[wY]at j;rcases Zf.1 j with g|g
  .exact F7 r lit w e x g
  .unfold je at g;split at g
   .rcases aaT.1 g with⟨y,A,u⟩;obtain⟨k,d,rfl⟩:=aaa.1 A;have b:=Expr.aI e.args k d;rw[YZ,Y3 d]at b;have b:(e.args[k]).size<=Expr.aA e.args:=b;have:=e.size_eq;exact xU r lit w n _ (by omega) x u
   .cases g
def Bv(t:TS)(A:AK):Prop:=iX t.up∧ ∃W,Sw t.ws W∧zz t.up W A
def zc(X:List Want)(A B:AK):Prop:= ∀b W,zz b W A->zz b (W++X) B
theorem zc.nil(A:AK):zc [] A A:=fun b W h=>by rw[ZE];exact h
theorem zc.app{X Y:List Want}{A B C:AK}(h:zc X A B)(g:zc Y B C):zc (X++Y) A C:=fun d W b=>by
 rw[<-Zc];exact g _ _ (h _ _ b)
theorem Bv.add{t:TS}{A B:AK}(h:Bv t A){X:List Want}(g:zc X A B):Bv (t.add X) B:=by
 obtain⟨ok,W,b,d⟩:=h;exact⟨ok,_,b.app (Sw.refl X),g _ _ d⟩
theorem Bv.swap{t:TS}{A B:AK}(h:Bv t A){X Y:List Want}(h1: ∀x∈X,x.kind=1)(h2: ∀x∈Y,x.kind=1)(g:zc (Y++X) A B):Bv (t.add (X++Y)) B:=by
 obtain⟨ok,W,k1,b⟩:=h;exact⟨ok,_,k1.app (Sw.swap h1 h2),g _ _ b⟩
mutual
def Ax:Expr->Prop
 | .mk k _ val _ args=>k=1∨(k=2∧(val.kind=1∨val.kind=2))∨(k=4∧Lc args)
def Lc:List Expr->Prop
 | []=>True
 |e::s=>Ax e∧Lc s
end
theorem DY: ∀{l:List Expr},Lc l↔ ∀e∈l,Ax e
 | []=>by rw[Lc];exact⟨fun _ e d=>(nomatch d),fun _=>trivial⟩
 |e::s=>by
  rw[Lc,DY]
  exact⟨fun h x b=>by
   rcases Zj.1 b with g|g
   .rw[g];exact h.1
   .exact h.2 x g,fun h=>⟨h e Zh,fun x b=>h x (Zg _ b)⟩⟩
theorem ta(e:Expr):Ax e↔(e.kind=1∨(e.kind=2∧(e.val.kind=1∨e.val.kind=2))∨(e.kind=4∧ ∀x∈e.args,Ax x)):=by
 cases e;rw[Ax,DY];rfl
theorem vL{v:tG}(h:du v=0):v.kind=1∨v.kind=2:=by
 unfold du at h
 repeat' split at h
 all_goals first|omega|(simp at h;done)|(simp_all;done)|(simp_all;omega)
theorem Wt{l:List Expr}(h:l.length=1):l=[l.getD 0 em]:=by
 match l,h with
 | [a],_=>rfl
theorem Ws{l:List Expr}(h:l.length=2):l=[l.getD 0 em,l.getD 1 em]:=by
 match l,h with
 | [a,b],_=>rfl
theorem yA: ∀(n:Nat) (e:Expr),(bP n e).2=lc->Ax e:=by
 intro n
 induction n using Nat.strongRecOn with
 |_ n ih=>
 intro e h;have hh: ∀b k,(gE e b k).2=lc->(k.2=lc->e.kind=4->Ax e)->Ax e:=fun b k g1 g2=>by
  unfold gE at g1;split at g1
  .rename_i B;rw[ta];by_cases k1:e.kind=1
   .exact .inl k1
   have y:e.kind=2:=by omega
   refine .inr (.inl ⟨y,?_⟩);unfold yf eZ at g1;rw[be k1]at g1;simp only[Zz]at g1;exact vL (by simpa using g1.1.1)
  split at g1
  .cases g1
  .rename_i k1 y;exact g2 g1 (aah fun g=>y (.inl g))
 match n,ih,h with
 |0,ih,h=>exact hh _ _ h fun g _=>by cases g
 |1,ih,h=>exact hh _ _ h fun g _=>by cases g
 |m+2,ih,h=>
  have d: ∀b a,(ke m b a).2=lc->Ax a:=fun b a g=>by
   unfold ke at g;split at g
   .have g:((bP m a).2||decide (m<1))=lc:=g;rw[Zz]at g;exact ih m (by omega) a g.1
   .exact ih (m+1) (by omega) a g
  refine hh _ _ h fun g A=>?_;rw[ta];refine .inr (.inr ⟨A,?_⟩);have g:(nu (ke m) e).2=lc:=g;unfold nu at g;split at g
  .split at g
   .rename_i j;rw[Wt j];intro x u;rw[Zd.1 u];exact d _ _ g
   .cases g
  .split at g
   .rename_i j;have g:((ke m _ (aP e)).2||(ke m _ (k9 e)).2)=lc:=g;rw[Zz]at g;rw[Ws j];intro x u;rcases Zj.1 u with q|q
    .rw[q];exact d _ _ g.1
    .rw[Zd.1 q];exact d _ _ g.2
   .cases g
theorem Lz(r:ah)(lit w:Int){e:Expr}(h:Ax e)(A:AK):zc (kC r lit w e) A (mF r lit w e A):=by
 rw[ta]at h;unfold kC mF;by_cases k1:e.kind=1
 .rw[am k1,am k1];exact fun j W d=>d.want lit _ (.inl Z)
 rw[be k1,be k1];by_cases b:e.kind=2
 .rw[am b,am b];refine fun j W d=>d.val lit (.inl Z) ?_ Iff.rfl;omega
 .rw[be b,be b];exact zc.nil A
theorem yV(r:ah)(lit w:Int): ∀(l:List Expr),(∀x∈l,∀A,zc (gv r lit w x) A (gJ r lit w x A))-> ∀A,zc (l.flatMap (gv r lit w)) A (l.foldl (fun A x=>gJ r lit w x A) A)
 | [],_,A=>zc.nil A
 |e::s,h,A=>by
  rw[ZO,Zw];exact(h e Zh A).app (yV r lit w s (fun x b=>h x (Zg _ b)) _)
theorem oW(r:ah)(lit w:Int): ∀(n:Nat) (e:Expr),e.size<=n->Ax e-> ∀A,zc (gv r lit w e) A (gJ r lit w e A)
 |0,e,h,_=>by have:=e.size_pos;omega
 |n+1,e,h,ok=>by
  intro A;rw[wY,wZ];refine(Lz r lit w ok A).app ?_;rw[ta]at ok;unfold je lO;split
  .rename_i u;refine yV r lit w _ (fun x j=>?_) _;obtain⟨k,d,rfl⟩:=aaa.1 j;have b:=Expr.aI e.args k d;rw[YZ,Y3 d]at b;have b:(e.args[k]).size<=Expr.aA e.args:=b;have:=e.size_eq;refine oW r lit w n _ (by omega) ?_;rcases ok with g|g|g
   .omega
   .omega
   .exact g.2 _ j
  .exact zc.nil _
theorem Cj(r:ah)(lit w:Int)(e:Expr)(ok:Ax e)(A:AK):zc (je r lit w e) A (lO r lit w e A):=by
 rw[ta]at ok;unfold je lO;split
 .refine yV r lit w _ (fun x b=>oW r lit w _ x (Y7 _) ?_) _;rcases ok with g|g|g
  .omega
  .omega
  .exact g.2 _ b
 .exact zc.nil _
def La(x:Term):Prop:=x.kind=2->(x.val.kind=1∨x.val.kind=2)
def Vm(a:Atom):Prop:= ∀i,i<a.ad.length->La (a.ad.getD i em)
theorem yS(p:Prog)(r:ah)(a:Atom)(lit w:Int)(ok:Vm a)(A:AK): ∀i,i<=a.ad.length->zc (gy p r a lit w i) A (fK p r a lit w A i)
 |0,_=>zc.nil A
 |i+1,hi=>by
  rw[gy,fK];refine(yS p r a lit w ok A i (by omega)).app ?_;have ok:=ok i (by omega);generalize fK p r a lit w A i=B;unfold mg j8 nL;by_cases x:i<(iw p a.rel).types.length
  .rw[am x,decide_eq_true x,ZR];by_cases b:typeAt p a i=1∨typeAt p a i=2
   .have:(li (typeAt p a i=1)||decide (typeAt p a i=2))=kw:=by simpa using b
    rw[this,be (by decide)];by_cases k1:(a.ad.getD i em).kind=1
    .rw[am k1,am k1];exact fun y W d=>d.want lit _ b
    rw[be k1,be k1];by_cases u:(a.ad.getD i em).kind=2
    .rw[am u,am u];refine fun y W d=>d.val lit b ?_ Iff.rfl;have:=ok u;omega
    .rw[be u,be u];exact zc.nil B
   .have:(li (typeAt p a i=1)||decide (typeAt p a i=2))=lc:=by simpa using b
    rw[this,am Z];have j: ∀(C:AK) (k:Ask),k.type=typeAt p a i->C.ask k=C:=fun C k D=>by unfold AK.ask;rw[be (by rw[D];exact b)]
    split
    .intro y W d;unfold AK.want;rw[j _ _ Z,ZE];exact d.item _
    split
    .rw[j _ _ Z];exact zc.nil B
    .exact zc.nil B
  .rw[be x,decide_eq_false x,Z9,am Z];exact zc.nil B
theorem Cp{e:Expr}(ok:Ax e)(h: ¬e.kind=1):cj e=lP e∧(lP e=1∨lP e=2):=by
 rw[ta]at ok;unfold cj lP;by_cases b:e.kind=2
 .rw[am b,am b];exact⟨rfl,by omega⟩
 .rw[be b,be b];have:e.kind=4:=by omega
  rw[am this];exact⟨rfl,.inl Z⟩
theorem sH{e:Expr}(h:e.kind=1):cj e=0:=by
 unfold cj;rw[be (by omega),be (by omega)]
theorem Jf{A:AK}{i:Nat}{u v:aN}(h:A.items[i]? =io v):(A.item u).items[i]? =io v:=by
 unfold AK.item;split
 .exact h
 .show(_++_)[i]? =_;rcases Y4.1 h with⟨g,_⟩;rw[Zi g];exact h
theorem Bp{r:ah}{lit w:Int}{t:TS}{A:AK}{a b:Expr}(B:Ax a)(ob:Ax b)(h:Bv t A):Bv (if b.kind=1 then gh r lit w t b a else gh r lit w t a b) (lA r lit w a b A):=by
 unfold gh lA;by_cases kb:b.kind=1
 .rw[am kb,sH kb];by_cases d:a.kind=1
  .rw[am d,sH d,am Z,am Z];obtain⟨ok,W,I,J⟩:=h;obtain⟨i,i1,i2⟩:=F9 A (bf r a.var w);obtain⟨j,S,Y⟩:=F9 (A.item (bf r a.var w)) (bf r b.var w);have u:=(J.item (bf r a.var w)).item (bf r b.var w);rw[i1,S];refine⟨J8 ok _ _,W,by rw[J7];exact I,u.tie ok (x:=i) (y:=j) ?_ Y (.inr ⟨rfl,rfl⟩)⟩;exact Jf i2
  .obtain⟨g1,g2⟩:=Cp B d;have g0: ¬lP a=0:=by omega
   rw[be d,g1,be g0,am Z,am kb];exact h.add fun D W u=>u.want lit _ g2
 .rw[be kb];obtain⟨g1,g2⟩:=Cp ob kb;have g0: ¬lP b=0:=by omega
  rw[be kb,g1];by_cases d:a.kind=1
  .rw[am d,sH d,am Z,be g0];exact h.add fun D W u=>u.want lit _ g2
  .obtain⟨k1,k2⟩:=Cp B d;have k0: ¬lP a=0:=by omega
   rw[be d,k1,be k0,be g0];have G:(if a.kind=2 then[⟨lit,aN.z,lP b,a.val.kind⟩] else[⟨lit,aN.z,lP b,1⟩]:List Want)=[⟨lit,aN.z,lP b,lP a⟩]:=by
    have F:lP a=if a.kind=2 then a.val.kind else 1:=rfl;rw[F];split<;>rfl
   rw[G];exact h.add fun D W u=>u.val lit k2 (by omega) ⟨fun e=>e.symm,fun e=>e.symm⟩
def I2(l:Lit):Prop:=((l.kind=1∨l.kind=2)->Vm l.atom)∧(l.kind=3->Ax l.left∧Ax l.right)
theorem Hq{p:Prog}{r:ah}{lit w:Int}{t:TS}{A:AK}{l:Lit}(ok:I2 l)(h:Bv t A):Bv (pP p r lit w t l) (lE p r lit w l A):=by
 unfold pP lE;split
 .rename_i k;exact h.add (yS p r l.atom lit w (ok.1 k) A _ (Y7 _))
 split
 .rename_i k;obtain⟨b,d⟩:=ok.2 k;split
  .unfold jz;exact Bp b d ((h.add (Cj r lit w l.left b A)).add (Cj r lit w l.right d _))
  .exact(h.add (oW r lit w _ l.left (Y7 _) b A)).add (oW r lit w _ l.right (Y7 _) d _)
 .exact h
theorem LM{p:Prog}{r:ah}{i:Int}{t:TS}{A:AK}{b:List Lit}(ok: ∀k,k<b.length->I2 (b.getD k em))(h:Bv t A): ∀k,k<=b.length->Bv (sc p r i t b k) (Fp p r i A b k)
 |0,_=>h
 |k+1,hk=>Hq (ok k hk) (LM ok h k (by omega))
theorem BA(v:aj):Ax (jl v):=by rw[ta];exact .inl Z
theorem LK(r:ah)(i w:Int)(v:aj):je r i w (jl v)=[]:=rfl
theorem NF{r:ah}{i f:Int}{v:aj}{o:Expr}{t:TS}{A:AK}(ok: ¬f=1->Ax o)(h:Bv t A):Bv (wz r i t f v o) (uU r i f v o A):=by
 unfold wz uU;by_cases f1:f=1
 .rw[be (by omega),am f1,am f1];exact h.add (oW r i i _ _ (Y7 _) (BA v) A)
 have ok:=ok f1;by_cases f2:f=2
 .simp only[be f1,am f2];rw[TS.add_add];exact h.swap (xU r i i _ _ (Y7 _)) (xU r i i _ _ (Y7 _)) ((oW r i i _ _ (Y7 _) (BA v) A).app (oW r i i _ _ (Y7 _) ok _))
 .simp only[be f1,be f2];unfold jz;rw[LK,TS.add_nil];exact Bp (BA v) ok (h.add (Cj r i i o ok A))
def Wn(l:Lit):Prop:=I2 l∧(l.kind=4->(¬l.c7=1->Ax l.jR)∧ ∀k,k<l.ar.length->I2 (l.ar.getD k em))
theorem Kl{p:Prog}{r:ah}{i:Int}{t:TS}{A:AK}{l:Lit}(ok:Wn l)(h:Bv t A):Bv (stepT p r i t l) (rW p r i l A):=by
 unfold stepT rW;split
 .rename_i b;exact LM (ok.2 b).2 (NF (ok.2 b).1 h) _ (Y7 _)
 .exact Hq ok.1 h
theorem Wo:Bv TS.o AK.o:=⟨ac,[],Sw.refl _,rfl,fun z d=>(nomatch d),fun i j u v hu=>by simp[AK.o]at hu,fun q b=>(nomatch b),.nil⟩
theorem E5{p:Prog}{r:ah}(b:Vm r.head)(ok: ∀k,k<r.body.length->Wn (r.body.getD k em)): ∀k,k<=r.body.length->Bv (ff p r k) (lG p r k)
 |0,_=>Wo.add (yS p r r.head _ _ b _ _ (Y7 _))
 |k+1,hk=>Kl (ok k hk) (E5 b ok k (by omega))
end
def nk(lit:Int)(A B:AK):Prop:= ∃m,B.l=A.l++m∧ ∀k∈m,k.place=lit
theorem nk.refl(lit:Int)(A:AK):nk lit A A:=⟨[],by simp,fun k b=>(nomatch b)⟩
theorem nk.trans{lit:Int}{A B C:AK}(h:nk lit A B)(g:nk lit B C):nk lit A C:=by
 obtain⟨m,b,d⟩:=h;obtain⟨n,g1,g2⟩:=g;exact⟨m++n,by rw[g1,b,Zc],fun k j=>(Zf.1 j).elim (d k) (g2 k)⟩
theorem yi(lit:Int)(A:AK)(u:aN):nk lit A (A.item u):=by
 unfold AK.item;split
 .exact .refl _ _
 .exact⟨[],by simp,fun k b=>(nomatch b)⟩
theorem xh{lit:Int}(A:AK){k:Ask}(h:k.place=lit):nk lit A (A.ask k):=by
 unfold AK.ask;split
 .exact⟨[k],rfl,fun x b=>by rw[Zd.1 b];exact h⟩
 .exact .refl _ _
theorem tJ(lit:Int)(A:AK)(u:aN)(t:Int):nk lit A (A.want lit u t):=(yi lit A u).trans (xh _ Z)
theorem O2(lit:Int)(A:AK)(x y:Int):nk lit A (A.tie x y):=⟨[],by simp[AK.tie],fun k b=>(nomatch b)⟩
theorem LA(r:ah)(lit w:Int)(e:Expr)(A:AK):nk lit A (mF r lit w e A):=by
 unfold mF;split
 .exact tJ _ _ _ _
 split
 .exact xh _ Z
 .exact .refl _ _
theorem yW(r:ah)(lit w:Int): ∀(l:List Expr),(∀x∈l,∀A,nk lit A (gJ r lit w x A))-> ∀A,nk lit A (l.foldl (fun A x=>gJ r lit w x A) A)
 | [],_,A=> .refl _ _
 |e::s,h,A=>(h e Zh A).trans (yW r lit w s (fun x b=>h x (Zg _ b)) _)
theorem oX(r:ah)(lit w:Int): ∀(n:Nat) (e:Expr),e.size<=n-> ∀A,nk lit A (gJ r lit w e A)
 |0,e,h=>by have:=e.size_pos;omega
 |n+1,e,h=>by
  intro A;rw[wZ];refine(LA r lit w e A).trans ?_;unfold lO;split
  .refine yW r lit w _ (fun x j=>?_) _;obtain⟨k,d,rfl⟩:=aaa.1 j;have b:=Expr.aI e.args k d;rw[YZ,Y3 d]at b;have b:(e.args[k]).size<=Expr.aA e.args:=b;have:=e.size_eq;exact oX r lit w n _ (by omega)
  .exact .refl _ _
theorem Ck(r:ah)(lit w:Int)(e:Expr)(A:AK):nk lit A (lO r lit w e A):=by
 unfold lO;split
 .exact yW r lit w _ (fun x _=>oX r lit w _ x (Y7 _)) _
 .exact .refl _ _
theorem JH(p:Prog)(r:ah)(a:Atom)(lit w:Int)(i:Nat)(A:AK):nk lit A (j8 p r a lit w i A):=by
 unfold j8;split
 .split
  .exact tJ _ _ _ _
  split
  .exact xh _ Z
  .exact .refl _ _
 .exact .refl _ _
theorem yT(p:Prog)(r:ah)(a:Atom)(lit w:Int)(A:AK): ∀i,nk lit A (fK p r a lit w A i)
 |0=> .refl _ _
 |i+1=>(yT p r a lit w A i).trans (JH _ _ _ _ _ _ _)
theorem Br(r:ah)(lit w:Int)(x y:Expr)(A:AK):nk lit A (lA r lit w x y A):=by
 unfold lA;split
 .split
  .exact((yi _ _ _).trans (yi _ _ _)).trans (O2 _ _ _ _)
  .exact tJ _ _ _ _
 split
 .exact tJ _ _ _ _
 .exact xh _ Z
theorem Hs(p:Prog)(r:ah)(lit w:Int)(l:Lit)(A:AK):nk lit A (lE p r lit w l A):=by
 unfold lE;split
 .exact yT _ _ _ _ _ _ _
 split
 .split
  .exact((Ck _ _ _ _ _).trans (Ck _ _ _ _ _)).trans (Br _ _ _ _ _ _)
  .exact(oX _ _ _ _ _ (Y7 _) _).trans (oX _ _ _ _ _ (Y7 _) _)
 .exact .refl _ _
theorem LN(p:Prog)(r:ah)(i:Int)(A:AK)(b:List Lit): ∀k,nk i A (Fp p r i A b k)
 |0=> .refl _ _
 |k+1=>(LN p r i A b k).trans (Hs _ _ _ _ _ _)
theorem NH(r:ah)(i f:Int)(v:aj)(o:Expr)(A:AK):nk i A (uU r i f v o A):=by
 unfold uU;split
 .exact oX _ _ _ _ _ (Y7 _) _
 split
 .exact(oX _ _ _ _ _ (Y7 _) _).trans (oX _ _ _ _ _ (Y7 _) _)
 .exact(Ck _ _ _ _ _).trans (Br _ _ _ _ _ _)
theorem Kn(p:Prog)(r:ah)(i:Int)(l:Lit)(A:AK):nk i A (rW p r i l A):=by
 unfold rW;split
 .exact(NH _ _ _ _ _ _).trans (LN _ _ _ _ _ _)
 .exact Hs _ _ _ _ _ _
theorem KZ{l:List Ask}{i:Int}(h: ∀a∈l,a.place=i):l.Pairwise fun a b=>a.place<=b.place:=by
 induction l with
 |nil=>exact .nil
 |cons a r ih=>
  refine .cons (fun b hb=>?_) (ih fun b hb=>h b (Zg _ hb));rw[h a Zh,h b (Zg _ hb)];exact abb _
theorem nE(p:Prog)(r:ah): ∀k:Nat,((lG p r k).l.Pairwise fun a b=>a.place<=b.place)∧ ∀a∈(lG p r k).l, -1<=a.place∧a.place<k
 |0=>by
  obtain⟨m,d,j⟩:=yT p r r.head (-1) (-1) AK.o r.head.ad.length;have d:(lG p r 0).l=m:=by show(fK _ _ _ _ _ _ _).l=m;rw[d];rfl
  rw[d];exact⟨KZ j,fun a u=>by rw[j a u];omega⟩
 |k+1=>by
  obtain⟨i1,i2⟩:=nE p r k;obtain⟨m,d,j⟩:=Kn p r k (r.body.getD k em) (lG p r k);have d:(lG p r (k+1)).l=(lG p r k).l++m:=d;rw[d];refine⟨aa4.2 ⟨i1,KZ j,fun a u b hb=>?_⟩,fun a u=>?_⟩
  .have:=i2 a u;rw[j b hb];omega
  .rcases Zf.1 u with g|g
   .have:=i2 a g;omega
   .rw[j a g];omega
def AK.kind(A:AK)(i:Int):Int:=((A.l.find? fun k=>li (k.item>=0)&&li (A.rt k.item=A.rt i)).map Ask.type).getD 0
theorem Qj{b:UM}{W:List Want}{A:AK}(h:zz b W A){i:Nat}{u:aN}(hi:A.items[i]? =io u):A.kind i=(uz W fun s=>li (aQ b s=aQ b u)).getD 0:=by
 unfold AK.kind uz;refine congrArg (fun o:Option Int=>o.getD 0) (F2.find ?_ ?_ h.ws)
 .rintro k x ⟨_,⟨j,g1,g2,g3,_⟩|⟨g1,g2,_⟩⟩
  .rw[g1,decide_eq_true (by omega:(j:Int)>=0),ZR,g3,decide_eq_true Z,ZR];exact decide_eq_decide.2 (h.cls j i _ _ g2 hi)
  .rw[g1,decide_eq_false (by omega),decide_eq_false g2];rfl
 .rintro k x ⟨_,⟨j,g1,g2,g3,g4,_⟩|⟨g1,g2,_⟩⟩ hp
  .exact g4
  .rw[g1]at hp;simp at hp
theorem Qd{m:KM}{a c:aN}{v:Int}:bU (.si .i64) (cF (.si .i64) m a v) c 0=if a=c then v else bU (.si .i64) m c 0:=by
 induction m with
 |nil=>simp only[cF,bU]
 |cons x r ih=>
  obtain⟨y,b⟩:=x;simp only[cF];by_cases h:y=a
  .rw[am h];simp only[bU];by_cases d:a=c
   .simp[d]
   .have: ¬y=c:=fun e=>d (h▸e)
    rw[be d,be d,be this]
  .rw[be h];simp only[bU,ih];by_cases d:y=c
   .have: ¬a=c:=fun e=>h (d.trans e.symm)
    rw[am d,be this,am d]
   .rw[be d,be d]
theorem AR(b:UM)(c:aN): ∀(d:List Want) (m:KM),(∀x∈d,x.has=0-> ¬x.kind=0)->bU (.si .i64) (d.foldl (cL b) m) c 0=if bU (.si .i64) m c 0=0 then(uz d fun s=>li (aQ b s=c)).getD 0 else bU (.si .i64) m c 0
 | [],m,_=>by
  show bU (.si .i64) m c 0=if bU (.si .i64) m c 0=0 then 0 else _;split<;>first|assumption|rfl
 |x::s,m,h=>by
  have j:=h x Zh;rw[Zw,AR b c s _ fun y u=>h y (Zg _ u)];unfold uz;rw[aaR];unfold cL;by_cases g:x.has=0∧bU (.si .i64) m (aQ b x.at_) 0=0
  .obtain⟨g1,g2⟩:=g;rw[am (show x.has=0∧bU (.si .i64) m (aQ b x.at_) 0=0 from⟨g1,g2⟩),Qd,decide_eq_true g1,ZR];by_cases e:aQ b x.at_=c
   .rw[am e,be (j g1),show(fun s=>li (aQ b s=c)) x.at_=kw from decide_eq_true e,am (e▸g2)];rfl
   .rw[be e,show(fun s=>li (aQ b s=c)) x.at_=lc from decide_eq_false e]
  .rw[be g];by_cases k:bU (.si .i64) m c 0=0
   .rw[am k,am k];have:(li (x.has=0)&&li (aQ b x.at_=c))=lc:=by
     cases hd:li (x.has=0) with
     |false=>rfl
     |true=>
      rw[ZR,decide_eq_false];intro e;exact g ⟨zT hd,e▸k⟩
    rw[this]
   .rw[be k,be k]
abbrev Cd(t:TS):TS:=⟨t.up,t.ws,t.ws.foldl (cL t.up) []⟩
theorem LG{t:TS}{W:List Want}{A:AK}(h1:Sw t.ws W)(h:zz t.up W A)(u:aN):bU (.si .i64) (Cd t).kind (aQ t.up u) 0=(uz W fun s=>li (aQ t.up s=aQ t.up u)).getD 0:=by
 show bU (.si .i64) (t.ws.foldl (cL t.up) []) (aQ t.up u) 0=_;rw[AR,<-h1.1]
 .exact am Z
 .intro x d b;obtain⟨k,_,_,⟨j,_,_,_,_,g⟩|⟨_,g,_⟩⟩:=h.ws.Wq x ((h1.2 x).1 d)
  .omega
  .exact absurd b g
def AK.bad(A:AK)(k:Ask):Bool:=!li ((if k.item>=0 then A.kind k.item else k.qw)=k.type)
def jm(r:ah)(A:AK):aY:=match A.l.find? A.bad with
 |some k=>(63,fq r k.place)
 |none=>aY.z
theorem MZ{t:TS}{W:List Want}{A:AK}(h1:Sw t.ws W)(h:zz t.up W A){k:Ask}{x:Want}(b:CK A.items k x):A.bad k=!li (tK (Cd t) x=x.kind):=by
 unfold AK.bad tK;obtain⟨_,⟨j,g1,g2,g3,g4,_⟩|⟨g1,g2,g3⟩⟩:=b
 .rw[g1,am (by omega),am g3,g4,LG h1 h,Qj h g2]
 .rw[be (by omega),be g2];exact congrArg _ (decide_eq_decide.2 g3)
theorem uR{t:TS}{A:AK}(h:Bv t A)(lit:Int):nI (Cd t) lit=kw↔ ∃k∈A.l,k.place=lit∧A.bad k=kw:=by
 obtain⟨_,W,d,j⟩:=h;unfold nI;rw[ZQ];constructor
 .rintro⟨x,y,hb⟩;obtain⟨k,u,b⟩:=j.ws.Wq x ((d.2 x).1 y);unfold rT at hb;rw[Zo,decide_eq_true_iff]at hb;exact⟨k,u,b.1.trans hb.1,by rw[MZ d j b];exact hb.2⟩
 .rintro⟨k,u,hp,hb⟩;obtain⟨x,y,b⟩:=j.ws.mem k u;refine⟨x,(d.2 x).2 y,?_⟩;unfold rT;rw[Zo,decide_eq_true_iff];exact⟨b.1.symm.trans hp,by rw[<-MZ d j b];exact hb⟩
theorem Qb{r:ah}{e:Int}{f:Int->Bool}{k:aY}(h: ∀lit,f lit=lc):bL r e f k=k:=by
 rw[bL,vG,eJ];exact ZU.2 fun x _=>by rw[h x];decide
theorem Im{r:ah}{t:TS}{A:AK}(h:Bv t A)(h1:A.l.Pairwise fun a b=>a.place<=b.place)(h2: ∀a∈A.l, -1<=a.place∧a.place<r.body.length):jm r A=bL r 63 (nI (Cd t)) aY.z:=by
 unfold jm;cases hf:A.l.find? A.bad with
 |none=>
  rw[Qb];intro lit;rw[<-aav,uR h];rintro⟨k,B,_,hb⟩;rw[aat]at hf;exact hf k B hb
 |some k=>
  obtain⟨hb,l1,l2,S,a0⟩:=List.find?_eq_some_iff_append.1 hf;have B:k∈A.l:=abB hf;have hr:=h2 k B;obtain⟨n,J⟩: ∃n:Nat,k.place=(n:Int)-1:=⟨(k.place+1).toNat,by omega⟩
  have u: ∀y∈A.l,A.bad y=kw->k.place<=y.place:=fun y D d=>by
   rw[S]at D h1;rcases Zf.1 D with g|g
   .have:=a0 y g;rw[d]at this;cases this
   .rcases Zj.1 g with e|e
    .rw[e];exact abb _
    .exact(aas.1 (aa4.1 h1).2.1).1 y e
  show(63,fq r k.place)=_;rw[J,mC (i:=n) ?_ (by omega) ?_]
  .refine ZU.2 fun x Y=>?_
   rw[uR h];rintro⟨y,D,hp,d⟩;have:=u y D d;obtain⟨j,G⟩:=List.mem_iff_getElem?.1 Y;have I:j<n:=by
    rcases Y4.1 G with⟨g,_⟩;rw[ZP]at g;omega
   rw[ZX,am I]at G;have F:=rz r.body.length j (by omega);rw[YZ,G]at F;have F:x=(j:Int)-1:=F;omega
  .rw[uR h];exact⟨k,B,J,hb⟩
theorem J3{p:Prog}{r:ah}(b:Vm r.head)(ok: ∀k,k<r.body.length->Wn (r.body.getD k em)):jm r (nF p r)=bL r 63 (nI (oO p r)) aY.z:=
 Im (t:=ff p r r.body.length) (E5 b ok _ (Y7 _)) (nE p r _).1 (nE p r _).2
theorem Fa{a:Atom}(h:(fg a).2=lc):Vm a:=by
 have u: ∀i,i<=a.ad.length->(eG a i).2=lc-> ∀k,k<i->La (a.ad.getD k em):=by
  intro i
  induction i with
  |zero=>intro _ _ k j;omega
  |succ i ih=>
   intro d hb k j;have hb:((eG a i).2||(pD (a.ad.getD i em)).2)=lc:=hb;rw[Zz]at hb;rcases ZH.1 j with g|g
   .exact ih (by omega) hb.1 k g
   .subst g;intro x;have b:=hb.2;unfold pD eZ at b;rw[be (by omega),be (by omega)]at b;simp only[Zz]at b;exact vL (by simpa using b.1.1)
 exact fun i d=>u a.ad.length (Y7 _) h i d
theorem Ee{f:Lit->nZ}{l:List Lit}: ∀i,(b5 f l i).2=lc-> ∀k,k<i->(f (l.getD k em)).2=lc
 |0,_,k,hk=>by omega
 |i+1,h,k,hk=>by
  rw[b5]at h;split at h
  .cases h
  rename_i b;split at h
  .cases h
  rename_i d;rcases ZH.1 hk with g|g
  .exact Ee i (by simpa using b) k g
  .subst g;simpa using d
theorem Lw{f:Int->Lit->nZ}{br:Int}{l:Lit}(h:(jK f br l).2=lc):I2 l:=by
 unfold jK at h;refine⟨fun k=>?_,fun k=>?_⟩
 .rw[am k]at h;have h:((fg l.atom).2||_)=lc:=h;rw[Zz]at h;exact Fa h.1
 .rw[be (by omega),am k]at h;have h:((bP 17 l.left).2||((bP 17 l.right).2||_))=lc:=h;rw[Zz,Zz]at h;exact⟨yA _ _ h.1,yA _ _ h.2.1⟩
theorem AG{n:Nat}{br:Int}{l:Lit}(h:(ew n br l).2=lc):I2 l:=by
 match n,h with
 |0,h=>cases h
 |n+1,h=>exact Lw h
theorem Qg{l:Lit}(h:iR l=lc):Wn l:=by
 rw[AJ]at h;unfold pH at h;refine⟨AG h,fun j=>?_⟩;have u:=l.size_pos;obtain⟨n,d⟩: ∃n,l.size=n+1:=⟨l.size-1,by omega⟩
 rw[d]at h;have h:(jK (ew n) 16 l).2=lc:=h;unfold jK at h;rw[be (by omega),be (by omega),am j]at h;have h:((oJ (ew n (16-1)) l.agg 16).2||_)=lc:=h;rw[Zz]at h;have h:=h.1;unfold oJ at h;split at h
 .cases h
 have h:((Hl l.agg).2||(b5 (ew n (16-1)) l.agg.body l.agg.body.length).2)=lc:=h;rw[Zz]at h;refine⟨fun f1=>?_,fun k b=>?_⟩
 .have h:=h.1;unfold Hl at h;rw[be (show¬l.agg.func=1 from f1)]at h;have h:(_||(bP 17 l.jR).2)=lc:=h;rw[Zz]at h;exact yA _ _ h.2
 .exact AG (Ee _ h.2 k b)
section
abbrev AK.cell(o:List aj)(a b c na nb d:Nat):AO:= .cells [.sl a 0 na 2,.sl b 0 nb 1,.sl c 0 d 4,.iv (strs o)]
abbrev AK.O(A:AK)(o:List aj):List AO:=[AK.cell o 1 2 3 A.items.length A.root.length A.l.length,aG 2 A.items aN.c,aG 1 A.root ba,aG 4 A.l Ask.c]
abbrev AK.K(A:AK)(o:List aj):AH:=[(0,io (AK.cell o 1 2 3 A.items.length A.root.length A.l.length)),(1,io (aG 2 A.items aN.c)),(2,io (aG 1 A.root ba)),(3,io (aG 4 A.l Ask.c))]
abbrev AK.H(A:AK)(o:List aj):AH:=[(0,io (AK.cell o 4 5 6 A.items.length A.root.length A.l.length)),(4,io (aG 2 A.items aN.c)),(5,io (aG 1 A.root ba)),(6,io (aG 4 A.l Ask.c))]
abbrev AK.st(A:AK)(o:List aj)(i n0:Nat)(X:AH):AH:=(i,io (AK.cell o n0 (n0+1) (n0+2) A.items.length A.root.length A.l.length))::(n0,io (aG 2 A.items aN.c))::(n0+1,io (aG 1 A.root ba))::(n0+2,io (aG 4 A.l Ask.c))::X
section
variable {P:Program} {nt:Nat} {Q:AQ} {k:List KI} {s:AS}
def kS(s:AS)(o:List aj)(A:AK)(i a b c:Nat):AS:=match s with|⟨f,h,n⟩=>⟨f,(i,io (AK.cell o n (n+1) (n+2) A.items.length A.root.length A.l.length))::(n,io (aG 2 A.items aN.c))::(n+1,io (aG 1 A.root ba))::(n+2,io (aG 4 A.l Ask.c))::(i,jp)::(a,jp)::(b,jp)::(c,jp)::h,n+3⟩
theorem Ww(s:AS)(o:List aj)(A:AK)(i a b c:Nat):kS s o A i a b c=⟨s.f,(i,io (AK.cell o s.nx (s.nx+1) (s.nx+2) A.items.length A.root.length A.l.length))::(s.nx,io (aG 2 A.items aN.c))::(s.nx+1,io (aG 1 A.root ba))::(s.nx+2,io (aG 4 A.l Ask.c))::(i,jp)::(a,jp)::(b,jp)::(c,jp)::s.h,s.nx+3⟩:=by cases s;rfl
theorem Em{op:Oper}{B:Call}{g:FuncId}{args y:List PV}{o:List aj}{A A':AK}{u:PV}{i a b c na nb I:Nat}{D F G:List (List PV)}{s':AS}(hc:bV P g (.ptr 0 0::args) (A.O o) u (A'.H o) 7)(ho:op.op= .call B)(ha:bY s.f B=io (g,.ptr i 0::y))
  (hi:s.h.get i=io (AK.cell o a b c na nb I)) (h1:s.h.get a=io (.row 2 D)) (h2:s.h.get b=io (.row 1 F)) (h3:s.h.get c=io (.row 4 G)) (n1:na=A.items.length) (n2:nb=A.root.length) (n3:I=A.l.length)
  (e1:D=A.items.map fun x=>(aN.c x).map .iv) (e2:F=A.root.map fun x=>(ba x).map .iv) (e3:G=A.l.map fun x=>(Ask.c x).map .iv)
  (hlt:[i,a,b,c].all (fun x=>Zk x s.nx)=kw) (hnd:b4 [i,a,b,c]=kw) (has:y=args) (hlow:bq 0 args=kw) (hr:u.low 0=kw)
  (hp:putDst nt op u (kS s o A' i a b c)=io s'):OT P nt op s (fun t=>t=s'):=by
 subst has;subst n1;subst n2;subst n3;subst e1;subst e2;subst e3;have d: ∀σ,dL σ y=y:=fun σ=>iY σ y hlow;refine nD ho ha hc (dA hnd) (fun j J=>YY (Zr.1 hlt j J)) ?_ ?_ ?_
 .simp only[Zm,Z2,hi,h1,h2,h3,bA];rfl
 .simp only[dL,d];rfl
 .rintro q S n0 ⟨rfl,rfl,rfl⟩;rw[PV.jW _ _ hr];rw[Ww]at hp;refine⟨s',?_,rfl⟩;rw[<-hp];simp only[AK.H,aO,sV,ZZ,bA];rfl
theorem XL{all rest:List Oper}{op:Oper}{u:Call}{g:FuncId}{args j:List PV}{o:List aj}{A A':AK}{d:PV}{i a b c na nb F:Nat}{y B D:List (List PV)}{s':AS}(hc:bV P g (.ptr 0 0::args) (A.O o) d (A'.H o) 7)(ho:op.op= .call u)(hg:op.guard=jp)(ha:bY s.f u=io (g,.ptr i 0::j))
  (hi:s.h.get i=io (AK.cell o a b c na nb F)) (h1:s.h.get a=io (.row 2 y)) (h2:s.h.get b=io (.row 1 B)) (h3:s.h.get c=io (.row 4 D)) (n1:na=A.items.length) (n2:nb=A.root.length) (n3:F=A.l.length)
  (e1:y=A.items.map fun x=>(aN.c x).map .iv) (e2:B=A.root.map fun x=>(ba x).map .iv) (e3:D=A.l.map fun x=>(Ask.c x).map .iv)
  (hlt:[i,a,b,c].all (fun x=>Zk x s.nx)=kw) (hnd:b4 [i,a,b,c]=kw) (has:j=args) (hlow:bq 0 args=kw) (hr:d.low 0=kw)
  (hp:putDst nt op d (kS s o A' i a b c)=io s') (h:GO P nt (.ops all rest::k) Q s'):GO P nt (.ops all (op::rest)::k) Q s:=
 dJ hg (Em hc ho ha hi h1 h2 h3 n1 n2 n3 e1 e2 e3 hlt hnd has hlow hr hp) fun t G=>by subst G;exact h
theorem rQ{all rest:List Oper}{op:Oper}{u:Call}{g:FuncId}{args j:List PV}{o:List aj}{A A':AK}{d:PV}{i a b c na nb F:Nat}{y B D:List (List PV)}{s':AS}(hc:bV P g (.ptr 0 0::args) (A.O o) d (A'.H o) 7)(h:GO P nt (.ops all rest::k) Q s')(ho:op.op= .call u:=by exact rfl)(hg:op.guard=jp:=by exact rfl)(ha:bY s.f u=io (g,.ptr i 0::j):=by exact rfl)(hi:s.h.get i=io (AK.cell o a b c na nb F):=by exact rfl)(h1:s.h.get a=io (.row 2 y):=by exact rfl)(h2:s.h.get b=io (.row 1 B):=by exact rfl)(h3:s.h.get c=io (.row 4 D):=by exact rfl)(n1:na=A.items.length:=by first|rfl|(rw[Y1];rfl)|simp)(n2:nb=A.root.length:=by first|rfl|(rw[Y1];rfl)|simp)(n3:F=A.l.length:=by first|rfl|(rw[Y1];rfl)|simp)(e1:y=A.items.map fun x=>(aN.c x).map .iv:=by first|rfl|(rw[Y6];rfl)|(simp only[Y6,Zc];rfl))(e2:B=A.root.map fun x=>(ba x).map .iv:=by first|rfl|(rw[Y6];rfl)|(simp only[Y6,Zc];rfl))(e3:D=A.l.map fun x=>(Ask.c x).map .iv:=by first|rfl|(rw[Y6];rfl)|(simp only[Y6,Zc];rfl))(hlt:[i,a,b,c].all (fun x=>Zk x s.nx)=kw:=by exact rfl)(hnd:b4 [i,a,b,c]=kw:=by exact rfl)(has:j=args:=by exact rfl)(hlow:bq 0 args=kw:=by exact rfl)(hr:d.low 0=kw:=by exact rfl)(hp:putDst nt op d (kS s o A' i a b c)=io s':=by exact rfl):GO P nt (.ops all (op::rest)::k) Q s:=XL (hc:=hc) (ho:=ho) (hg:=hg) (ha:=ha) (hi:=hi) (h1:=h1) (h2:=h2) (h3:=h3) (n1:=n1) (n2:=n2) (n3:=n3) (e1:=e1) (e2:=e2) (e3:=e3) (hlt:=hlt) (hnd:=hnd) (has:=has) (hlow:=hlow) (hr:=hr) (hp:=hp) (h:=h)
theorem WG{ty:Ty}(j:cB P ty){all:List Oper}{todo pend:List (Nat×Oper)}{u:Nat}{B y:Prop}{op:Oper}{F:Call}{g:FuncId}{args D:List PV}{o:List aj}{A A':AK}{d:PV}{i a b c na nb S:Nat}{G I J:List (List PV)}{s':AS}(hc:bV P g (.ptr 0 0::args) (A.O o) d (A'.H o) 7)
  (hrd:fp todo=[(u,op)]) (ho:op.op= .call F) (ha:bY s.f F=io (g,.ptr i 0::D))
  (hi:s.h.get i=io (AK.cell o a b c na nb S)) (h1:s.h.get a=io (.row 2 G)) (h2:s.h.get b=io (.row 1 I)) (h3:s.h.get c=io (.row 4 J)) (n1:na=A.items.length) (n2:nb=A.root.length) (n3:S=A.l.length)
  (e1:G=A.items.map fun x=>(aN.c x).map .iv) (e2:I=A.root.map fun x=>(ba x).map .iv) (e3:J=A.l.map fun x=>(Ask.c x).map .iv)
  (hlt:[i,a,b,c].all (fun x=>Zk x s.nx)=kw) (hnd:b4 [i,a,b,c]=kw) (has:D=args) (hlow:bq 0 args=kw) (hr:d.low 0=kw)
  (hp:putDst nt op d (kS s o A' i a b c)=io s')
  (hg:cH nt all s.f op=io kw) (hpb:jI all pend op=kw) (hE:ph todo [u]=kw)
  (hag:tE ty nt all s todo pend=io B) (hCA:B) (hag2:eB ty nt all s' (bn pend op)=io y) (hC2:y)
  (h:GO P nt (.cW all (todo.filter fun x=>!Zt x.1 u) (bn pend op)::k) Q s'):GO P nt (.cW all todo pend::k) Q s:=
 yt j hrd hg hpb hE hag hCA (Em hc ho ha hi h1 h2 h3 n1 n2 n3 e1 e2 e3 hlt hnd has hlow hr hp) hag2 hC2 h
theorem Jm{all:List Oper}{todo pend:List (Nat×Oper)}{j:Nat}{y u:Prop}{op:Oper}{D:Call}{g:FuncId}{args B:List PV}{o:List aj}{A A':AK}{d:PV}{i a b c na nb J:Nat}{F G I:List (List PV)}{s':AS}(hc:bV Tryz.prog g (.ptr 0 0::args) (A.O o) d (A'.H o) 7)(h:GO Tryz.prog nt (.cW all (todo.filter fun x=>!Zt x.1 j) (bn pend op)::k) Q s')(hrd:fp todo=[(j,op)]:=by exact rfl)(ho:op.op= .call D:=by exact rfl)(ha:bY s.f D=io (g,.ptr i 0::B):=by exact rfl)(hi:s.h.get i=io (AK.cell o a b c na nb J):=by exact rfl)(h1:s.h.get a=io (.row 2 F):=by exact rfl)(h2:s.h.get b=io (.row 1 G):=by exact rfl)(h3:s.h.get c=io (.row 4 I):=by exact rfl)(n1:na=A.items.length:=by first|rfl|(rw[Y1];rfl)|simp)(n2:nb=A.root.length:=by first|rfl|(rw[Y1];rfl)|simp)(n3:J=A.l.length:=by first|rfl|(rw[Y1];rfl)|simp)(e1:F=A.items.map fun x=>(aN.c x).map .iv:=by first|rfl|(rw[Y6];rfl)|(simp only[Y6,Zc];rfl))(e2:G=A.root.map fun x=>(ba x).map .iv:=by first|rfl|(rw[Y6];rfl)|(simp only[Y6,Zc];rfl))(e3:I=A.l.map fun x=>(Ask.c x).map .iv:=by first|rfl|(rw[Y6];rfl)|(simp only[Y6,Zc];rfl))(hlt:[i,a,b,c].all (fun x=>Zk x s.nx)=kw:=by exact rfl)(hnd:b4 [i,a,b,c]=kw:=by exact rfl)(has:B=args:=by exact rfl)(hlow:bq 0 args=kw:=by exact rfl)(hr:d.low 0=kw:=by exact rfl)(hp:putDst nt op d (kS s o A' i a b c)=io s':=by exact rfl)(hg:cH nt all s.f op=io kw:=by exact rfl)(hpb:jI all pend op=kw:=by exact rfl)(hE:ph todo [j]=kw:=by exact rfl)(hag:tE pC nt all s todo pend=io y:=by exact rfl)(hCA:y:=by(repeat' (first|exact ac|exact rfl|exact aL.refl _|exact aL.bk (by assumption)|apply ZL))<;>first|omega|(simp only[Zs];omega)|(simp;done)|(simp;omega))(hag2:eB pC nt all s' (bn pend op)=io u:=by exact rfl)(hC2:u:=by(repeat' (first|exact ac|exact rfl|exact aL.refl _|exact aL.bk (by assumption)|apply ZL))<;>first|omega|(simp only[Zs];omega)|(simp;done)|(simp;omega)):GO Tryz.prog nt (.cW all todo pend::k) Q s:=WG ab (hc:=hc) (hrd:=hrd) (ho:=ho) (ha:=ha) (hi:=hi) (h1:=h1) (h2:=h2) (h3:=h3) (n1:=n1) (n2:=n2) (n3:=n3) (e1:=e1) (e2:=e2) (e3:=e3) (hlt:=hlt) (hnd:=hnd) (has:=has) (hlow:=hlow) (hr:=hr) (hp:=hp) (hg:=hg) (hpb:=hpb) (hE:=hE) (hag:=hag) (hCA:=hCA) (hag2:=hag2) (hC2:=hC2) (h:=h)
theorem WK{ty:TypeId->Option cC}{l:List ResultVar}{D:PV}{e:Exit}{o:List aj}{A:AK}{d:PV}{a b c na nb B:Nat}{j u y:List (List PV)}(he:e= .normal∨e= .ret)(hr:lv ty s l=io D)(hi:s.h.get 0=io (AK.cell o a b c na nb B))(h1:s.h.get a=io (.row 2 j))(h2:s.h.get b=io (.row 1 u))(h3:s.h.get c=io (.row 4 y))
  (n1:na=A.items.length) (n2:nb=A.root.length) (n3:B=A.l.length)
  (e1:j=A.items.map fun x=>(aN.c x).map .iv) (e2:u=A.root.map fun x=>(ba x).map .iv) (e3:y=A.l.map fun x=>(Ask.c x).map .iv)
  (hlt:[a,b,c].all (fun x=>Zk x s.nx)=kw) (hnd:b4 [0,a,b,c]=kw) (hns:aaV 4 s.nx=kw) (hrl:aL D d) (hlow:d.low 0=kw) (hlow7:d.low 7=kw):CT ty l 4 d (A.H o) 7 e s:=by
 subst n1;subst n2;subst n3;subst e1;subst e2;subst e3;refine eU [a,b,c] he hr ⟨rfl,YY hns,fun x F=>YY (Zr.1 hlt x F),⟨?_,hlow7,ac⟩,⟨⟨_,hi,.of_eq Z⟩,YY Z,rfl,⟨_,h1,.of_eq (bA _).symm⟩,YY Z,cK _,⟨_,h2,.of_eq (bA _).symm⟩,YY Z,cK _,⟨_,h3,.of_eq (bA _).symm⟩,YY Z,cK _,ac⟩,dA hnd⟩;rw[PV.jW _ _ hlow];exact hrl
theorem uP{ty:TypeId->Option cC}{l:List ResultVar}{D:PV}{e:Exit}{o:List aj}{A:AK}{d:PV}{a b c na nb B:Nat}{j u y:List (List PV)}(he:e= .normal∨e= .ret:=by first|exact .inr Z|exact .inl Z)(hr:lv ty s l=io D:=by exact rfl)(hi:s.h.get 0=io (AK.cell o a b c na nb B):=by exact rfl)(h1:s.h.get a=io (.row 2 j):=by exact rfl)(h2:s.h.get b=io (.row 1 u):=by exact rfl)(h3:s.h.get c=io (.row 4 y):=by exact rfl)(n1:na=A.items.length:=by first|rfl|(rw[Y1];rfl)|simp)(n2:nb=A.root.length:=by first|rfl|(rw[Y1];rfl)|simp)(n3:B=A.l.length:=by first|rfl|(rw[Y1];rfl)|simp)(e1:j=A.items.map fun x=>(aN.c x).map .iv:=by first|rfl|(rw[Y6];rfl)|(simp only[Y6,Zc];rfl))(e2:u=A.root.map fun x=>(ba x).map .iv:=by first|rfl|(rw[Y6];rfl)|(simp only[Y6,Zc];rfl))(e3:y=A.l.map fun x=>(Ask.c x).map .iv:=by first|rfl|(rw[Y6];rfl)|(simp only[Y6,Zc];rfl))(hlt:[a,b,c].all (fun x=>Zk x s.nx)=kw:=by exact rfl)(hnd:b4 [0,a,b,c]=kw:=by exact rfl)(hns:aaV 4 s.nx=kw:=by exact rfl)(hrl:aL D d:=by exact .refl _)(hlow:d.low 0=kw:=by exact rfl)(hlow7:d.low 7=kw:=by exact rfl):CT ty l 4 d (A.H o) 7 e s:=WK (he:=he) (hr:=hr) (hi:=hi) (h1:=h1) (h2:=h2) (h3:=h3) (n1:=n1) (n2:=n2) (n3:=n3) (e1:=e1) (e2:=e2) (e3:=e3) (hlt:=hlt) (hnd:=hnd) (hns:=hns) (hrl:=hrl) (hlow:=hlow) (hlow7:=hlow7)
theorem Nw{n0 i a b c na nb I:Nat}{D F G:List (List PV)}{J:AF}{o:List aj}{A A':AK}(hw:A=A')(hi:s.h.get i=io (AK.cell o a b c na nb I))(h1:s.h.get a=io (.row 2 D))(h2:s.h.get b=io (.row 1 F))(h3:s.h.get c=io (.row 4 G))
  (n1:na=A.items.length) (n2:nb=A.root.length) (n3:I=A.l.length)
  (e1:D=A.items.map fun x=>(aN.c x).map .iv) (e2:F=A.root.map fun x=>(ba x).map .iv) (e3:G=A.l.map fun x=>(Ask.c x).map .iv)
  (hlt:[a,b,c].all (fun x=>Zk x s.nx)=kw) (hnd:b4 [i,a,b,c]=kw) (h0:Zk i n0=kw) (hns:aaV n0 s.nx=kw) (hf:GD (n0+3) (sg n0 [a,b,c]) s.f J):
  Wk n0 [a,b,c] s ⟨J,[(i,io (AK.cell o n0 (n0+1) (n0+2) A'.items.length A'.root.length A'.l.length)),(n0,io (aG 2 A'.items aN.c)),(n0+1,io (aG 1 A'.root ba)),(n0+2,io (aG 4 A'.l Ask.c))],n0+3⟩:=by
 subst hw;subst n1;subst n2;subst n3;subst e1;subst e2;subst e3;have j:i<n0:=YY h0;have s0:sg n0 [a,b,c] i=i:=gz j;have d: ∀m,Zk (n0+m) n0=lc:=fun m=>aaK.2 fun e=>absurd (YY e) (by omega);have u:sg n0 [a,b,c] n0=a:=by have:=d 0;simp only[aa8]at this;simp[sg,this]
 have y:sg n0 [a,b,c] (n0+1)=b:=by simp[sg,d]
 have B:sg n0 [a,b,c] (n0+2)=c:=by simp[sg,d]
 have S:Zk n0 (n0+3)=kw:=ZI (by omega);have c1:Zk (n0+1) (n0+3)=kw:=ZI (by omega);have Y:Zk (n0+2) (n0+3)=kw:=ZI (by omega);refine⟨rfl,YY hns,fun x hx=>YY (Zr.1 hlt x hx),hf,⟨⟨_,by rw[s0];exact hi,?_⟩,by show i<n0+3;omega,?_,⟨_,by rw[u];exact h1,.of_eq (bA _).symm⟩,by show n0<n0+3;omega,cK _,⟨_,by rw[y];exact h2,.of_eq (bA _).symm⟩,by show n0+1<n0+3;omega,cK _,⟨_,by rw[B];exact h3,.of_eq (bA _).symm⟩,by show n0+2<n0+3;omega,cK _,ac⟩,?_⟩
 .simp only[AO.db,dL,PV.db,u,y,B];exact .of_eq Z
 .simp[AO.low,bq,PV.low,S,c1,Y]
 .simp only[en,s0,u,y,B];exact dA hnd
theorem Tb{X:AH}{n0 i a b c na nb D:Nat}{u y B:List (List PV)}{J:AF}{o:List aj}{A A':AK}(hw:A=A')(hi:s.h.get i=io (AK.cell o a b c na nb D))(h1:s.h.get a=io (.row 2 u))(h2:s.h.get b=io (.row 1 y))(h3:s.h.get c=io (.row 4 B))
  (n1:na=A.items.length) (n2:nb=A.root.length) (n3:D=A.l.length)
  (e1:u=A.items.map fun x=>(aN.c x).map .iv) (e2:y=A.root.map fun x=>(ba x).map .iv) (e3:B=A.l.map fun x=>(Ask.c x).map .iv)
  (hlt:[a,b,c].all (fun x=>Zk x s.nx)=kw) (hnd:b4 [i,a,b,c]=kw) (h0:Zk i n0=kw) (hns:aaV n0 s.nx=kw) (hf:GD (n0+3) (sg n0 [a,b,c]) s.f J) (hX:n6 (n0+3) (sg n0 [a,b,c]) s.h X)
  (hin:b4 (en (sg n0 [a,b,c]) ((i,io (AK.cell o n0 (n0+1) (n0+2) A'.items.length A'.root.length A'.l.length))::(n0,io (aG 2 A'.items aN.c))::(n0+1,io (aG 1 A'.root ba))::(n0+2,io (aG 4 A'.l Ask.c))::X))=kw):
  Wk n0 [a,b,c] s ⟨J,(i,io (AK.cell o n0 (n0+1) (n0+2) A'.items.length A'.root.length A'.l.length))::(n0,io (aG 2 A'.items aN.c))::(n0+1,io (aG 1 A'.root ba))::(n0+2,io (aG 4 A'.l Ask.c))::X,n0+3⟩:=by
 subst hw;subst n1;subst n2;subst n3;subst e1;subst e2;subst e3;have j:i<n0:=YY h0;have s0:sg n0 [a,b,c] i=i:=gz j;have d: ∀m,Zk (n0+m) n0=lc:=fun m=>aaK.2 fun e=>absurd (YY e) (by omega);have F:sg n0 [a,b,c] n0=a:=by have:=d 0;simp only[aa8]at this;simp[sg,this]
 have G:sg n0 [a,b,c] (n0+1)=b:=by simp[sg,d]
 have I:sg n0 [a,b,c] (n0+2)=c:=by simp[sg,d]
 have S:Zk n0 (n0+3)=kw:=ZI (by omega);have c1:Zk (n0+1) (n0+3)=kw:=ZI (by omega);have Y:Zk (n0+2) (n0+3)=kw:=ZI (by omega);refine⟨rfl,YY hns,fun x hx=>YY (Zr.1 hlt x hx),hf,⟨⟨_,by rw[s0];exact hi,?_⟩,by show i<n0+3;omega,?_,⟨_,by rw[F];exact h1,.of_eq (bA _).symm⟩,by show n0<n0+3;omega,cK _,⟨_,by rw[G];exact h2,.of_eq (bA _).symm⟩,by show n0+1<n0+3;omega,cK _,⟨_,by rw[I];exact h3,.of_eq (bA _).symm⟩,by show n0+2<n0+3;omega,cK _,hX⟩,dA hin⟩
 .simp only[AO.db,dL,PV.db,F,G,I];exact .of_eq Z
 .simp[AO.low,bq,PV.low,S,c1,Y]
theorem Bx{X:AH}{n0 i a b c na nb y:Nat}{d j u:List (List PV)}{B:AF}{o:List aj}{A A':AK}(hw:A=A')(hX:n6 (n0+3) (sg n0 [a,b,c]) s.h X)(hi:s.h.get i=io (AK.cell o a b c na nb y):=by exact rfl)(h1:s.h.get a=io (.row 2 d):=by exact rfl)(h2:s.h.get b=io (.row 1 j):=by exact rfl)(h3:s.h.get c=io (.row 4 u):=by exact rfl)(n1:na=A.items.length:=by first|rfl|(rw[Y1];rfl)|simp)(n2:nb=A.root.length:=by first|rfl|(rw[Y1];rfl)|simp)(n3:y=A.l.length:=by first|rfl|(rw[Y1];rfl)|simp)(e1:d=A.items.map fun x=>(aN.c x).map .iv:=by first|rfl|(rw[Y6];rfl)|(simp only[Y6,Zc];rfl))(e2:j=A.root.map fun x=>(ba x).map .iv:=by first|rfl|(rw[Y6];rfl)|(simp only[Y6,Zc];rfl))(e3:u=A.l.map fun x=>(Ask.c x).map .iv:=by first|rfl|(rw[Y6];rfl)|(simp only[Y6,Zc];rfl))(hlt:[a,b,c].all (fun x=>Zk x s.nx)=kw:=by exact rfl)(hnd:b4 [i,a,b,c]=kw:=by exact rfl)(h0:Zk i n0=kw:=by exact rfl)(hns:aaV n0 s.nx=kw:=by exact rfl)(hf:GD (n0+3) (sg n0 [a,b,c]) s.f B:=by repeat' (first|exact ac|exact aL.refl _|exact rfl|apply ZL))(hin:b4 (en (sg n0 [a,b,c]) ((i,io (AK.cell o n0 (n0+1) (n0+2) A'.items.length A'.root.length A'.l.length))::(n0,io (aG 2 A'.items aN.c))::(n0+1,io (aG 1 A'.root ba))::(n0+2,io (aG 4 A'.l Ask.c))::X))=kw:=by exact rfl):Wk n0 [a,b,c] s ⟨B,(i,io (AK.cell o n0 (n0+1) (n0+2) A'.items.length A'.root.length A'.l.length))::(n0,io (aG 2 A'.items aN.c))::(n0+1,io (aG 1 A'.root ba))::(n0+2,io (aG 4 A'.l Ask.c))::X,n0+3⟩:=Tb (hw:=hw) (hi:=hi) (h1:=h1) (h2:=h2) (h3:=h3) (n1:=n1) (n2:=n2) (n3:=n3) (e1:=e1) (e2:=e2) (e3:=e3) (hlt:=hlt) (hnd:=hnd) (h0:=h0) (hns:=hns) (hf:=hf) (hX:=hX) (hin:=hin)
end
end
end Go.Proofs.YtflegjieadkonaaGreatDoor
namespace Go.Proofs.YtflegjieadkonaaGreatDoor
open Go Go.Al Go.Proofs.Tryz
def AK.ok(A:AK):Prop:=A.root.length=A.items.length∧ ∀k∈A.l,k.item<A.items.length
structure Gr (n:Nat) (A B:AK):Prop where
 ok:A.ok->B.ok
 it:B.items.length<=A.items.length+n
 ln:B.l.length<=A.l.length+n
 mn:A.items.length<=B.items.length
def AK.fit(A:AK)(n:Nat):Prop:=A.ok∧A.items.length+n<=1000000000∧A.l.length+n<=1000000000
theorem Gr.refl(A:AK):Gr 0 A A:=⟨id,Y7 _,Y7 _,Y7 _⟩
theorem Gr.trans{n m:Nat}{A B C:AK}(h:Gr n A B)(g:Gr m B C):Gr (n+m) A C:=
 ⟨fun o=>g.ok (h.ok o),by have:=h.it;have:=g.it;omega,by have:=h.ln;have:=g.ln;omega,by have:=h.mn;have:=g.mn;omega⟩
theorem Gr.le{n m:Nat}{A B:AK}(h:Gr n A B)(hm:n<=m):Gr m A B:=⟨h.ok,by have:=h.it;omega,by have:=h.ln;omega,h.mn⟩
theorem AK.fit.step{A B:AK}{a b n:Nat}(h:A.fit n)(g:Gr a A B)(hn:a+b<=n):B.fit b:=by
 obtain⟨d,j,u⟩:=h;have:=g.it;have:=g.ln;exact⟨g.ok d,by omega,by omega⟩
theorem AK.fit.le{A:AK}{n m:Nat}(h:A.fit n)(hm:m<=n):A.fit m:=⟨h.1,by have:=h.2.1;omega,by have:=h.2.2;omega⟩
theorem uw(A:AK)(u:aN):Gr 1 A (A.item u):=by
 unfold AK.item;split
 .exact(Gr.refl A).le (by omega)
 .refine⟨fun⟨h1,h2⟩=>⟨?_,fun k b=>?_⟩,?_,by show A.l.length<=_;omega,?_⟩
  .show(A.root++_).length=(A.items++_).length;rw[Y1,Y1,h1];rfl
  .have:=h2 k b;show _<(((A.items++_).length:Nat):Int)
   rw[Y1,ZB];omega
  .show(A.items++_).length<=_;rw[Y1,ZB];omega
  .show _<=(A.items++_).length;rw[Y1,ZB];omega
theorem Ci(A:AK)(u:aN):A.ix u<(A.item u).items.length:=by
 unfold AK.item AK.ix;split
 .omega
 .rename_i h;show _<(((A.items++_).length:Nat):Int)
  have: ∀l:List aN,zs l u<=l.length:=by
   intro l
   induction l with
   |nil=>exact Y7 _
   |cons a r ih=>unfold zs;split<;>simp<;>omega
  have:=this A.items;rw[Y1,ZB];omega
theorem L4(A:AK)(k:Ask)(b:k.item<A.items.length):Gr 1 A (A.ask k):=by
 unfold AK.ask;split
 .refine⟨fun⟨h1,h2⟩=>⟨h1,fun x d=>?_⟩,by show A.items.length<=_;omega,?_,Y7 _⟩
  .rcases Zf.1 d with g|g
   .exact h2 x g
   .rw[Zd]at g;subst g;exact b
  .show(A.l++_).length<=_;rw[Y1,ZB];omega
 .exact(Gr.refl A).le (by omega)
theorem LI(A:AK)(u:aN):(A.item u).l=A.l:=by unfold AK.item;split<;>rfl
theorem JI(A:AK)(k:Ask):(A.ask k).items=A.items:=by unfold AK.ask;split<;>rfl
theorem w7(A:AK)(b:Int)(u:aN)(d:Int):Gr 1 A (A.want b u d):=by
 have j:=uw A u;have x:=L4 (A.item u) ⟨b,A.ix u,d,0⟩ (Ci A u);refine⟨fun o=>x.ok (j.ok o),?_,?_,ZS j.mn x.mn⟩
 .show((A.item u).ask _).items.length<=_;rw[JI];exact j.it
 .have:=x.ln;rw[LI]at this;exact this
theorem LZ(A:AK)(b d j:Int):Gr 1 A (A.ask ⟨b, -1,d,j⟩):=L4 A _ (by show(-1:Int)<_;omega)
theorem UF(A:AK)(x y:Int):Gr 0 A (A.tie x y):=by
 refine⟨fun⟨h1,h2⟩=>⟨?_,h2⟩,Y7 _,Y7 _,Y7 _⟩;show(A.root.map _).length=A.items.length;rw[Zx,h1]
theorem HG(r:ah)(lit w:Int)(e:Expr)(A:AK):Gr 1 A (mF r lit w e A):=by
 unfold mF;split
 .exact w7 _ _ _ _
 split
 .exact LZ _ _ _ _
 .exact(Gr.refl A).le (by omega)
theorem Cr(r:ah)(lit w:Int)(l:List Expr)(h: ∀x∈l,∀A,Gr x.size A (gJ r lit w x A)): ∀A,Gr (Expr.aA l) A (l.foldl (fun A x=>gJ r lit w x A) A):=by
 induction l with
 |nil=>exact fun A=>Gr.refl A
 |cons e s ih=>
  intro A;exact(h e Zh A).trans (ih (fun x b=>h x (Zg _ b)) _)
theorem nU(r:ah)(lit w:Int): ∀(n:Nat) (e:Expr) (A:AK),e.size<=n->Gr e.size A (gJ r lit w e A)
 |0,e,A,h=>by have:=e.size_pos;omega
 |n+1,e,A,h=>by
  have u:=e.size_eq;rw[wZ];refine Gr.le ((HG r lit w e A).trans (m:=Expr.aA e.args) ?_) (by omega);unfold lO;split
  .refine Cr r lit w e.args (fun x j A=>nU r lit w n x A ?_) _;obtain⟨k,d,rfl⟩:=aaa.1 j;have b:=Expr.aI e.args k d;rw[YZ,Y3 d]at b;have b:(e.args[k]).size<=Expr.aA e.args:=b;omega
  .exact(Gr.refl _).le (by omega)
theorem tq(r:ah)(lit w:Int)(e:Expr)(A:AK):Gr (Expr.aA e.args) A (lO r lit w e A):=by
 unfold lO;split
 .exact Cr r lit w e.args (fun x b A=>nU r lit w x.size x A (Y7 _)) _
 .exact(Gr.refl _).le (by omega)
theorem L5(r:ah)(lit w:Int)(l:List Expr)(i:Nat)(A:AK):Gr (Expr.aA (l.take i)) A ((l.take i).foldl (fun A x=>gJ r lit w x A) A):=
 Cr r lit w _ (fun x b A=>nU r lit w x.size x A (Y7 _)) _
theorem L3(p:Prog)(r:ah)(a:Atom)(lit w:Int)(i:Nat)(A:AK):Gr 1 A (j8 p r a lit w i A):=by
 unfold j8;split
 .split
  .exact w7 _ _ _ _
  split
  .exact LZ _ _ _ _
  .exact(Gr.refl A).le (by omega)
 .exact(Gr.refl A).le (by omega)
theorem w8(p:Prog)(r:ah)(a:Atom)(lit w:Int)(A:AK): ∀i,Gr i A (fK p r a lit w A i)
 |0=> .refl _
 |i+1=>(w8 p r a lit w A i).trans (L3 p r a lit w i _)
theorem Ew(r:ah)(lit w:Int)(x y:Expr)(A:AK):Gr 2 A (lA r lit w x y A):=by
 unfold lA;split
 .split
  .exact((uw _ _).trans (uw _ _)).trans (UF _ _ _)
  .exact(w7 _ _ _ _).le (by omega)
 split
 .exact(w7 _ _ _ _).le (by omega)
 .exact(LZ _ _ _ _).le (by omega)
theorem L1(p:Prog)(r:ah)(lit w:Int)(l:Lit)(A:AK):Gr l.size A (lE p r lit w l A):=by
 have b:=l.size_eq;have d:=l.left.size_eq;have j:=l.right.size_eq;unfold lE;split
 .exact(w8 p r l.atom lit w A _).le (by omega)
 split
 .split
  .exact(((tq r lit w l.left A).trans (tq r lit w l.right _)).trans (Ew r lit w _ _ _)).le (by omega)
  .exact((nU r lit w _ l.left A (Y7 _)).trans (nU r lit w _ l.right _ (Y7 _))).le (by omega)
 .exact(Gr.refl A).le (by omega)
theorem Ev(p:Prog)(r:ah)(i:Int)(A:AK)(b:List Lit): ∀k,k<=b.length->Gr (Lit.aA (b.take k)) A (Fp p r i A b k)
 |0,_=> .refl _
 |k+1,h=>by
  rw[Lit.oQ b k (by omega)];exact(Ev p r i A b k (by omega)).trans (L1 p r i i _ _)
theorem LY(r:ah)(i f:Int)(v:aj)(o:Expr)(A:AK):Gr (o.size+2) A (uU r i f v o A):=by
 have b:=o.size_eq;unfold uU;split
 .exact(nU r i i _ (jl v) A (Y7 _)).le (by rw[jC];omega)
 split
 .exact((nU r i i _ (jl v) A (Y7 _)).trans (nU r i i _ o _ (Y7 _))).le (by rw[jC];omega)
 .exact((tq r i i o A).trans (Ew r i i _ _ _)).le (by omega)
theorem Qn(p:Prog)(r:ah)(i:Int)(l:Lit)(A:AK):Gr l.size A (rW p r i l A):=by
 have d:=l.size_eq;unfold rW;split
 .have b:=Ev p r i (uU r i l.c7 l.a7 l.jR A) l.ar l.ar.length (Y7 _);rw[aaI]at b;exact((LY r i l.c7 l.a7 l.jR A).trans b).le (by omega)
 .exact L1 p r i (-1) l A
theorem Cq(p:Prog)(r:ah): ∀k,k<=r.body.length->Gr (r.head.ad.length+Lit.aA (r.body.take k)) AK.o (lG p r k)
 |0,_=>w8 p r r.head (-1) (-1) AK.o _
 |k+1,h=>by
  rw[Lit.oQ r.body k (by omega),<-aaB];exact(Cq p r k (by omega)).trans (Qn p r k _ _)
theorem Wm:AK.o.ok:=⟨rfl,fun k b=>nomatch b⟩
def uL(r:ah)(lit:Int):Bool:=if lit<0 then(fg r.head).2 else(pH (ak r lit)).2
def rP(r:ah)(n:Int):aY:=
 if n>256∨(r.body.length:Int)>12 then(66,r.at_) else if(tY r:Int)>24 then(66,r.at_) else match r.body.find? pA with
  |some l=>(66,l.at)
  |none=>aY.z
def nf(a b:aY):aY:=if a.1=0 then b else a
def KN(p:Prog)(r:ah)(n:Int):aY:=
 nf (bL r 1 (uL r) aY.z)<|nf (rP r n)<|nf (bL r 61 (fun lit=>(bu r lit).any fun x=>lV p x) aY.z)<|nf (bL r 62 (fun lit=>(bu r lit).any fun x=>ni p x) aY.z)<|nf (bL r 65 (dE r) aY.z)<|nf (jm r (nF p r))<|bL r 64 (dN r) aY.z
theorem qj{r:ah}{e:Int}(he: ¬e=0)(f:Int->Bool)(k:aY):nf (bL r e f aY.z) k=bL r e f k:=by
 unfold nf bL;split
 .exact be he
 .exact am Z
theorem F4(n:Nat):jd n=(-1)::(Zp n).map fun k:Nat=>(k:Int):=by
 unfold jd;rw[abp,Zm,aaQ];refine congr (congrArg _ Z) (aao fun k _=>?_);show((k+1:Nat):Int)-1=k;omega
theorem Gj{α:Type}[Inhabited α](q:α->Bool): ∀(l:List α) (m:Nat) (g:Nat->Int),∀f:Int->Bool,(∀k,k<l.length->f (g k)=q (l.getD k em))->((Zp l.length).map g).find? f=(l.findIdx? q).map g:=by
 intro l _
 induction l with
 |nil=>intro g f _;rfl
 |cons a r ih=>
  intro g f h;have b:=h 0 (by simp);rw[ZA,abp,Zm,aaR,b];rw[List.findIdx?_cons];show(match q a with|true=>_|false=>_)=_;cases hq:q a with
  |true=>rfl
  |false=>
   show((List.map Nat.succ (Zp r.length)).map g).find? f=_;rw[aaQ];have:=ih (fun k=>g (k+1)) f fun k d=>h (k+1) (by simpa using d);show((Zp r.length).map fun k=>g (k+1)).find? f=_;rw[this];simp only[aaz,if_false];cases r.findIdx? q<;>rfl
theorem F1(r:ah)(e:Int)(f:Int->Bool)(q:Lit->Bool)(k:aY)(B: ∀i:Nat,i<r.body.length->f i=q (r.body.getD i em)):bL r e f k=if f (-1)=kw then(e,r.at_) else match r.body.find? q with
  |some l=>(e,l.at)
  |none=>k:=by
 unfold bL vG;rw[F4,aaR];cases h:f (-1) with
 |true=>rfl
 |false=>
  rw[be (by decide)];have:=Gj q r.body 0 (fun k:Nat=>(k:Int)) f B;show(match((Zp r.body.length).map fun k:Nat=>(k:Int)).find? f with|some lit=>(e,fq r lit)|none=>k)=_;rw[this];cases hi:r.body.findIdx? q with
  |none=>
   rw[abC]at hi;have:r.body.find? q=jp:=by
    rw[aat];intro x D;rw[hi x D];decide
   rw[this];rfl
  |some i=>
   obtain⟨b,d,u⟩:=abf.1 hi;have:r.body.find? q=io r.body[i]:=by
    rw[abm];exact⟨d,i,b,rfl,fun j y=>by rw[Z7];exact aaK.2 (u j y)⟩
   rw[this];show(e,fq r i)=(e,(r.body[i]).at)
   have A:fq r i=(r.body[i]).at:=by
    unfold fq ak;rw[be (by omega),YZ,show((i:Int)).toNat=i by omega,Y3 b];rfl
   rw[A]
theorem Jb(r:ah)(i:Nat):ak r i=r.body.getD i em:=rfl
theorem Lr(r:ah)(k:aY):bL r 1 (uL r) k=if lT r.head=kw then(1,r.at_) else match r.body.find? iR with
  |some l=>(1,l.at)
  |none=>k:=by
 have b: ∀i:Nat,i<r.body.length->uL r i=iR (r.body.getD i em):=fun i _=>by
  unfold uL;rw[be (by omega),Jb,AJ]
 rw[F1 r 1 (uL r) iR k b];have:uL r (-1)=lT r.head:=by rw[Fb];rfl
 rw[this]
theorem PZ(r:ah)(n:Int)(k:aY):nf (rP r n) k=if n>256∨(r.body.length:Int)>12 then(66,r.at_) else if(tY r:Int)>24 then(66,r.at_) else match r.body.find? pA with
  |some l=>(66,l.at)
  |none=>k:=by
 unfold nf rP;split
 .rfl
 split
 .rfl
 split
 .rfl
 .rfl
theorem Ur{r:ah}(h: ¬lT r.head=kw)(hb:r.body.find? iR=jp):Vm r.head∧ ∀k,k<r.body.length->Wn (r.body.getD k em):=by
 refine⟨Fa (by rw[<-Fb];simpa using h),fun k b=>Qg ?_⟩;rw[aat]at hb;have:=hb (r.body.getD k em) (by rw[YZ,Y3 b];exact ZJ b);simpa using this
theorem Pu(p:Prog)(r:ah)(n:Int):KN p r n=pF p r n:=by
 unfold KN pF yb;rw[qj (by decide),Lr];split
 .rfl
 rename_i b;cases h2:r.body.find? iR with
 |some l=>rfl
 |none=>
  obtain⟨d,j⟩:=Ur b h2;show nf (rP r n) _=_;rw[J3 d j,PZ,qj (by decide),qj (by decide),qj (by decide),qj (by decide)];rfl
def lk(r:ah)(lit:Int):List aj:=if lit<0 then bg r.head else if(ak r lit).kind=4 then b6 (aF (ak r lit).agg) (ak r lit).a7 else cm (ak r lit)
def nT(r:ah)(lit:Int):List aj:=if lit<0 then[] else if(ak r lit).kind=4 then mE r lit else[]
def A5(r:ah)(b:List aj)(x:aj):Bool:=!(if aE (outer r) x=kw then aE (kT r) x else aE b x)
def F0(r:ah)(lit:Int):Bool:=(lk r lit).any (A5 r (nT r lit))
theorem ve{t a:aj}{v:Int}: ∀{m:NM},t∈(cF .str m a v).map Zu↔t=a∨t∈m.map Zu
 | []=>by simp[cF]
 |(x,y)::r=>by
  show t∈(if x=a then(a,v)::r else(x,y)::cF .str r a v).map Zu↔_;split
  .rename_i h;subst h;simp
  .rw[Zm,Zj,ve,Zm,Zj];constructor
   .rintro(h|h|h)
    .exact .inr (.inl h)
    .exact .inl h
    .exact .inr (.inr h)
   .rintro(h|h|h)
    .exact .inr (.inl h)
    .exact .inl h
    .exact .inr (.inr h)
theorem Eb{x:aj}{r:ah}:x∈kT r↔x∈ch r:=by
 unfold kT tp;rw[yp];exact p3 (may:=fun b=>aU b) (more:=fun b=>jb (ay r) b) (I4 r) lS (FY (ay r)) (fun y=>by rw[uj];simp) x
theorem Lk(k:List aj)(l:Lit):mB (aU k) (fun _=>lc) k l=if(fC lc [] k l).2=kw then io (fC lc [] k l).1 else jp:=by
 unfold mB fC;rw[be (c:=l.kind=4∧_) (fun h=>Bool.noConfusion h.2.2),be (c:=lc=kw∧_) (fun h=>Bool.noConfusion h.1),Du]
theorem Ec{x:aj}(o:List aj): ∀{l k:List aj},x∈l.foldl (fun k y=>if aE o y then b6 k y else k) k↔x∈k∨(x∈l∧x∈o)
 | [],k=>by simp
 |y::r,k=>by
  rw[Zw,Ec o];by_cases h:aE o y=kw
  .rw[am h,cq,Zj];constructor
   .rintro((g|g)|g)
    .exact .inl g
    .exact .inr ⟨.inl g,by rw[g];exact aM.1 h⟩
    .exact .inr ⟨.inr g.1,g.2⟩
   .rintro(g|⟨g|g,q⟩)
    .exact .inl (.inl g)
    .exact .inl (.inr g)
    .exact .inr ⟨g,q⟩
  .rw[be h,Zj];constructor
   .rintro(g|g)
    .exact .inl g
    .exact .inr ⟨.inr g.1,g.2⟩
   .rintro(g|⟨g|g,q⟩)
    .exact .inl g
    .subst g;exact absurd (aM.2 q) h
    .exact .inr ⟨g,q⟩
theorem r7{x:aj}{r:ah}{lit:Int}:x∈mE r lit↔x∈B7 r (ak r lit).agg:=by
 unfold mE tp;rw[yp];refine p3 (may:=fun b=>aU b) (more:=fun _=>fun _=>lc) Lk lS (fun _ _ _ _ h=>h) (fun y=>?_) x;rw[uj];have:y∈vt r lit↔y∈yk r (ak r lit).agg:=by
  unfold vt yk;rw[Ec,ZF,(ck _).2,ft,aM,jJ];simp
 rw[this,Zf]
theorem td{r:ah}{m:NM}:tg r m=kw↔ ∃x∈m.map Zu,x∉ch r:=by
 unfold tg;rw[ZQ];constructor
 .rintro⟨y,b,h⟩;exact⟨y.1,ZD.2 ⟨y,b,rfl⟩,fun g=>by rw[aM.2 g]at h;cases h⟩
 .rintro⟨x,hx,h⟩;obtain⟨y,b,rfl⟩:=ZD.1 hx;refine⟨y,b,?_⟩;cases hi:aE (ch r) y.1 with
  |true=>exact absurd (aM.1 hi) h
  |false=>rfl
theorem jM{r:ah}{b:List aj}{x:aj}:A5 r b x=kw↔(x∈ay r∧x∉ch r)∨(x∉ay r∧x∉b):=by
 unfold A5;rw[Z7];by_cases h:aE (outer r) x=kw
 .have d:x∈ay r:=jJ.1 (aM.1 h);rw[am h,<-aav,aM,Eb];exact⟨fun g=> .inl ⟨d,g⟩,fun g=>g.elim (fun q=>q.2) fun q=>absurd d q.1⟩
 .have d:x∉ay r:=fun g=>h (aM.2 (jJ.2 g))
  rw[be h,<-aav,aM];exact⟨fun g=> .inr ⟨d,g⟩,fun g=>g.elim (fun q=>absurd q.1 d) fun q=>q.2⟩
theorem o9{r:ah}{lit:Int}(h0: ¬lit<0)(h1:lit<r.body.length){x:aj}(b:x∈fa (ak r lit)):x∈ay r:=by
 unfold ay;refine aau _ (aaT.2 ⟨ak r lit,?_,b⟩);have:lit.toNat<r.body.length:=by omega
 unfold ak;rw[YZ,Y3 this];exact ZJ this
theorem Lq(r:ah)(lit:Int)(h1:lit<r.body.length):F0 r lit=dN r lit:=by
 unfold F0 dN lk nT;by_cases A:lit<0
 .rw[am A,am A,am A,ZN,td,ZQ];constructor
  .rintro⟨x,b,g⟩;have u:x∈cJ r.head:=fQ.1 b;have F:x∈ay r:=by unfold ay;exact ZC _ u
   refine⟨x,((ck _).2 x).2 u,?_⟩;rcases jM.1 g with q|q
   .exact q.2
   .exact absurd F q.1
  .rintro⟨x,b,g⟩;have u:=((ck _).2 x).1 b;have F:x∈ay r:=by unfold ay;exact ZC _ u
   exact⟨x,fQ.2 u,jM.2 (.inl ⟨F,g⟩)⟩
 rw[be A,be A,be A];by_cases D:(ak r lit).kind=4
 .rw[am D,am D,am D,ZN,aal,td,ZQ,ZQ];have G:(ak r lit).a7∈ay r:=o9 A h1 (by unfold fa;rw[am D];exact aau _ Zh);have d: ∀x,x∈(lN r (ak r lit).agg).map Zu↔x∈bc (ak r lit).agg∧x∉ay r:=fun x=>by
   unfold lN;rw[<-(ck (bc (ak r lit).agg)).2 x,ZD,ZD];constructor
   .rintro⟨y,B,rfl⟩;obtain⟨g1,g2⟩:=ZF.1 B;exact⟨⟨y,g1,rfl⟩,fun g=>by rw[aM.2 g]at g2;cases g2⟩
   .rintro⟨⟨y,g1,rfl⟩,g2⟩;refine⟨y,ZF.2 ⟨g1,?_⟩,rfl⟩;cases hi:aE (ay r) y.1 with
    |true=>exact absurd (aM.1 hi) g2
    |false=>rfl
  have j: ∀x,x∈(mH r (ak r lit).agg).map Zu↔x∈bc (ak r lit).agg∧x∈ay r:=fun x=>by
   unfold mH;constructor
   .intro b;obtain⟨y,B,rfl⟩:=ZD.1 b;obtain⟨g1,g2⟩:=ZF.1 B;have S:=((ck (bc (ak r lit).agg)).2 y.1).1 (ZD.2 ⟨y,g1,rfl⟩);refine⟨S,aah fun hc=>?_⟩;rw[aM.2 ((d y.1).2 ⟨S,hc⟩)]at g2;cases g2
   .rintro⟨g1,g2⟩;obtain⟨y,B,rfl⟩:=ZD.1 (((ck (bc (ak r lit).agg)).2 x).2 g1);refine ZD.2 ⟨y,ZF.2 ⟨B,?_⟩,rfl⟩;cases hi:aE ((lN r (ak r lit).agg).map (·.1)) y.1 with
    |true=>exact absurd g2 ((d y.1).1 (aM.1 hi)).2
    |false=>rfl
  constructor
  .rintro⟨x,b,g⟩;rcases jM.1 g with⟨I,J⟩|⟨I,J⟩
   .refine .inr ⟨x,?_,J⟩;unfold bump;rw[ve,j];rcases cq.1 b with e|e
    .exact .inr ⟨ft.1 e,I⟩
    .exact .inl e
   .rcases cq.1 b with e|e
    .obtain⟨y,B,rfl⟩:=ZD.1 ((d x).2 ⟨ft.1 e,I⟩);refine .inl ⟨y,B,?_⟩;cases hi:aE (B7 r (ak r lit).agg) y.1 with
     |true=>exact absurd (r7.2 (aM.1 hi)) J
     |false=>rfl
    .rw[e]at I;exact absurd G I
  .rintro(⟨y,B,g⟩|⟨x,b,g⟩)
   .obtain⟨g1,g2⟩:=(d y.1).1 (ZD.2 ⟨y,B,rfl⟩);refine⟨y.1,cq.2 (.inl (ft.2 g1)),jM.2 (.inr ⟨g2,fun q=>?_⟩)⟩;rw[aM.2 (r7.1 q)]at g;cases g
   .unfold bump at b;rw[ve,j]at b;rcases b with e|⟨Y,e2⟩
    .exact⟨x,cq.2 (.inr e),jM.2 (.inl ⟨by rw[e];exact G,g⟩)⟩
    .exact⟨x,cq.2 (.inl (ft.2 Y)),jM.2 (.inl ⟨e2,g⟩)⟩
 .rw[be D,be D,be D,ZN,td,ZQ];constructor
  .rintro⟨x,b,g⟩;have u:=jc.1 b;have F:=o9 A h1 (x:=x) (by unfold fa;exact ZC _ u);refine⟨x,((ck _).2 x).2 u,?_⟩;rcases jM.1 g with q|q
   .exact q.2
   .exact absurd F q.1
  .rintro⟨x,b,g⟩;have u:=((ck _).2 x).1 b;have F:=o9 A h1 (x:=x) (by unfold fa;exact ZC _ u);exact⟨x,jc.2 u,jM.2 (.inl ⟨F,g⟩)⟩
theorem Ch: ∀{l:List aN} {u:aN} {i:Nat},i<l.length->l.getD i em=u->(∀j,j<i-> ¬l.getD j em=u)->zs l u=i
 | [],_,i,h,_,_=>absurd h (Z6 i)
 |a::r,u,0,_,h,_=>am h
 |a::r,u,i+1,hi,h,hJ=>by
  have b: ¬a=u:=hJ 0 (Nat.succ_pos i);unfold zs;rw[be b,Ch (i:=i) (by simpa using hi) h fun j d=>hJ (j+1) (by omega)]
theorem yh: ∀{l:List aN} {u:aN},(∀j,j<l.length-> ¬l.getD j em=u)->zs l u=l.length
 | [],_,_=>rfl
 |a::r,u,hJ=>by
  have b: ¬a=u:=hJ 0 (by simp);unfold zs;rw[be b,yh (l:=r) fun j d=>hJ (j+1) (by simpa using d)];rfl
theorem Kq(r:ah)(s:aj)(w:Int):bf r s w=(s,if aE (outer r) s=kw then-1 else w):=by
 unfold bf;rw[bB];by_cases h:s∈ay r
 .rw[am (by have:=oF.2 h;omega),am (aM.2 (jJ.2 h))]
 .rw[be (by have:=rG.2 h;omega),be fun g=>h (jJ.1 (aM.1 g))]
theorem Eo{A:AK}{u:aN}{i:Nat}(h:zs A.items u=i)(hi:i<A.items.length):A.item u=A:=am (by omega)
theorem Ep{A:AK}{u:aN}(h:zs A.items u=A.items.length):A.item u=⟨A.items++ [u],A.root++ [(A.root.length:Int)],A.l⟩:=be (by omega)
theorem d131(r:ah)(A:AK)(k:Ask)(hb:A.l.length+1<=1000000000):bV prog 255 [.ptr 0 0,pI k.place,pI k.item,pI k.type,pI k.qw] (A.O (outer r)) (.bQ []) ((A.ask k).H (outer r)) 7:=by
 refine aB ab func255 Z (by decide) ntmps255 Z (by simp) ?_;refine zJ Z Z (fun g1=>?_) fun g1=>?_
 .have g1: ¬k.type=1:=zF g1;refine zJ Z Z (fun g2=>?_) fun g2=>?_
  .have g2:k.type=2:=zT g2;rw[show A.ask k=⟨A.items,A.root,A.l++ [k]⟩ from am (.inr g2)];refine gA Z uP
  .have g2: ¬k.type=2:=zF g2;rw[show A.ask k=A from be (by rintro(h|h);exact g1 h;exact g2 h)];refine gA Z uP
 .have g1:k.type=1:=zT g1;rw[show A.ask k=⟨A.items,A.root,A.l++ [k]⟩ from am (.inl g1)];refine gA Z uP
theorem ru{l:List aN}{u:aN}{i:Nat}(b: ∀j,j<i-> ¬l.getD j em=u)(h: ¬l.getD i em=u): ∀j,j<i+1-> ¬l.getD j em=u:=fun j d=>by
 rcases ZH.1 d with q|q
 .exact b j q
 .subst q;exact h
theorem AK.Cf{A:AK}{u:aN}{i:Nat}(h:zs A.items u=i):A.ix u=(i:Int):=by unfold AK.ix;rw[h]
abbrev AK.at4(A:AK)(o:List aj):AH:=[(0,io (AK.cell o 4 5 6 A.items.length A.root.length A.l.length)),(4,io (aG 2 A.items aN.c)),(5,io (aG 1 A.root ba)),(6,io (aG 4 A.l Ask.c))]
theorem d46(r:ah)(A:AK)(s:aj)(w:Int)(hf:A.fit 1):bV prog 254 [.ptr 0 0,pS s,pI w] (A.O (outer r)) (pI (A.ix (bf r s w))) ((A.item (bf r s w)).H (outer r)) 7:=by
 obtain⟨⟨y,B⟩,D,F⟩:=hf;have hu:=Kq r s w;refine aB ab func254 Z (by decide) ntmps254 Z (by simp) ?_;refine gA Z (zp (JE (outer r) s) ?_);refine zJ Z Z (fun g=>?_) fun g=>?_
 .have g:aE (outer r) s=kw:=g;rw[am g]at hu;rw[hu];refine gA Z ?_;refine az 0 A.items.length (Y8 _) (fun i=>⟨[(0,.ptr 0 0),(1,pS s),(2,pI (-1)),(8,pI i)],A.at4 (outer r),7⟩) (fun i=> ∀j,j<i-> ¬A.items.getD j em=(s,(-1))) _ (fun j x=>absurd x (Z6 j))
   (Nw (A:=A) Z Z Z Z Z Z Z Z Z Z Z Z Z Z Z (bv (bv (bv (bv trivial))))) fun i G d=>?_
  refine zJ Z Z (fun b=>?_) fun b=>?_
  .have b:i<A.items.length:=zN b;refine gM 12 Z (bp ab Z Z Z Z Z (gB b) Z Z ?_);refine zJ Z Z (fun g1=>?_) fun g1=>?_
   .have g1:(A.items.getD i em).1=s:=zT g1;refine gM 14 Z (bp ab Z Z Z Z Z (gB b) Z Z ?_);refine zJ Z Z (fun g2=>?_) fun g2=>?_
    .have g2:(A.items.getD i em).2=(-1):=zT g2;have e:=Ch b (Prod.ext g1 g2) d;rw[Eo e b,AK.Cf e];refine gA Z uP
    .have g2: ¬(A.items.getD i em).2=(-1):=zF g2;refine gA Z ⟨b,ru d (fun e=>g2 (by rw[e])),_,Nw (rfl) Z Z Z Z (by first|rfl|(rw[Y1];rfl)|simp) (by first|rfl|(rw[Y1];rfl)|simp) (by first|rfl|(rw[Y1];rfl)|simp) (by first|rfl|(rw[Y6];rfl)|(simp only[Y6,Zc];rfl)) (by first|rfl|(rw[Y6];rfl)|(simp only[Y6,Zc];rfl)) (by first|rfl|(rw[Y6];rfl)|(simp only[Y6,Zc];rfl)) Z Z Z Z (bv (bv (bv (bv ac))))⟩
   .have g1: ¬(A.items.getD i em).1=s:=zF g1;refine gA Z ⟨b,ru d (fun e=>g1 (by rw[e])),_,Nw (rfl) Z Z Z Z (by first|rfl|(rw[Y1];rfl)|simp) (by first|rfl|(rw[Y1];rfl)|simp) (by first|rfl|(rw[Y1];rfl)|simp) (by first|rfl|(rw[Y6];rfl)|(simp only[Y6,Zc];rfl)) (by first|rfl|(rw[Y6];rfl)|(simp only[Y6,Zc];rfl)) (by first|rfl|(rw[Y6];rfl)|(simp only[Y6,Zc];rfl)) Z Z Z Z (bv (bv (bv (bv ac))))⟩
  .have b:A.items.length<=i:=zG b;have e:zs A.items (s,(-1))=A.items.length:=yh fun j x=>d j (by omega);have u:((A.items.length:Int)+1-1)=A.ix (s,(-1)):=by rw[AK.Cf e];omega
   rw[Ep e,<-u];refine gA Z uP
 .have g:aE (outer r) s=lc:=by simpa using g
  rw[be (by rw[g];decide)]at hu;rw[hu];refine gA Z ?_;refine az 0 A.items.length (Y8 _) (fun i=>⟨[(0,.ptr 0 0),(1,pS s),(2,pI w),(8,pI i)],A.at4 (outer r),7⟩) (fun i=> ∀j,j<i-> ¬A.items.getD j em=(s,w)) _ (fun j x=>absurd x (Z6 j))
   (Nw (A:=A) Z Z Z Z Z Z Z Z Z Z Z Z Z Z Z (bv (bv (bv (bv trivial))))) fun i G d=>?_
  refine zJ Z Z (fun b=>?_) fun b=>?_
  .have b:i<A.items.length:=zN b;refine gM 12 Z (bp ab Z Z Z Z Z (gB b) Z Z ?_);refine zJ Z Z (fun g1=>?_) fun g1=>?_
   .have g1:(A.items.getD i em).1=s:=zT g1;refine gM 14 Z (bp ab Z Z Z Z Z (gB b) Z Z ?_);refine zJ Z Z (fun g2=>?_) fun g2=>?_
    .have g2:(A.items.getD i em).2=w:=zT g2;have e:=Ch b (Prod.ext g1 g2) d;rw[Eo e b,AK.Cf e];refine gA Z uP
    .have g2: ¬(A.items.getD i em).2=w:=zF g2;refine gA Z ⟨b,ru d (fun e=>g2 (by rw[e])),_,Nw (rfl) Z Z Z Z (by first|rfl|(rw[Y1];rfl)|simp) (by first|rfl|(rw[Y1];rfl)|simp) (by first|rfl|(rw[Y1];rfl)|simp) (by first|rfl|(rw[Y6];rfl)|(simp only[Y6,Zc];rfl)) (by first|rfl|(rw[Y6];rfl)|(simp only[Y6,Zc];rfl)) (by first|rfl|(rw[Y6];rfl)|(simp only[Y6,Zc];rfl)) Z Z Z Z (bv (bv (bv (bv ac))))⟩
   .have g1: ¬(A.items.getD i em).1=s:=zF g1;refine gA Z ⟨b,ru d (fun e=>g1 (by rw[e])),_,Nw (rfl) Z Z Z Z (by first|rfl|(rw[Y1];rfl)|simp) (by first|rfl|(rw[Y1];rfl)|simp) (by first|rfl|(rw[Y1];rfl)|simp) (by first|rfl|(rw[Y6];rfl)|(simp only[Y6,Zc];rfl)) (by first|rfl|(rw[Y6];rfl)|(simp only[Y6,Zc];rfl)) (by first|rfl|(rw[Y6];rfl)|(simp only[Y6,Zc];rfl)) Z Z Z Z (bv (bv (bv (bv ac))))⟩
  .have b:A.items.length<=i:=zG b;have e:zs A.items (s,w)=A.items.length:=yh fun j x=>d j (by omega);have u:((A.items.length:Int)+1-1)=A.ix (s,w):=by rw[AK.Cf e];omega
   rw[Ep e,<-u];refine gA Z uP
def lj(a b:Int)(l:List Int)(i:Nat):List Int:=((l.take i).map fun z=>if z=a then b else z)++l.drop i
theorem xr(a b:Int)(l:List Int)(i:Nat):(lj a b l i).length=l.length:=by
 unfold lj;rw[Y1,Zx,ZP,List.length_drop];omega
theorem Db{a b:Int}{l:List Int}{i:Nat}(h:i<l.length):(lj a b l i).getD i em=l.getD i em:=by
 unfold lj;have d:((l.take i).map fun z=>if z=a then b else z).length=i:=by rw[Zx,ZP];omega
 rw[YZ,Zn (by omega),d,ab0,aai,YZ];rfl
theorem z8{a b:Int}{l:List Int}{i:Nat}(h:i<l.length):lj a b l (i+1)=(lj a b l i).set i (if l.getD i em=a then b else l.getD i em):=by
 unfold lj;have d:((l.take i).map fun z=>if z=a then b else z).length=i:=by rw[Zx,ZP];omega
 rw[bz h,Y6,List.set_append_right _ _ (by omega),d,ab0,abF h,List.set_cons_zero,Zc,YZ,Y3 h];rfl
theorem Ip{a b:Int}{l:List Int}{i:Nat}(h:i<l.length)(hn: ¬l.getD i em=a):lj a b l (i+1)=lj a b l i:=by
 rw[z8 h,be hn,<-Db (a:=a) (b:=b) h];refine aaM fun j=>?_;rw[ZM];split
 .rename_i e;subst e;have d:i<(lj a b l i).length:=by rw[xr];exact h
  rw[am d,YZ,Y3 d];rfl
 .rfl
theorem Io(a b:Int)(l:List Int):lj a b l 0=l:=by simp[lj]
theorem J9{a b:Int}{l:List Int}{i:Nat}(h:l.length<=i):lj a b l i=l.map fun z=>if z=a then b else z:=by
 unfold lj;rw[Za h,List.drop_eq_nil_of_le h,ZE]
theorem Pc{l:List Int}{i:Nat}{v:Int}:(l.map fun x=>(ba x).map PV.iv).set (0+i) ([PV.iv (iI v)])=(l.set i v).map fun x=>(ba x).map PV.iv:=by
 rw[Zq,aaJ];rfl
theorem DA{l:List Int}{i:Int}(h:i.toNat<l.length):(l.map fun x=>(ba x).map PV.iv)[0+i.toNat]? =io ((ba (l.getD i.toNat em)).map .iv):=gB h
abbrev AK.YR(A:AK)(R:List Int)(o:List aj):AH:=[(0,io (AK.cell o 4 5 6 A.items.length R.length A.l.length)),(4,io (aG 2 A.items aN.c)),(5,io (aG 1 R ba)),(6,io (aG 4 A.l Ask.c))]
theorem d168(r:ah)(A:AK)(x y:Int)(a0:0<=x)(b0:0<=y)(hx:x<A.root.length)(hy:y<A.root.length)(hb:A.root.length<=1000000000):bV prog 271 [.ptr 0 0,pI x,pI y] (A.O (outer r)) (.bQ []) ((A.tie x y).H (outer r)) 7:=by
 have G:x.toNat<A.root.length:=by omega
 have I:y.toNat<A.root.length:=by omega
 refine aB ab func271 Z (by decide) ntmps271 Z (by simp) ?_;refine gM 8 Z (bp ab Z Z Z Z Z (DA G) Z Z ?_);refine gM 10 Z (bp ab Z Z Z Z Z (DA I) Z Z ?_);refine gA Z ?_;refine az 0 A.root.length (Y8 _) (fun i=>⟨[(0,.ptr 0 0),(6,pI (A.rt x)),(7,pI (A.rt y)),(8,pI i)],A.YR (lj (A.rt x) (A.rt y) A.root i) (outer r),7⟩) (fun _=>True) _ ac
  (Nw (A:=A) (A':=⟨A.items,lj (A.rt x) (A.rt y) A.root 0,A.l⟩) (by rw[Io]) Z Z Z Z Z Z Z Z Z Z Z Z Z Z (bv (bv (bv (bv trivial))))) fun i hi _=>?_
 have B:=xr (A.rt x) (A.rt y) A.root i;refine zJ Z Z (fun d=>?_) fun d=>?_
 .have d:i<A.root.length:=by
   have:=zT (show li ((i:Int)<((lj (A.rt x) (A.rt y) A.root i).length:Int))=kw from d);omega
  have J:=Db (a:=A.rt x) (b:=A.rt y) d;have D:i<(lj (A.rt x) (A.rt y) A.root i).length:=by omega
  have S:=z8 (a:=A.rt x) (b:=A.rt y) d;have Y:=Ip (a:=A.rt x) (b:=A.rt y) d;have u:=xr (A.rt x) (A.rt y) A.root (i+1);have j:=Pc (l:=lj (A.rt x) (A.rt y) A.root i) (i:=i) (v:=A.rt y);refine gM 11 Z (bp ab Z Z Z Z Z (gB D) Z Z ?_);refine zJ Z Z (fun g1=>?_) fun g1=>?_
  .have g1:A.root.getD i em=A.rt x:=by rw[<-J];exact zT g1
   rw[am g1]at S;rw[<-S]at j;refine gA Z (Ey ab Z Z Z Z Z (i:=5) (sz:=1) (q:=0+i) (off:=0) (es:=(lj (A.rt x) (A.rt y) A.root i).map fun x=>(ba x).map PV.iv) Z Z (gB D) Z Z Z Z Z ?_);refine gA Z ⟨d,ac,_,Nw (A:=⟨A.items,lj (A.rt x) (A.rt y) A.root (i+1),A.l⟩) Z Z Z Z Z Z (by rw[B,u]) Z Z j Z Z Z Z Z (bv (bv (bv (bv ac))))⟩
  .have g1: ¬A.root.getD i em=A.rt x:=by rw[<-J];exact zF g1
   have F:AK.mk A.items (lj (A.rt x) (A.rt y) A.root i) A.l=⟨A.items,lj (A.rt x) (A.rt y) A.root (i+1),A.l⟩:=congrArg (fun q=>AK.mk A.items q A.l) (Y g1).symm;refine gA Z ⟨d,ac,_,Nw (F) Z Z Z Z (by first|rfl|(rw[Y1];rfl)|simp) (by first|rfl|(rw[Y1];rfl)|simp) (by first|rfl|(rw[Y1];rfl)|simp) (by first|rfl|(rw[Y6];rfl)|(simp only[Y6,Zc];rfl)) (by first|rfl|(rw[Y6];rfl)|(simp only[Y6,Zc];rfl)) (by first|rfl|(rw[Y6];rfl)|(simp only[Y6,Zc];rfl)) Z Z Z Z (bv (bv (bv (bv ac))))⟩
 .have d:A.root.length<=i:=by
   have:=zF (show li ((i:Int)<((lj (A.rt x) (A.rt y) A.root i).length:Int))=lc from d);omega
  have e:A.tie x y=⟨A.items,lj (A.rt x) (A.rt y) A.root i,A.l⟩:=by
   unfold AK.tie;rw[J9 d]
  rw[e];refine gA Z uP
theorem W7(e:Expr):Pure prog 270 [ag e.c] (pI (cj e)):=by
 refine ae ab func270 Z (by decide) ntmps270 Z (by simp) Z ?_
 repeat' (first|(refine gA Z (zI (fun _=>?_) (fun _=>?_)))|(refine gA Z (zL (.of_eq ?_))))
 all_goals(refine congrArg pI ?_;simp_all [cj])
theorem HZ(r:ah)(A:AK)(b:Int)(s:aj)(w d:Int)(hf:A.fit 1):bV prog 255 [.ptr 0 0,pI b,pI (A.ix (bf r s w)),pI d,pI 0] ((A.item (bf r s w)).O (outer r)) (.bQ []) ((A.want b (bf r s w) d).H (outer r)) 7:=
 d131 r (A.item (bf r s w)) ⟨b,A.ix (bf r s w),d,0⟩ (by rw[LI];exact hf.2.2)
theorem MG(r:ah)(A:AK)(b d j:Int)(hf:A.fit 1):bV prog 255 [.ptr 0 0,pI b,pI (-1),pI d,pI j] (A.O (outer r)) (.bQ []) ((A.ask ⟨b, -1,d,j⟩).H (outer r)) 7:=
 d131 r A ⟨b, -1,d,j⟩ hf.2.2
def Rl(r:ah)(n:Nat):Prop:= ∀(A:AK) (e:Expr) (lit w:Int),e.size<=n->A.fit (Expr.aA e.args)->bV prog 257 [.ptr 0 0,ag e.c,pI lit,pI w] (A.O (outer r)) (.bQ []) ((lO r lit w e A).H (outer r)) 7
def Vg(r:ah)(n:Nat):Prop:= ∀(A:AK) (e:Expr) (lit w:Int),e.size<=n->A.fit e.size->bV prog 256 [.ptr 0 0,ag e.c,pI lit,pI w] (A.O (outer r)) (.bQ []) ((gJ r lit w e A).H (outer r)) 7
theorem d132(r:ah)(n:Nat)(y:Rl r n):Vg r n:=by
 intro A e lit w x B;have D:=e.size_eq;rw[wZ];have j:A.fit 1:=B.le (by omega);have b:(mF r lit w e A).fit (Expr.aA e.args):=B.step (HG r lit w e A) (by omega);refine aB ab func256 Z (by decide) ntmps256 Z (by simp) ?_;refine zJ Z Z (fun k1=>?_) fun k1=>?_
 .have k1:e.kind=1:=zT k1;have u:mF r lit w e A=A.want lit (bf r e.var w) 1:=am k1;rw[u]at b ⊢;refine gA Z (rQ (d46 r A e.var w j) ?_);refine gA Z (rQ (HZ r A lit e.var w 1 j) ?_);refine zJ Z Z (fun d=>?_) fun d=>?_
  .have d:e.kind=2:=zT d;omega
  refine gA Z (rQ (y _ e lit w x b) ?_);refine gA Z uP
 have k1: ¬e.kind=1:=zF k1;refine zJ Z Z (fun d=>?_) fun d=>?_
 .have d:e.kind=2:=zT d;have u:mF r lit w e A=A.ask ⟨lit, -1,1,e.val.kind⟩:=by unfold mF;rw[be k1,am d]
  rw[u]at b ⊢;refine gA Z (rQ (MG r A lit 1 e.val.kind j) ?_);refine gA Z (rQ (y _ e lit w x b) ?_);refine gA Z uP
 .have d: ¬e.kind=2:=zF d;have u:mF r lit w e A=A:=by unfold mF;rw[be k1,be d]
  rw[u]at b ⊢;refine gA Z (rQ (y A e lit w x b) ?_);refine gA Z uP
theorem Jo{r:ah}{lit w:Int}{l:List Expr}{i:Nat}{A:AK}(h:i<l.length):(l.take (i+1)).foldl (fun A x=>gJ r lit w x A) A=gJ r lit w (l.getD i em) ((l.take i).foldl (fun A x=>gJ r lit w x A) A):=by
 rw[bz h,aax];rfl
theorem vN: ∀(l:List Expr) (i:Nat),i<l.length->Expr.aA (l.take i)+(l.getD i em).size<=Expr.aA l
 | [],i,h=>by simp at h
 |s::r,0,_=>by simp[Expr.aA]
 |s::r,i+1,h=>by
  have:=vN r i (by simpa using h);simp only[aan,aap,Expr.aA];omega
theorem d133(r:ah)(n:Nat)(S:Vg r n):Rl r (n+1):=by
 intro A e lit w hs B;have J:=e.size_eq;refine bV.le (args:=[.ptr 0 0,ag e.c1,pI lit,pI w]) ?_ ⟨.refl _,e.zr,.refl _,.refl _,ac⟩;have F:=Expr.au e.args;have G:=B.2.1;refine aB ab func257 Z (by decide) ntmps257 Z (by simp) ?_;refine zJ Z Z (fun k=>?_) fun k=>?_
 .have k: ¬e.kind=4:=by simpa using k
  have u:lO r lit w e A=A:=be k;rw[u];refine gA Z uP
 have k:e.kind=4:=by simpa using k
 have u:lO r lit w e A=e.args.foldl (fun A x=>gJ r lit w x A) A:=am k;rw[u];refine gA Z ?_;have D: ∀i,i<=e.args.length->Gr (Expr.aA (e.args.take i)) A ((e.args.take i).foldl (fun A x=>gJ r lit w x A) A):=fun i _=>L5 r lit w e.args i A
 refine az 0 e.args.length (Y8 _) (fun i=>⟨[(0,.ptr 0 0),(2,pI lit),(3,pI w),(5,.ptr 4 0),(8,pI i)],AK.st ((e.args.take i).foldl (fun A x=>gJ r lit w x A) A) (outer r) 0 5 [(4,io (an e.c1))],8⟩) (fun _=>True) _ ac
  (Tb (A:=A) Z Z Z Z Z Z Z Z Z Z Z Z Z Z Z (bv (bv (bv (bv (bv trivial))))) (zK trivial) Z) fun i I _=>?_
 refine zJ Z Z (fun d=>?_) fun d=>?_
 .have d:i<e.args.length:=zN d;have y:=Jo (r:=r) (lit:=lit) (w:=w) (A:=A) d;have hn:=vN e.args i d;have Y:=Expr.aI e.args i d;have j:=B.step (b:=(e.args.getD i em).size) (D i I) (by omega);refine gA Z (rQ (S _ (e.args.getD i em) lit w (by omega) j) ?_);refine gA Z ⟨d,ac,_,Bx (y.symm) (zK ac)⟩
 .have d:e.args.length<=i:=zG d;rw[Za d];refine gA Z uP
theorem vj(r:ah): ∀n,Vg r n∧Rl r n
 |0=>by
  have b:Rl r 0:=fun A e lit w j=>by have:=e.size_pos;omega
  exact⟨d132 r 0 b,b⟩
 |n+1=>by
  have d:=d133 r n (vj r n).1;exact⟨d132 r (n+1) d,d⟩
theorem ET(r:ah)(A:AK)(e:Expr)(lit w:Int)(hf:A.fit e.size):bV prog 256 [.ptr 0 0,ag e.c,pI lit,pI w] (A.O (outer r)) (.bQ []) ((gJ r lit w e A).H (outer r)) 7:=(vj r e.size).1 A e lit w (Y7 _) hf
theorem ES(r:ah)(A:AK)(e:Expr)(lit w:Int)(hf:A.fit e.size):bV prog 257 [.ptr 0 0,ag e.c,pI lit,pI w] (A.O (outer r)) (.bQ []) ((lO r lit w e A).H (outer r)) 7:=(vj r e.size).2 A e lit w (Y7 _) (hf.le (by have:=e.size_eq;omega))
theorem LH(A:AK)(u:aN):0<=A.ix u:=by unfold AK.ix;omega
theorem d134(r:ah)(A:AK)(x y:Expr)(lit w:Int)(hf:A.fit 2):bV prog 258 [.ptr 0 0,ag x.c,ag y.c,pI lit,pI w] (A.O (outer r)) (.bQ []) ((lA r lit w x y A).H (outer r)) 7:=by
 have b:A.fit 1:=hf.le (by omega);have D:lA r lit w x y A=if cj x=0 then(if cj y=0 then((A.item (bf r x.var w)).item (bf r y.var w)).tie (A.ix (bf r x.var w)) ((A.item (bf r x.var w)).ix (bf r y.var w)) else A.want lit (bf r x.var w) (cj y))
  else if cj y=0 then A.want lit (bf r y.var w) (cj x) else A.ask ⟨lit, -1,cj x,cj y⟩:=rfl
 rw[D];refine aB ab func258 Z (by decide) ntmps258 Z (by simp) ?_;refine gA Z (zp (W7 x) ?_);refine gA Z (zp (W7 y) ?_);refine zJ Z Z (fun g1=>?_) fun g1=>?_
 .have g1:cj x=0:=zT g1;rw[am g1];refine zJ Z Z (fun g2=>?_) fun g2=>?_
  .have g2:cj y=0:=zT g2;rw[am g2];have u:=uw A (bf r x.var w);have B:=uw (A.item (bf r x.var w)) (bf r y.var w);have j:(A.item (bf r x.var w)).fit 1:=hf.step u (by omega);have d:=B.ok (u.ok hf.1);have J:=Ci A (bf r x.var w);have S:=Ci (A.item (bf r x.var w)) (bf r y.var w);have G:=LH A (bf r x.var w);have I:=LH (A.item (bf r x.var w)) (bf r y.var w);have m2:=B.mn;have m3:=u.it;have m4:=B.it;have F:=hf.2.1;refine gA Z (rQ (d46 r A x.var w b) ?_);refine gA Z (rQ (d46 r _ y.var w j) ?_);refine gA Z (rQ (d168 r _ (A.ix (bf r x.var w)) ((A.item (bf r x.var w)).ix (bf r y.var w)) G I (by rw[d.1];omega) (by rw[d.1];omega) (by rw[d.1];omega)) ?_);refine gA Z uP
  .have g2: ¬cj y=0:=zF g2;rw[be g2];refine zJ Z Z (fun g3=>?_) fun g3=>?_
   .refine gA Z (rQ (d46 r A x.var w b) ?_);refine gA Z (rQ (HZ r A lit x.var w (cj y) b) ?_);refine gA Z uP
   .exact absurd g1 (zF g3)
 .have g1: ¬cj x=0:=zF g1;rw[be g1];refine zJ Z Z (fun g3=>?_) fun g3=>?_
  .exact absurd (zT g3) g1
  refine zJ Z Z (fun g2=>?_) fun g2=>?_
  .have g2:cj y=0:=zT g2;rw[am g2];refine gA Z (rQ (d46 r A y.var w b) ?_);refine gA Z (rQ (HZ r A lit y.var w (cj x) b) ?_);refine gA Z uP
  .have g2: ¬cj y=0:=zF g2;rw[be g2];refine gA Z (rQ (MG r A lit (cj x) (cj y) b) ?_);refine gA Z uP
theorem yU{p:Prog}{r:ah}{a:Atom}{lit w:Int}{A:AK}{i:Nat}(h:(iw p a.rel).types.length<=i): ∀k,fK p r a lit w A (i+k)=fK p r a lit w A i
 |0=>rfl
 |k+1=>by
  rw[<-aaB,fK,yU h k];unfold j8;rw[be (by omega)]
set_option maxHeartbeats 1000000 in
theorem d85(p:Prog)(r:ah)(A:AK)(a:Atom)(lit w:Int)(hp:p.aD.length<=1000000000)(hf:A.fit a.ad.length):bV prog 239 [.ptr 0 0,ag p.c,ag a.c,pI lit,pI w] (A.O (outer r)) (.bQ []) ((fK p r a lit w A a.ad.length).H (outer r)) 7:=by
 have D:=hf.2.1;refine aB ab func239 Z (by decide) ntmps239 Z (by simp) ?_;refine gA Z (zp (X4 p a.rel (by omega)) ?_);refine gA Z ?_;refine az 0 a.ad.length (Y8 _) (fun i=>⟨[(0,.ptr 0 0),(3,pI lit),(4,pI w),(7,.ptr 5 0),(10,.ptr 6 0),(12,pI i)],AK.st (fK p r a lit w A i) (outer r) 0 7 [(5,io (an a.c)),(6,io (an (iw p a.rel).c))],10⟩) (fun _=>True) _ ac
  (Tb (A:=A) Z Z Z Z Z Z Z Z Z Z Z Z Z Z Z (bv (bv (bv (bv (bv (bv trivial)))))) (zK (zK trivial)) Z) fun i F _=>?_
 refine zE Z Z (fun d=>?_) fun d=>?_
 .have d:a.ad.length<=i:=zG d;have:i=a.ad.length:=by omega
  subst this;refine gA Z uP
 have d:i<a.ad.length:=zN d;refine zE Z Z (fun u=>?_) fun u=>?_
 .have u:(iw p a.rel).types.length<=i:=zG u;have e:fK p r a lit w A a.ad.length=fK p r a lit w A i:=by
   have:=yU (r:=r) (lit:=lit) (w:=w) (A:=A) u (a.ad.length-i);rwa[show i+(a.ad.length-i)=a.ad.length by omega]at this
  rw[e];refine gA Z uP
 have u:i<(iw p a.rel).types.length:=zN u;have j:fK p r a lit w A (i+1)=j8 p r a lit w i (fK p r a lit w A i):=rfl
 have y:j8 p r a lit w i (fK p r a lit w A i)=(if(a.ad.getD i em).kind=1 then(fK p r a lit w A i).want lit (bf r (a.ad.getD i em).var w) (typeAt p a i)
  else if(a.ad.getD i em).kind=2 then(fK p r a lit w A i).ask ⟨lit, -1,typeAt p a i,(a.ad.getD i em).val.kind⟩ else fK p r a lit w A i):=am u
 rw[y]at j;have x:(fK p r a lit w A i).fit 1:=hf.step (w8 p r a lit w A i) (by omega);generalize fK p r a lit w A i=B at*
 refine zJ Z Z (fun k1=>?_) fun k1=>?_
 .have k1:(a.ad.getD i em).kind=1:=zT k1;rw[am k1]at j;refine gA Z (rQ (d46 r B (a.ad.getD i em).var w x) ?_);refine gA Z (rQ (HZ r B lit (a.ad.getD i em).var w (typeAt p a i) x) ?_);refine zJ Z Z (fun b=>?_) fun b=>?_
  .have b:(a.ad.getD i em).kind=2:=zT b;omega
  refine gA Z ⟨d,ac,_,Bx (j.symm) (zK (zK ac))⟩
 have k1: ¬(a.ad.getD i em).kind=1:=zF k1;rw[be k1]at j;refine zJ Z Z (fun b=>?_) fun b=>?_
 .have b:(a.ad.getD i em).kind=2:=zT b;rw[am b]at j;refine gA Z (Jm (MG r B lit (typeAt p a i) (a.ad.getD i em).val.kind x) ?_);refine gA Z ⟨d,ac,_,Bx (j.symm) (zK (zK ac))⟩
 .have b: ¬(a.ad.getD i em).kind=2:=zF b;rw[be b]at j;refine gA Z ⟨d,ac,_,Bx (j.symm) (zK (zK ac))⟩
theorem d87(p:Prog)(r:ah)(A:AK)(l:Lit)(lit w:Int)(hp:p.aD.length<=1000000000)(hf:A.fit l.size):bV prog 241 [.ptr 0 0,ag p.c,ag l.c,pI lit,pI w] (A.O (outer r)) (.bQ []) ((lE p r lit w l A).H (outer r)) 7:=by
 have u:=l.size_eq;have x:=l.left.size_eq;have y:=l.right.size_eq;refine aB ab func241 Z (by decide) ntmps241 Z (by simp) ?_;refine zJ Z Z (fun k1=>?_) fun k1=>?_
 .have k1:l.kind=1:=zT k1;have j:lE p r lit w l A=fK p r l.atom lit w A l.atom.ad.length:=am (.inl k1);rw[j];refine gA Z (rQ (d85 p r A l.atom lit w hp (hf.le (by omega))) ?_);refine gA Z uP
 have k1: ¬l.kind=1:=zF k1;refine zJ Z Z (fun b=>?_) fun b=>?_
 .have b:l.kind=2:=zT b;have j:lE p r lit w l A=fK p r l.atom lit w A l.atom.ad.length:=am (.inr b);rw[j];refine gA Z (rQ (d85 p r A l.atom lit w hp (hf.le (by omega))) ?_);refine gA Z uP
 have b: ¬l.kind=2:=zF b;have j:lE p r lit w l A=if l.kind=3 then(if l.op=1∨l.op=2 then lA r lit w l.left l.right (lO r lit w l.right (lO r lit w l.left A)) else gJ r lit w l.right (gJ r lit w l.left A)) else A:=be (by rintro(h|h);exact k1 h;exact b h);rw[j];refine zE Z Z (fun d=>?_) fun d=>?_
 .have d: ¬l.kind=3:=zF d;rw[be d];refine gA Z uP
 have d:l.kind=3:=zT d;rw[am d];have f0:A.fit l.left.size:=hf.le (by omega);have f1:(lO r lit w l.left A).fit l.right.size:=hf.step (tq r lit w l.left A) (by omega);have f2:(lO r lit w l.right (lO r lit w l.left A)).fit 2:=hf.step ((tq r lit w l.left A).trans (tq r lit w l.right _)) (by omega);have f3:(gJ r lit w l.left A).fit l.right.size:=hf.step (nU r lit w _ l.left A (Y7 _)) (by omega);refine zJ Z Z (fun g1=>?_) fun g1=>?_
 .have g1: ¬l.op=1:=zF g1;refine zJ Z Z (fun g2=>?_) fun g2=>?_
  .have g2:l.op=2:=zT g2;rw[am (.inr g2)];refine gA Z (rQ (ES r A l.left lit w f0) ?_);refine gA Z (rQ (ES r _ l.right lit w f1) ?_);refine gA Z (rQ (d134 r _ l.left l.right lit w f2) ?_);refine gA Z uP
  .have g2: ¬l.op=2:=zF g2;rw[be (by rintro(h|h);exact g1 h;exact g2 h)];refine gA Z (rQ (ET r A l.left lit w f0) ?_);refine gA Z (rQ (ET r _ l.right lit w f3) ?_);refine gA Z uP
 .have g1:l.op=1:=zT g1;rw[am (.inl g1)];refine gA Z (rQ (ES r A l.left lit w f0) ?_);refine gA Z (rQ (ES r _ l.right lit w f1) ?_);refine gA Z (rQ (d134 r _ l.left l.right lit w f2) ?_);refine gA Z uP
theorem d86(p:Prog)(r:ah)(A:AK)(g:eK)(i:Int)(hp:p.aD.length<=1000000000)(hf:A.fit (g.dY.size+2+Lit.aA g.body)):bV prog 240 [.ptr 0 0,ag p.c,ag g.c,pI i] (A.O (outer r)) (.bQ []) ((Fp p r i (uU r i g.func g.var g.dY A) g.body g.body.length).H (outer r)) 7:=by
 have I:=Lit.au g.body;have J:=hf.2.1;have S:=g.dY.size_eq;have G:=LY r i g.func g.var g.dY A;have y:(uU r i g.func g.var g.dY A).fit (Lit.aA g.body):=hf.step G (by omega);have hV:uU r i g.func g.var g.dY A=if g.func=1 then gJ r i i (jl g.var) A else if g.func=2 then gJ r i i g.dY (gJ r i i (jl g.var) A) else lA r i i (jl g.var) g.dY (lO r i i g.dY A):=rfl;refine bV.le (args:=[.ptr 0 0,ag p.c,ag g.c1,pI i]) ?_ ⟨.refl _,.refl _,g.zr,.refl _,ac⟩;generalize uU r i g.func g.var g.dY A=V at*
 have Y:=jC g.var;refine aB ab func240 Z (by decide) ntmps240 Z (by simp) ?_;refine zJ Z Z (fun f1=>?_) fun f1=>?_
 .have f1:g.func=1:=zT f1;rw[am f1]at hV;refine gA Z (rQ (bV.le (aa:=[.ptr 0 0,Fs g.var,pI i,pI i]) (ET r A (jl g.var) i i (hf.le (by omega))) ⟨.refl _,rb _,.refl _,.refl _,ac⟩) ?_);refine gA Z ?_;refine az 0 g.body.length (Y8 _) (fun k=>⟨[(0,.ptr 0 0),(3,pI i),(5,.ptr 4 0),(6,.ptr 5 0),(9,pI k)],AK.st (Fp p r i V g.body k) (outer r) 0 10 [(4,io (an p.c)),(5,io (an g.c1))],13⟩) (fun _=>True) _ ac
   (Tb (A':=V) hV.symm Z Z Z Z Z Z Z Z Z Z Z Z Z Z (bv (bv (bv (bv (bv trivial))))) (zK (zK trivial)) Z) fun k B _=>?_
  refine zJ Z Z (fun d=>?_) fun d=>?_
  .have d:k<g.body.length:=zN d;have F:=eN g.body k d;have D:Fp p r i V g.body (k+1)=lE p r i i (g.body.getD k em) (Fp p r i V g.body k):=rfl;have j:=y.step (b:=(g.body.getD k em).size) (Ev p r i V g.body k B) (by omega);refine gA Z (Jm (d87 p r _ (g.body.getD k em) i i hp j) ?_);refine gA Z ⟨d,ac,_,Bx (D.symm) (zK (zK ac))⟩
  .have d:g.body.length<=k:=zG d;have u:k=g.body.length:=by omega
   subst u;refine gA Z uP
 have f1: ¬g.func=1:=zF f1;rw[be f1]at hV;refine zJ Z Z (fun f2=>?_) fun f2=>?_
 .have f2:g.func=2:=zT f2;rw[am f2]at hV;have x:(gJ r i i (jl g.var) A).fit g.dY.size:=hf.step (nU r i i _ (jl g.var) A (Y7 _)) (by omega);refine gA Z (rQ (bV.le (aa:=[.ptr 0 0,Fs g.var,pI i,pI i]) (ET r A (jl g.var) i i (hf.le (by omega))) ⟨.refl _,rb _,.refl _,.refl _,ac⟩) ?_);refine gA Z (rQ (ET r _ g.dY i i x) ?_);refine gA Z ?_;refine az 0 g.body.length (Y8 _) (fun k=>⟨[(0,.ptr 0 0),(3,pI i),(5,.ptr 4 0),(6,.ptr 5 0),(9,pI k)],AK.st (Fp p r i V g.body k) (outer r) 0 13 [(4,io (an p.c)),(5,io (an g.c1))],16⟩) (fun _=>True) _ ac
   (Tb (A':=V) hV.symm Z Z Z Z Z Z Z Z Z Z Z Z Z Z (bv (bv (bv (bv (bv trivial))))) (zK (zK trivial)) Z) fun k B _=>?_
  refine zJ Z Z (fun d=>?_) fun d=>?_
  .have d:k<g.body.length:=zN d;have F:=eN g.body k d;have D:Fp p r i V g.body (k+1)=lE p r i i (g.body.getD k em) (Fp p r i V g.body k):=rfl;have j:=y.step (b:=(g.body.getD k em).size) (Ev p r i V g.body k B) (by omega);refine gA Z (Jm (d87 p r _ (g.body.getD k em) i i hp j) ?_);refine gA Z ⟨d,ac,_,Bx (D.symm) (zK (zK ac))⟩
  .have d:g.body.length<=k:=zG d;have u:k=g.body.length:=by omega
   subst u;refine gA Z uP
 .have f2: ¬g.func=2:=zF f2;rw[be f2]at hV;have x:(lO r i i g.dY A).fit 2:=hf.step (tq r i i g.dY A) (by omega);refine gA Z (rQ (ES r A g.dY i i (hf.le (by omega))) ?_);refine gA Z (rQ (bV.le (aa:=[.ptr 0 0,Fs g.var,ag g.dY.c,pI i,pI i]) (d134 r _ (jl g.var) g.dY i i x) ⟨.refl _,rb _,.refl _,.refl _,.refl _,ac⟩) ?_);refine gA Z ?_;refine az 0 g.body.length (Y8 _) (fun k=>⟨[(0,.ptr 0 0),(3,pI i),(5,.ptr 4 0),(6,.ptr 5 0),(9,pI k)],AK.st (Fp p r i V g.body k) (outer r) 0 13 [(4,io (an p.c)),(5,io (an g.c1))],16⟩) (fun _=>True) _ ac
   (Tb (A':=V) hV.symm Z Z Z Z Z Z Z Z Z Z Z Z Z Z (bv (bv (bv (bv (bv trivial))))) (zK (zK trivial)) Z) fun k B _=>?_
  refine zJ Z Z (fun d=>?_) fun d=>?_
  .have d:k<g.body.length:=zN d;have F:=eN g.body k d;have D:Fp p r i V g.body (k+1)=lE p r i i (g.body.getD k em) (Fp p r i V g.body k):=rfl;have j:=y.step (b:=(g.body.getD k em).size) (Ev p r i V g.body k B) (by omega);refine gA Z (Jm (d87 p r _ (g.body.getD k em) i i hp j) ?_);refine gA Z ⟨d,ac,_,Bx (D.symm) (zK (zK ac))⟩
  .have d:g.body.length<=k:=zG d;have u:k=g.body.length:=by omega
   subst u;refine gA Z uP
set_option maxHeartbeats 2000000 in
theorem d45(p:Prog)(r:ah)(hp:p.aD.length<=1000000000)(hs:r.size<=1000000000):bV prog 210 [ag p.c,ag r.c] [] (.ptr 0 0) ((nF p r).K (outer r)) 4:=by
 have J:r.size=r.head.ad.length+Lit.aA r.body:=rfl;have y:AK.o.fit r.size:=⟨Wm,by show 0+_<=_;omega,by show 0+_<=_;omega⟩
 have D:=Lit.au r.body;refine aB ab func210 Z (by decide) ntmps210 Z (by simp) ?_;refine gA Z (zp (S7 r (by omega)) ?_);refine gM 4 Z (oy 2 0 2 Z Z (oy 2 1 1 Z Z (oy 2 2 4 Z Z ?_)));refine gA Z (rQ (d85 p r AK.o r.head (-1) (-1) hp (y.le (by omega))) ?_);refine gA Z ?_;refine az 0 r.body.length (Y8 _) (fun i=>⟨[(2,.ptr 0 0),(3,.ptr 1 0),(5,.ptr 2 0),(6,pI i)],AK.st (lG p r i) (outer r) 2 9 [(0,io (an p.c)),(1,io (an r.c))],12⟩) (fun _=>True) _ ac
  (Tb (A':=lG p r 0) Z Z Z Z Z Z Z Z Z Z Z Z Z Z Z (bv (bv (bv (bv trivial)))) (zK (zK trivial)) Z) fun i F _=>?_
 refine zE Z Z (fun d=>?_) fun d=>?_
 .have d:r.body.length<=i:=zG d;have A:i=r.body.length:=by omega
  subst A;refine gA Z (zD [2,9,10,11] Z (zW (zO (zS (zS (zS ac))))))
 have d:i<r.body.length:=zN d;have I:=eN r.body i d;have G:=(r.body.getD i em).size_eq;have x:=y.step (b:=(r.body.getD i em).size) (Cq p r i F) (by omega);have hs:lG p r (i+1)=rW p r i (r.body.getD i em) (lG p r i):=rfl;generalize lG p r i=B at*
 refine zJ Z Z (fun u=>?_) fun u=>?_
 .have u:(r.body.getD i em).kind=4:=zT u;have j:rW p r i (r.body.getD i em) B=Fp p r i (uU r i (r.body.getD i em).agg.func (r.body.getD i em).agg.var (r.body.getD i em).agg.dY B) (r.body.getD i em).agg.body (r.body.getD i em).agg.body.length:=am u;rw[j]at hs;refine gA Z (Jm (d86 p r B (r.body.getD i em).agg i hp (x.le (by show(r.body.getD i em).jR.size+2+Lit.aA (r.body.getD i em).ar<=_;omega))) ?_);refine gA Z ⟨d,ac,_,Bx (hs.symm) (zK (zK ac))⟩
 .have u: ¬(r.body.getD i em).kind=4:=zF u;have j:rW p r i (r.body.getD i em) B=lE p r i (-1) (r.body.getD i em) B:=be u;rw[j]at hs;refine gA Z (Jm (d87 p r B (r.body.getD i em) i (-1) hp x) ?_);refine gA Z ⟨d,ac,_,Bx (hs.symm) (zK (zK ac))⟩
abbrev AK.P(A:AK)(o:List aj):PV:= .iv (.mI [cZ 2 A.items aN.c,cZ 1 A.root ba,cZ 4 A.l Ask.c,strs o])
theorem EK{α:Type}[Inhabited α]{l:List α}{f:α->Bool}{i:Nat}(h:(l.take i).any f=lc)(hi:i<l.length)(hf:f (l.getD i em)=kw):l.find? f=io (l.getD i em):=by
 rw[YZ,Y3 hi]at hf ⊢;refine abm.2 ⟨hf,i,hi,rfl,fun j b=>?_⟩;have:=ZU.1 h (l[j]'(by omega)) (abE.2 ⟨j,by omega,rfl⟩);simpa using this
theorem c47(A:AK)(o:List aj)(i:Int)(h0:0<=i)(hi:i<A.root.length)(j: ∀k∈A.l,k.item<A.root.length)(hb:A.l.length<=1000000000):Pure prog 211 [A.P o,pI i] (pI (A.kind i)):=by
 refine ae ab func211 Z (by decide) ntmps211 Z (by simp) Z ?_;refine gA Z ?_;refine az 0 A.l.length (Y8 _) (fun n=>⟨[(0,A.P o),(1,pI i),(5,pI n)],[],0⟩) (fun n=>(A.l.take n).any (fun k=>li (k.item>=0)&&li (A.rt k.item=A.rt i))=lc) [] (by simp) (mZ Z Z (bv (bv (bv ac))) Z) fun n x d=>?_;refine zE Z Z (fun b=>?_) fun b=>?_
 .have b:A.l.length<=n:=zG b;have e:A.kind i=0:=by
   unfold AK.kind;rw[eJ (any_none d b)];rfl
  rw[e];exact zU Z
 have b:n<A.l.length:=zN b;have u:=j (A.l.getD n em) (by rw[YZ,Y3 b];exact ZJ b);refine zE Z Z (fun g1=>?_) fun g1=>?_
 .have g1: ¬(A.l.getD n em).item>=0:=zF g1
  repeat(refine gA Z (zI (fun q=>?_) (fun q=>?_));all_goals(try(simp at q;done)))
  refine gA Z ⟨b,(aW d b).2 (by rw[decide_eq_false g1];rfl),[],mZ Z Z (bv (bv (bv ac))) Z⟩
 have g1:(A.l.getD n em).item>=0:=zT g1;refine zJ Z Z (fun g2=>?_) fun g2=>?_
 .have g2:A.rt (A.l.getD n em).item=A.rt i:=zT g2;have e:A.kind i=(A.l.getD n em).type:=by
   unfold AK.kind;rw[EK d b (by rw[decide_eq_true g1,decide_eq_true g2];rfl)];rfl
  rw[e];exact zU Z
 .have g2: ¬A.rt (A.l.getD n em).item=A.rt i:=zF g2;refine gA Z ⟨b,(aW d b).2 (by rw[decide_eq_false g2,Z5]),[],mZ Z Z (bv (bv (bv ac))) Z⟩
theorem Rel.sub{M:Mem}{N:Nm}{U:Nat->Prop}{h d:AH}{w:World}(hr:Rel M N U h w)(hs: ∀j o,d.get j=io o->h.get j=io o):Rel M N U d w:=
 ⟨hr.fi,fun i o b=>hr.used i o (hs i o b),fun i o b=>hr.fh i o (hs i o b),fun i o b=>hr.obj i o (hs i o b),fun i j o p b u=>hr.inj i j o p (hs i o b) (hs j p u)⟩
theorem HQ(i sz:Nat)(el:Nat->List IV): ∀l:List IV,uA i sz el (l.map .iv)=l.map .iv
 | []=>rfl
 |x::l=>by rw[Zm,uA,HQ i sz el l];rfl
theorem sT{α:Type}(i sz:Nat)(el:Nat->List IV)(b:Nat)(l:List α)(f:α->List IV):(aG b l f).il i sz el=aG b l f:=by
 simp only[aG,AO.il,aaQ];congr 1;exact aao fun x _=>HQ i sz el _
theorem lY{α:Type}(i sz n b:Nat)(l:List α)(f:α->List IV):(aG b l f).vi i sz n:=by
 intro e d;obtain⟨x,_,rfl⟩:=ZD.1 d;exact AT _ _ _ _
theorem Gy{a b:Nat}(h: ¬a=b):Zt a b=lc:=aaK.2 fun e=>h (Zl e)
theorem xg(a:Nat):Zt a a=kw:=Nat.beq_refl a
theorem fzK{M:Mem}{N:Nm}{n:Nat}{h:AH}{w:World}(A:AK)(o:List aj)(rest:List PV){i a b c:Nat}(hb:wu rest=kw)
  (hi:h.get i=io (AK.cell o a b c A.items.length A.root.length A.l.length)) (h1:h.get a=io (aG 2 A.items aN.c)) (h2:h.get b=io (aG 1 A.root ba)) (h3:h.get c=io (aG 4 A.l Ask.c)) (hn:b4 [i,a,b,c]=kw) (hr:Rel M N (· <n) h w):
  ∃u:Mem,M.le u∧Rel u N (· <n) [] w∧ ∀(j:Nat) (p:PV) (x:Value),(A.P o::rest)[j]? =io p->(∀q,(PV.ptr i 0::rest)[j]? =io q->VR M N (· <n) q x)->VR u N (· <n) p x:=by
 have B:=dA hn;simp only[aam,Zj,aby,or_false,not_or]at B;obtain⟨⟨e1,I,D⟩,⟨F,G⟩,y,_⟩:=B;have r0:Rel M N (· <n) [(i,io (AK.cell o a b c A.items.length A.root.length A.l.length)),(a,io (aG 2 A.items aN.c)),(b,io (aG 1 A.root ba)),(c,io (aG 4 A.l Ask.c))] w:=Rel.sub hr fun j x d=>by
  simp only[AH.aw]at d;split at d
  .rename_i e;subst e;rw[<-d];exact hi
  split at d
  .rename_i e;subst e;rw[<-d];exact h1
  split at d
  .rename_i e;subst e;rw[<-d];exact h2
  split at d
  .rename_i e;subst e;rw[<-d];exact h3
  .cases d
 obtain⟨u,l1,r1,v1⟩:=vd r0 a (fun k=>aN.c (A.items.getD k em)) (es:=A.items.map fun x=>(aN.c x).map .iv) (sz:=2) (by rw[AH.aw,be (Ne.symm e1),AH.aw,am Z];rfl) (fN Z)
  ⟨by simp[AO.vi,iU,PV.dc,Ne.symm F,Ne.symm G],lY _ _ _ _ _ _,lY _ _ _ _ _ _,lY _ _ _ _ _ _,ac⟩
 have S:Rel u N (· <n) [(i,io (.cells [.iv (cZ 2 A.items aN.c),.sl b 0 A.root.length 1,.sl c 0 A.l.length 4,.iv (strs o)])),(b,io (aG 1 A.root ba)),(c,io (aG 4 A.l Ask.c))] w:=Rel.sub r1 fun j x d=>by
  simp only[AH.aw]at d;rw[AH.aw,AH.kF];split at d
  .rename_i e;subst e;rw[be e1,AH.aw,am Z,<-d];simp only[ZZ,AO.il,uA,PV.fi,xg,Gy (Ne.symm F),Gy (Ne.symm G),cond_true,cond_false,Zq]
  split at d
  .rename_i e;subst e;rw[be (Ne.symm F),AH.aw,be (Ne.symm I),AH.aw,be (Ne.symm F),AH.aw,am Z,<-d,ZZ,sT]
  split at d
  .rename_i e;subst e;rw[be (Ne.symm G),AH.aw,be (Ne.symm D),AH.aw,be (Ne.symm G),AH.aw,be (Ne.symm y),AH.aw,am Z,<-d,ZZ,sT]
  .cases d
 obtain⟨M2,l2,r2,v2⟩:=vd S b (fun k=>ba (A.root.getD k em)) (es:=A.root.map fun x=>(ba x).map .iv) (sz:=1) (by rw[AH.aw,be (Ne.symm I),AH.aw,am Z];rfl) (fN Z)
  ⟨by simp[AO.vi,iU,PV.dc,Ne.symm y],lY _ _ _ _ _ _,lY _ _ _ _ _ _,ac⟩
 have Y:Rel M2 N (· <n) [(i,io (.cells [.iv (cZ 2 A.items aN.c),.iv (cZ 1 A.root ba),.sl c 0 A.l.length 4,.iv (strs o)])),(c,io (aG 4 A.l Ask.c))] w:=Rel.sub r2 fun j x d=>by
  simp only[AH.aw]at d;rw[AH.aw,AH.kF];split at d
  .rename_i e;subst e;rw[be I,AH.aw,am Z,<-d];simp only[ZZ,AO.il,uA,PV.fi,xg,Gy (Ne.symm y),cond_true,cond_false,Zq]
  split at d
  .rename_i e;subst e;rw[be (Ne.symm y),AH.aw,be (Ne.symm D),AH.aw,be (Ne.symm y),AH.aw,am Z,<-d,ZZ,sT]
  .cases d
 obtain⟨M3,l3,r3,v3⟩:=vd Y c (fun k=>Ask.c (A.l.getD k em)) (es:=A.l.map fun x=>(Ask.c x).map .iv) (sz:=4) (by rw[AH.aw,be (Ne.symm D),AH.aw,am Z];rfl) (fN Z)
  ⟨by simp[AO.vi,iU,PV.dc],lY _ _ _ _ _ _,ac⟩
 have a0:Rel M3 N (· <n) [(i,io (.cells [.iv (cZ 2 A.items aN.c),.iv (cZ 1 A.root ba),.iv (cZ 4 A.l Ask.c),.iv (strs o)]))] w:=Rel.sub r3 fun j x d=>by
  simp only[AH.aw]at d;rw[AH.aw,AH.kF];split at d
  .rename_i e;subst e;rw[be D,AH.aw,am Z,<-d];simp only[ZZ,AO.il,uA,PV.fi,xg,cond_true,Zq]
  .cases d
 obtain⟨M4,x4,r4,v4⟩:=A3 (l:=[cZ 2 A.items aN.c,cZ 1 A.root ba,cZ 4 A.l Ask.c,strs o]) a0 (i:=i) (cs:=[.iv (cZ 2 A.items aN.c),.iv (cZ 1 A.root ba),.iv (cZ 4 A.l Ask.c),.iv (strs o)]) (T0:=jp) (by rw[AH.aw,am Z]) Z;have J:=(l1.trans l2).trans (l3.trans x4.r6);refine⟨M4,J,Rel.sub r4 (fun j x d=>nomatch d),fun j p x d hq=>?_⟩;cases j with
 |zero=>
  cases d;have g1:=v1 _ _ (hq _ Z) ac;have g2:=v2 _ _ g1 ac;have g3:=v3 _ _ g2 ac;have g4:=v4 _ _ g3;simp only[PV.fi,PV.Jn,xg,cond_true,List.drop_zero]at g4;exact g4
 |succ j=>exact uK (hq p d) (ma hb j p d)
theorem U6(r:ah)(lit:Int)(h1:lit<r.body.length):Pure prog 208 [ag r.c,pI lit] (ag [iI (fq r lit).line,iI (fq r lit).zu]):=by
 refine ae ab func208 Z (by decide) ntmps208 Z (by simp) Z ?_;refine zJ Z Z (fun b=>?_) fun b=>?_
 .have b:lit<0:=by simpa using b
  refine gA Z (zL (.of_eq ?_));rw[fq,am b];rfl
 have b: ¬lit<0:=by simpa using b
 refine gA Z (zL (.of_eq ?_));rw[fq,be b];rfl
theorem S6(e:Int)(q:Pos):Pure prog 132 [pI e,ag [iI q.line,iI q.zu]] (ag (aY.c (e,q))):=by
 refine ae ab func132 Z (by decide) ntmps132 Z (by simp) Z ?_;exact zU Z
theorem u4{α:Type}(σ:Nat->Nat)(l:List α)(f:α->List IV):(l.map fun x=>(f x).map PV.iv).map (dL σ)=l.map fun x=>(f x).map PV.iv:=by
 rw[aaQ];exact aao fun x _=>rq σ _
set_option maxHeartbeats 1000000 in
theorem c68(p:Prog)(r:ah)(hp:p.aD.length<=1000000000)(hs:r.size<=1000000000):Pure prog 176 [ag p.c,ag r.c] (ag (jm r (nF p r)).c):=by
 have hz:r.size=r.head.ad.length+Lit.aA r.body:=rfl;have y:=Cq p r r.body.length (Y7 _);have S:(nF p r).ok:=y.ok Wm;have Y: ∀k∈(nF p r).l, -1<=k.place∧k.place<r.body.length:=(nE p r r.body.length).2;have I:(nF p r).l.length<=1000000000:=by
  have d:=y.ln;rw[aaI]at d;have:AK.o.l.length=0:=rfl;show(lG p r r.body.length).l.length<=_;omega
 refine ae ab func176 Z (by decide) ntmps176 Z (by simp) Z ?_;refine gA Z (zq [] (d45 p r hp hs) ?_);generalize nF p r=A at*
 obtain⟨B,D⟩:=S;refine gA Z ?_;refine az 0 A.l.length (Y8 _) (fun i=>⟨[(3,.ptr 1 0),(4,.ptr 2 0),(5,.ptr 3 0),(6,pI i)],[(1,io (an r.c)),(2,io (an aY.z.c)),(3,io (AK.cell (outer r) 4 5 6 A.items.length A.root.length A.l.length)),(4,io (aG 2 A.items aN.c)),(5,io (aG 1 A.root ba)),(6,io (aG 4 A.l Ask.c))],7⟩) (fun i=>(A.l.take i).any A.bad=lc) [] (by simp)
  (zW (zK (zK (zO (hR Z (u4 _ _ _) Z (hR Z (u4 _ _ _) Z (hR Z (u4 _ _ _) Z trivial))))))) fun i hi G=>?_
 refine zE Z Z (fun d=>?_) fun d=>?_
 .have d:A.l.length<=i:=zG d;have e:jm r A=aY.z:=by
   unfold jm;rw[eJ (any_none G d)]
  rw[e];exact zU Z
 have d:i<A.l.length:=zN d;have hm:A.l.getD i em∈A.l:=by rw[YZ,Y3 d];exact ZJ d
 have J:=D _ hm;obtain⟨a0,F⟩:=Y _ hm;have b:A.bad (A.l.getD i em)=!li ((if(A.l.getD i em).item>=0 then A.kind (A.l.getD i em).item else(A.l.getD i em).qw)=(A.l.getD i em).type):=rfl;have x:A.bad (A.l.getD i em)=kw->jm r A=(63,fq r (A.l.getD i em).place):=fun h=>by
  unfold jm;rw[EK G d h]
 have u:A.bad (A.l.getD i em)=lc->(A.l.take (i+1)).any A.bad=lc:=fun h=>(aW G d).2 h;refine gM 11 Z (bp ab Z Z Z Z Z (gB d) Z Z ?_);refine zJ Z Z (fun g1=>?_) fun g1=>?_
 .have g1:(A.l.getD i em).item>=0:=zT g1;rw[am g1]at b;refine gA Z (Mh (asv:=[.ptr 3 0,pI (A.l.getD i em).item]) (Pure.det (c47 A (outer r) (A.l.getD i em).item g1 (by rw[B];exact J) (fun k hk=>by rw[B];exact D k hk) I)) Z Z Z Z Z (fun M N w hr=>fzK A (outer r) [pI (A.l.getD i em).item] Z Z Z Z Z Z hr) Z (fun j o hj=>nomatch hj) Z ?_);refine zJ Z Z (fun g2=>?_) fun g2=>?_
  .have g2:A.bad (A.l.getD i em)=kw:=by
    rw[b];exact g2
   rw[x g2];refine gA Z (zp (U6 r (A.l.getD i em).place F) ?_);refine gA Z (zp (S6 63 (fq r (A.l.getD i em).place)) ?_);exact zU Z
  .have g2:A.bad (A.l.getD i em)=lc:=by
    rw[b];exact g2
   refine gA Z ⟨d,u g2,[],zW (zK (zK (zO (zS (zS (zS ac))))))⟩
 .have g1: ¬(A.l.getD i em).item>=0:=zF g1;rw[be g1]at b;refine zJ Z Z (fun g2=>?_) fun g2=>?_
  .have g2:A.bad (A.l.getD i em)=kw:=by
    rw[b];exact g2
   rw[x g2];refine gA Z (zp (U6 r (A.l.getD i em).place F) ?_);refine gA Z (zp (S6 63 (fq r (A.l.getD i em).place)) ?_);exact zU Z
  .have g2:A.bad (A.l.getD i em)=lc:=by
    rw[b];exact g2
   refine gA Z ⟨d,u g2,[],zW (zK (zK (zO (zS (zS (zS ac))))))⟩
theorem Xa(t:nZ):Pure prog 266 [ag t.c] (.bQ [pS (if t.2=kw then⟨#[]⟩ else t.1),pI (if t.2=kw then 50 else 0)]):=by
 refine ae ab func266 Z (by decide) ntmps266 Z (by simp) Z ?_;refine zJ Z Z (fun g=>?_) fun g=>?_
 .have g:t.2=kw:=g;rw[am g,am g];exact zU Z
 .have g: ¬t.2=kw:=by
   have g:t.2=lc:=g;rw[g];decide
  rw[be g,be g];exact zU Z
set_option maxHeartbeats 4000000 in
theorem U5(a:Atom)(x:a.ts<=900000000)(hl:a.ad.length<=1000000000):Pure prog 267 [ag a.c] (ag (fg a).c):=by
 have j:a.ts=a.rel.size+10+(a.ad.map Term.ts).sum:=rfl;have y:(⟨#[40]⟩:ByteArray).size=1:=rfl;have A:(⟨#[44,32]⟩:ByteArray).size=2:=rfl;have B:(⟨#[95]⟩:ByteArray).size=1:=rfl;have D:((eG a 0).1++(⟨#[41]⟩:ByteArray)).size=(eG a 0).1.size+1:=Z1;refine ae ab func267 Z (by decide) ntmps267 Z (by simp) Z ?_;refine gA Z (zp (W6 a.rel (by omega)) ?_);refine gA Z ?_;refine az 0 a.ad.length (Y8 _) (fun i=>⟨[(1,.ptr 0 0),(2,.ptr 1 0),(4,.ptr 2 0),(5,pI i)],[(0,io (an a.c)),(1,io (.cells [pS Y5,pB lc])),(2,io (an (eG a i).c))],3⟩) (fun _=>True) [] ac
  (zW (zK (zO (zK trivial)))) fun i S _=>?_
 refine zE Z Z (fun b=>?_) fun b=>?_
 .have b:a.ad.length<=i:=zG b;have u:i=a.ad.length:=by omega
  subst u;have d:=pt a a.ad.length (Y7 _);rw[Za (Y7 _)]at d;have e2:(⟨#[41]⟩:ByteArray).size=1:=rfl;exact zU Z
 have b:i<a.ad.length:=zN b;have d:=pt a i (by omega);have F:=uX a.ad i b;have G:(a.ad.getD i em).ts=(a.ad.getD i em).var.size+310:=rfl;have I:=n8 (a.ad.getD i em).val;have J:((eG a i).1++(⟨#[44,32]⟩:ByteArray)).size=(eG a i).1.size+2:=Z1;have Y:=s9 (a.ad.getD i em).kind (a.ad.getD i em).var (a.ad.getD i em).val
 repeat' (first
  |(refine gA Z (zI (fun q=>?_) (fun q=>?_)))
  |(refine gA Z (bj (W5 (a.ad.getD i em).kind (a.ad.getD i em).var (a.ad.getD i em).val (by omega)) Z Z Z Z Z Z ?_)))
 all_goals(refine gA Z ?_)
 all_goals clear d F G I J Y x j y A B D S
 all_goals have hE:Y5=(⟨#[]⟩:ByteArray):=rfl
 all_goals exact⟨b,ac,[],zW (zK (zO ⟨⟨_,rfl,.cells ⟨.of_eq (congrArg pS (by simp_all [eG,pD,Nc,eZ,wE,Kz])),(by first|exact .of_eq (fP (by simp_all [eG,pD,Nc,eZ,cU]))|exact .rA (by simp_all [eG,pD,Nc,eZ,cU])),ac⟩⟩,YY Z,rfl,ac⟩))⟩
theorem YM(a:Atom)(b:a.ts<=900000000)(d:a.ad.length<=1000000000):Pure prog 249 [ag a.c] (.bQ [pS (if(fg a).2=kw then⟨#[]⟩ else(fg a).1),pI (if(fg a).2=kw then 50 else 0)]):=by
 refine ae ab func249 Z (by decide) ntmps249 Z (by simp) Z ?_;refine gA Z (zp (U5 a b d) ?_);refine gA Z (zp (Xa (fg a)) ?_);exact zU Z
theorem c62(a:Atom)(b:a.ts<=900000000)(d:a.ad.length<=1000000000):Pure prog 232 [ag a.c] (pB (!(fg a).2)):=by
 refine ae ab func232 Z (by decide) ntmps232 Z (by simp) Z ?_;refine gA Z (zp (YM a b d) ?_);refine gA Z (zL (.of_eq ?_));refine(fP ?_:pB _=pB _);cases(fg a).2<;>rfl
theorem Gs(e:Expr):Pure prog 292 [ag e.c] (pI (bx e)):=by
 refine ae ab func292 Z (by decide) ntmps292 Z (by simp) Z ?_
 repeat' (first|(refine gA Z (zI (fun _=>?_) (fun _=>?_)))|(refine gA Z (zL (.of_eq ?_))))
 all_goals(refine congrArg pI ?_;simp_all [bx])
theorem Ya(op:Int):Pure prog 293 [pI op] (pS (xB op)):=by
 refine ae ab func293 Z (by decide) ntmps293 Z (by simp) Z ?_
 repeat' (first|(refine gA Z (zI (fun _=>?_) (fun _=>?_)))|(refine gA Z (zL (.of_eq ?_))))
 all_goals(refine congrArg pS ?_;simp_all [xB])
theorem ow{e:Expr}{b:Bool}{k:nZ}(d: ¬(e.kind=1∨e.kind=2))(h: ¬e.kind=4∨b=kw∨ ¬e.var=⟨#[]⟩∨cU e.val=lc∨e.op<1∨e.op>6):gE e b k=nY:=by
 unfold gE;rw[be d,am h]
theorem tn{e:Expr}{b:Bool}{k:nZ}(d:e.kind=1∨e.kind=2):gE e b k=((eZ e.kind e.var e.val).1,(eZ e.kind e.var e.val).2||(b||(!li (e.op=0)||decide ((e.args.length:Int)>0)))):=by
 unfold gE;rw[am d];rfl
theorem Gb{e:Expr}{k:nZ}(b:e.kind=4)(h:e.var=⟨#[]⟩)(j:cU e.val=kw)(h1: ¬e.op<1)(d: ¬e.op>6):gE e lc k=k:=by
 unfold gE;rw[be (by omega),be];rintro(g|g|g|g|g|g)
 .exact g b
 .cases g
 .exact g h
 .rw[j]at g;cases g
 .exact h1 g
 .exact d g
theorem Js{e:Expr}{n:Nat}(hn:n<=1)(d: ¬(e.kind=1∨e.kind=2)):bP n e=nY:=by
 have j: ∀b,gE e b nY=nY:=fun b=>by
  unfold gE;rw[be d];split<;>rfl
 match n,hn with
 |0,_=>exact j kw
 |1,_=>exact j lc
theorem Gk{e:Expr}{n:Nat}(b:e.kind=1∨e.kind=2):bP n e=((eZ e.kind e.var e.val).1,(eZ e.kind e.var e.val).2||(li (n=0)||(!li (e.op=0)||decide ((e.args.length:Int)>0)))):=by
 match n with
 |0=>exact tn b
 |1=>exact tn b
 |m+2=>exact tn b
theorem gf:aL (.agg [pS Y5,.kb kw]) (ag nY.c):= .agg ⟨.of_eq Z,.rA Z,ac⟩
def PT(n:Nat):Prop:= ∀(d:Int) (e:Expr),d=(n:Int)-1->e.ts<=900000000->Pure prog 280 [ag e.c,pI d] (ag (bP n e).c)
theorem E3(n:Nat)(hn:n<=1000)(x:PT (n+1))(hB:PT n)(b:Bool)(d:Int)(hd:d=n)(a:Expr)(j:a.ts<=900000000):Pure prog 291 [ag a.c,pB b,pI d] (ag (ke n b a).c):=by
 have D:=fw n a;have y:(⟨#[40]⟩:ByteArray).size=1:=rfl;have A:(⟨#[41]⟩:ByteArray).size=1:=rfl;have B:((⟨#[40]⟩:ByteArray)++(bP n a).1).size=(⟨#[40]⟩:ByteArray).size+(bP n a).1.size:=Z1;have u:li (d<1)=li (n<1):=decide_eq_decide.2 (by omega);refine ae ab func291 Z (by decide) ntmps291 Z (by simp) Z ?_;refine zJ Z Z (fun g=>?_) fun g=>?_
 .have g:b=lc:=by simpa using g
  rw[ke,be (by rw[g];decide)];refine gA Z (zp (x d a (by omega) j) ?_);exact zU Z
 .have g:b=kw:=by simpa using g
  rw[ke,am g];refine gA Z (zp (hB (d-1) a (by omega) j) ?_);refine zJ Z Z (fun q=>?_) fun q=>?_
  .have q:(bP n a).2=lc:=q;refine gA Z (zL ?_);exact .agg ⟨.refl _,.of_eq (fP (by rw[q,u];rfl)),ac⟩
  .have q:(bP n a).2=kw:=by simpa using q
   refine gA Z (zL ?_);rw[q]
   first
    |exact .agg ⟨.refl _,.of_eq (fP (by first|rfl|rw[q];rfl)),ac⟩
    |exact .agg ⟨.refl _,.rA (by first|rfl|rw[q];rfl),ac⟩
theorem Ii(n:Nat)(d:Int)(e:Expr)(hd:d=(n:Int)-1)(j:e.kind=1∨e.kind=2)(u:e.ts<=900000000):Pure prog 280 [ag e.c,pI d] (ag (bP n e).c):=by
 have x:=e.mf;have b:li (n=0)=li (d<0):=decide_eq_decide.2 (by omega);rw[Gk j,b];clear b hd;refine ae ab func280 Z (by decide) ntmps280 Z (by simp) Z ?_
 repeat' (first
  |(refine gA Z (zI (fun q=>?_) (fun q=>?_)))
  |(refine gA Z (bj (W5 e.kind e.var e.val (by omega)) Z Z Z Z Z Z ?_)))
 all_goals first
  |(exfalso;simp_all;done)
  |skip
 all_goals(refine gA Z (zL ?_))
 all_goals first
  |refine .agg ⟨.refl _,.of_eq (fP ?_),ac⟩
  |refine .agg ⟨.refl _,.rA ?_,ac⟩
 all_goals(simp_all<;>omega)
theorem Nj(n:Nat)(hn:n<=1):PT n:=by
 intro d e hd j;by_cases b:e.kind=1∨e.kind=2
 .exact Ii n d e hd b j
 rw[Js hn b];refine ae ab func280 Z (by decide) ntmps280 Z (by simp) Z ?_;refine zE Z Z (fun k1=>?_) fun k1=>?_
 .exact absurd (.inl (zT k1)) b
 refine zJ Z Z (fun u=>?_) fun u=>?_
 .exact absurd (.inr (zT u)) b
 refine zJ Z Z (fun g1=>?_) fun g1=>?_
 .refine zJ Z Z (fun g2=>?_) fun g2=>?_
  .exact absurd (zF g2) (by omega)
  .repeat(refine gA Z (zI (fun q=>?_) (fun q=>?_));all_goals(try(simp at q;done)))
   refine gA Z (zL ?_);exact gf
 .repeat(refine gA Z (zI (fun q=>?_) (fun q=>?_));all_goals(try(simp at q;done)))
  refine gA Z (zL ?_);exact gf
set_option maxHeartbeats 2000000 in
theorem Ri(m:Nat)(hm:m<=100)(hB:PT m)(hA:PT (m+1)):PT (m+2):=by
 intro d e hd a0;by_cases y:e.kind=1∨e.kind=2
 .exact Ii (m+2) d e hd y a0
 have A:m<=1000:=by omega
 have h0:=e.mf;rw[vH];refine Al.Pure.le (aa:=[ag e.c,pI d]) (args:=[ag e.c1,pI d]) ?_ ⟨e.zr,.refl _,ac⟩;refine ae ab func280 Z (by decide) ntmps280 Z (by simp) Z ?_;refine zE Z Z (fun k1=>?_) fun k1=>?_
 .exact absurd (.inl (zT k1)) y
 refine zJ Z Z (fun k2=>?_) fun k2=>?_
 .exact absurd (.inr (zT k2)) y
 refine zE Z Z (fun g1=>?_) fun g1=>?_
 .have g1: ¬e.kind=4:=by
   have g:(!li (e.kind=4))=kw:=g1;simpa using g
  rw[ow y (.inl g1)]
  repeat(refine gA Z (zI (fun q=>?_) (fun q=>?_));all_goals(try(simp at q;done)))
  refine gA Z (zL ?_);exact gf
 have g1:e.kind=4:=by
  have g:(!li (e.kind=4))=lc:=g1;simpa using g
 refine zE Z Z (fun g2=>?_) fun g2=>?_
 .exact absurd (zT g2) (by omega)
 refine zE Z Z (fun g3=>?_) fun g3=>?_
 .have g3: ¬e.var=⟨#[]⟩:=by
   have g:(!li (e.var=⟨#[]⟩))=kw:=g3;simpa using g
  rw[ow y (.inr (.inr (.inl g3)))]
  repeat(refine gA Z (zI (fun q=>?_) (fun q=>?_));all_goals(try(simp at q;done)))
  refine gA Z (zL ?_);exact gf
 have g3:e.var=⟨#[]⟩:=by
  have g:(!li (e.var=⟨#[]⟩))=lc:=g3;simpa using g
 refine zE Z Z (fun g4=>?_) fun g4=>?_
 .have g4:cU e.val=lc:=by
   have g:(!cU e.val)=kw:=g4;simpa using g
  rw[ow y (.inr (.inr (.inr (.inl g4))))]
  repeat(refine gA Z (zI (fun q=>?_) (fun q=>?_));all_goals(try(simp at q;done)))
  refine gA Z (zL ?_);exact gf
 have g4:cU e.val=kw:=by
  have g:(!cU e.val)=lc:=g4;simpa using g
 refine zE Z Z (fun g5=>?_) fun g5=>?_
 .have g5:e.op<1:=zT g5;rw[ow y (.inr (.inr (.inr (.inr (.inl g5)))))]
  repeat(refine gA Z (zI (fun q=>?_) (fun q=>?_));all_goals(try(simp at q;done)))
  refine gA Z (zL ?_);exact gf
 have g5: ¬e.op<1:=zF g5;refine zJ Z Z (fun g6=>?_) fun g6=>?_
 .have g6:e.op>6:=zT g6;rw[ow y (.inr (.inr (.inr (.inr (.inr g6)))))];refine gA Z (zL ?_);exact gf
 have g6: ¬e.op>6:=zF g6;rw[Gb g1 g3 g4 g5 g6];refine gM 1 Z (kn [] (t:=⟨[(1,pI d),(2,.ptr 0 0),(4,.ptr 1 0)],[(0,io (an e.c1)),(1,io (an [iS Y5,.v (.bool lc)]))],2⟩) (zW (zK (zK ac))) ?_);refine zJ Z Z (fun Y=>?_) fun Y=>?_
 .have Y:e.op=6:=zT Y;refine zJ Z Z (fun D=>?_) fun D=>?_
  .have D: ¬e.args.length=1:=by simp at D;omega
   rw[nu,am Y,be D];refine gA Z (zL ?_);exact gf
  have D:e.args.length=1:=by simp at D;omega
  have hg:(aP e).ts<=_:=Expr.tN e.args 0 (by omega);have G:(aP e).ts<=900000000:=by omega
  have j:nu (ke m) e=(sM++(if FV (aP e)=kw then(⟨#[45,48]⟩:ByteArray) else(ke m (qq (aP e)) (aP e)).1),(ke m (qq (aP e)) (aP e)).2):=by rw[nu,am Y,am D]
  have e1:(⟨#[45]⟩:ByteArray).size=1:=rfl;have e2:(⟨#[45,48]⟩:ByteArray).size=2:=rfl;have g0:=qW m kw (aP e);have f0:=qW m lc (aP e);have e0:=qW m (li ((aP e).val.num>0)) (aP e);refine zJ Z Z (fun hk=>?_) fun hk=>?_
  .have x:(aP e).kind=2:=zT hk;refine zE Z Z (fun hv=>?_) fun hv=>?_
   .have F: ¬(aP e).val.kind=1:=zF hv;have I:pO (aP e)=lc:=by rw[pO,decide_eq_false F,Z5]
    rw[FV,qq,Lf,I,Z9,Z9,aaD,be (by decide)]at j;refine gA Z (n7 (Gs (aP e)) ?_);refine zE Z Z (fun u=>?_) fun u=>?_
    .have b: ¬bx (aP e)<3:=zF u;rw[decide_eq_false b]at j;rw[j];refine gA Z (n7 (E3 m A hA hB lc (d-1) (by omega) (aP e) G) ?_);refine zJ Z Z (fun B=>?_) fun B=>?_
     .refine zJ Z Z (fun J=>?_) fun J=>?_
      .exact absurd (zT J) F
      exact zU Z
     .exact absurd x (zF B)
    .have b:bx (aP e)<3:=zT u;rw[decide_eq_true b]at j;rw[j];refine gA Z (n7 (E3 m A hA hB kw (d-1) (by omega) (aP e) G) ?_);refine zJ Z Z (fun B=>?_) fun B=>?_
     .refine zJ Z Z (fun J=>?_) fun J=>?_
      .exact absurd (zT J) F
      exact zU Z
     .exact absurd x (zF B)
   .have F:(aP e).val.kind=1:=zT hv;have I:pO (aP e)=kw:=by rw[pO,decide_eq_true F,decide_eq_true x];rfl
    rw[FV,qq,Lf,I,ZR,ZR]at j;refine gA Z (n7 (Gs (aP e)) ?_);refine zE Z Z (fun u=>?_) fun u=>?_
    .have b: ¬bx (aP e)<3:=zF u;rw[decide_eq_false b,aag]at j;rw[j];refine gA Z (n7 (E3 m A hA hB (li ((aP e).val.num>0)) (d-1) (by omega) (aP e) G) ?_);refine zJ Z Z (fun B=>?_) fun B=>?_
     .refine zJ Z Z (fun J=>?_) fun J=>?_
      .refine zJ Z Z (fun S=>?_) fun S=>?_
       .rw[am (show li ((aP e).val.num=0)=kw from S)];exact zU Z
       .have S:li ((aP e).val.num=0)=lc:=S;rw[be (by rw[S];decide)];exact zU Z
      .exact absurd F (zF J)
     .exact absurd x (zF B)
    .have b:bx (aP e)<3:=zT u;rw[decide_eq_true b,abx]at j;rw[j];refine gA Z (n7 (E3 m A hA hB kw (d-1) (by omega) (aP e) G) ?_);refine zJ Z Z (fun B=>?_) fun B=>?_
     .refine zJ Z Z (fun J=>?_) fun J=>?_
      .refine zJ Z Z (fun S=>?_) fun S=>?_
       .rw[am (show li ((aP e).val.num=0)=kw from S)];exact zU Z
       .have S:li ((aP e).val.num=0)=lc:=S;rw[be (by rw[S];decide)];exact zU Z
      .exact absurd F (zF J)
     .exact absurd x (zF B)
  .have x: ¬(aP e).kind=2:=zF hk;have I:pO (aP e)=lc:=by rw[pO,decide_eq_false x];rfl
   rw[FV,qq,Lf,I,Z9,Z9,aaD,be (by decide)]at j;refine gA Z (n7 (Gs (aP e)) ?_);refine zE Z Z (fun u=>?_) fun u=>?_
   .have b: ¬bx (aP e)<3:=zF u;rw[decide_eq_false b]at j;rw[j];refine gA Z (n7 (E3 m A hA hB lc (d-1) (by omega) (aP e) G) ?_);refine zJ Z Z (fun B=>?_) fun B=>?_
    .exact absurd (zT B) x
    exact zU Z
   .have b:bx (aP e)<3:=zT u;rw[decide_eq_true b]at j;rw[j];refine gA Z (n7 (E3 m A hA hB kw (d-1) (by omega) (aP e) G) ?_);refine zJ Z Z (fun B=>?_) fun B=>?_
    .exact absurd (zT B) x
    exact zU Z
 .have Y: ¬e.op=6:=zF Y;refine zJ Z Z (fun D=>?_) fun D=>?_
  .have D: ¬e.args.length=2:=by simp at D;omega
   rw[nu,be Y,be D];refine gA Z (zL ?_);exact gf
  have D:e.args.length=2:=by simp at D;omega
  have hg:(aP e).ts+(k9 e).ts<=_:=Expr.wR e.args D;rw[nu,be Y,am D];have c0:=qW m (li (bx (aP e)<bx e)) (aP e);have d0:=qW m (li (bx (k9 e)<=bx e)) (k9 e);have i0:=Ad e.op;have b0:((ke m (li (bx (aP e)<bx e)) (aP e)).1++xB e.op).size=(ke m (li (bx (aP e)<bx e)) (aP e)).1.size+(xB e.op).size:=Z1;refine gA Z (n7 (Gs (aP e)) ?_);refine gA Z (n7 (Al.Pure.le (aa:=[ag e.c1]) (Gs e) ⟨e.LB,ac⟩) ?_);refine gA Z (n7 (E3 m A hA hB (li (bx (aP e)<bx e)) (d-1) (by omega) (aP e) (by omega)) ?_);refine gM 3 Z (kn [] (t:=⟨[(1,pI d),(2,.ptr 0 0),(4,.ptr 1 0),(9,.ptr 2 0)],[(0,io (an e.c1)),(1,io (an [iS Y5,.v (.bool lc)])),(2,io (an (ke m (li (bx (aP e)<bx e)) (aP e)).c))],3⟩) (zW (zK (zK (zK ac)))) ?_);refine gA Z (n7 (Gs (k9 e)) ?_);refine gA Z (n7 (Al.Pure.le (aa:=[ag e.c1]) (Gs e) ⟨e.LB,ac⟩) ?_);refine gA Z (n7 (E3 m A hA hB (li (bx (k9 e)<=bx e)) (d-1) (by omega) (k9 e) (by omega)) ?_);refine gM 3 Z (kn [] (t:=⟨[(1,pI d),(2,.ptr 0 0),(4,.ptr 1 0),(9,.ptr 2 0),(10,.ptr 3 0)],[(0,io (an e.c1)),(1,io (an [iS Y5,.v (.bool lc)])),(2,io (an (ke m (li (bx (aP e)<bx e)) (aP e)).c)),(3,io (an (ke m (li (bx (k9 e)<=bx e)) (k9 e)).c))],4⟩) (zW (zK (zK (zK (zK ac))))) ?_);refine gA Z (n7 (Ya e.op) ?_);refine zE Z Z (fun q=>?_) fun q=>?_
  .have q:(ke m (li (bx (aP e)<bx e)) (aP e)).2=lc:=q;rw[q];exact zU Z
  .have q:(ke m (li (bx (aP e)<bx e)) (aP e)).2=kw:=by simpa using q
   rw[q];refine gA Z (zL ?_)
   first
    |exact .agg ⟨.refl _,.of_eq (fP (by first|rfl|rw[q];rfl)),ac⟩
    |exact .agg ⟨.refl _,.rA (by first|rfl|rw[q];rfl),ac⟩
theorem Nk: ∀n,n<=100->PT n∧PT (n+1)
 |0,_=>⟨Nj 0 (by decide),Nj 1 (by decide)⟩
 |n+1,h=>by
  obtain⟨d,b⟩:=Nk n (by omega);exact⟨b,Ri n (by omega) d b⟩
theorem U4(e:Expr)(b:e.ts<=900000000):Pure prog 280 [ag e.c,pI 16] (ag (bP 17 e).c):=(Nk 17 (by decide)).1 16 e Z b
theorem Ye(a:Atom):Pure prog 277 [ag a.c] (pB (eQ a)):=by
 refine ae ab func277 Z (by decide) ntmps277 Z (by simp) Z ?_
 repeat' (first|(refine gA Z (zI (fun _=>?_) (fun _=>?_)))|(refine gA Z (zL (.of_eq ?_))))
 all_goals(refine(fP ?_:pB _=pB _))
 all_goals(simp only[eQ, *];rfl)
theorem QU(e:Expr):Pure prog 278 [ag e.c] (pB (cX e)):=by
 refine ae ab func278 Z (by decide) ntmps278 Z (by simp) Z ?_
 repeat' (first|(refine gA Z (zI (fun _=>?_) (fun _=>?_)))|(refine gA Z (zL (.of_eq ?_))))
 all_goals(refine(fP ?_:pB _=pB _))
 all_goals(simp only[cX,cU, *];rfl)
theorem Yd(g:eK):Pure prog 279 [ag g.c] (pB (js g)):=by
 refine ae ab func279 Z (by decide) ntmps279 Z (by simp) Z ?_
 repeat' (first|(refine gA Z (zI (fun _=>?_) (fun _=>?_)))|(refine gA Z (zp (QU g.dY) ?_))|(refine gA Z (zL (.of_eq ?_))))
 all_goals(refine(fP ?_:pB _=pB _))
 all_goals(simp only[js, *];rfl)
theorem Yc(op:Int):Pure prog 281 [pI op] (pS (qN op)):=by
 refine ae ab func281 Z (by decide) ntmps281 Z (by simp) Z ?_
 repeat' (first|(refine gA Z (zI (fun _=>?_) (fun _=>?_)))|(refine gA Z (zL (.of_eq ?_))))
 all_goals(refine congrArg pS ?_;simp_all [qN])
theorem X9(f:Int):Pure prog 294 [pI f] (pS (fB f)):=by
 refine ae ab func294 Z (by decide) ntmps294 Z (by simp) Z ?_
 repeat' (first|(refine gA Z (zI (fun _=>?_) (fun _=>?_)))|(refine gA Z (zL (.of_eq ?_))))
 all_goals(refine congrArg pS ?_;simp_all [fB])
theorem wA(a b:ByteArray):(a++b).size=a.size+b.size:=Z1
theorem Vk:(⟨#[]⟩:ByteArray).size=0:=rfl
theorem vY{f:Lit->nZ}{l:List Lit}{i:Nat}(h:b5 f l i=nY): ∀k,b5 f l (i+k)=nY
 |0=>h
 |k+1=>by
  rw[<-aaB,b5,vY h k];exact am Z
theorem F3{f:Lit->nZ}{l:List Lit}{i:Nat}(h:(b5 f l i).2=lc)(hi:i<l.length)(hf:(f (l.getD i em)).2=kw):b5 f l l.length=nY:=by
 have e:b5 f l (i+1)=nY:=by rw[b5,be (by rw[h];decide),am hf]
 have:=vY e (l.length-(i+1));rwa[show i+1+(l.length-(i+1))=l.length by omega]at this
theorem Ef{f:Lit->nZ}{l:List Lit}{i:Nat}(h:(b5 f l i).2=lc)(hf:(f (l.getD i em)).2=lc):b5 f l (i+1)=((if(i:Int)>0 then(b5 f l i).1++wE else(b5 f l i).1)++(f (l.getD i em)).1,lc):=by
 rw[b5,be (by rw[h];decide),be (by rw[hf];decide)]
theorem C7: ∀(l:List Lit) (i:Nat),i<l.length->Lit.lH (l.take (i+1))=Lit.lH (l.take i)+(l.getD i em).ts
 | [],i,h=>by simp at h
 |s::r,0,_=>by simp[Lit.lH]
 |s::r,i+1,h=>by
  have:=C7 r i (by simpa using h);simp only[aan,aap,Lit.lH,this];omega
theorem o7{f:Lit->nZ}{l:List Lit}(hf: ∀i,i<l.length->(f (l.getD i em)).1.size+2<=(l.getD i em).ts): ∀i,i<=l.length->(b5 f l i).1.size<=Lit.lH (l.take i)
 |0,_=>by show(⟨#[]⟩:ByteArray).size<=_;rw[Vk];exact Y8 _
 |i+1,h=>by
  have b:=o7 hf i (by omega);have d:=hf i (by omega);have j:wE.size=2:=rfl;rw[C7 l i (by omega),b5];split
  .show(⟨#[]⟩:ByteArray).size<=_;rw[Vk];exact Y8 _
  split
  .show(⟨#[]⟩:ByteArray).size<=_;rw[Vk];exact Y8 _
  .show((if(i:Int)>0 then(b5 f l i).1++wE else(b5 f l i).1)++(f (l.getD i em)).1).size<=_;rw[wA];split
   .rw[wA];omega
   .omega
theorem Bo(a:Atom):(fg a).1.size<=a.ts:=by
 have b:=pt a a.ad.length (Y7 _);rw[Za (Y7 _)]at b;have d:a.ts=a.rel.size+10+(a.ad.map Term.ts).sum:=rfl;have j:sC.size=1:=rfl;show((eG a a.ad.length).1++sC).size<=_;rw[wA];omega
theorem Dc(a:Atom):a.ad.length<=a.ts:=by
 have b:a.ts=a.rel.size+10+(a.ad.map Term.ts).sum:=rfl;have: ∀l:List Term,l.length<=(l.map Term.ts).sum:=by
  intro l
  induction l with
  |nil=>exact Y7 _
  |cons x r ih=>
   have:x.ts=x.var.size+310:=rfl;simp only[ZA,Zm,aaO];omega
 have:=this a.ad;omega
theorem P4(a:eK):(Hl a).1.size<=a.var.size+a.dY.ts+14:=by
 have u:=uy a.func;have x:=fw 17 a.dY;have b:p4.size=3:=rfl;have d:p5.size=3:=rfl;have j:Fm.size=3:=rfl;unfold Hl;split
 .show(((a.var++p4)++fB a.func)++p5).size<=_;rw[wA,wA,wA];omega
 .show(((((a.var++p4)++fB a.func)++p5)++(bP 17 a.dY).1)++Fm).size<=_;rw[wA,wA,wA,wA,wA];omega
theorem Ng{f:Lit->nZ}{a:eK}{br:Int}(hf: ∀i,i<a.body.length->(f (a.body.getD i em)).1.size+2<=(a.body.getD i em).ts):(oJ f a br).1.size<=a.var.size+a.dY.ts+Lit.lH a.body+16:=by
 have j:=P4 a;have b:=o7 hf a.body.length (Y7 _);rw[Za (Y7 _)]at b;have d:wD.size=2:=rfl;unfold oJ;split
 .show(⟨#[]⟩:ByteArray).size<=_;rw[Vk];exact Y8 _
 .show(((Hl a).1++(b5 f a.body a.body.length).1)++wD).size<=_;rw[wA,wA];omega
theorem AI: ∀(n:Nat) (br:Int) (l:Lit),(ew n br l).1.size+2<=l.ts
 |0,_,l=>by
  have:=l.mf;show(⟨#[]⟩:ByteArray).size+2<=_;rw[Vk];omega
 |n+1,br,l=>by
  have h:=l.mf;have d:=Bo l.atom;have j:=fw 17 l.left;have u:=fw 17 l.right;have x:=yE l.op;have y:=Ng (f:=ew n (br-1)) (a:=l.agg) (br:=br) fun i _=>AI n (br-1) _;have A:l.agg.var.size+l.agg.dY.ts+Lit.lH l.agg.body=l.a7.size+l.jR.ts+Lit.lH l.ar:=rfl;have b:xF.size=4:=rfl;rw[ew];unfold jK;split
  .show(if l.kind=2 then xF++(fg l.atom).1 else(fg l.atom).1).size+2<=_;split
   .rw[wA];omega
   .omega
  split
  .show(((bP 17 l.left).1++qN l.op)++(bP 17 l.right).1).size+2<=_;rw[wA,wA];omega
  split
  .show(oJ (ew n (br-1)) l.agg br).1.size+2<=_;omega
  .show(⟨#[]⟩:ByteArray).size+2<=_;rw[Vk];omega
theorem X8(f:Lit->nZ)(l:List Lit)(br:Int)(hc: ∀i,i<l.length->Pure prog 268 [ag (l.getD i em).c,pI br] (ag (f (l.getD i em)).c))(hf: ∀i,i<l.length->(f (l.getD i em)).1.size+2<=(l.getD i em).ts)(F:Lit.lH l<=900000000):Pure prog 295 [.iv (lits l),pI br] (ag (b5 f l l.length).c):=by
 refine my (bH func295 Z (by decide)) ⟨_,_,Zh⟩ fun j=>?_;simp only[maxLen]at j;refine ae ab func295 Z (by decide) ntmps295 Z (by simp) Z ?_;refine gA Z ?_
 refine az 0 l.length (Y8 _) (fun i=>⟨[(0,.iv (lits l)),(1,pI br),(4,.ptr 0 0),(5,.ptr 1 0),(6,pI i)],[(0,io (.cells [pS Y5,pB lc])),(1,io (.cells [pS (b5 f l i).1,pB lc]))],2⟩) (fun i=>(b5 f l i).2=lc) [] Z
  (zW (zO (zO trivial))) fun i y u=>?_
 refine zE Z Z (fun b=>?_) fun b=>?_
 .have b:l.length<=i:=zG b;have x:i=l.length:=by omega
  subst x;refine gA Z (zL ?_);exact .agg ⟨.refl _,.of_eq (fP u.symm),ac⟩
 have b:i<l.length:=zN b;have A:=o7 hf i y;have B:=hf i b;have D:=Lit.tL l i b;have G:(⟨#[44,32]⟩:ByteArray).size=2:=rfl;have I:=wA (b5 f l i).1 ⟨#[44,32]⟩;refine gA Z (zp (hc i b) ?_);refine zJ Z Z (fun g=>?_) fun g=>?_
 .have g:(f (l.getD i em)).2=kw:=g;rw[F3 u b g];refine gA Z (zL ?_);exact gf
 have g:(f (l.getD i em)).2=lc:=by simpa using g
 have d:=Ef u g;refine zJ Z Z (fun k=>?_) fun k=>?_
 .have k:(i:Int)>0:=zT k;rw[am k]at d;refine gA Z ⟨b,by rw[d],[],zW (zO ⟨⟨_,rfl,.cells ⟨.of_eq (congrArg pS (by rw[d];rfl)),.refl _,ac⟩⟩,YY Z,rfl,ac⟩)⟩
 .have k: ¬(i:Int)>0:=zF k;rw[be k]at d;refine gA Z ⟨b,by rw[d],[],zW (zO ⟨⟨_,rfl,.cells ⟨.of_eq (congrArg pS (by rw[d])),.refl _,ac⟩⟩,YY Z,rfl,ac⟩)⟩
set_option maxHeartbeats 2000000 in
theorem Yb(f:Lit->nZ)(a:eK)(br:Int)(hb:br<=16)(hc:1<=br-> ∀i,i<a.body.length->Pure prog 268 [ag (a.body.getD i em).c,pI (br-1)] (ag (f (a.body.getD i em)).c))(hf: ∀i,i<a.body.length->(f (a.body.getD i em)).1.size+2<=(a.body.getD i em).ts)(x:a.var.size+a.dY.ts+Lit.lH a.body<=900000000):Pure prog 282 [ag a.c,pI br] (ag (oJ f a br).c):=by
 have j:=uy a.func;have u:=fw 17 a.dY;have d:=o7 hf a.body.length (Y7 _);rw[Za (Y7 _)]at d;have A:(⟨#[32,61,32]⟩:ByteArray).size=3:=rfl;have B:(⟨#[32,123,32]⟩:ByteArray).size=3:=rfl;have D:(⟨#[32,58,32]⟩:ByteArray).size=3:=rfl;have F:(⟨#[32,125]⟩:ByteArray).size=2:=rfl;have I:=wA a.var ⟨#[32,61,32]⟩;have J:=wA (a.var++⟨#[32,61,32]⟩) (fB a.func);have S:=wA ((a.var++⟨#[32,61,32]⟩)++fB a.func) ⟨#[32,123,32]⟩;have Y:=wA (((a.var++⟨#[32,61,32]⟩)++fB a.func)++⟨#[32,123,32]⟩) (bP 17 a.dY).1;have s5:=wA ((((a.var++⟨#[32,61,32]⟩)++fB a.func)++⟨#[32,123,32]⟩)++(bP 17 a.dY).1) ⟨#[32,58,32]⟩;have s6:=wA (((((a.var++⟨#[32,61,32]⟩)++fB a.func)++⟨#[32,123,32]⟩)++(bP 17 a.dY).1)++⟨#[32,58,32]⟩) (b5 f a.body a.body.length).1;have s7:=wA (((a.var++⟨#[32,61,32]⟩)++fB a.func)++⟨#[32,123,32]⟩) (b5 f a.body a.body.length).1;refine Al.Pure.le (aa:=[ag a.c,pI br]) (args:=[ag a.c1,pI br]) ?_ ⟨a.zr,.refl _,ac⟩;refine ae ab func282 Z (by decide) ntmps282 Z (by simp) Z ?_;refine zE Z Z (fun g1=>?_) fun g1=>?_
 .have g1:a.func<1:=zT g1;rw[oJ,am (.inl g1)]
  repeat(refine gA Z (zI (fun q=>?_) (fun q=>?_));all_goals(try(simp at q;done)))
  refine gA Z (zL ?_);exact gf
 have g1: ¬a.func<1:=zF g1;refine zE Z Z (fun g2=>?_) fun g2=>?_
 .have g2:a.func>4:=zT g2;rw[oJ,am (.inr (.inl g2))]
  repeat(refine gA Z (zI (fun q=>?_) (fun q=>?_));all_goals(try(simp at q;done)))
  refine gA Z (zL ?_);exact gf
 have g2: ¬a.func>4:=zF g2;refine zE Z Z (fun g3=>?_) fun g3=>?_
 .have g3:br<1:=zT g3;rw[oJ,am (.inr (.inr (.inl g3)))]
  repeat(refine gA Z (zI (fun q=>?_) (fun q=>?_));all_goals(try(simp at q;done)))
  refine gA Z (zL ?_);exact gf
 have g3: ¬br<1:=zF g3;refine zJ Z Z (fun g4=>?_) fun g4=>?_
 .have g4:(a.body.length:Int)=0:=zT g4;rw[oJ,am (.inr (.inr (.inr g4)))];refine gA Z (zL ?_);exact gf
 have g4: ¬(a.body.length:Int)=0:=zF g4;have y:oJ f a br=(((Hl a).1++(b5 f a.body a.body.length).1)++wD,(Hl a).2||(b5 f a.body a.body.length).2):=by rw[oJ,be (by omega)]
 have b:=X8 f a.body (br-1) (hc (by omega)) hf (by omega);rw[y];refine gA Z (zp (W1 a.var (by omega)) ?_);refine gA Z (n7 (X9 a.func) ?_);refine zJ Z Z (fun g5=>?_) fun g5=>?_
 .have g5:a.func=1:=zT g5;have hO:Hl a=(((a.var++p4)++fB a.func)++p5,!ei a.var||!cX a.dY):=am g5;rw[hO];clear u y hO hf hc
  repeat' (first
   |(refine gA Z (zI (fun q=>?_) (fun q=>?_)))
   |(refine gA Z (bj (QU a.dY) Z Z Z Z Z Z ?_))
   |(refine gA Z (bj b Z Z Z Z Z Z ?_)))
  all_goals(refine gA Z (zL ?_))
  all_goals clear j d A B D F I J S Y s5 s6 s7 x b
  all_goals first
   |refine .agg ⟨.of_eq Z,.of_eq (fP ?_),ac⟩
   |refine .agg ⟨.of_eq Z,.rA ?_,ac⟩
  all_goals simp_all
 .have g5: ¬a.func=1:=zF g5;have hO:Hl a=(((((a.var++p4)++fB a.func)++p5)++(bP 17 a.dY).1)++Fm,!ei a.var||(bP 17 a.dY).2):=be g5;rw[hO];have G:=U4 a.dY (by omega);clear y hO hf hc
  repeat' (first
   |(refine gA Z (zI (fun q=>?_) (fun q=>?_)))
   |(refine gA Z (bj G Z Z Z Z Z Z ?_))
   |(refine gA Z (bj b Z Z Z Z Z Z ?_)))
  all_goals(refine gA Z (zL ?_))
  all_goals clear j u d A B D F I J S Y s5 s6 s7 x b G
  all_goals first
   |refine .agg ⟨.of_eq Z,.of_eq (fP ?_),ac⟩
   |refine .agg ⟨.of_eq Z,.rA ?_,ac⟩
  all_goals simp_all
set_option maxHeartbeats 4000000 in
theorem W0: ∀(n:Nat) (l:Lit) (br:Int),l.size<=n->br<=16->l.ts<=900000000->Pure prog 268 [ag l.c,pI br] (ag (ew n br l).c)
 |0,l,_,h,_,_=>absurd l.size_pos (by omega)
 |n+1,l,br,hs,hb,hts=>by
  have S:=l.size_eq;have J:=l.mf;have I:=Dc l.atom;have j:=Bo l.atom;have u:=fw 17 l.left;have x:=fw 17 l.right;have y:=yE l.op;have G:(⟨#[110,111,116,32]⟩:ByteArray).size=4:=rfl;have Y:=wA (bP 17 l.left).1 (qN l.op)
  have d:=Yb (ew n (br-1)) l.agg br hb (fun _ i hi=>by
   have hi:i<l.ar.length:=hi;have h1:=Lit.aI l.ar i hi;have h2:=l.left.size_pos;have h3:=Lit.tL l.ar i hi
   exact W0 n (l.ar.getD i em) (br-1) (by omega) (by omega) (by omega)) (fun i _=>AI n (br-1) _) (by show l.a7.size+l.jR.ts+Lit.lH l.ar<=_;omega)
  rw[ew];refine ae ab func268 Z (by decide) ntmps268 Z (by simp) Z ?_;refine gA Z (zp (Ye l.atom) ?_);refine gA Z (zp (QU l.left) ?_);refine gA Z (zp (QU l.right) ?_);refine gA Z (zp (Yd l.agg) ?_);refine gM 2 Z (go_cut 1 (fun(_:Unit)=>⟨[(1,pI br),(2,.ptr 0 0),(4,.ptr 1 0),(5,pB (eQ l.atom)),(8,pB (js l.agg)),(9,pB (gY l))],[(0,io (an l.c)),(1,io (.cells [pS Y5,pB lc]))],2⟩) Z ?_ ?_)
  .repeat' (first
    |(refine gA Z (zI (fun q=>?_) (fun q=>?_)))
    |fail)
   all_goals(refine gA Z (fx () [] (zM (bv (bv (bv (bv (bv ⟨?_,rfl,ac⟩))))) (zK (zO ac)))))
   all_goals clear j u x y G Y d J S I hts hs
   all_goals first
    |refine .of_eq (fP ?_)
    |refine .rA ?_
   all_goals simp_all [gY]
  rintro⟨⟩;have b:jK (ew n) br l=jK (ew n) br l:=rfl;refine zJ Z Z (fun k1=>?_) fun k1=>?_
  .have k1:l.kind=1:=zT k1;have b:jK (ew n) br l=((fg l.atom).1,(fg l.atom).2||(!gY l||!js l.agg)):=by unfold jK;rw[am (.inl k1),be (by omega)]
   rw[b];refine gA Z (zp (U5 l.atom (by omega) (by omega)) ?_);clear b;generalize eQ l.atom=NA at*
   generalize js l.agg=NG at*
   generalize gY l=SD at*
   repeat' (first
    |(refine gA Z (zI (fun q=>?_) (fun q=>?_)))
    |fail)
   all_goals first
    |(exfalso;simp_all;done)
    |skip
   all_goals(refine gA Z (zL ?_))
   all_goals clear j u x y G Y d J S I hts hs
   all_goals first
    |refine .agg ⟨.of_eq Z,.of_eq (fP ?_),ac⟩
    |refine .agg ⟨.of_eq Z,.rA ?_,ac⟩
   all_goals simp_all
  have k1: ¬l.kind=1:=zF k1;refine zJ Z Z (fun D=>?_) fun D=>?_
  .have D:l.kind=2:=zT D;have b:jK (ew n) br l=(xF++(fg l.atom).1,(fg l.atom).2||(!gY l||!js l.agg)):=by unfold jK;rw[am (.inr D),am D]
   rw[b];refine gA Z (zp (U5 l.atom (by omega) (by omega)) ?_);clear b;generalize eQ l.atom=NA at*
   generalize js l.agg=NG at*
   generalize gY l=SD at*
   repeat' (first
    |(refine gA Z (zI (fun q=>?_) (fun q=>?_)))
    |fail)
   all_goals first
    |(exfalso;simp_all;done)
    |skip
   all_goals(refine gA Z (zL ?_))
   all_goals clear j u x y G Y d J S I hts hs
   all_goals first
    |refine .agg ⟨.of_eq Z,.of_eq (fP ?_),ac⟩
    |refine .agg ⟨.of_eq Z,.rA ?_,ac⟩
   all_goals simp_all
  have D: ¬l.kind=2:=zF D;have B: ¬(l.kind=1∨l.kind=2):=by omega
  refine zJ Z Z (fun A=>?_) fun A=>?_
  .have A:l.kind=3:=zT A;have b:jK (ew n) br l=(((bP 17 l.left).1++qN l.op)++(bP 17 l.right).1,(bP 17 l.left).2||((bP 17 l.right).2||(!eQ l.atom||(!js l.agg||(li (l.op<1)||decide (l.op>6)))))):=by unfold jK;rw[be B,am A]
   rw[b];refine gA Z (zp (U4 l.left (by omega)) ?_);refine gA Z (zp (U4 l.right (by omega)) ?_);refine gA Z (n7 (Yc l.op) ?_);clear b;generalize eQ l.atom=NA at*
   generalize js l.agg=NG at*
   generalize gY l=SD at*
   repeat' (first
    |(refine gA Z (zI (fun q=>?_) (fun q=>?_)))
    |fail)
   all_goals(refine gA Z (zL ?_))
   all_goals clear j u x y G Y d J S I hts hs
   all_goals first
    |refine .agg ⟨.of_eq Z,.of_eq (fP ?_),ac⟩
    |refine .agg ⟨.of_eq Z,.rA ?_,ac⟩
   all_goals(simp_all<;>omega)
  have A: ¬l.kind=3:=zF A;refine zJ Z Z (fun F=>?_) fun F=>?_
  .have F:l.kind=4:=zT F;have b:jK (ew n) br l=((oJ (ew n (br-1)) l.agg br).1,(oJ (ew n (br-1)) l.agg br).2||(!eQ l.atom||!gY l)):=by unfold jK;rw[be B,be A,am F]
   rw[b];refine gA Z (zp (d) ?_);clear b;generalize eQ l.atom=NA at*
   generalize js l.agg=NG at*
   generalize gY l=SD at*
   repeat' (first
    |(refine gA Z (zI (fun q=>?_) (fun q=>?_)))
    |fail)
   all_goals(refine gA Z (zL ?_))
   all_goals clear j u x y G Y d J S I hts hs
   all_goals first
    |refine .agg ⟨.of_eq Z,.of_eq (fP ?_),ac⟩
    |refine .agg ⟨.of_eq Z,.rA ?_,ac⟩
   all_goals simp_all
  .have F: ¬l.kind=4:=zF F;have b:jK (ew n) br l=nY:=by unfold jK;rw[be B,be A,be F]
   rw[b];refine gA Z (zL ?_);exact gf
theorem Yo(l:Lit)(b:l.ts<=900000000):Pure prog 250 [ag l.c] (.bQ [pS (if(pH l).2=kw then⟨#[]⟩ else(pH l).1),pI (if(pH l).2=kw then 50 else 0)]):=by
 refine ae ab func250 Z (by decide) ntmps250 Z (by simp) Z ?_;refine gA Z (zp (W0 l.size l 16 (Y7 _) (by decide) b) ?_);refine gA Z (zp (Xa (pH l)) ?_);exact zU Z
theorem Yv(l:Lit)(b:l.ts<=900000000):Pure prog 233 [ag l.c] (pB (!(pH l).2)):=by
 refine ae ab func233 Z (by decide) ntmps233 Z (by simp) Z ?_;refine gA Z (zp (Yo l b) ?_);refine gA Z (zL (.of_eq ?_));refine(fP ?_:pB _=pB _);cases(pH l).2<;>rfl
theorem Lit.Wu(l:Lit):lf (l.c.map .iv) (l.c1.map .iv):=
 ⟨.refl _,.refl _,.refl _,.refl _,.refl _,.refl _,.refl _,.refl _,.refl _,.refl _,.refl _,.refl _,.refl _,.refl _,.refl _,.refl _,.refl _,.refl _,.refl _,.refl _,.refl _,.refl _,.refl _,.refl _,.refl _,.refl _,.refl _,.iv (nS _),.refl _,.refl _,ac⟩
theorem hCL{n i:Nat}{σ:Nat->Nat}{h r:AH}{cs:List PV}{T0:Option TypeId}{c:List IV}(ho:h.get (σ i)=io (.cells cs T0))(he:lf cs (c.map .iv))(hi:Zk i n=kw)(hr:n6 n σ h r):n6 n σ h ((i,io (an c))::r):=
 ⟨⟨_,ho,by rw[tA];exact .trans (.Rs cs T0) (.cells he)⟩,YY hi,l9 n c,hr⟩
theorem W4(l:Lit):Pure prog 251 [ag l.c] (.iv (cZ 2 (b8 l) Atom.c)):=by
 refine ae ab func251 Z (by decide) ntmps251 Z (by simp) Z ?_;refine zJ Z Z (fun k1=>?_) fun k1=>?_
 .have k1: ¬l.kind=1:=zF k1;refine zJ Z Z (fun b=>?_) fun b=>?_
  .have b:l.kind=2:=zT b;have e:b8 l=[l.atom]:=am (.inr b);refine gA Z (cx (by first|exact .inr Z|exact .inl Z) Z Z (by rw[e];rfl) (by rw[e];rfl))
  .have b: ¬l.kind=2:=zF b;have e:b8 l=[]:=be (by omega);rw[e];refine gA Z (zL ?_);exact .nil _ _
 .have k1:l.kind=1:=zT k1;have e:b8 l=[l.atom]:=am (.inl k1)
  repeat(refine gA Z (zI (fun q=>?_) (fun q=>?_));all_goals(try(simp at q;done)))
  refine gA Z (cx (by first|exact .inr Z|exact .inl Z) Z Z (by rw[e];rfl) (by rw[e];rfl))
theorem W9(r:ah)(lit:Int)(h1:lit<r.body.length)(hb:r.size<=100000000):Pure prog 234 [ag r.c,pI lit] (.iv (cZ 2 (bu r lit) Atom.c)):=by
 have A:=Lit.au r.body;have Y:Lit.aA r.body<=r.size:=aaA _ _;refine ae ab func234 Z (by decide) ntmps234 Z (by simp) Z ?_;refine zJ Z Z (fun b=>?_) fun b=>?_
 .have b:lit<0:=by simpa using b
  refine gA Z (cx (by first|exact .inr Z|exact .inl Z) Z Z (by rw[bu,am b];rfl) (by rw[bu,am b];rfl))
 have b: ¬lit<0:=by simpa using b
 have B:lit.toNat<r.body.length:=by omega
 have y:=Lit.aI r.body lit.toNat B;have I:=(ak r lit).size_eq;have J:=Lit.au (ak r lit).ar;have F:(ak r lit).size<=Lit.aA r.body:=y;refine zJ Z Z (fun u=>?_) fun u=>?_
 .have u: ¬(ak r lit).kind=4:=by simpa[ak]using u
  have j:bu r lit=b8 (ak r lit):=by rw[bu,be b,o8,be u];simp
  rw[j];refine gA Z (zp (W4 (ak r lit)) ?_);exact zU Z
 have u:(ak r lit).kind=4:=by simpa[ak]using u
 have j:bu r lit=(ak r lit).ar.flatMap b8:=by rw[bu,be b,o8,am u]
 refine gA Z ?_;refine fU 6 2 Z ?_;refine az 0 (ak r lit).ar.length (Y8 _) (fun i=>⟨[(5,.ptr 1 0),(6,.sl 3 0 (((ak r lit).ar.take i).flatMap b8).length 2),(7,pI i)],[(1,io (an (ak r lit).c1)),(3,io (aG 2 (((ak r lit).ar.take i).flatMap b8) Atom.c))],4⟩) (fun _=>True) [2] ac
  (zW (hCL Z (ak r lit).Wu Z (zS trivial))) fun i hi _=>?_
 have G:=mz ((ak r lit).ar.take i);have S:((ak r lit).ar.take i).length<=(ak r lit).ar.length:=by rw[ZP];exact Nat.min_le_right _ _
 refine zJ Z Z (fun d=>?_) fun d=>?_
 .have d:i<(ak r lit).ar.length:=zN d;have x:=bG (f:=b8) d;have D:(b8 ((ak r lit).ar.getD i em)).length<=1:=by unfold b8;split<;>simp
  refine gA Z (zp (W4 ((ak r lit).ar.getD i em)) ?_);refine gA Z ?_
  first
   |exact⟨d,ac,[4],zM (bv ⟨.row (by rw[x,Y1]),rfl,bv ac⟩) (zK (hR Z (by rw[oP,x,Y6]) Z ac))⟩
   |exact⟨d,ac,[5],zM (bv ⟨.row (by rw[x,Y1]),rfl,bv ac⟩) (zK (hR Z (by rw[oP,x,Y6]) Z ac))⟩
 .have d:(ak r lit).ar.length<=i:=zG d;rw[Za d] at*
  refine gA Z (cx (by first|exact .inr Z|exact .inl Z) Z Z (by rw[j]) (by rw[j]))
theorem Yu(r:ah)(lit:Int)(h1:lit<r.body.length)(hb:r.size<=100000000):Pure prog 236 [ag r.c,pI lit] (pB (dE r lit)):=by
 have F:=Lit.au r.body;have h0:Lit.aA r.body<=r.size:=aaA _ _;have B:r.size=r.head.ad.length+Lit.aA r.body:=rfl;refine ae ab func236 Z (by decide) ntmps236 Z (by simp) Z ?_;refine zJ Z Z (fun d=>?_) fun d=>?_
 .have d:lit<0:=by simpa using d
  have y:dE r lit=r.head.ad.any fun x=>li (x.kind=3):=am d;refine gA Z ?_
  refine az 0 r.head.ad.length (Y8 _) (fun i=>⟨[(2,.ptr 0 0),(5,pI i)],[(0,io (an r.c))],1⟩) (fun i=>(r.head.ad.take i).any (fun x=>li (x.kind=3))=lc) [] (by simp)
   (zW (zK trivial)) fun i G u=>?_
  refine zJ Z Z (fun b=>?_) fun b=>?_
  .have b:i<r.head.ad.length:=zN b;refine zJ Z Z (fun g=>?_) fun g=>?_
   .rw[y,iN b g];exact zU Z
   .refine gA Z ?_;exact⟨b,(aW u b).2 g,[],zW (zK ac)⟩
  .have b:r.head.ad.length<=i:=zG b;rw[y,any_none u b];exact zU Z
 have d: ¬lit<0:=by simpa using d
 have I:lit.toNat<r.body.length:=by omega
 have A:=Lit.aI r.body lit.toNat I;have S:=(ak r lit).size_eq;have Y:=Lit.au (ak r lit).ar;have D:=(ak r lit).fy;have J:(ak r lit).size<=Lit.aA r.body:=A;refine zJ Z Z (fun j=>?_) fun j=>?_
 .have j: ¬(ak r lit).kind=4:=by simpa[ak]using j
  rw[dE,be d,be j];exact zU Z
 have j:(ak r lit).kind=4:=by simpa[ak]using j
 have y:dE r lit=((ak r lit).ar.any (fun x=>li (x.kind=4))||aE (aF (ak r lit).agg) (ak r lit).a7):=by
  rw[dE,be d,am j,rB (fun x=>ft)]
 refine gA Z ?_;refine az 0 (ak r lit).ar.length (Y8 _) (fun i=>⟨[(6,.ptr 1 0),(7,pI i)],[(1,io (an (ak r lit).c1))],2⟩) (fun i=>((ak r lit).ar.take i).any (fun x=>li (x.kind=4))=lc) [] (by simp)
  (zW (hCL Z (ak r lit).Wu Z trivial)) fun i G u=>?_
 refine zJ Z Z (fun b=>?_) fun b=>?_
 .have b:i<(ak r lit).ar.length:=zN b;refine zJ Z Z (fun g=>?_) fun g=>?_
  .rw[y,iN b g];exact zU Z
  .refine gA Z ?_;exact⟨b,(aW u b).2 g,[],zW (zK ac)⟩
 .have b:(ak r lit).ar.length<=i:=zG b;rw[y,any_none u b,aag];refine gA Z (zp (Al.Pure.le (aa:=[ag (ak r lit).agg.c1]) (Vp (ak r lit).agg (by omega)) ⟨eK.LB _,ac⟩) ?_);refine gA Z (zp (JE (aF (ak r lit).agg) (ak r lit).a7) ?_);exact zU Z
theorem yR(r:ah)(lit:Int)(h1:lit<r.body.length):(bu r lit).length<=1+Lit.aA r.body:=by
 unfold bu;split
 .show 1<=_;omega
 .rename_i x;have A:=mz (o8 r lit);have b:=Lit.aI r.body lit.toNat (by omega);have j:=(ak r lit).size_eq;have u:=Lit.au (ak r lit).ar;have d:(ak r lit).size<=Lit.aA r.body:=b;have y:(o8 r lit).length<=1+(ak r lit).ar.length:=by
   unfold o8;split
   .omega
   .show 1<=_;omega
  omega
theorem FC(r:ah)(lit:Int)(h1:lit<r.body.length):(lk r lit).length<=1+r.size:=by
 have d:r.size=r.head.ad.length+Lit.aA r.body:=rfl;unfold lk;split
 .have:=cY r.head;omega
 .rename_i x;have b:=Lit.aI r.body lit.toNat (by omega);have u:(ak r lit).size<=Lit.aA r.body:=b;have j:=(ak r lit).fy;split
  .have g1:=jA (aF (ak r lit).agg) (ak r lit).a7;have g2:=gr (ak r lit).agg;omega
  .have:=gp (ak r lit);omega
theorem Yt(r:ah)(lit:Int)(h1:lit<r.body.length)(hb:r.size<=100000000):Pure prog 237 [ag r.c,pI lit] (pB (dN r lit)):=by
 have I:=Lit.au r.body;have h0:Lit.aA r.body<=r.size:=aaA _ _;have D:r.size=r.head.ad.length+Lit.aA r.body:=rfl;rw[<-Lq r lit h1];refine ae ab func237 Z (by decide) ntmps237 Z (by simp) Z ?_;refine gA Z (zp (S7 r (by omega)) ?_);refine gA Z (zp (c32 r (by omega)) ?_);refine gM 2 Z (go_cut 3 (fun(_:Unit)=>⟨[(5,.iv (strs (outer r))),(6,.iv (strs (kT r))),(7,.iv (strs (lk r lit))),(8,.iv (strs (nT r lit)))],[],1⟩) Z ?_ ?_)
 .refine zJ Z Z (fun d=>?_) fun d=>?_
  .have d:lit<0:=zT d;have y:lk r lit=bg r.head:=am d;have x:nT r lit=[]:=am d;rw[y,x];refine gA Z (zp (QS r.head (by omega)) ?_);refine gA Z (fx () [] (zM (bv (bv (bv ⟨.nil _ _,rfl,ac⟩))) ac))
  have d: ¬lit<0:=zF d;have Y:lit.toNat<r.body.length:=by omega
  have B:=Lit.aI r.body lit.toNat Y;have G:=(ak r lit).fy;have a0:(ak r lit).size<=Lit.aA r.body:=B;refine gA Z (zp (Xw (ak r lit) (by omega)) ?_);refine zJ Z Z (fun j=>?_) fun j=>?_
  .have j:(ak r lit).kind=4:=zT j;have y:lk r lit=b6 (aF (ak r lit).agg) (ak r lit).a7:=by unfold lk;rw[be d,am j]
   have x:nT r lit=mE r lit:=by unfold nT;rw[be d,am j]
   have J:=gr (ak r lit).agg;rw[y,x];refine gA Z (zp (Vp (ak r lit).agg (by omega)) ?_);refine gA Z (zp (Nt (aF (ak r lit).agg) (ak r lit).a7 (by omega)) ?_);refine gA Z (zp (Yn r lit (by omega) h1 (by omega)) ?_);refine gA Z (fx () [] (zW ac))
  .have j: ¬(ak r lit).kind=4:=zF j;have y:lk r lit=cm (ak r lit):=by unfold lk;rw[be d,be j]
   have x:nT r lit=[]:=by unfold nT;rw[be d,be j]
   rw[y,x];refine gA Z (fx () [] (zM (bv (bv (bv ⟨.nil _ _,rfl,ac⟩))) ac))
 rintro⟨⟩;have b0:=FC r lit h1;have F:F0 r lit=(lk r lit).any (A5 r (nT r lit)):=rfl;rw[F];generalize lk r lit=S at*
 generalize nT r lit=K at*
 refine gA Z ?_;refine az 0 S.length (Y8 _) (fun i=>⟨[(5,.iv (strs (outer r))),(6,.iv (strs (kT r))),(7,.iv (strs S)),(8,.iv (strs K)),(10,pI i)],[],1⟩) (fun i=>(S.take i).any (A5 r K)=lc) [] (by simp)
  (zW trivial) fun i hi A=>?_
 refine zE Z Z (fun b=>?_) fun b=>?_
 .have b:S.length<=i:=zG b;rw[any_none A b];exact zU Z
 have b:i<S.length:=zN b;have u:A5 r K (S.getD i em)=!(if aE (outer r) (S.getD i em)=kw then aE (kT r) (S.getD i em) else aE K (S.getD i em)):=rfl;refine gA Z (zp (JE (outer r) (S.getD i em)) ?_);refine gA Z (zp (JE (kT r) (S.getD i em)) ?_);refine zJ Z Z (fun g=>?_) fun g=>?_
 .have g:aE (outer r) (S.getD i em)=lc:=by simpa using g
  rw[be (by rw[g];decide)]at u;refine gA Z (zp (JE K (S.getD i em)) ?_);refine zJ Z Z (fun q=>?_) fun q=>?_
  .rw[iN b (u.trans q)];exact zU Z
  .refine gA Z ?_;exact⟨b,(aW A b).2 (u.trans q),[],zW ac⟩
 .have g:aE (outer r) (S.getD i em)=kw:=by simpa using g
  rw[am g]at u;refine zJ Z Z (fun q=>?_) fun q=>?_
  .rw[iN b (u.trans q)];exact zU Z
  .refine gA Z ?_;exact⟨b,(aW A b).2 (u.trans q),[],zW ac⟩
def zV(r:ah):Nat->Nat
 |0=>(outer r).length
 |i+1=>zV r i+(mD r i).length
theorem AB(r:ah)(i:Nat)(h:i<r.body.length):(mD r i).length=kB r (r.body.getD i em):=by
 have e:ak r i=r.body.getD i em:=rfl;rw[<-Fv,th,kB,e];by_cases b:(r.body.getD i em).kind=4
 .rw[be (by rintro(g|g|g)<;>omega),am b,fe,jE,Zx]
 .rw[am (.inr (.inr b)),be b];rfl
theorem CZ(r:ah): ∀i,i<=r.body.length->zV r i=(r.body.take i).foldl (fun n l=>n+kB r l) (aC (ay r)).length
 |0,_=>by
  show(outer r).length=(aC (ay r)).length;rw[<-xq,fe,jE,Zx]
 |i+1,h=>by
  rw[zV,CZ r i (by omega),AB r i (by omega),cI (g:=fun n l=>n+kB r l) (show i<r.body.length by omega)]
theorem YE(r:ah)(hb:r.size<=100000000):Pure prog 209 [ag r.c] (pI (tY r)):=by
 have j:=Lit.au r.body;have I:Lit.aA r.body<=r.size:=aaA _ _;have J:=oU r;have A:=kP (ay r);refine ae ab func209 Z (by decide) ntmps209 Z (by simp) Z ?_;refine gA Z (zp (S7 r (by omega)) ?_);refine gA Z ?_;refine az 0 r.body.length (Y8 _) (fun i=>⟨[(1,.ptr 0 0),(4,pI (zV r i:Nat)),(5,pI i)],[(0,io (an r.c))],1⟩) (fun _=>True) [] ac
  (zW (zK trivial)) fun i u _=>?_
 have G:=CZ r i u;have B:=xz r (r.body.take i) (aC (ay r)).length;have D:=Lit.sP r.body i;refine zJ Z Z (fun b=>?_) fun b=>?_
 .have b:i<r.body.length:=zN b;have F:=Lit.aI r.body i b;have y:=vq r (r.body.getD i em);have x:=AB r i b;refine gA Z (zp (c36 r i (by omega)) ?_);refine gA Z ⟨b,ac,[],zM (bv ⟨.of_eq (FN (by show _=((zV r i+(mD r i).length:Nat):Int);omega)),rfl,bv ac⟩) (zK ac)⟩
 .have b:r.body.length<=i:=zG b;have d:i=r.body.length:=by omega
  subst d;have e:zV r r.body.length=tY r:=by rw[G,Za (Y7 _)];rfl
  rw[<-e];exact zU Z
theorem c67(r:ah)(n:Int)(hb:r.size<=100000000):Pure prog 175 [ag r.c,pI n] (ag (rP r n).c):=by
 have x:=Lit.au r.body;have y:Lit.aA r.body<=r.size:=aaA _ _;refine ae ab func175 Z (by decide) ntmps175 Z (by simp) Z ?_;refine zE Z Z (fun g1=>?_) fun g1=>?_
 .have g1:n>256:=zT g1;rw[rP,am (.inl g1)]
  repeat(refine gA Z (zI (fun q=>?_) (fun q=>?_));all_goals(try(simp at q;done)))
  refine gA Z (zp (S6 66 r.at_) ?_);exact zU Z
 have g1: ¬n>256:=zF g1;refine zJ Z Z (fun g2=>?_) fun g2=>?_
 .have g2:(r.body.length:Int)>12:=zT g2;rw[rP,am (.inr g2)];refine gA Z (zp (S6 66 r.at_) ?_);exact zU Z
 have g2: ¬(r.body.length:Int)>12:=zF g2;refine gA Z (zp (YE r hb) ?_);refine zJ Z Z (fun g3=>?_) fun g3=>?_
 .have g3:(tY r:Int)>24:=zT g3;rw[rP,be (by omega),am g3];refine gA Z (zp (S6 66 r.at_) ?_);exact zU Z
 have g3: ¬(tY r:Int)>24:=zF g3;have u:rP r n=match r.body.find? pA with
  |some l=>(66,l.at)
  |none=>aY.z:=by rw[rP,be (by omega),be g3]<;>rfl
 refine gA Z ?_;refine az 0 r.body.length (Y8 _) (fun i=>⟨[(2,.ptr 0 0),(4,.ptr 1 0),(6,pI i)],[(0,io (an r.c)),(1,io (an aY.z.c))],2⟩) (fun i=>(r.body.take i).any pA=lc) [] (by simp)
  (zW (zK (zK trivial))) fun i A j=>?_
 refine zE Z Z (fun b=>?_) fun b=>?_
 .have b:r.body.length<=i:=zG b;rw[u,eJ (any_none j b)];exact zU Z
 have b:i<r.body.length:=zN b;have hW:pA (r.body.getD i em)=(li ((r.body.getD i em).kind=4)&&li (((r.body.getD i em).ar.length:Int)>12)):=rfl;refine zE Z Z (fun d=>?_) fun d=>?_
 .have d:li ((r.body.getD i em).kind=4)=lc:=d;rw[d,Z9]at hW
  repeat(refine gA Z (zI (fun q=>?_) (fun q=>?_));all_goals(try(simp at q;done)))
  refine gA Z ⟨b,(aW j b).2 hW,[],zW (zK (zK ac))⟩
 have d:li ((r.body.getD i em).kind=4)=kw:=d;rw[d,ZR]at hW;refine zJ Z Z (fun w=>?_) fun w=>?_
 .rw[u,kW j b (hW.trans w)];refine gA Z (zp (S6 66 (r.body.getD i em).at) ?_);exact zU Z
 .refine gA Z ?_;exact⟨b,(aW j b).2 (hW.trans w),[],zW (zK (zK ac))⟩
def dK(p:Prog)(r:ah)(e lit:Int):Bool:=
 if e=1 then uL r lit else if e=61 then(bu r lit).any (fun x=>lV p x) else if e=62 then(bu r lit).any (fun x=>ni p x) else if e=65 then dE r lit else if e=64 then dN r lit else lc
theorem YF(p:Prog)(r:ah)(lit e:Int)(hp:p.aD.length<=1000000000)(hf:r.fit)(h1:lit<r.body.length):Pure prog 207 [ag p.c,ag r.c,pI lit,pI e] (pB (dK p r e lit)):=by
 obtain⟨hb,hh,hB⟩:=hf;have Y:=Dc r.head;have S:Lit.aA r.body<=r.size:=aaA _ _;refine ae ab func207 Z (by decide) ntmps207 Z (by simp) Z ?_;refine zJ Z Z (fun d=>?_) fun d=>?_
 .have d:e=1:=zT d;have hW:dK p r e lit=uL r lit:=am d;rw[hW];refine zJ Z Z (fun j=>?_) fun j=>?_
  .have j:lit<0:=zT j;have B:uL r lit=(fg r.head).2:=am j;rw[B];refine gA Z (zp (c62 r.head hh (by omega)) ?_);refine gA Z (zL (.of_eq ?_));refine(fP ?_:pB _=pB _);cases(fg r.head).2<;>rfl
  .have j: ¬lit<0:=zF j;have B:uL r lit=(pH (ak r lit)).2:=be j;have J:ak r lit∈r.body:=by
    unfold ak;rw[YZ,Y3 (show lit.toNat<r.body.length by omega)];exact ZJ _
   rw[B];refine gA Z (bj (Yv (ak r lit) (hB _ J)) Z Z Z Z Z Z ?_);refine gA Z (zL (.of_eq ?_));refine(fP ?_:pB _=pB _);cases(pH (ak r lit)).2<;>rfl
 have d: ¬e=1:=zF d;refine zJ Z Z (fun z2=>?_) fun z2=>?_
 .have z2:e=61:=zT z2;have hW:dK p r e lit=(bu r lit).any (fun x=>lV p x):=by unfold dK;rw[be d,am z2]
  rw[hW];refine gA Z (zp (W9 r lit h1 (by omega)) ?_);refine gA Z ?_;have D:=yR r lit h1;generalize bu r lit=L at*
  refine az 0 L.length (Y8 _) (fun i=>⟨[(3,pI e),(4,.ptr 0 0),(11,.iv (cZ 2 L Atom.c)),(12,pI i)],[(0,io (an p.c))],2⟩) (fun i=>(L.take i).any (fun x=>lV p x)=lc) [] (by simp)
   (zW (zK trivial)) fun i I u=>?_
  refine zE Z Z (fun b=>?_) fun b=>?_
  .have b:L.length<=i:=zG b;rw[any_none u b];exact zU Z
  have b:i<L.length:=zN b;refine gA Z (n7 (X4 p (L.getD i em).rel (by omega)) ?_);refine zJ Z Z (fun y=>?_) fun y=>?_
  .refine zJ Z Z (fun F=>?_) fun F=>?_
   .rw[iN b (show lV p (L.getD i em)=kw from F)]
    repeat(refine gA Z (zI (fun q=>?_) (fun q=>?_));all_goals(try(simp at q;done)))
    exact zU Z
   .refine zJ Z Z (fun A=>?_) fun A=>?_
    .exact absurd (zT A) (by omega)
    repeat(refine gA Z (zI (fun q=>?_) (fun q=>?_));all_goals(try(simp at q;done)))
    refine gA Z ⟨b,(aW u b).2 F,[],zW (zK ac)⟩
  .exact absurd z2 (zF y)
 have z2: ¬e=61:=zF z2;refine zJ Z Z (fun z3=>?_) fun z3=>?_
 .have z3:e=62:=zT z3;have hW:dK p r e lit=(bu r lit).any (fun x=>ni p x):=by unfold dK;rw[be d,be z2,am z3]
  rw[hW];refine gA Z (zp (W9 r lit h1 (by omega)) ?_);refine gA Z ?_;have D:=yR r lit h1;generalize bu r lit=L at*
  refine az 0 L.length (Y8 _) (fun i=>⟨[(3,pI e),(4,.ptr 0 0),(11,.iv (cZ 2 L Atom.c)),(12,pI i)],[(0,io (an p.c))],2⟩) (fun i=>(L.take i).any (fun x=>ni p x)=lc) [] (by simp)
   (zW (zK trivial)) fun i I u=>?_
  refine zE Z Z (fun b=>?_) fun b=>?_
  .have b:L.length<=i:=zG b;rw[any_none u b];exact zU Z
  have b:i<L.length:=zN b;refine gA Z (n7 (X4 p (L.getD i em).rel (by omega)) ?_);refine zJ Z Z (fun y=>?_) fun y=>?_
  .exact absurd (zT y) z2
  refine zJ Z Z (fun A=>?_) fun A=>?_
  .refine zJ Z Z (fun G=>?_) fun G=>?_
   .rw[iN b (show ni p (L.getD i em)=kw from G)];exact zU Z
   .refine gA Z ?_;exact⟨b,(aW u b).2 G,[],zW (zK ac)⟩
  .exact absurd z3 (zF A)
 have z3: ¬e=62:=zF z3;refine zJ Z Z (fun z4=>?_) fun z4=>?_
 .have z4:e=65:=zT z4;have hW:dK p r e lit=dE r lit:=by unfold dK;rw[be d,be z2,be z3,am z4]
  rw[hW];refine gA Z (zp (Yu r lit h1 (by omega)) ?_);exact zU Z
 have z4: ¬e=65:=zF z4;refine zJ Z Z (fun z5=>?_) fun z5=>?_
 .have z5:e=64:=zT z5;have hW:dK p r e lit=dN r lit:=by unfold dK;rw[be d,be z2,be z3,be z4,am z5]
  rw[hW];refine gA Z (zp (Yt r lit h1 (by omega)) ?_);exact zU Z
 .have z5: ¬e=64:=zF z5;have hW:dK p r e lit=lc:=by unfold dK;rw[be d,be z2,be z3,be z4,be z5]
  rw[hW];exact zU Z
theorem WW(p:Prog)(r:ah)(e:Int)(hp:p.aD.length<=1000000000)(hf:r.fit):Pure prog 174 [ag p.c,ag r.c,pI e] (ag (bL r e (dK p r e) aY.z).c):=by
 have u:=Lit.au r.body;have B:Lit.aA r.body<=r.size:=aaA _ _;have x:=hf.1;have A:=ry r.body.length;refine ae ab func174 Z (by decide) ntmps174 Z (by simp) Z ?_;refine gA Z ?_;refine az 0 (r.body.length+1) (Y8 _) (fun i=>⟨[(2,pI e),(3,.ptr 0 0),(4,.ptr 1 0),(6,.ptr 2 0),(7,pI ((i:Int)-1))],[(0,io (an p.c)),(1,io (an r.c)),(2,io (an aY.z.c))],3⟩) (fun i=>((jd r.body.length).take i).any (dK p r e)=lc) [] (by simp)
  (zW (zK (zK (zK trivial)))) fun i D d=>?_
 refine zE Z Z (fun b=>?_) fun b=>?_
 .have b: ¬(i:Int)-1<(r.body.length:Int):=zF b;have j:bL r e (dK p r e) aY.z=aY.z:=by
   unfold bL vG;rw[eJ (any_none d (by omega))]
  rw[j];exact zU Z
 have b:(i:Int)-1<(r.body.length:Int):=zT b;have y:=rz r.body.length i (by omega);refine gA Z (zp (YF p r ((i:Int)-1) e hp hf b) ?_);refine zJ Z Z (fun g=>?_) fun g=>?_
 .rw[mC d (by omega) g];refine gA Z (zp (U6 r ((i:Int)-1) b) ?_);refine gA Z (zp (S6 e (fq r ((i:Int)-1))) ?_);exact zU Z
 .refine gA Z ?_;exact⟨by omega,(aW d (by omega)).2 (by rw[y];exact g),[],zM (bv (bv (bv (bv ⟨.of_eq (FN (by omega)),rfl,ac⟩)))) (zK (zK (zK ac)))⟩
theorem PF(p:Prog)(i:Nat)(s:aj):bU .str (aC (dM p i)) s 0>0↔s∈dM p i:=by
 rw[bB];constructor
 .intro h;exact oF.1 (by omega)
 .intro h;have:=oF.2 h;omega
theorem PG(p:Prog)(i:Nat)(s:aj):((p.aD.take i).any fun d=>li (d.name=s))=kw↔s∈dM p i:=by
 unfold dM;rw[ZQ,ZD];constructor
 .rintro⟨d,h1,h2⟩;exact⟨d,h1,zT h2⟩
 .rintro⟨d,h1,h2⟩;exact⟨d,h1,decide_eq_true h2⟩
def FP(x:Int):Bool:=li (x=1)||decide (x=2)
def ui(d:Decl)(k:Nat):Bool:=ep d.name&&(d.types.take k).all FP
theorem FQ{d:Decl}{k:Nat}(h:k<d.types.length):ui d (k+1)=(ui d k&&FP (d.types.getD k em)):=by
 unfold ui;rw[bz h,List.all_append,<-Bool.and_assoc];simp
theorem I1(d:Decl):ui d d.types.length=lc↔((d.types.any fun x=>!li (x=1)&&!li (x=2))=kw∨ep d.name=lc):=by
 unfold ui;rw[Za (Y7 _),Bool.and_eq_false_iff];have:d.types.all FP=lc↔(d.types.any fun x=>!li (x=1)&&!li (x=2))=kw:=by
  rw[aaN,ZQ];constructor
  .rintro⟨x,h1,h2⟩;refine⟨x,h1,?_⟩;unfold FP at h2;simpa using h2
  .rintro⟨x,h1,h2⟩;refine⟨x,h1,?_⟩;unfold FP;simpa using h2
 rw[this];exact Or.comm
theorem c82(p:Prog)(i:Nat)(hi:i<p.aD.length)(hs:p.size<=10000000):Pure prog 131 [ag p.c,pI i] (pI (dI p i)):=by
 have S:p.aD.length<=p.size:=by unfold Prog.size;omega
 have Y:(p.aD.getD i em).types.length<=p.size:=by
  have:=GQ (fun d:Decl=>d.types.length) p.aD i hi;unfold Prog.size;have h2:(p.aD.getD i em).types.length<=(p.aD.map fun d=>d.types.length).sum:=this;omega
 have hR:dI p i=if(((p.aD.getD i em).types.any fun x=>!li (x=1)&&!li (x=2))=kw∨ep (p.aD.getD i em).name=lc) then 1 else if(i:Int)>=64∨((p.aD.getD i em).types.length:Int)>8 then 66 else if bU .str (aC (dM p i)) (p.aD.getD i em).name 0>0 then 60 else 0:=rfl;have F:=I1 (p.aD.getD i em);have G:=PF p i (p.aD.getD i em).name;have I:=PG p i (p.aD.getD i em).name;refine ae ab func131 Z (by decide) ntmps131 Z (by simp) Z ?_;refine gA Z (zp (c56 (p.aD.getD i em).name) ?_);refine gA Z ?_;refine az 0 (p.aD.getD i em).types.length (Y8 _) (fun k=>⟨[(1,pI i),(2,.ptr 0 0),(5,.ptr 1 0),(6,pB (ui (p.aD.getD i em) k)),(7,pI k)],[(0,io (an p.c)),(1,io (an (p.aD.getD i em).c))],2⟩) (fun _=>True) [] ac
  (zM (bv (bv (bv ⟨.of_eq (fP (by unfold ui;simp)),rfl,bv trivial⟩))) (zK (zK trivial))) fun k J _=>?_
 refine zJ Z Z (fun b=>?_) fun b=>?_
 .have b:k<(p.aD.getD i em).types.length:=zN b;have A:=FQ b
  repeat' (first
   |(refine gA Z (zI (fun q=>?_) (fun q=>?_)))
   |fail)
  all_goals(refine gA Z ?_)
  all_goals first
   |exact⟨b,ac,[],zM (bv (bv (bv ⟨.of_eq (fP (by rw[A];unfold FP;simp_all)),rfl,bv ac⟩))) (zK (zK ac))⟩
   |exact⟨b,ac,[],zM (bv (bv (bv ⟨.rA (by rw[A];unfold FP;simp_all),rfl,bv ac⟩))) (zK (zK ac))⟩
 have b:(p.aD.getD i em).types.length<=k:=zG b;have j:k=(p.aD.getD i em).types.length:=by omega
 subst j;refine zJ Z Z (fun g1=>?_) fun g1=>?_
 .have g1:ui (p.aD.getD i em) (p.aD.getD i em).types.length=lc:=by simpa using g1
  rw[hR,am (F.1 g1)];exact zU Z
 have g1: ¬ui (p.aD.getD i em) (p.aD.getD i em).types.length=lc:=by
  intro h;rw[h]at g1;simp at g1
 rw[be fun h=>g1 (F.2 h)]at hR;refine zE Z Z (fun g2=>?_) fun g2=>?_
 .have g2:(i:Int)>=64:=zT g2;rw[hR,am (.inl g2)]
  repeat(refine gA Z (zI (fun q=>?_) (fun q=>?_));all_goals(try(simp at q;done)))
  exact zU Z
 have g2: ¬(i:Int)>=64:=zF g2;refine zJ Z Z (fun g3=>?_) fun g3=>?_
 .have g3:((p.aD.getD i em).types.length:Int)>8:=zT g3;rw[hR,am (.inr g3)];exact zU Z
 have g3: ¬((p.aD.getD i em).types.length:Int)>8:=zF g3;rw[be (by omega)]at hR;refine gA Z ?_;refine az 0 i (Y8 _) (fun k=>⟨[(1,pI i),(2,.ptr 0 0),(5,.ptr 1 0),(8,pI k)],[(0,io (an p.c)),(1,io (an (p.aD.getD i em).c))],2⟩) (fun k=>((p.aD.take k).any fun x=>li (x.name=(p.aD.getD i em).name))=lc) [] (by simp)
  (zW (zK (zK trivial))) fun k J B=>?_
 refine zJ Z Z (fun u=>?_) fun u=>?_
 .have u:k<i:=zN u;have y:k<p.aD.length:=by omega
  refine zJ Z Z (fun w=>?_) fun w=>?_
  .have w:li ((p.aD.getD k em).name=(p.aD.getD i em).name)=kw:=w;have D:(p.aD.getD i em).name∈dM p i:=by
    refine I.1 (ZQ.2 ⟨p.aD.getD k em,?_,w⟩);rw[YZ,Y3 y];exact abE.2 ⟨k,by omega,rfl⟩
   rw[hR,am (G.2 D)];exact zU Z
  .have w:li ((p.aD.getD k em).name=(p.aD.getD i em).name)=lc:=w;refine gA Z ⟨u,(aW B y).2 w,[],zW (zK (zK ac))⟩
 .have u:i<=k:=zG u;have j:k=i:=by omega
  subst j;rw[hR,be fun h=>by rw[I.2 (G.1 h)]at B;cases B];exact zU Z
theorem k1(p:Prog)(r:ah)(hp:p.aD.length<=1000000000)(hf:r.fit):Pure prog 174 [ag p.c,ag r.c,pI 1] (ag (aY.c (bL r 1 (uL r) aY.z))):=by
 have e:dK p r 1=uL r:=funext fun lit=>am Z;have:=WW p r 1 hp hf;rwa[e]at this
theorem k61(p:Prog)(r:ah)(hp:p.aD.length<=1000000000)(hf:r.fit):Pure prog 174 [ag p.c,ag r.c,pI 61] (ag (aY.c (bL r 61 (fun lit=>(bu r lit).any fun x=>lV p x) aY.z))):=by
 have e:dK p r 61=fun lit=>(bu r lit).any fun x=>lV p x:=funext fun lit=>by unfold dK;rw[be (by decide),am Z]
 have:=WW p r 61 hp hf;rwa[e]at this
theorem k62(p:Prog)(r:ah)(hp:p.aD.length<=1000000000)(hf:r.fit):Pure prog 174 [ag p.c,ag r.c,pI 62] (ag (aY.c (bL r 62 (fun lit=>(bu r lit).any fun x=>ni p x) aY.z))):=by
 have e:dK p r 62=fun lit=>(bu r lit).any fun x=>ni p x:=funext fun lit=>by unfold dK;rw[be (by decide),be (by decide),am Z]
 have:=WW p r 62 hp hf;rwa[e]at this
theorem k65(p:Prog)(r:ah)(hp:p.aD.length<=1000000000)(hf:r.fit):Pure prog 174 [ag p.c,ag r.c,pI 65] (ag (aY.c (bL r 65 (dE r) aY.z))):=by
 have e:dK p r 65=dE r:=funext fun lit=>by unfold dK;rw[be (by decide),be (by decide),be (by decide),am Z]
 have:=WW p r 65 hp hf;rwa[e]at this
theorem k64(p:Prog)(r:ah)(hp:p.aD.length<=1000000000)(hf:r.fit):Pure prog 174 [ag p.c,ag r.c,pI 64] (ag (aY.c (bL r 64 (dN r) aY.z))):=by
 have e:dK p r 64=dN r:=funext fun lit=>by unfold dK;rw[be (by decide),be (by decide),be (by decide),be (by decide),am Z]
 have:=WW p r 64 hp hf;rwa[e]at this
theorem IU(a b c:aY):nf (nf a b) c=nf a (nf b c):=by
 unfold nf;by_cases h:a.1=0
 .rw[am h,am h]
 .rw[be h,be h,be h]
set_option maxHeartbeats 2000000 in
theorem c27(p:Prog)(n:Int)(hf:p.fit):Pure prog 133 [ag p.c,pI n] (ag (if n<1∨(p.rules.length:Int)<n then(1,⟨0,0⟩) else pF p (p.rules.getD (n-1).toNat em) n:aY).c):=by
 obtain⟨b,J,u⟩:=hf;refine ae ab func133 Z (by decide) ntmps133 Z (by simp) Z ?_;refine zE Z Z (fun g1=>?_) fun g1=>?_
 .have g1:n<1:=zT g1;rw[am (.inl g1)]
  repeat(refine gA Z (zI (fun q=>?_) (fun q=>?_));all_goals(try(simp at q;done)))
  exact zU Z
 have g1: ¬n<1:=zF g1;refine zJ Z Z (fun g2=>?_) fun g2=>?_
 .have g2:n>(p.rules.length:Int):=zT g2;rw[am (.inr g2)];exact zU Z
 have g2: ¬n>(p.rules.length:Int):=zF g2;rw[be (by omega)];have j:(n-1).toNat<p.rules.length:=by omega
 have d:(p.rules.getD (n-1).toNat em).fit:=u _ (by rw[YZ,Y3 j];exact ZJ j);have S:=d.1;refine gA Z (zp (k1 p (p.rules.getD (n-1).toNat em) b d) ?_);generalize p.rules.getD (n-1).toNat em=r at*
 rw[<-Pu];have hR:KN p r n=nf (nf (nf (nf (nf (nf (bL r 1 (uL r) aY.z) (rP r n)) (bL r 61 (fun lit=>(bu r lit).any fun x=>lV p x) aY.z)) (bL r 62 (fun lit=>(bu r lit).any fun x=>ni p x) aY.z)) (bL r 65 (dE r) aY.z)) (jm r (nF p r))) (bL r 64 (dN r) aY.z):=by
  simp only[IU];rfl
 rw[hR];clear hR;generalize y:bL r 1 (uL r) aY.z=D0 at*
 refine gM 3 Z (go_cut 1 (fun(_:Unit)=>⟨[(1,pI n),(2,.ptr 0 0),(4,.ptr 1 0),(5,.ptr 2 0),(6,.ptr 3 0)],[(0,io (an p.c)),(1,io (an aY.z.c)),(2,io (an r.c)),(3,io (an (aY.c (nf D0 (rP r n)))))],4⟩) Z ?_ ?_)
 .refine zJ Z Z (fun g=>?_) fun g=>?_
  .have g:Zu D0=0:=zT g;refine gA Z (zp (c67 r n (by omega)) ?_);rw[show nf D0 (rP r n)=(rP r n) from am g];refine gA Z (fx () [] (zW (zK (zK (zK (zK ac))))))
  .have g: ¬Zu D0=0:=zF g;rw[show nf D0 (rP r n)=D0 from be g];refine gA Z (fx () [] (zW (zK (zK (zK (zK ac))))))
 rintro⟨⟩;generalize A:nf D0 (rP r n)=D1 at*
 refine go_cut 1 (fun(_:Unit)=>⟨[(1,pI n),(2,.ptr 0 0),(4,.ptr 1 0),(5,.ptr 2 0),(6,.ptr 3 0)],[(0,io (an p.c)),(1,io (an aY.z.c)),(2,io (an r.c)),(3,io (an (aY.c (nf D1 (bL r 61 (fun lit=>(bu r lit).any fun x=>lV p x) aY.z)))))],4⟩) Z ?_ ?_
 .refine zJ Z Z (fun g=>?_) fun g=>?_
  .have g:Zu D1=0:=zT g;refine gA Z (zp (k61 p r b d) ?_);rw[show nf D1 (bL r 61 (fun lit=>(bu r lit).any fun x=>lV p x) aY.z)=(bL r 61 (fun lit=>(bu r lit).any fun x=>lV p x) aY.z) from am g];refine gA Z (fx () [] (zW (zK (zK (zK (zK ac))))))
  .have g: ¬Zu D1=0:=zF g;rw[show nf D1 (bL r 61 (fun lit=>(bu r lit).any fun x=>lV p x) aY.z)=D1 from be g];refine gA Z (fx () [] (zW (zK (zK (zK (zK ac))))))
 rintro⟨⟩;generalize B:nf D1 (bL r 61 (fun lit=>(bu r lit).any fun x=>lV p x) aY.z)=D2 at*
 refine go_cut 1 (fun(_:Unit)=>⟨[(1,pI n),(2,.ptr 0 0),(4,.ptr 1 0),(5,.ptr 2 0),(6,.ptr 3 0)],[(0,io (an p.c)),(1,io (an aY.z.c)),(2,io (an r.c)),(3,io (an (aY.c (nf D2 (bL r 62 (fun lit=>(bu r lit).any fun x=>ni p x) aY.z)))))],4⟩) Z ?_ ?_
 .refine zJ Z Z (fun g=>?_) fun g=>?_
  .have g:Zu D2=0:=zT g;refine gA Z (zp (k62 p r b d) ?_);rw[show nf D2 (bL r 62 (fun lit=>(bu r lit).any fun x=>ni p x) aY.z)=(bL r 62 (fun lit=>(bu r lit).any fun x=>ni p x) aY.z) from am g];refine gA Z (fx () [] (zW (zK (zK (zK (zK ac))))))
  .have g: ¬Zu D2=0:=zF g;rw[show nf D2 (bL r 62 (fun lit=>(bu r lit).any fun x=>ni p x) aY.z)=D2 from be g];refine gA Z (fx () [] (zW (zK (zK (zK (zK ac))))))
 rintro⟨⟩;generalize D:nf D2 (bL r 62 (fun lit=>(bu r lit).any fun x=>ni p x) aY.z)=D3 at*
 refine go_cut 1 (fun(_:Unit)=>⟨[(1,pI n),(2,.ptr 0 0),(4,.ptr 1 0),(5,.ptr 2 0),(6,.ptr 3 0)],[(0,io (an p.c)),(1,io (an aY.z.c)),(2,io (an r.c)),(3,io (an (aY.c (nf D3 (bL r 65 (dE r) aY.z)))))],4⟩) Z ?_ ?_
 .refine zJ Z Z (fun g=>?_) fun g=>?_
  .have g:Zu D3=0:=zT g;refine gA Z (zp (k65 p r b d) ?_);rw[show nf D3 (bL r 65 (dE r) aY.z)=(bL r 65 (dE r) aY.z) from am g];refine gA Z (fx () [] (zW (zK (zK (zK (zK ac))))))
  .have g: ¬Zu D3=0:=zF g;rw[show nf D3 (bL r 65 (dE r) aY.z)=D3 from be g];refine gA Z (fx () [] (zW (zK (zK (zK (zK ac))))))
 rintro⟨⟩;generalize F:nf D3 (bL r 65 (dE r) aY.z)=D4 at*
 refine go_cut 1 (fun(_:Unit)=>⟨[(1,pI n),(2,.ptr 0 0),(4,.ptr 1 0),(5,.ptr 2 0),(6,.ptr 3 0)],[(0,io (an p.c)),(1,io (an aY.z.c)),(2,io (an r.c)),(3,io (an (aY.c (nf D4 (jm r (nF p r))))))],4⟩) Z ?_ ?_
 .refine zJ Z Z (fun g=>?_) fun g=>?_
  .have g:Zu D4=0:=zT g;refine gA Z (zp (c68 p r b (by omega)) ?_);rw[show nf D4 (jm r (nF p r))=(jm r (nF p r)) from am g];refine gA Z (fx () [] (zW (zK (zK (zK (zK ac))))))
  .have g: ¬Zu D4=0:=zF g;rw[show nf D4 (jm r (nF p r))=D4 from be g];refine gA Z (fx () [] (zW (zK (zK (zK (zK ac))))))
 rintro⟨⟩;generalize G:nf D4 (jm r (nF p r))=D5 at*
 refine go_cut 1 (fun(_:Unit)=>⟨[(1,pI n),(2,.ptr 0 0),(4,.ptr 1 0),(5,.ptr 2 0),(6,.ptr 3 0)],[(0,io (an p.c)),(1,io (an aY.z.c)),(2,io (an r.c)),(3,io (an (aY.c (nf D5 (bL r 64 (dN r) aY.z)))))],4⟩) Z ?_ ?_
 .refine zJ Z Z (fun g=>?_) fun g=>?_
  .have g:Zu D5=0:=zT g;refine gA Z (zp (k64 p r b d) ?_);rw[show nf D5 (bL r 64 (dN r) aY.z)=(bL r 64 (dN r) aY.z) from am g];refine gA Z (fx () [] (zW (zK (zK (zK (zK ac))))))
  .have g: ¬Zu D5=0:=zF g;rw[show nf D5 (bL r 64 (dN r) aY.z)=D5 from be g];refine gA Z (fx () [] (zW (zK (zK (zK (zK ac))))))
 rintro⟨⟩;generalize I:nf D5 (bL r 64 (dN r) aY.z)=D6 at*
 exact zU Z
theorem X7(p:Prog)(k:Nat)(b:k<p.rules.length)(hf:p.fit):Pure prog 133 [ag p.c,pI ((k:Int)+1)] (ag (p6 p k).c):=by
 have:=c27 p ((k:Int)+1) hf;rw[be (by omega),show((k:Int)+1-1).toNat=k by omega]at this;exact this
theorem Kt{α:Type}(l:List α)(x:α):l.length+1=(l++ [x]).length:=by simp
theorem Ks{α:Type}{β:Type _}(f:α->β)(l:List α)(x:α):l.map f++ [f x]=(l++ [x]).map f:=by simp
set_option maxHeartbeats 1000000 in
theorem c41(p:Prog)(hf:p.fit)(hs:p.size<=10000000):Pure prog 103 [ag p.c] (.iv (cZ 3 (jk p) aY.c)):=by
 have y:=hf.1;have A:=hf.2.1;refine ae ab func103 Z (by decide) ntmps103 Z (by simp) Z ?_;refine gA Z ?_;refine fU 3 3 Z ?_;refine az 0 p.aD.length (Y8 _) (fun i=>⟨[(1,.ptr 0 0),(3,.sl 2 0 (jo p i).length 3),(4,pI i)],[(0,io (an p.c)),(2,io (aG 3 (jo p i) aY.c))],3⟩) (fun _=>True) [1] ac
  (zW (zK (zS trivial))) fun i B _=>?_
 have D:=DJ p i;refine zJ Z Z (fun j=>?_) fun j=>?_
 .have j:i<p.aD.length:=zN j;refine gA Z (zp (c82 p i j hs) ?_);refine zJ Z Z (fun g=>?_) fun g=>?_
  .have g: ¬dI p i=0:=zX g;have b:jo p (i+1)=jo p i++ [(dI p i,(p.aD.getD i em).at_)]:=by rw[jo,be g]
   refine gA Z (zp (S6 (dI p i) (p.aD.getD i em).at_) ?_);refine gA Z ⟨j,ac,[4],zM (bv ⟨.row (by rw[b,Y1];rfl),rfl,bv ac⟩) (zK (hR Z (by rw[b,Y6];rfl) Z ac))⟩
  .have g:dI p i=0:=zY g;have b:jo p (i+1)=jo p i:=by rw[jo,am g,ZE]
   refine gA Z ⟨j,ac,[2],zM (bv ⟨.row (by rw[b]),rfl,bv ac⟩) (zK (hR Z (by rw[b]) Z ac))⟩
 have j:p.aD.length<=i:=zG j;have u:i=p.aD.length:=by omega
 subst u;refine gA Z ?_;refine az 0 p.rules.length (Y8 _) (fun i=>⟨[(1,.ptr 0 0),(3,.sl 3 0 (jo p p.aD.length++kg p i).length 3),(6,pI ((i:Int)+1))],[(0,io (an p.c)),(3,io (aG 3 (jo p p.aD.length++kg p i) aY.c))],4⟩) (fun _=>True) [2] ac
  (zM (bv ⟨.row (by rw[kg,ZE]),rfl,bv trivial⟩) (zK (hR Z (by rw[kg,ZE]) Z trivial))) fun i B _=>?_
 have F:=Dz p i;have x:(jo p p.aD.length++kg p i).length=(jo p p.aD.length).length+(kg p i).length:=Y1;refine zJ Z Z (fun d=>?_) fun d=>?_
 .have d:(i:Int)+1<=(p.rules.length:Int):=zT d;have d:i<p.rules.length:=by omega
  refine gA Z (zp (X7 p i d hf) ?_);refine zJ Z Z (fun g=>?_) fun g=>?_
  .have g: ¬(p6 p i).1=0:=zX g;have b:jo p p.aD.length++kg p (i+1)=(jo p p.aD.length++kg p i)++ [p6 p i]:=by rw[kg,be g,Zc]
   refine gA Z ⟨d,ac,[6],zM (bv ⟨.row (by rw[b];exact Kt _ _),rfl,.of_eq (FN (by omega)),rfl,ac⟩) (zK (hR Z (by rw[b];exact Ks _ _ (p6 p i)) Z ac))⟩
  .have g:(p6 p i).1=0:=zY g;have b:kg p (i+1)=kg p i:=by rw[kg,am g,ZE]
   refine gA Z ⟨d,ac,[3],zM (bv ⟨.row (by rw[b]),rfl,.of_eq (FN (by omega)),rfl,ac⟩) (zK (hR Z (by rw[b]) Z ac))⟩
 have d: ¬(i:Int)+1<=(p.rules.length:Int):=zF d;have u:i=p.rules.length:=by omega
 subst u;refine gA Z (cx (by first|exact .inr Z|exact .inl Z) Z Z (rfl) (rfl))
theorem c25(p:Prog)(hf:p.fit)(hs:p.size<=10000000):Pure prog 61 [ag p.c] (ag (dz p).c):=by
 refine ae ab func61 Z (by decide) ntmps61 Z (by simp) Z ?_;refine gA Z (zp (c41 p hf hs) ?_);have hC:dz p=(jk p).headD aY.z:=rfl;rw[hC];generalize jk p=L at*
 refine zJ Z Z (fun g=>?_) fun g=>?_
 .have g:(L.length:Int)=0:=zT g;have:L=[]:=ZW (by omega);subst this;exact zU Z
 .have g: ¬(L.length:Int)=0:=zF g;refine gA Z (zL (.of_eq ?_));cases L with
  |nil=>simp at g
  |cons d l=>rfl
theorem Wc{p:Prog}(hf:nj p):Pure prog 63 [.iv (cZ 1 (dX (ns p).length (gF p (c5 p))) (lD ba))] (.iv (fI p)):=by
 refine Wb (vl hf) (gF p (c5 p)) (Go.Rg.ed (ns p) (eg p)) fun i j b d=>?_;rw[ZN,Go.Rg.CE,decide_eq_true_eq];unfold eg gF;constructor
 .rintro⟨_,_,h⟩;have h:gD (c5 p) (vD p i) (vD p j)≠0:=zT h;omega
 .intro h;exact⟨b,d,decide_eq_true (show gD (c5 p) (vD p i) (vD p j)≠0 by omega)⟩
theorem Ps(p:Prog)(hb:p.fit)(hs:p.size<=10000000):Pure prog 27 [ag p.c] (ag (dU p).c):=by
 have I:p.rules.length<=1000000000:=hb.2.1;refine ae ab func27 Z (by decide) ntmps27 Z (by simp) Z ?_;refine gA Z (zp (c25 p hb hs) ?_);refine zJ Z Z (fun k1=>?_) fun k1=>?_
 .have k1: ¬(dz p).1=0:=zX k1;rw[dU,am k1];exact zU Z
 have k1:(dz p).1=0:=zY k1;have A:=CC k1;rw[dU,be (by simpa using k1)];have y: ∀i,i<p.rules.length->(p.rules.map (gL p)).getD i em=gL p (p.rules.getD i em):=fun i F=>by
  rw[YZ,Y9,Y3 F,YZ,Y3 F];rfl
 have j:(p.rules.map (gL p)).length=p.rules.length:=Zx _;refine gA Z (zp (Pm A) ?_);refine gA Z (zp (Pp A hb) ?_);refine gA Z (zp (Wc A) ?_);refine gA Z ?_;refine az 0 p.rules.length (Y8 _) (fun i=>⟨[(1,.ptr 0 0),(2,.ptr 1 0),(4,.iv (strs (ns p))),(5,.iv (fI p)),(6,pI i)],[(0,io (an p.c)),(1,io (an aY.z.c))],3⟩) (fun i=>((p.rules.map (gL p)).take i).any (fun d=>li (d.1≠0))=lc) [] (by simp)
  (zW (zK (zK trivial))) fun i F B=>?_
 refine zJ Z Z (fun b=>?_) fun b=>?_
 .have b:=ci b;have G:=cT b;have x:=hb.2.2 _ G;have D:=y i b;refine gA Z (zp (Pe A G x.1) ?_);refine zJ Z Z (fun u=>?_) fun u=>?_
  .have u: ¬(gL p (p.rules.getD i em)).1=0:=zX u;rw[kW B (by rw[j];exact b) (by rw[D];exact decide_eq_true u),D];exact zU Z
  .have u:(gL p (p.rules.getD i em)).1=0:=zY u;refine gA Z ⟨b,(aW B (by rw[j];exact b)).2 (by rw[D];simpa using u),[],zW (zK (zK ac))⟩
 .have b:=co b;rw[eJ (any_none B (by rw[j];exact b))];exact zU Z
theorem UR{D:List Bool}{i:Nat}(hi:i<D.length):pQ (D.set i kw)=fun j=>pQ D j||decide ((j:Int)=(i:Int)):=by
 funext j
 unfold pQ;rw[YZ,YZ,ZM];by_cases h:i=j
 .subst h;rw[am Z,am hi,decide_eq_true Z,aba];rfl
 .rw[be h,decide_eq_false (by omega),aaD]
theorem Cm(k a:List aj):aE (k++a)=fun x=>aE k x||aE a x:=by
 funext x
 unfold aE;rw[List.any_append]
theorem US(n:Nat):pQ (aaX n lc)=fun _=>lc:=by
 funext j
 unfold pQ;rw[YZ,aa6];split<;>rfl
structure SJ (r:ah) (fstv:Int) (all:List dC) (n:Nat) (D:List Bool) (k:List aj) (L:List dC):Prop where
 dl:D.length=r.body.length
 ll:L.length=n
 kl:k.length<=1000000000+n*2000000
 rest:L++fo r fstv (r.body.length-n) (pQ D) (aE k)=all
theorem Pb{r:ah}{fstv:Int}{all:List dC}{n:Nat}{D:List Bool}{k:List aj}{L:List dC}(h:SJ r fstv all n D k L)(hn:ja (aE k) r (pQ D) fstv=jp):L=all:=by
 have:=h.rest;cases hm:r.body.length-n with
 |zero=>rw[hm]at this;simpa[fo]using this
 |succ m=>rw[hm,fo,hn]at this;simpa using this
theorem TR{r:ah}{fstv:Int}{all:List dC}{n:Nat}{D:List Bool}{k:List aj}{L:List dC}(h:SJ r fstv all n D k L)(hn:r.body.length<=n):L=all:=by
 have:=h.rest;rw[show r.body.length-n=0 by omega]at this;simpa[fo]using this
theorem Rf(r:ah)(s:dC){i:Nat}(hs:s.lit=i)(hi:i<r.body.length)(hb:r.size<=2000000):(tF r s).length<=2000000:=by
 have b:(r.body.getD i em).size<=2000000:=by have:=Lit.aI r.body i hi;unfold ah.size at hb;omega
 have j:=(r.body.getD i em).size_eq;have d:=cY (r.body.getD i em).atom;unfold tF;split
 .rw[hs];show(bg (r.body.getD i em).atom).length<=_;omega
 .split
  .simp
  .simp
theorem Pa{r:ah}{fstv:Int}{all:List dC}{n:Nat}{D:List Bool}{k:List aj}{L:List dC}(h:SJ r fstv all n D k L)(hn:n<r.body.length)(hb:r.size<=2000000){s:dC}{i:Nat}(d:ja (aE k) r (pQ D) fstv=io s)(hs:s.lit=i)(hi:i<r.body.length):
  SJ r fstv all (n+1) (D.set i kw) (k++tF r s) (L++ [s]):=
 ⟨by rw[aaG,h.dl],by rw[Y1,h.ll];rfl,by
  have b:=h.kl;have j:=Rf r s hs hi hb;rw[Y1,aaf];omega,by
  have b:=h.rest;rw[show r.body.length-n=(r.body.length-(n+1))+1 by omega,fo,d]at b
  rw[<-b,Zc,UR (by rw[h.dl];exact hi),Cm,<-hs];rfl⟩
theorem Uo(r:ah)(fstv:Int)(k:List aj)(h:r.body.length=0):fo r fstv r.body.length (fun _=>lc) (aE k)=[]:=by rw[h];rfl
set_option maxHeartbeats 1000000 in
theorem Pg(r:ah)(fstv:Int)(k:List aj)(hf:fstv<r.body.length)(hb:r.size<=2000000)(hk:k.length<=1000000000):
  Pure prog 70 [ag r.c,pI fstv,.iv (strs k)] (.iv (cZ 4 (fo r fstv r.body.length (fun _=>lc) (aE k)) dC.c)):=by
 have a0:r.body.length<=2000000:=by have:=Lit.au r.body;unfold ah.size at hb;omega
 refine ae ab func70 Z (by decide) ntmps70 Z (by simp) Z ?_;rcases Nat.eq_zero_or_pos r.body.length with h0|h0
 .refine gA Z (Gf ab 1 (fun _=> []) Z Z Z Z Z Z Z (by omega) (by omega) Z ?_);refine gA Z ?_;refine az 0 0 (Y8 _) (fun i=>⟨[(3,.ptr 0 0),(8,.iv (.v (.slice jp 0 0))),(9,pI i)],[(0,io (an r.c))],2⟩) (fun _=>True) [] ac
   (zW (zK trivial)) fun i S _=>?_
  refine zJ Z Z (fun G=>?_) fun G=>?_
  .have G:=ci G;omega
  .rw[Uo r fstv k h0];refine gA Z (zL ?_);exact .nil _ _
 generalize I:fo r fstv r.body.length (fun _=>lc) (aE k)=all;refine gA Z (Ez ab r.body.length r.body.length Z Z Z Z Z Z Z Z Z h0 (by omega) (by show 1*r.body.length<=_;omega) Z (by decide) (z:=[pB lc]) Z (.inr ⟨rfl,rfl⟩) Z ?_);refine gA Z ?_;refine fU 8 4 Z ?_;refine ux 0 r.body.length (Y8 _) (fun n (x:List Bool×List aj×List dC)=>⟨[(1,pI fstv),(2,.iv (strs x.2.1)),(3,.ptr 0 0),(7,.sl 1 0 r.body.length 1),(8,.sl 3 0 x.2.2.length 4),(9,pI n)],[(0,io (an r.c)),(1,io (aG 1 x.1 bD)),(3,io (aG 4 x.2.2 dC.c))],4⟩) (fun n x=>SJ r fstv all n x.1 x.2.1 x.2.2) (aaX r.body.length lc,k,[]) [2]
  ⟨by simp,rfl,by omega,by rw[US,Nat.sub_zero];simpa using I⟩
  (zW (zK (hR Z (by rw[List.map_replicate];rfl) Z (zS trivial)))) fun n x hn d=>?_
 obtain⟨D,j,L⟩:=x;have d:SJ r fstv all n D j L:=d;have J:=d.dl;have e0:=d.ll;have d0:=d.kl;have c0:j.length<=5000000000000:=by omega
 refine zE Z Z (fun b=>?_) fun b=>?_
 .have b:=co b;have:=TR d b;subst this;refine gA Z (cx (by first|exact .inr Z|exact .inl Z) Z Z (rfl) (rfl))
 have b:=ci b;have u:=KK r D fstv j J hf (by omega);cases hx:ja (aE j) r (pQ D) fstv with
 |none=>
  rw[hx]at u;have:=Pb d hx;subst this;refine gA Z (bI [1] u Z Z Z Z Z (by show[_]=[io ((aG 1 D bD).db _)];rw[bA];rfl) Z Z ?_);refine zJ Z Z (fun y=>?_) fun y=>?_
  .refine gA Z (cx (by first|exact .inr Z|exact .inl Z) Z Z (rfl) (rfl))
  .exact absurd y (show¬((!lc)=lc) by decide)
 |some s=>
  rw[hx]at u;obtain⟨i,hs,S,b0⟩:=D9 hf hx;have Y:=Pa d b hb hx hs S;obtain⟨B,lt,A,F⟩:=s;cases hs;have u:bV prog 106 [ag r.c,.sl 0 0 r.body.length 1,pI fstv,.iv (strs j)] [aG 1 D bD] (.bQ [ag (dC.mk B (i:Int) A F).c,pB kw]) [(0,io (aG 1 D bD))] 1:=u;have key: ∀σ,(D.map fun x=>(bD x).map PV.iv).map (dL σ)=D.map fun x=>(bD x).map PV.iv:=fun σ=>by
   rw[aaQ];exact aao fun x _=>rq _ _
  refine gA Z (bI [1] u Z Z Z Z Z (by show[_]=[io ((aG 1 D bD).db _)];rw[bA];rfl) Z Z ?_);refine zJ Z Z (fun y=>?_) fun y=>?_
  .exact absurd y (show¬((!kw)=kw) by decide)
  refine gA Z ?_;refine kE ab Z Z Z (i:=1) (sz:=1) (q:=0+i) Z Z Z Z (by simp only[Zx];omega) Z Z Z Z ?_;refine gA Z (zp (Pt r B i A F j S (by omega) (by omega)) ?_)
  refine gA Z ⟨b,(D.set i kw,j++tF r ⟨B,(i:Int),A,F⟩,L++ [⟨B,(i:Int),A,F⟩]),[6],Y,zM (bv (bv (bv (bv ⟨.row (by rw[Y1];rfl),rfl,bv ac⟩)))) (zK ⟨⟨_,rfl,(Ag (.kb kw)).trans (.of_eq (by
   rw[bA];show AO.row 1 (((D.map fun x=>(bD x).map PV.iv).map (dL _)).set (0+i) ((bD kw).map PV.iv))=AO.row 1 ((D.set i kw).map fun x=>(bD x).map PV.iv)
   rw[key,Zq,aaJ]))⟩,YY Z,cK _,hR Z (by rw[Y6];rfl) Z ac⟩)⟩
def dF(p:Prog)(n:Int):Int:=if n<1∨n>p.rules.length then 1 else if(dU p).1≠0 then 4 else 0
theorem sX{p:Prog}{n:Int}(h:dF p n=0):1<=n∧n<=p.rules.length∧(dU p).1=0:=by
 unfold dF at h;split at h
 .cases h
 .rename_i d;split at h
  .cases h
  .rename_i b;exact⟨by omega,by omega,abr.1 b⟩
theorem Dv(p:Prog)(n:Int)(hb:p.fit)(hs:p.size<=10000000):Pure prog 69 [ag p.c,pI n] (pI (dF p n)):=by
 have d:p.rules.length<=1000000000:=hb.2.1;refine ae ab func69 Z (by decide) ntmps69 Z (by simp) Z ?_;refine zE Z Z (fun g1=>?_) fun g1=>?_
 .have g1:n<1:=zT g1;rw[show dF p n=1 by unfold dF;rw[am (.inl g1)]];exact zU Z
 have g1: ¬n<1:=zF g1;refine zJ Z Z (fun g2=>?_) fun g2=>?_
 .have g2:n>p.rules.length:=zT g2;rw[show dF p n=1 by unfold dF;rw[am (.inr g2)]];exact zU Z
 have g2: ¬n>p.rules.length:=zF g2;have b:dF p n=if(dU p).1≠0 then 4 else 0:=by unfold dF;rw[be (fun g=>g.elim g1 g2)]
 refine gA Z (zp (Ps p hb hs) ?_);refine zJ Z Z (fun k1=>?_) fun k1=>?_
 .have k1:(dU p).1≠0:=by
   have k1:(!li ((dU p).1=0))=kw:=k1;simpa using k1
  rw[b,am k1];exact zU Z
 .have k1: ¬(dU p).1≠0:=by
   have k1:(!li ((dU p).1=0))=lc:=k1;simpa using k1
  rw[b,be k1];exact zU Z
def LV(r:ah)(l:List aj)(i:Nat):Bool:=aE (outer r) (l.getD i em)&&!aE (l.take i) (l.getD i em)
def kJ(r:ah)(l:List aj):Bool:=(Zp l.length).all (LV r l)
theorem wP{r:ah}{l:List aj}{i:Nat}(hi:i<l.length)(h:LV r l i=lc):kJ r l=lc:=
 aaN.2 ⟨i,Z8.2 hi,by rw[h];exact ZG⟩
theorem CY{r:ah}{l:List aj}(h: ∀i,i<l.length->LV r l i=kw):kJ r l=kw:=
 Zr.2 fun i b=>h i (Z8.1 b)
theorem TX(r:ah)(l:List aj)(hb:r.size<=10000000)(F:l.length<=1000000000):Pure prog 75 [ag r.c,.iv (strs l)] (pB (kJ r l)):=by
 refine ae ab func75 Z (by decide) ntmps75 Z (by simp) Z ?_;refine gA Z (zp (S7 r (by omega)) ?_);refine gA Z ?_;refine az 0 l.length (Y8 _) (fun i=>⟨[(1,.iv (strs l)),(5,.iv (strs (outer r))),(6,pI i)],[],1⟩) (fun i=> ∀j,j<i->LV r l j=kw) [] (fun j hj=>absurd hj (Z6 j))
  (zW trivial) fun i D A=>?_
 refine zE Z Z (fun b=>?_) fun b=>?_
 .have b:=co b;rw[CY fun j hj=>A j (by omega)];exact zU Z
 have b:=ci b;have y:aL (.iv (.dh 1 i fun k=>cM (l.getD k em))) (.iv (strs (l.take i))):=by
  refine .dh (by rw[ZP];omega) fun k B=>?_;rw[YZ,YZ,ZX,am B]
 have x:=(Dx (l.take i) (l.getD i em)).le (aa:=[.iv (.dh 1 i fun k=>cM (l.getD k em)),pS (l.getD i em)]) ⟨y,.refl _,ac⟩;refine gA Z (zp (Dx (outer r) (l.getD i em)) ?_);refine gA Z (UJ (p:= .iv (.dh 1 i fun k=>cM (l.getD k em))) 2 Z Z Z Z Z Z (MH (m:=i) ab Z Z Z Z Z Z Z (by omega)) ?_);refine gA Z (n7 (x) ?_);refine zJ Z Z (fun d=>?_) fun d=>?_
 .have d:aE (outer r) (l.getD i em)=kw:=zB d;refine zJ Z Z (fun u=>?_) fun u=>?_
  .have u:aE (l.take i) (l.getD i em)=kw:=u;rw[wP b (by unfold LV;rw[d,u];rfl)];exact zU Z
  .have u:aE (l.take i) (l.getD i em)=lc:=u;refine gA Z ?_
   exact⟨b,fun j hj=>by
    rcases ZH.1 hj with hj|hj
    .exact A j hj
    .subst hj;unfold LV;rw[d,u];rfl,[],zW trivial⟩
 .have d:aE (outer r) (l.getD i em)=lc:=zA d;rw[wP b (by unfold LV;rw[d];rfl)];exact zU Z
abbrev bX(p:Prog)(n:Int):ah:=p.rules.getD (n-1).toNat em
abbrev Ao(x:px×Int):PV:= .bQ [ag x.1.c,pI x.2]
theorem zP(e:Int):aL (.bQ [.agg [pI 0,pI 0,.iv (.v (.slice jp 0 0)),.iv (.v (.slice jp 0 0))],pI e]) (Ao (px.z,e)):= .bQ ⟨.agg ⟨.refl _,.refl _,.nil _ _,.nil _ _,ac⟩,.refl _,ac⟩
def im(r:ah)(fstv:Int):Prop:=fstv< -1∨fstv>=r.body.length∨(0<=fstv∧(r.body.getD fstv.toNat em).kind≠1)
instance (r:ah)(fstv:Int):Decidable (im r fstv):=inferInstanceAs (Decidable (_∨_))
def tV(r:ah)(fstv:Int)(k:List aj):List dC:=fo r fstv r.body.length (fun _=>lc) (aE k)
def uk(p:Prog)(n fstv:Int):px×Int:=if dF p n≠0 then(px.z,dF p n) else if im (bX p n) fstv then(px.z,90) else(⟨n,fstv,[],tV (bX p n) fstv []⟩,0)
def fW(p:Prog)(n:Int)(l:List aj):px×Int:=if dF p n≠0 then(px.z,dF p n) else if kJ (bX p n) l=lc then(px.z,90) else(⟨n, -1,l,tV (bX p n) (-1) l⟩,0)
def ik(p:Prog)(n:Int):px×Int:=if dF p n≠0 then(px.z,dF p n) else fW p n (bg (bX p n).head)
theorem BP{p:Prog}{n:Int}(h:dF p n=0):bX p n∈p.rules:=cT (by have:=sX h;omega)
theorem GP{α:Type}(f:α->Nat): ∀{l:List α} {x:α},x∈l->f x<=(l.map f).sum
 |y::l,x,h=>by
  rw[Zm,aaO];rcases Zj.1 h with rfl|h
  .omega
  .have:=GP f h;omega
theorem kK{p:Prog}{n:Int}(h:dF p n=0):(bX p n).size<=p.size:=by
 have:=GP ah.size (BP h);unfold Prog.size;omega
theorem Ua(l:List aj)(hb:l.length<=1000000000000):Pure prog 76 [.iv (.v (.slice jp 0 0)),.iv (strs l)] (.iv (strs l)):=
 (SK [] l (by simp only[aad];omega)).le ⟨.nil _ _,.refl _,ac⟩
set_option maxHeartbeats 1000000 in
theorem G6(p:Prog)(n:Int)(l:List aj)(hb:p.fit)(hs:p.size<=2000000)(d:l.length<=1000000000):Pure prog 38 [ag p.c,pI n,.iv (strs l)] (Ao (fW p n l)):=by
 have x:p.rules.length<=1000000000:=hb.2.1;refine ae ab func38 Z (by decide) ntmps38 Z (by simp) Z ?_;refine gA Z (zp (Dv p n hb (by omega)) ?_);refine zJ Z Z (fun k1=>?_) fun k1=>?_
 .have k1:dF p n≠0:=by
   have k1:(!li (dF p n=0))=kw:=k1;simpa using k1
  rw[show fW p n l=(px.z,dF p n) by unfold fW;rw[am k1]];refine gA Z (zL ?_);exact zP _
 have k1:dF p n=0:=zY k1;have u:=sX k1;have y:=kK k1;have A:(n-1).toNat<p.rules.length:=by omega
 have j:fW p n l=if kJ (bX p n) l=lc then(px.z,90) else(⟨n, -1,l,tV (bX p n) (-1) l⟩,0):=by unfold fW;rw[be (by simpa using k1)]
 refine gA Z (zp (TX (bX p n) l (by omega) d) ?_);refine zJ Z Z (fun b=>?_) fun b=>?_
 .have b:kJ (bX p n) l=lc:=zA b;rw[j,am b];refine gA Z (zL ?_);exact zP _
 have b: ¬kJ (bX p n) l=lc:=by
  have b:(!kJ (bX p n) l)=lc:=b;simpa using b
 rw[j,be b];refine gA Z (n7 (Ua l (by omega)) ?_);refine gA Z (n7 (Pg (bX p n) (-1) l (by omega) (by omega) d) ?_);refine gA Z (zL ?_);exact .refl _
set_option maxHeartbeats 1000000 in
theorem T8(p:Prog)(n:Int)(hb:p.fit)(hs:p.size<=2000000):Pure prog 39 [ag p.c,pI n] (Ao (ik p n)):=by
 have x:p.rules.length<=1000000000:=hb.2.1;refine ae ab func39 Z (by decide) ntmps39 Z (by simp) Z ?_;refine gA Z (zp (Dv p n hb (by omega)) ?_);refine zJ Z Z (fun k1=>?_) fun k1=>?_
 .have k1:dF p n≠0:=by
   have k1:(!li (dF p n=0))=kw:=k1;simpa using k1
  rw[show ik p n=(px.z,dF p n) by unfold ik;rw[am k1]];refine gA Z (zL ?_);exact zP _
 have k1:dF p n=0:=zY k1;have u:=sX k1;have b:=kK k1;have y:(n-1).toNat<p.rules.length:=by omega
 have j:(bX p n).head.ad.length<=2000000:=by unfold ah.size at b;omega
 have d:=cY (bX p n).head;rw[show ik p n=fW p n (bg (bX p n).head) by unfold ik;rw[be (by simpa using k1)]];refine gA Z (n7 (QS (bX p n).head (by omega)) ?_);refine gA Z (n7 (G6 p n (bg (bX p n).head) hb hs (by omega)) ?_);refine gA Z (zL ?_);exact .refl _
theorem xD{α:Type}[Inhabited α]{a b:List α}(x:a.length=b.length)(h: ∀j,j<a.length->a.getD j em=b.getD j em):a=b:=by
 refine List.ext_getElem x fun j d u=>?_;have:=h j d;rwa[YZ,YZ,Y3 d,Y3 u]at this
theorem Fy{a b:dC}(h1:a.kind=b.kind)(h2:a.lit=b.lit)(h3:a.var=b.var)(d:a.eV=b.eV):a=b:=by
 cases a;cases b;simp only at h1 h2 h3 d;subst h1 h2 h3 d;rfl
theorem II(a b:dC)(hb:a.eV.length<=1000000000000):Pure prog 74 [ag a.c,ag b.c] (pB (li (a=b))):=by
 have no: ∀{α:Type} {f:dC->α},¬f a=f b->li (a=b)=lc:=fun h=>decide_eq_false fun g=>h (by rw[g]);refine ae ab func74 Z (by decide) ntmps74 Z (by simp) Z ?_;refine zE Z Z (fun g1=>?_) fun g1=>?_
 .have g1: ¬a.kind=b.kind:=zX g1;rw[no (f:=dC.kind) g1];exact zU Z
 have g1:a.kind=b.kind:=zY g1;refine zE Z Z (fun g2=>?_) fun g2=>?_
 .have g2: ¬a.lit=b.lit:=zX g2;rw[no (f:=dC.lit) g2];exact zU Z
 have g2:a.lit=b.lit:=zY g2;refine zE Z Z (fun g3=>?_) fun g3=>?_
 .have g3: ¬a.var=b.var:=zX g3;rw[no (f:=dC.var) g3];exact zU Z
 have g3:a.var=b.var:=zY g3;refine zJ Z Z (fun g4=>?_) fun g4=>?_
 .have g4: ¬a.eV.length=b.eV.length:=by
   have g4:(!li ((a.eV.length:Int)=b.eV.length))=kw:=g4;simp at g4;omega
  rw[no (f:=fun x=>x.eV.length) g4];exact zU Z
 have g4:a.eV.length=b.eV.length:=by
  have g4:(!li ((a.eV.length:Int)=b.eV.length))=lc:=g4;simp at g4;omega
 refine gA Z ?_;refine az 0 a.eV.length (Y8 _) (fun i=>⟨[(2,.ptr 0 0),(3,.ptr 1 0),(5,pI i)],[(0,io (an a.c)),(1,io (an b.c))],2⟩) (fun i=> ∀j,j<i->a.eV.getD j em=b.eV.getD j em) [] (fun j y=>absurd y (Z6 j))
  (zW (zK (zK trivial))) fun i B A=>?_
 refine zJ Z Z (fun u=>?_) fun u=>?_
 .have u:=ci u;refine zJ Z Z (fun d=>?_) fun d=>?_
  .have d: ¬a.eV.getD i em=b.eV.getD i em:=zX d;rw[no (f:=fun x=>x.eV.getD i em) d];exact zU Z
  .have d:a.eV.getD i em=b.eV.getD i em:=zY d;refine gA Z ⟨u,fun j y=>(ZH.1 y).elim (A j) (fun e=>e▸d),[],zW (zK (zK ac))⟩
 .have u:=co u;rw[decide_eq_true (Fy g1 g2 g3 (xD g4 fun j y=>A j (by omega)))];exact zU Z
theorem Un{a b:px}(h1:a.mq=b.mq)(h2:a.first=b.first)(h3:a.given=b.given)(d:a.steps=b.steps):a=b:=by
 cases a;cases b;simp only at h1 h2 h3 d;subst h1 h2 h3 d;rfl
structure px.fit (a:px):Prop where
 g:a.given.length<=1000000000
 s:a.steps.length<=1000000000
 c: ∀s∈a.steps,s.eV.length<=1000000000
theorem Ae(a b:px)(hb:a.fit):Pure prog 37 [ag a.c,ag b.c] (pB (li (a=b))):=by
 have no: ∀{α:Type} {f:px->α},¬f a=f b->li (a=b)=lc:=fun h=>decide_eq_false fun g=>h (by rw[g]);have D:=hb.g;have F:=hb.s;refine ae ab func37 Z (by decide) ntmps37 Z (by simp) Z ?_;refine zE Z Z (fun g1=>?_) fun g1=>?_
 .have g1: ¬a.mq=b.mq:=zX g1;rw[no (f:=px.mq) g1];exact zU Z
 have g1:a.mq=b.mq:=zY g1;refine zE Z Z (fun g2=>?_) fun g2=>?_
 .have g2: ¬a.first=b.first:=zX g2;rw[no (f:=px.first) g2];exact zU Z
 have g2:a.first=b.first:=zY g2;refine zE Z Z (fun g3=>?_) fun g3=>?_
 .have g3: ¬a.given.length=b.given.length:=by
   have g3:(!li ((a.given.length:Int)=b.given.length))=kw:=g3;simp at g3;omega
  rw[no (f:=fun x=>x.given.length) g3];exact zU Z
 have g3:a.given.length=b.given.length:=by
  have g3:(!li ((a.given.length:Int)=b.given.length))=lc:=g3;simp at g3;omega
 refine zJ Z Z (fun g4=>?_) fun g4=>?_
 .have g4: ¬a.steps.length=b.steps.length:=by
   have g4:(!li ((a.steps.length:Int)=b.steps.length))=kw:=g4;simp at g4;omega
  rw[no (f:=fun x=>x.steps.length) g4];exact zU Z
 have g4:a.steps.length=b.steps.length:=by
  have g4:(!li ((a.steps.length:Int)=b.steps.length))=lc:=g4;simp at g4;omega
 refine gA Z ?_;refine az 0 a.given.length (Y8 _) (fun i=>⟨[(2,.ptr 0 0),(3,.ptr 1 0),(5,pI i)],[(0,io (an a.c)),(1,io (an b.c))],2⟩) (fun i=> ∀j,j<i->a.given.getD j em=b.given.getD j em) [] (fun j u=>absurd u (Z6 j))
  (zW (zK (zK trivial))) fun i J B=>?_
 refine zJ Z Z (fun A=>?_) fun A=>?_
 .have A:=ci A;refine zJ Z Z (fun d=>?_) fun d=>?_
  .have d: ¬a.given.getD i em=b.given.getD i em:=zX d;rw[no (f:=fun x=>x.given.getD i em) d];exact zU Z
  .have d:a.given.getD i em=b.given.getD i em:=zY d;refine gA Z ⟨A,fun j u=>(ZH.1 u).elim (B j) (fun e=>e▸d),[],zW (zK (zK ac))⟩
 have A:=co A;have I:=xD g3 fun j u=>B j (by omega);refine gA Z ?_
 refine az 0 a.steps.length (Y8 _) (fun i=>⟨[(2,.ptr 0 0),(3,.ptr 1 0),(6,pI i)],[(0,io (an a.c)),(1,io (an b.c))],2⟩) (fun i=> ∀j,j<i->a.steps.getD j em=b.steps.getD j em) [] (fun j u=>absurd u (Z6 j))
  (zW (zK (zK trivial))) fun i J B=>?_
 refine zJ Z Z (fun y=>?_) fun y=>?_
 .have y:=ci y;have G:=hb.c _ (cT y);refine gA Z (n7 (II (a.steps.getD i em) (b.steps.getD i em) (by omega)) ?_);refine zJ Z Z (fun d=>?_) fun d=>?_
  .have d: ¬a.steps.getD i em=b.steps.getD i em:=zX d;rw[no (f:=fun x=>x.steps.getD i em) d];exact zU Z
  .have d:a.steps.getD i em=b.steps.getD i em:=zY d;refine gA Z ⟨y,fun j u=>(ZH.1 u).elim (B j) (fun e=>e▸d),[],zW (zK (zK ac))⟩
 .have y:=co y;rw[decide_eq_true (Un g1 g2 I (xD g4 fun j u=>B j (by omega)))];exact zU Z
end Go.Proofs.YtflegjieadkonaaGreatDoor
namespace Go.Proofs.YtflegjieadkonaaGreatDoor
open Go Go.Al Go.Proofs.Tryz Go.ChangeShapes Go.WideShapes Go.RowKit
section
section
variable {H:Type} {enc:TypeId×Value->H} {W:World} {hT:oK W} {sp:Nat->Bool} {held:Bool}
theorem PI(n:Nat):Rd enc prog W hT sp held 9 cM (fun _ _=>True) n:=by
 intro m d b y h;obtain⟨z,j,_⟩:=ky (hT:=hT) underlying9 n m d b y h;exact⟨z,j,ac⟩
end
theorem M5{H:Type}{enc:TypeId×Value->H}{W:World}(hT:oK W){v:Value}{d:DataW H}{p:List MemPlace}(b: ∃base,Value.okWide prog W .any base 53 v)(h:DataW.Trod enc prog W 0 (fun _=>kw) kw 53 v d p):
  ∃x:List aj,x.length<=bk d∧VR (Mem.rr W hT) Vo (· <0) (.iv (strs x)) v:=by
 obtain⟨base,b⟩:=b;obtain⟨a,len,a0,rfl⟩:=okWide_slice underlying53 b;obtain⟨n,y⟩:=h;obtain⟨r,j,u⟩:=(kM (hT:=hT) underlying53 tB (by decide) (fun _=>rfl) (PI n)).mono (abK n) n (Y7 _) _ _ y;exact⟨r,u.len,Te j⟩
end
end Go.Proofs.YtflegjieadkonaaGreatDoor
namespace Go.Proofs.YtflegjieadkonaaGreatDoor
open Go Go.Al Go.Proofs.Tryz
mutual
def bw:Expr->List aj
 | .mk k v _ _ args=>(if k=1 then[v] else[])++mR args
def mR:List Expr->List aj
 | []=> []
 |e::r=>bw e++mR r
end
theorem qJ: ∀l:List Expr,mR l=l.flatMap bw
 | []=>rfl
 |e::r=>by simp only[mR,ZO,qJ r]
theorem tv(e:Expr):bw e=(if e.kind=1 then[e.var] else[])++e.args.flatMap bw:=by
 cases e with
 |mk k v val op args=>simp only[bw,Expr.kind,Expr.var,Expr.args,qJ];rfl
mutual
theorem iq: ∀e:Expr,(bw e).length<=e.size
 | .mk k v _ _ args=>by
  have:=pf args;simp only[bw,Expr.size,Y1];split
  .simp;omega
  .simp;omega
theorem pf: ∀l:List Expr,(mR l).length<=Expr.aA l
 | []=>by simp[mR]
 |e::r=>by
  have b:=iq e;have d:=pf r;simp only[mR,Expr.aA,Y1];omega
end
theorem sS: ∀(n:Nat) (e:Expr) (occ:List aj),e.size<=n->occ.length+e.size<=1000000000000000->bV prog 107 [ag e.c,.mp 0] [ct (aC occ)] (.bQ []) [(0,io (ct (aC (occ++bw e))))] 1
 |0,e,_,h,_=>by have:=e.size_pos;omega
 |n+1,e,occ,h,hb=>by
  refine bV.le (args:=[ag e.c1,.mp 0]) ?_ ⟨e.zr,.refl _,ac⟩;have j:=tv e;have G:=e.size_eq;have F:=bB occ e.var;have D:=eW occ e.var;have B:=Expr.au e.args;have rest: ∀a0:List aj,a0.length<=1->bw e=a0++e.args.flatMap bw-> ∀i,i<e.args.length->(occ++a0++(e.args.take i).flatMap bw).length+(e.args.getD i em).size<=1000000000000000:=fun a0 J _ i x=>by
   have A:=Expr.b3 e.args i x;have I:=pf (e.args.take i);rw[qJ]at I;rw[Y1,Y1];omega
  refine aB ab func107 Z (by decide) ntmps107 Z (by simp) ?_;refine zJ Z Z (fun d=>?_) fun d=>?_
  .have d:e.kind=1:=zT d;rw[am d]at j;refine gA Z ?_;refine az 0 e.args.length (Y8 _) (fun i=>⟨[(1,.mp 0),(2,.ptr 1 0),(15,.iv (cZ 7 e.args Expr.c)),(16,pI e.args.length),(17,pI i)],[(0,io (ct (aC (occ++ [e.var]++(e.args.take i).flatMap bw))))],2⟩) (fun _=>True) [] ac
    (zW (hM Z (by rw[List.take_zero,List.flatMap_nil,ZE,cS];rfl) Z trivial)) fun i x _=>?_
   refine zJ Z Z (fun b=>?_) fun b=>?_
   .have b:=ci b;have y:=bG (f:=bw) b;have A:=Expr.b3 e.args i b;refine gA Z (bI [0] (sS n (e.args.getD i em) _ (by omega) (rest [e.var] (by simp) j i b)) Z Z Z Z Z Z Z Z ?_);refine gA Z ⟨b,ac,[],zW (hM Z (by rw[y,Zc]) Z ac)⟩
   .have b:=co b;have u:e.args.take i=e.args:=Za b;refine gA Z (zD [] Z (zW (hM Z (by rw[j,u,Zc]) Z ac)))
  .have d: ¬e.kind=1:=zF d;rw[be d]at j;refine gA Z ?_;refine az 0 e.args.length (Y8 _) (fun i=>⟨[(1,.mp 0),(2,.ptr 1 0),(15,.iv (cZ 7 e.args Expr.c)),(16,pI e.args.length),(17,pI i)],[(0,io (ct (aC (occ++ []++(e.args.take i).flatMap bw))))],2⟩) (fun _=>True) [] ac
    (zW (hM Z (by simp) Z trivial)) fun i x _=>?_
   refine zJ Z Z (fun b=>?_) fun b=>?_
   .have b:=ci b;have y:=bG (f:=bw) b;have A:=Expr.b3 e.args i b;refine gA Z (bI [0] (sS n (e.args.getD i em) _ (by omega) (rest [] (by simp) j i b)) Z Z Z Z Z Z Z Z ?_);refine gA Z ⟨b,ac,[],zW (hM Z (by rw[y,Zc]) Z ac)⟩
   .have b:=co b;have u:e.args.take i=e.args:=Za b;refine gA Z (zD [] Z (zW (hM Z (by rw[j,u,Zc]) Z ac)))
def dy(l:Lit):List aj:=cJ l.atom++(bw l.left++bw l.right)
theorem ti(l:Lit):(dy l).length<=l.size:=by
 have b:=iD l.atom;have d:=iq l.left;have j:=iq l.right;have u:=l.size_eq;unfold dy;rw[Y1,Y1];omega
theorem KF(l:Lit)(occ:List aj)(hb:occ.length+l.size<=1000000000000000):bV prog 108 [ag l.c,.mp 0] [ct (aC occ)] (.bQ []) [(0,io (ct (aC (occ++dy l))))] 1:=by
 have F:=l.size_eq;have y:=iD l.atom;have B:=iq l.left;refine aB ab func108 Z (by decide) ntmps108 Z (by simp) ?_;refine gA Z ?_;refine az 0 l.atom.ad.length (Y8 _) (fun i=>⟨[(1,.mp 0),(2,.ptr 1 0),(8,.iv (cZ 5 l.atom.ad Term.c)),(9,pI l.atom.ad.length),(10,pI i)],[(0,io (ct (aC (occ++(l.atom.ad.take i).flatMap fun t=>if t.kind=1 then[t.var] else[])))),(1,io (an l.c))],2⟩) (fun _=>True) [] ac
  (zW (hM Z (by simp) Z (zK trivial))) fun i G _=>?_
 have A:=tU (l.atom.ad.take i);simp only[ZP]at A;refine zJ Z Z (fun b=>?_) fun b=>?_
 .have b:=ci b;have j:=bG (f:=fun t:Term=>if t.kind=1 then[t.var] else[]) b;have D:=bB (occ++(l.atom.ad.take i).flatMap fun t=>if t.kind=1 then[t.var] else[]) (l.atom.ad.getD i em).var;have u:=eW (occ++(l.atom.ad.take i).flatMap fun t=>if t.kind=1 then[t.var] else[]) (l.atom.ad.getD i em).var;rw[Y1]at u;refine zJ Z Z (fun d=>?_) fun d=>?_
  .have d:(l.atom.ad.getD i em).kind=1:=zT d;rw[am d]at j;refine gA Z ⟨b,ac,[],zW (hM Z (by rw[j,<-Zc,cS];rfl) Z (zK ac))⟩
  .have d: ¬(l.atom.ad.getD i em).kind=1:=zF d;rw[be d,ZE]at j;refine gA Z ⟨b,ac,[],zW (hM Z (by rw[j]) Z (zK ac))⟩
 have b:=co b;have x:l.atom.ad.take i=l.atom.ad:=Za b;rw[x];refine gA Z (bI [0] (sS _ l.left (occ++cJ l.atom) (Y7 _) (by rw[Y1];omega)) Z Z Z Z Z Z Z Z ?_);refine gA Z (bI [0] (sS _ l.right (occ++cJ l.atom++bw l.left) (Y7 _) (by rw[Y1,Y1];omega)) Z Z Z Z Z Z Z Z ?_);refine gA Z (zD [] Z (zW (hM Z (by unfold dy;rw[Zc,Zc]) Z ac)))
abbrev WD:=List ((KC.int .i64).K×Int)
abbrev xd(m:WD):AO:= .map (.int .i64) Ba 0 (.int .i64 0) Xv m
abbrev wO(r:ah)(br:IV):AO:= .cells [.iv (iS r.head.rel),.iv (cZ 5 r.head.ad Term.c),.iv (lits r.body),.iv (iI r.at_.line),.iv (iI r.at_.zu),.mp 1,.iv br,.mp 2]
abbrev Nq(r:ah)(br:IV)(b:List aj)(dm:WD):List AO:=[wO r br,ct (aC b),xd dm]
abbrev wH(r:ah)(br:IV)(b:List aj)(dm:WD):AH:=[(0,io (wO r br)),(1,io (ct (aC b))),(2,io (xd dm))]
theorem kY{occ:List aj}{s:aj}:li (bU .str (aC occ) s 0=0)=!aE occ s:=by
 rw[cG,Bool.not_not]
theorem uF{occ:List aj}{s:aj}:li (bU .str (aC occ) s 0>0)=aE occ s:=by
 have h:=bB occ s;rw[cG,<-decide_not,decide_eq_decide];omega
theorem hW{n:Nat}{σ:Nat->Nat}{h:AH}{r:ah}{br:IV}{m:NM}{d:List aj}{dm b:WD}{rest:AH}(h0:h.get (σ 0)=io (.cells [.iv (iS r.head.rel),.iv (cZ 5 r.head.ad Term.c),.iv (lits r.body),.iv (iI r.at_.line),.iv (iI r.at_.zu),.mp (σ 1),.iv br,.mp (σ 2)]))
  (h1:h.get (σ 1)=io (ct m)) (h2:h.get (σ 2)=io (xd dm)) (e1:m=aC d) (e2:dm=b) (j:(wO r br).low n) (hb:Zk 2 n=kw) (hr:n6 n σ h rest):n6 n σ h ((0,io (wO r br))::(1,io (ct (aC d)))::(2,io (xd b))::rest):=by
 subst e1 e2;have u:2<n:=YY hb;exact⟨⟨_,h0,.of_eq Z⟩,by omega,j,⟨_,h1,.of_eq Z⟩,by omega,ac,⟨_,h2,.of_eq Z⟩,u,ac,hr⟩
theorem zH{n:Nat}{σ:Nat->Nat}{h:AH}{r:ah}{br:IV}{m:NM}{d:List aj}{dm b:WD}{rest:AH}(hr:n6 n σ h rest)(h0:h.get (σ 0)=io (.cells [.iv (iS r.head.rel),.iv (cZ 5 r.head.ad Term.c),.iv (lits r.body),.iv (iI r.at_.line),.iv (iI r.at_.zu),.mp (σ 1),.iv br,.mp (σ 2)]):=by exact rfl)
  (h1:h.get (σ 1)=io (ct m):=by exact rfl) (h2:h.get (σ 2)=io (xd dm):=by exact rfl) (e1:m=aC d:=by exact rfl) (e2:dm=b:=by exact rfl) (j:(wO r br).low n:=by exact rfl) (hb:Zk 2 n=kw:=by exact rfl):n6 n σ h ((0,io (wO r br))::(1,io (ct (aC d)))::(2,io (xd b))::rest):=hW h0 h1 h2 e1 e2 j hb hr
theorem FE(r:ah)(br:IV)(d u:List aj)(dm:WD)(hb:u.length<=1000000000000000):bV prog 179 [.ptr 0 0,.iv (CU (aC u))] (Nq r br d dm) (pB (u.all (aE d))) (wH r br d dm) 3:=by
 refine aB ab func179 Z (by decide) ntmps179 Z (by simp) ?_;refine gA Z ?_;refine jw (aC u) (fun B=>⟨[(0,.ptr 0 0),(7,.ptr 3 0)],[(0,io (wO r br)),(1,io (ct (aC d))),(2,io (xd dm)),(3,io (.cD .str Ba (aC u) B jp))],4⟩) (fun B=> ∀j∈B,∀x,(aC u)[j]? =io x->aE d x.1=kw) [] (by simp)
  (zW (zH (hI Z Z (.inl Z) Z trivial))) fun B I=>?_
 refine nV Z ac (fV Z Z Z Z Z (by decide) (fun A=>?_) fun j x F J=>?_)
 .have D:u.all (aE d)=kw:=Zr.2 fun t D=>all_keys (p:=fun t=>aE d t=kw) A I t D
  rw[D];refine gA Z (zD [] Z (zW (zH ac)))
 .refine zJ Z Z (fun b=>?_) fun b=>?_
  .have b:aE d x.1=lc:=by
    have b:li (bU .str (aC d) x.1 0=0)=kw:=b;rw[kY]at b;simpa using b
   rw[show u.all (aE d)=lc from aaN.2 ⟨x.1,ur F,by rw[b];exact ZG⟩];refine gA Z (zD [] Z (zW (zH ac)))
  .have b:aE d x.1=kw:=by
    have b:li (bU .str (aC d) x.1 0=0)=lc:=b;rw[kY]at b;simpa using b
   refine gA Z ?_
   exact⟨j,x,F,J,fun i hi y G=>by
    rcases Zj.1 hi with rfl|hi
    .rw[F]at G;cases G;exact b
    .exact I i hi y G,[],zW (zH (hI Z Z (.inr Z) Z ac))⟩
def uW(K:aj->Bool)(l:Lit)(i:Int):Option dC:=if(dy l).all K=kw then io ⟨2,i,[],Y5⟩ else jp
theorem KA(r:ah)(br:IV)(b:List aj)(dm:WD)(i:Nat)(hi:i<r.body.length)(hb:r.size<=10000000):
  bV prog 138 [.ptr 0 0,pI i] (Nq r br b dm) (zx (uW (aE b) (r.body.getD i em) i)) (wH r br b dm) 3:=by
 have j:(r.body.getD i em).size<=10000000:=by have:=Lit.aI r.body i hi;unfold ah.size at hb;omega
 have u:=ti (r.body.getD i em);refine aB ab func138 Z (by decide) ntmps138 Z (by simp) ?_;refine gM 10 Z (kn [] (t:=⟨[(0,.ptr 0 0),(1,pI i),(4,.ptr 3 0),(6,.mp 4)],[(0,io (wO r br)),(1,io (ct (aC b))),(2,io (xd dm)),(3,io (an Li)),(4,io (ct (aC [])))],5⟩) (zW (zH (zK (Ji Z (fun _=> .v _) Z ac)))) ?_);refine gA Z (bI [4] (KF (r.body.getD i em) [] (by simp only[aad];omega)) Z Z Z Z Z Z Z Z ?_);refine gA Z (Md 4 Z ?_);refine bI [0,1,2] (FE r br b (dy (r.body.getD i em)) dm (by omega)) Z Z Z Z Z Z Z Z ?_;unfold uW;refine zJ Z Z (fun d=>?_) fun d=>?_
 .have d:(dy (r.body.getD i em)).all (aE b)=lc:=zA d;rw[be (by rw[d];exact ZG)];refine gA Z (zD [] Z (zM ⟨Hm,rfl,ac⟩ (zH ac)))
 .have d:(dy (r.body.getD i em)).all (aE b)=kw:=zB d;rw[am d];refine gA Z (zD [] Z (zM ⟨sE _ _ _ _,rfl,ac⟩ (zH ac)))
abbrev BM:=List ((KC.int .i64).K×List aj)
abbrev zh(m:BM):IV:= .eE (.int .i64) strs [] (.slice jp 0 0) m
def Bu(K:aj->Bool)(b:List aj)(l:Lit)(i:Int):Option dC:=if b.all K=kw then(if K l.a7=kw then io ⟨2,i,[],Y5⟩ else io ⟨3,i,[],l.a7⟩) else jp
theorem Wf(r:ah)(y:BM)(b:List aj)(dm:WD)(i:Nat)(hi:i<r.body.length)(hb:r.size<=10000000)(D:(bU (.int .i64) y (i:Int) []).length<=1000000000):
  bV prog 140 [.ptr 0 0,pI i] (Nq r (zh y) b dm) (zx (Bu (aE b) (bU (.int .i64) y (i:Int) []) (r.body.getD i em) i)) (wH r (zh y) b dm) 3:=by
 generalize A:bU (.int .i64) y (i:Int) []=bs at D ⊢;refine aB ab func140 Z (by decide) ntmps140 Z (by simp) ?_;refine gA Z ?_;refine az 0 bs.length (Y8 _) (fun j=>⟨[(0,.ptr 0 0),(1,pI i),(4,.ptr 3 0),(14,.iv (strs bs)),(15,pI bs.length),(16,pI j)],[(0,io (wO r (zh y))),(1,io (ct (aC b))),(2,io (xd dm)),(3,io (an Li))],4⟩) (fun j=>(bs.take j).all (aE b)=kw) [] Z
  (zM (bv (bv (bv ⟨.of_eq (by rw[<-A];rfl),rfl,.of_eq (by rw[<-A];rfl),rfl,bv trivial⟩))) (zH (zK trivial))) fun j G B=>?_
 refine zJ Z Z (fun x=>?_) fun x=>?_
 .have x:=ci x;refine zJ Z Z (fun d=>?_) fun d=>?_
  .have d:aE b (bs.getD j em)=lc:=by
    have d:li (bU .str (aC b) (bs.getD j em) 0=0)=kw:=d;rw[kY]at d;simpa using d
   rw[show Bu (aE b) bs (r.body.getD i em) i=jp from be (by rw[aav];exact aaN.2 ⟨_,cT x,by rw[d];exact ZG⟩)];refine gA Z (zD [] Z (zM ⟨Hm,rfl,ac⟩ (zH ac)))
  .have d:aE b (bs.getD j em)=kw:=by
    have d:li (bU .str (aC b) (bs.getD j em) 0=0)=lc:=d;rw[kY]at d;simpa using d
   refine gA Z ⟨x,(ld B x).2 d,[],zW (zH (zK ac))⟩
 have x:=co x;rw[Za x]at B;have F:Bu (aE b) bs (r.body.getD i em) i=if aE b (r.body.getD i em).a7=kw then io ⟨2,i,[],Y5⟩ else io ⟨3,i,[],(r.body.getD i em).a7⟩:=am B;refine zJ Z Z (fun u=>?_) fun u=>?_
 .have u:aE b (r.body.getD i em).a7=kw:=by
   have u:li (bU .str (aC b) (r.body.getD i em).a7 0>0)=kw:=u;rwa[uF]at u
  rw[F,am u];refine gA Z (zD [] Z (zM ⟨sE _ _ _ _,rfl,ac⟩ (zH ac)))
 .have u:aE b (r.body.getD i em).a7=lc:=by
   have u:li (bU .str (aC b) (r.body.getD i em).a7 0>0)=lc:=u;rwa[uF]at u
  rw[F,be (by rw[u];exact ZG)];refine gA Z (zD [] Z (zM ⟨sE _ _ _ _,rfl,ac⟩ (zH ac)))
theorem TY(r:ah)(br:IV)(b:List aj)(dm:WD)(i:Nat)(hi:i<r.body.length)(hb:r.size<=10000000):
  bV prog 137 [.ptr 0 0,pI i] (Nq r br b dm) (zx (io ⟨1,i,jh (aE b) (r.body.getD i em).atom,Y5⟩)) (wH r br b dm) 3:=by
 have I:(r.body.getD i em).size<=10000000:=by have:=Lit.aI r.body i hi;unfold ah.size at hb;omega
 have G:=(r.body.getD i em).size_eq;generalize B:(r.body.getD i em).atom=a at G ⊢;refine aB ab func137 Z (by decide) ntmps137 Z (by simp) ?_;refine gA Z ?_;refine oy 4 2 1 Z Z ?_;refine az 0 a.ad.length (Y8 _) (fun j=>⟨[(0,.ptr 0 0),(1,pI i),(4,.ptr 3 0),(6,.ptr 4 0),(20,.iv (cZ 5 a.ad Term.c)),(21,pI a.ad.length),(22,pI j)],[(0,io (wO r br)),(1,io (ct (aC b))),(2,io (xd dm)),(3,io (an Li)),(4,io (.cells [pI 1,pI i,.sl 6 0 (mS (aE b) a j).length 1,pS Y5])),(6,io (aG 1 (mS (aE b) a j) ba))],7⟩) (fun _=>True) [5] ac
  (zM (bv (bv (bv (bv ⟨.of_eq (by rw[<-B];rfl),rfl,.of_eq (by rw[<-B];rfl),rfl,bv trivial⟩)))) (zH (zK (zO (zS trivial))))) fun j S _=>?_
 have J:=EW (aE b) a j;refine zJ Z Z (fun u=>?_) fun u=>?_
 .have u:=ci u;have D:Fo (aE b) (a.ad.getD j em)=lc->mS (aE b) a (j+1)=mS (aE b) a j:=H2;have x:Fo (aE b) (a.ad.getD j em)=kw->mS (aE b) a (j+1)=mS (aE b) a j++ [(j:Int)]:=EV;refine zJ Z Z (fun y=>?_) fun y=>?_
  .have y:li ((a.ad.getD j em).kind=2)=kw:=y;have h:=x (by unfold Fo;rw[y];rfl);refine gA Z ⟨u,ac,[9],zW (zH (zK ⟨⟨_,rfl,.cells ⟨.refl _,.refl _,.row (by rw[h,Y1];rfl),.refl _,ac⟩⟩,YY Z,rfl,hR Z (by rw[h,Y6];rfl) Z ac⟩))⟩
  .have y:li ((a.ad.getD j em).kind=2)=lc:=y;refine zJ Z Z (fun A=>?_) fun A=>?_
   .have A:li ((a.ad.getD j em).kind=1)=kw:=A;refine zJ Z Z (fun d=>?_) fun d=>?_
    .have d:aE b (a.ad.getD j em).var=kw:=by
      have d:li (bU .str (aC b) (a.ad.getD j em).var 0>0)=kw:=d;rwa[uF]at d
     have h:=x (by unfold Fo;rw[A,d];simp);refine gA Z ⟨u,ac,[9],zW (zH (zK ⟨⟨_,rfl,.cells ⟨.refl _,.refl _,.row (by rw[h,Y1];rfl),.refl _,ac⟩⟩,YY Z,rfl,hR Z (by rw[h,Y6];rfl) Z ac⟩))⟩
    .have d:aE b (a.ad.getD j em).var=lc:=by
      have d:li (bU .str (aC b) (a.ad.getD j em).var 0>0)=lc:=d;rwa[uF]at d
     have h:=D (by unfold Fo;rw[y,d];simp);refine gA Z ⟨u,ac,[6],zW (zH (zK ⟨⟨_,rfl,.cells ⟨.refl _,.refl _,.row (by rw[h]),.refl _,ac⟩⟩,YY Z,rfl,hR Z (by rw[h]) Z ac⟩))⟩
   .have A:li ((a.ad.getD j em).kind=1)=lc:=A;have h:=D (by unfold Fo;rw[y,A];rfl);refine gA Z ⟨u,ac,[6],zW (zH (zK ⟨⟨_,rfl,.cells ⟨.refl _,.refl _,.row (by rw[h]),.refl _,ac⟩⟩,YY Z,rfl,hR Z (by rw[h]) Z ac⟩))⟩
 have u:=co u;have F:j=a.ad.length:=by omega
 rw[F];refine gA Z ⟨.inr Z,_,rfl,lB.KP 6 (mS (aE b) a a.ad.length) ba Z Z ⟨⟨ac,ac,by simp[PV.dc],ac,ac⟩,ac,ac⟩ (.done ⟨_,_,_,[],⟨rfl,rfl,rfl⟩,zM ⟨.bQ ⟨.agg ⟨.refl _,.refl _,?_,.refl _,ac⟩,.refl _,ac⟩,rfl,ac⟩ (zH ac)⟩)⟩;show aL (.iv (.dh 1 (mS (aE b) a a.ad.length).length fun k=>ba ((mS (aE b) a a.ad.length).getD (0+k) em))) (.iv (cZ 1 (jh (aE b) a) ba));simp only[Zq];exact .refl _
def fE(K:aj->Bool)(e o:Expr):Bool:=li (e.kind=1)&&(!K e.var&&(bw o).all K)
def yF(K:aj->Bool)(l:Lit)(i:Int):Option dC:=
 if(dy l).all K=kw then io ⟨2,i,[],Y5⟩
 else if l.op≠1 then jp
 else if fE K l.left l.right=kw then io ⟨3,i,[],l.left.var⟩
 else if fE K l.right l.left=kw then io ⟨3,i,[],l.right.var⟩
 else jp
abbrev BJ(l:Lit):List PV:=l.left.c.map .iv++l.right.c.map .iv
abbrev cmF(l:Lit)(i j:Nat):AF:=[(0,.ptr 0 0),(1,pI i),(4,.ptr 3 0),(9,.ptr 6 0),(38,.agg (BJ l)),(39,pI j)]
abbrev XZ(r:ah)(br:IV)(b:List aj)(dm:WD)(l:Lit)(h:AH):AH:=(0,io (wO r br))::(1,io (ct (aC b)))::(2,io (xd dm))::(3,io (an Li))::(6,io (.cells (BJ l)))::h
set_option maxHeartbeats 2000000 in
theorem Wd(r:ah)(br:IV)(b:List aj)(dm:WD)(i:Nat)(hi:i<r.body.length)(hb:r.size<=10000000):
  bV prog 139 [.ptr 0 0,pI i] (Nq r br b dm) (zx (yF (aE b) (r.body.getD i em) i)) (wH r br b dm) 3:=by
 have I:(r.body.getD i em).size<=10000000:=by have:=Lit.aI r.body i hi;unfold ah.size at hb;omega
 have J:=(r.body.getD i em).size_eq;have B:=KA r br b dm i hi hb;unfold uW at B;cases hA:(dy (r.body.getD i em)).all (aE b) with
 |true=>
  rw[hA,am Z]at B;rw[show yF (aE b) (r.body.getD i em) i=io ⟨2,i,[],Y5⟩ from am hA];refine aB ab func139 Z (by decide) ntmps139 Z (by simp) ?_;refine gA Z (bI [0,1,2] B Z Z Z Z Z Z Z Z ?_);refine zJ Z Z (fun D=>?_) fun D=>?_
  .refine gA Z (zD [] Z (zW (zH ac)))
  .exact absurd D (show¬(kw=lc) by decide)
 |false=>
  rw[hA,be ZG]at B;have x:yF (aE b) (r.body.getD i em) i=if(r.body.getD i em).op≠1 then jp else if fE (aE b) (r.body.getD i em).left (r.body.getD i em).right=kw then io ⟨3,i,[],(r.body.getD i em).left.var⟩ else if fE (aE b) (r.body.getD i em).right (r.body.getD i em).left=kw then io ⟨3,i,[],(r.body.getD i em).right.var⟩ else jp:=by
   unfold yF;rw[hA,be ZG]
  refine aB ab func139 Z (by decide) ntmps139 Z (by simp) ?_;refine gA Z (bI [0,1,2] B Z Z Z Z Z Z Z Z ?_);refine zJ Z Z (fun D=>?_) fun D=>?_
  .exact absurd D (show¬(lc=kw) by decide)
  refine zJ Z Z (fun u=>?_) fun u=>?_
  .have u:(r.body.getD i em).op≠1:=by
    have u:(!li ((r.body.getD i em).op=1))=kw:=u;simpa using u
   rw[x,am u];refine gA Z (zD [] Z (zM ⟨Hm,rfl,ac⟩ (zH ac)))
  have u: ¬(r.body.getD i em).op≠1:=by
   have u:(!li ((r.body.getD i em).op=1))=lc:=u;simpa using u
  rw[be u]at x;refine gA Z ?_;refine az 0 2 (Y8 _) (fun j=>⟨cmF (r.body.getD i em) i j,XZ r br b dm (r.body.getD i em) [],7⟩) (fun j=>(1<=j->fE (aE b) (r.body.getD i em).left (r.body.getD i em).right=lc)∧(2<=j->fE (aE b) (r.body.getD i em).right (r.body.getD i em).left=lc)) [] ⟨fun h=>absurd h (by decide),fun h=>absurd h (by decide)⟩
   (zW (zH (zK (zO trivial)))) fun j S A=>?_
  refine zE Z Z (fun y=>?_) fun y=>?_
  .have y:2<=j:=by have:=zF y;omega
   rw[be (by rw[A.1 (by omega)];exact ZG),be (by rw[A.2 y];exact ZG)]at x;rw[x];refine gA Z (zD [] Z (zM ⟨Hm,rfl,ac⟩ (zH ac)))
  have y:j<2:=by have:=zT y;omega
  match j,y,A with
  |0,_,A=>
   refine gA Z (Mb (n:=0) ab Z Z Z Z Z Z Z (by decide) Z Z ?_);refine gM 9 Z (kn [] (t:=⟨[(0,.ptr 0 0),(1,pI i),(4,.ptr 3 0),(9,.ptr 6 0),(10,pI 0),(11,.ptr 7 0),(12,.mp 8),(38,.agg (BJ (r.body.getD i em))),(39,pI 0)],XZ r br b dm (r.body.getD i em) [(7,io (an (r.body.getD i em).left.c)),(8,io (ct (aC [])))],9⟩) (zW (zH (zK (zO (zK (Ji Z (fun _=> .v _) Z ac)))))) ?_);refine gA Z (bI [8] (sS _ (r.body.getD i em).right [] (Y7 _) (by simp only[aad];omega)) Z Z Z Z Z Z Z Z ?_);refine gM 1 Z (xa 8 Z ?_);have F:=iq (r.body.getD i em).right;have no:fE (aE b) (r.body.getD i em).left (r.body.getD i em).right=lc->(0<2∧((1<=0+1->fE (aE b) (r.body.getD i em).left (r.body.getD i em).right=lc)∧(2<=0+1->fE (aE b) (r.body.getD i em).right (r.body.getD i em).left=lc))):=fun h=>⟨by decide,fun _=>h,fun h=>absurd h (by decide)⟩
   refine zE Z Z (fun g1=>?_) fun g1=>?_
   .have g1:li ((r.body.getD i em).left.kind=1)=lc:=g1;have d:=no (by unfold fE;rw[g1];rfl);refine gA Z ⟨d.1,d.2,[],zW (zH (zK (zO ac)))⟩
   have g1:li ((r.body.getD i em).left.kind=1)=kw:=g1;refine zE Z Z (fun g2=>?_) fun g2=>?_
   .have g2:aE b (r.body.getD i em).left.var=kw:=by
     have g2:li (bU .str (aC b) (r.body.getD i em).left.var 0=0)=lc:=g2;rw[kY]at g2;simpa using g2
    have d:=no (by unfold fE;rw[g2];simp);refine gA Z ⟨d.1,d.2,[],zW (zH (zK (zO ac)))⟩
   have g2:aE b (r.body.getD i em).left.var=lc:=by
    have g2:li (bU .str (aC b) (r.body.getD i em).left.var 0=0)=kw:=g2;rw[kY]at g2;simpa using g2
   refine gA Z (zd [0,1,2] (FE r br b (bw (r.body.getD i em).right) dm (by omega)) ?_);refine zJ Z Z (fun g3=>?_) fun g3=>?_
   .have g3:(bw (r.body.getD i em).right).all (aE b)=kw:=g3;have G:fE (aE b) (r.body.getD i em).left (r.body.getD i em).right=kw:=by unfold fE;rw[g1,g2,g3];rfl
    rw[am G]at x;rw[x];refine gA Z (zD [] Z (zM ⟨sE _ _ _ _,rfl,ac⟩ (zH ac)))
   .have g3:(bw (r.body.getD i em).right).all (aE b)=lc:=g3;have d:=no (by unfold fE;rw[g3];simp);refine gA Z ?_;exact⟨d.1,d.2,[],zW (zH (zK (zO ac)))⟩
  |1,_,A=>
   refine gA Z (Mb (n:=1) ab Z Z Z Z Z Z Z (by decide) Z Z ?_);refine gM 9 Z (kn [] (t:=⟨[(0,.ptr 0 0),(1,pI i),(4,.ptr 3 0),(9,.ptr 6 0),(10,pI 1),(11,.ptr 7 0),(12,.mp 8),(38,.agg (BJ (r.body.getD i em))),(39,pI 1)],XZ r br b dm (r.body.getD i em) [(7,io (an (r.body.getD i em).right.c)),(8,io (ct (aC [])))],9⟩) (zW (zH (zK (zO (zK (Ji Z (fun _=> .v _) Z ac)))))) ?_);refine gA Z (bI [8] (sS _ (r.body.getD i em).left [] (Y7 _) (by simp only[aad];omega)) Z Z Z Z Z Z Z Z ?_);refine gM 1 Z (xa 8 Z ?_);have F:=iq (r.body.getD i em).left;have no:fE (aE b) (r.body.getD i em).right (r.body.getD i em).left=lc->(1<2∧((1<=1+1->fE (aE b) (r.body.getD i em).left (r.body.getD i em).right=lc)∧(2<=1+1->fE (aE b) (r.body.getD i em).right (r.body.getD i em).left=lc))):=fun h=>⟨by decide,fun _=>A.1 (by decide),fun _=>h⟩
   refine zE Z Z (fun g1=>?_) fun g1=>?_
   .have g1:li ((r.body.getD i em).right.kind=1)=lc:=g1;have d:=no (by unfold fE;rw[g1];rfl);refine gA Z ⟨d.1,d.2,[],zW (zH (zK (zO ac)))⟩
   have g1:li ((r.body.getD i em).right.kind=1)=kw:=g1;refine zE Z Z (fun g2=>?_) fun g2=>?_
   .have g2:aE b (r.body.getD i em).right.var=kw:=by
     have g2:li (bU .str (aC b) (r.body.getD i em).right.var 0=0)=lc:=g2;rw[kY]at g2;simpa using g2
    have d:=no (by unfold fE;rw[g2];simp);refine gA Z ⟨d.1,d.2,[],zW (zH (zK (zO ac)))⟩
   have g2:aE b (r.body.getD i em).right.var=lc:=by
    have g2:li (bU .str (aC b) (r.body.getD i em).right.var 0=0)=kw:=g2;rw[kY]at g2;simpa using g2
   refine gA Z (zd [0,1,2] (FE r br b (bw (r.body.getD i em).left) dm (by omega)) ?_);refine zJ Z Z (fun g3=>?_) fun g3=>?_
   .have g3:(bw (r.body.getD i em).left).all (aE b)=kw:=g3;have G:fE (aE b) (r.body.getD i em).right (r.body.getD i em).left=kw:=by unfold fE;rw[g1,g2,g3];rfl
    rw[be (by rw[A.1 (by decide)];exact ZG),am G]at x;rw[x];refine gA Z (zD [] Z (zM ⟨sE _ _ _ _,rfl,ac⟩ (zH ac)))
   .have g3:(bw (r.body.getD i em).left).all (aE b)=lc:=g3;have d:=no (by unfold fE;rw[g3];simp);refine gA Z ⟨d.1,d.2,[],zW (zH (zK (zO ac)))⟩
abbrev Xq(n k:Nat):List PV:=[pI n,.dt (.func k) [] []]
abbrev JU:AO:= .row 2 [Xq 1 137,Xq 2 138,Xq 3 139,Xq 4 140]
theorem lX(n:Nat):JU.low n:=by
 intro k e b
 match k,b with
 |0,b=>cases b;rfl
 |1,b=>cases b;rfl
 |2,b=>cases b;rfl
 |3,b=>cases b;rfl
 |k+4,b=>cases b
theorem Ky:bV prog 114 [] [] (.sl 0 0 4 2) [(0,io JU)] 1:=by
 refine aB ab func114 Z (by decide) ntmps114 Z (by simp) ?_;refine gA Z (zD [0] Z (zW ⟨⟨_,rfl,.of_eq Z⟩,YY Z,lX _,ac⟩))
def lF(K:aj->Bool)(b:BM)(l:Lit)(i:Int):Option dC:=
 if l.kind=1 then io ⟨1,i,jh K l.atom,Y5⟩
 else if l.kind=2 then uW K l i
 else if l.kind=3 then yF K l i
 else if l.kind=4 then Bu K (bU (.int .i64) b i []) l i
 else jp
theorem SI(r:ah)(x:BM)(u:List aj)(dm:WD)(i:Nat)(hi:i<r.body.length)(hb:r.size<=10000000)(A:(bU (.int .i64) x (i:Int) []).length<=1000000000):
  bV prog 81 [.ptr 0 0,pI i] (Nq r (zh x) u dm) (zx (lF (aE u) x (r.body.getD i em) i)) (wH r (zh x) u dm) 3:=by
 refine aB ab func81 Z (by decide) ntmps81 Z (by simp) ?_;refine gA Z (zq [] (Ky) ?_);have B:(r.body.getD i em).size<=10000000:=by have:=Lit.aI r.body i hi;unfold ah.size at hb;omega
 refine gA Z ?_;refine az 0 4 (Y8 _) (fun j=>⟨[(0,.ptr 0 0),(1,pI i),(4,.ptr 3 0),(8,.sl 4 0 4 2),(9,pI 4),(10,pI j)],[(0,io (wO r (zh x))),(1,io (ct (aC u))),(2,io (xd dm)),(3,io (an Li)),(4,io JU)],5⟩) (fun j=> ∀n:Nat,n<j-> ¬(r.body.getD i em).kind=(n+1:Nat)) [] (fun n hn=>absurd hn (Z6 n))
  (zW (zH (zK ⟨⟨_,rfl,.of_eq Z⟩,YY Z,lX _,ac⟩))) fun j G d=>?_
 refine zE Z Z (fun y=>?_) fun y=>?_
 .have y:4<=j:=by have:=zF y;omega
  have D: ¬(r.body.getD i em).kind=1:=d 0 (by omega);have a2: ¬(r.body.getD i em).kind=2:=d 1 (by omega);have a3: ¬(r.body.getD i em).kind=3:=d 2 (by omega);have a4: ¬(r.body.getD i em).kind=4:=d 3 (by omega);rw[show lF (aE u) x (r.body.getD i em) i=jp by unfold lF;rw[be D,be a2,be a3,be a4]];refine gA Z (zD [] Z (zM ⟨Hm,rfl,ac⟩ (zH ac)))
 have y:j<4:=by have:=zT y;omega
 have step: ∀j:Nat,(∀n:Nat,n<j-> ¬(r.body.getD i em).kind=(n+1:Nat))-> ¬(r.body.getD i em).kind=(j+1:Nat)-> ∀n:Nat,n<j+1-> ¬(r.body.getD i em).kind=(n+1:Nat):=fun j h F n hn=>by
  rcases ZH.1 hn with hn|hn
  .exact h n hn
  .subst hn;exact F
 match j,y,d with
 |0,_,d=>
  refine gM 6 Z (bp ab Z Z Z Z Z (rfl) Z Z ?_);refine zJ Z Z (fun b=>?_) fun b=>?_
  .have b:(r.body.getD i em).kind=1:=by
    have b:li ((1:Int)=(r.body.getD i em).kind)=kw:=b;exact(zT b).symm
   rw[show lF (aE u) x (r.body.getD i em) i=io ⟨1,i,jh (aE u) (r.body.getD i em).atom,Y5⟩ by unfold lF;rw[am b]];refine gA Z (bI [0,1,2] (TY r (zh x) u dm i hi hb) Z Z Z Z Z Z Z Z ?_);refine gA Z (zD [] Z (zW (zH ac)))
  .have b: ¬(r.body.getD i em).kind=((0+1:Nat):Int):=by
    have b:li ((1:Int)=(r.body.getD i em).kind)=lc:=b;exact fun g=>zF b g.symm
   refine gA Z ?_;exact⟨by decide,step 0 d b,[],zW (zH (zK ⟨⟨_,rfl,.of_eq Z⟩,YY Z,lX _,ac⟩))⟩
 |1,_,d=>
  refine gM 6 Z (bp ab Z Z Z Z Z (rfl) Z Z ?_);refine zJ Z Z (fun b=>?_) fun b=>?_
  .have b:(r.body.getD i em).kind=2:=by
    have b:li ((2:Int)=(r.body.getD i em).kind)=kw:=b;exact(zT b).symm
   rw[show lF (aE u) x (r.body.getD i em) i=uW (aE u) (r.body.getD i em) i by unfold lF;rw[be (show¬(r.body.getD i em).kind=1 from d 0 (by decide)),am b]];refine gA Z (bI [0,1,2] (KA r (zh x) u dm i hi hb) Z Z Z Z Z Z Z Z ?_);refine gA Z (zD [] Z (zW (zH ac)))
  .have b: ¬(r.body.getD i em).kind=((1+1:Nat):Int):=by
    have b:li ((2:Int)=(r.body.getD i em).kind)=lc:=b;exact fun g=>zF b g.symm
   refine gA Z ?_;exact⟨by decide,step 1 d b,[],zW (zH (zK ⟨⟨_,rfl,.of_eq Z⟩,YY Z,lX _,ac⟩))⟩
 |2,_,d=>
  refine gM 6 Z (bp ab Z Z Z Z Z (rfl) Z Z ?_);refine zJ Z Z (fun b=>?_) fun b=>?_
  .have b:(r.body.getD i em).kind=3:=by
    have b:li ((3:Int)=(r.body.getD i em).kind)=kw:=b;exact(zT b).symm
   rw[show lF (aE u) x (r.body.getD i em) i=yF (aE u) (r.body.getD i em) i by unfold lF;rw[be (show¬(r.body.getD i em).kind=1 from d 0 (by decide)),be (show¬(r.body.getD i em).kind=2 from d 1 (by decide)),am b]];refine gA Z (bI [0,1,2] (Wd r (zh x) u dm i hi hb) Z Z Z Z Z Z Z Z ?_);refine gA Z (zD [] Z (zW (zH ac)))
  .have b: ¬(r.body.getD i em).kind=((2+1:Nat):Int):=by
    have b:li ((3:Int)=(r.body.getD i em).kind)=lc:=b;exact fun g=>zF b g.symm
   refine gA Z ?_;exact⟨by decide,step 2 d b,[],zW (zH (zK ⟨⟨_,rfl,.of_eq Z⟩,YY Z,lX _,ac⟩))⟩
 |3,_,d=>
  refine gM 6 Z (bp ab Z Z Z Z Z (rfl) Z Z ?_);refine zJ Z Z (fun b=>?_) fun b=>?_
  .have b:(r.body.getD i em).kind=4:=by
    have b:li ((4:Int)=(r.body.getD i em).kind)=kw:=b;exact(zT b).symm
   rw[show lF (aE u) x (r.body.getD i em) i=Bu (aE u) (bU (.int .i64) x i []) (r.body.getD i em) i by unfold lF;rw[be (show¬(r.body.getD i em).kind=1 from d 0 (by decide)),be (show¬(r.body.getD i em).kind=2 from d 1 (by decide)),be (show¬(r.body.getD i em).kind=3 from d 2 (by decide)),am b]];refine gA Z (bI [0,1,2] (Wf r x u dm i hi hb A) Z Z Z Z Z Z Z Z ?_);refine gA Z (zD [] Z (zW (zH ac)))
  .have b: ¬(r.body.getD i em).kind=((3+1:Nat):Int):=by
    have b:li ((4:Int)=(r.body.getD i em).kind)=lc:=b;exact fun g=>zF b g.symm
   refine gA Z ⟨by decide,step 3 d b,[],zW (zH (zK ⟨⟨_,rfl,.of_eq Z⟩,YY Z,lX _,ac⟩))⟩
def jU(r:ah)(s:dC):List aj:=if s.kind=1 then dy (r.body.getD s.lit.toNat em) else if s.kind=3 then[s.var] else[]
def Jw(dm:WD)(i:Int):WD:=cF (.int .i64) dm i (bU (.int .i64) dm i 0+1)
theorem KB(r:ah)(br:IV)(j:List aj)(dm:WD)(d:Int)(i:Nat)(x:List Int)(b:aj)(hi:i<r.body.length)(hb:r.size<=10000000)(I:j.length<=500000000000000)(hd:0<=bU (.int .i64) dm (i:Int) 0∧bU (.int .i64) dm (i:Int) 0<=1000000000):
  bV prog 83 [.ptr 0 0,ag (dC.mk d i x b).c] (Nq r br j dm) (.bQ []) (wH r br (j++jU r (dC.mk d i x b)) (Jw dm i)) 3:=by
 have A:(r.body.getD i em).size<=10000000:=by have:=Lit.aI r.body i hi;unfold ah.size at hb;omega
 obtain⟨D,F⟩:=hd;have G:=bB j b;have B:=eW j b;by_cases u:d=1
 .have e:jU r (dC.mk d i x b)=dy (r.body.getD i em):=by unfold jU;rw[am u];rfl
  rw[e];refine aB ab func83 Z (by decide) ntmps83 Z (by simp) ?_;refine zJ Z Z (fun q=>?_) fun q=>?_
  .refine gA Z (zd [1] (KF (r.body.getD i em) j (by omega)) ?_);refine gA Z (zD [] Z (zW (zH ac)))
  .exact absurd u (zF q)
 by_cases y:d=3
 .have e:jU r (dC.mk d i x b)=[b]:=by unfold jU;rw[be u,am y]
  rw[e];refine aB ab func83 Z (by decide) ntmps83 Z (by simp) ?_;refine zJ Z Z (fun q=>?_) fun q=>?_
  .exact absurd (zT q) u
  refine zJ Z Z (fun g=>?_) fun g=>?_
  .refine gA Z (zD [] Z (zW (hW Z Z Z (by rw[cS];rfl) Z Z Z ac)))
  .exact absurd y (zF g)
 have e:jU r (dC.mk d i x b)=[]:=by unfold jU;rw[be u,be y]
 rw[e,ZE];refine aB ab func83 Z (by decide) ntmps83 Z (by simp) ?_;refine zJ Z Z (fun q=>?_) fun q=>?_
 .exact absurd (zT q) u
 refine zJ Z Z (fun g=>?_) fun g=>?_
 .exact absurd (zT g) y
 refine gA Z (zD [] Z (zW (zH ac)))
end Go.Proofs.YtflegjieadkonaaGreatDoor
namespace Go.Proofs.YtflegjieadkonaaGreatDoor
open Go Go.Al
section
def oD(dm:WD)(i:Nat):Bool:=li (bU (.int .i64) dm (i:Int) 0>0)
def rY(fstv:Int)(b:Option dC)(i:Nat)(s:dC):Bool:=match b with
 |none=>kw
 |some t=>li ((i:Int)=fstv)||(!li (t.lit=fstv)&&li ((s.eV.length:Int)>t.eV.length))
section
variable (C:Nat->Option dC) (r:ah) (dn:Nat->Bool) (fstv:Int)
def tD(b:Option dC)(i:Nat):Option dC:=if dn i=kw then b else match C i with
 |none=>b
 |some s=>if rY fstv b i s=kw then io s else b
def testW(i:Nat):Option dC:=if !dn i&&li ((r.body.getD i em).kind≠1) then C i else jp
def iz(i:Nat):Option dC:=(Zp i).foldl (tD C dn fstv) jp
def xZ:Option dC:=match(Zp r.body.length).findSome? (testW C r dn) with
 |some s=>io s
 |none=>iz C dn fstv r.body.length
theorem qU(i:Nat):iz C dn fstv (i+1)=tD C dn fstv (iz C dn fstv i) i:=by
 unfold iz;rw[abg,aax];rfl
end
def Xg(b:Option dC):List IV:=match b with
 |none=>Li
 |some t=>t.c
abbrev nxF(r:ah)(fstv:Int)(b:Option dC)(i:Nat):AF:=[(0,.ptr 0 0),(1,pI fstv),(4,.ptr 3 0),(6,.ptr 4 0),(7,pB b.isSome),(16,.iv (lits r.body)),(17,pI r.body.length),(18,pI i)]
abbrev nxH(r:ah)(b:BM)(d:List aj)(dm:WD)(c:List IV):AH:=[(0,io (wO r (zh b))),(1,io (ct (aC d))),(2,io (xd dm)),(3,io (an Li)),(4,io (an c))]
set_option maxHeartbeats 2000000 in
theorem T5(r:ah)(B:BM)(G:List aj)(dm:WD)(fstv:Int)(hb:r.size<=10000000)(b0: ∀i:Int,(bU (.int .i64) B i []).length<=1000000000):
  bV Tryz.prog 109 [.ptr 0 0,pI fstv] (Nq r (zh B) G dm) (zx (xZ (fun i=>lF (aE G) B (r.body.getD i em) i) r (oD dm) fstv)) (wH r (zh B) G dm) 3:=by
 have d0:r.body.length<=10000000:=by have:=Lit.au r.body;unfold ah.size at hb;omega
 generalize Y:(fun i:Nat=>lF (aE G) B (r.body.getD i em) i)=C;have a0: ∀i,C i=lF (aE G) B (r.body.getD i em) i:=fun i=>by rw[<-Y]
 refine aB ab Tryz.func109 Z (by decide) Tryz.ntmps109 Z (by simp) ?_;refine gA Z ?_;refine ux 0 r.body.length (Y8 _) (fun i (b:Option dC)=>⟨nxF r fstv b i,nxH r B G dm (Xg b),5⟩) (fun i b=>b=iz C (oD dm) fstv i∧ ∀j,j<i->testW C r (oD dm) j=jp) jp [] ⟨rfl,fun j hj=>absurd hj (Z6 j)⟩
  (zM (bv (bv (bv (bv ⟨.rA Z,rfl,bv (bv (bv trivial))⟩)))) (zH (zK (zK trivial)))) fun i b hi hJ=>?_
 obtain⟨I,D⟩:=hJ;refine zE Z Z (fun x=>?_) fun x=>?_
 .have x:r.body.length<=i:=by have:=zF x;omega
  have c0:i=r.body.length:=by omega
  subst c0;have hn:xZ C r (oD dm) fstv=b:=by unfold xZ;rw[Cx D,I]
  rw[hn];cases b with
  |none=>
   refine gA Z (zD [] Z (zM ⟨Hm,rfl,ac⟩ (zH ac)))
  |some t=>
   refine gA Z (zD [] Z (zW (zH ac)))
 have x:i<r.body.length:=by have:=zT x;omega
 have u:testW C r (oD dm) i=jp-> ∀j,j<i+1->testW C r (oD dm) j=jp:=fun h j hj=>by
  rcases ZH.1 hj with hj|hj
  .exact D j hj
  .subst hj;exact h
 have d:=qU C (oD dm) fstv i;rw[<-I]at d;refine zJ Z Z (fun y=>?_) fun y=>?_
 .have y:oD dm i=kw:=y;refine gA Z ⟨x,b,[],⟨by rw[d];unfold tD;rw[am y],u (by unfold testW;rw[y];rfl)⟩,zW (zH (zK (zK ac)))⟩
 have y:oD dm i=lc:=y;have d:iz C (oD dm) fstv (i+1)=match C i with
   |none=>b
   |some s=>if rY fstv b i s=kw then io s else b:=by rw[d];unfold tD;rw[be (by rw[y];exact ZG)]
 have J:=SI r B G dm i x hb (b0 i);rw[<-a0 i]at J;cases hk:C i with
 |none=>
  rw[hk]at J d;refine gA Z (bI [0,1,2] J Z Z Z Z Z Z Z Z ?_);refine zJ Z Z (fun S=>?_) fun S=>?_
  .refine gA Z ?_;exact⟨x,b,[],⟨d.symm,u (by unfold testW;rw[hk];split<;>rfl)⟩,zW (zH (zK (zK ac)))⟩
  .exact absurd S (show¬((!lc)=lc) by decide)
 |some s=>
  rw[hk]at J d;refine gA Z (bI [0,1,2] J Z Z Z Z Z Z Z Z ?_);refine zJ Z Z (fun S=>?_) fun S=>?_
  .exact absurd S (show¬((!kw)=kw) by decide)
  refine zJ Z Z (fun A=>?_) fun A=>?_
  .have A:(r.body.getD i em).kind≠1:=by
    have A:(!li ((r.body.getD i em).kind=1))=kw:=A;simpa using A
   have F:testW C r (oD dm) i=io s:=by unfold testW;rw[y,decide_eq_true A,hk];rfl
   have hn:xZ C r (oD dm) fstv=io s:=by unfold xZ;rw[Gh D F x]
   rw[hn];refine gA Z (zD [] Z (zW (zH ac)))
  have A:(r.body.getD i em).kind=1:=zY A;have F:testW C r (oD dm) i=jp:=by unfold testW;rw[decide_eq_false (not_not_intro A),Z5];rfl
  have d:iz C (oD dm) fstv (i+1)=if rY fstv b i s=kw then io s else b:=d;cases b with
  |none=>
   have d:iz C (oD dm) fstv (i+1)=io s:=d;refine zJ Z Z (fun g1=>?_) fun g1=>?_
   .exact absurd g1 (show¬((!lc)=lc) by decide)
   refine gA Z ?_;exact⟨x,io s,[],⟨d.symm,u F⟩,zM (bv (bv (bv (bv ⟨.rA Z,rfl,bv (bv (bv ac))⟩)))) (zH (zK (zK ac)))⟩
  |some t=>
   have d:iz C (oD dm) fstv (i+1)=if(li ((i:Int)=fstv)||(!li (t.lit=fstv)&&li ((s.eV.length:Int)>t.eV.length)))=kw then io s else io t:=d;refine zE Z Z (fun g1=>?_) fun g1=>?_
   .exact absurd g1 (show¬((!kw)=kw) by decide)
   refine zE Z Z (fun g2=>?_) fun g2=>?_
   .have g2:li ((i:Int)=fstv)=kw:=g2;rw[am (by rw[g2];rfl)]at d;refine gA Z ⟨x,io s,[],⟨d.symm,u F⟩,zM (bv (bv (bv (bv ⟨.rA Z,rfl,bv (bv (bv ac))⟩)))) (zH (zK (zK ac)))⟩
   have g2:li ((i:Int)=fstv)=lc:=g2;refine zE Z Z (fun g3=>?_) fun g3=>?_
   .have g3:(!li (t.lit=fstv))=lc:=g3;rw[be (by rw[g2,g3];exact ZG)]at d;refine gA Z ⟨x,io t,[],⟨d.symm,u F⟩,zW (zH (zK (zK ac)))⟩
   have g3:(!li (t.lit=fstv))=kw:=g3;refine zJ Z Z (fun g4=>?_) fun g4=>?_
   .have g4:li ((s.eV.length:Int)>t.eV.length)=kw:=g4;rw[am (by rw[g2,g3,g4];rfl)]at d;refine gA Z ⟨x,io s,[],⟨d.symm,u F⟩,zM (bv (bv (bv (bv ⟨.rA Z,rfl,bv (bv (bv ac))⟩)))) (zH (zK (zK ac)))⟩
   .have g4:li ((s.eV.length:Int)>t.eV.length)=lc:=g4;rw[be (by rw[g2,g3,g4];exact ZG)]at d;refine gA Z ⟨x,io t,[],⟨d.symm,u F⟩,zW (zH (zK (zK ac)))⟩
end
section
theorem EF{α:Type}{f g:Nat->Option α}: ∀{n:Nat},(∀i,i<n->f i=g i)->(Zp n).findSome? f=(Zp n).findSome? g
 |0,_=>rfl
 |n+1,h=>by
  rw[abg,abN,abN,EF fun i b=>h i (by omega)];simp[h n (aar n)]
def CB(r:ah)(fstv:Int):Prop:=fstv= -1∨ ∃f:Nat,fstv=f∧f<r.body.length∧(r.body.getD f em).kind=1
section
variable {K:aj->Bool} {r:ah} {dn:Nat->Bool} {fstv:Int} {C:Nat->Option dC}
def G0(K:aj->Bool)(r:ah)(i:Nat):dC:=⟨1,i,jh K (r.body.getD i em).atom,Y5⟩
theorem uH{i:Nat}(h:(r.body.getD i em).kind=1):iy K r i=io (G0 K r i):=by
 unfold iy uJ;rw[am h];rfl
theorem MQ{i:Nat}(b:jT K r dn i=jp)(hd:dn i=lc)(h: ¬(r.body.getD i em).kind=1):iy K r i=jp:=by
 unfold jT at b;rwa[am (by rw[hd,decide_eq_true h];rfl)]at b
theorem MU(hC: ∀i,i<r.body.length->C i=iy K r i)(hn: ∀i,i<r.body.length->jT K r dn i=jp)(D: ¬(0<=fstv∧dn fstv.toNat=lc)): ∀m,m<=r.body.length->
  (iz C dn fstv m=jp∧kZ K r dn m=(-1, -1))∨ ∃j:Nat,j<m∧dn j=lc∧(r.body.getD j em).kind=1∧iz C dn fstv m=io (G0 K r j)∧kZ K r dn m=((j:Int),((jh K (r.body.getD j em).atom).length:Int))
 |0,_=> .inl ⟨rfl,rfl⟩
 |m+1,hm=>by
  have y: ∀j:Nat,dn j=lc-> ¬(j:Int)=fstv:=fun j hd e=>D ⟨by omega,by rw[<-e,Zs];exact hd⟩;have d:=qU C dn fstv m;have u:=yP K r dn m;unfold tD at d;unfold su at u;have G:=MU hC hn D m (by omega);have F:iz C dn fstv (m+1)=iz C dn fstv m->kZ K r dn (m+1)=kZ K r dn m->((iz C dn fstv (m+1)=jp∧kZ K r dn (m+1)=(-1, -1))∨ ∃j:Nat,j<m+1∧dn j=lc∧(r.body.getD j em).kind=1∧iz C dn fstv (m+1)=io (G0 K r j)∧kZ K r dn (m+1)=((j:Int),((jh K (r.body.getD j em).atom).length:Int))):=fun a b=>G.imp (fun h=>⟨a.trans h.1,b.trans h.2⟩) (fun⟨j,h0,h3,h4,h5,h6⟩=>⟨j,aaE h0,h3,h4,a.trans h5,b.trans h6⟩);by_cases hd:dn m=kw
  .rw[am hd]at d;rw[be (by rw[hd];exact fun h=>nomatch h.1)]at u;exact F d u
  have hd:dn m=lc:=by simpa using hd
  rw[be (by rw[hd];exact ZG),hC m (by omega)]at d;by_cases x:(r.body.getD m em).kind=1
  .rw[uH x]at d;have B:=y m hd;right;rcases G with⟨i1,i2⟩|⟨j,i0,i1,i2,i3,i4⟩
   .rw[i1]at d;rw[i2,am ⟨by rw[hd,decide_eq_true x];rfl,show((jh K (r.body.getD m em).atom).length:Int)> -1 by omega⟩]at u;exact⟨m,aar m,hd,x,d,u⟩
   .have I:rY fstv (io (G0 K r j)) m (G0 K r m)=li (((jh K (r.body.getD m em).atom).length:Int)>(jh K (r.body.getD j em).atom).length):=by
     unfold rY;show(li ((m:Int)=fstv)||(!li ((j:Int)=fstv)&&decide _))=_;rw[decide_eq_false B,decide_eq_false (y j i1)];rfl
    rw[i3]at d;have d:iz C dn fstv (m+1)=if rY fstv (io (G0 K r j)) m (G0 K r m)=kw then io (G0 K r m) else io (G0 K r j):=d;rw[I]at d;rw[i4]at u;by_cases A:((jh K (r.body.getD m em).atom).length:Int)>(jh K (r.body.getD j em).atom).length
    .rw[am (decide_eq_true A)]at d;rw[am ⟨by rw[hd,decide_eq_true x];rfl,A⟩]at u;exact⟨m,aar m,hd,x,d,u⟩
    .rw[be (by rw[decide_eq_false A];exact ZG)]at d;rw[be (fun g=>A g.2)]at u;exact⟨j,aaE i0,i1,i2,d,u⟩
  .rw[MQ (hn m (by omega)) hd x]at d;rw[be (by rw[decide_eq_false x,Z5];exact fun h=>nomatch h.1)]at u;exact F d u
theorem MV(hC: ∀i,i<r.body.length->C i=iy K r i){f:Nat}(b:fstv=f)(hd:dn f=lc)(d:(r.body.getD f em).kind=1): ∀m,m<=r.body.length->f<m->iz C dn fstv m=io (G0 K r f)
 |0,_,h=>absurd h (Z6 f)
 |m+1,hm,hfm=>by
  rw[qU];rcases ZH.1 hfm with h|h
  .rw[MV hC b hd d m (by omega) h];unfold tD;split
   .rfl
   .cases C m with
    |none=>rfl
    |some s=>
     show(if rY fstv (io (G0 K r f)) m s=kw then io s else io (G0 K r f))=_;rw[be];unfold rY;show¬(li ((m:Int)=fstv)||(!li ((f:Int)=fstv)&&_))=kw;rw[decide_eq_false (by omega),decide_eq_true b.symm];exact ZG
  .subst h;unfold tD;rw[be (by rw[hd];exact ZG),hC f (by omega),uH d];show(if rY fstv _ f (G0 K r f)=kw then io (G0 K r f) else _)=_;rw[am];unfold rY;split
   .rfl
   .rw[decide_eq_true b.symm];rfl
theorem Lj(hC: ∀i,i<r.body.length->C i=iy K r i)(hf:CB r fstv):xZ C r dn fstv=ja K r dn fstv:=by
 have B:(Zp r.body.length).findSome? (testW C r dn)=(Zp r.body.length).findSome? (jT K r dn):=EF fun i y=>by
  unfold testW jT;rw[hC i y]
 unfold xZ ja;rw[B];cases hs:(Zp r.body.length).findSome? (jT K r dn) with
 |some s=>rfl
 |none=>
  have A: ∀i,i<r.body.length->jT K r dn i=jp:=fun i y=>List.findSome?_eq_none_iff.1 hs i (Z8.2 y);dsimp only;by_cases b:0<=fstv∧dn fstv.toNat=lc
  .rw[am b];rcases hf with rfl|⟨f,rfl,hfl,d⟩
   .exact absurd b.1 (by decide)
   .have hd:dn f=lc:=b.2;rw[MV hC Z hd d _ (Y7 _) hfl];exact(uH d).symm
  .rw[be b];have hb:qT K r dn=kZ K r dn r.body.length:=rfl;rw[hb];rcases MU hC A b r.body.length (Y7 _) with⟨u,x⟩|⟨j,_,_,d,u,x⟩
   .rw[u,x];rfl
   .rw[u,x,be (by show¬(j:Int)<0;omega)];exact(uH d).symm
end
end
end Go.Proofs.YtflegjieadkonaaGreatDoor
namespace Go.Proofs.YtflegjieadkonaaGreatDoor
open Go Go.Al Go.Proofs.Tryz
def uG(dn:Nat->Bool):Nat->Nat
 |0=>0
 |n+1=>uG dn n+if dn n=kw then 1 else 0
theorem H4(dn:Nat->Bool): ∀n,uG dn n<=n
 |0=>Y7 _
 |n+1=>by have:=H4 dn n;unfold uG;split<;>omega
theorem H3{dn:Nat->Bool}{i:Nat}(hd:dn i=lc): ∀{n},i<n->uG dn n<n
 |0,h=>absurd h (Z6 i)
 |n+1,h=>by
  unfold uG;rcases ZH.1 h with h|h
  .have:=H3 hd h;split<;>omega
  .subst h;rw[be (by rw[hd];exact ZG)];have:=H4 dn i;omega
def zk(dn:Nat->Bool)(i:Int):Nat->Bool:=fun j=>dn j||decide ((j:Int)=i)
theorem Be{dn:Nat->Bool}{i:Nat}: ∀{n},n<=i->uG (zk dn i) n=uG dn n
 |0,_=>rfl
 |n+1,h=>by
  have e:zk dn i n=dn n:=by unfold zk;rw[decide_eq_false (by omega),aaD]
  unfold uG;rw[Be (by omega),e]
theorem EY{dn:Nat->Bool}{i:Nat}(hd:dn i=lc): ∀{n},i<n->uG (zk dn i) n=uG dn n+1
 |0,h=>absurd h (Z6 i)
 |n+1,h=>by
  unfold uG;rcases ZH.1 h with h|h
  .have e:zk dn i n=dn n:=by unfold zk;rw[decide_eq_false (by omega),aaD]
   rw[EY hd h,e];omega
  .subst h;rw[Be (Y7 _),am (by unfold zk;rw[decide_eq_true Z,aba]),be (by rw[hd];exact ZG)]
theorem um{V:Type}{m:List ((KC.int .i64).K×V)}{a c:Int}{v z:V}:bU (.int .i64) (cF (.int .i64) m a v) c z=if a=c then v else bU (.int .i64) m c z:=by
 induction m with
 |nil=>simp only[cF,bU]
 |cons x r ih=>
  obtain⟨k,b⟩:=x;simp only[cF];by_cases h:k=a
  .rw[am h];simp only[bU];by_cases d:a=c
   .simp[d]
   .have: ¬k=c:=fun e=>d (h▸e)
    rw[be d,be d,be this]
  .rw[be h];simp only[bU,ih];by_cases d:k=c
   .have: ¬a=c:=fun e=>h (d.trans e.symm)
    simp[d,this]
   .simp[d]
theorem CG{dm:WD}{i:Nat}(h0:0<=bU (.int .i64) dm (i:Int) 0):oD (Jw dm i)=zk (oD dm) i:=by
 funext j
 unfold oD Jw zk;rw[um];by_cases h:(i:Int)=(j:Int)
 .rw[am h,decide_eq_true (by omega:(j:Int)=i),aba,decide_eq_true (by omega)]
 .rw[be h,decide_eq_false (by omega: ¬(j:Int)=i),aaD]
theorem Ea{K:aj->Bool}{r:ah}{dn:Nat->Bool}{fstv:Int}{s:dC}(hf:fstv<r.body.length)(h:ja K r dn fstv=io s): ∃i:Nat,s.lit=i∧i<r.body.length∧dn i=lc∧iy K r i=io s:=by
 obtain⟨i,u,x,y⟩:=D9 hf h;refine⟨i,u,x,y,?_⟩;have key: ∀j:Nat,iy K r j=io s->iy K r i=io s:=fun j d=>by
  have:=uI d;have:i=j:=by omega
  subst this;exact d
 unfold ja at h;cases hg:(Zp r.body.length).findSome? (jT K r dn) with
 |some s'=>
  rw[hg]at h;cases h;obtain⟨j,_,b⟩:=List.exists_of_findSome?_eq_some hg;unfold jT at b;split at b
  .exact key j b
  .cases b
 |none=>
  rw[hg]at h;dsimp only at h;split at h
  .exact key _ h
  .split at h
   .cases h
   .exact key _ h
theorem JD{K:aj->Bool}{r:ah}{l:Lit}{i:Int}{s:dC}(h:uJ K r l i=io s)(b:s.kind=1):l.kind=1:=by
 unfold uJ vJ Gz at h
 repeat' split at h
 all_goals first
  |assumption
  |(cases h;cases b)
  |cases h
structure Bw (r:ah) (bm:BM):Prop where
 can: ∀(K:aj->Bool) (i:Nat),i<r.body.length->lF K bm (r.body.getD i em) i=iy K r i
 add: ∀i,i<r.body.length->(r.body.getD i em).kind=1-> ∀x,aE (dy (r.body.getD i em)) x=aE (bg (r.body.getD i em).atom) x
 br: ∀i:Int,(bU (.int .i64) bm i []).length<=1000000000
theorem Bw.take{r:ah}{d:BM}(h:Bw r d){K:aj->Bool}{s:dC}{i:Nat}(hi:i<r.body.length)(hs:s.lit=i)(hc:iy K r i=io s):aE (jU r s)=aE (tF r s):=by
 funext x
 unfold jU tF;by_cases b:s.kind=1
 .rw[am b,am b,hs];exact h.add i hi (JD hc b) x
 .rw[be b,be b]
theorem Dd(r:ah)(s:dC){i:Nat}(hs:s.lit=i)(hi:i<r.body.length)(hb:r.size<=10000000):(jU r s).length<=10000000:=by
 have b:(r.body.getD i em).size<=10000000:=by have:=Lit.aI r.body i hi;unfold ah.size at hb;omega
 have d:=ti (r.body.getD i em);unfold jU;split
 .rw[hs];show(dy (r.body.getD i em)).length<=_;omega
 .split
  .simp
  .simp
structure SW (r:ah) (fstv:Int) (all:List dC) (c:Option dC) (ks:List aj) (dm:WD) (L:List dC):Prop where
 cur:c=ja (aE ks) r (oD dm) fstv
 kl:ks.length<=1000000000+L.length*10000000
 cnt:uG (oD dm) r.body.length=L.length
 pos: ∀i:Int,0<=bU (.int .i64) dm i 0∧bU (.int .i64) dm i 0<=1
 rest:L++fo r fstv (r.body.length-L.length) (oD dm) (aE ks)=all
theorem O4{r:ah}{fstv:Int}{all:List dC}{j:List aj}{dm:WD}{L:List dC}(h:SW r fstv all jp j dm L):L=all:=by
 have b:=h.rest;have d:=h.cur.symm;cases hm:r.body.length-L.length with
 |zero=>rw[hm]at b;simpa[fo]using b
 |succ m=>rw[hm,fo,d]at b;simpa using b
theorem O3{r:ah}{D:BM}{fstv:Int}{all:List dC}{s:dC}{A:List aj}{dm:WD}{L:List dC}(G:Bw r D)(hf:fstv<r.body.length)(hb:r.size<=10000000)(h:SW r fstv all (io s) A dm L):
  ∃i:Nat,s.lit=i∧i<r.body.length∧(0<=bU (.int .i64) dm (i:Int) 0∧bU (.int .i64) dm (i:Int) 0<=1000000000)∧L.length<r.body.length∧SW r fstv all (ja (aE (A++jU r s)) r (oD (Jw dm i)) fstv) (A++jU r s) (Jw dm i) (L++ [s]):=by
 obtain⟨i,u,b,x,F⟩:=Ea hf h.cur.symm;have y:=h.pos i;have d:=H3 x b;rw[h.cnt]at d;have I:bU (.int .i64) dm (i:Int) 0=0:=by
  have:=zF x;omega
 refine⟨i,u,b,⟨y.1,by omega⟩,d,rfl,?_,?_,?_,?_⟩
 .have J:=Dd r s u b hb;have S:=h.kl;rw[Y1,Y1,ZB,aaf];omega
 .rw[CG y.1,EY x b,h.cnt,Y1,ZB]
 .intro j;unfold Jw;rw[um];split
  .omega
  .exact h.pos j
 .have B:=h.rest;rw[show r.body.length-L.length=(r.body.length-(L.length+1))+1 by omega,fo,<-h.cur]at B;rw[<-B,Zc,Y1,ZB,CG y.1,Cm,G.take b u F,<-u];rfl
abbrev stF(fstv:Int)(n:Nat)(b:Bool):AF:=[(0,.ptr 0 0),(1,pI fstv),(5,.sl 6 0 n 4),(6,.ptr 5 0),(7,pB b)]
abbrev stH(r:ah)(b:BM)(d:List aj)(dm:WD)(c:List IV)(L:List dC):AH:=[(0,io (wO r (zh b))),(1,io (ct (aC d))),(2,io (xd dm)),(5,io (an c)),(6,io (aG 4 L dC.c))]
set_option maxHeartbeats 1000000 in
theorem BL(r:ah)(d:BM)(b:List aj)(fstv:Int)(G:Bw r d)(S:CB r fstv)(hf:fstv<r.body.length)(hb:r.size<=10000000)(hk:b.length<=1000000000):
  bV prog 73 [.ptr 0 0,pI fstv] (Nq r (zh d) b []) (.iv (cZ 4 (fo r fstv r.body.length (fun _=>lc) (aE b)) dC.c)) [] 3:=by
 have a0:r.body.length<=10000000:=by have:=Lit.au r.body;unfold ah.size at hb;omega
 have hN: ∀b dm,bV prog 109 [.ptr 0 0,pI fstv] (Nq r (zh d) b dm) (zx (ja (aE b) r (oD dm) fstv)) (wH r (zh d) b dm) 3:=fun b dm=>by
  have h:=T5 r d b dm fstv hb G.br;rwa[Lj (fun i Y=>G.can (aE b) i Y) S]at h
 generalize I:fo r fstv r.body.length (fun _=>lc) (aE b)=all
 have h0:SW r fstv all (ja (aE b) r (oD []) fstv) b [] []:=⟨rfl,by omega,by
  have: ∀n,uG (oD []) n=0:=fun n=>by induction n with
   |zero=>rfl
   |succ n ih=>unfold uG;rw[ih];rfl
  exact this _,fun _=>by simp[bU],by
  have:oD []=fun _=>lc:=by funext j;rfl
  rw[this];exact I⟩
 generalize J:ja (aE b) r (oD []) fstv=c at h0;have y:=hN b [];rw[J]at y;refine aB ab func73 Z (by decide) ntmps73 Z (by simp) ?_;refine gA Z (bI [0,1,2] y Z Z Z Z Z Z Z Z ?_);refine gA Z ?_;refine fU 5 4 Z ?_;refine oA (σ:={x:Option dC×List aj×WD×List dC//SW r fstv all x.1 x.2.1 x.2.2.1 x.2.2.2}) (fun x=>⟨stF fstv x.1.2.2.2.length (IX x.1.1).2,stH r d x.1.2.1 x.1.2.2.1 (IX x.1.1).1.c x.1.2.2.2,7⟩) (fun x=>r.body.length-x.1.2.2.2.length) ⟨(c,b,[],[]),h0⟩ [3,4]
  (zW (zH (zK (zS trivial)))) fun x=>?_
 obtain⟨⟨c,b,dm,L⟩,B⟩:=x;have B:SW r fstv all c b dm L:=B;show GO prog _ _ _ ⟨stF fstv L.length (IX c).2,stH r d b dm (IX c).1.c L,7⟩;refine zJ Z Z (fun q1=>?_) fun q1=>?_
 .cases c with
  |none=>exact absurd q1 (show¬(lc=kw) by decide)
  |some s=>
   obtain⟨i,hs,Y,hd,d0,A⟩:=O3 G hf hb B;obtain⟨D,lt,u,F⟩:=s;cases hs;have c0:=B.kl;refine gA Z (bI [0,1,2] (KB r (zh d) b dm D i u F Y hb (by omega) hd) Z Z Z Z Z Z Z Z ?_);have hn:=hN (b++jU r ⟨D,(i:Int),u,F⟩) (Jw dm i);generalize b0:ja (aE (b++jU r ⟨D,(i:Int),u,F⟩)) r (oD (Jw dm i)) fstv=c2 at hn A;refine gA Z (bI [0,1,2] hn Z Z Z Z Z Z Z Z ?_);refine gA Z ⟨⟨(c2,b++jU r ⟨D,(i:Int),u,F⟩,Jw dm i,L++ [⟨D,(i:Int),u,F⟩]),A⟩,[9,8],by simp only[Y1,ZB];omega,zM (bv (bv ⟨.row (by rw[Y1];rfl),rfl,bv (bv ac)⟩)) (zH (zK (hR Z (by rw[Y6];rfl) Z ac)))⟩
 .cases c with
  |some s=>exact absurd q1 (show¬(kw=lc) by decide)
  |none=>
   have:=O4 B;subst this;refine gM 1 Z (kn [] (t:=⟨[(5,.sl 6 0 L.length 4)],[(6,io (aG 4 L dC.c))],7⟩) (zW (zS ac)) ?_);refine Cs 6 (fun k=>dC.c (L.getD k em)) Z (fN Z) (by simp[AF.xS,PV.dc]) ⟨xK _ _ _ _ _ _,ac⟩ ?_
   refine kn (L:=[]) (t:=⟨[(5,.iv (cZ 4 L dC.c))],[],7⟩) (zM ⟨(by
    show aL (.iv (.dh 4 L.length fun k=>dC.c (L.getD (0+k) em))) (.iv (cZ 4 L dC.c));simp only[Zq]
    exact .refl _),rfl,ac⟩ ac) ?_
   refine gA Z (zD [] Z (zW ac))
def ig(l:Lit):List aj:=(if l.c7=1 then[] else bw l.jR)++l.ar.flatMap dy
def Nu(r:ah)(l:Lit):List aj:=if l.kind=4 then(outer r).filter (aE (ig l)) else[]
def y8(G:BM)(k:Int)(l:List aj):BM:=l.foldl (fun G a=>cF (.int .i64) G k (bU (.int .i64) G k []++ [a])) G
def Q4(r:ah)(i:Nat):BM:=(Zp i).foldl (fun G (i:Nat)=>y8 G i (Nu r (r.body.getD i em))) []
def H9(r:ah):BM:=Q4 r r.body.length
theorem JL(G:BM)(k:Int)(l:List aj)(a:aj):y8 G k (l++ [a])=cF (.int .i64) (y8 G k l) k (bU (.int .i64) (y8 G k l) k []++ [a]):=by
 unfold y8;rw[aax];rfl
theorem E8(r:ah)(i:Nat):Q4 r (i+1)=y8 (Q4 r i) i (Nu r (r.body.getD i em)):=by
 unfold Q4;rw[abg,aax];rfl
theorem Ih(k c:Int): ∀(l:List aj) (G:BM),bU (.int .i64) (y8 G k l) c []=if k=c then bU (.int .i64) G c []++l else bU (.int .i64) G c []
 | [],G=>by unfold y8;simp
 |a::l,G=>by
  show bU (.int .i64) (y8 (cF (.int .i64) G k (bU (.int .i64) G k []++ [a])) k l) c []=_;rw[Ih k c l,um];by_cases h:k=c
  .subst h;rw[am Z,am Z,am Z,Zc];rfl
  .rw[be h,be h,be h]
theorem Gv(r:ah)(c:Int): ∀n,bU (.int .i64) (Q4 r n) c []=if 0<=c∧c<n then Nu r (r.body.getD c.toNat em) else[]
 |0=>by rw[be (by omega)];rfl
 |n+1=>by
  rw[E8,Ih,Gv r c n];by_cases h:(n:Int)=c
  .subst h;rw[am Z,be (by omega),am (by omega),Zs];rfl
  .rw[be h];by_cases b:0<=c∧c<n
   .rw[am b,am (by omega)]
   .rw[be b,be (by omega)]
theorem QZ(r:ah)(l:Lit):(Nu r l).length<=r.size:=by
 unfold Nu;split
 .exact ZS (aae _ _) (Ar r)
 .exact Y8 _
theorem U8(r:ah){i:Nat}(hi:i<r.body.length):bU (.int .i64) (H9 r) (i:Int) []=Nu r (r.body.getD i em):=by
 unfold H9;rw[Gv,am (by omega)];rfl
theorem Q3(r:ah)(c:Int):(bU (.int .i64) (H9 r) c []).length<=r.size:=by
 unfold H9;rw[Gv];split
 .exact QZ r _
 .exact Y8 _
theorem Ld{L:GL}(k:Int)(a:aj):
  (lz (.int .i64) (ofM L) k=jp∧bU (.int .i64) (ofM L) k jp=jp∧(∀b e a0,cF (.int .i64) (ofM L) k (io (b,1,a0))=ofM (L++ [(b,e,k,a0,[a])])∧ox (L++ [(b,e,k,a0,[a])])=cF (.int .i64) (ox L) k (bU (.int .i64) (ox L) k []++ [a])))∨
  ∃i y,L[i]? =io y∧bU (.int .i64) (ofM L) k jp=io (y.1,y.2.2.2.2.length,y.2.2.2.1)∧(∀b e a0,cF (.int .i64) (ofM L) k (io (b,y.2.2.2.2.length+1,a0))=ofM (L.set i (b,e,k,a0,y.2.2.2.2++ [a]))∧ox (L.set i (b,e,k,a0,y.2.2.2.2++ [a]))=cF (.int .i64) (ox L) k (bU (.int .i64) (ox L) k []++ [a])):=by
 cases hf:lz (.int .i64) (ofM L) k with
 |none=>
  obtain⟨d,_,u,_⟩:=l5 hf;rw[HT]at hf;obtain⟨x,_,B,_⟩:=l5 hf;exact .inl ⟨rfl,d jp,fun b e a0=>⟨by rw[u];simp[ofM],by rw[B,x];simp[ox]⟩⟩
 |some i=>
  right;obtain⟨v,d,u,_,x,_⟩:=l4 hf;rw[HT]at hf;obtain⟨F,g1,g2,_,g3,_⟩:=l4 hf;have j: ∃y,L[i]? =io y:=by
   unfold ofM at d;rw[Y9,Zb]at d;obtain⟨y,j,_⟩:=d;exact⟨y,j⟩
  obtain⟨y,j⟩:=j;have D:v=io (y.1,y.2.2.2.2.length,y.2.2.2.1):=by
   unfold ofM at d;rw[Y9,j]at d;simp only[ZZ,Y2,Ze]at d;exact d.2.symm
  have A:F=y.2.2.2.2:=by
   unfold ox at g1;rw[Y9,j]at g1;simp only[ZZ,Y2,Ze]at g1;exact g1.2.symm
  refine⟨i,y,j,by rw[u jp,D],fun b e a0=>⟨?_,?_⟩⟩
  .rw[x];unfold ofM;rw[aaJ];simp
  .rw[g3,g2 [],A];unfold ox;rw[aaJ]
abbrev Vq(r:ah):AO:= .cells [.iv (iS r.head.rel),.iv (cZ 5 r.head.ad Term.c),.iv (lits r.body),.iv (iI r.at_.line),.iv (iI r.at_.zu),.mp 1,.mp 2,.mp 3]
theorem AE: ∀l:List Lit,(l.flatMap dy).length<=Lit.aA l
 | []=>Y7 _
 |e::r=>by
  have b:=ti e;have d:=AE r;simp only[ZO,Y1,Lit.aA];omega
theorem Ja(l:List Lit){k:Nat}(h:k<l.length):((l.take k).flatMap dy).length+(l.getD k em).size<=2*Lit.aA l:=by
 have d:=AE (l.take k);have j:=Lit.aI l k h;have b: ∀(l:List Lit) k,Lit.aA (l.take k)<=Lit.aA l:=fun l=>by
  induction l with
  |nil=>intro k;simp
  |cons e r ih=>intro k;cases k with
   |zero=>simp[Lit.aA]
   |succ k=>have:=ih k;simp only[aan,Lit.aA];omega
 have:=b l k;omega
abbrev YQ(r:ah)(i:Nat):AF:=[(2,.ptr 0 0),(5,.ptr 4 0),(8,.iv (strs (outer r))),(39,.iv (lits r.body)),(40,pI r.body.length),(41,pI i)]
abbrev YO(r:ah)(b:List aj)(L:GL):AH:=[(0,io (an r.c)),(1,io (ct (aC b))),(2,io (Uu (ofM L))),(3,io (xd [])),(4,io (Vq r))]
theorem hB{n:Nat}{σ:Nat->Nat}{h:AH}{r:ah}{m:NM}{b:List aj}{d:OM}{L:GL}{rest:AH}(h0:h.get (σ 0)=io (an r.c))(h1:h.get (σ 1)=io (ct m))(h2:h.get (σ 2)=io (Uu d))(h3:h.get (σ 3)=io (xd []))
  (j:h.get (σ 4)=io (.cells [.iv (iS r.head.rel),.iv (cZ 5 r.head.ad Term.c),.iv (lits r.body),.iv (iI r.at_.line),.iv (iI r.at_.zu),.mp (σ 1),.mp (σ 2),.mp (σ 3)])) (e1:m=aC b) (e2:d=ofM L) (u:(Vq r).low n) (hb:Zk 4 n=kw) (hr:n6 n σ h rest):
  n6 n σ h ((0,io (an r.c))::(1,io (ct (aC b)))::(2,io (Uu (ofM L)))::(3,io (xd []))::(4,io (Vq r))::rest):=by
 subst e1 e2;have x:4<n:=YY hb;exact⟨⟨_,h0,.of_eq Z⟩,by omega,l9 n r.c,⟨_,h1,.of_eq Z⟩,by omega,ac,⟨_,h2,.of_eq Z⟩,by omega,ac,⟨_,h3,.of_eq Z⟩,by omega,ac,⟨_,j,.of_eq Z⟩,x,u,hr⟩
abbrev Va(r:ah)(i:Nat):AF:=[(2,.ptr 0 0),(5,.ptr 4 0),(8,.iv (strs (outer r))),(39,.iv (lits r.body)),(40,pI r.body.length),(41,pI i),(9,pI i),(10,.ptr 5 0),(11,.mp 6)]
abbrev YP(r:ah)(i:Nat)(l:Lit)(k:Nat):AF:=[(2,.ptr 0 0),(5,.ptr 4 0),(8,.iv (strs (outer r))),(39,.iv (lits r.body)),(40,pI r.body.length),(41,pI i),(9,pI i),(10,.ptr 5 0),(11,.mp 6),(61,.iv (lits l.ar)),(62,pI l.ar.length),(63,pI k)]
abbrev U9(r:ah)(i:Nat)(k:Nat):AF:=[(2,.ptr 0 0),(5,.ptr 4 0),(8,.iv (strs (outer r))),(39,.iv (lits r.body)),(40,pI r.body.length),(41,pI i),(9,pI i),(10,.ptr 5 0),(11,.mp 6),(71,.iv (strs (outer r))),(72,pI (outer r).length),(73,pI k)]
abbrev Xf(r:ah)(i:Nat)(k n:Nat):AF:=[(2,.ptr 0 0),(5,.ptr 4 0),(8,.iv (strs (outer r))),(39,.iv (lits r.body)),(40,pI r.body.length),(41,pI i),(9,pI i),(10,.ptr 5 0),(11,.mp 6),(71,.iv (strs (outer r))),(72,pI (outer r).length),(73,pI k),(84,.mp 2),(85,pI i),(94,.sl 9 0 n 1)]
abbrev Xe(r:ah)(b:List aj)(L:GL)(l:Lit)(occ:List aj)(x:List aj):AH:=[(0,io (an r.c)),(1,io (ct (aC b))),(2,io (Uu (ofM L))),(3,io (xd [])),(4,io (Vq r)),(5,io (an l.c)),(6,io (ct (aC occ))),(9,io (aG 1 x cM))]
abbrev Gx(r:ah)(b:List aj)(L:GL)(l:Lit)(occ:List aj):AH:=[(0,io (an r.c)),(1,io (ct (aC b))),(2,io (Uu (ofM L))),(3,io (xd [])),(4,io (Vq r)),(5,io (an l.c)),(6,io (ct (aC occ)))]
set_option maxHeartbeats 1000000 in
theorem FF(r:ah)(A:List aj)(hb:r.size<=2000000)(hk:A.length<=1000000000):bV prog 72 [ag r.c,.iv (strs A)] [] (.ptr 0 0) (wH r (zh (H9 r)) A []) 3:=by
 have t0:r.body.length<=2000000:=by have:=Lit.au r.body;unfold ah.size at hb;omega
 have s0:(outer r).length<=2000000:=ZS (Ar r) hb;refine aB ab func72 Z (by decide) ntmps72 Z (by simp) ?_;refine gA Z ?_;refine az 0 A.length (Y8 _) (fun j=>⟨[(2,.ptr 0 0),(5,.ptr 4 0),(22,.iv (strs A)),(23,pI A.length),(24,pI j)],[(0,io (an r.c)),(1,io (ct (aC (A.take j)))),(2,io (Uu (ofM []))),(3,io (xd [])),(4,io (Vq r))],5⟩) (fun _=>True) [] ac ?_ fun j hj _=>?_
 .exact zW (zK (Ji Z (fun _=> .v _) Z (Ji Z (fun _=> .v _) Z (Ji Z (fun _=> .v _) Z (zO ac)))))
 refine zJ Z Z (fun G=>?_) fun G=>?_
 .have G:=ci G;have j0:=bB (A.take j) (A.getD j em);have o0:=eW (A.take j) (A.getD j em);simp only[ZP]at o0;refine gA Z ⟨G,ac,[],zW (hB Z Z Z Z Z (by rw[bz G,cS];rfl) Z Z Z ac)⟩
 have G:=co G;have e0:A.take j=A:=Za G;rw[e0];refine gA Z (zp (U3 r (by omega)) ?_);refine gM 2 Z (HE ?_);refine aJ (aJ (fS ⟨YQ r 0,YO r A [],5⟩ ?_ ?_))
 .refine gA Z (fJ [] ?_);exact zW (hB Z Z Z Z Z Z Z Z Z ac)
 refine bS (j5 0 r.body.length (Y8 _) (fun i (x:ULift.{1} GL)=>⟨YQ r i,YO r A x.down,5⟩)
  (fun i x Y=>Y=eP fR x.down∧Rk x.down∧ox x.down=Q4 r i∧ ∀y∈x.down,y.2.2.2.2.length<=i*(outer r).length) ⟨[]⟩ [] ⟨rfl,⟨Z3,fun y hy=>(nomatch hy)⟩,rfl,fun y hy=>(nomatch hy)⟩
  (zW (hB Z Z Z Z Z Z Z Z Z ac)) (fun _ _ _ h=>h.1▸cO fR _) fun i x Y hi hJ=>?_)
 obtain⟨rfl,d0,b0,i0⟩:=hJ;obtain⟨L⟩:=x;have d0:Rk L:=d0;have b0:ox L=Q4 r i:=b0;have i0: ∀y∈L,y.2.2.2.2.length<=i*(outer r).length:=i0;refine aJ (bZ ?_);refine gA Z ?_;refine aJ (dB Z (fun G=>dQ ?_) (fun G=>gG ?_));rotate_left
 .have G:=co G;have k0:i=r.body.length:=by omega
  subst k0;change GX _ _ [.code _] _ _ _;refine Eu (BF (i:=2) (o':= .map (.int .i64) strs [] (.slice jp 0 0) dvL (ox L)) Z (Vy d0)) fun t Y I=>?_;obtain⟨rfl,rfl⟩:=I;rw[b0];refine bZ ?_;refine xa 2 Z ?_;refine gA Z (zD [4,1,3] Z (zW (zH ac)))
 have G:=ci G;have c0:=E8 r i;refine aJ (bS ?_);refine yn 2 ⟨YQ r i++ [(9,pI i),(10,.ptr 5 0),(48,pB (li ((r.body.getD i em).kind=4)))],YO r A L++ [(5,io (an (r.body.getD i em).c))],6⟩ Z ?_ ?_
 .refine gA Z (fJ [5] ?_);exact zW (hB Z Z Z Z Z Z Z Z Z (zK ac))
 refine dB Z (fun q1=>?_) (fun q1=>dQ ?_)
 .have q1:(r.body.getD i em).kind=4:=zT q1;generalize r0:r.body.getD i em=l at*
  have y0:l.size<=10000000:=by rw[<-r0];have:=Lit.aI r.body i G;unfold ah.size at hb;omega
  have x0:=l.size_eq;have v0:i*(outer r).length<=2000000*2000000:=Nat.mul_le_mul (by omega) s0;have p0:=iq l.jR;have g0:=Lit.au l.ar;refine yn 1 ⟨Va r i,Gx r A L l [],7⟩ Z ?_ ?_
  .refine gA Z (fJ [6] ?_);exact zW (hB Z Z Z Z Z Z Z Z Z (zK (Ji Z (fun _=> .v _) Z ac)))
  refine yn 1 ⟨Va r i,Gx r A L l (if l.c7=1 then[] else bw l.jR),7⟩ Z ?_ ?_
  .refine zJ Z Z (fun q2=>?_) fun q2=>?_
   .have q2: ¬l.c7=1:=by simpa using q2
    rw[be q2];refine gA Z (bI [6] (sS _ l.jR [] (Y7 _) (by simp only[aad];omega)) Z Z Z Z Z Z Z Z ?_);refine gA Z (fJ [] ?_);exact zW (hB Z Z Z Z Z Z Z Z Z (zK (zC ac)))
   .have q2:l.c7=1:=by simpa using q2
    rw[am q2];refine gA Z (fJ [] ?_);exact zW (hB Z Z Z Z Z Z Z Z Z (zK (zC ac)))
  generalize f0:(if l.c7=1 then[] else bw l.jR)=pre;have w0:pre.length<=l.jR.size:=by rw[<-f0];split;simp;exact p0
  have k0:ig l=pre++l.ar.flatMap dy:=by unfold ig;rw[f0]
  refine yn 1 ⟨Va r i,Gx r A L l (ig l),7⟩ Z ?_ ?_
  .refine gA Z ?_;refine az 0 l.ar.length (Y8 _) (fun k=>⟨YP r i l k,Gx r A L l (pre++(l.ar.take k).flatMap dy),7⟩) (fun _=>True) [] ac
    (zM (bv (bv (bv (bv (bv (bv (bv (bv (bv ⟨.iv (nS _),rfl,bv (bv trivial)⟩))))))))) (hB Z Z Z Z Z Z Z Z Z (zK (hM Z (by simp) Z trivial)))) fun k hk _=>?_
   refine zJ Z Z (fun D=>?_) fun D=>?_
   .have D:=ci D;have hs:=bG (f:=dy) D;have hz:=Lit.aI l.ar k D;refine gA Z (bI [6] (KF (l.ar.getD k em) (pre++(l.ar.take k).flatMap dy) (by have:=Ja l.ar D;rw[Y1];omega)) Z Z Z Z Z Z Z Z ?_);refine gA Z ⟨D,ac,[],zW (hB Z Z Z Z Z Z Z Z Z (zK (hM Z (by rw[hs,Zc]) Z ac)))⟩
   .have D:=co D;rw[Za D];refine gA Z (fJ [] ?_);exact zW (hB Z Z Z Z Z Z Z Z Z (zK (hM Z (by rw[k0]) Z ac)))
  refine aJ (fS ⟨U9 r i 0,Gx r A L l (ig l),7⟩ ?_ ?_)
  .refine gA Z (fJ [] ?_);exact zW (hB Z Z Z Z Z Z Z Z Z (zK (zC ac)))
  refine bS (j5 0 (outer r).length (Y8 _) (fun k (x:ULift.{1} GL)=>⟨U9 r i k,Gx r A x.down l (ig l),7⟩)
   (fun k x Y=>Y=eP fR x.down∧Rk x.down∧ox x.down=y8 (Q4 r i) i (((outer r).take k).filter (aE (ig l)))∧ ∀y∈x.down,y.2.2.2.2.length<=i*(outer r).length+k) ⟨L⟩ [] ⟨rfl,d0,b0,i0⟩
   (zW (hB Z Z Z Z Z Z Z Z Z (zK (zC ac)))) (fun _ _ _ h=>h.1▸cO fR _) fun k x Y hk hJ=>?_)
  obtain⟨rfl,u,F,B⟩:=hJ;obtain⟨J⟩:=x;have u:Rk J:=u;have F:ox J=y8 (Q4 r i) i (((outer r).take k).filter (aE (ig l))):=F;have B: ∀y∈J,y.2.2.2.2.length<=i*(outer r).length+k:=B;refine aJ (bZ ?_);refine gA Z ?_;refine aJ (dB Z (fun D=>dQ ?_) (fun D=>gG ?_));rotate_left
  .change GX _ _ (.aK 3::_) _ _ _;have D:=co D;rw[Za D]at F;refine jv (bZ ?_);refine gA Z ⟨G,⟨J⟩,[],⟨rfl,u,by rw[c0,F];unfold Nu;rw[am q1],fun z hz=>by have:=B z hz;rw[aaW];omega⟩,zW (hB Z Z Z Z Z Z Z Z Z ac)⟩
  have D:=ci D;have n0:=bz D;refine aJ (bS ?_);refine yn 2 ⟨U9 r i k++ [(15,pS ((outer r).getD k em)),(80,pB (aE (ig l) ((outer r).getD k em)))],Gx r A J l (ig l),7⟩ Z ?_ ?_
  .refine gA Z (fJ [] ?_);exact zM (bv (bv (bv (bv (bv (bv (bv (bv (bv (bv (bv (bv (bv ⟨.of_eq (by rw[<-uF];rfl),rfl,ac⟩))))))))))))) (hB Z Z Z Z Z Z Z Z Z (zK (zC ac)))
  refine dB Z (fun q4=>?_) (fun q4=>dQ ?_);rotate_left
  .refine jv (bZ ?_);refine gA Z ⟨D,⟨J⟩,[],⟨rfl,u,by rw[n0,abc,List.filter_cons_of_neg (by rw[q4];exact ZG),List.filter_nil,ZE];exact F,fun z hz=>Nat.le_succ_of_le (B z hz)⟩,zW (hB Z Z Z Z Z Z Z Z Z (zK (zC ac)))⟩
  have q0:((outer r).take (k+1)).filter (aE (ig l))=((outer r).take k).filter (aE (ig l))++ [(outer r).getD k em]:=by
   rw[n0,abc,List.filter_cons_of_pos q4];rfl
  have m0:=Ld (L:=J) i ((outer r).getD k em);rw[F,<-JL,<-q0]at m0;refine LU cz Z Z Z ?_;refine dR 12 Z ?_;refine dO Z Z Z Z Z Z ?_;rcases m0 with⟨_,j0,hnew⟩|⟨t,y,hy,j0,hnew⟩
  .refine qL (SE (d:=91) (p:= .iv (.v (.slice jp 0 0))) (.of_eq (show PV.iv (.v (TO (bU (.int .i64) (ofM J) (i:Int) jp)))=_ by rw[j0];rfl))) fun t Y I=>?_
   obtain⟨rfl,rfl⟩:=I;refine dO Z Z Z Z Z Z ?_;refine qL (SC (t:=⟨Xf r i k 1,Xe r A J l (ig l) [(outer r).getD k em],10⟩) (L:=[]) (zW (hB Z Z Z Z Z Z Z Z Z (zK (zC (zS ac)))))) fun t Y I=>?_;obtain⟨rfl,rfl⟩:=I;refine qL (re (i:=9) (d:=94) (cO fR J) Z Z (DB _) Z (by simp)) fun t Y I=>?_;obtain⟨b,e,a0,g0,g1,g2,g3,rfl,rfl⟩:=I;refine dO Z Z Z Z Z Z ?_;refine HW ?_;refine jv (bZ ?_);refine gA Z ?_;have S:=ua fR g0;obtain⟨p1,p2⟩:=hnew b e a0
   exact⟨D,⟨J++ [(b,e,(i:Int),a0,[(outer r).getD k em])]⟩,[],⟨sR fR (y:=(b,e,(i:Int),a0,[(outer r).getD k em])) u.nd S,P1 u S ⟨by simp,by simpa using g1,g2,g3⟩,p2,fun z hz=>by
    rcases Zf.1 hz with hz|hz
    .have:=B z hz;omega
    .rw[Zd]at hz;subst hz;show 1<=_;omega⟩,zW (hB Z Z Z Z Z Z p1 Z Z (zK (zC ac)))⟩
  .obtain⟨k1,k2,k3,k4⟩:=u.ok y (Zv hy);have k5:=B y (Zv hy);refine qL (kr (d:=91) (sz:=1) (dd fR u.nd hy) (show PV.iv (.v (TO (bU (.int .i64) (ofM J) (i:Int) jp)))=_ by rw[j0];rfl) (List.length_pos_iff.2 k1) k2 k3 k4) fun t Y I=>?_;obtain⟨rfl,rfl⟩:=I;refine qL (SE (d:=91) (p:= .sl 8 0 (y.2.2.2.2.map fun x=>(cM x).map PV.iv).length 1) (aL.row (by simp))) fun t Y I=>?_;obtain⟨rfl,rfl⟩:=I;refine dO Z Z Z Z Z Z ?_ ⟨?_,?_⟩;rotate_left
   .exact⟨rfl,by simp,rfl,by simp;omega,by simp;omega⟩
   .repeat' (first|exact ac|exact rfl|exact aL.refl _|apply ZL)
   refine qL (SC (t:=⟨Xf r i k (y.2.2.2.2.length+1),Xe r A J l (ig l) (y.2.2.2.2++ [(outer r).getD k em]),10⟩) (L:=[]) (zM (bv (bv (bv (bv (bv (bv (bv (bv (bv (bv (bv (bv (bv (bv ⟨.row (by simp),rfl,ac⟩)))))))))))))) (hB Z Z Z Z Z Z Z Z Z (zK (zC (hR Z (by simp;rfl) Z ac)))))) fun t Y I=>?_;obtain⟨rfl,rfl⟩:=I;refine qL (Iu y.1) fun t Y I=>?_;obtain⟨rfl,rfl⟩:=I;refine qL (re (i:=9) (d:=94) FB Z KO (DB _) Z (by simp)) fun t Y I=>?_;obtain⟨b,e,a0,g0,g1,g2,g3,rfl,rfl⟩:=I;refine dO Z Z Z Z Z Z ?_;refine HW ?_;refine jv (bZ ?_);refine gA Z ?_;have S:=Jv g0;obtain⟨p1,p2⟩:=hnew b e a0
   exact⟨D,⟨J.set t (b,e,(i:Int),a0,y.2.2.2.2++ [(outer r).getD k em])⟩,[],⟨ID fR (y':=(b,e,(i:Int),a0,y.2.2.2.2++ [(outer r).getD k em])) u.nd hy S,Uq u hy S ⟨by simp,by simpa using g1,g2,g3⟩,p2,fun z hz=>by
    rcases abD hz with hz|rfl
    .have:=B z hz;omega
    .simp;omega⟩,zW (hB Z Z Z Z Z Z p1 Z Z (zK (zC ac)))⟩
 .refine jv (bZ ?_);refine gA Z ⟨G,⟨L⟩,[],⟨rfl,d0,by rw[c0];unfold Nu;rw[be (zF q1)];exact b0,fun z hz=>by have:=i0 z hz;rw[aaW];omega⟩,zW (hB Z Z Z Z Z Z Z Z Z ac)⟩
def ah.z0:ah:=⟨⟨Y5,[]⟩,[],⟨0,0⟩⟩
def kL(p:Prog)(n:Int):ah:=if dF p n=0 then bX p n else ah.z0
theorem zR(e:Int):aL (.bQ [.agg [pS Y5,.iv (.v (.slice jp 0 0)),.iv (.v (.slice jp 0 0)),pI 0,pI 0],pI e]) (.bQ [ag ah.z0.c,pI e]):= .bQ ⟨.agg ⟨.refl _,.nil _ _,.nil _ _,.refl _,.refl _,ac⟩,.refl _,ac⟩
theorem BO(p:Prog)(n:Int)(hb:p.fit)(hs:p.size<=10000000):Pure prog 71 [ag p.c,pI n] (.bQ [ag (kL p n).c,pI (dF p n)]):=by
 have d:p.rules.length<=1000000000:=hb.2.1;refine ae ab func71 Z (by decide) ntmps71 Z (by simp) Z ?_;refine zE Z Z (fun g1=>?_) fun g1=>?_
 .have g1:n<1:=zT g1;have h:dF p n=1:=by unfold dF;rw[am (.inl g1)]
  rw[show kL p n=ah.z0 by unfold kL;rw[be (by rw[h];decide)],h];refine gA Z (zL ?_);exact zR _
 have g1: ¬n<1:=zF g1;refine zJ Z Z (fun g2=>?_) fun g2=>?_
 .have g2:n>p.rules.length:=zT g2;have h:dF p n=1:=by unfold dF;rw[am (.inr g2)]
  rw[show kL p n=ah.z0 by unfold kL;rw[be (by rw[h];decide)],h];refine gA Z (zL ?_);exact zR _
 have g2: ¬n>p.rules.length:=zF g2;have b:dF p n=if(dU p).1≠0 then 4 else 0:=by unfold dF;rw[be (fun g=>g.elim g1 g2)]
 refine gA Z (zp (T9 Kr p hb hs) ?_);refine zJ Z Z (fun k1=>?_) fun k1=>?_
 .have k1:(dU p).1≠0:=by
   have k1:(!li ((dU p).1=0))=kw:=k1;simpa using k1
  rw[am k1]at b;rw[show kL p n=ah.z0 by unfold kL;rw[be (by rw[b];decide)],b];refine gA Z (zL ?_);exact zR _
 .have k1: ¬(dU p).1≠0:=by
   have k1:(!li ((dU p).1=0))=lc:=k1;simpa using k1
  rw[be k1]at b;rw[show kL p n=bX p n by unfold kL;rw[am b],b];refine gA Z (zL ?_);exact .refl _
theorem G7(r:ah)(hb:r.size<=2000000):bV prog 72 [ag r.c,.iv (.v (.slice jp 0 0))] [] (.ptr 0 0) (wH r (zh (H9 r)) [] []) 3:=
 (FF r [] hb (by simp)).le ⟨.refl _,.nil _ _,ac⟩
def Xp:Prop:= ∀(p:Prog) (r:ah),(dU p).1=0->r∈p.rules->r.size<=2000000->Bw r (H9 r)
set_option maxHeartbeats 1000000 in
theorem T6(B:Xp)(p:Prog)(n fstv:Int)(hb:p.fit)(hs:p.size<=2000000):Pure prog 36 [ag p.c,pI n,pI fstv] (Ao (uk p n fstv)):=by
 have J:p.rules.length<=1000000000:=hb.2.1;refine ae ab func36 Z (by decide) ntmps36 Z (by simp) Z ?_;refine gA Z (zp (BO p n hb (by omega)) ?_);refine zJ Z Z (fun k1=>?_) fun k1=>?_
 .have k1:dF p n≠0:=by
   have k1:(!li (dF p n=0))=kw:=k1;simpa using k1
  rw[show uk p n fstv=(px.z,dF p n) by unfold uk;rw[am k1]];refine gA Z (zL ?_);exact zP _
 have k1:dF p n=0:=zY k1;have j:=sX k1;have x:=kK k1;have S:(n-1).toNat<p.rules.length:=by omega
 have D:(bX p n).body.length<=2000000:=by have:=Lit.au (bX p n).body;unfold ah.size at x;omega
 have A:uk p n fstv=if im (bX p n) fstv then(px.z,90) else(⟨n,fstv,[],tV (bX p n) fstv []⟩,0):=by unfold uk;rw[be (by simpa using k1)]
 have bad:im (bX p n) fstv->uk p n fstv=(px.z,90):=fun h=>by rw[A,am h]
 have b: ¬im (bX p n) fstv->uk p n fstv=(⟨n,fstv,[],tV (bX p n) fstv []⟩,0):=fun h=>by rw[A,be h]
 have y:=B p (bX p n) j.2.2 (BP k1) (by omega);have u:kL p n=bX p n:=by unfold kL;rw[am k1]
 rw[u];generalize bX p n=r at*
 refine zE Z Z (fun g1=>?_) fun g1=>?_
 .have g1:fstv< -1:=zT g1;rw[bad (.inl g1)];refine gA Z (zL ?_);exact zP _
 have g1: ¬fstv< -1:=zF g1;refine zE Z Z (fun g2=>?_) fun g2=>?_
 .have g2:fstv>=r.body.length:=zT g2;rw[bad (.inr (.inl g2))];refine gA Z (zL ?_);exact zP _
 have g2: ¬fstv>=r.body.length:=zF g2;have a0: ¬im r fstv->CB r fstv:=fun h=>by
  by_cases F:fstv= -1
  .exact .inl F
  .refine .inr ⟨fstv.toNat,by unfold im at h;omega,by unfold im at h;omega,?_⟩;exact abr.1 fun I=>h (.inr (.inr ⟨by unfold im at h;omega,I⟩))
 refine zJ Z Z (fun g3=>?_) fun g3=>?_
 .have g3:fstv>=0:=zT g3;have G:fstv.toNat<r.body.length:=by omega
  refine zJ Z Z (fun g4=>?_) fun g4=>?_
  .have g4:(r.body.getD fstv.toNat em).kind≠1:=by
    have g4:(!li ((r.body.getD fstv.toNat em).kind=1))=kw:=g4;simpa using g4
   rw[bad (.inr (.inr ⟨g3,g4⟩))];refine gA Z (zL ?_);exact zP _
  .have g4: ¬(r.body.getD fstv.toNat em).kind≠1:=by
    have g4:(!li ((r.body.getD fstv.toNat em).kind=1))=lc:=g4;simpa using g4
   have d: ¬im r fstv:=fun h=>h.elim g1 fun h=>h.elim g2 fun h=>g4 h.2;rw[b d];refine gA Z (bI [] (G7 r (by omega)) Z Z Z Z Z Z Z Z ?_);refine gA Z (bI [3,4,5] (BL r (H9 r) [] fstv y (a0 d) (by omega) (by omega) (by simp)) Z Z Z Z Z Z Z Z ?_);refine gA Z (zL ?_);exact .bQ ⟨.agg ⟨.refl _,.refl _,.nil _ _,.refl _,ac⟩,.refl _,ac⟩
 .have g3: ¬fstv>=0:=zF g3;have d: ¬im r fstv:=fun h=>h.elim g1 fun h=>h.elim g2 fun h=>g3 h.1;rw[b d];refine gA Z (bI [] (G7 r (by omega)) Z Z Z Z Z Z Z Z ?_);refine gA Z (bI [3,4,5] (BL r (H9 r) [] fstv y (a0 d) (by omega) (by omega) (by simp)) Z Z Z Z Z Z Z Z ?_);refine gA Z (zL ?_);exact .bQ ⟨.agg ⟨.refl _,.refl _,.nil _ _,.refl _,ac⟩,.refl _,ac⟩
end Go.Proofs.YtflegjieadkonaaGreatDoor
