/-
  What the proofs of the claims need: part 5 of 7.
-/
import Derived.Test.YtflegjieadkonaaGreatDoorPart4
open And renaming intro→ZU
open Bool renaming and_assoc→acm,and_eq_true→Zw,and_false→aaa,eq_false_iff→aaS,eq_iff_iff→ZW,false_and→aad,false_eq_true→aaG,false_ne_true→ZN,false_or→aan,not_eq_false'→aaM,not_eq_true→aaC,not_eq_true'→aae,or_assoc→ab7,or_eq_false_iff→ZG,or_eq_true→aas,or_false→aaK,or_true→abi,true_and→ZR,true_or→abF
open ByteArray renaming empty→Zd,ext→acz,size→abY,size_append→Z9
open Classical renaming byContradiction→aao
open Decidable renaming not_not→ab3
open Int renaming le_refl→abj,toNat_natCast→Zx
open List renaming all_eq_false→aaV,all_eq_true→ZA,any_eq_false→Z3,any_eq_true→ZZ,append_assoc→Zj,append_eq_nil_iff→aby,append_nil→ZL,cons_append→aaJ,drop_eq_getElem_cons→abN,drop_eq_nil_of_le→abx,eq_nil_of_length_eq_zero→ZY,ext_getElem?→aaU,filter_append→abk,find?_append→abU,find?_cons→aaY,find?_eq_none→aaz,find?_eq_some_iff_getElem→abu,findIdx?_eq_none_iff→abK,findIdx?_eq_some_iff_getElem→abn,findSome?_append→abV,flatMap_cons→ZX,flatMap_nil→abX,foldl_append→aaE,foldl_cons→ZD,getD_cons_succ→aav,getD_eq_getElem?_getD→Y6,getElem?_append_left→Zp,getElem?_append_right→Zv,getElem?_cons_succ→abd,getElem?_drop→aap,getElem?_eq_getElem→Za,getElem?_eq_some_iff→Zb,getElem?_map→Zg,getElem?_replicate→abe,getElem?_set→ZV,getElem?_take→Z6,getElem_mem→ZQ,length_append→Y8,length_cons→ZI,length_filter_le→aak,length_map→ZE,length_nil→aai,length_singleton→ZH,length_take→ZP,map_append→Ze,map_congr_left→aaB,map_cons→Zr,map_map→aa4,map_nil→Z0,map_set→aaR,mem_append→Zm,mem_append_left→ZJ,mem_append_right→aaA,mem_cons→Zq,mem_cons_of_mem→Zn,mem_cons_self→Zo,mem_filter→ZM,mem_flatMap→aa0,mem_iff_getElem→aaf,mem_map→ZK,mem_of_find?_eq_some→abJ,mem_of_getElem?→ZC,mem_or_eq_of_mem_set→abL,mem_range→aam,mem_singleton→Zk,mem_take_iff_getElem→abM,nil_append→aaN,nodup_cons→aat,nodup_nil→aab,not_mem_nil→abG,pairwise_append→abc,pairwise_cons→aay,range→Zy,range_succ→abo,range_succ_eq_map→abz,replicate→aa5,sum_cons→aaW,take_length→aaQ,take_of_length_le→Zh,take_succ_cons→aau
open Nat renaming add_assoc→aaI,add_mul→aal,add_zero→abg,beq→Zz,ble→aa2,ble_eq_true_of_le→ZO,blt→Zs,eq_of_beq_eq_true→Zt,le_add_left→aaH,le_of_ble_eq_true→Y5,le_refl→Zc,le_succ→abv,le_trans→Z1,lt_succ_iff_lt_or_eq→ZS,lt_succ_of_lt→aaL,lt_succ_self→aax,not_lt_zero→aaj,strongRecOn→abR,sub_self→aca,succ_mul→aa3,zero_add→Zu,zero_le→Zf
open Option renaming map_eq_some_iff→Zi,map_some→Z8
open Option.some renaming injEq→Y9
open Prod renaming fst→ZB
open Prod.mk renaming injEq→Zl
set_option maxRecDepth 100000
open Bool renaming false→lc,true→kw
open Decidable renaming decide→li
open Inhabited renaming default→em
open Option renaming none→jp,some→io
open Array renaming getD_eq_getD_getElem?→Y7
open Array renaming range→ab0
open Array renaming getElem?_map→abw
open Option renaming getD_some→aaw
open Array renaming getElem?_eq_getElem→Z4
open Nat renaming mul_le_mul_right→ZF
open Array renaming getElem?_append_left→aac
open Array renaming getElem?_toList→aah
namespace Go.Proofs.YtflegjieadkonaaGreatDoor
open Go Go.Al Go.Proofs.Tryz
theorem yU(a b:List UInt8):(⟨a.toArray⟩:ByteArray)++⟨b.toArray⟩=⟨(a++b).toArray⟩:=by
 apply acz;rw[ByteArray.data_append];simp
theorem bsize(a:List UInt8):(⟨a.toArray⟩:ByteArray).size=a.length:=by simp[abY]
theorem S4{s:ak}{i:Nat}(h:i<s.data.toList.length):s.extract i (i+1)=⟨[s.data.toList.getD i em].toArray⟩:=by
 apply acz;rw[ByteArray.data_extract];apply Array.ext';simp only[Array.toList_extract];rw[List.extract_eq_take_drop,Y6,Za h];have e:s.data.toList.drop i=s.data.toList[i]::s.data.toList.drop (i+1):=abN h;rw[e,show i+1-i=1 by omega];simp
theorem XL: ∀k:Nat,k<16->Qg.extract k (k+1)=⟨[Ck (k:Int)].toArray⟩:=fun k h=>S4 (by
 have:Qg.data.toList.length=16:=rfl
 omega)
theorem WX(n:Int)(h0:0<=n)(h1:n<16):Pure prog 306 [pU n] (pS ⟨[Ck n].toArray⟩):=by
 have b:IntKind.u8.wrap (n+1)=n+1:=IntWalk.u8_in _ (by omega);obtain⟨k,rfl⟩: ∃k:Nat,n=(k:Int):=⟨n.toNat,by omega⟩
 have d:=XL k (by omega);have j:Qg.size=16:=rfl;refine ae ab func306 Z (by decide) ntmps306 Z (by simp) Z ?_;refine nV Z (by simp only[b];refine⟨?_,?_⟩<;>first|trivial|omega|(refine⟨?_,?_⟩<;>first|trivial|omega|(refine⟨?_,?_⟩<;>first|trivial|omega))) (zL (.of_eq ?_));rw[b,<-d];rfl
theorem Yk(s:ak)(hs:s.size<=1000):Pure prog 301 [pS s] (pS (qi s)):=by
 have hl:s.data.toList.length=s.size:=by simp
 refine ae ab func301 Z (by decide) ntmps301 Z (by simp) Z ?_;refine gA Z ?_;refine aw 0 s.data.toList.length (Zf _) (fun i=>⟨[(0,pS s),(3,pS ⟨(ni s i).toArray⟩),(4,pI i)],[],0⟩) (fun _=>True) [] ac
  (lJ Z Z (bv (bv (bv trivial))) Z) fun i hi _=>?_
 have hq:=ui s i;have hz:=bsize (ni s i);have z1:(⟨#[34]⟩:ByteArray).size=1:=rfl;have z2:(⟨#[92,34]⟩:ByteArray).size=2:=rfl;have z3:(⟨#[92,92]⟩:ByteArray).size=2:=rfl;have z4:(⟨#[92,110]⟩:ByteArray).size=2:=rfl;have z5:(⟨#[92,120]⟩:ByteArray).size=2:=rfl;refine zE Z Z (fun j=>?_) fun j=>?_
 .have j:s.data.toList.length<=i:=by
   have:=zF (show li ((i:Int)<(s.size:Int))=lc from j);omega
  refine gA Z (zL (.of_eq ?_));rw[show(⟨#[34]⟩:ByteArray)=⟨[34].toArray⟩ from rfl,yU];simp only[ni,qi,Zh j];rfl
 have j:i<s.data.toList.length:=by
  have:=zT (show li ((i:Int)<(s.size:Int))=kw from j);omega
 have b:=As j;have d:s.data.toList.getD (i:Int).toNat 0=s.data.toList.getD i em:=rfl;have u:=S4 j;generalize hc:s.data.toList.getD i em=c at b d u;refine zJ Z Z (fun y=>?_) fun y=>?_
 .have y:c.toNat=34:=by have:=zT y;rw[d]at this;omega
  rw[qB,am (.inl y)]at b;have Y:c=34:=UInt8.toNat_inj.1 y;refine gA Z ⟨j,ac,[],lJ Z Z (bv ⟨.of_eq (by rw[b,Y,show(⟨#[92,34]⟩:ByteArray)=⟨[92,34].toArray⟩ from rfl,yU];rfl),rfl,bv ac⟩) Z⟩
 have y: ¬c.toNat=34:=by have:=zF y;rw[d]at this;omega
 refine zJ Z Z (fun A=>?_) fun A=>?_
 .have A:c.toNat=92:=by have:=zT A;rw[d]at this;omega
  rw[qB,am (.inr A)]at b;have a0:c=92:=UInt8.toNat_inj.1 A;refine gA Z ⟨j,ac,[],lJ Z Z (bv ⟨.of_eq (by rw[b,a0,show(⟨#[92,92]⟩:ByteArray)=⟨[92,92].toArray⟩ from rfl,yU];rfl),rfl,bv ac⟩) Z⟩
 have A: ¬c.toNat=92:=by have:=zF A;rw[d]at this;omega
 rw[qB,be (by omega)]at b;refine zJ Z Z (fun B=>?_) fun B=>?_
 .have B:c.toNat=10:=by have:=zT B;rw[d]at this;omega
  rw[am B]at b;refine gA Z ⟨j,ac,[],lJ Z Z (bv ⟨.of_eq (by rw[b,show(⟨#[92,110]⟩:ByteArray)=⟨[92,110].toArray⟩ from rfl,yU];rfl),rfl,bv ac⟩) Z⟩
 have B: ¬c.toNat=10:=by have:=zF B;rw[d]at this;omega
 rw[be B]at b;have b0:=LH c;have c0:=Lm c;have D:=WX (Qf c) b0.1 b0.2;have F:=WX (SH c) c0.1 c0.2;rw[<-hc]at D F;have d0:c.toNat<32∨126<c.toNat-> ∀x:ByteArray,x=((⟨(ni s i).toArray⟩++(⟨#[92,120]⟩:ByteArray))++⟨[Ck (Qf c)].toArray⟩)++⟨[Ck (SH c)].toArray⟩->pS x=pS ⟨(ni s (i+1)).toArray⟩:=fun h x e=>by
  rw[am h]at b;rw[e,b,show(⟨#[92,120]⟩:ByteArray)=⟨[92,120].toArray⟩ from rfl,yU,yU,yU];simp
 have J:((⟨(ni s i).toArray⟩:ByteArray)++(⟨#[92,120]⟩:ByteArray)).size=(ni s i).length+2:=by
  rw[show(⟨#[92,120]⟩:ByteArray)=⟨[92,120].toArray⟩ from rfl,yU,bsize,Y8];rfl
 have S: ∀z,((⟨(ni s i).toArray⟩:ByteArray)++(⟨#[92,120]⟩:ByteArray)++⟨[Ck z].toArray⟩).size=(ni s i).length+3:=fun z=>by
  rw[show(⟨#[92,120]⟩:ByteArray)=⟨[92,120].toArray⟩ from rfl,yU,yU,bsize,Y8,Y8];rfl
 have e1: ∀z,(⟨[Ck z].toArray⟩:ByteArray).size=1:=fun z=>rfl;have e2:(⟨[Ck (Qf (s.data.toList.getD i em))].toArray⟩:ByteArray).size=1:=rfl;refine zJ Z Z (fun G=>?_) fun G=>?_
 .have G: ¬c.toNat<32:=by have:=zF G;rw[d]at this;omega
  refine zJ Z Z (fun I=>?_) fun I=>?_
  .have I:126<c.toNat:=by have:=zT I;rw[d]at this;omega
   refine gA Z (zp (D) ?_);refine gA Z (zp (F) ?_);refine nV Z (by(repeat' (first|exact ac|exact rfl|apply ZU))<;>first|omega|(rw[J,e1];omega)|(rw[S,e1];omega)) ?_;exact⟨j,ac,[],lJ Z Z (bv ⟨.of_eq (d0 (.inr I) _ (by rw[<-hc])),rfl,bv ac⟩) Z⟩
  have I: ¬126<c.toNat:=by have:=zF I;rw[d]at this;omega
  rw[be (by omega)]at b;have e0:(s.extract i (i+1)).size=1:=by rw[u];rfl
  refine nV Z (by(repeat' (first|exact ac|exact rfl|apply ZU))<;>first|omega|(rw[show((i:Int)+1).toNat=i+1 by omega,show(i:Int).toNat=i by omega,e0];omega)) ?_;exact⟨j,ac,[],lJ Z Z (bv ⟨.of_eq (by show pS _=pS _;rw[show((i:Int)+1).toNat=i+1 by omega,show(i:Int).toNat=i by omega,u,b,yU]),rfl,bv ac⟩) Z⟩
 .have G:c.toNat<32:=by have:=zT G;rw[d]at this;omega
  refine gA Z (zp (D) ?_);refine gA Z (zp (F) ?_);refine nV Z (by(repeat' (first|exact ac|exact rfl|apply ZU))<;>first|omega|(rw[J,e1];omega)|(rw[S,e1];omega)) ?_;exact⟨j,ac,[],lJ Z Z (bv ⟨.of_eq (d0 (.inl G) _ (by rw[<-hc])),rfl,bv ac⟩) Z⟩
theorem Yo(v:tK):Pure prog 290 [ag v.c] (.bQ [pS (od v),pI (dx v)]):=by
 refine ae ab func290 Z (by decide) ntmps290 Z (by simp) Z ?_;refine gA Z (zp (Yl v) ?_);refine zJ Z Z (fun b=>?_) fun b=>?_
 .have b: ¬dx v=0:=by simpa using b
  refine gA Z (zL (.of_eq ?_));rw[od,be b];rfl
 have b:dx v=0:=by simpa using b
 rw[od,am b,b];refine zJ Z Z (fun d=>?_) fun d=>?_
 .have d:v.kind=1:=by simpa using d
  have:=sL b d;refine gA Z (zp (W0 v.num (by omega) (by omega)) ?_);refine gA Z (zL (.of_eq ?_));rw[tU,am d];rfl
 have d: ¬v.kind=1:=by simpa using d
 have u:=sK b d;refine gA Z (zp (W7 v.sym (by omega)) ?_);refine zJ Z Z (fun j=>?_) fun j=>?_
 .have j:ey v.sym=kw:=j;refine gA Z (zL (.of_eq ?_));rw[tU,be d,am j];rfl
 .have j: ¬ey v.sym=kw:=by simpa using j
  refine gA Z (zp (Yk v.sym (by omega)) ?_);refine gA Z (zL (.of_eq ?_));rw[tU,be d,be j];rfl
abbrev nZ:=ak×Bool
def nZ.c(t:nZ):List IV:=[iS t.1,.v (.bool t.2)]
def fe(kind:Int)(b:ak)(v:tK):nZ:=if kind=1 then(b,!ej b||!cV v) else(od v,!li (dx v=0)||!li (b=Zd))
theorem W6(kind:Int)(b:ak)(v:tK)(hs:b.size<=1000000000000):Pure prog 276 [pI kind,pS b,ag v.c] (ag (fe kind b v).c):=by
 refine ae ab func276 Z (by decide) ntmps276 Z (by simp) Z ?_;refine zJ Z Z (fun d=>?_) fun d=>?_
 .have d:kind=1:=by simpa using d
  refine gA Z (zp (W2 b hs) ?_);unfold fe;rw[am d];refine zJ Z Z (fun g=>?_) fun g=>?_
  .have g:ej b=kw:=by simpa using g
   refine gA Z (zL ?_);exact .agg ⟨.refl _,.of_eq (fV (by rw[g];simp[cV])),ac⟩
  .have g:ej b=lc:=by simpa using g
   refine gA Z (zL ?_);exact .agg ⟨.refl _,.rC (by rw[g];rfl),ac⟩
 .have d: ¬kind=1:=by simpa using d
  refine gA Z (zp (Yo v) ?_);unfold fe;rw[be d];refine zJ Z Z (fun g=>?_) fun g=>?_
  .have g:dx v=0:=by simpa using g
   refine gA Z (zL ?_);exact .agg ⟨.refl _,.of_eq (fV (by rw[g];rfl)),ac⟩
  .have g: ¬dx v=0:=by simpa using g
   refine gA Z (zL ?_);exact .agg ⟨.refl _,.rC (by simp[g]),ac⟩
def M6(x:Term):nZ:=(Kv,!li (x.var=Zd)||!cV x.val)
def pE(x:Term):nZ:=if x.kind=3 then M6 x else((fe x.kind x.var x.val).1,(fe x.kind x.var x.val).2||(!li (x.kind=1)&&!li (x.kind=2)))
def eK(a:Atom):Nat->nZ
 |0=>(a.rel++sO,!ey a.rel)
 |i+1=>((if(i:Int)>0 then(eK a i).1++wM else(eK a i).1)++(pE (a.ad.getD i em)).1,(eK a i).2||(pE (a.ad.getD i em)).2)
def fk(a:Atom):nZ:=((eK a a.ad.length).1++sC,(eK a a.ad.length).2)
theorem te(k:Int)(s:ak)(v:tK):(fe k s v).1.size<=s.size+300:=by
 have:=oc v;unfold fe;split
 .show s.size<=_;omega
 .show(od v).size<=_;omega
theorem Im(x:Term):(pE x).1.size<=x.var.size+300:=by
 have:=te x.kind x.var x.val;unfold pE;split
 .show Kv.size<=_;have:Kv.size=1:=rfl;omega
 .exact this
theorem px(a:Atom): ∀i,i<=a.ad.length->(eK a i).1.size<=a.rel.size+1+((a.ad.take i).map Term.ts).sum
 |0,_=>by
  show(a.rel++sO).size<=_;rw[Z9];have:sO.size=1:=rfl;omega
 |i+1,h=>by
  have b:=px a i (by omega);have d:=Im (a.ad.getD i em);have j:wM.size=2:=rfl;have u:(a.ad.getD i em).ts=(a.ad.getD i em).var.size+310:=rfl;have x:((a.ad.take (i+1)).map Term.ts).sum=((a.ad.take i).map Term.ts).sum+(a.ad.getD i em).ts:=by
   rw[ba (by omega),Ze,List.sum_append];simp
  show((if(i:Int)>0 then(eK a i).1++wM else(eK a i).1)++(pE (a.ad.getD i em)).1).size<=_;rw[Z9];split
  .rw[Z9];omega
  .omega
theorem ia: ∀(b:List ak) (w:WS),(bb w b).bad=w.bad
 | [],w=>rfl
 |s::r,w=>ia r (BS w s)
theorem xw(w:WS)(v:tK):(nK w v).bad=(w.bad||!li (dx v=0)):=by
 rw[nK,ia];rfl
theorem df(w:WS)(b:Bool):(aT w b).bad=(w.bad||!b):=rfl
theorem Ad(w:WS)(t:Term):(lE w t).bad=(w.bad||(pE t).2):=by
 have hE:(⟨#[]⟩:ByteArray)=Zd:=rfl;unfold lE pE fe M6;by_cases b:t.kind=1
 .rw[am b,ia,df,be (by omega),am b,zs];simp[b]
 rw[be b];by_cases d:t.kind=2
 .rw[am d,xw,df,be (by omega),be b];simp[d,hE];cases w.bad<;>cases li (t.var=Zd)<;>cases li (dx t.val=0)<;>rfl
 rw[be d];by_cases j:t.kind=3
 .rw[am j,ia,df,am j,zt];simp[hE]
 .rw[be j,be j,be b];simp[b,d,oJ]
theorem tE(i:Nat)(w:WS):(iU i w).bad=w.bad:=by
 unfold iU;split
 .rfl
 .exact ia _ _
theorem xA(a:Atom): ∀i,(eG a.ad (bb (aT WS.o (ey a.rel)) [a.rel,sO]) i).bad=(eK a i).2
 |0=>by rw[eG,ia];rfl
 |i+1=>by rw[eG,Ad,tE,xA a i];rfl
theorem E5(a:Atom):lX a=(fk a).2:=by
 unfold lX ky fk;rw[ia,xA]
abbrev Xs(a:Atom)(i:Nat):Term:=a.ad.getD i em
structure GInv (p:Prog) (a:Atom) (n:Nat) (m:NM):Prop where
 is:SK p a n=io m
 has: ∀s,eh .str m s=kw↔ ∃k,k<n∧(Xs a k).kind=1∧(Xs a k).var=s
 val: ∀k,k<n->(Xs a k).kind=1->bU .str m (Xs a k).var 0=HA p a k
abbrev nY:nZ:=(⟨#[]⟩,kw)
def bx(e:Expr):Int:=if e.kind=4 then(if e.op=1∨e.op=2 then 1 else if e.op=3∨e.op=4∨e.op=5 then 2 else 3) else 4
def xH(op:Int):ak:=if op=1 then⟨#[32,43,32]⟩ else if op=2 then⟨#[32,45,32]⟩ else if op=3 then⟨#[32,42,32]⟩ else if op=4 then⟨#[32,47,32]⟩ else⟨#[32,109,111,100,32]⟩
def yk(e:Expr)(b:Bool):nZ:=((fe e.kind e.var e.val).1,(fe e.kind e.var e.val).2||(b||(!li (e.op=0)||decide ((e.args.length:Int)>0))))
def K7(a:Expr):Bool:=pQ a&&li (a.val.num>0)
def qt(a:Expr):Bool:=li (bx a<3)||K7 a
def FM(a:Expr):Bool:=pQ a&&li (a.val.num=0)
def nv(a0:Bool->Expr->nZ)(e:Expr):nZ:=
 if e.op=6 then
  (if e.args.length=1 then(sM++(if FM (aP e)=kw then(⟨#[45,48]⟩:ByteArray) else(a0 (qt (aP e)) (aP e)).1),(a0 (qt (aP e)) (aP e)).2) else nY)
 else if e.args.length=2 then((a0 (li (bx (aP e)<bx e)) (aP e)).1++xH e.op++(a0 (li (bx (lf e)<=bx e)) (lf e)).1,(a0 (li (bx (aP e)<bx e)) (aP e)).2||(a0 (li (bx (lf e)<=bx e)) (lf e)).2) else nY
def gH(e:Expr)(b:Bool)(k:nZ):nZ:=
 if e.kind=1∨e.kind=2 then yk e b
 else if¬e.kind=4∨b=kw∨ ¬e.var=⟨#[]⟩∨cV e.val=lc∨e.op<1∨e.op>6 then nY else k
def bO:Nat->Expr->nZ
 |0,e=>gH e kw nY
 |1,e=>gH e lc nY
 |m+2,e=>gH e lc (nv (fun b a=>if b=kw then(sO++(bO m a).1++sC,(bO m a).2||decide (m<1)) else bO (m+1) a) e)
def kn(m:Nat)(b:Bool)(a:Expr):nZ:=if b=kw then(sO++(bO m a).1++sC,(bO m a).2||decide (m<1)) else bO (m+1) a
theorem vM(m:Nat)(e:Expr):bO (m+2) e=gH e lc (nv (kn m) e):=rfl
theorem Jo(m:Nat)(w:WS)(e:Expr):cQ (m+2) w e=jP w e (kv (qY m) (aT w (mC e)) e):=rfl
theorem Ja(e:Expr)(b:Bool):(yk e b).1.size<=e.var.size+300:=te _ _ _
theorem Af(op:Int):(xH op).size<=5:=by
 unfold xH
 repeat' split
 all_goals decide
theorem IT(a0:Bool->Expr->nZ)(d: ∀b a,(a0 b a).1.size<=2+a.ts)(e:Expr):(nv a0 e).1.size<=e.ts:=by
 have D:=e.mo;have J:(⟨#[]⟩:ByteArray).size=0:=rfl;unfold nv;split
 .split
  .rename_i j;have y:=Expr.tT e.args 0 (by omega);have u:=d (qt (aP e)) (aP e);have A:sM.size=1:=rfl;have B:(⟨#[45,48]⟩:ByteArray).size=2:=rfl;show(sM++_).size<=_;rw[Z9];have I:(if FM (aP e)=kw then(⟨#[45,48]⟩:ByteArray) else(a0 (qt (aP e)) (aP e)).1).size<=2+(aP e).ts:=by
    by_cases x:FM (aP e)=kw
    .rw[am x];omega
    .rw[be x];exact u
   simp only[aP] at*;omega
  .show(⟨#[]⟩:ByteArray).size<=_;omega
 .split
  .rename_i j;have y:=Expr.wY e.args j;have u:=d (li (bx (aP e)<bx e)) (aP e);have F:=d (li (bx (lf e)<=bx e)) (lf e);have G:=Af e.op;show((_++_)++_:ByteArray).size<=_;rw[Z9,Z9];simp only[aP,lf] at*;omega
  .show(⟨#[]⟩:ByteArray).size<=_;omega
theorem vG(e:Expr)(b:Bool)(k:nZ)(h:k.1.size<=e.ts):(gH e b k).1.size<=e.ts:=by
 have d:=e.mo;have j:(⟨#[]⟩:ByteArray).size=0:=rfl;unfold gH;split
 .have:=Ja e b;omega
 split
 .show(⟨#[]⟩:ByteArray).size<=_;omega
 .exact h
theorem fB: ∀(n:Nat) (e:Expr),(bO n e).1.size<=e.ts
 |0,e=>vG _ _ _ (by show(⟨#[]⟩:ByteArray).size<=_;exact Zf _)
 |1,e=>vG _ _ _ (by show(⟨#[]⟩:ByteArray).size<=_;exact Zf _)
 |m+2,e=>by
  refine vG _ _ _ (IT _ (fun b a=>?_) e);have d:sO.size=1:=rfl;have j:sC.size=1:=rfl;split
  .have:=fB m a;show((sO++(bO m a).1)++sC).size<=_;rw[Z9,Z9];omega
  .have:=fB (m+1) a;omega
theorem qZ(m:Nat)(b:Bool)(a:Expr):(kn m b a).1.size<=2+a.ts:=by
 have d:sO.size=1:=rfl;have j:sC.size=1:=rfl;unfold kn;split
 .have:=fB m a;show((sO++(bO m a).1)++sC).size<=_;rw[Z9,Z9];omega
 .have:=fB (m+1) a;omega
theorem rn{op:Int}:bj op=0↔op<1∨op>6:=by
 unfold bj
 repeat' split
 all_goals omega
theorem BD(op:Int):0<=bj op:=by
 unfold bj
 repeat' split
 all_goals decide
theorem B3{e:Expr}(h:bj e.op=0):mC e=lc:=by
 unfold mC;rw[h];simp
theorem A7{e:Expr}(j:e.kind=4)(h:bj e.op=0): ∀n,(bO n e).2=kw:=by
 have d: ∀b k,(gH e b k).2=kw:=fun b k=>by
  unfold gH;rw[be (by omega),am];have:=rn.1 h;rcases this with h|h
  .exact .inr (.inr (.inr (.inr (.inl h))))
  .exact .inr (.inr (.inr (.inr (.inr h))))
 intro n
 match n with
 |0=>exact d _ _
 |1=>exact d _ _
 |m+2=>exact d _ _
theorem AP(w:WS)(e:Expr)(k:WS)(b:(aT w (mC e)).bad=kw->k.bad=kw)(ho:mC e=lc)(d:e.kind=4):(jP w e k).bad=kw:=by
 unfold jP;split
 .rfl
 rw[be (show¬e.kind=1 by omega),be (show¬e.kind=2 by omega)];exact b (by rw[df,ho];simp)
theorem Aw(a0:Bool->WS->Expr->WS)(w:WS)(e:Expr)(h:w.bad=kw):kv a0 w e=oJ w:=by
 unfold kv;rw[am h]
theorem A6{e:Expr}(b:e.kind=4)(h:bj e.op=0): ∀n w,(cQ n w e).bad=kw:=by
 intro n w
 match n with
 |0=>rfl
 |1=>exact AP _ _ _ (fun _=>rfl) (B3 h) b
 |m+2=>exact AP _ _ _ (fun g=>by rw[Aw _ _ _ g];rfl) (B3 h) b
theorem rN{e:Expr}(h: ¬(e.kind=4∧bj e.op=0)):bx e=eC e:=by
 unfold bx eC;split
 .rename_i b;have:=mt rn.2 fun g=>h ⟨b,g⟩;unfold bj;split
  .rfl
  split
  .rfl
  rw[am (by omega)]
 .rfl
theorem iJ(w:WS)(s:ak):(bb w [s]).bad=w.bad:=rfl
theorem E7(e:Expr):li ((e.args.length:Int)>0)=!li ((e.args.length:Int)=0):=by
 by_cases h:e.args.length=0
 .rw[h];rfl
 .rw[decide_eq_true (by omega),decide_eq_false (by omega)];rfl
theorem Em{w:WS}{e:Expr}{k:WS}{t:nZ}(h:w.bad=lc->mC e=kw->e.kind=4->k.bad=t.2)(hb:(aT w (mC e)).bad=kw->k.bad=kw):(jP w e k).bad=(w.bad||(gH e lc t).2):=by
 unfold jP gH;cases hw:w.bad with
 |true=>rfl
 |false=>
  rw[be (by decide),aan];by_cases b:e.kind=1
  .rw[am b,am (.inl b),iJ,df,hw];unfold yk fe qn;rw[am b,E7];cases ej e.var<;>cases cV e.val<;>cases li (e.op=0)<;>cases li ((e.args.length:Int)=0)<;>rfl
  by_cases u:e.kind=2
  .rw[be b,am u,am (.inr u),xw,df,hw];unfold yk fe r9;rw[be b,E7];show(lc||!(li (e.var=Zd)&&_)||_)=_;cases li (dx e.val=0)<;>cases li (e.var=Zd)<;>cases li (e.op=0)<;>cases li ((e.args.length:Int)=0)<;>rfl
  have j: ¬(e.kind=1∨e.kind=2):=by omega
  rw[be b,be u,be j];by_cases d:e.kind=4
  .rw[am d];cases ho:mC e with
   |true=>
    rw[h hw ho d,be];unfold mC at ho;rw[Zw,Zw,decide_eq_true_iff,decide_eq_true_iff]at ho;rintro(g|g|g|g|g)
    .exact g d
    .cases g
    .exact g ho.1
    .rw[g]at ho;cases ho.2.1
    .have:=rn.2 g;omega
   |false=>
    rw[hb (by rw[df,ho];simp),am];unfold mC at ho;by_cases g1:e.var=⟨#[]⟩
    .by_cases g2:cV e.val=kw
     .rw[decide_eq_true g1,g2,ZR,ZR,decide_eq_false_iff_not]at ho;have:=BD e.op;have:=rn.1 (show bj e.op=0 by omega);exact .inr (.inr (.inr (.inr this)))
     .exact .inr (.inr (.inr (.inl (by simpa using g2))))
    .exact .inr (.inr (.inl g1))
  .rw[be d,am (.inl d)];rfl
theorem MW{m:Nat}(i0: ∀w e,(cQ m w e).bad=(w.bad||(bO m e).2))(i1: ∀w e,(cQ (m+1) w e).bad=(w.bad||(bO (m+1) e).2))(b:Bool)(w:WS)(a:Expr):(qY m b w a).bad=(w.bad||(kn m b a).2):=by
 unfold qY kn;split
 .rw[iJ,i0,iJ];show _=(w.bad||((bO m a).2||_))
  cases m with
  |zero=>
   have:(bO 0 a).2=kw:=by
    have:=i0 ⟨lc,[],lc,0⟩ a;exact this.symm
   rw[this];rfl
  |succ m=>rw[decide_eq_false (by omega),aaK]
 .exact i1 w a
theorem CJ{m:Nat}(i0: ∀w e,(cQ m w e).bad=(w.bad||(bO m e).2))(i1: ∀w e,(cQ (m+1) w e).bad=(w.bad||(bO (m+1) e).2)){b b':Bool}(w:WS)(a:Expr)(h: ¬(a.kind=4∧bj a.op=0)->b=b'):(qY m b w a).bad=(w.bad||(kn m b' a).2):=by
 by_cases g:a.kind=4∧bj a.op=0
 .have d:(qY m b w a).bad=kw:=by
   unfold qY;split
   .rw[iJ];exact A6 g.1 g.2 _ _
   .exact A6 g.1 g.2 _ _
  have j:(kn m b' a).2=kw:=by
   unfold kn;split
   .show((bO m a).2||_)=kw;rw[A7 g.1 g.2];rfl
   .exact A7 g.1 g.2 _
  rw[d,j,abi]
 .rw[h g];exact MW i0 i1 _ _ _
theorem K0{m:Nat}(i0: ∀w e,(cQ m w e).bad=(w.bad||(bO m e).2))(i1: ∀w e,(cQ (m+1) w e).bad=(w.bad||(bO (m+1) e).2))(w:WS)(e:Expr)(hw:w.bad=lc)(d:e.kind=4)(ho:mC e=kw):(kv (qY m) w e).bad=(nv (kn m) e).2:=by
 have j: ¬(e.kind=4∧bj e.op=0):=fun g=>by rw[B3 g.2]at ho;cases ho
 have b:bx e=bj e.op:=by rw[rN j];exact am d
 unfold kv nv;rw[be (by rw[hw];decide)];split
 .split
  .rw[CJ i0 i1 (b':=qt (aP e)) _ _ fun g=>by unfold ow qt K7;rw[rN g]];have:(if(pQ (aP e)&&li ((aP e).val.num=0))=kw then bb (bb w [sM]) [sM] else bb w [sM]).bad=lc:=by
    split
    .exact hw
    .exact hw
   rw[this];rfl
  .rfl
 .split
  .rw[CJ i0 i1 (b':=li (bx (lf e)<=bx e)) _ _ fun g=>by rw[b,rN g]];rw[ia,CJ i0 i1 (b':=li (bx (aP e)<bx e)) _ _ fun g=>by rw[b,rN g],hw];rfl
  .rfl
theorem qN: ∀(n:Nat) (w:WS) (e:Expr),(cQ n w e).bad=(w.bad||(bO n e).2)
 |0,w,e=>by
  have:(bO 0 e).2=kw:=by
   show(gH e kw nY).2=kw;unfold gH;split
   .unfold yk;simp
   split<;>rfl
  rw[this,abi];rfl
 |1,w,e=>Em (fun _ _ _=>rfl) (fun _=>rfl)
 |m+2,w,e=>by
  rw[vM,Jo];exact Em (fun d b j=>K0 (qN m) (qN (m+1)) _ _ (by rw[df,d,b];rfl) j b) (fun g=>by rw[Aw _ _ _ g];rfl)
def eU(a:Atom):Bool:=li (a.rel=⟨#[]⟩)&&li ((a.ad.length:Int)=0)
def ju(a:eO):Bool:=li (a.func=0)&&(li (a.var=⟨#[]⟩)&&(cY a.dZ&&li ((a.body.length:Int)=0)))
def hP(l:Lit):Bool:=cY l.left&&(cY l.right&&li (l.op=0))
def b5(f:Lit->nZ)(l:List Lit):Nat->nZ
 |0=>(⟨#[]⟩,lc)
 |i+1=>if(b5 f l i).2=kw then nY else if(f (l.getD i em)).2=kw then nY else((if(i:Int)>0 then(b5 f l i).1++wM else(b5 f l i).1)++(f (l.getD i em)).1,lc)
def Hf(a:eO):nZ:=
 if a.func=1 then(((a.var++p5)++fF a.func)++p6,!ej a.var||!cY a.dZ) else(((((a.var++p5)++fF a.func)++p6)++(bO 17 a.dZ).1)++Fg,!ej a.var||(bO 17 a.dZ).2)
def oL(f:Lit->nZ)(a:eO)(br:Int):nZ:=
 if a.func<1∨a.func>4∨br<1∨(a.body.length:Int)=0 then nY
 else(((Hf a).1++(b5 f a.body a.body.length).1)++wL,(Hf a).2||(b5 f a.body a.body.length).2)
def jO(f:Int->Lit->nZ)(br:Int)(l:Lit):nZ:=
 if l.kind=1∨l.kind=2 then(if l.kind=2 then xL++(fk l.atom).1 else(fk l.atom).1,(fk l.atom).2||(!hP l||!ju l.agg))
 else if l.kind=3 then(((bO 17 l.left).1++qQ l.op)++(bO 17 l.right).1,(bO 17 l.left).2||((bO 17 l.right).2||(!eU l.atom||(!ju l.agg||(li (l.op<1)||decide (l.op>6))))))
 else if l.kind=4 then((oL (f (br-1)) l.agg br).1,(oL (f (br-1)) l.agg br).2||(!eU l.atom||!hP l)) else nY
def eA:Nat->Int->Lit->nZ
 |0,_,_=>nY
 |n+1,br,l=>jO (eA n) br l
theorem yQ{f:Lit->WS->WS}{l:List Lit}{w:WS}(h:w.bad=kw): ∀i,dp f l w i=w
 |0=>rfl
 |i+1=>by rw[dp,yQ h i,am h]
theorem E1{f:Lit->WS->WS}{g:Lit->nZ}{l:List Lit}{br:Int}(b: ∀l w,(f l w).br=w.br)(h: ∀i,i<l.length-> ∀w:WS,w.br=br->(f (l.getD i em) w).bad=(w.bad||(g (l.getD i em)).2))(w:WS)(hw:w.br=br): ∀i,i<=l.length->(dp f l w i).bad=(w.bad||(b5 g l i).2)
 |0,_=>by show w.bad=(w.bad||false);rw[aaK]
 |i+1,hi=>by
  have d:=E1 b h w hw i (by omega);cases hb:w.bad with
  |true=>rw[yQ hb,hb];rfl
  |false=>
   rw[hb,aan]at d;rw[dp,d,b5,aan];split
   .rw[d];assumption
   .rename_i u;rw[h i (by omega) _ (by rw[rI,oI f b];exact hw),tE,d];rw[aaC]at u;rw[u,aan];split
    .assumption
    .rename_i j;rw[aaC]at j;rw[j]
theorem H3(w:WS)(n:Int):(xm w n).bad=w.bad:=rfl
theorem Ul(w:WS)(a:eO):(rS (bb (aT w (ej a.var)) [a.var,p5,fF a.func,p6]) a).bad=(w.bad||(Hf a).2):=by
 unfold rS Hf;split
 .rw[df,ia,df,ab7]
 .rw[iJ,qN,ia,df,ab7]
theorem Q4{f:Lit->WS->WS}{g:Int->Lit->nZ}(b: ∀l w,(f l w).br=w.br)(w:WS)(a:eO)(h: ∀i,i<a.body.length-> ∀v:WS,(f (a.body.getD i em) v).bad=(v.bad||(g (16-v.br) (a.body.getD i em)).2)):(zb f w a).bad=(w.bad||(oL (g (16-w.br-1)) a (16-w.br)).2):=by
 unfold zb oL;split
 .rw[am (by omega),abi];rfl
 .rw[be (by omega),iJ,H3,E1 (g:=g (16-w.br-1)) b (br:=w.br+1) (fun i d v j=>by rw[h i d v,j,show(16:Int)-(w.br+1)=16-w.br-1 by omega]) _ (by show(xm _ 1).br=_;show(rS _ _).br+1=_;rw[FL,dq,qs]) _ (Zc _),H3,Ul,ab7]
theorem Lh(n:Nat):li ((n:Int)>0)=!li ((n:Int)=0):=by
 by_cases h:n=0
 .rw[h];rfl
 .rw[decide_eq_true (by omega),decide_eq_false (by omega)];rfl
theorem Bk(w:WS)(a:Atom):(ky w a).bad=(w.bad||(fk a).2):=by
 unfold ky fk;rw[iJ];have: ∀i,(eG a.ad (bb (aT w (ey a.rel)) [a.rel,sO]) i).bad=(w.bad||(eK a i).2):=by
  intro i
  induction i with
  |zero=>rw[eG,ia];rfl
  |succ i ih=>rw[eG,Ad,tE,ih,eK,ab7]
 exact this _
theorem B7: ∀(n:Nat) (l:Lit) (w:WS),l.size<=n->(eF n l w).bad=(w.bad||(eA n (16-w.br) l).2)
 |0,l,w,h=>by have:=l.size_pos;omega
 |n+1,l,w,h=>by
  have hs:=l.size_eq;have b:=Q4 (f:=eF n) (g:=eA n) (xc n) (aT w (kI l)) l.agg fun i x v=>by
   have x:i<l.ar.length:=x;have:=Lit.aF l.ar i x;have:=l.left.size_pos;exact B7 n (l.ar.getD i em) v (by omega)
  rw[qs]at b;rw[eF,eA];have I:eU l.atom=(li (l.atom.rel=⟨#[]⟩)&&li ((l.atom.ad.length:Int)=0)):=rfl;have J:ju l.agg=(li (l.c7=0)&&(li (l.a8=⟨#[]⟩)&&(cY l.jT&&li ((l.ar.length:Int)=0)))):=rfl;have Y:hP l=(cY l.left&&(cY l.right&&li (l.op=0))):=rfl;have n4:(!(!li (l.atom.rel=⟨#[]⟩)||!li ((l.atom.ad.length:Int)=0)))=eU l.atom:=by rw[I];simp
  have n5:(!(!li (l.op=0)||(!cY l.left||!cY l.right)))=hP l:=by
   rw[Y];cases li (l.op=0)<;>cases cY l.left<;>cases cY l.right<;>rfl
  have B:kI l=((li (l.kind=1)||decide (l.kind=2)||eU l.atom)&&((!!li (l.kind=3)||hP l)&&(li (l.kind=4)||ju l.agg))):=by
   unfold kI;rw[Lh,n4,n5,J]
  unfold Ed jO;rw[B]at b ⊢;generalize eU l.atom=A at*
  generalize ju l.agg=G at*
  generalize hP l=S at*
  by_cases d:l.kind=2
  .rw[am d,am (.inr d),Bk,iJ,df];simp only[d];cases w.bad<;>cases(fk l.atom).2<;>cases A<;>cases G<;>cases S<;>rfl
  by_cases k1:l.kind=1
  .rw[be d,am k1,am (.inl k1),Bk,df];simp only[k1];cases w.bad<;>cases(fk l.atom).2<;>cases A<;>cases G<;>cases S<;>rfl
  have y: ¬(l.kind=1∨l.kind=2):=by omega
  rw[be d,be k1,be y];by_cases j:l.kind=3
  .rw[am j,am j];have F:li (l.op<1)=kw∨li (l.op>6)=kw∨ ¬(l.op<1∨7<=l.op):=by
    simp only[decide_eq_true_eq];omega
   split
   .rename_i D;have:(li (l.op<1)||decide (l.op>6))=kw:=by simp;omega
    rw[this];simp[oJ]
   .rename_i D;have:(li (l.op<1)||decide (l.op>6))=lc:=by simp;omega
    rw[this,qN,iJ,qN,df];simp only[j];cases w.bad<;>cases(bO 17 l.left).2<;>cases(bO 17 l.right).2<;>cases A<;>cases G<;>rfl
  rw[be j,be j];by_cases u:l.kind=4
  .rw[am u,am u,b,df];simp only[u];cases w.bad<;>cases(oL (eA n (16-w.br-1)) l.agg (16-w.br)).2<;>cases A<;>cases G<;>cases S<;>rfl
  .rw[be u,be u];show kw=(_||true)
   rw[abi]
def pJ(l:Lit):nZ:=eA l.size 16 l
theorem AJ(l:Lit):iR l=(pJ l).2:=by
 unfold iR pJ;rw[B7 l.size l WS.o (Zc _)];show(lc||(eA l.size (16-0) l).2)=_;rw[aan];rfl
end Go.Proofs.YtflegjieadkonaaGreatDoor
namespace Go.Proofs.YtflegjieadkonaaGreatDoor
open Go Go.Al
section
structure Ask where
 place:Int
 item:Int
 type:Int
 qy:Int
 deriving Inhabited
def Ask.c(a:Ask):List IV:=[iI a.place,iI a.item,iI a.type,iI a.qy]
structure AK where
 items:List aN
 root:List Int
 l:List Ask
def zw:List aN->aN->Nat
 | [],_=>0
 |a::r,u=>if a=u then 0 else zw r u+1
def AK.ix(A:AK)(u:aN):Int:=((zw A.items u:Nat):Int)
def AK.item(A:AK)(u:aN):AK:=if zw A.items u<A.items.length then A else⟨A.items++ [u],A.root++ [(A.root.length:Int)],A.l⟩
def AK.ask(A:AK)(k:Ask):AK:=if k.type=1∨k.type=2 then⟨A.items,A.root,A.l++ [k]⟩ else A
def AK.want(A:AK)(b:Int)(u:aN)(d:Int):AK:=(A.item u).ask ⟨b,A.ix u,d,0⟩
def AK.rt(A:AK)(i:Int):Int:=A.root.getD i.toNat 0
def AK.tie(A:AK)(x y:Int):AK:=⟨A.items,A.root.map fun z=>if z=A.rt x then A.rt y else z,A.l⟩
section
variable (r:ah) (lit w:Int)
def mH(e:Expr)(A:AK):AK:=if e.kind=1 then A.want lit (bh r e.var w) 1 else if e.kind=2 then A.ask ⟨lit, -1,1,e.val.kind⟩ else A
mutual
def gL:Expr->AK->AK
 | .mk k v val op args=>fun A=>if k=4 then x7 args (mH r lit w (.mk k v val op args) A) else mH r lit w (.mk k v val op args) A
def x7:List Expr->AK->AK
 | []=>fun A=>A
 |e::s=>fun A=>x7 s (gL e A)
end
theorem DX: ∀(l:List Expr) (A:AK),x7 r lit w l A=l.foldl (fun A e=>gL r lit w e A) A
 | [],A=>by rw[x7];rfl
 |e::s,A=>by
  rw[x7];show x7 r lit w s (gL r lit w e A)=_;rw[DX s];rfl
def lS(e:Expr)(A:AK):AK:=if e.kind=4 then e.args.foldl (fun A x=>gL r lit w x A) A else A
theorem w9(e:Expr)(A:AK):gL r lit w e A=lS r lit w e (mH r lit w e A):=by
 cases e;rw[gL];show(if _ then x7 r lit w _ _ else _)=_;rw[DX];rfl
end
def ck(e:Expr):Int:=if e.kind=2 then e.val.kind else if e.kind=4 then 1 else 0
def kj(p:Prog)(r:ah)(a:Atom)(lit w:Int)(i:Nat)(A:AK):AK:=
 if i<(iy p a.rel).types.length then
  (if(a.ad.getD i em).kind=1 then A.want lit (bh r (a.ad.getD i em).var w) (typeAt p a i)
  else if(a.ad.getD i em).kind=2 then A.ask ⟨lit, -1,typeAt p a i,(a.ad.getD i em).val.kind⟩ else A) else A
def fP(p:Prog)(r:ah)(a:Atom)(lit w:Int)(A:AK):Nat->AK
 |0=>A
 |i+1=>kj p r a lit w i (fP p r a lit w A i)
def lC(r:ah)(lit w:Int)(x y:Expr)(A:AK):AK:=
 if ck x=0 then(if ck y=0 then((A.item (bh r x.var w)).item (bh r y.var w)).tie (A.ix (bh r x.var w)) ((A.item (bh r x.var w)).ix (bh r y.var w)) else A.want lit (bh r x.var w) (ck y))
 else if ck y=0 then A.want lit (bh r y.var w) (ck x) else A.ask ⟨lit, -1,ck x,ck y⟩
def lG(p:Prog)(r:ah)(lit w:Int)(l:Lit)(A:AK):AK:=
 if l.kind=1∨l.kind=2 then fP p r l.atom lit w A l.atom.ad.length
 else if l.kind=3 then(if l.op=1∨l.op=2 then lC r lit w l.left l.right (lS r lit w l.right (lS r lit w l.left A)) else gL r lit w l.right (gL r lit w l.left A)) else A
def Fi(p:Prog)(r:ah)(i:Int)(A:AK)(b:List Lit):Nat->AK
 |0=>A
 |k+1=>lG p r i i (b.getD k em) (Fi p r i A b k)
def uW(r:ah)(i:Int)(f:Int)(v:ak)(o:Expr)(A:AK):AK:=
 if f=1 then gL r i i (jm v) A else if f=2 then gL r i i o (gL r i i (jm v) A) else lC r i i (jm v) o (lS r i i o A)
def r6(p:Prog)(r:ah)(i:Int)(l:Lit)(A:AK):AK:=
 if l.kind=4 then Fi p r i (uW r i l.c7 l.a8 l.jT A) l.ar l.ar.length else lG p r i (-1) l A
def AK.o:AK:=⟨[],[],[]⟩
def lI(p:Prog)(r:ah):Nat->AK
 |0=>fP p r r.head (-1) (-1) AK.o r.head.ad.length
 |k+1=>r6 p r k (r.body.getD k em) (lI p r k)
def nG(p:Prog)(r:ah):AK:=lI p r r.body.length
inductive F2 {α β:Type} (R:α->β->Prop):List α->List β->Prop
 |nil:F2 R [] []
 |cons {a b l m}:R a b->F2 R l m->F2 R (a::l) (b::m)
theorem F2.snoc{α β:Type}{R:α->β->Prop}{l:List α}{m:List β}{a:α}{b:β}(h:F2 R l m)(hr:R a b):F2 R (l++ [a]) (m++ [b]):=by
 induction h with
 |nil=>exact .cons hr .nil
 |cons h1 _ ih=>exact .cons h1 ih
theorem F2.imp{α β:Type}{R S:α->β->Prop}(f: ∀a b,R a b->S a b){l:List α}{m:List β}(h:F2 R l m):F2 S l m:=by
 induction h with
 |nil=>exact .nil
 |cons h1 _ ih=>exact .cons (f _ _ h1) ih
theorem F2.find{α β γ:Type}{R:α->β->Prop}{p:α->Bool}{q:β->Bool}{f:α->γ}{g:β->γ}(h1: ∀a b,R a b->p a=q b)(h2: ∀a b,R a b->p a=kw->f a=g b){l:List α}{m:List β}(h:F2 R l m):(l.find? p).map f=(m.find? q).map g:=by
 induction h with
 |nil=>rfl
 | @cons a b l m hr _ ih=>
  rw[aaY,aaY,<-h1 a b hr];cases hp:p a with
  |true=>exact congrArg io (h2 a b hr hp)
  |false=>exact ih
theorem F2.mem{α β:Type}{R:α->β->Prop}{l:List α}{m:List β}(h:F2 R l m): ∀a∈l,∃b∈m,R a b:=by
 induction h with
 |nil=>intro a d;cases d
 |cons h1 _ ih=>
  intro x u;rcases Zq.1 u with e|e
  .subst e;exact⟨_,Zo,h1⟩
  .obtain⟨b,hb,j⟩:=ih x e;exact⟨b,Zn _ hb,j⟩
theorem F2.Wq{α β:Type}{R:α->β->Prop}{l:List α}{m:List β}(h:F2 R l m): ∀b∈m,∃a∈l,R a b:=by
 induction h with
 |nil=>intro a d;cases d
 |cons h1 _ ih=>
  intro x u;rcases Zq.1 u with e|e
  .subst e;exact⟨_,Zo,h1⟩
  .obtain⟨b,hb,j⟩:=ih x e;exact⟨b,Zn _ hb,j⟩
def CK(b:List aN)(k:Ask)(x:Want):Prop:=k.place=x.lit∧((∃i:Nat,k.item=i∧b[i]? =io x.at_∧x.has=0∧k.type=x.kind∧(x.kind=1∨x.kind=2))∨(k.item= -1∧ ¬x.has=0∧(k.qy=k.type↔x.has=x.kind)))
theorem CK.mono{b more:List aN}{k:Ask}{x:Want}(h:CK b k x):CK (b++more) k x:=by
 obtain⟨d,j⟩:=h;refine⟨d,j.imp (fun⟨i,g1,g2,g3⟩=>⟨i,g1,?_,g3⟩) id⟩;have u:i<b.length:=by
  rcases Zb.1 g2 with⟨h,_⟩;exact h
 rw[Zp u];exact g2
structure zV (up:UM) (W:List Want) (A:AK):Prop where
 len:A.root.length=A.items.length
 lt: ∀z∈A.root,0<=z∧z<A.items.length
 cls: ∀(i j:Nat) (u v:aN),A.items[i]? =io u->A.items[j]? =io v->(A.root.getD i 0=A.root.getD j 0↔aQ up u=aQ up v)
 up: ∀q∈up,q.1∈A.items∧q.2∈A.items
 ws:F2 (CK A.items) A.l W
theorem ue{b:List aN}: ∀{j:UM} {v:aN},(∀q∈j,q.1∈b∧q.2∈b)->v∈b->aQ j v∈b
 | [],v,_,h=>h
 |(x,y)::r,v,hu,h=>by
  rw[aQ];split
  .exact ue (fun q d=>hu q (Zn _ d)) (hu _ Zo).2
  .exact ue (fun q d=>hu q (Zn _ d)) h
theorem AZ{l:List Int}{i:Nat}(h:i<l.length):l.getD i 0∈l:=by
 rw[Y6,Za h];exact ZQ h
theorem Hr: ∀{l:List aN} {u:aN},zw l u<l.length->l[zw l u]? =io u
 | [],u,h=>by cases h
 |a::r,u,h=>by
  rw[zw]at h ⊢;split
  .rename_i e;rw[e];rfl
  .rename_i e;rw[be e,ZI]at h;rw[abd];exact Hr (by omega)
theorem Cd: ∀{l:List aN} {u:aN},¬zw l u<l.length->u∉l∧zw l u=l.length
 | [],u,_=>⟨fun h=>(nomatch h),rfl⟩
 |a::r,u,h=>by
  rw[zw]at h ⊢;split
  .rename_i e;rw[am e]at h;exact absurd (Nat.succ_pos _) h
  .rename_i e;rw[be e,ZI]at h;obtain⟨b,d⟩:=Cd (l:=r) (u:=u) (by omega)
   exact⟨fun j=>by
    rcases Zq.1 j with g|g
    .exact e g.symm
    .exact b g,by rw[d,ZI]⟩
theorem F3(A:AK)(u:aN): ∃i:Nat,A.ix u=i∧(A.item u).items[i]? =io u:=by
 refine⟨zw A.items u,rfl,?_⟩;unfold AK.item;split
 .rename_i h;exact Hr h
 .rename_i h;rw[(Cd h).2];simp
theorem zV.item{J:UM}{W:List Want}{A:AK}(h:zV J W A)(u:aN):zV J W (A.item u):=by
 unfold AK.item;split
 .exact h
 rename_i hu;have hu:=(Cd hu).1;obtain⟨Y,h2,h3,D,h5⟩:=h;have hn:aQ J u=u:=Ps fun q G e=>hu (e▸(D q G).1)
 have x: ∀(i:Nat) (v:aN),(A.items++ [u])[i]? =io v->(i<A.items.length∧A.items[i]? =io v)∨(i=A.items.length∧v=u):=fun i v d=>by
  by_cases F:i<A.items.length
  .rw[Zp F]at d;exact .inl ⟨F,d⟩
  .rw[Zv (by omega)]at d;rcases Zb.1 d with⟨g1,g2⟩;simp only[ZH]at g1;have:i-A.items.length=0:=by omega
   have S:([u]:List aN)[0]? =io v:=this▸d;exact .inr ⟨by omega,by simpa using S.symm⟩
 have I: ∀i,i<A.items.length->(A.root++ [(A.root.length:Int)]).getD i 0=A.root.getD i 0:=fun i F=>by
  rw[Y6,Y6,Zp (by omega)]
 have y:(A.root++ [(A.root.length:Int)]).getD A.items.length 0=A.items.length:=by
  rw[<-Y,Y6];simp
 have hnew: ∀(i:Nat) (v:aN),i<A.items.length->A.items[i]? =io v-> ¬A.root.getD i 0=A.items.length∧ ¬aQ J v=u:=fun i v F d=>by
  have:=h2 _ (AZ (l:=A.root) (i:=i) (by omega));refine⟨by omega,fun e=>hu ?_⟩;rw[<-e];exact ue D (ZC d)
 refine⟨by simp[Y],fun z hz=>?_,fun i j v w d hw=>?_,fun q G=>⟨ZJ _ (D q G).1,ZJ _ (D q G).2⟩,h5.imp fun a b=>CK.mono⟩
 .simp only[Y8,ZH];rcases Zm.1 hz with g|g
  .have:=h2 z g;omega
  .simp only[Zk]at g;omega
 .rcases x i v d with⟨g1,g2⟩|⟨g1,g2⟩<;>rcases x j w hw with⟨k1,B⟩|⟨k1,B⟩
  .rw[I i g1,I j k1];exact h3 i j v w g2 B
  .have:=hnew i v g1 g2;subst k1;subst B;rw[I i g1,y,hn];exact⟨fun e=>absurd e this.1,fun e=>absurd e this.2⟩
  .have:=hnew j w k1 B;subst g1;subst g2;rw[I j k1,y,hn];exact⟨fun e=>absurd e.symm this.1,fun e=>absurd e.symm this.2⟩
  .subst g1;subst g2;subst k1;subst B;exact⟨fun _=>rfl,fun _=>rfl⟩
theorem zV.ask{b:UM}{W:List Want}{A:AK}(h:zV b W A){k:Ask}{x:Want}(d:k.type=1∨k.type=2)(j:CK A.items k x):zV b (W++ [x]) (A.ask k):=by
 unfold AK.ask;rw[am d];exact⟨h.len,h.lt,h.cls,h.up,h.ws.snoc j⟩
theorem zV.want{d:UM}{W:List Want}{A:AK}(h:zV d W A)(lit:Int)(u:aN){t:Int}(b:t=1∨t=2):zV d (W++ [⟨lit,u,t,0⟩]) (A.want lit u t):=by
 obtain⟨i,j,x⟩:=F3 A u;exact(h.item u).ask b ⟨rfl,.inl ⟨i,j,x,rfl,rfl,b⟩⟩
theorem zV.val{u:UM}{W:List Want}{A:AK}(h:zV u W A)(lit:Int){t d j b:Int}(x:t=1∨t=2)(hh: ¬b=0)(he:d=t↔b=j):zV u (W++ [⟨lit,aN.z,j,b⟩]) (A.ask ⟨lit, -1,t,d⟩):=
 h.ask x ⟨rfl,.inr ⟨rfl,hh,he⟩⟩
theorem va: ∀(m:UM) (p q v:aN),aQ (m++ [(p,q)]) v=if aQ m v=p then q else aQ m v
 | [],p,q,v=>by
  show(if p=v then q else v)=if v=p then q else v;by_cases h:p=v
  .rw[am h,am h.symm]
  .rw[be h,be fun e=>h e.symm]
 |(x,y)::r,p,q,v=>by
  rw[aaJ,aQ,aQ];split
  .exact va r p q y
  .exact va r p q v
theorem C6{t:TS}(ok:iX t.up)(a b v:aN):aQ (sP t (aQ t.up a) (aQ t.up b)).up v=if aQ t.up v=aQ t.up a then aQ t.up b else aQ t.up v:=by
 unfold sP;split
 .rename_i h;by_cases g:aQ t.up v=aQ t.up a
  .rw[am g,<-h,g]
  .rw[be g]
 .show aQ (cH (.si .i64) t.up (aQ t.up a) (aQ t.up b)) v=_;rw[ug _ _ _ (mw _ t.up a ok (Zc _)),va]
theorem TE{t:TS}(ok:iX t.up)(a b:aN): ∀q∈(sP t (aQ t.up a) (aQ t.up b)).up,q∈t.up∨q=(aQ t.up a,aQ t.up b):=by
 unfold sP;split
 .exact fun q d=> .inl d
 .intro q d;have d:q∈cH (.si .i64) t.up (aQ t.up a) (aQ t.up b):=d;rw[ug _ _ _ (mw _ t.up a ok (Zc _))]at d;rcases Zm.1 d with g|g
  .exact .inl g
  .exact .inr (by simpa using g)
theorem mrg{α:Type}[DecidableEq α](x y p q:α):((if x=p then q else x)=(if y=p then q else y))↔(x=y∨(x=p∧y=q)∨(x=q∧y=p)):=by
 by_cases b:x=p<;>by_cases d:y=p
 .rw[am b,am d,b,d];exact⟨fun _=> .inl Z,fun _=>rfl⟩
 .rw[am b,be d,b]
  exact⟨fun e=> .inr (.inl ⟨rfl,e.symm⟩),fun e=>by
   rcases e with e|⟨_,e⟩|⟨_,e⟩
   .exact absurd e.symm d
   .exact e.symm
   .exact absurd e d⟩
 .rw[be b,am d,d]
  exact⟨fun e=> .inr (.inr ⟨e,rfl⟩),fun e=>by
   rcases e with e|⟨e,_⟩|⟨e,_⟩
   .exact absurd e b
   .exact absurd e b
   .exact e⟩
 .rw[be b,be d]
  exact⟨fun e=> .inl e,fun e=>by
   rcases e with e|⟨e,_⟩|⟨_,e⟩
   .exact e
   .exact absurd e b
   .exact absurd e d⟩
theorem zV.tie{t:TS}{W:List Want}{A:AK}(h:zV t.up W A)(ok:iX t.up){x y:Nat}{u v:aN}(Y:A.items[x]? =io u)(S:A.items[y]? =io v){a b:aN}(I:(a=u∧b=v)∨(a=v∧b=u)):zV (sP t (aQ t.up a) (aQ t.up b)).up W (A.tie x y):=by
 have F: ∀{i:Nat} {w:aN},A.items[i]? =io w->i<A.root.length:=fun g=>by
  rcases Zb.1 g with⟨h',_⟩;rw[h.len];exact h'
 have J: ∀n:Nat,A.rt n=A.root.getD n 0:=fun n=>rfl
 have D: ∀i:Nat,i<A.root.length->(A.tie x y).root.getD i 0=if A.root.getD i 0=A.rt x then A.rt y else A.root.getD i 0:=fun i hi=>by
  show(A.root.map _).getD i 0=_;rw[Y6,Zg,Za hi,Y6,Za hi];rfl
 have B: ∀c,c=u∨c=v->aQ t.up c∈A.items:=fun c G=>ue h.up (by
  rcases G with e|e
  .rw[e];exact ZC Y
  .rw[e];exact ZC S)
 refine⟨by show(A.root.map _).length=_;rw[ZE];exact h.len,fun z hz=>?_,fun i j c d G hd=>?_,fun q hq=>?_,h.ws⟩
 .have hz:z∈A.root.map _:=hz;rcases ZK.1 hz with⟨z0,g1,g2⟩;have:=h.lt z0 g1;have h2:=h.lt _ (AZ (F S));subst g2;show 0<=_∧_<(A.items.length:Int)
  split
  .exact h2
  .exact this
 .rw[D i (F G),D j (F hd),J,J,mrg,C6 ok,C6 ok,mrg];have e1:=h.cls i j c d G hd;have e2:=h.cls i x c u G Y;have e3:=h.cls i y c v G S;have e4:=h.cls j x d u hd Y;have e5:=h.cls j y d v hd S;rw[e1,e2,e3,e4,e5];rcases I with⟨rfl,rfl⟩|⟨rfl,rfl⟩
  .exact Iff.rfl
  .exact⟨fun e=>e.imp id Or.symm,fun e=>e.imp id Or.symm⟩
 .rcases TE ok a b q hq with g|g
  .exact h.up q g
  .subst g;rcases I with⟨rfl,rfl⟩|⟨rfl,rfl⟩
   .exact⟨B _ (.inl Z),B _ (.inr Z)⟩
   .exact⟨B _ (.inr Z),B _ (.inl Z)⟩
def uB(l:List Want)(q:aN->Bool):Option Int:=(l.find? fun x=>li (x.has=0)&&q x.at_).map Want.kind
theorem nD(l m:List Want)(q:aN->Bool):uB (l++m) q=(uB l q).or (uB m q):=by
 unfold uB;rw[abU,Option.map_or]
def Sw(l m:List Want):Prop:=(∀q,uB l q=uB m q)∧ ∀x,x∈l↔x∈m
theorem Sw.refl(l:List Want):Sw l l:=⟨fun _=>rfl,fun _=>Iff.rfl⟩
theorem Sw.app{l m b d:List Want}(h:Sw l b)(g:Sw m d):Sw (l++m) (b++d):=
 ⟨fun q=>by rw[nD,nD,h.1,g.1],fun x=>by rw[Zm,Zm,h.2,g.2]⟩
theorem Ez{l:List Want}(h: ∀x∈l,x.kind=1)(q:aN->Bool):uB l q=jp∨uB l q=io 1:=by
 unfold uB;cases hf:l.find? fun x=>li (x.has=0)&&q x.at_ with
 |none=>exact .inl Z
 |some x=>exact .inr (congrArg io (h x (abJ hf)))
theorem Sw.swap{l m:List Want}(h1: ∀x∈l,x.kind=1)(h2: ∀x∈m,x.kind=1):Sw (l++m) (m++l):=by
 refine⟨fun q=>?_,fun x=>by rw[Zm,Zm,or_comm]⟩;rw[nD,nD];rcases Ez h1 q with a|a<;>rcases Ez h2 q with b|b<;>rw[a,b]<;>rfl
theorem F0(r:ah)(lit w:Int)(e:Expr): ∀x∈kH r lit w e,x.kind=1:=by
 unfold kH;split
 .intro x b;rw[Zk.1 b]
 split
 .intro x b;rw[Zk.1 b]
 .intro x b;cases b
theorem xZ(r:ah)(lit w:Int): ∀(n:Nat) (e:Expr),e.size<=n-> ∀x∈gy r lit w e,x.kind=1
 |0,e,h=>by have:=e.size_pos;omega
 |n+1,e,h=>by
  intro x j;rw[w8]at j;rcases Zm.1 j with g|g
  .exact F0 r lit w e x g
  .unfold je at g;split at g
   .rcases aa0.1 g with⟨y,A,u⟩;obtain⟨k,d,rfl⟩:=aaf.1 A;have b:=Expr.aF e.args k d;rw[Y6,Za d]at b;have b:(e.args[k]).size<=Expr.az e.args:=b;have:=e.size_eq;exact xZ r lit w n _ (by omega) x u
   .cases g
def Br(t:TS)(A:AK):Prop:=iX t.up∧ ∃W,Sw t.ws W∧zV t.up W A
def zh(X:List Want)(A B:AK):Prop:= ∀b W,zV b W A->zV b (W++X) B
theorem zh.nil(A:AK):zh [] A A:=fun b W h=>by rw[ZL];exact h
theorem zh.app{X Y:List Want}{A B C:AK}(h:zh X A B)(g:zh Y B C):zh (X++Y) A C:=fun d W b=>by
 rw[<-Zj];exact g _ _ (h _ _ b)
theorem Br.add{t:TS}{A B:AK}(h:Br t A){X:List Want}(g:zh X A B):Br (t.add X) B:=by
 obtain⟨ok,W,b,d⟩:=h;exact⟨ok,_,b.app (Sw.refl X),g _ _ d⟩
theorem Br.swap{t:TS}{A B:AK}(h:Br t A){X Y:List Want}(h1: ∀x∈X,x.kind=1)(h2: ∀x∈Y,x.kind=1)(g:zh (Y++X) A B):Br (t.add (X++Y)) B:=by
 obtain⟨ok,W,k1,b⟩:=h;exact⟨ok,_,k1.app (Sw.swap h1 h2),g _ _ b⟩
mutual
def Ax:Expr->Prop
 | .mk k _ val _ args=>k=1∨(k=2∧(val.kind=1∨val.kind=2))∨(k=4∧K5 args)
def K5:List Expr->Prop
 | []=>True
 |e::s=>Ax e∧K5 s
end
theorem DV: ∀{l:List Expr},K5 l↔ ∀e∈l,Ax e
 | []=>by rw[K5];exact⟨fun _ e d=>(nomatch d),fun _=>trivial⟩
 |e::s=>by
  rw[K5,DV]
  exact⟨fun h x b=>by
   rcases Zq.1 b with g|g
   .rw[g];exact h.1
   .exact h.2 x g,fun h=>⟨h e Zo,fun x b=>h x (Zn _ b)⟩⟩
theorem tg(e:Expr):Ax e↔(e.kind=1∨(e.kind=2∧(e.val.kind=1∨e.val.kind=2))∨(e.kind=4∧ ∀x∈e.args,Ax x)):=by
 cases e;rw[Ax,DV];rfl
theorem vQ{v:tK}(h:dx v=0):v.kind=1∨v.kind=2:=by
 unfold dx at h
 repeat' split at h
 all_goals first|omega|(simp at h;done)|(simp_all;done)|(simp_all;omega)
theorem Wt{l:List Expr}(h:l.length=1):l=[l.getD 0 em]:=by
 match l,h with
 | [a],_=>rfl
theorem Ws{l:List Expr}(h:l.length=2):l=[l.getD 0 em,l.getD 1 em]:=by
 match l,h with
 | [a,b],_=>rfl
theorem yF: ∀(n:Nat) (e:Expr),(bO n e).2=lc->Ax e:=by
 intro n
 induction n using abR with
 |_ n ih=>
 intro e h;have hh: ∀b k,(gH e b k).2=lc->(k.2=lc->e.kind=4->Ax e)->Ax e:=fun b k g1 g2=>by
  unfold gH at g1;split at g1
  .rename_i B;rw[tg];by_cases k1:e.kind=1
   .exact .inl k1
   have y:e.kind=2:=by omega
   refine .inr (.inl ⟨y,?_⟩);unfold yk fe at g1;rw[be k1]at g1;simp only[ZG]at g1;exact vQ (by simpa using g1.1.1)
  split at g1
  .cases g1
  .rename_i k1 y;exact g2 g1 (aao fun g=>y (.inl g))
 match n,ih,h with
 |0,ih,h=>exact hh _ _ h fun g _=>by cases g
 |1,ih,h=>exact hh _ _ h fun g _=>by cases g
 |m+2,ih,h=>
  have d: ∀b a,(kn m b a).2=lc->Ax a:=fun b a g=>by
   unfold kn at g;split at g
   .have g:((bO m a).2||decide (m<1))=lc:=g;rw[ZG]at g;exact ih m (by omega) a g.1
   .exact ih (m+1) (by omega) a g
  refine hh _ _ h fun g A=>?_;rw[tg];refine .inr (.inr ⟨A,?_⟩);have g:(nv (kn m) e).2=lc:=g;unfold nv at g;split at g
  .split at g
   .rename_i j;rw[Wt j];intro x u;rw[Zk.1 u];exact d _ _ g
   .cases g
  .split at g
   .rename_i j;have g:((kn m _ (aP e)).2||(kn m _ (lf e)).2)=lc:=g;rw[ZG]at g;rw[Ws j];intro x u;rcases Zq.1 u with q|q
    .rw[q];exact d _ _ g.1
    .rw[Zk.1 q];exact d _ _ g.2
   .cases g
theorem Lr(r:ah)(lit w:Int){e:Expr}(h:Ax e)(A:AK):zh (kH r lit w e) A (mH r lit w e A):=by
 rw[tg]at h;unfold kH mH;by_cases k1:e.kind=1
 .rw[am k1,am k1];exact fun j W d=>d.want lit _ (.inl Z)
 rw[be k1,be k1];by_cases b:e.kind=2
 .rw[am b,am b];refine fun j W d=>d.val lit (.inl Z) ?_ Iff.rfl;omega
 .rw[be b,be b];exact zh.nil A
theorem yZ(r:ah)(lit w:Int): ∀(l:List Expr),(∀x∈l,∀A,zh (gy r lit w x) A (gL r lit w x A))-> ∀A,zh (l.flatMap (gy r lit w)) A (l.foldl (fun A x=>gL r lit w x A) A)
 | [],_,A=>zh.nil A
 |e::s,h,A=>by
  rw[ZX,ZD];exact(h e Zo A).app (yZ r lit w s (fun x b=>h x (Zn _ b)) _)
theorem oW(r:ah)(lit w:Int): ∀(n:Nat) (e:Expr),e.size<=n->Ax e-> ∀A,zh (gy r lit w e) A (gL r lit w e A)
 |0,e,h,_=>by have:=e.size_pos;omega
 |n+1,e,h,ok=>by
  intro A;rw[w8,w9];refine(Lr r lit w ok A).app ?_;rw[tg]at ok;unfold je lS;split
  .rename_i u;refine yZ r lit w _ (fun x j=>?_) _;obtain⟨k,d,rfl⟩:=aaf.1 j;have b:=Expr.aF e.args k d;rw[Y6,Za d]at b;have b:(e.args[k]).size<=Expr.az e.args:=b;have:=e.size_eq;refine oW r lit w n _ (by omega) ?_;rcases ok with g|g|g
   .omega
   .omega
   .exact g.2 _ j
  .exact zh.nil _
theorem Cg(r:ah)(lit w:Int)(e:Expr)(ok:Ax e)(A:AK):zh (je r lit w e) A (lS r lit w e A):=by
 rw[tg]at ok;unfold je lS;split
 .refine yZ r lit w _ (fun x b=>oW r lit w _ x (Zc _) ?_) _;rcases ok with g|g|g
  .omega
  .omega
  .exact g.2 _ b
 .exact zh.nil _
def K3(x:Term):Prop:=x.kind=2->(x.val.kind=1∨x.val.kind=2)
def Vj(a:Atom):Prop:= ∀i,i<a.ad.length->K3 (a.ad.getD i em)
theorem yW(p:Prog)(r:ah)(a:Atom)(lit w:Int)(ok:Vj a)(A:AK): ∀i,i<=a.ad.length->zh (gC p r a lit w i) A (fP p r a lit w A i)
 |0,_=>zh.nil A
 |i+1,hi=>by
  rw[gC,fP];refine(yW p r a lit w ok A i (by omega)).app ?_;have ok:=ok i (by omega);generalize fP p r a lit w A i=B;unfold mq kj nM;by_cases x:i<(iy p a.rel).types.length
  .rw[am x,decide_eq_true x,ZR];by_cases b:typeAt p a i=1∨typeAt p a i=2
   .have:(li (typeAt p a i=1)||decide (typeAt p a i=2))=kw:=by simpa using b
    rw[this,be (by decide)];by_cases k1:(a.ad.getD i em).kind=1
    .rw[am k1,am k1];exact fun y W d=>d.want lit _ b
    rw[be k1,be k1];by_cases u:(a.ad.getD i em).kind=2
    .rw[am u,am u];refine fun y W d=>d.val lit b ?_ Iff.rfl;have:=ok u;omega
    .rw[be u,be u];exact zh.nil B
   .have:(li (typeAt p a i=1)||decide (typeAt p a i=2))=lc:=by simpa using b
    rw[this,am Z];have j: ∀(C:AK) (k:Ask),k.type=typeAt p a i->C.ask k=C:=fun C k D=>by unfold AK.ask;rw[be (by rw[D];exact b)]
    split
    .intro y W d;unfold AK.want;rw[j _ _ Z,ZL];exact d.item _
    split
    .rw[j _ _ Z];exact zh.nil B
    .exact zh.nil B
  .rw[be x,decide_eq_false x,aad,am Z];exact zh.nil B
theorem Cl{e:Expr}(ok:Ax e)(h: ¬e.kind=1):ck e=lT e∧(lT e=1∨lT e=2):=by
 rw[tg]at ok;unfold ck lT;by_cases b:e.kind=2
 .rw[am b,am b];exact⟨rfl,by omega⟩
 .rw[be b,be b];have:e.kind=4:=by omega
  rw[am this];exact⟨rfl,.inl Z⟩
theorem sN{e:Expr}(h:e.kind=1):ck e=0:=by
 unfold ck;rw[be (by omega),be (by omega)]
theorem Jc{A:AK}{i:Nat}{u v:aN}(h:A.items[i]? =io v):(A.item u).items[i]? =io v:=by
 unfold AK.item;split
 .exact h
 .show(_++_)[i]? =_;rcases Zb.1 h with⟨g,_⟩;rw[Zp g];exact h
theorem Bm{r:ah}{lit w:Int}{t:TS}{A:AK}{a b:Expr}(B:Ax a)(ob:Ax b)(h:Br t A):Br (if b.kind=1 then gk r lit w t b a else gk r lit w t a b) (lC r lit w a b A):=by
 unfold gk lC;by_cases kb:b.kind=1
 .rw[am kb,sN kb];by_cases d:a.kind=1
  .rw[am d,sN d,am Z,am Z];obtain⟨ok,W,I,J⟩:=h;obtain⟨i,i1,i2⟩:=F3 A (bh r a.var w);obtain⟨j,S,Y⟩:=F3 (A.item (bh r a.var w)) (bh r b.var w);have u:=(J.item (bh r a.var w)).item (bh r b.var w);rw[i1,S];refine⟨J5 ok _ _,W,by rw[J4];exact I,u.tie ok (x:=i) (y:=j) ?_ Y (.inr ⟨rfl,rfl⟩)⟩;exact Jc i2
  .obtain⟨g1,g2⟩:=Cl B d;have g0: ¬lT a=0:=by omega
   rw[be d,g1,be g0,am Z,am kb];exact h.add fun D W u=>u.want lit _ g2
 .rw[be kb];obtain⟨g1,g2⟩:=Cl ob kb;have g0: ¬lT b=0:=by omega
  rw[be kb,g1];by_cases d:a.kind=1
  .rw[am d,sN d,am Z,be g0];exact h.add fun D W u=>u.want lit _ g2
  .obtain⟨k1,k2⟩:=Cl B d;have k0: ¬lT a=0:=by omega
   rw[be d,k1,be k0,be g0];have G:(if a.kind=2 then[⟨lit,aN.z,lT b,a.val.kind⟩] else[⟨lit,aN.z,lT b,1⟩]:List Want)=[⟨lit,aN.z,lT b,lT a⟩]:=by
    have F:lT a=if a.kind=2 then a.val.kind else 1:=rfl;rw[F];split<;>rfl
   rw[G];exact h.add fun D W u=>u.val lit k2 (by omega) ⟨fun e=>e.symm,fun e=>e.symm⟩
def IX(l:Lit):Prop:=((l.kind=1∨l.kind=2)->Vj l.atom)∧(l.kind=3->Ax l.left∧Ax l.right)
theorem Hj{p:Prog}{r:ah}{lit w:Int}{t:TS}{A:AK}{l:Lit}(ok:IX l)(h:Br t A):Br (pR p r lit w t l) (lG p r lit w l A):=by
 unfold pR lG;split
 .rename_i k;exact h.add (yW p r l.atom lit w (ok.1 k) A _ (Zc _))
 split
 .rename_i k;obtain⟨b,d⟩:=ok.2 k;split
  .unfold jB;exact Bm b d ((h.add (Cg r lit w l.left b A)).add (Cg r lit w l.right d _))
  .exact(h.add (oW r lit w _ l.left (Zc _) b A)).add (oW r lit w _ l.right (Zc _) d _)
 .exact h
theorem LD{p:Prog}{r:ah}{i:Int}{t:TS}{A:AK}{b:List Lit}(ok: ∀k,k<b.length->IX (b.getD k em))(h:Br t A): ∀k,k<=b.length->Br (sr p r i t b k) (Fi p r i A b k)
 |0,_=>h
 |k+1,hk=>Hj (ok k hk) (LD ok h k (by omega))
theorem Bx(v:ak):Ax (jm v):=by rw[tg];exact .inl Z
theorem LB(r:ah)(i w:Int)(v:ak):je r i w (jm v)=[]:=rfl
theorem Nx{r:ah}{i f:Int}{v:ak}{o:Expr}{t:TS}{A:AK}(ok: ¬f=1->Ax o)(h:Br t A):Br (wF r i t f v o) (uW r i f v o A):=by
 unfold wF uW;by_cases f1:f=1
 .rw[be (by omega),am f1,am f1];exact h.add (oW r i i _ _ (Zc _) (Bx v) A)
 have ok:=ok f1;by_cases f2:f=2
 .simp only[be f1,am f2];rw[TS.add_add];exact h.swap (xZ r i i _ _ (Zc _)) (xZ r i i _ _ (Zc _)) ((oW r i i _ _ (Zc _) (Bx v) A).app (oW r i i _ _ (Zc _) ok _))
 .simp only[be f1,be f2];unfold jB;rw[LB,TS.add_nil];exact Bm (Bx v) ok (h.add (Cg r i i o ok A))
def Wm(l:Lit):Prop:=IX l∧(l.kind=4->(¬l.c7=1->Ax l.jT)∧ ∀k,k<l.ar.length->IX (l.ar.getD k em))
theorem Kh{p:Prog}{r:ah}{i:Int}{t:TS}{A:AK}{l:Lit}(ok:Wm l)(h:Br t A):Br (stepT p r i t l) (r6 p r i l A):=by
 unfold stepT r6;split
 .rename_i b;exact LD (ok.2 b).2 (Nx (ok.2 b).1 h) _ (Zc _)
 .exact Hj ok.1 h
theorem Wn:Br TS.o AK.o:=⟨ac,[],Sw.refl _,rfl,fun z d=>(nomatch d),fun i j u v hu=>by simp[AK.o]at hu,fun q b=>(nomatch b),.nil⟩
theorem E0{p:Prog}{r:ah}(b:Vj r.head)(ok: ∀k,k<r.body.length->Wm (r.body.getD k em)): ∀k,k<=r.body.length->Br (fj p r k) (lI p r k)
 |0,_=>Wn.add (yW p r r.head _ _ b _ _ (Zc _))
 |k+1,hk=>Kh (ok k hk) (E0 b ok k (by omega))
end
def nn(lit:Int)(A B:AK):Prop:= ∃m,B.l=A.l++m∧ ∀k∈m,k.place=lit
theorem nn.refl(lit:Int)(A:AK):nn lit A A:=⟨[],by simp,fun k b=>(nomatch b)⟩
theorem nn.trans{lit:Int}{A B C:AK}(h:nn lit A B)(g:nn lit B C):nn lit A C:=by
 obtain⟨m,b,d⟩:=h;obtain⟨n,g1,g2⟩:=g;exact⟨m++n,by rw[g1,b,Zj],fun k j=>(Zm.1 j).elim (d k) (g2 k)⟩
theorem yo(lit:Int)(A:AK)(u:aN):nn lit A (A.item u):=by
 unfold AK.item;split
 .exact .refl _ _
 .exact⟨[],by simp,fun k b=>(nomatch b)⟩
theorem xo{lit:Int}(A:AK){k:Ask}(h:k.place=lit):nn lit A (A.ask k):=by
 unfold AK.ask;split
 .exact⟨[k],rfl,fun x b=>by rw[Zk.1 b];exact h⟩
 .exact .refl _ _
theorem tM(lit:Int)(A:AK)(u:aN)(t:Int):nn lit A (A.want lit u t):=(yo lit A u).trans (xo _ Z)
theorem OX(lit:Int)(A:AK)(x y:Int):nn lit A (A.tie x y):=⟨[],by simp[AK.tie],fun k b=>(nomatch b)⟩
theorem Ls(r:ah)(lit w:Int)(e:Expr)(A:AK):nn lit A (mH r lit w e A):=by
 unfold mH;split
 .exact tM _ _ _ _
 split
 .exact xo _ Z
 .exact .refl _ _
theorem y5(r:ah)(lit w:Int): ∀(l:List Expr),(∀x∈l,∀A,nn lit A (gL r lit w x A))-> ∀A,nn lit A (l.foldl (fun A x=>gL r lit w x A) A)
 | [],_,A=> .refl _ _
 |e::s,h,A=>(h e Zo A).trans (y5 r lit w s (fun x b=>h x (Zn _ b)) _)
theorem oX(r:ah)(lit w:Int): ∀(n:Nat) (e:Expr),e.size<=n-> ∀A,nn lit A (gL r lit w e A)
 |0,e,h=>by have:=e.size_pos;omega
 |n+1,e,h=>by
  intro A;rw[w9];refine(Ls r lit w e A).trans ?_;unfold lS;split
  .refine y5 r lit w _ (fun x j=>?_) _;obtain⟨k,d,rfl⟩:=aaf.1 j;have b:=Expr.aF e.args k d;rw[Y6,Za d]at b;have b:(e.args[k]).size<=Expr.az e.args:=b;have:=e.size_eq;exact oX r lit w n _ (by omega)
  .exact .refl _ _
theorem Ch(r:ah)(lit w:Int)(e:Expr)(A:AK):nn lit A (lS r lit w e A):=by
 unfold lS;split
 .exact y5 r lit w _ (fun x _=>oX r lit w _ x (Zc _)) _
 .exact .refl _ _
theorem JE(p:Prog)(r:ah)(a:Atom)(lit w:Int)(i:Nat)(A:AK):nn lit A (kj p r a lit w i A):=by
 unfold kj;split
 .split
  .exact tM _ _ _ _
  split
  .exact xo _ Z
  .exact .refl _ _
 .exact .refl _ _
theorem yX(p:Prog)(r:ah)(a:Atom)(lit w:Int)(A:AK): ∀i,nn lit A (fP p r a lit w A i)
 |0=> .refl _ _
 |i+1=>(yX p r a lit w A i).trans (JE _ _ _ _ _ _ _)
theorem Bo(r:ah)(lit w:Int)(x y:Expr)(A:AK):nn lit A (lC r lit w x y A):=by
 unfold lC;split
 .split
  .exact((yo _ _ _).trans (yo _ _ _)).trans (OX _ _ _ _)
  .exact tM _ _ _ _
 split
 .exact tM _ _ _ _
 .exact xo _ Z
theorem Hl(p:Prog)(r:ah)(lit w:Int)(l:Lit)(A:AK):nn lit A (lG p r lit w l A):=by
 unfold lG;split
 .exact yX _ _ _ _ _ _ _
 split
 .split
  .exact((Ch _ _ _ _ _).trans (Ch _ _ _ _ _)).trans (Bo _ _ _ _ _ _)
  .exact(oX _ _ _ _ _ (Zc _) _).trans (oX _ _ _ _ _ (Zc _) _)
 .exact .refl _ _
theorem LF(p:Prog)(r:ah)(i:Int)(A:AK)(b:List Lit): ∀k,nn i A (Fi p r i A b k)
 |0=> .refl _ _
 |k+1=>(LF p r i A b k).trans (Hl _ _ _ _ _ _)
theorem Ny(r:ah)(i f:Int)(v:ak)(o:Expr)(A:AK):nn i A (uW r i f v o A):=by
 unfold uW;split
 .exact oX _ _ _ _ _ (Zc _) _
 split
 .exact(oX _ _ _ _ _ (Zc _) _).trans (oX _ _ _ _ _ (Zc _) _)
 .exact(Ch _ _ _ _ _).trans (Bo _ _ _ _ _ _)
theorem Kj(p:Prog)(r:ah)(i:Int)(l:Lit)(A:AK):nn i A (r6 p r i l A):=by
 unfold r6;split
 .exact(Ny _ _ _ _ _ _).trans (LF _ _ _ _ _ _)
 .exact Hl _ _ _ _ _ _
theorem KS{l:List Ask}{i:Int}(h: ∀a∈l,a.place=i):l.Pairwise fun a b=>a.place<=b.place:=by
 induction l with
 |nil=>exact .nil
 |cons a r ih=>
  refine .cons (fun b hb=>?_) (ih fun b hb=>h b (Zn _ hb));rw[h a Zo,h b (Zn _ hb)];exact abj _
theorem nF(p:Prog)(r:ah): ∀k:Nat,((lI p r k).l.Pairwise fun a b=>a.place<=b.place)∧ ∀a∈(lI p r k).l, -1<=a.place∧a.place<k
 |0=>by
  obtain⟨m,d,j⟩:=yX p r r.head (-1) (-1) AK.o r.head.ad.length;have d:(lI p r 0).l=m:=by show(fP _ _ _ _ _ _ _).l=m;rw[d];rfl
  rw[d];exact⟨KS j,fun a u=>by rw[j a u];omega⟩
 |k+1=>by
  obtain⟨i1,i2⟩:=nF p r k;obtain⟨m,d,j⟩:=Kj p r k (r.body.getD k em) (lI p r k);have d:(lI p r (k+1)).l=(lI p r k).l++m:=d;rw[d];refine⟨abc.2 ⟨i1,KS j,fun a u b hb=>?_⟩,fun a u=>?_⟩
  .have:=i2 a u;rw[j b hb];omega
  .rcases Zm.1 u with g|g
   .have:=i2 a g;omega
   .rw[j a g];omega
def AK.kind(A:AK)(i:Int):Int:=((A.l.find? fun k=>li (k.item>=0)&&li (A.rt k.item=A.rt i)).map Ask.type).getD 0
theorem Qd{b:UM}{W:List Want}{A:AK}(h:zV b W A){i:Nat}{u:aN}(hi:A.items[i]? =io u):A.kind i=(uB W fun s=>li (aQ b s=aQ b u)).getD 0:=by
 unfold AK.kind uB;refine congrArg (fun o:Option Int=>o.getD 0) (F2.find ?_ ?_ h.ws)
 .rintro k x ⟨_,⟨j,g1,g2,g3,_⟩|⟨g1,g2,_⟩⟩
  .rw[g1,decide_eq_true (by omega:(j:Int)>=0),ZR,g3,decide_eq_true Z,ZR];exact decide_eq_decide.2 (h.cls j i _ _ g2 hi)
  .rw[g1,decide_eq_false (by omega),decide_eq_false g2];rfl
 .rintro k x ⟨_,⟨j,g1,g2,g3,g4,_⟩|⟨g1,g2,_⟩⟩ hp
  .exact g4
  .rw[g1]at hp;simp at hp
theorem P7{m:KM}{a c:aN}{v:Int}:bU (.si .i64) (cH (.si .i64) m a v) c 0=if a=c then v else bU (.si .i64) m c 0:=by
 induction m with
 |nil=>simp only[cH,bU]
 |cons x r ih=>
  obtain⟨y,b⟩:=x;simp only[cH];by_cases h:y=a
  .rw[am h];simp only[bU];by_cases d:a=c
   .simp[d]
   .have: ¬y=c:=fun e=>d (h▸e)
    rw[be d,be d,be this]
  .rw[be h];simp only[bU,ih];by_cases d:y=c
   .have: ¬a=c:=fun e=>h (d.trans e.symm)
    rw[am d,be this,am d]
   .rw[be d,be d]
theorem AR(b:UM)(c:aN): ∀(d:List Want) (m:KM),(∀x∈d,x.has=0-> ¬x.kind=0)->bU (.si .i64) (d.foldl (cN b) m) c 0=if bU (.si .i64) m c 0=0 then(uB d fun s=>li (aQ b s=c)).getD 0 else bU (.si .i64) m c 0
 | [],m,_=>by
  show bU (.si .i64) m c 0=if bU (.si .i64) m c 0=0 then 0 else _;split<;>first|assumption|rfl
 |x::s,m,h=>by
  have j:=h x Zo;rw[ZD,AR b c s _ fun y u=>h y (Zn _ u)];unfold uB;rw[aaY];unfold cN;by_cases g:x.has=0∧bU (.si .i64) m (aQ b x.at_) 0=0
  .obtain⟨g1,g2⟩:=g;rw[am (show x.has=0∧bU (.si .i64) m (aQ b x.at_) 0=0 from⟨g1,g2⟩),P7,decide_eq_true g1,ZR];by_cases e:aQ b x.at_=c
   .rw[am e,be (j g1),show(fun s=>li (aQ b s=c)) x.at_=kw from decide_eq_true e,am (e▸g2)];rfl
   .rw[be e,show(fun s=>li (aQ b s=c)) x.at_=lc from decide_eq_false e]
  .rw[be g];by_cases k:bU (.si .i64) m c 0=0
   .rw[am k,am k];have:(li (x.has=0)&&li (aQ b x.at_=c))=lc:=by
     cases hd:li (x.has=0) with
     |false=>rfl
     |true=>
      rw[ZR,decide_eq_false];intro e;exact g ⟨zT hd,e▸k⟩
    rw[this]
   .rw[be k,be k]
abbrev Ca(t:TS):TS:=⟨t.up,t.ws,t.ws.foldl (cN t.up) []⟩
theorem Lx{t:TS}{W:List Want}{A:AK}(h1:Sw t.ws W)(h:zV t.up W A)(u:aN):bU (.si .i64) (Ca t).kind (aQ t.up u) 0=(uB W fun s=>li (aQ t.up s=aQ t.up u)).getD 0:=by
 show bU (.si .i64) (t.ws.foldl (cN t.up) []) (aQ t.up u) 0=_;rw[AR,<-h1.1]
 .exact am Z
 .intro x d b;obtain⟨k,_,_,⟨j,_,_,_,_,g⟩|⟨_,g,_⟩⟩:=h.ws.Wq x ((h1.2 x).1 d)
  .omega
  .exact absurd b g
def AK.bad(A:AK)(k:Ask):Bool:=!li ((if k.item>=0 then A.kind k.item else k.qy)=k.type)
def jn(r:ah)(A:AK):aZ:=match A.l.find? A.bad with
 |some k=>(63,fx r k.place)
 |none=>aZ.z
theorem MT{t:TS}{W:List Want}{A:AK}(h1:Sw t.ws W)(h:zV t.up W A){k:Ask}{x:Want}(b:CK A.items k x):A.bad k=!li (tN (Ca t) x=x.kind):=by
 unfold AK.bad tN;obtain⟨_,⟨j,g1,g2,g3,g4,_⟩|⟨g1,g2,g3⟩⟩:=b
 .rw[g1,am (by omega),am g3,g4,Lx h1 h,Qd h g2]
 .rw[be (by omega),be g2];exact congrArg _ (decide_eq_decide.2 g3)
theorem uT{t:TS}{A:AK}(h:Br t A)(lit:Int):nJ (Ca t) lit=kw↔ ∃k∈A.l,k.place=lit∧A.bad k=kw:=by
 obtain⟨_,W,d,j⟩:=h;unfold nJ;rw[ZZ];constructor
 .rintro⟨x,y,hb⟩;obtain⟨k,u,b⟩:=j.ws.Wq x ((d.2 x).1 y);unfold rY at hb;rw[Zw,decide_eq_true_iff]at hb;exact⟨k,u,b.1.trans hb.1,by rw[MT d j b];exact hb.2⟩
 .rintro⟨k,u,hp,hb⟩;obtain⟨x,y,b⟩:=j.ws.mem k u;refine⟨x,(d.2 x).2 y,?_⟩;unfold rY;rw[Zw,decide_eq_true_iff];exact⟨b.1.symm.trans hp,by rw[<-MT d j b];exact hb⟩
theorem P5{r:ah}{e:Int}{f:Int->Bool}{k:aZ}(h: ∀lit,f lit=lc):bJ r e f k=k:=by
 rw[bJ,vL,eN];exact Z3.2 fun x _=>by rw[h x];decide
theorem Ii{r:ah}{t:TS}{A:AK}(h:Br t A)(h1:A.l.Pairwise fun a b=>a.place<=b.place)(h2: ∀a∈A.l, -1<=a.place∧a.place<r.body.length):jn r A=bJ r 63 (nJ (Ca t)) aZ.z:=by
 unfold jn;cases hf:A.l.find? A.bad with
 |none=>
  rw[P5];intro lit;rw[<-aaC,uT h];rintro⟨k,B,_,hb⟩;rw[aaz]at hf;exact hf k B hb
 |some k=>
  obtain⟨hb,l1,l2,S,a0⟩:=List.find?_eq_some_iff_append.1 hf;have B:k∈A.l:=abJ hf;have hr:=h2 k B;obtain⟨n,J⟩: ∃n:Nat,k.place=(n:Int)-1:=⟨(k.place+1).toNat,by omega⟩
  have u: ∀y∈A.l,A.bad y=kw->k.place<=y.place:=fun y D d=>by
   rw[S]at D h1;rcases Zm.1 D with g|g
   .have:=a0 y g;rw[d]at this;cases this
   .rcases Zq.1 g with e|e
    .rw[e];exact abj _
    .exact(aay.1 (abc.1 h1).2.1).1 y e
  show(63,fx r k.place)=_;rw[J,mE (i:=n) ?_ (by omega) ?_]
  .refine Z3.2 fun x Y=>?_
   rw[uT h];rintro⟨y,D,hp,d⟩;have:=u y D d;obtain⟨j,G⟩:=List.mem_iff_getElem?.1 Y;have I:j<n:=by
    rcases Zb.1 G with⟨g,_⟩;rw[ZP]at g;omega
   rw[Z6,am I]at G;have F:=rB r.body.length j (by omega);rw[Y6,G]at F;have F:x=(j:Int)-1:=F;omega
  .rw[uT h];exact⟨k,B,J,hb⟩
theorem J0{p:Prog}{r:ah}(b:Vj r.head)(ok: ∀k,k<r.body.length->Wm (r.body.getD k em)):jn r (nG p r)=bJ r 63 (nJ (oO p r)) aZ.z:=
 Ii (t:=fj p r r.body.length) (E0 b ok _ (Zc _)) (nF p r _).1 (nF p r _).2
theorem E4{a:Atom}(h:(fk a).2=lc):Vj a:=by
 have u: ∀i,i<=a.ad.length->(eK a i).2=lc-> ∀k,k<i->K3 (a.ad.getD k em):=by
  intro i
  induction i with
  |zero=>intro _ _ k j;omega
  |succ i ih=>
   intro d hb k j;have hb:((eK a i).2||(pE (a.ad.getD i em)).2)=lc:=hb;rw[ZG]at hb;rcases ZS.1 j with g|g
   .exact ih (by omega) hb.1 k g
   .subst g;intro x;have b:=hb.2;unfold pE fe at b;rw[be (by omega),be (by omega)]at b;simp only[ZG]at b;exact vQ (by simpa using b.1.1)
 exact fun i d=>u a.ad.length (Zc _) h i d
theorem D9{f:Lit->nZ}{l:List Lit}: ∀i,(b5 f l i).2=lc-> ∀k,k<i->(f (l.getD k em)).2=lc
 |0,_,k,hk=>by omega
 |i+1,h,k,hk=>by
  rw[b5]at h;split at h
  .cases h
  rename_i b;split at h
  .cases h
  rename_i d;rcases ZS.1 hk with g|g
  .exact D9 i (by simpa using b) k g
  .subst g;simpa using d
theorem Lo{f:Int->Lit->nZ}{br:Int}{l:Lit}(h:(jO f br l).2=lc):IX l:=by
 unfold jO at h;refine⟨fun k=>?_,fun k=>?_⟩
 .rw[am k]at h;have h:((fk l.atom).2||_)=lc:=h;rw[ZG]at h;exact E4 h.1
 .rw[be (by omega),am k]at h;have h:((bO 17 l.left).2||((bO 17 l.right).2||_))=lc:=h;rw[ZG,ZG]at h;exact⟨yF _ _ h.1,yF _ _ h.2.1⟩
theorem AG{n:Nat}{br:Int}{l:Lit}(h:(eA n br l).2=lc):IX l:=by
 match n,h with
 |0,h=>cases h
 |n+1,h=>exact Lo h
theorem Qa{l:Lit}(h:iR l=lc):Wm l:=by
 rw[AJ]at h;unfold pJ at h;refine⟨AG h,fun j=>?_⟩;have u:=l.size_pos;obtain⟨n,d⟩: ∃n,l.size=n+1:=⟨l.size-1,by omega⟩
 rw[d]at h;have h:(jO (eA n) 16 l).2=lc:=h;unfold jO at h;rw[be (by omega),be (by omega),am j]at h;have h:((oL (eA n (16-1)) l.agg 16).2||_)=lc:=h;rw[ZG]at h;have h:=h.1;unfold oL at h;split at h
 .cases h
 have h:((Hf l.agg).2||(b5 (eA n (16-1)) l.agg.body l.agg.body.length).2)=lc:=h;rw[ZG]at h;refine⟨fun f1=>?_,fun k b=>?_⟩
 .have h:=h.1;unfold Hf at h;rw[be (show¬l.agg.func=1 from f1)]at h;have h:(_||(bO 17 l.jT).2)=lc:=h;rw[ZG]at h;exact yF _ _ h.2
 .exact AG (D9 _ h.2 k b)
section
abbrev AK.cell(o:List ak)(a b c na nb d:Nat):AO:= .cells [.sl a 0 na 2,.sl b 0 nb 1,.sl c 0 d 4,.iv (strs o)]
abbrev AK.O(A:AK)(o:List ak):List AO:=[AK.cell o 1 2 3 A.items.length A.root.length A.l.length,aE 2 A.items aN.c,aE 1 A.root aY,aE 4 A.l Ask.c]
abbrev AK.K(A:AK)(o:List ak):AH:=[(0,io (AK.cell o 1 2 3 A.items.length A.root.length A.l.length)),(1,io (aE 2 A.items aN.c)),(2,io (aE 1 A.root aY)),(3,io (aE 4 A.l Ask.c))]
abbrev AK.H(A:AK)(o:List ak):AH:=[(0,io (AK.cell o 4 5 6 A.items.length A.root.length A.l.length)),(4,io (aE 2 A.items aN.c)),(5,io (aE 1 A.root aY)),(6,io (aE 4 A.l Ask.c))]
abbrev AK.st(A:AK)(o:List ak)(i n0:Nat)(X:AH):AH:=(i,io (AK.cell o n0 (n0+1) (n0+2) A.items.length A.root.length A.l.length))::(n0,io (aE 2 A.items aN.c))::(n0+1,io (aE 1 A.root aY))::(n0+2,io (aE 4 A.l Ask.c))::X
section
variable {P:Program} {nt:Nat} {Q:AQ} {k:List KI} {s:AS}
def kS(s:AS)(o:List ak)(A:AK)(i a b c:Nat):AS:=match s with|⟨f,h,n⟩=>⟨f,(i,io (AK.cell o n (n+1) (n+2) A.items.length A.root.length A.l.length))::(n,io (aE 2 A.items aN.c))::(n+1,io (aE 1 A.root aY))::(n+2,io (aE 4 A.l Ask.c))::(i,jp)::(a,jp)::(b,jp)::(c,jp)::h,n+3⟩
theorem Ww(s:AS)(o:List ak)(A:AK)(i a b c:Nat):kS s o A i a b c=⟨s.f,(i,io (AK.cell o s.nx (s.nx+1) (s.nx+2) A.items.length A.root.length A.l.length))::(s.nx,io (aE 2 A.items aN.c))::(s.nx+1,io (aE 1 A.root aY))::(s.nx+2,io (aE 4 A.l Ask.c))::(i,jp)::(a,jp)::(b,jp)::(c,jp)::s.h,s.nx+3⟩:=by cases s;rfl
theorem Eh{op:Oper}{B:Call}{g:FuncId}{args y:List PV}{o:List ak}{A A':AK}{u:PV}{i a b c na nb I:Nat}{D F G:List (List PV)}{s':AS}(hc:bW P g (.ptr 0 0::args) (A.O o) u (A'.H o) 7)(ho:op.op= .call B)(ha:bY s.f B=io (g,.ptr i 0::y))
  (hi:s.h.get i=io (AK.cell o a b c na nb I)) (h1:s.h.get a=io (.row 2 D)) (h2:s.h.get b=io (.row 1 F)) (h3:s.h.get c=io (.row 4 G)) (n1:na=A.items.length) (n2:nb=A.root.length) (n3:I=A.l.length)
  (e1:D=A.items.map fun x=>(aN.c x).map .iv) (e2:F=A.root.map fun x=>(aY x).map .iv) (e3:G=A.l.map fun x=>(Ask.c x).map .iv)
  (hlt:[i,a,b,c].all (fun x=>Zs x s.nx)=kw) (hnd:b4 [i,a,b,c]=kw) (has:y=args) (hlow:bq 0 args=kw) (hr:u.low 0=kw)
  (hp:putDst nt op u (kS s o A' i a b c)=io s'):OT P nt op s (fun t=>t=s'):=by
 subst has;subst n1;subst n2;subst n3;subst e1;subst e2;subst e3;have d: ∀σ,ep σ y=y:=fun σ=>iY σ y hlow;refine nE ho ha hc (dC hnd) (fun j J=>Y5 (ZA.1 hlt j J)) ?_ ?_ ?_
 .simp only[Zr,Z0,hi,h1,h2,h3,bG];rfl
 .simp only[ep,d];rfl
 .rintro q S n0 ⟨rfl,rfl,rfl⟩;rw[PV.j5 _ _ hr];rw[Ww]at hp;refine⟨s',?_,rfl⟩;rw[<-hp];simp only[AK.H,aO,s8,Z8,bG];rfl
theorem XM{all rest:List Oper}{op:Oper}{u:Call}{g:FuncId}{args j:List PV}{o:List ak}{A A':AK}{d:PV}{i a b c na nb F:Nat}{y B D:List (List PV)}{s':AS}(hc:bW P g (.ptr 0 0::args) (A.O o) d (A'.H o) 7)(ho:op.op= .call u)(hg:op.guard=jp)(ha:bY s.f u=io (g,.ptr i 0::j))
  (hi:s.h.get i=io (AK.cell o a b c na nb F)) (h1:s.h.get a=io (.row 2 y)) (h2:s.h.get b=io (.row 1 B)) (h3:s.h.get c=io (.row 4 D)) (n1:na=A.items.length) (n2:nb=A.root.length) (n3:F=A.l.length)
  (e1:y=A.items.map fun x=>(aN.c x).map .iv) (e2:B=A.root.map fun x=>(aY x).map .iv) (e3:D=A.l.map fun x=>(Ask.c x).map .iv)
  (hlt:[i,a,b,c].all (fun x=>Zs x s.nx)=kw) (hnd:b4 [i,a,b,c]=kw) (has:j=args) (hlow:bq 0 args=kw) (hr:d.low 0=kw)
  (hp:putDst nt op d (kS s o A' i a b c)=io s') (h:GO P nt (.ops all rest::k) Q s'):GO P nt (.ops all (op::rest)::k) Q s:=
 dK hg (Eh hc ho ha hi h1 h2 h3 n1 n2 n3 e1 e2 e3 hlt hnd has hlow hr hp) fun t G=>by subst G;exact h
theorem rU{all rest:List Oper}{op:Oper}{u:Call}{g:FuncId}{args j:List PV}{o:List ak}{A A':AK}{d:PV}{i a b c na nb F:Nat}{y B D:List (List PV)}{s':AS}(hc:bW P g (.ptr 0 0::args) (A.O o) d (A'.H o) 7)(h:GO P nt (.ops all rest::k) Q s')(ho:op.op= .call u:=by exact rfl)(hg:op.guard=jp:=by exact rfl)(ha:bY s.f u=io (g,.ptr i 0::j):=by exact rfl)(hi:s.h.get i=io (AK.cell o a b c na nb F):=by exact rfl)(h1:s.h.get a=io (.row 2 y):=by exact rfl)(h2:s.h.get b=io (.row 1 B):=by exact rfl)(h3:s.h.get c=io (.row 4 D):=by exact rfl)(n1:na=A.items.length:=by first|rfl|(rw[Y8];rfl)|simp)(n2:nb=A.root.length:=by first|rfl|(rw[Y8];rfl)|simp)(n3:F=A.l.length:=by first|rfl|(rw[Y8];rfl)|simp)(e1:y=A.items.map fun x=>(aN.c x).map .iv:=by first|rfl|(rw[Ze];rfl)|(simp only[Ze,Zj];rfl))(e2:B=A.root.map fun x=>(aY x).map .iv:=by first|rfl|(rw[Ze];rfl)|(simp only[Ze,Zj];rfl))(e3:D=A.l.map fun x=>(Ask.c x).map .iv:=by first|rfl|(rw[Ze];rfl)|(simp only[Ze,Zj];rfl))(hlt:[i,a,b,c].all (fun x=>Zs x s.nx)=kw:=by exact rfl)(hnd:b4 [i,a,b,c]=kw:=by exact rfl)(has:j=args:=by exact rfl)(hlow:bq 0 args=kw:=by exact rfl)(hr:d.low 0=kw:=by exact rfl)(hp:putDst nt op d (kS s o A' i a b c)=io s':=by exact rfl):GO P nt (.ops all (op::rest)::k) Q s:=XM (hc:=hc) (ho:=ho) (hg:=hg) (ha:=ha) (hi:=hi) (h1:=h1) (h2:=h2) (h3:=h3) (n1:=n1) (n2:=n2) (n3:=n3) (e1:=e1) (e2:=e2) (e3:=e3) (hlt:=hlt) (hnd:=hnd) (has:=has) (hlow:=hlow) (hr:=hr) (hp:=hp) (h:=h)
theorem WG{ty:Ty}(j:cD P ty){all:List Oper}{todo pend:List (Nat×Oper)}{u:Nat}{B y:Prop}{op:Oper}{F:Call}{g:FuncId}{args D:List PV}{o:List ak}{A A':AK}{d:PV}{i a b c na nb S:Nat}{G I J:List (List PV)}{s':AS}(hc:bW P g (.ptr 0 0::args) (A.O o) d (A'.H o) 7)
  (hrd:fw todo=[(u,op)]) (ho:op.op= .call F) (ha:bY s.f F=io (g,.ptr i 0::D))
  (hi:s.h.get i=io (AK.cell o a b c na nb S)) (h1:s.h.get a=io (.row 2 G)) (h2:s.h.get b=io (.row 1 I)) (h3:s.h.get c=io (.row 4 J)) (n1:na=A.items.length) (n2:nb=A.root.length) (n3:S=A.l.length)
  (e1:G=A.items.map fun x=>(aN.c x).map .iv) (e2:I=A.root.map fun x=>(aY x).map .iv) (e3:J=A.l.map fun x=>(Ask.c x).map .iv)
  (hlt:[i,a,b,c].all (fun x=>Zs x s.nx)=kw) (hnd:b4 [i,a,b,c]=kw) (has:D=args) (hlow:bq 0 args=kw) (hr:d.low 0=kw)
  (hp:putDst nt op d (kS s o A' i a b c)=io s')
  (hg:cJ nt all s.f op=io kw) (hpb:jM all pend op=kw) (hE:pj todo [u]=kw)
  (hag:tJ ty nt all s todo pend=io B) (hCA:B) (hag2:eD ty nt all s' (bp pend op)=io y) (hC2:y)
  (h:GO P nt (.cX all (todo.filter fun x=>!Zz x.1 u) (bp pend op)::k) Q s'):GO P nt (.cX all todo pend::k) Q s:=
 yy j hrd hg hpb hE hag hCA (Eh hc ho ha hi h1 h2 h3 n1 n2 n3 e1 e2 e3 hlt hnd has hlow hr hp) hag2 hC2 h
theorem Jj{all:List Oper}{todo pend:List (Nat×Oper)}{j:Nat}{y u:Prop}{op:Oper}{D:Call}{g:FuncId}{args B:List PV}{o:List ak}{A A':AK}{d:PV}{i a b c na nb J:Nat}{F G I:List (List PV)}{s':AS}(hc:bW Tryz.prog g (.ptr 0 0::args) (A.O o) d (A'.H o) 7)(h:GO Tryz.prog nt (.cX all (todo.filter fun x=>!Zz x.1 j) (bp pend op)::k) Q s')(hrd:fw todo=[(j,op)]:=by exact rfl)(ho:op.op= .call D:=by exact rfl)(ha:bY s.f D=io (g,.ptr i 0::B):=by exact rfl)(hi:s.h.get i=io (AK.cell o a b c na nb J):=by exact rfl)(h1:s.h.get a=io (.row 2 F):=by exact rfl)(h2:s.h.get b=io (.row 1 G):=by exact rfl)(h3:s.h.get c=io (.row 4 I):=by exact rfl)(n1:na=A.items.length:=by first|rfl|(rw[Y8];rfl)|simp)(n2:nb=A.root.length:=by first|rfl|(rw[Y8];rfl)|simp)(n3:J=A.l.length:=by first|rfl|(rw[Y8];rfl)|simp)(e1:F=A.items.map fun x=>(aN.c x).map .iv:=by first|rfl|(rw[Ze];rfl)|(simp only[Ze,Zj];rfl))(e2:G=A.root.map fun x=>(aY x).map .iv:=by first|rfl|(rw[Ze];rfl)|(simp only[Ze,Zj];rfl))(e3:I=A.l.map fun x=>(Ask.c x).map .iv:=by first|rfl|(rw[Ze];rfl)|(simp only[Ze,Zj];rfl))(hlt:[i,a,b,c].all (fun x=>Zs x s.nx)=kw:=by exact rfl)(hnd:b4 [i,a,b,c]=kw:=by exact rfl)(has:B=args:=by exact rfl)(hlow:bq 0 args=kw:=by exact rfl)(hr:d.low 0=kw:=by exact rfl)(hp:putDst nt op d (kS s o A' i a b c)=io s':=by exact rfl)(hg:cJ nt all s.f op=io kw:=by exact rfl)(hpb:jM all pend op=kw:=by exact rfl)(hE:pj todo [j]=kw:=by exact rfl)(hag:tJ pC nt all s todo pend=io y:=by exact rfl)(hCA:y:=by(repeat' (first|exact ac|exact rfl|exact aK.refl _|exact aK.bk (by assumption)|apply ZU))<;>first|omega|(simp only[Zx];omega)|(simp;done)|(simp;omega))(hag2:eD pC nt all s' (bp pend op)=io u:=by exact rfl)(hC2:u:=by(repeat' (first|exact ac|exact rfl|exact aK.refl _|exact aK.bk (by assumption)|apply ZU))<;>first|omega|(simp only[Zx];omega)|(simp;done)|(simp;omega)):GO Tryz.prog nt (.cX all todo pend::k) Q s:=WG ab (hc:=hc) (hrd:=hrd) (ho:=ho) (ha:=ha) (hi:=hi) (h1:=h1) (h2:=h2) (h3:=h3) (n1:=n1) (n2:=n2) (n3:=n3) (e1:=e1) (e2:=e2) (e3:=e3) (hlt:=hlt) (hnd:=hnd) (has:=has) (hlow:=hlow) (hr:=hr) (hp:=hp) (hg:=hg) (hpb:=hpb) (hE:=hE) (hag:=hag) (hCA:=hCA) (hag2:=hag2) (hC2:=hC2) (h:=h)
theorem WK{ty:TypeId->Option cE}{l:List ResultVar}{r0:PV}{e:Exit}{o:List ak}{A:AK}{d:PV}{a b c na nb B:Nat}{j u y:List (List PV)}(he:e= .normal∨e= .ret)(hr:ly ty s l=io r0)(hi:s.h.get 0=io (AK.cell o a b c na nb B))(h1:s.h.get a=io (.row 2 j))(h2:s.h.get b=io (.row 1 u))(h3:s.h.get c=io (.row 4 y))
  (n1:na=A.items.length) (n2:nb=A.root.length) (n3:B=A.l.length)
  (e1:j=A.items.map fun x=>(aN.c x).map .iv) (e2:u=A.root.map fun x=>(aY x).map .iv) (e3:y=A.l.map fun x=>(Ask.c x).map .iv)
  (hlt:[a,b,c].all (fun x=>Zs x s.nx)=kw) (hnd:b4 [0,a,b,c]=kw) (hns:aa2 4 s.nx=kw) (hrl:aK r0 d) (hlow:d.low 0=kw) (hlow7:d.low 7=kw):CN ty l 4 d (A.H o) 7 e s:=by
 subst n1;subst n2;subst n3;subst e1;subst e2;subst e3;refine fp [a,b,c] he hr ⟨rfl,Y5 hns,fun x D=>Y5 (ZA.1 hlt x D),⟨?_,hlow7,ac⟩,⟨⟨_,hi,.of_eq Z⟩,Y5 Z,rfl,⟨_,h1,.of_eq (bG _).symm⟩,Y5 Z,cM _,⟨_,h2,.of_eq (bG _).symm⟩,Y5 Z,cM _,⟨_,h3,.of_eq (bG _).symm⟩,Y5 Z,cM _,ac⟩,dC hnd⟩;rw[PV.j5 _ _ hlow];exact hrl
theorem uR{ty:TypeId->Option cE}{l:List ResultVar}{r0:PV}{e:Exit}{o:List ak}{A:AK}{d:PV}{a b c na nb B:Nat}{j u y:List (List PV)}(he:e= .normal∨e= .ret:=by first|exact .inr Z|exact .inl Z)(hr:ly ty s l=io r0:=by exact rfl)(hi:s.h.get 0=io (AK.cell o a b c na nb B):=by exact rfl)(h1:s.h.get a=io (.row 2 j):=by exact rfl)(h2:s.h.get b=io (.row 1 u):=by exact rfl)(h3:s.h.get c=io (.row 4 y):=by exact rfl)(n1:na=A.items.length:=by first|rfl|(rw[Y8];rfl)|simp)(n2:nb=A.root.length:=by first|rfl|(rw[Y8];rfl)|simp)(n3:B=A.l.length:=by first|rfl|(rw[Y8];rfl)|simp)(e1:j=A.items.map fun x=>(aN.c x).map .iv:=by first|rfl|(rw[Ze];rfl)|(simp only[Ze,Zj];rfl))(e2:u=A.root.map fun x=>(aY x).map .iv:=by first|rfl|(rw[Ze];rfl)|(simp only[Ze,Zj];rfl))(e3:y=A.l.map fun x=>(Ask.c x).map .iv:=by first|rfl|(rw[Ze];rfl)|(simp only[Ze,Zj];rfl))(hlt:[a,b,c].all (fun x=>Zs x s.nx)=kw:=by exact rfl)(hnd:b4 [0,a,b,c]=kw:=by exact rfl)(hns:aa2 4 s.nx=kw:=by exact rfl)(hrl:aK r0 d:=by exact .refl _)(hlow:d.low 0=kw:=by exact rfl)(hlow7:d.low 7=kw:=by exact rfl):CN ty l 4 d (A.H o) 7 e s:=WK (he:=he) (hr:=hr) (hi:=hi) (h1:=h1) (h2:=h2) (h3:=h3) (n1:=n1) (n2:=n2) (n3:=n3) (e1:=e1) (e2:=e2) (e3:=e3) (hlt:=hlt) (hnd:=hnd) (hns:=hns) (hrl:=hrl) (hlow:=hlow) (hlow7:=hlow7)
theorem Nq{n0 i a b c na nb I:Nat}{D F G:List (List PV)}{J:AF}{o:List ak}{A A':AK}(hw:A=A')(hi:s.h.get i=io (AK.cell o a b c na nb I))(h1:s.h.get a=io (.row 2 D))(h2:s.h.get b=io (.row 1 F))(h3:s.h.get c=io (.row 4 G))
  (n1:na=A.items.length) (n2:nb=A.root.length) (n3:I=A.l.length)
  (e1:D=A.items.map fun x=>(aN.c x).map .iv) (e2:F=A.root.map fun x=>(aY x).map .iv) (e3:G=A.l.map fun x=>(Ask.c x).map .iv)
  (hlt:[a,b,c].all (fun x=>Zs x s.nx)=kw) (hnd:b4 [i,a,b,c]=kw) (h0:Zs i n0=kw) (hns:aa2 n0 s.nx=kw) (hf:Gx (n0+3) (sg n0 [a,b,c]) s.f J):
  Wk n0 [a,b,c] s ⟨J,[(i,io (AK.cell o n0 (n0+1) (n0+2) A'.items.length A'.root.length A'.l.length)),(n0,io (aE 2 A'.items aN.c)),(n0+1,io (aE 1 A'.root aY)),(n0+2,io (aE 4 A'.l Ask.c))],n0+3⟩:=by
 subst hw;subst n1;subst n2;subst n3;subst e1;subst e2;subst e3;have j:i<n0:=Y5 h0;have s0:sg n0 [a,b,c] i=i:=gE j;have d: ∀m,Zs (n0+m) n0=lc:=fun m=>aaS.2 fun e=>absurd (Y5 e) (by omega);have u:sg n0 [a,b,c] n0=a:=by have:=d 0;simp only[abg]at this;simp[sg,this]
 have y:sg n0 [a,b,c] (n0+1)=b:=by simp[sg,d]
 have B:sg n0 [a,b,c] (n0+2)=c:=by simp[sg,d]
 have S:Zs n0 (n0+3)=kw:=ZO (by omega);have c1:Zs (n0+1) (n0+3)=kw:=ZO (by omega);have Y:Zs (n0+2) (n0+3)=kw:=ZO (by omega);refine⟨rfl,Y5 hns,fun x hx=>Y5 (ZA.1 hlt x hx),hf,⟨⟨_,by rw[s0];exact hi,?_⟩,by show i<n0+3;omega,?_,⟨_,by rw[u];exact h1,.of_eq (bG _).symm⟩,by show n0<n0+3;omega,cM _,⟨_,by rw[y];exact h2,.of_eq (bG _).symm⟩,by show n0+1<n0+3;omega,cM _,⟨_,by rw[B];exact h3,.of_eq (bG _).symm⟩,by show n0+2<n0+3;omega,cM _,ac⟩,?_⟩
 .simp only[AO.dc,ep,PV.dc,u,y,B];exact .of_eq Z
 .simp[AO.low,bq,PV.low,S,c1,Y]
 .simp only[ew,s0,u,y,B];exact dC hnd
theorem S6{X:AH}{n0 i a b c na nb D:Nat}{u y B:List (List PV)}{J:AF}{o:List ak}{A A':AK}(hw:A=A')(hi:s.h.get i=io (AK.cell o a b c na nb D))(h1:s.h.get a=io (.row 2 u))(h2:s.h.get b=io (.row 1 y))(h3:s.h.get c=io (.row 4 B))
  (n1:na=A.items.length) (n2:nb=A.root.length) (n3:D=A.l.length)
  (e1:u=A.items.map fun x=>(aN.c x).map .iv) (e2:y=A.root.map fun x=>(aY x).map .iv) (e3:B=A.l.map fun x=>(Ask.c x).map .iv)
  (hlt:[a,b,c].all (fun x=>Zs x s.nx)=kw) (hnd:b4 [i,a,b,c]=kw) (h0:Zs i n0=kw) (hns:aa2 n0 s.nx=kw) (hf:Gx (n0+3) (sg n0 [a,b,c]) s.f J) (hX:n7 (n0+3) (sg n0 [a,b,c]) s.h X)
  (hin:b4 (ew (sg n0 [a,b,c]) ((i,io (AK.cell o n0 (n0+1) (n0+2) A'.items.length A'.root.length A'.l.length))::(n0,io (aE 2 A'.items aN.c))::(n0+1,io (aE 1 A'.root aY))::(n0+2,io (aE 4 A'.l Ask.c))::X))=kw):
  Wk n0 [a,b,c] s ⟨J,(i,io (AK.cell o n0 (n0+1) (n0+2) A'.items.length A'.root.length A'.l.length))::(n0,io (aE 2 A'.items aN.c))::(n0+1,io (aE 1 A'.root aY))::(n0+2,io (aE 4 A'.l Ask.c))::X,n0+3⟩:=by
 subst hw;subst n1;subst n2;subst n3;subst e1;subst e2;subst e3;have j:i<n0:=Y5 h0;have s0:sg n0 [a,b,c] i=i:=gE j;have d: ∀m,Zs (n0+m) n0=lc:=fun m=>aaS.2 fun e=>absurd (Y5 e) (by omega);have F:sg n0 [a,b,c] n0=a:=by have:=d 0;simp only[abg]at this;simp[sg,this]
 have G:sg n0 [a,b,c] (n0+1)=b:=by simp[sg,d]
 have I:sg n0 [a,b,c] (n0+2)=c:=by simp[sg,d]
 have S:Zs n0 (n0+3)=kw:=ZO (by omega);have c1:Zs (n0+1) (n0+3)=kw:=ZO (by omega);have Y:Zs (n0+2) (n0+3)=kw:=ZO (by omega);refine⟨rfl,Y5 hns,fun x hx=>Y5 (ZA.1 hlt x hx),hf,⟨⟨_,by rw[s0];exact hi,?_⟩,by show i<n0+3;omega,?_,⟨_,by rw[F];exact h1,.of_eq (bG _).symm⟩,by show n0<n0+3;omega,cM _,⟨_,by rw[G];exact h2,.of_eq (bG _).symm⟩,by show n0+1<n0+3;omega,cM _,⟨_,by rw[I];exact h3,.of_eq (bG _).symm⟩,by show n0+2<n0+3;omega,cM _,hX⟩,dC hin⟩
 .simp only[AO.dc,ep,PV.dc,F,G,I];exact .of_eq Z
 .simp[AO.low,bq,PV.low,S,c1,Y]
theorem Bu{X:AH}{n0 i a b c na nb y:Nat}{d j u:List (List PV)}{B:AF}{o:List ak}{A A':AK}(hw:A=A')(hX:n7 (n0+3) (sg n0 [a,b,c]) s.h X)(hi:s.h.get i=io (AK.cell o a b c na nb y):=by exact rfl)(h1:s.h.get a=io (.row 2 d):=by exact rfl)(h2:s.h.get b=io (.row 1 j):=by exact rfl)(h3:s.h.get c=io (.row 4 u):=by exact rfl)(n1:na=A.items.length:=by first|rfl|(rw[Y8];rfl)|simp)(n2:nb=A.root.length:=by first|rfl|(rw[Y8];rfl)|simp)(n3:y=A.l.length:=by first|rfl|(rw[Y8];rfl)|simp)(e1:d=A.items.map fun x=>(aN.c x).map .iv:=by first|rfl|(rw[Ze];rfl)|(simp only[Ze,Zj];rfl))(e2:j=A.root.map fun x=>(aY x).map .iv:=by first|rfl|(rw[Ze];rfl)|(simp only[Ze,Zj];rfl))(e3:u=A.l.map fun x=>(Ask.c x).map .iv:=by first|rfl|(rw[Ze];rfl)|(simp only[Ze,Zj];rfl))(hlt:[a,b,c].all (fun x=>Zs x s.nx)=kw:=by exact rfl)(hnd:b4 [i,a,b,c]=kw:=by exact rfl)(h0:Zs i n0=kw:=by exact rfl)(hns:aa2 n0 s.nx=kw:=by exact rfl)(hf:Gx (n0+3) (sg n0 [a,b,c]) s.f B:=by repeat' (first|exact ac|exact aK.refl _|exact rfl|apply ZU))(hin:b4 (ew (sg n0 [a,b,c]) ((i,io (AK.cell o n0 (n0+1) (n0+2) A'.items.length A'.root.length A'.l.length))::(n0,io (aE 2 A'.items aN.c))::(n0+1,io (aE 1 A'.root aY))::(n0+2,io (aE 4 A'.l Ask.c))::X))=kw:=by exact rfl):Wk n0 [a,b,c] s ⟨B,(i,io (AK.cell o n0 (n0+1) (n0+2) A'.items.length A'.root.length A'.l.length))::(n0,io (aE 2 A'.items aN.c))::(n0+1,io (aE 1 A'.root aY))::(n0+2,io (aE 4 A'.l Ask.c))::X,n0+3⟩:=S6 (hw:=hw) (hi:=hi) (h1:=h1) (h2:=h2) (h3:=h3) (n1:=n1) (n2:=n2) (n3:=n3) (e1:=e1) (e2:=e2) (e3:=e3) (hlt:=hlt) (hnd:=hnd) (h0:=h0) (hns:=hns) (hf:=hf) (hX:=hX) (hin:=hin)
end
end
end Go.Proofs.YtflegjieadkonaaGreatDoor
namespace Go.Proofs.YtflegjieadkonaaGreatDoor
open Go Go.Al Go.Proofs.Tryz
def AK.ok(A:AK):Prop:=A.root.length=A.items.length∧ ∀k∈A.l,k.item<A.items.length
structure Gr (n:Nat) (A B:AK):Prop where
 ok:A.ok->B.ok
 it:B.items.length<=A.items.length+n
 ln:B.l.length<=A.l.length+n
 mn:A.items.length<=B.items.length
def AK.fit(A:AK)(n:Nat):Prop:=A.ok∧A.items.length+n<=1000000000∧A.l.length+n<=1000000000
theorem Gr.refl(A:AK):Gr 0 A A:=⟨id,Zc _,Zc _,Zc _⟩
theorem Gr.trans{n m:Nat}{A B C:AK}(h:Gr n A B)(g:Gr m B C):Gr (n+m) A C:=
 ⟨fun o=>g.ok (h.ok o),by have:=h.it;have:=g.it;omega,by have:=h.ln;have:=g.ln;omega,by have:=h.mn;have:=g.mn;omega⟩
theorem Gr.le{n m:Nat}{A B:AK}(h:Gr n A B)(hm:n<=m):Gr m A B:=⟨h.ok,by have:=h.it;omega,by have:=h.ln;omega,h.mn⟩
theorem AK.fit.step{A B:AK}{a b n:Nat}(h:A.fit n)(g:Gr a A B)(hn:a+b<=n):B.fit b:=by
 obtain⟨d,j,u⟩:=h;have:=g.it;have:=g.ln;exact⟨g.ok d,by omega,by omega⟩
theorem AK.fit.le{A:AK}{n m:Nat}(h:A.fit n)(hm:m<=n):A.fit m:=⟨h.1,by have:=h.2.1;omega,by have:=h.2.2;omega⟩
theorem uy(A:AK)(u:aN):Gr 1 A (A.item u):=by
 unfold AK.item;split
 .exact(Gr.refl A).le (by omega)
 .refine⟨fun⟨h1,h2⟩=>⟨?_,fun k b=>?_⟩,?_,by show A.l.length<=_;omega,?_⟩
  .show(A.root++_).length=(A.items++_).length;rw[Y8,Y8,h1];rfl
  .have:=h2 k b;show _<(((A.items++_).length:Nat):Int)
   rw[Y8,ZH];omega
  .show(A.items++_).length<=_;rw[Y8,ZH];omega
  .show _<=(A.items++_).length;rw[Y8,ZH];omega
theorem Cf(A:AK)(u:aN):A.ix u<(A.item u).items.length:=by
 unfold AK.item AK.ix;split
 .omega
 .rename_i h;show _<(((A.items++_).length:Nat):Int)
  have: ∀l:List aN,zw l u<=l.length:=by
   intro l
   induction l with
   |nil=>exact Zc _
   |cons a r ih=>unfold zw;split<;>simp<;>omega
  have:=this A.items;rw[Y8,ZH];omega
theorem LS(A:AK)(k:Ask)(b:k.item<A.items.length):Gr 1 A (A.ask k):=by
 unfold AK.ask;split
 .refine⟨fun⟨h1,h2⟩=>⟨h1,fun x d=>?_⟩,by show A.items.length<=_;omega,?_,Zc _⟩
  .rcases Zm.1 d with g|g
   .exact h2 x g
   .rw[Zk]at g;subst g;exact b
  .show(A.l++_).length<=_;rw[Y8,ZH];omega
 .exact(Gr.refl A).le (by omega)
theorem Lz(A:AK)(u:aN):(A.item u).l=A.l:=by unfold AK.item;split<;>rfl
theorem JF(A:AK)(k:Ask):(A.ask k).items=A.items:=by unfold AK.ask;split<;>rfl
theorem xe(A:AK)(b:Int)(u:aN)(d:Int):Gr 1 A (A.want b u d):=by
 have j:=uy A u;have x:=LS (A.item u) ⟨b,A.ix u,d,0⟩ (Cf A u);refine⟨fun o=>x.ok (j.ok o),?_,?_,Z1 j.mn x.mn⟩
 .show((A.item u).ask _).items.length<=_;rw[JF];exact j.it
 .have:=x.ln;rw[Lz]at this;exact this
theorem LP(A:AK)(b d j:Int):Gr 1 A (A.ask ⟨b, -1,d,j⟩):=LS A _ (by show(-1:Int)<_;omega)
theorem Uy(A:AK)(x y:Int):Gr 0 A (A.tie x y):=by
 refine⟨fun⟨h1,h2⟩=>⟨?_,h2⟩,Zc _,Zc _,Zc _⟩;show(A.root.map _).length=A.items.length;rw[ZE,h1]
theorem Hz(r:ah)(lit w:Int)(e:Expr)(A:AK):Gr 1 A (mH r lit w e A):=by
 unfold mH;split
 .exact xe _ _ _ _
 split
 .exact LP _ _ _ _
 .exact(Gr.refl A).le (by omega)
theorem Cn(r:ah)(lit w:Int)(l:List Expr)(h: ∀x∈l,∀A,Gr x.size A (gL r lit w x A)): ∀A,Gr (Expr.az l) A (l.foldl (fun A x=>gL r lit w x A) A):=by
 induction l with
 |nil=>exact fun A=>Gr.refl A
 |cons e s ih=>
  intro A;exact(h e Zo A).trans (ih (fun x b=>h x (Zn _ b)) _)
theorem nU(r:ah)(lit w:Int): ∀(n:Nat) (e:Expr) (A:AK),e.size<=n->Gr e.size A (gL r lit w e A)
 |0,e,A,h=>by have:=e.size_pos;omega
 |n+1,e,A,h=>by
  have u:=e.size_eq;rw[w9];refine Gr.le ((Hz r lit w e A).trans (m:=Expr.az e.args) ?_) (by omega);unfold lS;split
  .refine Cn r lit w e.args (fun x j A=>nU r lit w n x A ?_) _;obtain⟨k,d,rfl⟩:=aaf.1 j;have b:=Expr.aF e.args k d;rw[Y6,Za d]at b;have b:(e.args[k]).size<=Expr.az e.args:=b;omega
  .exact(Gr.refl _).le (by omega)
theorem tx(r:ah)(lit w:Int)(e:Expr)(A:AK):Gr (Expr.az e.args) A (lS r lit w e A):=by
 unfold lS;split
 .exact Cn r lit w e.args (fun x b A=>nU r lit w x.size x A (Zc _)) _
 .exact(Gr.refl _).le (by omega)
theorem LU(r:ah)(lit w:Int)(l:List Expr)(i:Nat)(A:AK):Gr (Expr.az (l.take i)) A ((l.take i).foldl (fun A x=>gL r lit w x A) A):=
 Cn r lit w _ (fun x b A=>nU r lit w x.size x A (Zc _)) _
theorem LR(p:Prog)(r:ah)(a:Atom)(lit w:Int)(i:Nat)(A:AK):Gr 1 A (kj p r a lit w i A):=by
 unfold kj;split
 .split
  .exact xe _ _ _ _
  split
  .exact LP _ _ _ _
  .exact(Gr.refl A).le (by omega)
 .exact(Gr.refl A).le (by omega)
theorem xf(p:Prog)(r:ah)(a:Atom)(lit w:Int)(A:AK): ∀i,Gr i A (fP p r a lit w A i)
 |0=> .refl _
 |i+1=>(xf p r a lit w A i).trans (LR p r a lit w i _)
theorem Er(r:ah)(lit w:Int)(x y:Expr)(A:AK):Gr 2 A (lC r lit w x y A):=by
 unfold lC;split
 .split
  .exact((uy _ _).trans (uy _ _)).trans (Uy _ _ _)
  .exact(xe _ _ _ _).le (by omega)
 split
 .exact(xe _ _ _ _).le (by omega)
 .exact(LP _ _ _ _).le (by omega)
theorem LQ(p:Prog)(r:ah)(lit w:Int)(l:Lit)(A:AK):Gr l.size A (lG p r lit w l A):=by
 have b:=l.size_eq;have d:=l.left.size_eq;have j:=l.right.size_eq;unfold lG;split
 .exact(xf p r l.atom lit w A _).le (by omega)
 split
 .split
  .exact(((tx r lit w l.left A).trans (tx r lit w l.right _)).trans (Er r lit w _ _ _)).le (by omega)
  .exact((nU r lit w _ l.left A (Zc _)).trans (nU r lit w _ l.right _ (Zc _))).le (by omega)
 .exact(Gr.refl A).le (by omega)
theorem Ep(p:Prog)(r:ah)(i:Int)(A:AK)(b:List Lit): ∀k,k<=b.length->Gr (Lit.az (b.take k)) A (Fi p r i A b k)
 |0,_=> .refl _
 |k+1,h=>by
  rw[Lit.oQ b k (by omega)];exact(Ep p r i A b k (by omega)).trans (LQ p r i i _ _)
theorem LO(r:ah)(i f:Int)(v:ak)(o:Expr)(A:AK):Gr (o.size+2) A (uW r i f v o A):=by
 have b:=o.size_eq;unfold uW;split
 .exact(nU r i i _ (jm v) A (Zc _)).le (by rw[jF];omega)
 split
 .exact((nU r i i _ (jm v) A (Zc _)).trans (nU r i i _ o _ (Zc _))).le (by rw[jF];omega)
 .exact((tx r i i o A).trans (Er r i i _ _ _)).le (by omega)
theorem Qh(p:Prog)(r:ah)(i:Int)(l:Lit)(A:AK):Gr l.size A (r6 p r i l A):=by
 have d:=l.size_eq;unfold r6;split
 .have b:=Ep p r i (uW r i l.c7 l.a8 l.jT A) l.ar l.ar.length (Zc _);rw[aaQ]at b;exact((LO r i l.c7 l.a8 l.jT A).trans b).le (by omega)
 .exact LQ p r i (-1) l A
theorem Cm(p:Prog)(r:ah): ∀k,k<=r.body.length->Gr (r.head.ad.length+Lit.az (r.body.take k)) AK.o (lI p r k)
 |0,_=>xf p r r.head (-1) (-1) AK.o _
 |k+1,h=>by
  rw[Lit.oQ r.body k (by omega),<-aaI];exact(Cm p r k (by omega)).trans (Qh p r k _ _)
theorem Wl:AK.o.ok:=⟨rfl,fun k b=>nomatch b⟩
def uN(r:ah)(lit:Int):Bool:=if lit<0 then(fk r.head).2 else(pJ (an r lit)).2
def rT(r:ah)(n:Int):aZ:=
 if n>256∨(r.body.length:Int)>12 then(66,r.at_) else if(tZ r:Int)>24 then(66,r.at_) else match r.body.find? pA with
  |some l=>(66,l.at)
  |none=>aZ.z
def nf(a b:aZ):aZ:=if a.1=0 then b else a
def KF(p:Prog)(r:ah)(n:Int):aZ:=
 nf (bJ r 1 (uN r) aZ.z)<|nf (rT r n)<|nf (bJ r 61 (fun lit=>(bu r lit).any fun x=>lZ p x) aZ.z)<|nf (bJ r 62 (fun lit=>(bu r lit).any fun x=>nj p x) aZ.z)<|nf (bJ r 65 (dF r) aZ.z)<|nf (jn r (nG p r))<|bJ r 64 (dN r) aZ.z
theorem ql{r:ah}{e:Int}(he: ¬e=0)(f:Int->Bool)(k:aZ):nf (bJ r e f aZ.z) k=bJ r e f k:=by
 unfold nf bJ;split
 .exact be he
 .exact am Z
theorem FW(n:Nat):jd n=(-1)::(Zy n).map fun k:Nat=>(k:Int):=by
 unfold jd;rw[abz,Zr,aa4];refine congr (congrArg _ Z) (aaB fun k _=>?_);show((k+1:Nat):Int)-1=k;omega
theorem Gc{α:Type}[Inhabited α](q:α->Bool): ∀(l:List α) (m:Nat) (g:Nat->Int),∀f:Int->Bool,(∀k,k<l.length->f (g k)=q (l.getD k em))->((Zy l.length).map g).find? f=(l.findIdx? q).map g:=by
 intro l _
 induction l with
 |nil=>intro g f _;rfl
 |cons a r ih=>
  intro g f h;have b:=h 0 (by simp);rw[ZI,abz,Zr,aaY,b];rw[List.findIdx?_cons];show(match q a with|true=>_|false=>_)=_;cases hq:q a with
  |true=>rfl
  |false=>
   show((List.map Nat.succ (Zy r.length)).map g).find? f=_;rw[aa4];have:=ih (fun k=>g (k+1)) f fun k d=>h (k+1) (by simpa using d);show((Zy r.length).map fun k=>g (k+1)).find? f=_;rw[this];simp only[aaG,if_false];cases r.findIdx? q<;>rfl
theorem FU(r:ah)(e:Int)(f:Int->Bool)(q:Lit->Bool)(k:aZ)(B: ∀i:Nat,i<r.body.length->f i=q (r.body.getD i em)):bJ r e f k=if f (-1)=kw then(e,r.at_) else match r.body.find? q with
  |some l=>(e,l.at)
  |none=>k:=by
 unfold bJ vL;rw[FW,aaY];cases h:f (-1) with
 |true=>rfl
 |false=>
  rw[be (by decide)];have:=Gc q r.body 0 (fun k:Nat=>(k:Int)) f B;show(match((Zy r.body.length).map fun k:Nat=>(k:Int)).find? f with|some lit=>(e,fx r lit)|none=>k)=_;rw[this];cases hi:r.body.findIdx? q with
  |none=>
   rw[abK]at hi;have:r.body.find? q=jp:=by
    rw[aaz];intro x D;rw[hi x D];decide
   rw[this];rfl
  |some i=>
   obtain⟨b,d,u⟩:=abn.1 hi;have:r.body.find? q=io r.body[i]:=by
    rw[abu];exact⟨d,i,b,rfl,fun j y=>by rw[aae];exact aaS.2 (u j y)⟩
   rw[this];show(e,fx r i)=(e,(r.body[i]).at)
   have A:fx r i=(r.body[i]).at:=by
    unfold fx an;rw[be (by omega),Y6,show((i:Int)).toNat=i by omega,Za b];rfl
   rw[A]
theorem I7(r:ah)(i:Nat):an r i=r.body.getD i em:=rfl
theorem Ll(r:ah)(k:aZ):bJ r 1 (uN r) k=if lX r.head=kw then(1,r.at_) else match r.body.find? iR with
  |some l=>(1,l.at)
  |none=>k:=by
 have b: ∀i:Nat,i<r.body.length->uN r i=iR (r.body.getD i em):=fun i _=>by
  unfold uN;rw[be (by omega),I7,AJ]
 rw[FU r 1 (uN r) iR k b];have:uN r (-1)=lX r.head:=by rw[E5];rfl
 rw[this]
theorem PS(r:ah)(n:Int)(k:aZ):nf (rT r n) k=if n>256∨(r.body.length:Int)>12 then(66,r.at_) else if(tZ r:Int)>24 then(66,r.at_) else match r.body.find? pA with
  |some l=>(66,l.at)
  |none=>k:=by
 unfold nf rT;split
 .rfl
 split
 .rfl
 split
 .rfl
 .rfl
theorem Uk{r:ah}(h: ¬lX r.head=kw)(hb:r.body.find? iR=jp):Vj r.head∧ ∀k,k<r.body.length->Wm (r.body.getD k em):=by
 refine⟨E4 (by rw[<-E5];simpa using h),fun k b=>Qa ?_⟩;rw[aaz]at hb;have:=hb (r.body.getD k em) (by rw[Y6,Za b];exact ZQ b);simpa using this
theorem Pp(p:Prog)(r:ah)(n:Int):KF p r n=pG p r n:=by
 unfold KF pG yg;rw[ql (by decide),Ll];split
 .rfl
 rename_i b;cases h2:r.body.find? iR with
 |some l=>rfl
 |none=>
  obtain⟨d,j⟩:=Uk b h2;show nf (rT r n) _=_;rw[J0 d j,PS,ql (by decide),ql (by decide),ql (by decide),ql (by decide)];rfl
def lr(r:ah)(lit:Int):List ak:=if lit<0 then bn r.head else if(an r lit).kind=4 then b6 (aG (an r lit).agg) (an r lit).a8 else cq (an r lit)
def nT(r:ah)(lit:Int):List ak:=if lit<0 then[] else if(an r lit).kind=4 then mG r lit else[]
def A3(r:ah)(b:List ak)(x:ak):Bool:=!(if aH (outer r) x=kw then aH (kW r) x else aH b x)
def FT(r:ah)(lit:Int):Bool:=(lr r lit).any (A3 r (nT r lit))
theorem vj{t a:ak}{v:Int}: ∀{m:NM},t∈(cH .str m a v).map ZB↔t=a∨t∈m.map ZB
 | []=>by simp[cH]
 |(x,y)::r=>by
  show t∈(if x=a then(a,v)::r else(x,y)::cH .str r a v).map ZB↔_;split
  .rename_i h;subst h;simp
  .rw[Zr,Zq,vj,Zr,Zq];constructor
   .rintro(h|h|h)
    .exact .inr (.inl h)
    .exact .inl h
    .exact .inr (.inr h)
   .rintro(h|h|h)
    .exact .inr (.inl h)
    .exact .inl h
    .exact .inr (.inr h)
theorem DZ{x:ak}{r:ah}:x∈kW r↔x∈ch r:=by
 unfold kW tw;rw[yv];exact p4 (may:=fun b=>aU b) (more:=fun b=>jb (aA r) b) (I0 r) lW (FP (aA r)) (fun y=>by rw[um];simp) x
theorem Ld(k:List ak)(l:Lit):mD (aU k) (fun _=>lc) k l=if(fG lc [] k l).2=kw then io (fG lc [] k l).1 else jp:=by
 unfold mD fG;rw[be (c:=l.kind=4∧_) (fun h=>Bool.noConfusion h.2.2),be (c:=lc=kw∧_) (fun h=>Bool.noConfusion h.1),Dr]
theorem D7{x:ak}(o:List ak): ∀{l k:List ak},x∈l.foldl (fun k y=>if aH o y then b6 k y else k) k↔x∈k∨(x∈l∧x∈o)
 | [],k=>by simp
 |y::r,k=>by
  rw[ZD,D7 o];by_cases h:aH o y=kw
  .rw[am h,ct,Zq];constructor
   .rintro((g|g)|g)
    .exact .inl g
    .exact .inr ⟨.inl g,by rw[g];exact aM.1 h⟩
    .exact .inr ⟨.inr g.1,g.2⟩
   .rintro(g|⟨g|g,q⟩)
    .exact .inl (.inl g)
    .exact .inl (.inr g)
    .exact .inr ⟨g,q⟩
  .rw[be h,Zq];constructor
   .rintro(g|g)
    .exact .inl g
    .exact .inr ⟨.inr g.1,g.2⟩
   .rintro(g|⟨g|g,q⟩)
    .exact .inl g
    .subst g;exact absurd (aM.2 q) h
    .exact .inr ⟨g,q⟩
theorem sc{x:ak}{r:ah}{lit:Int}:x∈mG r lit↔x∈B4 r (an r lit).agg:=by
 unfold mG tw;rw[yv];refine p4 (may:=fun b=>aU b) (more:=fun _=>fun _=>lc) Ld lW (fun _ _ _ _ h=>h) (fun y=>?_) x;rw[um];have:y∈vA r lit↔y∈yq r (an r lit).agg:=by
  unfold vA yq;rw[D7,ZM,(cm _).2,fy,aM,jN];simp
 rw[this,Zm]
theorem ti{r:ah}{m:NM}:tk r m=kw↔ ∃x∈m.map ZB,x∉ch r:=by
 unfold tk;rw[ZZ];constructor
 .rintro⟨y,b,h⟩;exact⟨y.1,ZK.2 ⟨y,b,rfl⟩,fun g=>by rw[aM.2 g]at h;cases h⟩
 .rintro⟨x,hx,h⟩;obtain⟨y,b,rfl⟩:=ZK.1 hx;refine⟨y,b,?_⟩;cases hi:aH (ch r) y.1 with
  |true=>exact absurd (aM.1 hi) h
  |false=>rfl
theorem jQ{r:ah}{b:List ak}{x:ak}:A3 r b x=kw↔(x∈aA r∧x∉ch r)∨(x∉aA r∧x∉b):=by
 unfold A3;rw[aae];by_cases h:aH (outer r) x=kw
 .have d:x∈aA r:=jN.1 (aM.1 h);rw[am h,<-aaC,aM,DZ];exact⟨fun g=> .inl ⟨d,g⟩,fun g=>g.elim (fun q=>q.2) fun q=>absurd d q.1⟩
 .have d:x∉aA r:=fun g=>h (aM.2 (jN.2 g))
  rw[be h,<-aaC,aM];exact⟨fun g=> .inr ⟨d,g⟩,fun g=>g.elim (fun q=>absurd q.1 d) fun q=>q.2⟩
theorem o9{r:ah}{lit:Int}(h0: ¬lit<0)(h1:lit<r.body.length){x:ak}(b:x∈ff (an r lit)):x∈aA r:=by
 unfold aA;refine aaA _ (aa0.2 ⟨an r lit,?_,b⟩);have:lit.toNat<r.body.length:=by omega
 unfold an;rw[Y6,Za this];exact ZQ this
theorem Lk(r:ah)(lit:Int)(h1:lit<r.body.length):FT r lit=dN r lit:=by
 unfold FT dN lr nT;by_cases A:lit<0
 .rw[am A,am A,am A,ZW,ti,ZZ];constructor
  .rintro⟨x,b,g⟩;have u:x∈cL r.head:=fW.1 b;have F:x∈aA r:=by unfold aA;exact ZJ _ u
   refine⟨x,((cm _).2 x).2 u,?_⟩;rcases jQ.1 g with q|q
   .exact q.2
   .exact absurd F q.1
  .rintro⟨x,b,g⟩;have u:=((cm _).2 x).1 b;have F:x∈aA r:=by unfold aA;exact ZJ _ u
   exact⟨x,fW.2 u,jQ.2 (.inl ⟨F,g⟩)⟩
 rw[be A,be A,be A];by_cases D:(an r lit).kind=4
 .rw[am D,am D,am D,ZW,aas,ti,ZZ,ZZ];have G:(an r lit).a8∈aA r:=o9 A h1 (by unfold ff;rw[am D];exact aaA _ Zo);have d: ∀x,x∈(lR r (an r lit).agg).map ZB↔x∈bd (an r lit).agg∧x∉aA r:=fun x=>by
   unfold lR;rw[<-(cm (bd (an r lit).agg)).2 x,ZK,ZK];constructor
   .rintro⟨y,B,rfl⟩;obtain⟨g1,g2⟩:=ZM.1 B;exact⟨⟨y,g1,rfl⟩,fun g=>by rw[aM.2 g]at g2;cases g2⟩
   .rintro⟨⟨y,g1,rfl⟩,g2⟩;refine⟨y,ZM.2 ⟨g1,?_⟩,rfl⟩;cases hi:aH (aA r) y.1 with
    |true=>exact absurd (aM.1 hi) g2
    |false=>rfl
  have j: ∀x,x∈(mJ r (an r lit).agg).map ZB↔x∈bd (an r lit).agg∧x∈aA r:=fun x=>by
   unfold mJ;constructor
   .intro b;obtain⟨y,B,rfl⟩:=ZK.1 b;obtain⟨g1,g2⟩:=ZM.1 B;have S:=((cm (bd (an r lit).agg)).2 y.1).1 (ZK.2 ⟨y,g1,rfl⟩);refine⟨S,aao fun hc=>?_⟩;rw[aM.2 ((d y.1).2 ⟨S,hc⟩)]at g2;cases g2
   .rintro⟨g1,g2⟩;obtain⟨y,B,rfl⟩:=ZK.1 (((cm (bd (an r lit).agg)).2 x).2 g1);refine ZK.2 ⟨y,ZM.2 ⟨B,?_⟩,rfl⟩;cases hi:aH ((lR r (an r lit).agg).map (·.1)) y.1 with
    |true=>exact absurd g2 ((d y.1).1 (aM.1 hi)).2
    |false=>rfl
  constructor
  .rintro⟨x,b,g⟩;rcases jQ.1 g with⟨I,J⟩|⟨I,J⟩
   .refine .inr ⟨x,?_,J⟩;unfold bump;rw[vj,j];rcases ct.1 b with e|e
    .exact .inr ⟨fy.1 e,I⟩
    .exact .inl e
   .rcases ct.1 b with e|e
    .obtain⟨y,B,rfl⟩:=ZK.1 ((d x).2 ⟨fy.1 e,I⟩);refine .inl ⟨y,B,?_⟩;cases hi:aH (B4 r (an r lit).agg) y.1 with
     |true=>exact absurd (sc.2 (aM.1 hi)) J
     |false=>rfl
    .rw[e]at I;exact absurd G I
  .rintro(⟨y,B,g⟩|⟨x,b,g⟩)
   .obtain⟨g1,g2⟩:=(d y.1).1 (ZK.2 ⟨y,B,rfl⟩);refine⟨y.1,ct.2 (.inl (fy.2 g1)),jQ.2 (.inr ⟨g2,fun q=>?_⟩)⟩;rw[aM.2 (sc.1 q)]at g;cases g
   .unfold bump at b;rw[vj,j]at b;rcases b with e|⟨Y,e2⟩
    .exact⟨x,ct.2 (.inr e),jQ.2 (.inl ⟨by rw[e];exact G,g⟩)⟩
    .exact⟨x,ct.2 (.inl (fy.2 Y)),jQ.2 (.inl ⟨e2,g⟩)⟩
 .rw[be D,be D,be D,ZW,ti,ZZ];constructor
  .rintro⟨x,b,g⟩;have u:=jc.1 b;have F:=o9 A h1 (x:=x) (by unfold ff;exact ZJ _ u);refine⟨x,((cm _).2 x).2 u,?_⟩;rcases jQ.1 g with q|q
   .exact q.2
   .exact absurd F q.1
  .rintro⟨x,b,g⟩;have u:=((cm _).2 x).1 b;have F:=o9 A h1 (x:=x) (by unfold ff;exact ZJ _ u);exact⟨x,jc.2 u,jQ.2 (.inl ⟨F,g⟩)⟩
theorem Ce: ∀{l:List aN} {u:aN} {i:Nat},i<l.length->l.getD i em=u->(∀j,j<i-> ¬l.getD j em=u)->zw l u=i
 | [],_,i,h,_,_=>absurd h (aaj i)
 |a::r,u,0,_,h,_=>am h
 |a::r,u,i+1,hi,h,hJ=>by
  have b: ¬a=u:=hJ 0 (Nat.succ_pos i);unfold zw;rw[be b,Ce (i:=i) (by simpa using hi) h fun j d=>hJ (j+1) (by omega)]
theorem yn: ∀{l:List aN} {u:aN},(∀j,j<l.length-> ¬l.getD j em=u)->zw l u=l.length
 | [],_,_=>rfl
 |a::r,u,hJ=>by
  have b: ¬a=u:=hJ 0 (by simp);unfold zw;rw[be b,yn (l:=r) fun j d=>hJ (j+1) (by simpa using d)];rfl
theorem Km(r:ah)(s:ak)(w:Int):bh r s w=(s,if aH (outer r) s=kw then-1 else w):=by
 unfold bh;rw[bz];by_cases h:s∈aA r
 .rw[am (by have:=oH.2 h;omega),am (aM.2 (jN.2 h))]
 .rw[be (by have:=rJ.2 h;omega),be fun g=>h (jN.1 (aM.1 g))]
theorem Ej{A:AK}{u:aN}{i:Nat}(h:zw A.items u=i)(hi:i<A.items.length):A.item u=A:=am (by omega)
theorem Ek{A:AK}{u:aN}(h:zw A.items u=A.items.length):A.item u=⟨A.items++ [u],A.root++ [(A.root.length:Int)],A.l⟩:=be (by omega)
theorem d131(r:ah)(A:AK)(k:Ask)(hb:A.l.length+1<=1000000000):bW prog 255 [.ptr 0 0,pI k.place,pI k.item,pI k.type,pI k.qy] (A.O (outer r)) (.bQ []) ((A.ask k).H (outer r)) 7:=by
 refine aB ab func255 Z (by decide) ntmps255 Z (by simp) ?_;refine zJ Z Z (fun g1=>?_) fun g1=>?_
 .have g1: ¬k.type=1:=zF g1;refine zJ Z Z (fun g2=>?_) fun g2=>?_
  .have g2:k.type=2:=zT g2;rw[show A.ask k=⟨A.items,A.root,A.l++ [k]⟩ from am (.inr g2)];refine gA Z uR
  .have g2: ¬k.type=2:=zF g2;rw[show A.ask k=A from be (by rintro(h|h);exact g1 h;exact g2 h)];refine gA Z uR
 .have g1:k.type=1:=zT g1;rw[show A.ask k=⟨A.items,A.root,A.l++ [k]⟩ from am (.inl g1)];refine gA Z uR
theorem ry{l:List aN}{u:aN}{i:Nat}(b: ∀j,j<i-> ¬l.getD j em=u)(h: ¬l.getD i em=u): ∀j,j<i+1-> ¬l.getD j em=u:=fun j d=>by
 rcases ZS.1 d with q|q
 .exact b j q
 .subst q;exact h
theorem AK.Cc{A:AK}{u:aN}{i:Nat}(h:zw A.items u=i):A.ix u=(i:Int):=by unfold AK.ix;rw[h]
abbrev AK.at4(A:AK)(o:List ak):AH:=[(0,io (AK.cell o 4 5 6 A.items.length A.root.length A.l.length)),(4,io (aE 2 A.items aN.c)),(5,io (aE 1 A.root aY)),(6,io (aE 4 A.l Ask.c))]
theorem d46(r:ah)(A:AK)(s:ak)(w:Int)(hf:A.fit 1):bW prog 254 [.ptr 0 0,pS s,pI w] (A.O (outer r)) (pI (A.ix (bh r s w))) ((A.item (bh r s w)).H (outer r)) 7:=by
 obtain⟨⟨y,B⟩,D,F⟩:=hf;have hu:=Km r s w;refine aB ab func254 Z (by decide) ntmps254 Z (by simp) ?_;refine gA Z (zp (JB (outer r) s) ?_);refine zJ Z Z (fun g=>?_) fun g=>?_
 .have g:aH (outer r) s=kw:=g;rw[am g]at hu;rw[hu];refine gA Z ?_;refine aw 0 A.items.length (Zf _) (fun i=>⟨[(0,.ptr 0 0),(1,pS s),(2,pI (-1)),(8,pI i)],A.at4 (outer r),7⟩) (fun i=> ∀j,j<i-> ¬A.items.getD j em=(s,(-1))) _ (fun j x=>absurd x (aaj j))
   (Nq (A:=A) Z Z Z Z Z Z Z Z Z Z Z Z Z Z Z (bv (bv (bv (bv trivial))))) fun i G d=>?_
  refine zJ Z Z (fun b=>?_) fun b=>?_
  .have b:i<A.items.length:=zN b;refine gM 12 Z (bB ab Z Z Z Z Z (jj b) Z Z ?_);refine zJ Z Z (fun g1=>?_) fun g1=>?_
   .have g1:(A.items.getD i em).1=s:=zT g1;refine gM 14 Z (bB ab Z Z Z Z Z (jj b) Z Z ?_);refine zJ Z Z (fun g2=>?_) fun g2=>?_
    .have g2:(A.items.getD i em).2=(-1):=zT g2;have e:=Ce b (Prod.ext g1 g2) d;rw[Ej e b,AK.Cc e];refine gA Z uR
    .have g2: ¬(A.items.getD i em).2=(-1):=zF g2;refine gA Z ⟨b,ry d (fun e=>g2 (by rw[e])),_,Nq (rfl) Z Z Z Z (by first|rfl|(rw[Y8];rfl)|simp) (by first|rfl|(rw[Y8];rfl)|simp) (by first|rfl|(rw[Y8];rfl)|simp) (by first|rfl|(rw[Ze];rfl)|(simp only[Ze,Zj];rfl)) (by first|rfl|(rw[Ze];rfl)|(simp only[Ze,Zj];rfl)) (by first|rfl|(rw[Ze];rfl)|(simp only[Ze,Zj];rfl)) Z Z Z Z (bv (bv (bv (bv ac))))⟩
   .have g1: ¬(A.items.getD i em).1=s:=zF g1;refine gA Z ⟨b,ry d (fun e=>g1 (by rw[e])),_,Nq (rfl) Z Z Z Z (by first|rfl|(rw[Y8];rfl)|simp) (by first|rfl|(rw[Y8];rfl)|simp) (by first|rfl|(rw[Y8];rfl)|simp) (by first|rfl|(rw[Ze];rfl)|(simp only[Ze,Zj];rfl)) (by first|rfl|(rw[Ze];rfl)|(simp only[Ze,Zj];rfl)) (by first|rfl|(rw[Ze];rfl)|(simp only[Ze,Zj];rfl)) Z Z Z Z (bv (bv (bv (bv ac))))⟩
  .have b:A.items.length<=i:=zG b;have e:zw A.items (s,(-1))=A.items.length:=yn fun j x=>d j (by omega);have u:((A.items.length:Int)+1-1)=A.ix (s,(-1)):=by rw[AK.Cc e];omega
   rw[Ek e,<-u];refine gA Z uR
 .have g:aH (outer r) s=lc:=by simpa using g
  rw[be (by rw[g];decide)]at hu;rw[hu];refine gA Z ?_;refine aw 0 A.items.length (Zf _) (fun i=>⟨[(0,.ptr 0 0),(1,pS s),(2,pI w),(8,pI i)],A.at4 (outer r),7⟩) (fun i=> ∀j,j<i-> ¬A.items.getD j em=(s,w)) _ (fun j x=>absurd x (aaj j))
   (Nq (A:=A) Z Z Z Z Z Z Z Z Z Z Z Z Z Z Z (bv (bv (bv (bv trivial))))) fun i G d=>?_
  refine zJ Z Z (fun b=>?_) fun b=>?_
  .have b:i<A.items.length:=zN b;refine gM 12 Z (bB ab Z Z Z Z Z (jj b) Z Z ?_);refine zJ Z Z (fun g1=>?_) fun g1=>?_
   .have g1:(A.items.getD i em).1=s:=zT g1;refine gM 14 Z (bB ab Z Z Z Z Z (jj b) Z Z ?_);refine zJ Z Z (fun g2=>?_) fun g2=>?_
    .have g2:(A.items.getD i em).2=w:=zT g2;have e:=Ce b (Prod.ext g1 g2) d;rw[Ej e b,AK.Cc e];refine gA Z uR
    .have g2: ¬(A.items.getD i em).2=w:=zF g2;refine gA Z ⟨b,ry d (fun e=>g2 (by rw[e])),_,Nq (rfl) Z Z Z Z (by first|rfl|(rw[Y8];rfl)|simp) (by first|rfl|(rw[Y8];rfl)|simp) (by first|rfl|(rw[Y8];rfl)|simp) (by first|rfl|(rw[Ze];rfl)|(simp only[Ze,Zj];rfl)) (by first|rfl|(rw[Ze];rfl)|(simp only[Ze,Zj];rfl)) (by first|rfl|(rw[Ze];rfl)|(simp only[Ze,Zj];rfl)) Z Z Z Z (bv (bv (bv (bv ac))))⟩
   .have g1: ¬(A.items.getD i em).1=s:=zF g1;refine gA Z ⟨b,ry d (fun e=>g1 (by rw[e])),_,Nq (rfl) Z Z Z Z (by first|rfl|(rw[Y8];rfl)|simp) (by first|rfl|(rw[Y8];rfl)|simp) (by first|rfl|(rw[Y8];rfl)|simp) (by first|rfl|(rw[Ze];rfl)|(simp only[Ze,Zj];rfl)) (by first|rfl|(rw[Ze];rfl)|(simp only[Ze,Zj];rfl)) (by first|rfl|(rw[Ze];rfl)|(simp only[Ze,Zj];rfl)) Z Z Z Z (bv (bv (bv (bv ac))))⟩
  .have b:A.items.length<=i:=zG b;have e:zw A.items (s,w)=A.items.length:=yn fun j x=>d j (by omega);have u:((A.items.length:Int)+1-1)=A.ix (s,w):=by rw[AK.Cc e];omega
   rw[Ek e,<-u];refine gA Z uR
def lq(a b:Int)(l:List Int)(i:Nat):List Int:=((l.take i).map fun z=>if z=a then b else z)++l.drop i
theorem xz(a b:Int)(l:List Int)(i:Nat):(lq a b l i).length=l.length:=by
 unfold lq;rw[Y8,ZE,ZP,List.length_drop];omega
theorem C7{a b:Int}{l:List Int}{i:Nat}(h:i<l.length):(lq a b l i).getD i em=l.getD i em:=by
 unfold lq;have d:((l.take i).map fun z=>if z=a then b else z).length=i:=by rw[ZE,ZP];omega
 rw[Y6,Zv (by omega),d,aca,aap,Y6];rfl
theorem Ab{a b:Int}{l:List Int}{i:Nat}(h:i<l.length):lq a b l (i+1)=(lq a b l i).set i (if l.getD i em=a then b else l.getD i em):=by
 unfold lq;have d:((l.take i).map fun z=>if z=a then b else z).length=i:=by rw[ZE,ZP];omega
 rw[ba h,Ze,List.set_append_right _ _ (by omega),d,aca,abN h,List.set_cons_zero,Zj,Y6,Za h];rfl
theorem Ik{a b:Int}{l:List Int}{i:Nat}(h:i<l.length)(hn: ¬l.getD i em=a):lq a b l (i+1)=lq a b l i:=by
 rw[Ab h,be hn,<-C7 (a:=a) (b:=b) h];refine aaU fun j=>?_;rw[ZV];split
 .rename_i e;subst e;have d:i<(lq a b l i).length:=by rw[xz];exact h
  rw[am d,Y6,Za d];rfl
 .rfl
theorem Ij(a b:Int)(l:List Int):lq a b l 0=l:=by simp[lq]
theorem J6{a b:Int}{l:List Int}{i:Nat}(h:l.length<=i):lq a b l i=l.map fun z=>if z=a then b else z:=by
 unfold lq;rw[Zh h,abx h,ZL]
theorem O5{l:List Int}{i:Nat}{v:Int}:(l.map fun x=>(aY x).map PV.iv).set (0+i) ([PV.iv (iI v)])=(l.set i v).map fun x=>(aY x).map PV.iv:=by
 rw[Zu,aaR];rfl
theorem Dw{l:List Int}{i:Int}(h:i.toNat<l.length):(l.map fun x=>(aY x).map PV.iv)[0+i.toNat]? =io ((aY (l.getD i.toNat em)).map .iv):=jj h
abbrev AK.YW(A:AK)(R:List Int)(o:List ak):AH:=[(0,io (AK.cell o 4 5 6 A.items.length R.length A.l.length)),(4,io (aE 2 A.items aN.c)),(5,io (aE 1 R aY)),(6,io (aE 4 A.l Ask.c))]
theorem d168(r:ah)(A:AK)(x y:Int)(a0:0<=x)(b0:0<=y)(hx:x<A.root.length)(hy:y<A.root.length)(hb:A.root.length<=1000000000):bW prog 271 [.ptr 0 0,pI x,pI y] (A.O (outer r)) (.bQ []) ((A.tie x y).H (outer r)) 7:=by
 have G:x.toNat<A.root.length:=by omega
 have I:y.toNat<A.root.length:=by omega
 refine aB ab func271 Z (by decide) ntmps271 Z (by simp) ?_;refine gM 8 Z (bB ab Z Z Z Z Z (Dw G) Z Z ?_);refine gM 10 Z (bB ab Z Z Z Z Z (Dw I) Z Z ?_);refine gA Z ?_;refine aw 0 A.root.length (Zf _) (fun i=>⟨[(0,.ptr 0 0),(6,pI (A.rt x)),(7,pI (A.rt y)),(8,pI i)],A.YW (lq (A.rt x) (A.rt y) A.root i) (outer r),7⟩) (fun _=>True) _ ac
  (Nq (A:=A) (A':=⟨A.items,lq (A.rt x) (A.rt y) A.root 0,A.l⟩) (by rw[Ij]) Z Z Z Z Z Z Z Z Z Z Z Z Z Z (bv (bv (bv (bv trivial))))) fun i hi _=>?_
 have B:=xz (A.rt x) (A.rt y) A.root i;refine zJ Z Z (fun d=>?_) fun d=>?_
 .have d:i<A.root.length:=by
   have:=zT (show li ((i:Int)<((lq (A.rt x) (A.rt y) A.root i).length:Int))=kw from d);omega
  have J:=C7 (a:=A.rt x) (b:=A.rt y) d;have D:i<(lq (A.rt x) (A.rt y) A.root i).length:=by omega
  have S:=Ab (a:=A.rt x) (b:=A.rt y) d;have Y:=Ik (a:=A.rt x) (b:=A.rt y) d;have u:=xz (A.rt x) (A.rt y) A.root (i+1);have j:=O5 (l:=lq (A.rt x) (A.rt y) A.root i) (i:=i) (v:=A.rt y);refine gM 11 Z (bB ab Z Z Z Z Z (jj D) Z Z ?_);refine zJ Z Z (fun g1=>?_) fun g1=>?_
  .have g1:A.root.getD i em=A.rt x:=by rw[<-J];exact zT g1
   rw[am g1]at S;rw[<-S]at j;refine gA Z (Et ab Z Z Z Z Z (i:=5) (sz:=1) (q:=0+i) (off:=0) (es:=(lq (A.rt x) (A.rt y) A.root i).map fun x=>(aY x).map PV.iv) Z Z (jj D) Z Z Z Z Z ?_);refine gA Z ⟨d,ac,_,Nq (A:=⟨A.items,lq (A.rt x) (A.rt y) A.root (i+1),A.l⟩) Z Z Z Z Z Z (by rw[B,u]) Z Z j Z Z Z Z Z (bv (bv (bv (bv ac))))⟩
  .have g1: ¬A.root.getD i em=A.rt x:=by rw[<-J];exact zF g1
   have F:AK.mk A.items (lq (A.rt x) (A.rt y) A.root i) A.l=⟨A.items,lq (A.rt x) (A.rt y) A.root (i+1),A.l⟩:=congrArg (fun q=>AK.mk A.items q A.l) (Y g1).symm;refine gA Z ⟨d,ac,_,Nq (F) Z Z Z Z (by first|rfl|(rw[Y8];rfl)|simp) (by first|rfl|(rw[Y8];rfl)|simp) (by first|rfl|(rw[Y8];rfl)|simp) (by first|rfl|(rw[Ze];rfl)|(simp only[Ze,Zj];rfl)) (by first|rfl|(rw[Ze];rfl)|(simp only[Ze,Zj];rfl)) (by first|rfl|(rw[Ze];rfl)|(simp only[Ze,Zj];rfl)) Z Z Z Z (bv (bv (bv (bv ac))))⟩
 .have d:A.root.length<=i:=by
   have:=zF (show li ((i:Int)<((lq (A.rt x) (A.rt y) A.root i).length:Int))=lc from d);omega
  have e:A.tie x y=⟨A.items,lq (A.rt x) (A.rt y) A.root i,A.l⟩:=by
   unfold AK.tie;rw[J6 d]
  rw[e];refine gA Z uR
theorem W8(e:Expr):Pure prog 270 [ag e.c] (pI (ck e)):=by
 refine ae ab func270 Z (by decide) ntmps270 Z (by simp) Z ?_
 repeat' (first|(refine gA Z (zI (fun _=>?_) (fun _=>?_)))|(refine gA Z (zL (.of_eq ?_))))
 all_goals(refine congrArg pI ?_;simp_all [ck])
theorem HT(r:ah)(A:AK)(b:Int)(s:ak)(w d:Int)(hf:A.fit 1):bW prog 255 [.ptr 0 0,pI b,pI (A.ix (bh r s w)),pI d,pI 0] ((A.item (bh r s w)).O (outer r)) (.bQ []) ((A.want b (bh r s w) d).H (outer r)) 7:=
 d131 r (A.item (bh r s w)) ⟨b,A.ix (bh r s w),d,0⟩ (by rw[Lz];exact hf.2.2)
theorem Mx(r:ah)(A:AK)(b d j:Int)(hf:A.fit 1):bW prog 255 [.ptr 0 0,pI b,pI (-1),pI d,pI j] (A.O (outer r)) (.bQ []) ((A.ask ⟨b, -1,d,j⟩).H (outer r)) 7:=
 d131 r A ⟨b, -1,d,j⟩ hf.2.2
def Rb(r:ah)(n:Nat):Prop:= ∀(A:AK) (e:Expr) (lit w:Int),e.size<=n->A.fit (Expr.az e.args)->bW prog 257 [.ptr 0 0,ag e.c,pI lit,pI w] (A.O (outer r)) (.bQ []) ((lS r lit w e A).H (outer r)) 7
def Vb(r:ah)(n:Nat):Prop:= ∀(A:AK) (e:Expr) (lit w:Int),e.size<=n->A.fit e.size->bW prog 256 [.ptr 0 0,ag e.c,pI lit,pI w] (A.O (outer r)) (.bQ []) ((gL r lit w e A).H (outer r)) 7
theorem d132(r:ah)(n:Nat)(y:Rb r n):Vb r n:=by
 intro A e lit w x B;have D:=e.size_eq;rw[w9];have j:A.fit 1:=B.le (by omega);have b:(mH r lit w e A).fit (Expr.az e.args):=B.step (Hz r lit w e A) (by omega);refine aB ab func256 Z (by decide) ntmps256 Z (by simp) ?_;refine zJ Z Z (fun k1=>?_) fun k1=>?_
 .have k1:e.kind=1:=zT k1;have u:mH r lit w e A=A.want lit (bh r e.var w) 1:=am k1;rw[u]at b ⊢;refine gA Z (rU (d46 r A e.var w j) ?_);refine gA Z (rU (HT r A lit e.var w 1 j) ?_);refine zJ Z Z (fun d=>?_) fun d=>?_
  .have d:e.kind=2:=zT d;omega
  refine gA Z (rU (y _ e lit w x b) ?_);refine gA Z uR
 have k1: ¬e.kind=1:=zF k1;refine zJ Z Z (fun d=>?_) fun d=>?_
 .have d:e.kind=2:=zT d;have u:mH r lit w e A=A.ask ⟨lit, -1,1,e.val.kind⟩:=by unfold mH;rw[be k1,am d]
  rw[u]at b ⊢;refine gA Z (rU (Mx r A lit 1 e.val.kind j) ?_);refine gA Z (rU (y _ e lit w x b) ?_);refine gA Z uR
 .have d: ¬e.kind=2:=zF d;have u:mH r lit w e A=A:=by unfold mH;rw[be k1,be d]
  rw[u]at b ⊢;refine gA Z (rU (y A e lit w x b) ?_);refine gA Z uR
theorem Jl{r:ah}{lit w:Int}{l:List Expr}{i:Nat}{A:AK}(h:i<l.length):(l.take (i+1)).foldl (fun A x=>gL r lit w x A) A=gL r lit w (l.getD i em) ((l.take i).foldl (fun A x=>gL r lit w x A) A):=by
 rw[ba h,aaE];rfl
theorem vR: ∀(l:List Expr) (i:Nat),i<l.length->Expr.az (l.take i)+(l.getD i em).size<=Expr.az l
 | [],i,h=>by simp at h
 |s::r,0,_=>by simp[Expr.az]
 |s::r,i+1,h=>by
  have:=vR r i (by simpa using h);simp only[aau,aav,Expr.az];omega
theorem d133(r:ah)(n:Nat)(S:Vb r n):Rb r (n+1):=by
 intro A e lit w hs B;have J:=e.size_eq;refine bW.le (args:=[.ptr 0 0,ag e.c1,pI lit,pI w]) ?_ ⟨.refl _,e.xd,.refl _,.refl _,ac⟩;have F:=Expr.au e.args;have G:=B.2.1;refine aB ab func257 Z (by decide) ntmps257 Z (by simp) ?_;refine zJ Z Z (fun k=>?_) fun k=>?_
 .have k: ¬e.kind=4:=by simpa using k
  have u:lS r lit w e A=A:=be k;rw[u];refine gA Z uR
 have k:e.kind=4:=by simpa using k
 have u:lS r lit w e A=e.args.foldl (fun A x=>gL r lit w x A) A:=am k;rw[u];refine gA Z ?_;have D: ∀i,i<=e.args.length->Gr (Expr.az (e.args.take i)) A ((e.args.take i).foldl (fun A x=>gL r lit w x A) A):=fun i _=>LU r lit w e.args i A
 refine aw 0 e.args.length (Zf _) (fun i=>⟨[(0,.ptr 0 0),(2,pI lit),(3,pI w),(5,.ptr 4 0),(8,pI i)],AK.st ((e.args.take i).foldl (fun A x=>gL r lit w x A) A) (outer r) 0 5 [(4,io (aj e.c1))],8⟩) (fun _=>True) _ ac
  (S6 (A:=A) Z Z Z Z Z Z Z Z Z Z Z Z Z Z Z (bv (bv (bv (bv (bv trivial))))) (zK trivial) Z) fun i I _=>?_
 refine zJ Z Z (fun d=>?_) fun d=>?_
 .have d:i<e.args.length:=zN d;have y:=Jl (r:=r) (lit:=lit) (w:=w) (A:=A) d;have hn:=vR e.args i d;have Y:=Expr.aF e.args i d;have j:=B.step (b:=(e.args.getD i em).size) (D i I) (by omega);refine gA Z (rU (S _ (e.args.getD i em) lit w (by omega) j) ?_);refine gA Z ⟨d,ac,_,Bu (y.symm) (zK ac)⟩
 .have d:e.args.length<=i:=zG d;rw[Zh d];refine gA Z uR
theorem vo(r:ah): ∀n,Vb r n∧Rb r n
 |0=>by
  have b:Rb r 0:=fun A e lit w j=>by have:=e.size_pos;omega
  exact⟨d132 r 0 b,b⟩
 |n+1=>by
  have d:=d133 r n (vo r n).1;exact⟨d132 r (n+1) d,d⟩
theorem EN(r:ah)(A:AK)(e:Expr)(lit w:Int)(hf:A.fit e.size):bW prog 256 [.ptr 0 0,ag e.c,pI lit,pI w] (A.O (outer r)) (.bQ []) ((gL r lit w e A).H (outer r)) 7:=(vo r e.size).1 A e lit w (Zc _) hf
theorem EM(r:ah)(A:AK)(e:Expr)(lit w:Int)(hf:A.fit e.size):bW prog 257 [.ptr 0 0,ag e.c,pI lit,pI w] (A.O (outer r)) (.bQ []) ((lS r lit w e A).H (outer r)) 7:=(vo r e.size).2 A e lit w (Zc _) (hf.le (by have:=e.size_eq;omega))
theorem Ly(A:AK)(u:aN):0<=A.ix u:=by unfold AK.ix;omega
theorem d134(r:ah)(A:AK)(x y:Expr)(lit w:Int)(hf:A.fit 2):bW prog 258 [.ptr 0 0,ag x.c,ag y.c,pI lit,pI w] (A.O (outer r)) (.bQ []) ((lC r lit w x y A).H (outer r)) 7:=by
 have b:A.fit 1:=hf.le (by omega);have D:lC r lit w x y A=if ck x=0 then(if ck y=0 then((A.item (bh r x.var w)).item (bh r y.var w)).tie (A.ix (bh r x.var w)) ((A.item (bh r x.var w)).ix (bh r y.var w)) else A.want lit (bh r x.var w) (ck y))
  else if ck y=0 then A.want lit (bh r y.var w) (ck x) else A.ask ⟨lit, -1,ck x,ck y⟩:=rfl
 rw[D];refine aB ab func258 Z (by decide) ntmps258 Z (by simp) ?_;refine gA Z (zp (W8 x) ?_);refine gA Z (zp (W8 y) ?_);refine zJ Z Z (fun g1=>?_) fun g1=>?_
 .have g1:ck x=0:=zT g1;rw[am g1];refine zJ Z Z (fun g2=>?_) fun g2=>?_
  .have g2:ck y=0:=zT g2;rw[am g2];have u:=uy A (bh r x.var w);have B:=uy (A.item (bh r x.var w)) (bh r y.var w);have j:(A.item (bh r x.var w)).fit 1:=hf.step u (by omega);have d:=B.ok (u.ok hf.1);have J:=Cf A (bh r x.var w);have S:=Cf (A.item (bh r x.var w)) (bh r y.var w);have G:=Ly A (bh r x.var w);have I:=Ly (A.item (bh r x.var w)) (bh r y.var w);have m2:=B.mn;have m3:=u.it;have m4:=B.it;have F:=hf.2.1;refine gA Z (rU (d46 r A x.var w b) ?_);refine gA Z (rU (d46 r _ y.var w j) ?_);refine gA Z (rU (d168 r _ (A.ix (bh r x.var w)) ((A.item (bh r x.var w)).ix (bh r y.var w)) G I (by rw[d.1];omega) (by rw[d.1];omega) (by rw[d.1];omega)) ?_);refine gA Z uR
  .have g2: ¬ck y=0:=zF g2;rw[be g2];refine zJ Z Z (fun g3=>?_) fun g3=>?_
   .refine gA Z (rU (d46 r A x.var w b) ?_);refine gA Z (rU (HT r A lit x.var w (ck y) b) ?_);refine gA Z uR
   .exact absurd g1 (zF g3)
 .have g1: ¬ck x=0:=zF g1;rw[be g1];refine zJ Z Z (fun g3=>?_) fun g3=>?_
  .exact absurd (zT g3) g1
  refine zJ Z Z (fun g2=>?_) fun g2=>?_
  .have g2:ck y=0:=zT g2;rw[am g2];refine gA Z (rU (d46 r A y.var w b) ?_);refine gA Z (rU (HT r A lit y.var w (ck x) b) ?_);refine gA Z uR
  .have g2: ¬ck y=0:=zF g2;rw[be g2];refine gA Z (rU (Mx r A lit (ck x) (ck y) b) ?_);refine gA Z uR
theorem yY{p:Prog}{r:ah}{a:Atom}{lit w:Int}{A:AK}{i:Nat}(h:(iy p a.rel).types.length<=i): ∀k,fP p r a lit w A (i+k)=fP p r a lit w A i
 |0=>rfl
 |k+1=>by
  rw[<-aaI,fP,yY h k];unfold kj;rw[be (by omega)]
set_option maxHeartbeats 1000000 in
theorem d85(p:Prog)(r:ah)(A:AK)(a:Atom)(lit w:Int)(hp:p.aD.length<=1000000000)(hf:A.fit a.ad.length):bW prog 239 [.ptr 0 0,ag p.c,ag a.c,pI lit,pI w] (A.O (outer r)) (.bQ []) ((fP p r a lit w A a.ad.length).H (outer r)) 7:=by
 have D:=hf.2.1;refine aB ab func239 Z (by decide) ntmps239 Z (by simp) ?_;refine gA Z (zp (X7 p a.rel (by omega)) ?_);refine gA Z ?_;refine aw 0 a.ad.length (Zf _) (fun i=>⟨[(0,.ptr 0 0),(3,pI lit),(4,pI w),(7,.ptr 5 0),(10,.ptr 6 0),(12,pI i)],AK.st (fP p r a lit w A i) (outer r) 0 7 [(5,io (aj a.c)),(6,io (aj (iy p a.rel).c))],10⟩) (fun _=>True) _ ac
  (S6 (A:=A) Z Z Z Z Z Z Z Z Z Z Z Z Z Z Z (bv (bv (bv (bv (bv (bv trivial)))))) (zK (zK trivial)) Z) fun i F _=>?_
 refine zE Z Z (fun d=>?_) fun d=>?_
 .have d:a.ad.length<=i:=zG d;have:i=a.ad.length:=by omega
  subst this;refine gA Z uR
 have d:i<a.ad.length:=zN d;refine zE Z Z (fun u=>?_) fun u=>?_
 .have u:(iy p a.rel).types.length<=i:=zG u;have e:fP p r a lit w A a.ad.length=fP p r a lit w A i:=by
   have:=yY (r:=r) (lit:=lit) (w:=w) (A:=A) u (a.ad.length-i);rwa[show i+(a.ad.length-i)=a.ad.length by omega]at this
  rw[e];refine gA Z uR
 have u:i<(iy p a.rel).types.length:=zN u;have j:fP p r a lit w A (i+1)=kj p r a lit w i (fP p r a lit w A i):=rfl
 have y:kj p r a lit w i (fP p r a lit w A i)=(if(a.ad.getD i em).kind=1 then(fP p r a lit w A i).want lit (bh r (a.ad.getD i em).var w) (typeAt p a i)
  else if(a.ad.getD i em).kind=2 then(fP p r a lit w A i).ask ⟨lit, -1,typeAt p a i,(a.ad.getD i em).val.kind⟩ else fP p r a lit w A i):=am u
 rw[y]at j;have x:(fP p r a lit w A i).fit 1:=hf.step (xf p r a lit w A i) (by omega);generalize fP p r a lit w A i=B at*
 refine zJ Z Z (fun k1=>?_) fun k1=>?_
 .have k1:(a.ad.getD i em).kind=1:=zT k1;rw[am k1]at j;refine gA Z (rU (d46 r B (a.ad.getD i em).var w x) ?_);refine gA Z (rU (HT r B lit (a.ad.getD i em).var w (typeAt p a i) x) ?_);refine zJ Z Z (fun b=>?_) fun b=>?_
  .have b:(a.ad.getD i em).kind=2:=zT b;omega
  refine gA Z ⟨d,ac,_,Bu (j.symm) (zK (zK ac))⟩
 have k1: ¬(a.ad.getD i em).kind=1:=zF k1;rw[be k1]at j;refine zJ Z Z (fun b=>?_) fun b=>?_
 .have b:(a.ad.getD i em).kind=2:=zT b;rw[am b]at j;refine gA Z (Jj (Mx r B lit (typeAt p a i) (a.ad.getD i em).val.kind x) ?_);refine gA Z ⟨d,ac,_,Bu (j.symm) (zK (zK ac))⟩
 .have b: ¬(a.ad.getD i em).kind=2:=zF b;rw[be b]at j;refine gA Z ⟨d,ac,_,Bu (j.symm) (zK (zK ac))⟩
theorem d87(p:Prog)(r:ah)(A:AK)(l:Lit)(lit w:Int)(hp:p.aD.length<=1000000000)(hf:A.fit l.size):bW prog 241 [.ptr 0 0,ag p.c,ag l.c,pI lit,pI w] (A.O (outer r)) (.bQ []) ((lG p r lit w l A).H (outer r)) 7:=by
 have u:=l.size_eq;have x:=l.left.size_eq;have y:=l.right.size_eq;refine aB ab func241 Z (by decide) ntmps241 Z (by simp) ?_;refine zJ Z Z (fun k1=>?_) fun k1=>?_
 .have k1:l.kind=1:=zT k1;have j:lG p r lit w l A=fP p r l.atom lit w A l.atom.ad.length:=am (.inl k1);rw[j];refine gA Z (rU (d85 p r A l.atom lit w hp (hf.le (by omega))) ?_);refine gA Z uR
 have k1: ¬l.kind=1:=zF k1;refine zJ Z Z (fun b=>?_) fun b=>?_
 .have b:l.kind=2:=zT b;have j:lG p r lit w l A=fP p r l.atom lit w A l.atom.ad.length:=am (.inr b);rw[j];refine gA Z (rU (d85 p r A l.atom lit w hp (hf.le (by omega))) ?_);refine gA Z uR
 have b: ¬l.kind=2:=zF b;have j:lG p r lit w l A=if l.kind=3 then(if l.op=1∨l.op=2 then lC r lit w l.left l.right (lS r lit w l.right (lS r lit w l.left A)) else gL r lit w l.right (gL r lit w l.left A)) else A:=be (by rintro(h|h);exact k1 h;exact b h);rw[j];refine zE Z Z (fun d=>?_) fun d=>?_
 .have d: ¬l.kind=3:=zF d;rw[be d];refine gA Z uR
 have d:l.kind=3:=zT d;rw[am d];have f0:A.fit l.left.size:=hf.le (by omega);have f1:(lS r lit w l.left A).fit l.right.size:=hf.step (tx r lit w l.left A) (by omega);have f2:(lS r lit w l.right (lS r lit w l.left A)).fit 2:=hf.step ((tx r lit w l.left A).trans (tx r lit w l.right _)) (by omega);have f3:(gL r lit w l.left A).fit l.right.size:=hf.step (nU r lit w _ l.left A (Zc _)) (by omega);refine zJ Z Z (fun g1=>?_) fun g1=>?_
 .have g1: ¬l.op=1:=zF g1;refine zJ Z Z (fun g2=>?_) fun g2=>?_
  .have g2:l.op=2:=zT g2;rw[am (.inr g2)];refine gA Z (rU (EM r A l.left lit w f0) ?_);refine gA Z (rU (EM r _ l.right lit w f1) ?_);refine gA Z (rU (d134 r _ l.left l.right lit w f2) ?_);refine gA Z uR
  .have g2: ¬l.op=2:=zF g2;rw[be (by rintro(h|h);exact g1 h;exact g2 h)];refine gA Z (rU (EN r A l.left lit w f0) ?_);refine gA Z (rU (EN r _ l.right lit w f3) ?_);refine gA Z uR
 .have g1:l.op=1:=zT g1;rw[am (.inl g1)];refine gA Z (rU (EM r A l.left lit w f0) ?_);refine gA Z (rU (EM r _ l.right lit w f1) ?_);refine gA Z (rU (d134 r _ l.left l.right lit w f2) ?_);refine gA Z uR
theorem d86(p:Prog)(r:ah)(A:AK)(g:eO)(i:Int)(hp:p.aD.length<=1000000000)(hf:A.fit (g.dZ.size+2+Lit.az g.body)):bW prog 240 [.ptr 0 0,ag p.c,ag g.c,pI i] (A.O (outer r)) (.bQ []) ((Fi p r i (uW r i g.func g.var g.dZ A) g.body g.body.length).H (outer r)) 7:=by
 have I:=Lit.au g.body;have J:=hf.2.1;have S:=g.dZ.size_eq;have G:=LO r i g.func g.var g.dZ A;have y:(uW r i g.func g.var g.dZ A).fit (Lit.az g.body):=hf.step G (by omega);have hV:uW r i g.func g.var g.dZ A=if g.func=1 then gL r i i (jm g.var) A else if g.func=2 then gL r i i g.dZ (gL r i i (jm g.var) A) else lC r i i (jm g.var) g.dZ (lS r i i g.dZ A):=rfl;refine bW.le (args:=[.ptr 0 0,ag p.c,ag g.c1,pI i]) ?_ ⟨.refl _,.refl _,g.xd,.refl _,ac⟩;generalize uW r i g.func g.var g.dZ A=V at*
 have Y:=jF g.var;refine aB ab func240 Z (by decide) ntmps240 Z (by simp) ?_;refine zJ Z Z (fun f1=>?_) fun f1=>?_
 .have f1:g.func=1:=zT f1;rw[am f1]at hV;refine gA Z (rU (bW.le (aa:=[.ptr 0 0,Fk g.var,pI i,pI i]) (EN r A (jm g.var) i i (hf.le (by omega))) ⟨.refl _,rh _,.refl _,.refl _,ac⟩) ?_);refine gA Z ?_;refine aw 0 g.body.length (Zf _) (fun k=>⟨[(0,.ptr 0 0),(3,pI i),(5,.ptr 4 0),(6,.ptr 5 0),(9,pI k)],AK.st (Fi p r i V g.body k) (outer r) 0 10 [(4,io (aj p.c)),(5,io (aj g.c1))],13⟩) (fun _=>True) _ ac
   (S6 (A':=V) hV.symm Z Z Z Z Z Z Z Z Z Z Z Z Z Z (bv (bv (bv (bv (bv trivial))))) (zK (zK trivial)) Z) fun k B _=>?_
  refine zJ Z Z (fun d=>?_) fun d=>?_
  .have d:k<g.body.length:=zN d;have F:=eR g.body k d;have D:Fi p r i V g.body (k+1)=lG p r i i (g.body.getD k em) (Fi p r i V g.body k):=rfl;have j:=y.step (b:=(g.body.getD k em).size) (Ep p r i V g.body k B) (by omega);refine gA Z (Jj (d87 p r _ (g.body.getD k em) i i hp j) ?_);refine gA Z ⟨d,ac,_,Bu (D.symm) (zK (zK ac))⟩
  .have d:g.body.length<=k:=zG d;have u:k=g.body.length:=by omega
   subst u;refine gA Z uR
 have f1: ¬g.func=1:=zF f1;rw[be f1]at hV;refine zJ Z Z (fun f2=>?_) fun f2=>?_
 .have f2:g.func=2:=zT f2;rw[am f2]at hV;have x:(gL r i i (jm g.var) A).fit g.dZ.size:=hf.step (nU r i i _ (jm g.var) A (Zc _)) (by omega);refine gA Z (rU (bW.le (aa:=[.ptr 0 0,Fk g.var,pI i,pI i]) (EN r A (jm g.var) i i (hf.le (by omega))) ⟨.refl _,rh _,.refl _,.refl _,ac⟩) ?_);refine gA Z (rU (EN r _ g.dZ i i x) ?_);refine gA Z ?_;refine aw 0 g.body.length (Zf _) (fun k=>⟨[(0,.ptr 0 0),(3,pI i),(5,.ptr 4 0),(6,.ptr 5 0),(9,pI k)],AK.st (Fi p r i V g.body k) (outer r) 0 13 [(4,io (aj p.c)),(5,io (aj g.c1))],16⟩) (fun _=>True) _ ac
   (S6 (A':=V) hV.symm Z Z Z Z Z Z Z Z Z Z Z Z Z Z (bv (bv (bv (bv (bv trivial))))) (zK (zK trivial)) Z) fun k B _=>?_
  refine zJ Z Z (fun d=>?_) fun d=>?_
  .have d:k<g.body.length:=zN d;have F:=eR g.body k d;have D:Fi p r i V g.body (k+1)=lG p r i i (g.body.getD k em) (Fi p r i V g.body k):=rfl;have j:=y.step (b:=(g.body.getD k em).size) (Ep p r i V g.body k B) (by omega);refine gA Z (Jj (d87 p r _ (g.body.getD k em) i i hp j) ?_);refine gA Z ⟨d,ac,_,Bu (D.symm) (zK (zK ac))⟩
  .have d:g.body.length<=k:=zG d;have u:k=g.body.length:=by omega
   subst u;refine gA Z uR
 .have f2: ¬g.func=2:=zF f2;rw[be f2]at hV;have x:(lS r i i g.dZ A).fit 2:=hf.step (tx r i i g.dZ A) (by omega);refine gA Z (rU (EM r A g.dZ i i (hf.le (by omega))) ?_);refine gA Z (rU (bW.le (aa:=[.ptr 0 0,Fk g.var,ag g.dZ.c,pI i,pI i]) (d134 r _ (jm g.var) g.dZ i i x) ⟨.refl _,rh _,.refl _,.refl _,.refl _,ac⟩) ?_);refine gA Z ?_;refine aw 0 g.body.length (Zf _) (fun k=>⟨[(0,.ptr 0 0),(3,pI i),(5,.ptr 4 0),(6,.ptr 5 0),(9,pI k)],AK.st (Fi p r i V g.body k) (outer r) 0 13 [(4,io (aj p.c)),(5,io (aj g.c1))],16⟩) (fun _=>True) _ ac
   (S6 (A':=V) hV.symm Z Z Z Z Z Z Z Z Z Z Z Z Z Z (bv (bv (bv (bv (bv trivial))))) (zK (zK trivial)) Z) fun k B _=>?_
  refine zJ Z Z (fun d=>?_) fun d=>?_
  .have d:k<g.body.length:=zN d;have F:=eR g.body k d;have D:Fi p r i V g.body (k+1)=lG p r i i (g.body.getD k em) (Fi p r i V g.body k):=rfl;have j:=y.step (b:=(g.body.getD k em).size) (Ep p r i V g.body k B) (by omega);refine gA Z (Jj (d87 p r _ (g.body.getD k em) i i hp j) ?_);refine gA Z ⟨d,ac,_,Bu (D.symm) (zK (zK ac))⟩
  .have d:g.body.length<=k:=zG d;have u:k=g.body.length:=by omega
   subst u;refine gA Z uR
set_option maxHeartbeats 2000000 in
theorem d45(p:Prog)(r:ah)(hp:p.aD.length<=1000000000)(hs:r.size<=1000000000):bW prog 210 [ag p.c,ag r.c] [] (.ptr 0 0) ((nG p r).K (outer r)) 4:=by
 have J:r.size=r.head.ad.length+Lit.az r.body:=rfl;have y:AK.o.fit r.size:=⟨Wl,by show 0+_<=_;omega,by show 0+_<=_;omega⟩
 have D:=Lit.au r.body;refine aB ab func210 Z (by decide) ntmps210 Z (by simp) ?_;refine gA Z (zp (S1 r (by omega)) ?_);refine gM 4 Z (jg 2 0 2 Z Z (jg 2 1 1 Z Z (jg 2 2 4 Z Z ?_)));refine gA Z (rU (d85 p r AK.o r.head (-1) (-1) hp (y.le (by omega))) ?_);refine gA Z ?_;refine aw 0 r.body.length (Zf _) (fun i=>⟨[(2,.ptr 0 0),(3,.ptr 1 0),(5,.ptr 2 0),(6,pI i)],AK.st (lI p r i) (outer r) 2 9 [(0,io (aj p.c)),(1,io (aj r.c))],12⟩) (fun _=>True) _ ac
  (S6 (A':=lI p r 0) Z Z Z Z Z Z Z Z Z Z Z Z Z Z Z (bv (bv (bv (bv trivial)))) (zK (zK trivial)) Z) fun i F _=>?_
 refine zE Z Z (fun d=>?_) fun d=>?_
 .have d:r.body.length<=i:=zG d;have A:i=r.body.length:=by omega
  subst A;refine gA Z (zD [2,9,10,11] Z (zW (zO (zS (zS (zS ac))))))
 have d:i<r.body.length:=zN d;have I:=eR r.body i d;have G:=(r.body.getD i em).size_eq;have x:=y.step (b:=(r.body.getD i em).size) (Cm p r i F) (by omega);have hs:lI p r (i+1)=r6 p r i (r.body.getD i em) (lI p r i):=rfl;generalize lI p r i=B at*
 refine zJ Z Z (fun u=>?_) fun u=>?_
 .have u:(r.body.getD i em).kind=4:=zT u;have j:r6 p r i (r.body.getD i em) B=Fi p r i (uW r i (r.body.getD i em).agg.func (r.body.getD i em).agg.var (r.body.getD i em).agg.dZ B) (r.body.getD i em).agg.body (r.body.getD i em).agg.body.length:=am u;rw[j]at hs;refine gA Z (Jj (d86 p r B (r.body.getD i em).agg i hp (x.le (by show(r.body.getD i em).jT.size+2+Lit.az (r.body.getD i em).ar<=_;omega))) ?_);refine gA Z ⟨d,ac,_,Bu (hs.symm) (zK (zK ac))⟩
 .have u: ¬(r.body.getD i em).kind=4:=zF u;have j:r6 p r i (r.body.getD i em) B=lG p r i (-1) (r.body.getD i em) B:=be u;rw[j]at hs;refine gA Z (Jj (d87 p r B (r.body.getD i em) i (-1) hp x) ?_);refine gA Z ⟨d,ac,_,Bu (hs.symm) (zK (zK ac))⟩
abbrev AK.P(A:AK)(o:List ak):PV:= .iv (.mK [cZ 2 A.items aN.c,cZ 1 A.root aY,cZ 4 A.l Ask.c,strs o])
theorem EF{α:Type}[Inhabited α]{l:List α}{f:α->Bool}{i:Nat}(h:(l.take i).any f=lc)(hi:i<l.length)(hf:f (l.getD i em)=kw):l.find? f=io (l.getD i em):=by
 rw[Y6,Za hi]at hf ⊢;refine abu.2 ⟨hf,i,hi,rfl,fun j b=>?_⟩;have:=Z3.1 h (l[j]'(by omega)) (abM.2 ⟨j,by omega,rfl⟩);simpa using this
theorem c47(A:AK)(o:List ak)(i:Int)(h0:0<=i)(hi:i<A.root.length)(j: ∀k∈A.l,k.item<A.root.length)(hb:A.l.length<=1000000000):Pure prog 211 [A.P o,pI i] (pI (A.kind i)):=by
 refine ae ab func211 Z (by decide) ntmps211 Z (by simp) Z ?_;refine gA Z ?_;refine aw 0 A.l.length (Zf _) (fun n=>⟨[(0,A.P o),(1,pI i),(5,pI n)],[],0⟩) (fun n=>(A.l.take n).any (fun k=>li (k.item>=0)&&li (A.rt k.item=A.rt i))=lc) [] (by simp) (lJ Z Z (bv (bv (bv ac))) Z) fun n x d=>?_;refine zE Z Z (fun b=>?_) fun b=>?_
 .have b:A.l.length<=n:=zG b;have e:A.kind i=0:=by
   unfold AK.kind;rw[eN (any_none d b)];rfl
  rw[e];exact zU Z
 have b:n<A.l.length:=zN b;have u:=j (A.l.getD n em) (by rw[Y6,Za b];exact ZQ b);refine zE Z Z (fun g1=>?_) fun g1=>?_
 .have g1: ¬(A.l.getD n em).item>=0:=zF g1
  repeat(refine gA Z (zI (fun q=>?_) (fun q=>?_));all_goals(try(simp at q;done)))
  refine gA Z ⟨b,(aW d b).2 (by rw[decide_eq_false g1];rfl),[],lJ Z Z (bv (bv (bv ac))) Z⟩
 have g1:(A.l.getD n em).item>=0:=zT g1;refine zJ Z Z (fun g2=>?_) fun g2=>?_
 .have g2:A.rt (A.l.getD n em).item=A.rt i:=zT g2;have e:A.kind i=(A.l.getD n em).type:=by
   unfold AK.kind;rw[EF d b (by rw[decide_eq_true g1,decide_eq_true g2];rfl)];rfl
  rw[e];exact zU Z
 .have g2: ¬A.rt (A.l.getD n em).item=A.rt i:=zF g2;refine gA Z ⟨b,(aW d b).2 (by rw[decide_eq_false g2,aaa]),[],lJ Z Z (bv (bv (bv ac))) Z⟩
theorem Rel.sub{M:Mem}{N:Nm}{U:Nat->Prop}{h d:AH}{w:World}(hr:Rel M N U h w)(hs: ∀j o,d.get j=io o->h.get j=io o):Rel M N U d w:=
 ⟨hr.eW,fun i o b=>hr.used i o (hs i o b),fun i o b=>hr.fo i o (hs i o b),fun i o b=>hr.obj i o (hs i o b),fun i j o p b u=>hr.inj i j o p (hs i o b) (hs j p u)⟩
theorem HK(i sz:Nat)(el:Nat->List IV): ∀l:List IV,pe i sz el (l.map .iv)=l.map .iv
 | []=>rfl
 |x::l=>by rw[Zr,pe,HK i sz el l];rfl
theorem sY{α:Type}(i sz:Nat)(el:Nat->List IV)(b:Nat)(l:List α)(f:α->List IV):(aE b l f).im i sz el=aE b l f:=by
 simp only[aE,AO.im,aa4];congr 1;exact aaB fun x _=>HK i sz el _
theorem l5{α:Type}(i sz n b:Nat)(l:List α)(f:α->List IV):(aE b l f).vn i sz n:=by
 intro e d;obtain⟨x,_,rfl⟩:=ZK.1 d;exact ma _ _ _ _
theorem Gs{a b:Nat}(h: ¬a=b):Zz a b=lc:=aaS.2 fun e=>h (Zt e)
theorem xn(a:Nat):Zz a a=kw:=Nat.beq_refl a
theorem fzK{M:Mem}{N:Nm}{n:Nat}{h:AH}{w:World}(A:AK)(o:List ak)(rest:List PV){i a b c:Nat}(hb:wB rest=kw)
  (hi:h.get i=io (AK.cell o a b c A.items.length A.root.length A.l.length)) (h1:h.get a=io (aE 2 A.items aN.c)) (h2:h.get b=io (aE 1 A.root aY)) (h3:h.get c=io (aE 4 A.l Ask.c)) (hn:b4 [i,a,b,c]=kw) (hr:Rel M N (· <n) h w):
  ∃u:Mem,M.le u∧Rel u N (· <n) [] w∧ ∀(j:Nat) (p:PV) (x:Value),(A.P o::rest)[j]? =io p->(∀q,(PV.ptr i 0::rest)[j]? =io q->VR M N (· <n) q x)->VR u N (· <n) p x:=by
 have B:=dC hn;simp only[aat,Zq,abG,or_false,not_or]at B;obtain⟨⟨e1,I,D⟩,⟨F,G⟩,y,_⟩:=B;have r0:Rel M N (· <n) [(i,io (AK.cell o a b c A.items.length A.root.length A.l.length)),(a,io (aE 2 A.items aN.c)),(b,io (aE 1 A.root aY)),(c,io (aE 4 A.l Ask.c))] w:=Rel.sub hr fun j x d=>by
  simp only[AH.ax]at d;split at d
  .rename_i e;subst e;rw[<-d];exact hi
  split at d
  .rename_i e;subst e;rw[<-d];exact h1
  split at d
  .rename_i e;subst e;rw[<-d];exact h2
  split at d
  .rename_i e;subst e;rw[<-d];exact h3
  .cases d
 obtain⟨u,l1,r1,v1⟩:=vg r0 a (fun k=>aN.c (A.items.getD k em)) (es:=A.items.map fun x=>(aN.c x).map .iv) (sz:=2) (by rw[AH.ax,be (Ne.symm e1),AH.ax,am Z];rfl) (eE Z)
  ⟨by simp[AO.vn,da,PV.bX,Ne.symm F,Ne.symm G],l5 _ _ _ _ _ _,l5 _ _ _ _ _ _,l5 _ _ _ _ _ _,ac⟩
 have S:Rel u N (· <n) [(i,io (.cells [.iv (cZ 2 A.items aN.c),.sl b 0 A.root.length 1,.sl c 0 A.l.length 4,.iv (strs o)])),(b,io (aE 1 A.root aY)),(c,io (aE 4 A.l Ask.c))] w:=Rel.sub r1 fun j x d=>by
  simp only[AH.ax]at d;rw[AH.ax,AH.kK];split at d
  .rename_i e;subst e;rw[be e1,AH.ax,am Z,<-d];simp only[Z8,AO.im,pe,PV.eW,xn,Gs (Ne.symm F),Gs (Ne.symm G),cond_true,cond_false,Zu]
  split at d
  .rename_i e;subst e;rw[be (Ne.symm F),AH.ax,be (Ne.symm I),AH.ax,be (Ne.symm F),AH.ax,am Z,<-d,Z8,sY]
  split at d
  .rename_i e;subst e;rw[be (Ne.symm G),AH.ax,be (Ne.symm D),AH.ax,be (Ne.symm G),AH.ax,be (Ne.symm y),AH.ax,am Z,<-d,Z8,sY]
  .cases d
 obtain⟨M2,l2,r2,v2⟩:=vg S b (fun k=>aY (A.root.getD k em)) (es:=A.root.map fun x=>(aY x).map .iv) (sz:=1) (by rw[AH.ax,be (Ne.symm I),AH.ax,am Z];rfl) (eE Z)
  ⟨by simp[AO.vn,da,PV.bX,Ne.symm y],l5 _ _ _ _ _ _,l5 _ _ _ _ _ _,ac⟩
 have Y:Rel M2 N (· <n) [(i,io (.cells [.iv (cZ 2 A.items aN.c),.iv (cZ 1 A.root aY),.sl c 0 A.l.length 4,.iv (strs o)])),(c,io (aE 4 A.l Ask.c))] w:=Rel.sub r2 fun j x d=>by
  simp only[AH.ax]at d;rw[AH.ax,AH.kK];split at d
  .rename_i e;subst e;rw[be I,AH.ax,am Z,<-d];simp only[Z8,AO.im,pe,PV.eW,xn,Gs (Ne.symm y),cond_true,cond_false,Zu]
  split at d
  .rename_i e;subst e;rw[be (Ne.symm y),AH.ax,be (Ne.symm D),AH.ax,be (Ne.symm y),AH.ax,am Z,<-d,Z8,sY]
  .cases d
 obtain⟨M3,l3,r3,v3⟩:=vg Y c (fun k=>Ask.c (A.l.getD k em)) (es:=A.l.map fun x=>(Ask.c x).map .iv) (sz:=4) (by rw[AH.ax,be (Ne.symm D),AH.ax,am Z];rfl) (eE Z)
  ⟨by simp[AO.vn,da,PV.bX],l5 _ _ _ _ _ _,ac⟩
 have a0:Rel M3 N (· <n) [(i,io (.cells [.iv (cZ 2 A.items aN.c),.iv (cZ 1 A.root aY),.iv (cZ 4 A.l Ask.c),.iv (strs o)]))] w:=Rel.sub r3 fun j x d=>by
  simp only[AH.ax]at d;rw[AH.ax,AH.kK];split at d
  .rename_i e;subst e;rw[be D,AH.ax,am Z,<-d];simp only[Z8,AO.im,pe,PV.eW,xn,cond_true,Zu]
  .cases d
 obtain⟨M4,x4,r4,v4⟩:=A1 (l:=[cZ 2 A.items aN.c,cZ 1 A.root aY,cZ 4 A.l Ask.c,strs o]) a0 (i:=i) (cs:=[.iv (cZ 2 A.items aN.c),.iv (cZ 1 A.root aY),.iv (cZ 4 A.l Ask.c),.iv (strs o)]) (T0:=jp) (by rw[AH.ax,am Z]) Z;have J:=(l1.trans l2).trans (l3.trans x4.sb);refine⟨M4,J,Rel.sub r4 (fun j x d=>nomatch d),fun j p x d hq=>?_⟩;cases j with
 |zero=>
  cases d;have g1:=v1 _ _ (hq _ Z) ac;have g2:=v2 _ _ g1 ac;have g3:=v3 _ _ g2 ac;have g4:=v4 _ _ g3;simp only[PV.eW,PV.Jk,xn,cond_true,List.drop_zero]at g4;exact g4
 |succ j=>exact uM (hq p d) (mg hb j p d)
theorem UZ(r:ah)(lit:Int)(h1:lit<r.body.length):Pure prog 208 [ag r.c,pI lit] (ag [iI (fx r lit).line,iI (fx r lit).zy]):=by
 refine ae ab func208 Z (by decide) ntmps208 Z (by simp) Z ?_;refine zJ Z Z (fun b=>?_) fun b=>?_
 .have b:lit<0:=by simpa using b
  refine gA Z (zL (.of_eq ?_));rw[fx,am b];rfl
 have b: ¬lit<0:=by simpa using b
 refine gA Z (zL (.of_eq ?_));rw[fx,be b];rfl
theorem SZ(e:Int)(q:Pos):Pure prog 132 [pI e,ag [iI q.line,iI q.zy]] (ag (aZ.c (e,q))):=by
 refine ae ab func132 Z (by decide) ntmps132 Z (by simp) Z ?_;exact zU Z
theorem u7{α:Type}(σ:Nat->Nat)(l:List α)(f:α->List IV):(l.map fun x=>(f x).map PV.iv).map (ep σ)=l.map fun x=>(f x).map PV.iv:=by
 rw[aa4];exact aaB fun x _=>uf σ _
set_option maxHeartbeats 1000000 in
theorem c68(p:Prog)(r:ah)(hp:p.aD.length<=1000000000)(hs:r.size<=1000000000):Pure prog 176 [ag p.c,ag r.c] (ag (jn r (nG p r)).c):=by
 have hz:r.size=r.head.ad.length+Lit.az r.body:=rfl;have y:=Cm p r r.body.length (Zc _);have S:(nG p r).ok:=y.ok Wl;have Y: ∀k∈(nG p r).l, -1<=k.place∧k.place<r.body.length:=(nF p r r.body.length).2;have I:(nG p r).l.length<=1000000000:=by
  have d:=y.ln;rw[aaQ]at d;have:AK.o.l.length=0:=rfl;show(lI p r r.body.length).l.length<=_;omega
 refine ae ab func176 Z (by decide) ntmps176 Z (by simp) Z ?_;refine gA Z (zq [] (d45 p r hp hs) ?_);generalize nG p r=A at*
 obtain⟨B,D⟩:=S;refine gA Z ?_;refine aw 0 A.l.length (Zf _) (fun i=>⟨[(3,.ptr 1 0),(4,.ptr 2 0),(5,.ptr 3 0),(6,pI i)],[(1,io (aj r.c)),(2,io (aj aZ.z.c)),(3,io (AK.cell (outer r) 4 5 6 A.items.length A.root.length A.l.length)),(4,io (aE 2 A.items aN.c)),(5,io (aE 1 A.root aY)),(6,io (aE 4 A.l Ask.c))],7⟩) (fun i=>(A.l.take i).any A.bad=lc) [] (by simp)
  (zW (zK (zK (zO (hR Z (u7 _ _ _) Z (hR Z (u7 _ _ _) Z (hR Z (u7 _ _ _) Z trivial))))))) fun i hi G=>?_
 refine zE Z Z (fun d=>?_) fun d=>?_
 .have d:A.l.length<=i:=zG d;have e:jn r A=aZ.z:=by
   unfold jn;rw[eN (any_none G d)]
  rw[e];exact zU Z
 have d:i<A.l.length:=zN d;have hm:A.l.getD i em∈A.l:=by rw[Y6,Za d];exact ZQ d
 have J:=D _ hm;obtain⟨a0,F⟩:=Y _ hm;have b:A.bad (A.l.getD i em)=!li ((if(A.l.getD i em).item>=0 then A.kind (A.l.getD i em).item else(A.l.getD i em).qy)=(A.l.getD i em).type):=rfl;have x:A.bad (A.l.getD i em)=kw->jn r A=(63,fx r (A.l.getD i em).place):=fun h=>by
  unfold jn;rw[EF G d h]
 have u:A.bad (A.l.getD i em)=lc->(A.l.take (i+1)).any A.bad=lc:=fun h=>(aW G d).2 h;refine gM 11 Z (bB ab Z Z Z Z Z (jj d) Z Z ?_);refine zJ Z Z (fun g1=>?_) fun g1=>?_
 .have g1:(A.l.getD i em).item>=0:=zT g1;rw[am g1]at b;refine gA Z (L8 (asv:=[.ptr 3 0,pI (A.l.getD i em).item]) (Pure.det (c47 A (outer r) (A.l.getD i em).item g1 (by rw[B];exact J) (fun k hk=>by rw[B];exact D k hk) I)) Z Z Z Z Z (fun M N w hr=>fzK A (outer r) [pI (A.l.getD i em).item] Z Z Z Z Z Z hr) Z (fun j o hj=>nomatch hj) Z ?_);refine zJ Z Z (fun g2=>?_) fun g2=>?_
  .have g2:A.bad (A.l.getD i em)=kw:=by
    rw[b];exact g2
   rw[x g2];refine gA Z (zp (UZ r (A.l.getD i em).place F) ?_);refine gA Z (zp (SZ 63 (fx r (A.l.getD i em).place)) ?_);exact zU Z
  .have g2:A.bad (A.l.getD i em)=lc:=by
    rw[b];exact g2
   refine gA Z ⟨d,u g2,[],zW (zK (zK (zO (zS (zS (zS ac))))))⟩
 .have g1: ¬(A.l.getD i em).item>=0:=zF g1;rw[be g1]at b;refine zJ Z Z (fun g2=>?_) fun g2=>?_
  .have g2:A.bad (A.l.getD i em)=kw:=by
    rw[b];exact g2
   rw[x g2];refine gA Z (zp (UZ r (A.l.getD i em).place F) ?_);refine gA Z (zp (SZ 63 (fx r (A.l.getD i em).place)) ?_);exact zU Z
  .have g2:A.bad (A.l.getD i em)=lc:=by
    rw[b];exact g2
   refine gA Z ⟨d,u g2,[],zW (zK (zK (zO (zS (zS (zS ac))))))⟩
theorem Xb(t:nZ):Pure prog 266 [ag t.c] (.bQ [pS (if t.2=kw then⟨#[]⟩ else t.1),pI (if t.2=kw then 50 else 0)]):=by
 refine ae ab func266 Z (by decide) ntmps266 Z (by simp) Z ?_;refine zJ Z Z (fun g=>?_) fun g=>?_
 .have g:t.2=kw:=g;rw[am g,am g];exact zU Z
 .have g: ¬t.2=kw:=by
   have g:t.2=lc:=g;rw[g];decide
  rw[be g,be g];exact zU Z
set_option maxHeartbeats 4000000 in
theorem UY(a:Atom)(x:a.ts<=900000000)(hl:a.ad.length<=1000000000):Pure prog 267 [ag a.c] (ag (fk a).c):=by
 have j:a.ts=a.rel.size+10+(a.ad.map Term.ts).sum:=rfl;have y:(⟨#[40]⟩:ByteArray).size=1:=rfl;have A:(⟨#[44,32]⟩:ByteArray).size=2:=rfl;have B:(⟨#[95]⟩:ByteArray).size=1:=rfl;have D:((eK a 0).1++(⟨#[41]⟩:ByteArray)).size=(eK a 0).1.size+1:=Z9;refine ae ab func267 Z (by decide) ntmps267 Z (by simp) Z ?_;refine gA Z (zp (W7 a.rel (by omega)) ?_);refine gA Z ?_;refine aw 0 a.ad.length (Zf _) (fun i=>⟨[(1,.ptr 0 0),(2,.ptr 1 0),(4,.ptr 2 0),(5,pI i)],[(0,io (aj a.c)),(1,io (.cells [pS Zd,pB lc])),(2,io (aj (eK a i).c))],3⟩) (fun _=>True) [] ac
  (zW (zK (zO (zK trivial)))) fun i S _=>?_
 refine zE Z Z (fun b=>?_) fun b=>?_
 .have b:a.ad.length<=i:=zG b;have u:i=a.ad.length:=by omega
  subst u;have d:=px a a.ad.length (Zc _);rw[Zh (Zc _)]at d;have e2:(⟨#[41]⟩:ByteArray).size=1:=rfl;exact zU Z
 have b:i<a.ad.length:=zN b;have d:=px a i (by omega);have F:=uZ a.ad i b;have G:(a.ad.getD i em).ts=(a.ad.getD i em).var.size+310:=rfl;have I:=oc (a.ad.getD i em).val;have J:((eK a i).1++(⟨#[44,32]⟩:ByteArray)).size=(eK a i).1.size+2:=Z9;have Y:=te (a.ad.getD i em).kind (a.ad.getD i em).var (a.ad.getD i em).val
 repeat' (first
  |(refine gA Z (zI (fun q=>?_) (fun q=>?_)))
  |(refine gA Z (bg (W6 (a.ad.getD i em).kind (a.ad.getD i em).var (a.ad.getD i em).val (by omega)) Z Z Z Z Z Z ?_)))
 all_goals(refine gA Z ?_)
 all_goals clear d F G I J Y x j y A B D S
 all_goals have hE:Zd=(⟨#[]⟩:ByteArray):=rfl
 all_goals exact⟨b,ac,[],zW (zK (zO ⟨⟨_,rfl,.cells ⟨.of_eq (congrArg pS (by simp_all [eK,pE,M6,fe,wM,Kv])),(by first|exact .of_eq (fV (by simp_all [eK,pE,M6,fe,cV]))|exact .rC (by simp_all [eK,pE,M6,fe,cV])),ac⟩⟩,Y5 Z,rfl,ac⟩))⟩
theorem YR(a:Atom)(b:a.ts<=900000000)(d:a.ad.length<=1000000000):Pure prog 249 [ag a.c] (.bQ [pS (if(fk a).2=kw then⟨#[]⟩ else(fk a).1),pI (if(fk a).2=kw then 50 else 0)]):=by
 refine ae ab func249 Z (by decide) ntmps249 Z (by simp) Z ?_;refine gA Z (zp (UY a b d) ?_);refine gA Z (zp (Xb (fk a)) ?_);exact zU Z
theorem c62(a:Atom)(b:a.ts<=900000000)(d:a.ad.length<=1000000000):Pure prog 232 [ag a.c] (pB (!(fk a).2)):=by
 refine ae ab func232 Z (by decide) ntmps232 Z (by simp) Z ?_;refine gA Z (zp (YR a b d) ?_);refine gA Z (zL (.of_eq ?_));refine(fV ?_:pB _=pB _);cases(fk a).2<;>rfl
theorem Gj(e:Expr):Pure prog 292 [ag e.c] (pI (bx e)):=by
 refine ae ab func292 Z (by decide) ntmps292 Z (by simp) Z ?_
 repeat' (first|(refine gA Z (zI (fun _=>?_) (fun _=>?_)))|(refine gA Z (zL (.of_eq ?_))))
 all_goals(refine congrArg pI ?_;simp_all [bx])
theorem Ye(op:Int):Pure prog 293 [pI op] (pS (xH op)):=by
 refine ae ab func293 Z (by decide) ntmps293 Z (by simp) Z ?_
 repeat' (first|(refine gA Z (zI (fun _=>?_) (fun _=>?_)))|(refine gA Z (zL (.of_eq ?_))))
 all_goals(refine congrArg pS ?_;simp_all [xH])
theorem oz{e:Expr}{b:Bool}{k:nZ}(d: ¬(e.kind=1∨e.kind=2))(h: ¬e.kind=4∨b=kw∨ ¬e.var=⟨#[]⟩∨cV e.val=lc∨e.op<1∨e.op>6):gH e b k=nY:=by
 unfold gH;rw[be d,am h]
theorem tt{e:Expr}{b:Bool}{k:nZ}(d:e.kind=1∨e.kind=2):gH e b k=((fe e.kind e.var e.val).1,(fe e.kind e.var e.val).2||(b||(!li (e.op=0)||decide ((e.args.length:Int)>0)))):=by
 unfold gH;rw[am d];rfl
theorem F5{e:Expr}{k:nZ}(b:e.kind=4)(h:e.var=⟨#[]⟩)(j:cV e.val=kw)(h1: ¬e.op<1)(d: ¬e.op>6):gH e lc k=k:=by
 unfold gH;rw[be (by omega),be];rintro(g|g|g|g|g|g)
 .exact g b
 .cases g
 .exact g h
 .rw[j]at g;cases g
 .exact h1 g
 .exact d g
theorem Jp{e:Expr}{n:Nat}(hn:n<=1)(d: ¬(e.kind=1∨e.kind=2)):bO n e=nY:=by
 have j: ∀b,gH e b nY=nY:=fun b=>by
  unfold gH;rw[be d];split<;>rfl
 match n,hn with
 |0,_=>exact j kw
 |1,_=>exact j lc
theorem Gd{e:Expr}{n:Nat}(b:e.kind=1∨e.kind=2):bO n e=((fe e.kind e.var e.val).1,(fe e.kind e.var e.val).2||(li (n=0)||(!li (e.op=0)||decide ((e.args.length:Int)>0)))):=by
 match n with
 |0=>exact tt b
 |1=>exact tt b
 |m+2=>exact tt b
theorem gj:aK (.agg [pS Zd,.kb kw]) (ag nY.c):= .agg ⟨.of_eq Z,.rC Z,ac⟩
def PT(n:Nat):Prop:= ∀(d:Int) (e:Expr),d=(n:Int)-1->e.ts<=900000000->Pure prog 280 [ag e.c,pI d] (ag (bO n e).c)
theorem EY(n:Nat)(hn:n<=1000)(x:PT (n+1))(hB:PT n)(b:Bool)(d:Int)(hd:d=n)(a:Expr)(j:a.ts<=900000000):Pure prog 291 [ag a.c,pB b,pI d] (ag (kn n b a).c):=by
 have D:=fB n a;have y:(⟨#[40]⟩:ByteArray).size=1:=rfl;have A:(⟨#[41]⟩:ByteArray).size=1:=rfl;have B:((⟨#[40]⟩:ByteArray)++(bO n a).1).size=(⟨#[40]⟩:ByteArray).size+(bO n a).1.size:=Z9;have u:li (d<1)=li (n<1):=decide_eq_decide.2 (by omega);refine ae ab func291 Z (by decide) ntmps291 Z (by simp) Z ?_;refine zJ Z Z (fun g=>?_) fun g=>?_
 .have g:b=lc:=by simpa using g
  rw[kn,be (by rw[g];decide)];refine gA Z (zp (x d a (by omega) j) ?_);exact zU Z
 .have g:b=kw:=by simpa using g
  rw[kn,am g];refine gA Z (zp (hB (d-1) a (by omega) j) ?_);refine zJ Z Z (fun q=>?_) fun q=>?_
  .have q:(bO n a).2=lc:=q;refine gA Z (zL ?_);exact .agg ⟨.refl _,.of_eq (fV (by rw[q,u];rfl)),ac⟩
  .have q:(bO n a).2=kw:=by simpa using q
   refine gA Z (zL ?_);rw[q]
   first
    |exact .agg ⟨.refl _,.of_eq (fV (by first|rfl|rw[q];rfl)),ac⟩
    |exact .agg ⟨.refl _,.rC (by first|rfl|rw[q];rfl),ac⟩
theorem Ic(n:Nat)(d:Int)(e:Expr)(hd:d=(n:Int)-1)(j:e.kind=1∨e.kind=2)(u:e.ts<=900000000):Pure prog 280 [ag e.c,pI d] (ag (bO n e).c):=by
 have x:=e.mo;have b:li (n=0)=li (d<0):=decide_eq_decide.2 (by omega);rw[Gd j,b];clear b hd;refine ae ab func280 Z (by decide) ntmps280 Z (by simp) Z ?_
 repeat' (first
  |(refine gA Z (zI (fun q=>?_) (fun q=>?_)))
  |(refine gA Z (bg (W6 e.kind e.var e.val (by omega)) Z Z Z Z Z Z ?_)))
 all_goals first
  |(exfalso;simp_all;done)
  |skip
 all_goals(refine gA Z (zL ?_))
 all_goals first
  |refine .agg ⟨.refl _,.of_eq (fV ?_),ac⟩
  |refine .agg ⟨.refl _,.rC ?_,ac⟩
 all_goals(simp_all<;>omega)
theorem Nc(n:Nat)(hn:n<=1):PT n:=by
 intro d e hd j;by_cases b:e.kind=1∨e.kind=2
 .exact Ic n d e hd b j
 rw[Jp hn b];refine ae ab func280 Z (by decide) ntmps280 Z (by simp) Z ?_;refine zE Z Z (fun k1=>?_) fun k1=>?_
 .exact absurd (.inl (zT k1)) b
 refine zJ Z Z (fun u=>?_) fun u=>?_
 .exact absurd (.inr (zT u)) b
 refine zJ Z Z (fun g1=>?_) fun g1=>?_
 .refine zJ Z Z (fun g2=>?_) fun g2=>?_
  .exact absurd (zF g2) (by omega)
  .repeat(refine gA Z (zI (fun q=>?_) (fun q=>?_));all_goals(try(simp at q;done)))
   refine gA Z (zL ?_);exact gj
 .repeat(refine gA Z (zI (fun q=>?_) (fun q=>?_));all_goals(try(simp at q;done)))
  refine gA Z (zL ?_);exact gj
set_option maxHeartbeats 2000000 in
theorem Q8(m:Nat)(hm:m<=100)(hB:PT m)(hA:PT (m+1)):PT (m+2):=by
 intro d e hd a0;by_cases y:e.kind=1∨e.kind=2
 .exact Ic (m+2) d e hd y a0
 have A:m<=1000:=by omega
 have h0:=e.mo;rw[vM];refine Al.Pure.le (aa:=[ag e.c,pI d]) (args:=[ag e.c1,pI d]) ?_ ⟨e.xd,.refl _,ac⟩;refine ae ab func280 Z (by decide) ntmps280 Z (by simp) Z ?_;refine zE Z Z (fun k1=>?_) fun k1=>?_
 .exact absurd (.inl (zT k1)) y
 refine zJ Z Z (fun k2=>?_) fun k2=>?_
 .exact absurd (.inr (zT k2)) y
 refine zE Z Z (fun g1=>?_) fun g1=>?_
 .have g1: ¬e.kind=4:=by
   have g:(!li (e.kind=4))=kw:=g1;simpa using g
  rw[oz y (.inl g1)]
  repeat(refine gA Z (zI (fun q=>?_) (fun q=>?_));all_goals(try(simp at q;done)))
  refine gA Z (zL ?_);exact gj
 have g1:e.kind=4:=by
  have g:(!li (e.kind=4))=lc:=g1;simpa using g
 refine zE Z Z (fun g2=>?_) fun g2=>?_
 .exact absurd (zT g2) (by omega)
 refine zE Z Z (fun g3=>?_) fun g3=>?_
 .have g3: ¬e.var=⟨#[]⟩:=by
   have g:(!li (e.var=⟨#[]⟩))=kw:=g3;simpa using g
  rw[oz y (.inr (.inr (.inl g3)))]
  repeat(refine gA Z (zI (fun q=>?_) (fun q=>?_));all_goals(try(simp at q;done)))
  refine gA Z (zL ?_);exact gj
 have g3:e.var=⟨#[]⟩:=by
  have g:(!li (e.var=⟨#[]⟩))=lc:=g3;simpa using g
 refine zE Z Z (fun g4=>?_) fun g4=>?_
 .have g4:cV e.val=lc:=by
   have g:(!cV e.val)=kw:=g4;simpa using g
  rw[oz y (.inr (.inr (.inr (.inl g4))))]
  repeat(refine gA Z (zI (fun q=>?_) (fun q=>?_));all_goals(try(simp at q;done)))
  refine gA Z (zL ?_);exact gj
 have g4:cV e.val=kw:=by
  have g:(!cV e.val)=lc:=g4;simpa using g
 refine zE Z Z (fun g5=>?_) fun g5=>?_
 .have g5:e.op<1:=zT g5;rw[oz y (.inr (.inr (.inr (.inr (.inl g5)))))]
  repeat(refine gA Z (zI (fun q=>?_) (fun q=>?_));all_goals(try(simp at q;done)))
  refine gA Z (zL ?_);exact gj
 have g5: ¬e.op<1:=zF g5;refine zJ Z Z (fun g6=>?_) fun g6=>?_
 .have g6:e.op>6:=zT g6;rw[oz y (.inr (.inr (.inr (.inr (.inr g6)))))];refine gA Z (zL ?_);exact gj
 have g6: ¬e.op>6:=zF g6;rw[F5 g1 g3 g4 g5 g6];refine gM 1 Z (fO [] (t:=⟨[(1,pI d),(2,.ptr 0 0),(4,.ptr 1 0)],[(0,io (aj e.c1)),(1,io (aj [iS Zd,.v (.bool lc)]))],2⟩) (zW (zK (zK ac))) ?_);refine zJ Z Z (fun Y=>?_) fun Y=>?_
 .have Y:e.op=6:=zT Y;refine zJ Z Z (fun D=>?_) fun D=>?_
  .have D: ¬e.args.length=1:=by simp at D;omega
   rw[nv,am Y,be D];refine gA Z (zL ?_);exact gj
  have D:e.args.length=1:=by simp at D;omega
  have hg:(aP e).ts<=_:=Expr.tT e.args 0 (by omega);have G:(aP e).ts<=900000000:=by omega
  have j:nv (kn m) e=(sM++(if FM (aP e)=kw then(⟨#[45,48]⟩:ByteArray) else(kn m (qt (aP e)) (aP e)).1),(kn m (qt (aP e)) (aP e)).2):=by rw[nv,am Y,am D]
  have e1:(⟨#[45]⟩:ByteArray).size=1:=rfl;have e2:(⟨#[45,48]⟩:ByteArray).size=2:=rfl;have g0:=qZ m kw (aP e);have f0:=qZ m lc (aP e);have e0:=qZ m (li ((aP e).val.num>0)) (aP e);refine zJ Z Z (fun hk=>?_) fun hk=>?_
  .have x:(aP e).kind=2:=zT hk;refine zE Z Z (fun hv=>?_) fun hv=>?_
   .have F: ¬(aP e).val.kind=1:=zF hv;have I:pQ (aP e)=lc:=by rw[pQ,decide_eq_false F,aaa]
    rw[FM,qt,K7,I,aad,aad,aaK,be (by decide)]at j;refine gA Z (n9 (Gj (aP e)) ?_);refine zE Z Z (fun u=>?_) fun u=>?_
    .have b: ¬bx (aP e)<3:=zF u;rw[decide_eq_false b]at j;rw[j];refine gA Z (n9 (EY m A hA hB lc (d-1) (by omega) (aP e) G) ?_);refine zJ Z Z (fun B=>?_) fun B=>?_
     .refine zJ Z Z (fun J=>?_) fun J=>?_
      .exact absurd (zT J) F
      exact zU Z
     .exact absurd x (zF B)
    .have b:bx (aP e)<3:=zT u;rw[decide_eq_true b]at j;rw[j];refine gA Z (n9 (EY m A hA hB kw (d-1) (by omega) (aP e) G) ?_);refine zJ Z Z (fun B=>?_) fun B=>?_
     .refine zJ Z Z (fun J=>?_) fun J=>?_
      .exact absurd (zT J) F
      exact zU Z
     .exact absurd x (zF B)
   .have F:(aP e).val.kind=1:=zT hv;have I:pQ (aP e)=kw:=by rw[pQ,decide_eq_true F,decide_eq_true x];rfl
    rw[FM,qt,K7,I,ZR,ZR]at j;refine gA Z (n9 (Gj (aP e)) ?_);refine zE Z Z (fun u=>?_) fun u=>?_
    .have b: ¬bx (aP e)<3:=zF u;rw[decide_eq_false b,aan]at j;rw[j];refine gA Z (n9 (EY m A hA hB (li ((aP e).val.num>0)) (d-1) (by omega) (aP e) G) ?_);refine zJ Z Z (fun B=>?_) fun B=>?_
     .refine zJ Z Z (fun J=>?_) fun J=>?_
      .refine zJ Z Z (fun S=>?_) fun S=>?_
       .rw[am (show li ((aP e).val.num=0)=kw from S)];exact zU Z
       .have S:li ((aP e).val.num=0)=lc:=S;rw[be (by rw[S];decide)];exact zU Z
      .exact absurd F (zF J)
     .exact absurd x (zF B)
    .have b:bx (aP e)<3:=zT u;rw[decide_eq_true b,abF]at j;rw[j];refine gA Z (n9 (EY m A hA hB kw (d-1) (by omega) (aP e) G) ?_);refine zJ Z Z (fun B=>?_) fun B=>?_
     .refine zJ Z Z (fun J=>?_) fun J=>?_
      .refine zJ Z Z (fun S=>?_) fun S=>?_
       .rw[am (show li ((aP e).val.num=0)=kw from S)];exact zU Z
       .have S:li ((aP e).val.num=0)=lc:=S;rw[be (by rw[S];decide)];exact zU Z
      .exact absurd F (zF J)
     .exact absurd x (zF B)
  .have x: ¬(aP e).kind=2:=zF hk;have I:pQ (aP e)=lc:=by rw[pQ,decide_eq_false x];rfl
   rw[FM,qt,K7,I,aad,aad,aaK,be (by decide)]at j;refine gA Z (n9 (Gj (aP e)) ?_);refine zE Z Z (fun u=>?_) fun u=>?_
   .have b: ¬bx (aP e)<3:=zF u;rw[decide_eq_false b]at j;rw[j];refine gA Z (n9 (EY m A hA hB lc (d-1) (by omega) (aP e) G) ?_);refine zJ Z Z (fun B=>?_) fun B=>?_
    .exact absurd (zT B) x
    exact zU Z
   .have b:bx (aP e)<3:=zT u;rw[decide_eq_true b]at j;rw[j];refine gA Z (n9 (EY m A hA hB kw (d-1) (by omega) (aP e) G) ?_);refine zJ Z Z (fun B=>?_) fun B=>?_
    .exact absurd (zT B) x
    exact zU Z
 .have Y: ¬e.op=6:=zF Y;refine zJ Z Z (fun D=>?_) fun D=>?_
  .have D: ¬e.args.length=2:=by simp at D;omega
   rw[nv,be Y,be D];refine gA Z (zL ?_);exact gj
  have D:e.args.length=2:=by simp at D;omega
  have hg:(aP e).ts+(lf e).ts<=_:=Expr.wY e.args D;rw[nv,be Y,am D];have c0:=qZ m (li (bx (aP e)<bx e)) (aP e);have d0:=qZ m (li (bx (lf e)<=bx e)) (lf e);have i0:=Af e.op;have b0:((kn m (li (bx (aP e)<bx e)) (aP e)).1++xH e.op).size=(kn m (li (bx (aP e)<bx e)) (aP e)).1.size+(xH e.op).size:=Z9;refine gA Z (n9 (Gj (aP e)) ?_);refine gA Z (n9 (Al.Pure.le (aa:=[ag e.c1]) (Gj e) ⟨e.Jb,ac⟩) ?_);refine gA Z (n9 (EY m A hA hB (li (bx (aP e)<bx e)) (d-1) (by omega) (aP e) (by omega)) ?_);refine gM 3 Z (fO [] (t:=⟨[(1,pI d),(2,.ptr 0 0),(4,.ptr 1 0),(9,.ptr 2 0)],[(0,io (aj e.c1)),(1,io (aj [iS Zd,.v (.bool lc)])),(2,io (aj (kn m (li (bx (aP e)<bx e)) (aP e)).c))],3⟩) (zW (zK (zK (zK ac)))) ?_);refine gA Z (n9 (Gj (lf e)) ?_);refine gA Z (n9 (Al.Pure.le (aa:=[ag e.c1]) (Gj e) ⟨e.Jb,ac⟩) ?_);refine gA Z (n9 (EY m A hA hB (li (bx (lf e)<=bx e)) (d-1) (by omega) (lf e) (by omega)) ?_);refine gM 3 Z (fO [] (t:=⟨[(1,pI d),(2,.ptr 0 0),(4,.ptr 1 0),(9,.ptr 2 0),(10,.ptr 3 0)],[(0,io (aj e.c1)),(1,io (aj [iS Zd,.v (.bool lc)])),(2,io (aj (kn m (li (bx (aP e)<bx e)) (aP e)).c)),(3,io (aj (kn m (li (bx (lf e)<=bx e)) (lf e)).c))],4⟩) (zW (zK (zK (zK (zK ac))))) ?_);refine gA Z (n9 (Ye e.op) ?_);refine zE Z Z (fun q=>?_) fun q=>?_
  .have q:(kn m (li (bx (aP e)<bx e)) (aP e)).2=lc:=q;rw[q];exact zU Z
  .have q:(kn m (li (bx (aP e)<bx e)) (aP e)).2=kw:=by simpa using q
   rw[q];refine gA Z (zL ?_)
   first
    |exact .agg ⟨.refl _,.of_eq (fV (by first|rfl|rw[q];rfl)),ac⟩
    |exact .agg ⟨.refl _,.rC (by first|rfl|rw[q];rfl),ac⟩
theorem Nd: ∀n,n<=100->PT n∧PT (n+1)
 |0,_=>⟨Nc 0 (by decide),Nc 1 (by decide)⟩
 |n+1,h=>by
  obtain⟨d,b⟩:=Nd n (by omega);exact⟨b,Q8 n (by omega) d b⟩
theorem UX(e:Expr)(b:e.ts<=900000000):Pure prog 280 [ag e.c,pI 16] (ag (bO 17 e).c):=(Nd 17 (by decide)).1 16 e Z b
theorem Yi(a:Atom):Pure prog 277 [ag a.c] (pB (eU a)):=by
 refine ae ab func277 Z (by decide) ntmps277 Z (by simp) Z ?_
 repeat' (first|(refine gA Z (zI (fun _=>?_) (fun _=>?_)))|(refine gA Z (zL (.of_eq ?_))))
 all_goals(refine(fV ?_:pB _=pB _))
 all_goals(simp only[eU, *];rfl)
theorem QM(e:Expr):Pure prog 278 [ag e.c] (pB (cY e)):=by
 refine ae ab func278 Z (by decide) ntmps278 Z (by simp) Z ?_
 repeat' (first|(refine gA Z (zI (fun _=>?_) (fun _=>?_)))|(refine gA Z (zL (.of_eq ?_))))
 all_goals(refine(fV ?_:pB _=pB _))
 all_goals(simp only[cY,cV, *];rfl)
theorem Yh(g:eO):Pure prog 279 [ag g.c] (pB (ju g)):=by
 refine ae ab func279 Z (by decide) ntmps279 Z (by simp) Z ?_
 repeat' (first|(refine gA Z (zI (fun _=>?_) (fun _=>?_)))|(refine gA Z (zp (QM g.dZ) ?_))|(refine gA Z (zL (.of_eq ?_))))
 all_goals(refine(fV ?_:pB _=pB _))
 all_goals(simp only[ju, *];rfl)
theorem Yg(op:Int):Pure prog 281 [pI op] (pS (qQ op)):=by
 refine ae ab func281 Z (by decide) ntmps281 Z (by simp) Z ?_
 repeat' (first|(refine gA Z (zI (fun _=>?_) (fun _=>?_)))|(refine gA Z (zL (.of_eq ?_))))
 all_goals(refine congrArg pS ?_;simp_all [qQ])
theorem Yd(f:Int):Pure prog 294 [pI f] (pS (fF f)):=by
 refine ae ab func294 Z (by decide) ntmps294 Z (by simp) Z ?_
 repeat' (first|(refine gA Z (zI (fun _=>?_) (fun _=>?_)))|(refine gA Z (zL (.of_eq ?_))))
 all_goals(refine congrArg pS ?_;simp_all [fF])
theorem wG(a b:ByteArray):(a++b).size=a.size+b.size:=Z9
theorem Vh:(⟨#[]⟩:ByteArray).size=0:=rfl
theorem wa{f:Lit->nZ}{l:List Lit}{i:Nat}(h:b5 f l i=nY): ∀k,b5 f l (i+k)=nY
 |0=>h
 |k+1=>by
  rw[<-aaI,b5,wa h k];exact am Z
theorem FV{f:Lit->nZ}{l:List Lit}{i:Nat}(h:(b5 f l i).2=lc)(hi:i<l.length)(hf:(f (l.getD i em)).2=kw):b5 f l l.length=nY:=by
 have e:b5 f l (i+1)=nY:=by rw[b5,be (by rw[h];decide),am hf]
 have:=wa e (l.length-(i+1));rwa[show i+1+(l.length-(i+1))=l.length by omega]at this
theorem Ea{f:Lit->nZ}{l:List Lit}{i:Nat}(h:(b5 f l i).2=lc)(hf:(f (l.getD i em)).2=lc):b5 f l (i+1)=((if(i:Int)>0 then(b5 f l i).1++wM else(b5 f l i).1)++(f (l.getD i em)).1,lc):=by
 rw[b5,be (by rw[h];decide),be (by rw[hf];decide)]
theorem C3: ∀(l:List Lit) (i:Nat),i<l.length->Lit.lK (l.take (i+1))=Lit.lK (l.take i)+(l.getD i em).ts
 | [],i,h=>by simp at h
 |s::r,0,_=>by simp[Lit.lK]
 |s::r,i+1,h=>by
  have:=C3 r i (by simpa using h);simp only[aau,aav,Lit.lK,this];omega
theorem o7{f:Lit->nZ}{l:List Lit}(hf: ∀i,i<l.length->(f (l.getD i em)).1.size+2<=(l.getD i em).ts): ∀i,i<=l.length->(b5 f l i).1.size<=Lit.lK (l.take i)
 |0,_=>by show(⟨#[]⟩:ByteArray).size<=_;rw[Vh];exact Zf _
 |i+1,h=>by
  have b:=o7 hf i (by omega);have d:=hf i (by omega);have j:wM.size=2:=rfl;rw[C3 l i (by omega),b5];split
  .show(⟨#[]⟩:ByteArray).size<=_;rw[Vh];exact Zf _
  split
  .show(⟨#[]⟩:ByteArray).size<=_;rw[Vh];exact Zf _
  .show((if(i:Int)>0 then(b5 f l i).1++wM else(b5 f l i).1)++(f (l.getD i em)).1).size<=_;rw[wG];split
   .rw[wG];omega
   .omega
theorem Bl(a:Atom):(fk a).1.size<=a.ts:=by
 have b:=px a a.ad.length (Zc _);rw[Zh (Zc _)]at b;have d:a.ts=a.rel.size+10+(a.ad.map Term.ts).sum:=rfl;have j:sC.size=1:=rfl;show((eK a a.ad.length).1++sC).size<=_;rw[wG];omega
theorem C8(a:Atom):a.ad.length<=a.ts:=by
 have b:a.ts=a.rel.size+10+(a.ad.map Term.ts).sum:=rfl;have: ∀l:List Term,l.length<=(l.map Term.ts).sum:=by
  intro l
  induction l with
  |nil=>exact Zc _
  |cons x r ih=>
   have:x.ts=x.var.size+310:=rfl;simp only[ZI,Zr,aaW];omega
 have:=this a.ad;omega
theorem PY(a:eO):(Hf a).1.size<=a.var.size+a.dZ.ts+14:=by
 have u:=uA a.func;have x:=fB 17 a.dZ;have b:p5.size=3:=rfl;have d:p6.size=3:=rfl;have j:Fg.size=3:=rfl;unfold Hf;split
 .show(((a.var++p5)++fF a.func)++p6).size<=_;rw[wG,wG,wG];omega
 .show(((((a.var++p5)++fF a.func)++p6)++(bO 17 a.dZ).1)++Fg).size<=_;rw[wG,wG,wG,wG,wG];omega
theorem M9{f:Lit->nZ}{a:eO}{br:Int}(hf: ∀i,i<a.body.length->(f (a.body.getD i em)).1.size+2<=(a.body.getD i em).ts):(oL f a br).1.size<=a.var.size+a.dZ.ts+Lit.lK a.body+16:=by
 have j:=PY a;have b:=o7 hf a.body.length (Zc _);rw[Zh (Zc _)]at b;have d:wL.size=2:=rfl;unfold oL;split
 .show(⟨#[]⟩:ByteArray).size<=_;rw[Vh];exact Zf _
 .show(((Hf a).1++(b5 f a.body a.body.length).1)++wL).size<=_;rw[wG,wG];omega
theorem AI: ∀(n:Nat) (br:Int) (l:Lit),(eA n br l).1.size+2<=l.ts
 |0,_,l=>by
  have:=l.mo;show(⟨#[]⟩:ByteArray).size+2<=_;rw[Vh];omega
 |n+1,br,l=>by
  have h:=l.mo;have d:=Bl l.atom;have j:=fB 17 l.left;have u:=fB 17 l.right;have x:=yJ l.op;have y:=M9 (f:=eA n (br-1)) (a:=l.agg) (br:=br) fun i _=>AI n (br-1) _;have A:l.agg.var.size+l.agg.dZ.ts+Lit.lK l.agg.body=l.a8.size+l.jT.ts+Lit.lK l.ar:=rfl;have b:xL.size=4:=rfl;rw[eA];unfold jO;split
  .show(if l.kind=2 then xL++(fk l.atom).1 else(fk l.atom).1).size+2<=_;split
   .rw[wG];omega
   .omega
  split
  .show(((bO 17 l.left).1++qQ l.op)++(bO 17 l.right).1).size+2<=_;rw[wG,wG];omega
  split
  .show(oL (eA n (br-1)) l.agg br).1.size+2<=_;omega
  .show(⟨#[]⟩:ByteArray).size+2<=_;rw[Vh];omega
theorem Yc(f:Lit->nZ)(l:List Lit)(br:Int)(hc: ∀i,i<l.length->Pure prog 268 [ag (l.getD i em).c,pI br] (ag (f (l.getD i em)).c))(hf: ∀i,i<l.length->(f (l.getD i em)).1.size+2<=(l.getD i em).ts)(F:Lit.lK l<=900000000):Pure prog 295 [.iv (lits l),pI br] (ag (b5 f l l.length).c):=by
 refine mA (bF func295 Z (by decide)) ⟨_,_,Zo⟩ fun j=>?_;simp only[maxLen]at j;refine ae ab func295 Z (by decide) ntmps295 Z (by simp) Z ?_;refine gA Z ?_
 refine aw 0 l.length (Zf _) (fun i=>⟨[(0,.iv (lits l)),(1,pI br),(4,.ptr 0 0),(5,.ptr 1 0),(6,pI i)],[(0,io (.cells [pS Zd,pB lc])),(1,io (.cells [pS (b5 f l i).1,pB lc]))],2⟩) (fun i=>(b5 f l i).2=lc) [] Z
  (zW (zO (zO trivial))) fun i y u=>?_
 refine zE Z Z (fun b=>?_) fun b=>?_
 .have b:l.length<=i:=zG b;have x:i=l.length:=by omega
  subst x;refine gA Z (zL ?_);exact .agg ⟨.refl _,.of_eq (fV u.symm),ac⟩
 have b:i<l.length:=zN b;have A:=o7 hf i y;have B:=hf i b;have D:=Lit.tP l i b;have G:(⟨#[44,32]⟩:ByteArray).size=2:=rfl;have I:=wG (b5 f l i).1 ⟨#[44,32]⟩;refine gA Z (zp (hc i b) ?_);refine zJ Z Z (fun g=>?_) fun g=>?_
 .have g:(f (l.getD i em)).2=kw:=g;rw[FV u b g];refine gA Z (zL ?_);exact gj
 have g:(f (l.getD i em)).2=lc:=by simpa using g
 have d:=Ea u g;refine zJ Z Z (fun k=>?_) fun k=>?_
 .have k:(i:Int)>0:=zT k;rw[am k]at d;refine gA Z ⟨b,by rw[d],[],zW (zO ⟨⟨_,rfl,.cells ⟨.of_eq (congrArg pS (by rw[d];rfl)),.refl _,ac⟩⟩,Y5 Z,rfl,ac⟩)⟩
 .have k: ¬(i:Int)>0:=zF k;rw[be k]at d;refine gA Z ⟨b,by rw[d],[],zW (zO ⟨⟨_,rfl,.cells ⟨.of_eq (congrArg pS (by rw[d])),.refl _,ac⟩⟩,Y5 Z,rfl,ac⟩)⟩
set_option maxHeartbeats 2000000 in
theorem Yf(f:Lit->nZ)(a:eO)(br:Int)(hb:br<=16)(hc:1<=br-> ∀i,i<a.body.length->Pure prog 268 [ag (a.body.getD i em).c,pI (br-1)] (ag (f (a.body.getD i em)).c))(hf: ∀i,i<a.body.length->(f (a.body.getD i em)).1.size+2<=(a.body.getD i em).ts)(x:a.var.size+a.dZ.ts+Lit.lK a.body<=900000000):Pure prog 282 [ag a.c,pI br] (ag (oL f a br).c):=by
 have j:=uA a.func;have u:=fB 17 a.dZ;have d:=o7 hf a.body.length (Zc _);rw[Zh (Zc _)]at d;have A:(⟨#[32,61,32]⟩:ByteArray).size=3:=rfl;have B:(⟨#[32,123,32]⟩:ByteArray).size=3:=rfl;have D:(⟨#[32,58,32]⟩:ByteArray).size=3:=rfl;have F:(⟨#[32,125]⟩:ByteArray).size=2:=rfl;have I:=wG a.var ⟨#[32,61,32]⟩;have J:=wG (a.var++⟨#[32,61,32]⟩) (fF a.func);have S:=wG ((a.var++⟨#[32,61,32]⟩)++fF a.func) ⟨#[32,123,32]⟩;have Y:=wG (((a.var++⟨#[32,61,32]⟩)++fF a.func)++⟨#[32,123,32]⟩) (bO 17 a.dZ).1;have s5:=wG ((((a.var++⟨#[32,61,32]⟩)++fF a.func)++⟨#[32,123,32]⟩)++(bO 17 a.dZ).1) ⟨#[32,58,32]⟩;have s6:=wG (((((a.var++⟨#[32,61,32]⟩)++fF a.func)++⟨#[32,123,32]⟩)++(bO 17 a.dZ).1)++⟨#[32,58,32]⟩) (b5 f a.body a.body.length).1;have s7:=wG (((a.var++⟨#[32,61,32]⟩)++fF a.func)++⟨#[32,123,32]⟩) (b5 f a.body a.body.length).1;refine Al.Pure.le (aa:=[ag a.c,pI br]) (args:=[ag a.c1,pI br]) ?_ ⟨a.xd,.refl _,ac⟩;refine ae ab func282 Z (by decide) ntmps282 Z (by simp) Z ?_;refine zE Z Z (fun g1=>?_) fun g1=>?_
 .have g1:a.func<1:=zT g1;rw[oL,am (.inl g1)]
  repeat(refine gA Z (zI (fun q=>?_) (fun q=>?_));all_goals(try(simp at q;done)))
  refine gA Z (zL ?_);exact gj
 have g1: ¬a.func<1:=zF g1;refine zE Z Z (fun g2=>?_) fun g2=>?_
 .have g2:a.func>4:=zT g2;rw[oL,am (.inr (.inl g2))]
  repeat(refine gA Z (zI (fun q=>?_) (fun q=>?_));all_goals(try(simp at q;done)))
  refine gA Z (zL ?_);exact gj
 have g2: ¬a.func>4:=zF g2;refine zE Z Z (fun g3=>?_) fun g3=>?_
 .have g3:br<1:=zT g3;rw[oL,am (.inr (.inr (.inl g3)))]
  repeat(refine gA Z (zI (fun q=>?_) (fun q=>?_));all_goals(try(simp at q;done)))
  refine gA Z (zL ?_);exact gj
 have g3: ¬br<1:=zF g3;refine zJ Z Z (fun g4=>?_) fun g4=>?_
 .have g4:(a.body.length:Int)=0:=zT g4;rw[oL,am (.inr (.inr (.inr g4)))];refine gA Z (zL ?_);exact gj
 have g4: ¬(a.body.length:Int)=0:=zF g4;have y:oL f a br=(((Hf a).1++(b5 f a.body a.body.length).1)++wL,(Hf a).2||(b5 f a.body a.body.length).2):=by rw[oL,be (by omega)]
 have b:=Yc f a.body (br-1) (hc (by omega)) hf (by omega);rw[y];refine gA Z (zp (W2 a.var (by omega)) ?_);refine gA Z (n9 (Yd a.func) ?_);refine zJ Z Z (fun g5=>?_) fun g5=>?_
 .have g5:a.func=1:=zT g5;have hO:Hf a=(((a.var++p5)++fF a.func)++p6,!ej a.var||!cY a.dZ):=am g5;rw[hO];clear u y hO hf hc
  repeat' (first
   |(refine gA Z (zI (fun q=>?_) (fun q=>?_)))
   |(refine gA Z (bg (QM a.dZ) Z Z Z Z Z Z ?_))
   |(refine gA Z (bg b Z Z Z Z Z Z ?_)))
  all_goals(refine gA Z (zL ?_))
  all_goals clear j d A B D F I J S Y s5 s6 s7 x b
  all_goals first
   |refine .agg ⟨.of_eq Z,.of_eq (fV ?_),ac⟩
   |refine .agg ⟨.of_eq Z,.rC ?_,ac⟩
  all_goals simp_all
 .have g5: ¬a.func=1:=zF g5;have hO:Hf a=(((((a.var++p5)++fF a.func)++p6)++(bO 17 a.dZ).1)++Fg,!ej a.var||(bO 17 a.dZ).2):=be g5;rw[hO];have G:=UX a.dZ (by omega);clear y hO hf hc
  repeat' (first
   |(refine gA Z (zI (fun q=>?_) (fun q=>?_)))
   |(refine gA Z (bg G Z Z Z Z Z Z ?_))
   |(refine gA Z (bg b Z Z Z Z Z Z ?_)))
  all_goals(refine gA Z (zL ?_))
  all_goals clear j u d A B D F I J S Y s5 s6 s7 x b G
  all_goals first
   |refine .agg ⟨.of_eq Z,.of_eq (fV ?_),ac⟩
   |refine .agg ⟨.of_eq Z,.rC ?_,ac⟩
  all_goals simp_all
set_option maxHeartbeats 4000000 in
theorem W1: ∀(n:Nat) (l:Lit) (br:Int),l.size<=n->br<=16->l.ts<=900000000->Pure prog 268 [ag l.c,pI br] (ag (eA n br l).c)
 |0,l,_,h,_,_=>absurd l.size_pos (by omega)
 |n+1,l,br,hs,hb,hts=>by
  have S:=l.size_eq;have J:=l.mo;have I:=C8 l.atom;have j:=Bl l.atom;have u:=fB 17 l.left;have x:=fB 17 l.right;have y:=yJ l.op;have G:(⟨#[110,111,116,32]⟩:ByteArray).size=4:=rfl;have Y:=wG (bO 17 l.left).1 (qQ l.op)
  have d:=Yf (eA n (br-1)) l.agg br hb (fun _ i hi=>by
   have hi:i<l.ar.length:=hi;have h1:=Lit.aF l.ar i hi;have h2:=l.left.size_pos;have h3:=Lit.tP l.ar i hi
   exact W1 n (l.ar.getD i em) (br-1) (by omega) (by omega) (by omega)) (fun i _=>AI n (br-1) _) (by show l.a8.size+l.jT.ts+Lit.lK l.ar<=_;omega)
  rw[eA];refine ae ab func268 Z (by decide) ntmps268 Z (by simp) Z ?_;refine gA Z (zp (Yi l.atom) ?_);refine gA Z (zp (QM l.left) ?_);refine gA Z (zp (QM l.right) ?_);refine gA Z (zp (Yh l.agg) ?_);refine gM 2 Z (go_cut 1 (fun(_:Unit)=>⟨[(1,pI br),(2,.ptr 0 0),(4,.ptr 1 0),(5,pB (eU l.atom)),(8,pB (ju l.agg)),(9,pB (hP l))],[(0,io (aj l.c)),(1,io (.cells [pS Zd,pB lc]))],2⟩) Z ?_ ?_)
  .repeat' (first
    |(refine gA Z (zI (fun q=>?_) (fun q=>?_)))
    |fail)
   all_goals(refine gA Z (gB () [] (zM (bv (bv (bv (bv (bv ⟨?_,rfl,ac⟩))))) (zK (zO ac)))))
   all_goals clear j u x y G Y d J S I hts hs
   all_goals first
    |refine .of_eq (fV ?_)
    |refine .rC ?_
   all_goals simp_all [hP]
  rintro⟨⟩;have b:jO (eA n) br l=jO (eA n) br l:=rfl;refine zJ Z Z (fun k1=>?_) fun k1=>?_
  .have k1:l.kind=1:=zT k1;have b:jO (eA n) br l=((fk l.atom).1,(fk l.atom).2||(!hP l||!ju l.agg)):=by unfold jO;rw[am (.inl k1),be (by omega)]
   rw[b];refine gA Z (zp (UY l.atom (by omega) (by omega)) ?_);clear b;generalize eU l.atom=NA at*
   generalize ju l.agg=NG at*
   generalize hP l=SD at*
   repeat' (first
    |(refine gA Z (zI (fun q=>?_) (fun q=>?_)))
    |fail)
   all_goals first
    |(exfalso;simp_all;done)
    |skip
   all_goals(refine gA Z (zL ?_))
   all_goals clear j u x y G Y d J S I hts hs
   all_goals first
    |refine .agg ⟨.of_eq Z,.of_eq (fV ?_),ac⟩
    |refine .agg ⟨.of_eq Z,.rC ?_,ac⟩
   all_goals simp_all
  have k1: ¬l.kind=1:=zF k1;refine zJ Z Z (fun D=>?_) fun D=>?_
  .have D:l.kind=2:=zT D;have b:jO (eA n) br l=(xL++(fk l.atom).1,(fk l.atom).2||(!hP l||!ju l.agg)):=by unfold jO;rw[am (.inr D),am D]
   rw[b];refine gA Z (zp (UY l.atom (by omega) (by omega)) ?_);clear b;generalize eU l.atom=NA at*
   generalize ju l.agg=NG at*
   generalize hP l=SD at*
   repeat' (first
    |(refine gA Z (zI (fun q=>?_) (fun q=>?_)))
    |fail)
   all_goals first
    |(exfalso;simp_all;done)
    |skip
   all_goals(refine gA Z (zL ?_))
   all_goals clear j u x y G Y d J S I hts hs
   all_goals first
    |refine .agg ⟨.of_eq Z,.of_eq (fV ?_),ac⟩
    |refine .agg ⟨.of_eq Z,.rC ?_,ac⟩
   all_goals simp_all
  have D: ¬l.kind=2:=zF D;have B: ¬(l.kind=1∨l.kind=2):=by omega
  refine zJ Z Z (fun A=>?_) fun A=>?_
  .have A:l.kind=3:=zT A;have b:jO (eA n) br l=(((bO 17 l.left).1++qQ l.op)++(bO 17 l.right).1,(bO 17 l.left).2||((bO 17 l.right).2||(!eU l.atom||(!ju l.agg||(li (l.op<1)||decide (l.op>6)))))):=by unfold jO;rw[be B,am A]
   rw[b];refine gA Z (zp (UX l.left (by omega)) ?_);refine gA Z (zp (UX l.right (by omega)) ?_);refine gA Z (n9 (Yg l.op) ?_);clear b;generalize eU l.atom=NA at*
   generalize ju l.agg=NG at*
   generalize hP l=SD at*
   repeat' (first
    |(refine gA Z (zI (fun q=>?_) (fun q=>?_)))
    |fail)
   all_goals(refine gA Z (zL ?_))
   all_goals clear j u x y G Y d J S I hts hs
   all_goals first
    |refine .agg ⟨.of_eq Z,.of_eq (fV ?_),ac⟩
    |refine .agg ⟨.of_eq Z,.rC ?_,ac⟩
   all_goals(simp_all<;>omega)
  have A: ¬l.kind=3:=zF A;refine zJ Z Z (fun F=>?_) fun F=>?_
  .have F:l.kind=4:=zT F;have b:jO (eA n) br l=((oL (eA n (br-1)) l.agg br).1,(oL (eA n (br-1)) l.agg br).2||(!eU l.atom||!hP l)):=by unfold jO;rw[be B,be A,am F]
   rw[b];refine gA Z (zp (d) ?_);clear b;generalize eU l.atom=NA at*
   generalize ju l.agg=NG at*
   generalize hP l=SD at*
   repeat' (first
    |(refine gA Z (zI (fun q=>?_) (fun q=>?_)))
    |fail)
   all_goals(refine gA Z (zL ?_))
   all_goals clear j u x y G Y d J S I hts hs
   all_goals first
    |refine .agg ⟨.of_eq Z,.of_eq (fV ?_),ac⟩
    |refine .agg ⟨.of_eq Z,.rC ?_,ac⟩
   all_goals simp_all
  .have F: ¬l.kind=4:=zF F;have b:jO (eA n) br l=nY:=by unfold jO;rw[be B,be A,be F]
   rw[b];refine gA Z (zL ?_);exact gj
theorem Ys(l:Lit)(b:l.ts<=900000000):Pure prog 250 [ag l.c] (.bQ [pS (if(pJ l).2=kw then⟨#[]⟩ else(pJ l).1),pI (if(pJ l).2=kw then 50 else 0)]):=by
 refine ae ab func250 Z (by decide) ntmps250 Z (by simp) Z ?_;refine gA Z (zp (W1 l.size l 16 (Zc _) (by decide) b) ?_);refine gA Z (zp (Xb (pJ l)) ?_);exact zU Z
theorem YA(l:Lit)(b:l.ts<=900000000):Pure prog 233 [ag l.c] (pB (!(pJ l).2)):=by
 refine ae ab func233 Z (by decide) ntmps233 Z (by simp) Z ?_;refine gA Z (zp (Ys l b) ?_);refine gA Z (zL (.of_eq ?_));refine(fV ?_:pB _=pB _);cases(pJ l).2<;>rfl
theorem Lit.Wu(l:Lit):lh (l.c.map .iv) (l.c1.map .iv):=
 ⟨.refl _,.refl _,.refl _,.refl _,.refl _,.refl _,.refl _,.refl _,.refl _,.refl _,.refl _,.refl _,.refl _,.refl _,.refl _,.refl _,.refl _,.refl _,.refl _,.refl _,.refl _,.refl _,.refl _,.refl _,.refl _,.refl _,.refl _,.iv (kG _),.refl _,.refl _,ac⟩
theorem hCL{n i:Nat}{σ:Nat->Nat}{h r:AH}{cs:List PV}{T0:Option TypeId}{c:List IV}(ho:h.get (σ i)=io (.cells cs T0))(he:lh cs (c.map .iv))(hi:Zs i n=kw)(hr:n7 n σ h r):n7 n σ h ((i,io (aj c))::r):=
 ⟨⟨_,ho,by rw[tF];exact .trans (.Rk cs T0) (.cells he)⟩,Y5 hi,mf n c,hr⟩
theorem W5(l:Lit):Pure prog 251 [ag l.c] (.iv (cZ 2 (b8 l) Atom.c)):=by
 refine ae ab func251 Z (by decide) ntmps251 Z (by simp) Z ?_;refine zJ Z Z (fun k1=>?_) fun k1=>?_
 .have k1: ¬l.kind=1:=zF k1;refine zJ Z Z (fun b=>?_) fun b=>?_
  .have b:l.kind=2:=zT b;have e:b8 l=[l.atom]:=am (.inr b);refine gA Z (cS (by first|exact .inr Z|exact .inl Z) Z Z (by rw[e];rfl) (by rw[e];rfl))
  .have b: ¬l.kind=2:=zF b;have e:b8 l=[]:=be (by omega);rw[e];refine gA Z (zL ?_);exact .nil _ _
 .have k1:l.kind=1:=zT k1;have e:b8 l=[l.atom]:=am (.inl k1)
  repeat(refine gA Z (zI (fun q=>?_) (fun q=>?_));all_goals(try(simp at q;done)))
  refine gA Z (cS (by first|exact .inr Z|exact .inl Z) Z Z (by rw[e];rfl) (by rw[e];rfl))
theorem Xa(r:ah)(lit:Int)(h1:lit<r.body.length)(hb:r.size<=100000000):Pure prog 234 [ag r.c,pI lit] (.iv (cZ 2 (bu r lit) Atom.c)):=by
 have A:=Lit.au r.body;have Y:Lit.az r.body<=r.size:=aaH _ _;refine ae ab func234 Z (by decide) ntmps234 Z (by simp) Z ?_;refine zJ Z Z (fun b=>?_) fun b=>?_
 .have b:lit<0:=by simpa using b
  refine gA Z (cS (by first|exact .inr Z|exact .inl Z) Z Z (by rw[bu,am b];rfl) (by rw[bu,am b];rfl))
 have b: ¬lit<0:=by simpa using b
 have B:lit.toNat<r.body.length:=by omega
 have y:=Lit.aF r.body lit.toNat B;have I:=(an r lit).size_eq;have J:=Lit.au (an r lit).ar;have F:(an r lit).size<=Lit.az r.body:=y;refine zJ Z Z (fun u=>?_) fun u=>?_
 .have u: ¬(an r lit).kind=4:=by simpa[an]using u
  have j:bu r lit=b8 (an r lit):=by rw[bu,be b,o8,be u];simp
  rw[j];refine gA Z (zp (W5 (an r lit)) ?_);exact zU Z
 have u:(an r lit).kind=4:=by simpa[an]using u
 have j:bu r lit=(an r lit).ar.flatMap b8:=by rw[bu,be b,o8,am u]
 refine gA Z ?_;refine fY 6 2 Z ?_;refine aw 0 (an r lit).ar.length (Zf _) (fun i=>⟨[(5,.ptr 1 0),(6,.sl 3 0 (((an r lit).ar.take i).flatMap b8).length 2),(7,pI i)],[(1,io (aj (an r lit).c1)),(3,io (aE 2 (((an r lit).ar.take i).flatMap b8) Atom.c))],4⟩) (fun _=>True) [2] ac
  (zW (hCL Z (an r lit).Wu Z (zS trivial))) fun i hi _=>?_
 have G:=mB ((an r lit).ar.take i);have S:((an r lit).ar.take i).length<=(an r lit).ar.length:=by rw[ZP];exact Nat.min_le_right _ _
 refine zJ Z Z (fun d=>?_) fun d=>?_
 .have d:i<(an r lit).ar.length:=zN d;have x:=bE (f:=b8) d;have D:(b8 ((an r lit).ar.getD i em)).length<=1:=by unfold b8;split<;>simp
  refine gA Z (zp (W5 ((an r lit).ar.getD i em)) ?_);refine gA Z ?_
  first
   |exact⟨d,ac,[4],zM (bv ⟨.row (by rw[x,Y8]),rfl,bv ac⟩) (zK (hR Z (by rw[lL,x,Ze]) Z ac))⟩
   |exact⟨d,ac,[5],zM (bv ⟨.row (by rw[x,Y8]),rfl,bv ac⟩) (zK (hR Z (by rw[lL,x,Ze]) Z ac))⟩
 .have d:(an r lit).ar.length<=i:=zG d;rw[Zh d] at*
  refine gA Z (cS (by first|exact .inr Z|exact .inl Z) Z Z (by rw[j]) (by rw[j]))
theorem Yz(r:ah)(lit:Int)(h1:lit<r.body.length)(hb:r.size<=100000000):Pure prog 236 [ag r.c,pI lit] (pB (dF r lit)):=by
 have F:=Lit.au r.body;have h0:Lit.az r.body<=r.size:=aaH _ _;have B:r.size=r.head.ad.length+Lit.az r.body:=rfl;refine ae ab func236 Z (by decide) ntmps236 Z (by simp) Z ?_;refine zJ Z Z (fun d=>?_) fun d=>?_
 .have d:lit<0:=by simpa using d
  have y:dF r lit=r.head.ad.any fun x=>li (x.kind=3):=am d;refine gA Z ?_
  refine aw 0 r.head.ad.length (Zf _) (fun i=>⟨[(2,.ptr 0 0),(5,pI i)],[(0,io (aj r.c))],1⟩) (fun i=>(r.head.ad.take i).any (fun x=>li (x.kind=3))=lc) [] (by simp)
   (zW (zK trivial)) fun i G u=>?_
  refine zJ Z Z (fun b=>?_) fun b=>?_
  .have b:i<r.head.ad.length:=zN b;refine zJ Z Z (fun g=>?_) fun g=>?_
   .rw[y,iN b g];exact zU Z
   .refine gA Z ?_;exact⟨b,(aW u b).2 g,[],zW (zK ac)⟩
  .have b:r.head.ad.length<=i:=zG b;rw[y,any_none u b];exact zU Z
 have d: ¬lit<0:=by simpa using d
 have I:lit.toNat<r.body.length:=by omega
 have A:=Lit.aF r.body lit.toNat I;have S:=(an r lit).size_eq;have Y:=Lit.au (an r lit).ar;have D:=(an r lit).fC;have J:(an r lit).size<=Lit.az r.body:=A;refine zJ Z Z (fun j=>?_) fun j=>?_
 .have j: ¬(an r lit).kind=4:=by simpa[an]using j
  rw[dF,be d,be j];exact zU Z
 have j:(an r lit).kind=4:=by simpa[an]using j
 have y:dF r lit=((an r lit).ar.any (fun x=>li (x.kind=4))||aH (aG (an r lit).agg) (an r lit).a8):=by
  rw[dF,be d,am j,rD (fun x=>fy)]
 refine gA Z ?_;refine aw 0 (an r lit).ar.length (Zf _) (fun i=>⟨[(6,.ptr 1 0),(7,pI i)],[(1,io (aj (an r lit).c1))],2⟩) (fun i=>((an r lit).ar.take i).any (fun x=>li (x.kind=4))=lc) [] (by simp)
  (zW (hCL Z (an r lit).Wu Z trivial)) fun i G u=>?_
 refine zJ Z Z (fun b=>?_) fun b=>?_
 .have b:i<(an r lit).ar.length:=zN b;refine zJ Z Z (fun g=>?_) fun g=>?_
  .rw[y,iN b g];exact zU Z
  .refine gA Z ?_;exact⟨b,(aW u b).2 g,[],zW (zK ac)⟩
 .have b:(an r lit).ar.length<=i:=zG b;rw[y,any_none u b,aan];refine gA Z (zp (Al.Pure.le (aa:=[ag (an r lit).agg.c1]) (Vl (an r lit).agg (by omega)) ⟨eO.Jb _,ac⟩) ?_);refine gA Z (zp (JB (aG (an r lit).agg) (an r lit).a8) ?_);exact zU Z
theorem yV(r:ah)(lit:Int)(h1:lit<r.body.length):(bu r lit).length<=1+Lit.az r.body:=by
 unfold bu;split
 .show 1<=_;omega
 .rename_i x;have A:=mB (o8 r lit);have b:=Lit.aF r.body lit.toNat (by omega);have j:=(an r lit).size_eq;have u:=Lit.au (an r lit).ar;have d:(an r lit).size<=Lit.az r.body:=b;have y:(o8 r lit).length<=1+(an r lit).ar.length:=by
   unfold o8;split
   .omega
   .show 1<=_;omega
  omega
theorem Fv(r:ah)(lit:Int)(h1:lit<r.body.length):(lr r lit).length<=1+r.size:=by
 have d:r.size=r.head.ad.length+Lit.az r.body:=rfl;unfold lr;split
 .have:=dw r.head;omega
 .rename_i x;have b:=Lit.aF r.body lit.toNat (by omega);have u:(an r lit).size<=Lit.az r.body:=b;have j:=(an r lit).fC;split
  .have g1:=jD (aG (an r lit).agg) (an r lit).a8;have g2:=gv (an r lit).agg;omega
  .have:=gr (an r lit);omega
theorem Yy(r:ah)(lit:Int)(h1:lit<r.body.length)(hb:r.size<=100000000):Pure prog 237 [ag r.c,pI lit] (pB (dN r lit)):=by
 have I:=Lit.au r.body;have h0:Lit.az r.body<=r.size:=aaH _ _;have D:r.size=r.head.ad.length+Lit.az r.body:=rfl;rw[<-Lk r lit h1];refine ae ab func237 Z (by decide) ntmps237 Z (by simp) Z ?_;refine gA Z (zp (S1 r (by omega)) ?_);refine gA Z (zp (c32 r (by omega)) ?_);refine gM 2 Z (go_cut 3 (fun(_:Unit)=>⟨[(5,.iv (strs (outer r))),(6,.iv (strs (kW r))),(7,.iv (strs (lr r lit))),(8,.iv (strs (nT r lit)))],[],1⟩) Z ?_ ?_)
 .refine zJ Z Z (fun d=>?_) fun d=>?_
  .have d:lit<0:=zT d;have y:lr r lit=bn r.head:=am d;have x:nT r lit=[]:=am d;rw[y,x];refine gA Z (zp (S0 r.head (by omega)) ?_);refine gA Z (gB () [] (zM (bv (bv (bv ⟨.nil _ _,rfl,ac⟩))) ac))
  have d: ¬lit<0:=zF d;have Y:lit.toNat<r.body.length:=by omega
  have B:=Lit.aF r.body lit.toNat Y;have G:=(an r lit).fC;have a0:(an r lit).size<=Lit.az r.body:=B;refine gA Z (zp (Xx (an r lit) (by omega)) ?_);refine zJ Z Z (fun j=>?_) fun j=>?_
  .have j:(an r lit).kind=4:=zT j;have y:lr r lit=b6 (aG (an r lit).agg) (an r lit).a8:=by unfold lr;rw[be d,am j]
   have x:nT r lit=mG r lit:=by unfold nT;rw[be d,am j]
   have J:=gv (an r lit).agg;rw[y,x];refine gA Z (zp (Vl (an r lit).agg (by omega)) ?_);refine gA Z (zp (Nn (aG (an r lit).agg) (an r lit).a8 (by omega)) ?_);refine gA Z (zp (Yr r lit (by omega) h1 (by omega)) ?_);refine gA Z (gB () [] (zW ac))
  .have j: ¬(an r lit).kind=4:=zF j;have y:lr r lit=cq (an r lit):=by unfold lr;rw[be d,be j]
   have x:nT r lit=[]:=by unfold nT;rw[be d,be j]
   rw[y,x];refine gA Z (gB () [] (zM (bv (bv (bv ⟨.nil _ _,rfl,ac⟩))) ac))
 rintro⟨⟩;have b0:=Fv r lit h1;have F:FT r lit=(lr r lit).any (A3 r (nT r lit)):=rfl;rw[F];generalize lr r lit=S at*
 generalize nT r lit=K at*
 refine gA Z ?_;refine aw 0 S.length (Zf _) (fun i=>⟨[(5,.iv (strs (outer r))),(6,.iv (strs (kW r))),(7,.iv (strs S)),(8,.iv (strs K)),(10,pI i)],[],1⟩) (fun i=>(S.take i).any (A3 r K)=lc) [] (by simp)
  (zW trivial) fun i hi A=>?_
 refine zE Z Z (fun b=>?_) fun b=>?_
 .have b:S.length<=i:=zG b;rw[any_none A b];exact zU Z
 have b:i<S.length:=zN b;have u:A3 r K (S.getD i em)=!(if aH (outer r) (S.getD i em)=kw then aH (kW r) (S.getD i em) else aH K (S.getD i em)):=rfl;refine gA Z (zp (JB (outer r) (S.getD i em)) ?_);refine gA Z (zp (JB (kW r) (S.getD i em)) ?_);refine zJ Z Z (fun g=>?_) fun g=>?_
 .have g:aH (outer r) (S.getD i em)=lc:=by simpa using g
  rw[be (by rw[g];decide)]at u;refine gA Z (zp (JB K (S.getD i em)) ?_);refine zJ Z Z (fun q=>?_) fun q=>?_
  .rw[iN b (u.trans q)];exact zU Z
  .refine gA Z ?_;exact⟨b,(aW A b).2 (u.trans q),[],zW ac⟩
 .have g:aH (outer r) (S.getD i em)=kw:=by simpa using g
  rw[am g]at u;refine zJ Z Z (fun q=>?_) fun q=>?_
  .rw[iN b (u.trans q)];exact zU Z
  .refine gA Z ?_;exact⟨b,(aW A b).2 (u.trans q),[],zW ac⟩
def z6(r:ah):Nat->Nat
 |0=>(outer r).length
 |i+1=>z6 r i+(mF r i).length
theorem AB(r:ah)(i:Nat)(h:i<r.body.length):(mF r i).length=kF r (r.body.getD i em):=by
 have e:an r i=r.body.getD i em:=rfl;rw[<-Fo,tm,kF,e];by_cases b:(r.body.getD i em).kind=4
 .rw[be (by rintro(g|g|g)<;>omega),am b,fi,jH,ZE]
 .rw[am (.inr (.inr b)),be b];rfl
theorem CV(r:ah): ∀i,i<=r.body.length->z6 r i=(r.body.take i).foldl (fun n l=>n+kF r l) (aC (aA r)).length
 |0,_=>by
  show(outer r).length=(aC (aA r)).length;rw[<-xy,fi,jH,ZE]
 |i+1,h=>by
  rw[z6,CV r i (by omega),AB r i (by omega),cK (g:=fun n l=>n+kF r l) (show i<r.body.length by omega)]
theorem YJ(r:ah)(hb:r.size<=100000000):Pure prog 209 [ag r.c] (pI (tZ r)):=by
 have j:=Lit.au r.body;have I:Lit.az r.body<=r.size:=aaH _ _;have J:=oU r;have A:=kT (aA r);refine ae ab func209 Z (by decide) ntmps209 Z (by simp) Z ?_;refine gA Z (zp (S1 r (by omega)) ?_);refine gA Z ?_;refine aw 0 r.body.length (Zf _) (fun i=>⟨[(1,.ptr 0 0),(4,pI (z6 r i:Nat)),(5,pI i)],[(0,io (aj r.c))],1⟩) (fun _=>True) [] ac
  (zW (zK trivial)) fun i u _=>?_
 have G:=CV r i u;have B:=xF r (r.body.take i) (aC (aA r)).length;have D:=Lit.sU r.body i;refine zJ Z Z (fun b=>?_) fun b=>?_
 .have b:i<r.body.length:=zN b;have F:=Lit.aF r.body i b;have y:=vz r (r.body.getD i em);have x:=AB r i b;refine gA Z (zp (c36 r i (by omega)) ?_);refine gA Z ⟨b,ac,[],zM (bv ⟨.of_eq (FG (by show _=((z6 r i+(mF r i).length:Nat):Int);omega)),rfl,bv ac⟩) (zK ac)⟩
 .have b:r.body.length<=i:=zG b;have d:i=r.body.length:=by omega
  subst d;have e:z6 r r.body.length=tZ r:=by rw[G,Zh (Zc _)];rfl
  rw[<-e];exact zU Z
theorem c67(r:ah)(n:Int)(hb:r.size<=100000000):Pure prog 175 [ag r.c,pI n] (ag (rT r n).c):=by
 have x:=Lit.au r.body;have y:Lit.az r.body<=r.size:=aaH _ _;refine ae ab func175 Z (by decide) ntmps175 Z (by simp) Z ?_;refine zE Z Z (fun g1=>?_) fun g1=>?_
 .have g1:n>256:=zT g1;rw[rT,am (.inl g1)]
  repeat(refine gA Z (zI (fun q=>?_) (fun q=>?_));all_goals(try(simp at q;done)))
  refine gA Z (zp (SZ 66 r.at_) ?_);exact zU Z
 have g1: ¬n>256:=zF g1;refine zJ Z Z (fun g2=>?_) fun g2=>?_
 .have g2:(r.body.length:Int)>12:=zT g2;rw[rT,am (.inr g2)];refine gA Z (zp (SZ 66 r.at_) ?_);exact zU Z
 have g2: ¬(r.body.length:Int)>12:=zF g2;refine gA Z (zp (YJ r hb) ?_);refine zJ Z Z (fun g3=>?_) fun g3=>?_
 .have g3:(tZ r:Int)>24:=zT g3;rw[rT,be (by omega),am g3];refine gA Z (zp (SZ 66 r.at_) ?_);exact zU Z
 have g3: ¬(tZ r:Int)>24:=zF g3;have u:rT r n=match r.body.find? pA with
  |some l=>(66,l.at)
  |none=>aZ.z:=by rw[rT,be (by omega),be g3]<;>rfl
 refine gA Z ?_;refine aw 0 r.body.length (Zf _) (fun i=>⟨[(2,.ptr 0 0),(4,.ptr 1 0),(6,pI i)],[(0,io (aj r.c)),(1,io (aj aZ.z.c))],2⟩) (fun i=>(r.body.take i).any pA=lc) [] (by simp)
  (zW (zK (zK trivial))) fun i A j=>?_
 refine zE Z Z (fun b=>?_) fun b=>?_
 .have b:r.body.length<=i:=zG b;rw[u,eN (any_none j b)];exact zU Z
 have b:i<r.body.length:=zN b;have hW:pA (r.body.getD i em)=(li ((r.body.getD i em).kind=4)&&li (((r.body.getD i em).ar.length:Int)>12)):=rfl;refine zE Z Z (fun d=>?_) fun d=>?_
 .have d:li ((r.body.getD i em).kind=4)=lc:=d;rw[d,aad]at hW
  repeat(refine gA Z (zI (fun q=>?_) (fun q=>?_));all_goals(try(simp at q;done)))
  refine gA Z ⟨b,(aW j b).2 hW,[],zW (zK (zK ac))⟩
 have d:li ((r.body.getD i em).kind=4)=kw:=d;rw[d,ZR]at hW;refine zJ Z Z (fun w=>?_) fun w=>?_
 .rw[u,kZ j b (hW.trans w)];refine gA Z (zp (SZ 66 (r.body.getD i em).at) ?_);exact zU Z
 .refine gA Z ?_;exact⟨b,(aW j b).2 (hW.trans w),[],zW (zK (zK ac))⟩
def dL(p:Prog)(r:ah)(e lit:Int):Bool:=
 if e=1 then uN r lit else if e=61 then(bu r lit).any (fun x=>lZ p x) else if e=62 then(bu r lit).any (fun x=>nj p x) else if e=65 then dF r lit else if e=64 then dN r lit else lc
theorem YK(p:Prog)(r:ah)(lit e:Int)(hp:p.aD.length<=1000000000)(hf:r.fit)(h1:lit<r.body.length):Pure prog 207 [ag p.c,ag r.c,pI lit,pI e] (pB (dL p r e lit)):=by
 obtain⟨hb,hh,hB⟩:=hf;have Y:=C8 r.head;have S:Lit.az r.body<=r.size:=aaH _ _;refine ae ab func207 Z (by decide) ntmps207 Z (by simp) Z ?_;refine zJ Z Z (fun d=>?_) fun d=>?_
 .have d:e=1:=zT d;have hW:dL p r e lit=uN r lit:=am d;rw[hW];refine zJ Z Z (fun j=>?_) fun j=>?_
  .have j:lit<0:=zT j;have B:uN r lit=(fk r.head).2:=am j;rw[B];refine gA Z (zp (c62 r.head hh (by omega)) ?_);refine gA Z (zL (.of_eq ?_));refine(fV ?_:pB _=pB _);cases(fk r.head).2<;>rfl
  .have j: ¬lit<0:=zF j;have B:uN r lit=(pJ (an r lit)).2:=be j;have J:an r lit∈r.body:=by
    unfold an;rw[Y6,Za (show lit.toNat<r.body.length by omega)];exact ZQ _
   rw[B];refine gA Z (bg (YA (an r lit) (hB _ J)) Z Z Z Z Z Z ?_);refine gA Z (zL (.of_eq ?_));refine(fV ?_:pB _=pB _);cases(pJ (an r lit)).2<;>rfl
 have d: ¬e=1:=zF d;refine zJ Z Z (fun z2=>?_) fun z2=>?_
 .have z2:e=61:=zT z2;have hW:dL p r e lit=(bu r lit).any (fun x=>lZ p x):=by unfold dL;rw[be d,am z2]
  rw[hW];refine gA Z (zp (Xa r lit h1 (by omega)) ?_);refine gA Z ?_;have D:=yV r lit h1;generalize bu r lit=L at*
  refine aw 0 L.length (Zf _) (fun i=>⟨[(3,pI e),(4,.ptr 0 0),(11,.iv (cZ 2 L Atom.c)),(12,pI i)],[(0,io (aj p.c))],2⟩) (fun i=>(L.take i).any (fun x=>lZ p x)=lc) [] (by simp)
   (zW (zK trivial)) fun i I u=>?_
  refine zE Z Z (fun b=>?_) fun b=>?_
  .have b:L.length<=i:=zG b;rw[any_none u b];exact zU Z
  have b:i<L.length:=zN b;refine gA Z (n9 (X7 p (L.getD i em).rel (by omega)) ?_);refine zJ Z Z (fun y=>?_) fun y=>?_
  .refine zJ Z Z (fun F=>?_) fun F=>?_
   .rw[iN b (show lZ p (L.getD i em)=kw from F)]
    repeat(refine gA Z (zI (fun q=>?_) (fun q=>?_));all_goals(try(simp at q;done)))
    exact zU Z
   .refine zJ Z Z (fun A=>?_) fun A=>?_
    .exact absurd (zT A) (by omega)
    repeat(refine gA Z (zI (fun q=>?_) (fun q=>?_));all_goals(try(simp at q;done)))
    refine gA Z ⟨b,(aW u b).2 F,[],zW (zK ac)⟩
  .exact absurd z2 (zF y)
 have z2: ¬e=61:=zF z2;refine zJ Z Z (fun z3=>?_) fun z3=>?_
 .have z3:e=62:=zT z3;have hW:dL p r e lit=(bu r lit).any (fun x=>nj p x):=by unfold dL;rw[be d,be z2,am z3]
  rw[hW];refine gA Z (zp (Xa r lit h1 (by omega)) ?_);refine gA Z ?_;have D:=yV r lit h1;generalize bu r lit=L at*
  refine aw 0 L.length (Zf _) (fun i=>⟨[(3,pI e),(4,.ptr 0 0),(11,.iv (cZ 2 L Atom.c)),(12,pI i)],[(0,io (aj p.c))],2⟩) (fun i=>(L.take i).any (fun x=>nj p x)=lc) [] (by simp)
   (zW (zK trivial)) fun i I u=>?_
  refine zE Z Z (fun b=>?_) fun b=>?_
  .have b:L.length<=i:=zG b;rw[any_none u b];exact zU Z
  have b:i<L.length:=zN b;refine gA Z (n9 (X7 p (L.getD i em).rel (by omega)) ?_);refine zJ Z Z (fun y=>?_) fun y=>?_
  .exact absurd (zT y) z2
  refine zJ Z Z (fun A=>?_) fun A=>?_
  .refine zJ Z Z (fun G=>?_) fun G=>?_
   .rw[iN b (show nj p (L.getD i em)=kw from G)];exact zU Z
   .refine gA Z ?_;exact⟨b,(aW u b).2 G,[],zW (zK ac)⟩
  .exact absurd z3 (zF A)
 have z3: ¬e=62:=zF z3;refine zJ Z Z (fun z4=>?_) fun z4=>?_
 .have z4:e=65:=zT z4;have hW:dL p r e lit=dF r lit:=by unfold dL;rw[be d,be z2,be z3,am z4]
  rw[hW];refine gA Z (zp (Yz r lit h1 (by omega)) ?_);exact zU Z
 have z4: ¬e=65:=zF z4;refine zJ Z Z (fun z5=>?_) fun z5=>?_
 .have z5:e=64:=zT z5;have hW:dL p r e lit=dN r lit:=by unfold dL;rw[be d,be z2,be z3,be z4,am z5]
  rw[hW];refine gA Z (zp (Yy r lit h1 (by omega)) ?_);exact zU Z
 .have z5: ¬e=64:=zF z5;have hW:dL p r e lit=lc:=by unfold dL;rw[be d,be z2,be z3,be z4,be z5]
  rw[hW];exact zU Z
theorem WW(p:Prog)(r:ah)(e:Int)(hp:p.aD.length<=1000000000)(hf:r.fit):Pure prog 174 [ag p.c,ag r.c,pI e] (ag (bJ r e (dL p r e) aZ.z).c):=by
 have u:=Lit.au r.body;have B:Lit.az r.body<=r.size:=aaH _ _;have x:=hf.1;have A:=rA r.body.length;refine ae ab func174 Z (by decide) ntmps174 Z (by simp) Z ?_;refine gA Z ?_;refine aw 0 (r.body.length+1) (Zf _) (fun i=>⟨[(2,pI e),(3,.ptr 0 0),(4,.ptr 1 0),(6,.ptr 2 0),(7,pI ((i:Int)-1))],[(0,io (aj p.c)),(1,io (aj r.c)),(2,io (aj aZ.z.c))],3⟩) (fun i=>((jd r.body.length).take i).any (dL p r e)=lc) [] (by simp)
  (zW (zK (zK (zK trivial)))) fun i D d=>?_
 refine zE Z Z (fun b=>?_) fun b=>?_
 .have b: ¬(i:Int)-1<(r.body.length:Int):=zF b;have j:bJ r e (dL p r e) aZ.z=aZ.z:=by
   unfold bJ vL;rw[eN (any_none d (by omega))]
  rw[j];exact zU Z
 have b:(i:Int)-1<(r.body.length:Int):=zT b;have y:=rB r.body.length i (by omega);refine gA Z (zp (YK p r ((i:Int)-1) e hp hf b) ?_);refine zJ Z Z (fun g=>?_) fun g=>?_
 .rw[mE d (by omega) g];refine gA Z (zp (UZ r ((i:Int)-1) b) ?_);refine gA Z (zp (SZ e (fx r ((i:Int)-1))) ?_);exact zU Z
 .refine gA Z ?_;exact⟨by omega,(aW d (by omega)).2 (by rw[y];exact g),[],zM (bv (bv (bv (bv ⟨.of_eq (FG (by omega)),rfl,ac⟩)))) (zK (zK (zK ac)))⟩
theorem Pz(p:Prog)(i:Nat)(s:ak):bU .str (aC (dM p i)) s 0>0↔s∈dM p i:=by
 rw[bz];constructor
 .intro h;exact oH.1 (by omega)
 .intro h;have:=oH.2 h;omega
theorem PA(p:Prog)(i:Nat)(s:ak):((p.aD.take i).any fun d=>li (d.name=s))=kw↔s∈dM p i:=by
 unfold dM;rw[ZZ,ZK];constructor
 .rintro⟨d,h1,h2⟩;exact⟨d,h1,zT h2⟩
 .rintro⟨d,h1,h2⟩;exact⟨d,h1,decide_eq_true h2⟩
def FI(x:Int):Bool:=li (x=1)||decide (x=2)
def uk(d:Decl)(k:Nat):Bool:=ey d.name&&(d.types.take k).all FI
theorem FJ{d:Decl}{k:Nat}(h:k<d.types.length):uk d (k+1)=(uk d k&&FI (d.types.getD k em)):=by
 unfold uk;rw[ba h,List.all_append,<-acm];simp
theorem IW(d:Decl):uk d d.types.length=lc↔((d.types.any fun x=>!li (x=1)&&!li (x=2))=kw∨ey d.name=lc):=by
 unfold uk;rw[Zh (Zc _),Bool.and_eq_false_iff];have:d.types.all FI=lc↔(d.types.any fun x=>!li (x=1)&&!li (x=2))=kw:=by
  rw[aaV,ZZ];constructor
  .rintro⟨x,h1,h2⟩;refine⟨x,h1,?_⟩;unfold FI at h2;simpa using h2
  .rintro⟨x,h1,h2⟩;refine⟨x,h1,?_⟩;unfold FI;simpa using h2
 rw[this];exact Or.comm
theorem c82(p:Prog)(i:Nat)(hi:i<p.aD.length)(hs:p.size<=10000000):Pure prog 131 [ag p.c,pI i] (pI (dJ p i)):=by
 have S:p.aD.length<=p.size:=by unfold Prog.size;omega
 have Y:(p.aD.getD i em).types.length<=p.size:=by
  have:=rk (fun d:Decl=>d.types.length) p.aD i hi;unfold Prog.size;have h2:(p.aD.getD i em).types.length<=(p.aD.map fun d=>d.types.length).sum:=this;omega
 have hR:dJ p i=if(((p.aD.getD i em).types.any fun x=>!li (x=1)&&!li (x=2))=kw∨ey (p.aD.getD i em).name=lc) then 1 else if(i:Int)>=64∨((p.aD.getD i em).types.length:Int)>8 then 66 else if bU .str (aC (dM p i)) (p.aD.getD i em).name 0>0 then 60 else 0:=rfl;have F:=IW (p.aD.getD i em);have G:=Pz p i (p.aD.getD i em).name;have I:=PA p i (p.aD.getD i em).name;refine ae ab func131 Z (by decide) ntmps131 Z (by simp) Z ?_;refine gA Z (zp (c56 (p.aD.getD i em).name) ?_);refine gA Z ?_;refine aw 0 (p.aD.getD i em).types.length (Zf _) (fun k=>⟨[(1,pI i),(2,.ptr 0 0),(5,.ptr 1 0),(6,pB (uk (p.aD.getD i em) k)),(7,pI k)],[(0,io (aj p.c)),(1,io (aj (p.aD.getD i em).c))],2⟩) (fun _=>True) [] ac
  (zM (bv (bv (bv ⟨.of_eq (fV (by unfold uk;simp)),rfl,bv trivial⟩))) (zK (zK trivial))) fun k J _=>?_
 refine zJ Z Z (fun b=>?_) fun b=>?_
 .have b:k<(p.aD.getD i em).types.length:=zN b;have A:=FJ b
  repeat' (first
   |(refine gA Z (zI (fun q=>?_) (fun q=>?_)))
   |fail)
  all_goals(refine gA Z ?_)
  all_goals first
   |exact⟨b,ac,[],zM (bv (bv (bv ⟨.of_eq (fV (by rw[A];unfold FI;simp_all)),rfl,bv ac⟩))) (zK (zK ac))⟩
   |exact⟨b,ac,[],zM (bv (bv (bv ⟨.rC (by rw[A];unfold FI;simp_all),rfl,bv ac⟩))) (zK (zK ac))⟩
 have b:(p.aD.getD i em).types.length<=k:=zG b;have j:k=(p.aD.getD i em).types.length:=by omega
 subst j;refine zJ Z Z (fun g1=>?_) fun g1=>?_
 .have g1:uk (p.aD.getD i em) (p.aD.getD i em).types.length=lc:=by simpa using g1
  rw[hR,am (F.1 g1)];exact zU Z
 have g1: ¬uk (p.aD.getD i em) (p.aD.getD i em).types.length=lc:=by
  intro h;rw[h]at g1;simp at g1
 rw[be fun h=>g1 (F.2 h)]at hR;refine zE Z Z (fun g2=>?_) fun g2=>?_
 .have g2:(i:Int)>=64:=zT g2;rw[hR,am (.inl g2)]
  repeat(refine gA Z (zI (fun q=>?_) (fun q=>?_));all_goals(try(simp at q;done)))
  exact zU Z
 have g2: ¬(i:Int)>=64:=zF g2;refine zJ Z Z (fun g3=>?_) fun g3=>?_
 .have g3:((p.aD.getD i em).types.length:Int)>8:=zT g3;rw[hR,am (.inr g3)];exact zU Z
 have g3: ¬((p.aD.getD i em).types.length:Int)>8:=zF g3;rw[be (by omega)]at hR;refine gA Z ?_;refine aw 0 i (Zf _) (fun k=>⟨[(1,pI i),(2,.ptr 0 0),(5,.ptr 1 0),(8,pI k)],[(0,io (aj p.c)),(1,io (aj (p.aD.getD i em).c))],2⟩) (fun k=>((p.aD.take k).any fun x=>li (x.name=(p.aD.getD i em).name))=lc) [] (by simp)
  (zW (zK (zK trivial))) fun k J B=>?_
 refine zJ Z Z (fun u=>?_) fun u=>?_
 .have u:k<i:=zN u;have y:k<p.aD.length:=by omega
  refine zJ Z Z (fun w=>?_) fun w=>?_
  .have w:li ((p.aD.getD k em).name=(p.aD.getD i em).name)=kw:=w;have D:(p.aD.getD i em).name∈dM p i:=by
    refine I.1 (ZZ.2 ⟨p.aD.getD k em,?_,w⟩);rw[Y6,Za y];exact abM.2 ⟨k,by omega,rfl⟩
   rw[hR,am (G.2 D)];exact zU Z
  .have w:li ((p.aD.getD k em).name=(p.aD.getD i em).name)=lc:=w;refine gA Z ⟨u,(aW B y).2 w,[],zW (zK (zK ac))⟩
 .have u:i<=k:=zG u;have j:k=i:=by omega
  subst j;rw[hR,be fun h=>by rw[I.2 (G.1 h)]at B;cases B];exact zU Z
theorem k1(p:Prog)(r:ah)(hp:p.aD.length<=1000000000)(hf:r.fit):Pure prog 174 [ag p.c,ag r.c,pI 1] (ag (aZ.c (bJ r 1 (uN r) aZ.z))):=by
 have e:dL p r 1=uN r:=funext fun lit=>am Z;have:=WW p r 1 hp hf;rwa[e]at this
theorem k61(p:Prog)(r:ah)(hp:p.aD.length<=1000000000)(hf:r.fit):Pure prog 174 [ag p.c,ag r.c,pI 61] (ag (aZ.c (bJ r 61 (fun lit=>(bu r lit).any fun x=>lZ p x) aZ.z))):=by
 have e:dL p r 61=fun lit=>(bu r lit).any fun x=>lZ p x:=funext fun lit=>by unfold dL;rw[be (by decide),am Z]
 have:=WW p r 61 hp hf;rwa[e]at this
theorem k62(p:Prog)(r:ah)(hp:p.aD.length<=1000000000)(hf:r.fit):Pure prog 174 [ag p.c,ag r.c,pI 62] (ag (aZ.c (bJ r 62 (fun lit=>(bu r lit).any fun x=>nj p x) aZ.z))):=by
 have e:dL p r 62=fun lit=>(bu r lit).any fun x=>nj p x:=funext fun lit=>by unfold dL;rw[be (by decide),be (by decide),am Z]
 have:=WW p r 62 hp hf;rwa[e]at this
theorem k65(p:Prog)(r:ah)(hp:p.aD.length<=1000000000)(hf:r.fit):Pure prog 174 [ag p.c,ag r.c,pI 65] (ag (aZ.c (bJ r 65 (dF r) aZ.z))):=by
 have e:dL p r 65=dF r:=funext fun lit=>by unfold dL;rw[be (by decide),be (by decide),be (by decide),am Z]
 have:=WW p r 65 hp hf;rwa[e]at this
theorem k64(p:Prog)(r:ah)(hp:p.aD.length<=1000000000)(hf:r.fit):Pure prog 174 [ag p.c,ag r.c,pI 64] (ag (aZ.c (bJ r 64 (dN r) aZ.z))):=by
 have e:dL p r 64=dN r:=funext fun lit=>by unfold dL;rw[be (by decide),be (by decide),be (by decide),be (by decide),am Z]
 have:=WW p r 64 hp hf;rwa[e]at this
theorem IN(a b c:aZ):nf (nf a b) c=nf a (nf b c):=by
 unfold nf;by_cases h:a.1=0
 .rw[am h,am h]
 .rw[be h,be h,be h]
set_option maxHeartbeats 2000000 in
theorem c27(p:Prog)(n:Int)(hf:p.fit):Pure prog 133 [ag p.c,pI n] (ag (if n<1∨(p.rules.length:Int)<n then(1,⟨0,0⟩) else pG p (p.rules.getD (n-1).toNat em) n:aZ).c):=by
 obtain⟨b,J,u⟩:=hf;refine ae ab func133 Z (by decide) ntmps133 Z (by simp) Z ?_;refine zE Z Z (fun g1=>?_) fun g1=>?_
 .have g1:n<1:=zT g1;rw[am (.inl g1)]
  repeat(refine gA Z (zI (fun q=>?_) (fun q=>?_));all_goals(try(simp at q;done)))
  exact zU Z
 have g1: ¬n<1:=zF g1;refine zJ Z Z (fun g2=>?_) fun g2=>?_
 .have g2:n>(p.rules.length:Int):=zT g2;rw[am (.inr g2)];exact zU Z
 have g2: ¬n>(p.rules.length:Int):=zF g2;rw[be (by omega)];have j:(n-1).toNat<p.rules.length:=by omega
 have d:(p.rules.getD (n-1).toNat em).fit:=u _ (by rw[Y6,Za j];exact ZQ j);have S:=d.1;refine gA Z (zp (k1 p (p.rules.getD (n-1).toNat em) b d) ?_);generalize p.rules.getD (n-1).toNat em=r at*
 rw[<-Pp];have hR:KF p r n=nf (nf (nf (nf (nf (nf (bJ r 1 (uN r) aZ.z) (rT r n)) (bJ r 61 (fun lit=>(bu r lit).any fun x=>lZ p x) aZ.z)) (bJ r 62 (fun lit=>(bu r lit).any fun x=>nj p x) aZ.z)) (bJ r 65 (dF r) aZ.z)) (jn r (nG p r))) (bJ r 64 (dN r) aZ.z):=by
  simp only[IN];rfl
 rw[hR];clear hR;generalize y:bJ r 1 (uN r) aZ.z=D0 at*
 refine gM 3 Z (go_cut 1 (fun(_:Unit)=>⟨[(1,pI n),(2,.ptr 0 0),(4,.ptr 1 0),(5,.ptr 2 0),(6,.ptr 3 0)],[(0,io (aj p.c)),(1,io (aj aZ.z.c)),(2,io (aj r.c)),(3,io (aj (aZ.c (nf D0 (rT r n)))))],4⟩) Z ?_ ?_)
 .refine zJ Z Z (fun g=>?_) fun g=>?_
  .have g:ZB D0=0:=zT g;refine gA Z (zp (c67 r n (by omega)) ?_);rw[show nf D0 (rT r n)=(rT r n) from am g];refine gA Z (gB () [] (zW (zK (zK (zK (zK ac))))))
  .have g: ¬ZB D0=0:=zF g;rw[show nf D0 (rT r n)=D0 from be g];refine gA Z (gB () [] (zW (zK (zK (zK (zK ac))))))
 rintro⟨⟩;generalize A:nf D0 (rT r n)=D1 at*
 refine go_cut 1 (fun(_:Unit)=>⟨[(1,pI n),(2,.ptr 0 0),(4,.ptr 1 0),(5,.ptr 2 0),(6,.ptr 3 0)],[(0,io (aj p.c)),(1,io (aj aZ.z.c)),(2,io (aj r.c)),(3,io (aj (aZ.c (nf D1 (bJ r 61 (fun lit=>(bu r lit).any fun x=>lZ p x) aZ.z)))))],4⟩) Z ?_ ?_
 .refine zJ Z Z (fun g=>?_) fun g=>?_
  .have g:ZB D1=0:=zT g;refine gA Z (zp (k61 p r b d) ?_);rw[show nf D1 (bJ r 61 (fun lit=>(bu r lit).any fun x=>lZ p x) aZ.z)=(bJ r 61 (fun lit=>(bu r lit).any fun x=>lZ p x) aZ.z) from am g];refine gA Z (gB () [] (zW (zK (zK (zK (zK ac))))))
  .have g: ¬ZB D1=0:=zF g;rw[show nf D1 (bJ r 61 (fun lit=>(bu r lit).any fun x=>lZ p x) aZ.z)=D1 from be g];refine gA Z (gB () [] (zW (zK (zK (zK (zK ac))))))
 rintro⟨⟩;generalize B:nf D1 (bJ r 61 (fun lit=>(bu r lit).any fun x=>lZ p x) aZ.z)=D2 at*
 refine go_cut 1 (fun(_:Unit)=>⟨[(1,pI n),(2,.ptr 0 0),(4,.ptr 1 0),(5,.ptr 2 0),(6,.ptr 3 0)],[(0,io (aj p.c)),(1,io (aj aZ.z.c)),(2,io (aj r.c)),(3,io (aj (aZ.c (nf D2 (bJ r 62 (fun lit=>(bu r lit).any fun x=>nj p x) aZ.z)))))],4⟩) Z ?_ ?_
 .refine zJ Z Z (fun g=>?_) fun g=>?_
  .have g:ZB D2=0:=zT g;refine gA Z (zp (k62 p r b d) ?_);rw[show nf D2 (bJ r 62 (fun lit=>(bu r lit).any fun x=>nj p x) aZ.z)=(bJ r 62 (fun lit=>(bu r lit).any fun x=>nj p x) aZ.z) from am g];refine gA Z (gB () [] (zW (zK (zK (zK (zK ac))))))
  .have g: ¬ZB D2=0:=zF g;rw[show nf D2 (bJ r 62 (fun lit=>(bu r lit).any fun x=>nj p x) aZ.z)=D2 from be g];refine gA Z (gB () [] (zW (zK (zK (zK (zK ac))))))
 rintro⟨⟩;generalize D:nf D2 (bJ r 62 (fun lit=>(bu r lit).any fun x=>nj p x) aZ.z)=D3 at*
 refine go_cut 1 (fun(_:Unit)=>⟨[(1,pI n),(2,.ptr 0 0),(4,.ptr 1 0),(5,.ptr 2 0),(6,.ptr 3 0)],[(0,io (aj p.c)),(1,io (aj aZ.z.c)),(2,io (aj r.c)),(3,io (aj (aZ.c (nf D3 (bJ r 65 (dF r) aZ.z)))))],4⟩) Z ?_ ?_
 .refine zJ Z Z (fun g=>?_) fun g=>?_
  .have g:ZB D3=0:=zT g;refine gA Z (zp (k65 p r b d) ?_);rw[show nf D3 (bJ r 65 (dF r) aZ.z)=(bJ r 65 (dF r) aZ.z) from am g];refine gA Z (gB () [] (zW (zK (zK (zK (zK ac))))))
  .have g: ¬ZB D3=0:=zF g;rw[show nf D3 (bJ r 65 (dF r) aZ.z)=D3 from be g];refine gA Z (gB () [] (zW (zK (zK (zK (zK ac))))))
 rintro⟨⟩;generalize F:nf D3 (bJ r 65 (dF r) aZ.z)=D4 at*
 refine go_cut 1 (fun(_:Unit)=>⟨[(1,pI n),(2,.ptr 0 0),(4,.ptr 1 0),(5,.ptr 2 0),(6,.ptr 3 0)],[(0,io (aj p.c)),(1,io (aj aZ.z.c)),(2,io (aj r.c)),(3,io (aj (aZ.c (nf D4 (jn r (nG p r))))))],4⟩) Z ?_ ?_
 .refine zJ Z Z (fun g=>?_) fun g=>?_
  .have g:ZB D4=0:=zT g;refine gA Z (zp (c68 p r b (by omega)) ?_);rw[show nf D4 (jn r (nG p r))=(jn r (nG p r)) from am g];refine gA Z (gB () [] (zW (zK (zK (zK (zK ac))))))
  .have g: ¬ZB D4=0:=zF g;rw[show nf D4 (jn r (nG p r))=D4 from be g];refine gA Z (gB () [] (zW (zK (zK (zK (zK ac))))))
 rintro⟨⟩;generalize G:nf D4 (jn r (nG p r))=D5 at*
 refine go_cut 1 (fun(_:Unit)=>⟨[(1,pI n),(2,.ptr 0 0),(4,.ptr 1 0),(5,.ptr 2 0),(6,.ptr 3 0)],[(0,io (aj p.c)),(1,io (aj aZ.z.c)),(2,io (aj r.c)),(3,io (aj (aZ.c (nf D5 (bJ r 64 (dN r) aZ.z)))))],4⟩) Z ?_ ?_
 .refine zJ Z Z (fun g=>?_) fun g=>?_
  .have g:ZB D5=0:=zT g;refine gA Z (zp (k64 p r b d) ?_);rw[show nf D5 (bJ r 64 (dN r) aZ.z)=(bJ r 64 (dN r) aZ.z) from am g];refine gA Z (gB () [] (zW (zK (zK (zK (zK ac))))))
  .have g: ¬ZB D5=0:=zF g;rw[show nf D5 (bJ r 64 (dN r) aZ.z)=D5 from be g];refine gA Z (gB () [] (zW (zK (zK (zK (zK ac))))))
 rintro⟨⟩;generalize I:nf D5 (bJ r 64 (dN r) aZ.z)=D6 at*
 exact zU Z
theorem Yb(p:Prog)(k:Nat)(b:k<p.rules.length)(hf:p.fit):Pure prog 133 [ag p.c,pI ((k:Int)+1)] (ag (p8 p k).c):=by
 have:=c27 p ((k:Int)+1) hf;rw[be (by omega),show((k:Int)+1-1).toNat=k by omega]at this;exact this
theorem Kp{α:Type}(l:List α)(x:α):l.length+1=(l++ [x]).length:=by simp
theorem Ko{α:Type}{β:Type _}(f:α->β)(l:List α)(x:α):l.map f++ [f x]=(l++ [x]).map f:=by simp
set_option maxHeartbeats 1000000 in
theorem c41(p:Prog)(hf:p.fit)(hs:p.size<=10000000):Pure prog 103 [ag p.c] (.iv (cZ 3 (jl p) aZ.c)):=by
 have y:=hf.1;have A:=hf.2.1;refine ae ab func103 Z (by decide) ntmps103 Z (by simp) Z ?_;refine gA Z ?_;refine fY 3 3 Z ?_;refine aw 0 p.aD.length (Zf _) (fun i=>⟨[(1,.ptr 0 0),(3,.sl 2 0 (jq p i).length 3),(4,pI i)],[(0,io (aj p.c)),(2,io (aE 3 (jq p i) aZ.c))],3⟩) (fun _=>True) [1] ac
  (zW (zK (zS trivial))) fun i B _=>?_
 have D:=DF p i;refine zJ Z Z (fun j=>?_) fun j=>?_
 .have j:i<p.aD.length:=zN j;refine gA Z (zp (c82 p i j hs) ?_);refine zJ Z Z (fun g=>?_) fun g=>?_
  .have g: ¬dJ p i=0:=zX g;have b:jq p (i+1)=jq p i++ [(dJ p i,(p.aD.getD i em).at_)]:=by rw[jq,be g]
   refine gA Z (zp (SZ (dJ p i) (p.aD.getD i em).at_) ?_);refine gA Z ⟨j,ac,[4],zM (bv ⟨.row (by rw[b,Y8];rfl),rfl,bv ac⟩) (zK (hR Z (by rw[b,Ze];rfl) Z ac))⟩
  .have g:dJ p i=0:=zY g;have b:jq p (i+1)=jq p i:=by rw[jq,am g,ZL]
   refine gA Z ⟨j,ac,[2],zM (bv ⟨.row (by rw[b]),rfl,bv ac⟩) (zK (hR Z (by rw[b]) Z ac))⟩
 have j:p.aD.length<=i:=zG j;have u:i=p.aD.length:=by omega
 subst u;refine gA Z ?_;refine aw 0 p.rules.length (Zf _) (fun i=>⟨[(1,.ptr 0 0),(3,.sl 3 0 (jq p p.aD.length++kq p i).length 3),(6,pI ((i:Int)+1))],[(0,io (aj p.c)),(3,io (aE 3 (jq p p.aD.length++kq p i) aZ.c))],4⟩) (fun _=>True) [2] ac
  (zM (bv ⟨.row (by rw[kq,ZL]),rfl,bv trivial⟩) (zK (hR Z (by rw[kq,ZL]) Z trivial))) fun i B _=>?_
 have F:=Dv p i;have x:(jq p p.aD.length++kq p i).length=(jq p p.aD.length).length+(kq p i).length:=Y8;refine zJ Z Z (fun d=>?_) fun d=>?_
 .have d:(i:Int)+1<=(p.rules.length:Int):=zT d;have d:i<p.rules.length:=by omega
  refine gA Z (zp (Yb p i d hf) ?_);refine zJ Z Z (fun g=>?_) fun g=>?_
  .have g: ¬(p8 p i).1=0:=zX g;have b:jq p p.aD.length++kq p (i+1)=(jq p p.aD.length++kq p i)++ [p8 p i]:=by rw[kq,be g,Zj]
   refine gA Z ⟨d,ac,[6],zM (bv ⟨.row (by rw[b];exact Kp _ _),rfl,.of_eq (FG (by omega)),rfl,ac⟩) (zK (hR Z (by rw[b];exact Ko _ _ (p8 p i)) Z ac))⟩
  .have g:(p8 p i).1=0:=zY g;have b:kq p (i+1)=kq p i:=by rw[kq,am g,ZL]
   refine gA Z ⟨d,ac,[3],zM (bv ⟨.row (by rw[b]),rfl,.of_eq (FG (by omega)),rfl,ac⟩) (zK (hR Z (by rw[b]) Z ac))⟩
 have d: ¬(i:Int)+1<=(p.rules.length:Int):=zF d;have u:i=p.rules.length:=by omega
 subst u;refine gA Z (cS (by first|exact .inr Z|exact .inl Z) Z Z (rfl) (rfl))
theorem c25(p:Prog)(hf:p.fit)(hs:p.size<=10000000):Pure prog 61 [ag p.c] (ag (dB p).c):=by
 refine ae ab func61 Z (by decide) ntmps61 Z (by simp) Z ?_;refine gA Z (zp (c41 p hf hs) ?_);have hC:dB p=(jl p).headD aZ.z:=rfl;rw[hC];generalize jl p=L at*
 refine zJ Z Z (fun g=>?_) fun g=>?_
 .have g:(L.length:Int)=0:=zT g;have:L=[]:=ZY (by omega);subst this;exact zU Z
 .have g: ¬(L.length:Int)=0:=zF g;refine gA Z (zL (.of_eq ?_));cases L with
  |nil=>simp at g
  |cons d l=>rfl
theorem V8{p:Prog}(hf:nk p):Pure prog 63 [.iv (cZ 1 (dX (ns p).length (gF p (c5 p))) (lF aY))] (.iv (fI p)):=by
 refine V7 (vq hf) (gF p (c5 p)) (Go.Rg.ed (ns p) (eg p)) fun i j b d=>?_;rw[ZW,Go.Rg.Cy,decide_eq_true_eq];unfold eg gF;constructor
 .rintro⟨_,_,h⟩;have h:gD (c5 p) (vD p i) (vD p j)≠0:=zT h;omega
 .intro h;exact⟨b,d,decide_eq_true (show gD (c5 p) (vD p i) (vD p j)≠0 by omega)⟩
theorem Pn(p:Prog)(hb:p.fit)(hs:p.size<=10000000):Pure prog 27 [ag p.c] (ag (dU p).c):=by
 have I:p.rules.length<=1000000000:=hb.2.1;refine ae ab func27 Z (by decide) ntmps27 Z (by simp) Z ?_;refine gA Z (zp (c25 p hb hs) ?_);refine zJ Z Z (fun k1=>?_) fun k1=>?_
 .have k1: ¬(dB p).1=0:=zX k1;rw[dU,am k1];exact zU Z
 have k1:(dB p).1=0:=zY k1;have A:=Cw k1;rw[dU,be (by simpa using k1)];have y: ∀i,i<p.rules.length->(p.rules.map (gQ p)).getD i em=gQ p (p.rules.getD i em):=fun i F=>by
  rw[Y6,Zg,Za F,Y6,Za F];rfl
 have j:(p.rules.map (gQ p)).length=p.rules.length:=ZE _;refine gA Z (zp (Pe A) ?_);refine gA Z (zp (Ph A hb) ?_);refine gA Z (zp (V8 A) ?_);refine gA Z ?_;refine aw 0 p.rules.length (Zf _) (fun i=>⟨[(1,.ptr 0 0),(2,.ptr 1 0),(4,.iv (strs (ns p))),(5,.iv (fI p)),(6,pI i)],[(0,io (aj p.c)),(1,io (aj aZ.z.c))],3⟩) (fun i=>((p.rules.map (gQ p)).take i).any (fun d=>li (d.1≠0))=lc) [] (by simp)
  (zW (zK (zK trivial))) fun i F B=>?_
 refine zJ Z Z (fun b=>?_) fun b=>?_
 .have b:=ci b;have G:=cv b;have x:=hb.2.2 _ G;have D:=y i b;refine gA Z (zp (O7 A G x.1) ?_);refine zJ Z Z (fun u=>?_) fun u=>?_
  .have u: ¬(gQ p (p.rules.getD i em)).1=0:=zX u;rw[kZ B (by rw[j];exact b) (by rw[D];exact decide_eq_true u),D];exact zU Z
  .have u:(gQ p (p.rules.getD i em)).1=0:=zY u;refine gA Z ⟨b,(aW B (by rw[j];exact b)).2 (by rw[D];simpa using u),[],zW (zK (zK ac))⟩
 .have b:=co b;rw[eN (any_none B (by rw[j];exact b))];exact zU Z
theorem UK{D:List Bool}{i:Nat}(hi:i<D.length):CP (D.set i kw)=fun j=>CP D j||decide ((j:Int)=(i:Int)):=by
 funext j
 unfold CP;rw[Y6,Y6,ZV];by_cases h:i=j
 .subst h;rw[am Z,am hi,decide_eq_true Z,abi];rfl
 .rw[be h,decide_eq_false (by omega),aaK]
theorem Cj(k a:List ak):aH (k++a)=fun x=>aH k x||aH a x:=by
 funext x
 unfold aH;rw[List.any_append]
theorem UL(n:Nat):CP (aa5 n lc)=fun _=>lc:=by
 funext j
 unfold CP;rw[Y6,abe];split<;>rfl
structure SJ (r:ah) (fstv:Int) (all:List dI) (n:Nat) (D:List Bool) (k:List ak) (L:List dI):Prop where
 dl:D.length=r.body.length
 ll:L.length=n
 kl:k.length<=1000000000+n*2000000
 rest:L++oP r fstv (r.body.length-n) (CP D) (aH k)=all
theorem Q6(r:ah)(s:dI){i:Nat}(hs:s.lit=i)(hi:i<r.body.length)(hb:r.size<=2000000):(rX r s).length<=2000000:=by
 have b:(r.body.getD i em).size<=2000000:=by have:=Lit.aF r.body i hi;unfold ah.size at hb;omega
 have j:=(r.body.getD i em).size_eq;have d:=dw (r.body.getD i em).atom;unfold rX;split
 .rw[hs];show(bn (r.body.getD i em).atom).length<=_;omega
 .split
  .simp
  .simp
def eH(p:Prog)(n:Int):Int:=if n<1∨n>p.rules.length then 1 else if(dU p).1≠0 then 4 else 0
theorem vh{p:Prog}{n:Int}(h:eH p n=0):1<=n∧n<=p.rules.length∧(dU p).1=0:=by
 unfold eH at h;split at h
 .cases h
 .rename_i d;split at h
  .cases h
  .rename_i b;exact⟨by omega,by omega,ab3.1 b⟩
theorem KA(p:Prog)(n:Int)(hb:p.fit)(hs:p.size<=10000000):Pure prog 69 [ag p.c,pI n] (pI (eH p n)):=by
 have d:p.rules.length<=1000000000:=hb.2.1;refine ae ab func69 Z (by decide) ntmps69 Z (by simp) Z ?_;refine zE Z Z (fun g1=>?_) fun g1=>?_
 .have g1:n<1:=zT g1;rw[show eH p n=1 by unfold eH;rw[am (.inl g1)]];exact zU Z
 have g1: ¬n<1:=zF g1;refine zJ Z Z (fun g2=>?_) fun g2=>?_
 .have g2:n>p.rules.length:=zT g2;rw[show eH p n=1 by unfold eH;rw[am (.inr g2)]];exact zU Z
 have g2: ¬n>p.rules.length:=zF g2;have b:eH p n=if(dU p).1≠0 then 4 else 0:=by unfold eH;rw[be (fun g=>g.elim g1 g2)]
 refine gA Z (zp (Pn p hb hs) ?_);refine zJ Z Z (fun k1=>?_) fun k1=>?_
 .have k1:(dU p).1≠0:=by
   have k1:(!li ((dU p).1=0))=kw:=k1;simpa using k1
  rw[b,am k1];exact zU Z
 .have k1: ¬(dU p).1≠0:=by
   have k1:(!li ((dU p).1=0))=lc:=k1;simpa using k1
  rw[b,be k1];exact zU Z
def LL(r:ah)(l:List ak)(i:Nat):Bool:=aH (outer r) (l.getD i em)&&!aH (l.take i) (l.getD i em)
def lD(r:ah)(l:List ak):Bool:=(Zy l.length).all (LL r l)
theorem wW{r:ah}{l:List ak}{i:Nat}(hi:i<l.length)(h:LL r l i=lc):lD r l=lc:=
 aaV.2 ⟨i,aam.2 hi,by rw[h];exact ZN⟩
theorem CU{r:ah}{l:List ak}(h: ∀i,i<l.length->LL r l i=kw):lD r l=kw:=
 ZA.2 fun i b=>h i (aam.1 b)
theorem TN(r:ah)(l:List ak)(hb:r.size<=10000000)(F:l.length<=1000000000):Pure prog 75 [ag r.c,.iv (strs l)] (pB (lD r l)):=by
 refine ae ab func75 Z (by decide) ntmps75 Z (by simp) Z ?_;refine gA Z (zp (S1 r (by omega)) ?_);refine gA Z ?_;refine aw 0 l.length (Zf _) (fun i=>⟨[(1,.iv (strs l)),(5,.iv (strs (outer r))),(6,pI i)],[],1⟩) (fun i=> ∀j,j<i->LL r l j=kw) [] (fun j hj=>absurd hj (aaj j))
  (zW trivial) fun i D A=>?_
 refine zE Z Z (fun b=>?_) fun b=>?_
 .have b:=co b;rw[CU fun j hj=>A j (by omega)];exact zU Z
 have b:=ci b;have y:aK (.iv (.de 1 i fun k=>cz (l.getD k em))) (.iv (strs (l.take i))):=by
  refine .de (by rw[ZP];omega) fun k B=>?_;rw[Y6,Y6,Z6,am B]
 have x:=(Dt (l.take i) (l.getD i em)).le (aa:=[.iv (.de 1 i fun k=>cz (l.getD k em)),pS (l.getD i em)]) ⟨y,.refl _,ac⟩;refine gA Z (zp (Dt (outer r) (l.getD i em)) ?_);refine gA Z (UD (p:= .iv (.de 1 i fun k=>cz (l.getD k em))) 2 Z Z Z Z Z Z (My (m:=i) ab Z Z Z Z Z Z Z (by omega)) ?_);refine gA Z (n9 (x) ?_);refine zJ Z Z (fun d=>?_) fun d=>?_
 .have d:aH (outer r) (l.getD i em)=kw:=zB d;refine zJ Z Z (fun u=>?_) fun u=>?_
  .have u:aH (l.take i) (l.getD i em)=kw:=u;rw[wW b (by unfold LL;rw[d,u];rfl)];exact zU Z
  .have u:aH (l.take i) (l.getD i em)=lc:=u;refine gA Z ?_
   exact⟨b,fun j hj=>by
    rcases ZS.1 hj with hj|hj
    .exact A j hj
    .subst hj;unfold LL;rw[d,u];rfl,[],zW trivial⟩
 .have d:aH (outer r) (l.getD i em)=lc:=zA d;rw[wW b (by unfold LL;rw[d];rfl)];exact zU Z
abbrev bT(p:Prog)(n:Int):ah:=p.rules.getD (n-1).toNat em
abbrev Ha(x:nh×Int):PV:= .bQ [ag x.1.c,pI x.2]
theorem zP(e:Int):aK (.bQ [.agg [pI 0,pI 0,.iv (.v (.slice jp 0 0)),.iv (.v (.slice jp 0 0))],pI e]) (Ha (nh.z,e)):= .bQ ⟨.agg ⟨.refl _,.refl _,.nil _ _,.nil _ _,ac⟩,.refl _,ac⟩
def iq(r:ah)(fstv:Int):Prop:=fstv< -1∨fstv>=r.body.length∨(0<=fstv∧(r.body.getD fstv.toNat em).kind≠1)
instance (r:ah)(fstv:Int):Decidable (iq r fstv):=inferInstanceAs (Decidable (_∨_))
def Dg(r:ah)(fstv:Int)(k:List ak):List dI:=oP r fstv r.body.length (fun _=>lc) (aH k)
def uo(p:Prog)(n fstv:Int):nh×Int:=if eH p n≠0 then(nh.z,eH p n) else if iq (bT p n) fstv then(nh.z,90) else(⟨n,fstv,[],Dg (bT p n) fstv []⟩,0)
def qC(p:Prog)(n:Int)(l:List ak):nh×Int:=if eH p n≠0 then(nh.z,eH p n) else if lD (bT p n) l=lc then(nh.z,90) else(⟨n, -1,l,Dg (bT p n) (-1) l⟩,0)
def tv(p:Prog)(n:Int):nh×Int:=if eH p n≠0 then(nh.z,eH p n) else qC p n (bn (bT p n).head)
theorem BN{p:Prog}{n:Int}(h:eH p n=0):bT p n∈p.rules:=cv (by have:=vh h;omega)
theorem GG{α:Type}(f:α->Nat): ∀{l:List α} {x:α},x∈l->f x<=(l.map f).sum
 |y::l,x,h=>by
  rw[Zr,aaW];rcases Zq.1 h with rfl|h
  .omega
  .have:=GG f h;omega
theorem p7{p:Prog}{n:Int}(h:eH p n=0):(bT p n).size<=p.size:=by
 have:=GG ah.size (BN h);unfold Prog.size;omega
theorem KE(l:List ak)(hb:l.length<=1000000000000):Pure prog 76 [.iv (.v (.slice jp 0 0)),.iv (strs l)] (.iv (strs l)):=
 (Sz [] l (by simp only[aai];omega)).le ⟨.nil _ _,.refl _,ac⟩
theorem xJ{α:Type}[Inhabited α]{a b:List α}(x:a.length=b.length)(h: ∀j,j<a.length->a.getD j em=b.getD j em):a=b:=by
 refine List.ext_getElem x fun j d u=>?_;have:=h j d;rwa[Y6,Y6,Za d,Za u]at this
theorem BF{a b:dI}(h1:a.kind=b.kind)(h2:a.lit=b.lit)(h3:a.var=b.var)(d:a.dh=b.dh):a=b:=by
 cases a;cases b;simp only at h1 h2 h3 d;subst h1 h2 h3 d;rfl
theorem u5(a b:dI)(hb:a.dh.length<=1000000000000):Pure prog 74 [ag a.c,ag b.c] (pB (li (a=b))):=by
 have no: ∀{α:Type} {f:dI->α},¬f a=f b->li (a=b)=lc:=fun h=>decide_eq_false fun g=>h (by rw[g]);refine ae ab func74 Z (by decide) ntmps74 Z (by simp) Z ?_;refine zE Z Z (fun g1=>?_) fun g1=>?_
 .have g1: ¬a.kind=b.kind:=zX g1;rw[no (f:=dI.kind) g1];exact zU Z
 have g1:a.kind=b.kind:=zY g1;refine zE Z Z (fun g2=>?_) fun g2=>?_
 .have g2: ¬a.lit=b.lit:=zX g2;rw[no (f:=dI.lit) g2];exact zU Z
 have g2:a.lit=b.lit:=zY g2;refine zE Z Z (fun g3=>?_) fun g3=>?_
 .have g3: ¬a.var=b.var:=zX g3;rw[no (f:=dI.var) g3];exact zU Z
 have g3:a.var=b.var:=zY g3;refine zJ Z Z (fun g4=>?_) fun g4=>?_
 .have g4: ¬a.dh.length=b.dh.length:=by
   have g4:(!li ((a.dh.length:Int)=b.dh.length))=kw:=g4;simp at g4;omega
  rw[no (f:=fun x=>x.dh.length) g4];exact zU Z
 have g4:a.dh.length=b.dh.length:=by
  have g4:(!li ((a.dh.length:Int)=b.dh.length))=lc:=g4;simp at g4;omega
 refine gA Z ?_;refine aw 0 a.dh.length (Zf _) (fun i=>⟨[(2,.ptr 0 0),(3,.ptr 1 0),(5,pI i)],[(0,io (aj a.c)),(1,io (aj b.c))],2⟩) (fun i=> ∀j,j<i->a.dh.getD j em=b.dh.getD j em) [] (fun j y=>absurd y (aaj j))
  (zW (zK (zK trivial))) fun i B A=>?_
 refine zJ Z Z (fun u=>?_) fun u=>?_
 .have u:=ci u;refine zJ Z Z (fun d=>?_) fun d=>?_
  .have d: ¬a.dh.getD i em=b.dh.getD i em:=zX d;rw[no (f:=fun x=>x.dh.getD i em) d];exact zU Z
  .have d:a.dh.getD i em=b.dh.getD i em:=zY d;refine gA Z ⟨u,fun j y=>(ZS.1 y).elim (A j) (fun e=>e▸d),[],zW (zK (zK ac))⟩
 .have u:=co u;rw[decide_eq_true (BF g1 g2 g3 (xJ g4 fun j y=>A j (by omega)))];exact zU Z
theorem Ui{a b:nh}(h1:a.dY=b.dY)(h2:a.first=b.first)(h3:a.given=b.given)(d:a.steps=b.steps):a=b:=by
 cases a;cases b;simp only at h1 h2 h3 d;subst h1 h2 h3 d;rfl
structure nh.fit (a:nh):Prop where
 g:a.given.length<=1000000000
 s:a.steps.length<=1000000000
 c: ∀s∈a.steps,s.dh.length<=1000000000
theorem IE(a b:nh)(hb:a.fit):Pure prog 37 [ag a.c,ag b.c] (pB (li (a=b))):=by
 have no: ∀{α:Type} {f:nh->α},¬f a=f b->li (a=b)=lc:=fun h=>decide_eq_false fun g=>h (by rw[g]);have D:=hb.g;have F:=hb.s;refine ae ab func37 Z (by decide) ntmps37 Z (by simp) Z ?_;refine zE Z Z (fun g1=>?_) fun g1=>?_
 .have g1: ¬a.dY=b.dY:=zX g1;rw[no (f:=nh.dY) g1];exact zU Z
 have g1:a.dY=b.dY:=zY g1;refine zE Z Z (fun g2=>?_) fun g2=>?_
 .have g2: ¬a.first=b.first:=zX g2;rw[no (f:=nh.first) g2];exact zU Z
 have g2:a.first=b.first:=zY g2;refine zE Z Z (fun g3=>?_) fun g3=>?_
 .have g3: ¬a.given.length=b.given.length:=by
   have g3:(!li ((a.given.length:Int)=b.given.length))=kw:=g3;simp at g3;omega
  rw[no (f:=fun x=>x.given.length) g3];exact zU Z
 have g3:a.given.length=b.given.length:=by
  have g3:(!li ((a.given.length:Int)=b.given.length))=lc:=g3;simp at g3;omega
 refine zJ Z Z (fun g4=>?_) fun g4=>?_
 .have g4: ¬a.steps.length=b.steps.length:=by
   have g4:(!li ((a.steps.length:Int)=b.steps.length))=kw:=g4;simp at g4;omega
  rw[no (f:=fun x=>x.steps.length) g4];exact zU Z
 have g4:a.steps.length=b.steps.length:=by
  have g4:(!li ((a.steps.length:Int)=b.steps.length))=lc:=g4;simp at g4;omega
 refine gA Z ?_;refine aw 0 a.given.length (Zf _) (fun i=>⟨[(2,.ptr 0 0),(3,.ptr 1 0),(5,pI i)],[(0,io (aj a.c)),(1,io (aj b.c))],2⟩) (fun i=> ∀j,j<i->a.given.getD j em=b.given.getD j em) [] (fun j u=>absurd u (aaj j))
  (zW (zK (zK trivial))) fun i J B=>?_
 refine zJ Z Z (fun A=>?_) fun A=>?_
 .have A:=ci A;refine zJ Z Z (fun d=>?_) fun d=>?_
  .have d: ¬a.given.getD i em=b.given.getD i em:=zX d;rw[no (f:=fun x=>x.given.getD i em) d];exact zU Z
  .have d:a.given.getD i em=b.given.getD i em:=zY d;refine gA Z ⟨A,fun j u=>(ZS.1 u).elim (B j) (fun e=>e▸d),[],zW (zK (zK ac))⟩
 have A:=co A;have I:=xJ g3 fun j u=>B j (by omega);refine gA Z ?_
 refine aw 0 a.steps.length (Zf _) (fun i=>⟨[(2,.ptr 0 0),(3,.ptr 1 0),(6,pI i)],[(0,io (aj a.c)),(1,io (aj b.c))],2⟩) (fun i=> ∀j,j<i->a.steps.getD j em=b.steps.getD j em) [] (fun j u=>absurd u (aaj j))
  (zW (zK (zK trivial))) fun i J B=>?_
 refine zJ Z Z (fun y=>?_) fun y=>?_
 .have y:=ci y;have G:=hb.c _ (cv y);refine gA Z (n9 (u5 (a.steps.getD i em) (b.steps.getD i em) (by omega)) ?_);refine zJ Z Z (fun d=>?_) fun d=>?_
  .have d: ¬a.steps.getD i em=b.steps.getD i em:=zX d;rw[no (f:=fun x=>x.steps.getD i em) d];exact zU Z
  .have d:a.steps.getD i em=b.steps.getD i em:=zY d;refine gA Z ⟨y,fun j u=>(ZS.1 u).elim (B j) (fun e=>e▸d),[],zW (zK (zK ac))⟩
 .have y:=co y;rw[decide_eq_true (Ui g1 g2 I (xJ g4 fun j u=>B j (by omega)))];exact zU Z
end Go.Proofs.YtflegjieadkonaaGreatDoor
namespace Go.Proofs.YtflegjieadkonaaGreatDoor
open Go Go.Al Go.Proofs.Tryz Go.ChangeShapes Go.WideShapes Go.RowKit
section
theorem QF:prog.cellsOf 53=1:=by kernel_rfl
theorem QC:prog.cellsOf 60=1:=by kernel_rfl
theorem Qz:prog.cellsOf 62=4:=by kernel_rfl
theorem EV:prog.cellsOf 119=4:=by kernel_rfl
section
variable {H:Type} {enc:TypeId×Value->H} {W:World} {hT:pL W} {sp:Nat->Bool} {held:Bool}
def Y1(x:dI)(d:DataW H):Prop:=x.dh.length<=bk d
def Y3(x:nh)(d:DataW H):Prop:=x.given.length<=bk d∧x.steps.length<=bk d∧ ∀s∈x.steps,s.dh.length<=bk d
theorem PC(n:Nat):Rd enc prog W hT sp held 9 cz (fun _ _=>True) n:=by
 intro m d b y h;obtain⟨z,j,_⟩:=jL (hT:=hT) underlying9 n m d b y h;exact⟨z,j,ac⟩
theorem Ua(n:Nat):Rd enc prog W hT sp held 119 dI.c Y1 n:=by
 intro m _ S y h;obtain⟨J,k,rfl,rfl,F,G,j⟩:=DataW.trod_struct underlying119 h
 match J,G with
 | [x0,x1,x2,x3],_=>
  obtain⟨a,u,_,_⟩:=js (hT:=hT) underlying3 k k (Zc _) _ _ (n8 j 0 Z Z Z iV Z);obtain⟨b,x,_,_⟩:=js (hT:=hT) underlying3 k k (Zc _) _ _ (n8 j 1 Z Z Z iV Z);obtain⟨c,A,I⟩:=(iZ (hT:=hT) underlying47 iV (by decide) (fun _=>rfl) (G6 k)).mono (abv k) k (Zc _) _ _ (n8 j 2 Z Z Z H2 Z);obtain⟨d,B,_,_⟩:=jL (hT:=hT) underlying9 k k (Zc _) _ _ (n8 j 3 Z Z Z qU Z);refine⟨⟨a,b,c,d⟩,u.fm (o':=1) Z (x.fm (o':=2) Z (A.fm (o':=3) Z (B.fm (o':=4) Z (.end_ (F.trans EV))))),?_⟩;have D:=I.len;simp only[bk]at D;simp only[Y1,bk,Zr,Z0,Rows.uptoBulk,Rows.uptoBulkAll];omega
theorem Ub(n:Nat):Rd enc prog W hT sp held 62 nh.c Y3 n:=by
 intro m _ cs y h;obtain⟨xs,k,rfl,rfl,S,hx,j⟩:=DataW.trod_struct underlying62 h
 match xs,hx with
 | [x0,x1,x2,x3],_=>
  obtain⟨a,x,_,_⟩:=js (hT:=hT) underlying3 k k (Zc _) _ _ (n8 j 0 Z Z Z iV Z);obtain⟨b,A,_,_⟩:=js (hT:=hT) underlying3 k k (Zc _) _ _ (n8 j 1 Z Z Z iV Z);obtain⟨c,B,qc⟩:=(iZ (hT:=hT) underlying53 qU (by decide) (fun _=>rfl) (PC k)).mono (abv k) k (Zc _) _ _ (n8 j 2 Z Z Z QF Z);obtain⟨d,D,u⟩:=(iZ (hT:=hT) underlying60 EV (by decide) (fun _=>rfl) (Ua k)).mono (abv k) k (Zc _) _ _ (n8 j 3 Z Z Z QC Z);refine⟨⟨a,b,c,d⟩,x.fm (o':=1) Z (A.fm (o':=2) Z (B.fm (o':=3) Z (D.fm (o':=4) Z (.end_ (S.trans Qz))))),?_⟩;have F:=qc.len;have G:=u.len;simp only[bk]at F G;refine⟨?_,?_,fun s Y=>?_⟩
  .simp only[bk,Zr,Z0,Rows.uptoBulk,Rows.uptoBulkAll];omega
  .simp only[bk,Zr,Z0,Rows.uptoBulk,Rows.uptoBulkAll];omega
  .obtain⟨e,I,J⟩:=u.all s Y;simp only[Y1,bk]at I J;simp only[bk,Zr,Z0,Rows.uptoBulk,Rows.uptoBulkAll];omega
end
theorem PQ{H:Type}{p:nh}{d:DataW H}(h:Y3 p d)(hb:bk d<=1048576):p.fit:=by
 obtain⟨u,x,b⟩:=h;exact⟨by omega,by omega,fun s j=>by have:=b s j;omega⟩
theorem MV{H:Type}{enc:TypeId×Value->H}{W:World}(hT:pL W){v:Value}{d:DataW H}{p:List MemPlace}(b: ∃base,Value.okWide prog W .any base 62 v)(h:DataW.Trod enc prog W 0 (fun _=>kw) kw 62 v d p):
  ∃x:nh,Y3 x d∧VR (Mem.rS W hT) Wo (· <0) (ag x.c) v:=by
 obtain⟨base,b⟩:=b;obtain⟨A,rfl,_⟩:=okWide_struct underlying62 b;obtain⟨n,y⟩:=h;obtain⟨r,j,u⟩:=Ub (hT:=hT) n n (Zc _) _ _ y;exact⟨r,u,j.agg⟩
end
end Go.Proofs.YtflegjieadkonaaGreatDoor
namespace Go.Proofs.YtflegjieadkonaaGreatDoor
open Go Go.Al Go.Proofs.Tryz
mutual
def bw:Expr->List ak
 | .mk k v _ _ args=>(if k=1 then[v] else[])++mT args
def mT:List Expr->List ak
 | []=> []
 |e::r=>bw e++mT r
end
theorem qM: ∀l:List Expr,mT l=l.flatMap bw
 | []=>rfl
 |e::r=>by simp only[mT,ZX,qM r]
theorem tB(e:Expr):bw e=(if e.kind=1 then[e.var] else[])++e.args.flatMap bw:=by
 cases e with
 |mk k v val op args=>simp only[bw,Expr.kind,Expr.var,Expr.args,qM];rfl
mutual
theorem ir: ∀e:Expr,(bw e).length<=e.size
 | .mk k v _ _ args=>by
  have:=pg args;simp only[bw,Expr.size,Y8];split
  .simp;omega
  .simp;omega
theorem pg: ∀l:List Expr,(mT l).length<=Expr.az l
 | []=>by simp[mT]
 |e::r=>by
  have b:=ir e;have d:=pg r;simp only[mT,Expr.az,Y8];omega
end
theorem sX: ∀(n:Nat) (e:Expr) (occ:List ak),e.size<=n->occ.length+e.size<=1000000000000000->bW prog 107 [ag e.c,.mp 0] [cx (aC occ)] (.bQ []) [(0,io (cx (aC (occ++bw e))))] 1
 |0,e,_,h,_=>by have:=e.size_pos;omega
 |n+1,e,occ,h,hb=>by
  refine bW.le (args:=[ag e.c1,.mp 0]) ?_ ⟨e.xd,.refl _,ac⟩;have j:=tB e;have G:=e.size_eq;have F:=bz occ e.var;have D:=fa occ e.var;have B:=Expr.au e.args;have rest: ∀a0:List ak,a0.length<=1->bw e=a0++e.args.flatMap bw-> ∀i,i<e.args.length->(occ++a0++(e.args.take i).flatMap bw).length+(e.args.getD i em).size<=1000000000000000:=fun a0 J _ i x=>by
   have A:=Expr.b3 e.args i x;have I:=pg (e.args.take i);rw[qM]at I;rw[Y8,Y8];omega
  refine aB ab func107 Z (by decide) ntmps107 Z (by simp) ?_;refine zJ Z Z (fun d=>?_) fun d=>?_
  .have d:e.kind=1:=zT d;rw[am d]at j;refine gA Z ?_;refine aw 0 e.args.length (Zf _) (fun i=>⟨[(1,.mp 0),(2,.ptr 1 0),(15,.iv (cZ 7 e.args Expr.c)),(16,pI e.args.length),(17,pI i)],[(0,io (cx (aC (occ++ [e.var]++(e.args.take i).flatMap bw))))],2⟩) (fun _=>True) [] ac
    (zW (hM Z (by rw[List.take_zero,abX,ZL,cU];rfl) Z trivial)) fun i x _=>?_
   refine zJ Z Z (fun b=>?_) fun b=>?_
   .have b:=ci b;have y:=bE (f:=bw) b;have A:=Expr.b3 e.args i b;refine gA Z (bM [0] (sX n (e.args.getD i em) _ (by omega) (rest [e.var] (by simp) j i b)) Z Z Z Z Z Z Z Z ?_);refine gA Z ⟨b,ac,[],zW (hM Z (by rw[y,Zj]) Z ac)⟩
   .have b:=co b;have u:e.args.take i=e.args:=Zh b;refine gA Z (zD [] Z (zW (hM Z (by rw[j,u,Zj]) Z ac)))
  .have d: ¬e.kind=1:=zF d;rw[be d]at j;refine gA Z ?_;refine aw 0 e.args.length (Zf _) (fun i=>⟨[(1,.mp 0),(2,.ptr 1 0),(15,.iv (cZ 7 e.args Expr.c)),(16,pI e.args.length),(17,pI i)],[(0,io (cx (aC (occ++ []++(e.args.take i).flatMap bw))))],2⟩) (fun _=>True) [] ac
    (zW (hM Z (by simp) Z trivial)) fun i x _=>?_
   refine zJ Z Z (fun b=>?_) fun b=>?_
   .have b:=ci b;have y:=bE (f:=bw) b;have A:=Expr.b3 e.args i b;refine gA Z (bM [0] (sX n (e.args.getD i em) _ (by omega) (rest [] (by simp) j i b)) Z Z Z Z Z Z Z Z ?_);refine gA Z ⟨b,ac,[],zW (hM Z (by rw[y,Zj]) Z ac)⟩
   .have b:=co b;have u:e.args.take i=e.args:=Zh b;refine gA Z (zD [] Z (zW (hM Z (by rw[j,u,Zj]) Z ac)))
def dA(l:Lit):List ak:=cL l.atom++(bw l.left++bw l.right)
theorem tn(l:Lit):(dA l).length<=l.size:=by
 have b:=iE l.atom;have d:=ir l.left;have j:=ir l.right;have u:=l.size_eq;unfold dA;rw[Y8,Y8];omega
theorem KB(l:Lit)(occ:List ak)(hb:occ.length+l.size<=1000000000000000):bW prog 108 [ag l.c,.mp 0] [cx (aC occ)] (.bQ []) [(0,io (cx (aC (occ++dA l))))] 1:=by
 have F:=l.size_eq;have y:=iE l.atom;have B:=ir l.left;refine aB ab func108 Z (by decide) ntmps108 Z (by simp) ?_;refine gA Z ?_;refine aw 0 l.atom.ad.length (Zf _) (fun i=>⟨[(1,.mp 0),(2,.ptr 1 0),(8,.iv (cZ 5 l.atom.ad Term.c)),(9,pI l.atom.ad.length),(10,pI i)],[(0,io (cx (aC (occ++(l.atom.ad.take i).flatMap fun t=>if t.kind=1 then[t.var] else[])))),(1,io (aj l.c))],2⟩) (fun _=>True) [] ac
  (zW (hM Z (by simp) Z (zK trivial))) fun i G _=>?_
 have A:=tX (l.atom.ad.take i);simp only[ZP]at A;refine zJ Z Z (fun b=>?_) fun b=>?_
 .have b:=ci b;have j:=bE (f:=fun t:Term=>if t.kind=1 then[t.var] else[]) b;have D:=bz (occ++(l.atom.ad.take i).flatMap fun t=>if t.kind=1 then[t.var] else[]) (l.atom.ad.getD i em).var;have u:=fa (occ++(l.atom.ad.take i).flatMap fun t=>if t.kind=1 then[t.var] else[]) (l.atom.ad.getD i em).var;rw[Y8]at u;refine zJ Z Z (fun d=>?_) fun d=>?_
  .have d:(l.atom.ad.getD i em).kind=1:=zT d;rw[am d]at j;refine gA Z ⟨b,ac,[],zW (hM Z (by rw[j,<-Zj,cU];rfl) Z (zK ac))⟩
  .have d: ¬(l.atom.ad.getD i em).kind=1:=zF d;rw[be d,ZL]at j;refine gA Z ⟨b,ac,[],zW (hM Z (by rw[j]) Z (zK ac))⟩
 have b:=co b;have x:l.atom.ad.take i=l.atom.ad:=Zh b;rw[x];refine gA Z (bM [0] (sX _ l.left (occ++cL l.atom) (Zc _) (by rw[Y8];omega)) Z Z Z Z Z Z Z Z ?_);refine gA Z (bM [0] (sX _ l.right (occ++cL l.atom++bw l.left) (Zc _) (by rw[Y8,Y8];omega)) Z Z Z Z Z Z Z Z ?_);refine gA Z (zD [] Z (zW (hM Z (by unfold dA;rw[Zj,Zj]) Z ac)))
abbrev WD:=List ((KC.int .i64).K×Int)
abbrev xk(m:WD):AO:= .map (.int .i64) A8 0 (.int .i64 0) Xw m
abbrev wO(r:ah)(br:IV):AO:= .cells [.iv (iS r.head.rel),.iv (cZ 5 r.head.ad Term.c),.iv (lits r.body),.iv (iI r.at_.line),.iv (iI r.at_.zy),.mp 1,.iv br,.mp 2]
abbrev Nj(r:ah)(br:IV)(b:List ak)(dm:WD):List AO:=[wO r br,cx (aC b),xk dm]
abbrev wH(r:ah)(br:IV)(b:List ak)(dm:WD):AH:=[(0,io (wO r br)),(1,io (cx (aC b))),(2,io (xk dm))]
theorem ld{occ:List ak}{s:ak}:li (bU .str (aC occ) s 0=0)=!aH occ s:=by
 rw[cI,Bool.not_not]
theorem uG{occ:List ak}{s:ak}:li (bU .str (aC occ) s 0>0)=aH occ s:=by
 have h:=bz occ s;rw[cI,<-decide_not,decide_eq_decide];omega
theorem hW{n:Nat}{σ:Nat->Nat}{h:AH}{r:ah}{br:IV}{m:NM}{d:List ak}{dm b:WD}{rest:AH}(h0:h.get (σ 0)=io (.cells [.iv (iS r.head.rel),.iv (cZ 5 r.head.ad Term.c),.iv (lits r.body),.iv (iI r.at_.line),.iv (iI r.at_.zy),.mp (σ 1),.iv br,.mp (σ 2)]))
  (h1:h.get (σ 1)=io (cx m)) (h2:h.get (σ 2)=io (xk dm)) (e1:m=aC d) (e2:dm=b) (j:(wO r br).low n) (hb:Zs 2 n=kw) (hr:n7 n σ h rest):n7 n σ h ((0,io (wO r br))::(1,io (cx (aC d)))::(2,io (xk b))::rest):=by
 subst e1 e2;have u:2<n:=Y5 hb;exact⟨⟨_,h0,.of_eq Z⟩,by omega,j,⟨_,h1,.of_eq Z⟩,by omega,ac,⟨_,h2,.of_eq Z⟩,u,ac,hr⟩
theorem zH{n:Nat}{σ:Nat->Nat}{h:AH}{r:ah}{br:IV}{m:NM}{d:List ak}{dm b:WD}{rest:AH}(hr:n7 n σ h rest)(h0:h.get (σ 0)=io (.cells [.iv (iS r.head.rel),.iv (cZ 5 r.head.ad Term.c),.iv (lits r.body),.iv (iI r.at_.line),.iv (iI r.at_.zy),.mp (σ 1),.iv br,.mp (σ 2)]):=by exact rfl)
  (h1:h.get (σ 1)=io (cx m):=by exact rfl) (h2:h.get (σ 2)=io (xk dm):=by exact rfl) (e1:m=aC d:=by exact rfl) (e2:dm=b:=by exact rfl) (j:(wO r br).low n:=by exact rfl) (hb:Zs 2 n=kw:=by exact rfl):n7 n σ h ((0,io (wO r br))::(1,io (cx (aC d)))::(2,io (xk b))::rest):=hW h0 h1 h2 e1 e2 j hb hr
theorem Fx(r:ah)(br:IV)(d u:List ak)(dm:WD)(hb:u.length<=1000000000000000):bW prog 179 [.ptr 0 0,.iv (CO (aC u))] (Nj r br d dm) (pB (u.all (aH d))) (wH r br d dm) 3:=by
 refine aB ab func179 Z (by decide) ntmps179 Z (by simp) ?_;refine gA Z ?_;refine jy (aC u) (fun B=>⟨[(0,.ptr 0 0),(7,.ptr 3 0)],[(0,io (wO r br)),(1,io (cx (aC d))),(2,io (xk dm)),(3,io (.cF .str A8 (aC u) B jp))],4⟩) (fun B=> ∀j∈B,∀x,(aC u)[j]? =io x->aH d x.1=kw) [] (by simp)
  (zW (zH (hI Z Z (.inl Z) Z trivial))) fun B I=>?_
 refine nV Z ac (fZ Z Z Z Z Z (by decide) (fun A=>?_) fun j x F J=>?_)
 .have D:u.all (aH d)=kw:=ZA.2 fun t D=>all_keys (p:=fun t=>aH d t=kw) A I t D
  rw[D];refine gA Z (zD [] Z (zW (zH ac)))
 .refine zJ Z Z (fun b=>?_) fun b=>?_
  .have b:aH d x.1=lc:=by
    have b:li (bU .str (aC d) x.1 0=0)=kw:=b;rw[ld]at b;simpa using b
   rw[show u.all (aH d)=lc from aaV.2 ⟨x.1,uv F,by rw[b];exact ZN⟩];refine gA Z (zD [] Z (zW (zH ac)))
  .have b:aH d x.1=kw:=by
    have b:li (bU .str (aC d) x.1 0=0)=lc:=b;rw[ld]at b;simpa using b
   refine gA Z ?_
   exact⟨j,x,F,J,fun i hi y G=>by
    rcases Zq.1 hi with rfl|hi
    .rw[F]at G;cases G;exact b
    .exact I i hi y G,[],zW (zH (hI Z Z (.inr Z) Z ac))⟩
def uY(K:ak->Bool)(l:Lit)(i:Int):Option dI:=if(dA l).all K=kw then io ⟨2,i,[],Zd⟩ else jp
theorem Kw(r:ah)(br:IV)(b:List ak)(dm:WD)(i:Nat)(hi:i<r.body.length)(hb:r.size<=10000000):
  bW prog 138 [.ptr 0 0,pI i] (Nj r br b dm) (CG (uY (aH b) (r.body.getD i em) i)) (wH r br b dm) 3:=by
 have j:(r.body.getD i em).size<=10000000:=by have:=Lit.aF r.body i hi;unfold ah.size at hb;omega
 have u:=tn (r.body.getD i em);refine aB ab func138 Z (by decide) ntmps138 Z (by simp) ?_;refine gM 10 Z (fO [] (t:=⟨[(0,.ptr 0 0),(1,pI i),(4,.ptr 3 0),(6,.mp 4)],[(0,io (wO r br)),(1,io (cx (aC b))),(2,io (xk dm)),(3,io (aj SE)),(4,io (cx (aC [])))],5⟩) (zW (zH (zK (Jf Z (fun _=> .v _) Z ac)))) ?_);refine gA Z (bM [4] (KB (r.body.getD i em) [] (by simp only[aai];omega)) Z Z Z Z Z Z Z Z ?_);refine gA Z (L4 4 Z ?_);refine bM [0,1,2] (Fx r br b (dA (r.body.getD i em)) dm (by omega)) Z Z Z Z Z Z Z Z ?_;unfold uY;refine zJ Z Z (fun d=>?_) fun d=>?_
 .have d:(dA (r.body.getD i em)).all (aH b)=lc:=zA d;rw[be (by rw[d];exact ZN)];refine gA Z (zD [] Z (zM ⟨IY,rfl,ac⟩ (zH ac)))
 .have d:(dA (r.body.getD i em)).all (aH b)=kw:=zB d;rw[am d];refine gA Z (zD [] Z (zM ⟨sE _ _ _ _,rfl,ac⟩ (zH ac)))
abbrev BM:=List ((KC.int .i64).K×List ak)
abbrev zl(m:BM):IV:= .eI (.int .i64) strs [] (.slice jp 0 0) m
def Bq(K:ak->Bool)(b:List ak)(l:Lit)(i:Int):Option dI:=if b.all K=kw then(if K l.a8=kw then io ⟨2,i,[],Zd⟩ else io ⟨3,i,[],l.a8⟩) else jp
theorem We(r:ah)(y:BM)(b:List ak)(dm:WD)(i:Nat)(hi:i<r.body.length)(hb:r.size<=10000000)(D:(bU (.int .i64) y (i:Int) []).length<=1000000000):
  bW prog 140 [.ptr 0 0,pI i] (Nj r (zl y) b dm) (CG (Bq (aH b) (bU (.int .i64) y (i:Int) []) (r.body.getD i em) i)) (wH r (zl y) b dm) 3:=by
 generalize A:bU (.int .i64) y (i:Int) []=bs at D ⊢;refine aB ab func140 Z (by decide) ntmps140 Z (by simp) ?_;refine gA Z ?_;refine aw 0 bs.length (Zf _) (fun j=>⟨[(0,.ptr 0 0),(1,pI i),(4,.ptr 3 0),(14,.iv (strs bs)),(15,pI bs.length),(16,pI j)],[(0,io (wO r (zl y))),(1,io (cx (aC b))),(2,io (xk dm)),(3,io (aj SE))],4⟩) (fun j=>(bs.take j).all (aH b)=kw) [] Z
  (zM (bv (bv (bv ⟨.of_eq (by rw[<-A];rfl),rfl,.of_eq (by rw[<-A];rfl),rfl,bv trivial⟩))) (zH (zK trivial))) fun j G B=>?_
 refine zJ Z Z (fun x=>?_) fun x=>?_
 .have x:=ci x;refine zJ Z Z (fun d=>?_) fun d=>?_
  .have d:aH b (bs.getD j em)=lc:=by
    have d:li (bU .str (aC b) (bs.getD j em) 0=0)=kw:=d;rw[ld]at d;simpa using d
   rw[show Bq (aH b) bs (r.body.getD i em) i=jp from be (by rw[aaC];exact aaV.2 ⟨_,cv x,by rw[d];exact ZN⟩)];refine gA Z (zD [] Z (zM ⟨IY,rfl,ac⟩ (zH ac)))
  .have d:aH b (bs.getD j em)=kw:=by
    have d:li (bU .str (aC b) (bs.getD j em) 0=0)=lc:=d;rw[ld]at d;simpa using d
   refine gA Z ⟨x,(lg B x).2 d,[],zW (zH (zK ac))⟩
 have x:=co x;rw[Zh x]at B;have F:Bq (aH b) bs (r.body.getD i em) i=if aH b (r.body.getD i em).a8=kw then io ⟨2,i,[],Zd⟩ else io ⟨3,i,[],(r.body.getD i em).a8⟩:=am B;refine zJ Z Z (fun u=>?_) fun u=>?_
 .have u:aH b (r.body.getD i em).a8=kw:=by
   have u:li (bU .str (aC b) (r.body.getD i em).a8 0>0)=kw:=u;rwa[uG]at u
  rw[F,am u];refine gA Z (zD [] Z (zM ⟨sE _ _ _ _,rfl,ac⟩ (zH ac)))
 .have u:aH b (r.body.getD i em).a8=lc:=by
   have u:li (bU .str (aC b) (r.body.getD i em).a8 0>0)=lc:=u;rwa[uG]at u
  rw[F,be (by rw[u];exact ZN)];refine gA Z (zD [] Z (zM ⟨sE _ _ _ _,rfl,ac⟩ (zH ac)))
theorem TO(r:ah)(br:IV)(b:List ak)(dm:WD)(i:Nat)(hi:i<r.body.length)(hb:r.size<=10000000):
  bW prog 137 [.ptr 0 0,pI i] (Nj r br b dm) (CG (io ⟨1,i,ki (aH b) (r.body.getD i em).atom,Zd⟩)) (wH r br b dm) 3:=by
 have I:(r.body.getD i em).size<=10000000:=by have:=Lit.aF r.body i hi;unfold ah.size at hb;omega
 have G:=(r.body.getD i em).size_eq;generalize B:(r.body.getD i em).atom=a at G ⊢;refine aB ab func137 Z (by decide) ntmps137 Z (by simp) ?_;refine gA Z ?_;refine jg 4 2 1 Z Z ?_;refine aw 0 a.ad.length (Zf _) (fun j=>⟨[(0,.ptr 0 0),(1,pI i),(4,.ptr 3 0),(6,.ptr 4 0),(20,.iv (cZ 5 a.ad Term.c)),(21,pI a.ad.length),(22,pI j)],[(0,io (wO r br)),(1,io (cx (aC b))),(2,io (xk dm)),(3,io (aj SE)),(4,io (.cells [pI 1,pI i,.sl 6 0 (mU (aH b) a j).length 1,pS Zd])),(6,io (aE 1 (mU (aH b) a j) aY))],7⟩) (fun _=>True) [5] ac
  (zM (bv (bv (bv (bv ⟨.of_eq (by rw[<-B];rfl),rfl,.of_eq (by rw[<-B];rfl),rfl,bv trivial⟩)))) (zH (zK (zO (zS trivial))))) fun j S _=>?_
 have J:=ER (aH b) a j;refine zJ Z Z (fun u=>?_) fun u=>?_
 .have u:=ci u;have D:Fh (aH b) (a.ad.getD j em)=lc->mU (aH b) a (j+1)=mU (aH b) a j:=HV;have x:Fh (aH b) (a.ad.getD j em)=kw->mU (aH b) a (j+1)=mU (aH b) a j++ [(j:Int)]:=EP;refine zJ Z Z (fun y=>?_) fun y=>?_
  .have y:li ((a.ad.getD j em).kind=2)=kw:=y;have h:=x (by unfold Fh;rw[y];rfl);refine gA Z ⟨u,ac,[9],zW (zH (zK ⟨⟨_,rfl,.cells ⟨.refl _,.refl _,.row (by rw[h,Y8];rfl),.refl _,ac⟩⟩,Y5 Z,rfl,hR Z (by rw[h,Ze];rfl) Z ac⟩))⟩
  .have y:li ((a.ad.getD j em).kind=2)=lc:=y;refine zJ Z Z (fun A=>?_) fun A=>?_
   .have A:li ((a.ad.getD j em).kind=1)=kw:=A;refine zJ Z Z (fun d=>?_) fun d=>?_
    .have d:aH b (a.ad.getD j em).var=kw:=by
      have d:li (bU .str (aC b) (a.ad.getD j em).var 0>0)=kw:=d;rwa[uG]at d
     have h:=x (by unfold Fh;rw[A,d];simp);refine gA Z ⟨u,ac,[9],zW (zH (zK ⟨⟨_,rfl,.cells ⟨.refl _,.refl _,.row (by rw[h,Y8];rfl),.refl _,ac⟩⟩,Y5 Z,rfl,hR Z (by rw[h,Ze];rfl) Z ac⟩))⟩
    .have d:aH b (a.ad.getD j em).var=lc:=by
      have d:li (bU .str (aC b) (a.ad.getD j em).var 0>0)=lc:=d;rwa[uG]at d
     have h:=D (by unfold Fh;rw[y,d];simp);refine gA Z ⟨u,ac,[6],zW (zH (zK ⟨⟨_,rfl,.cells ⟨.refl _,.refl _,.row (by rw[h]),.refl _,ac⟩⟩,Y5 Z,rfl,hR Z (by rw[h]) Z ac⟩))⟩
   .have A:li ((a.ad.getD j em).kind=1)=lc:=A;have h:=D (by unfold Fh;rw[y,A];rfl);refine gA Z ⟨u,ac,[6],zW (zH (zK ⟨⟨_,rfl,.cells ⟨.refl _,.refl _,.row (by rw[h]),.refl _,ac⟩⟩,Y5 Z,rfl,hR Z (by rw[h]) Z ac⟩))⟩
 have u:=co u;have F:j=a.ad.length:=by omega
 rw[F];refine gA Z ⟨.inr Z,_,rfl,jC.xQ 6 (mU (aH b) a a.ad.length) aY Z Z ⟨⟨ac,ac,by simp[PV.bX],ac,ac⟩,ac,ac⟩ (.done ⟨_,_,_,[],⟨rfl,rfl,rfl⟩,zM ⟨.bQ ⟨.agg ⟨.refl _,.refl _,?_,.refl _,ac⟩,.refl _,ac⟩,rfl,ac⟩ (zH ac)⟩)⟩;show aK (.iv (.de 1 (mU (aH b) a a.ad.length).length fun k=>aY ((mU (aH b) a a.ad.length).getD (0+k) em))) (.iv (cZ 1 (ki (aH b) a) aY));simp only[Zu];exact .refl _
def fJ(K:ak->Bool)(e o:Expr):Bool:=li (e.kind=1)&&(!K e.var&&(bw o).all K)
def yK(K:ak->Bool)(l:Lit)(i:Int):Option dI:=
 if(dA l).all K=kw then io ⟨2,i,[],Zd⟩
 else if l.op≠1 then jp
 else if fJ K l.left l.right=kw then io ⟨3,i,[],l.left.var⟩
 else if fJ K l.right l.left=kw then io ⟨3,i,[],l.right.var⟩
 else jp
abbrev BH(l:Lit):List PV:=l.left.c.map .iv++l.right.c.map .iv
abbrev cmF(l:Lit)(i j:Nat):AF:=[(0,.ptr 0 0),(1,pI i),(4,.ptr 3 0),(9,.ptr 6 0),(38,.agg (BH l)),(39,pI j)]
abbrev X0(r:ah)(br:IV)(b:List ak)(dm:WD)(l:Lit)(h:AH):AH:=(0,io (wO r br))::(1,io (cx (aC b)))::(2,io (xk dm))::(3,io (aj SE))::(6,io (.cells (BH l)))::h
set_option maxHeartbeats 2000000 in
theorem Wb(r:ah)(br:IV)(b:List ak)(dm:WD)(i:Nat)(hi:i<r.body.length)(hb:r.size<=10000000):
  bW prog 139 [.ptr 0 0,pI i] (Nj r br b dm) (CG (yK (aH b) (r.body.getD i em) i)) (wH r br b dm) 3:=by
 have I:(r.body.getD i em).size<=10000000:=by have:=Lit.aF r.body i hi;unfold ah.size at hb;omega
 have J:=(r.body.getD i em).size_eq;have B:=Kw r br b dm i hi hb;unfold uY at B;cases hA:(dA (r.body.getD i em)).all (aH b) with
 |true=>
  rw[hA,am Z]at B;rw[show yK (aH b) (r.body.getD i em) i=io ⟨2,i,[],Zd⟩ from am hA];refine aB ab func139 Z (by decide) ntmps139 Z (by simp) ?_;refine gA Z (bM [0,1,2] B Z Z Z Z Z Z Z Z ?_);refine zJ Z Z (fun D=>?_) fun D=>?_
  .refine gA Z (zD [] Z (zW (zH ac)))
  .exact absurd D (show¬(kw=lc) by decide)
 |false=>
  rw[hA,be ZN]at B;have x:yK (aH b) (r.body.getD i em) i=if(r.body.getD i em).op≠1 then jp else if fJ (aH b) (r.body.getD i em).left (r.body.getD i em).right=kw then io ⟨3,i,[],(r.body.getD i em).left.var⟩ else if fJ (aH b) (r.body.getD i em).right (r.body.getD i em).left=kw then io ⟨3,i,[],(r.body.getD i em).right.var⟩ else jp:=by
   unfold yK;rw[hA,be ZN]
  refine aB ab func139 Z (by decide) ntmps139 Z (by simp) ?_;refine gA Z (bM [0,1,2] B Z Z Z Z Z Z Z Z ?_);refine zJ Z Z (fun D=>?_) fun D=>?_
  .exact absurd D (show¬(lc=kw) by decide)
  refine zJ Z Z (fun u=>?_) fun u=>?_
  .have u:(r.body.getD i em).op≠1:=by
    have u:(!li ((r.body.getD i em).op=1))=kw:=u;simpa using u
   rw[x,am u];refine gA Z (zD [] Z (zM ⟨IY,rfl,ac⟩ (zH ac)))
  have u: ¬(r.body.getD i em).op≠1:=by
   have u:(!li ((r.body.getD i em).op=1))=lc:=u;simpa using u
  rw[be u]at x;refine gA Z ?_;refine aw 0 2 (Zf _) (fun j=>⟨cmF (r.body.getD i em) i j,X0 r br b dm (r.body.getD i em) [],7⟩) (fun j=>(1<=j->fJ (aH b) (r.body.getD i em).left (r.body.getD i em).right=lc)∧(2<=j->fJ (aH b) (r.body.getD i em).right (r.body.getD i em).left=lc)) [] ⟨fun h=>absurd h (by decide),fun h=>absurd h (by decide)⟩
   (zW (zH (zK (zO trivial)))) fun j S A=>?_
  refine zE Z Z (fun y=>?_) fun y=>?_
  .have y:2<=j:=by have:=zF y;omega
   rw[be (by rw[A.1 (by omega)];exact ZN),be (by rw[A.2 y];exact ZN)]at x;rw[x];refine gA Z (zD [] Z (zM ⟨IY,rfl,ac⟩ (zH ac)))
  have y:j<2:=by have:=zT y;omega
  match j,y,A with
  |0,_,A=>
   refine gA Z (L1 (n:=0) ab Z Z Z Z Z Z Z (by decide) Z Z ?_);refine gM 9 Z (fO [] (t:=⟨[(0,.ptr 0 0),(1,pI i),(4,.ptr 3 0),(9,.ptr 6 0),(10,pI 0),(11,.ptr 7 0),(12,.mp 8),(38,.agg (BH (r.body.getD i em))),(39,pI 0)],X0 r br b dm (r.body.getD i em) [(7,io (aj (r.body.getD i em).left.c)),(8,io (cx (aC [])))],9⟩) (zW (zH (zK (zO (zK (Jf Z (fun _=> .v _) Z ac)))))) ?_);refine gA Z (bM [8] (sX _ (r.body.getD i em).right [] (Zc _) (by simp only[aai];omega)) Z Z Z Z Z Z Z Z ?_);refine gM 1 Z (xh 8 Z ?_);have F:=ir (r.body.getD i em).right;have no:fJ (aH b) (r.body.getD i em).left (r.body.getD i em).right=lc->(0<2∧((1<=0+1->fJ (aH b) (r.body.getD i em).left (r.body.getD i em).right=lc)∧(2<=0+1->fJ (aH b) (r.body.getD i em).right (r.body.getD i em).left=lc))):=fun h=>⟨by decide,fun _=>h,fun h=>absurd h (by decide)⟩
   refine zE Z Z (fun g1=>?_) fun g1=>?_
   .have g1:li ((r.body.getD i em).left.kind=1)=lc:=g1;have d:=no (by unfold fJ;rw[g1];rfl);refine gA Z ⟨d.1,d.2,[],zW (zH (zK (zO ac)))⟩
   have g1:li ((r.body.getD i em).left.kind=1)=kw:=g1;refine zE Z Z (fun g2=>?_) fun g2=>?_
   .have g2:aH b (r.body.getD i em).left.var=kw:=by
     have g2:li (bU .str (aC b) (r.body.getD i em).left.var 0=0)=lc:=g2;rw[ld]at g2;simpa using g2
    have d:=no (by unfold fJ;rw[g2];simp);refine gA Z ⟨d.1,d.2,[],zW (zH (zK (zO ac)))⟩
   have g2:aH b (r.body.getD i em).left.var=lc:=by
    have g2:li (bU .str (aC b) (r.body.getD i em).left.var 0=0)=kw:=g2;rw[ld]at g2;simpa using g2
   refine gA Z (zd [0,1,2] (Fx r br b (bw (r.body.getD i em).right) dm (by omega)) ?_);refine zJ Z Z (fun g3=>?_) fun g3=>?_
   .have g3:(bw (r.body.getD i em).right).all (aH b)=kw:=g3;have G:fJ (aH b) (r.body.getD i em).left (r.body.getD i em).right=kw:=by unfold fJ;rw[g1,g2,g3];rfl
    rw[am G]at x;rw[x];refine gA Z (zD [] Z (zM ⟨sE _ _ _ _,rfl,ac⟩ (zH ac)))
   .have g3:(bw (r.body.getD i em).right).all (aH b)=lc:=g3;have d:=no (by unfold fJ;rw[g3];simp);refine gA Z ?_;exact⟨d.1,d.2,[],zW (zH (zK (zO ac)))⟩
  |1,_,A=>
   refine gA Z (L1 (n:=1) ab Z Z Z Z Z Z Z (by decide) Z Z ?_);refine gM 9 Z (fO [] (t:=⟨[(0,.ptr 0 0),(1,pI i),(4,.ptr 3 0),(9,.ptr 6 0),(10,pI 1),(11,.ptr 7 0),(12,.mp 8),(38,.agg (BH (r.body.getD i em))),(39,pI 1)],X0 r br b dm (r.body.getD i em) [(7,io (aj (r.body.getD i em).right.c)),(8,io (cx (aC [])))],9⟩) (zW (zH (zK (zO (zK (Jf Z (fun _=> .v _) Z ac)))))) ?_);refine gA Z (bM [8] (sX _ (r.body.getD i em).left [] (Zc _) (by simp only[aai];omega)) Z Z Z Z Z Z Z Z ?_);refine gM 1 Z (xh 8 Z ?_);have F:=ir (r.body.getD i em).left;have no:fJ (aH b) (r.body.getD i em).right (r.body.getD i em).left=lc->(1<2∧((1<=1+1->fJ (aH b) (r.body.getD i em).left (r.body.getD i em).right=lc)∧(2<=1+1->fJ (aH b) (r.body.getD i em).right (r.body.getD i em).left=lc))):=fun h=>⟨by decide,fun _=>A.1 (by decide),fun _=>h⟩
   refine zE Z Z (fun g1=>?_) fun g1=>?_
   .have g1:li ((r.body.getD i em).right.kind=1)=lc:=g1;have d:=no (by unfold fJ;rw[g1];rfl);refine gA Z ⟨d.1,d.2,[],zW (zH (zK (zO ac)))⟩
   have g1:li ((r.body.getD i em).right.kind=1)=kw:=g1;refine zE Z Z (fun g2=>?_) fun g2=>?_
   .have g2:aH b (r.body.getD i em).right.var=kw:=by
     have g2:li (bU .str (aC b) (r.body.getD i em).right.var 0=0)=lc:=g2;rw[ld]at g2;simpa using g2
    have d:=no (by unfold fJ;rw[g2];simp);refine gA Z ⟨d.1,d.2,[],zW (zH (zK (zO ac)))⟩
   have g2:aH b (r.body.getD i em).right.var=lc:=by
    have g2:li (bU .str (aC b) (r.body.getD i em).right.var 0=0)=kw:=g2;rw[ld]at g2;simpa using g2
   refine gA Z (zd [0,1,2] (Fx r br b (bw (r.body.getD i em).left) dm (by omega)) ?_);refine zJ Z Z (fun g3=>?_) fun g3=>?_
   .have g3:(bw (r.body.getD i em).left).all (aH b)=kw:=g3;have G:fJ (aH b) (r.body.getD i em).right (r.body.getD i em).left=kw:=by unfold fJ;rw[g1,g2,g3];rfl
    rw[be (by rw[A.1 (by decide)];exact ZN),am G]at x;rw[x];refine gA Z (zD [] Z (zM ⟨sE _ _ _ _,rfl,ac⟩ (zH ac)))
   .have g3:(bw (r.body.getD i em).left).all (aH b)=lc:=g3;have d:=no (by unfold fJ;rw[g3];simp);refine gA Z ⟨d.1,d.2,[],zW (zH (zK (zO ac)))⟩
abbrev Xr(n k:Nat):List PV:=[pI n,.du (.func k) [] []]
abbrev JR:AO:= .row 2 [Xr 1 137,Xr 2 138,Xr 3 139,Xr 4 140]
theorem l4(n:Nat):JR.low n:=by
 intro k e b
 match k,b with
 |0,b=>cases b;rfl
 |1,b=>cases b;rfl
 |2,b=>cases b;rfl
 |3,b=>cases b;rfl
 |k+4,b=>cases b
theorem Ku:bW prog 114 [] [] (.sl 0 0 4 2) [(0,io JR)] 1:=by
 refine aB ab func114 Z (by decide) ntmps114 Z (by simp) ?_;refine gA Z (zD [0] Z (zW ⟨⟨_,rfl,.of_eq Z⟩,Y5 Z,l4 _,ac⟩))
def lH(K:ak->Bool)(b:BM)(l:Lit)(i:Int):Option dI:=
 if l.kind=1 then io ⟨1,i,ki K l.atom,Zd⟩
 else if l.kind=2 then uY K l i
 else if l.kind=3 then yK K l i
 else if l.kind=4 then Bq K (bU (.int .i64) b i []) l i
 else jp
theorem Sy(r:ah)(x:BM)(u:List ak)(dm:WD)(i:Nat)(hi:i<r.body.length)(hb:r.size<=10000000)(A:(bU (.int .i64) x (i:Int) []).length<=1000000000):
  bW prog 81 [.ptr 0 0,pI i] (Nj r (zl x) u dm) (CG (lH (aH u) x (r.body.getD i em) i)) (wH r (zl x) u dm) 3:=by
 refine aB ab func81 Z (by decide) ntmps81 Z (by simp) ?_;refine gA Z (zq [] (Ku) ?_);have B:(r.body.getD i em).size<=10000000:=by have:=Lit.aF r.body i hi;unfold ah.size at hb;omega
 refine gA Z ?_;refine aw 0 4 (Zf _) (fun j=>⟨[(0,.ptr 0 0),(1,pI i),(4,.ptr 3 0),(8,.sl 4 0 4 2),(9,pI 4),(10,pI j)],[(0,io (wO r (zl x))),(1,io (cx (aC u))),(2,io (xk dm)),(3,io (aj SE)),(4,io JR)],5⟩) (fun j=> ∀n:Nat,n<j-> ¬(r.body.getD i em).kind=(n+1:Nat)) [] (fun n hn=>absurd hn (aaj n))
  (zW (zH (zK ⟨⟨_,rfl,.of_eq Z⟩,Y5 Z,l4 _,ac⟩))) fun j G d=>?_
 refine zE Z Z (fun y=>?_) fun y=>?_
 .have y:4<=j:=by have:=zF y;omega
  have D: ¬(r.body.getD i em).kind=1:=d 0 (by omega);have a2: ¬(r.body.getD i em).kind=2:=d 1 (by omega);have a3: ¬(r.body.getD i em).kind=3:=d 2 (by omega);have a4: ¬(r.body.getD i em).kind=4:=d 3 (by omega);rw[show lH (aH u) x (r.body.getD i em) i=jp by unfold lH;rw[be D,be a2,be a3,be a4]];refine gA Z (zD [] Z (zM ⟨IY,rfl,ac⟩ (zH ac)))
 have y:j<4:=by have:=zT y;omega
 have step: ∀j:Nat,(∀n:Nat,n<j-> ¬(r.body.getD i em).kind=(n+1:Nat))-> ¬(r.body.getD i em).kind=(j+1:Nat)-> ∀n:Nat,n<j+1-> ¬(r.body.getD i em).kind=(n+1:Nat):=fun j h F n hn=>by
  rcases ZS.1 hn with hn|hn
  .exact h n hn
  .subst hn;exact F
 match j,y,d with
 |0,_,d=>
  refine gM 6 Z (bB ab Z Z Z Z Z (rfl) Z Z ?_);refine zJ Z Z (fun b=>?_) fun b=>?_
  .have b:(r.body.getD i em).kind=1:=by
    have b:li ((1:Int)=(r.body.getD i em).kind)=kw:=b;exact(zT b).symm
   rw[show lH (aH u) x (r.body.getD i em) i=io ⟨1,i,ki (aH u) (r.body.getD i em).atom,Zd⟩ by unfold lH;rw[am b]];refine gA Z (bM [0,1,2] (TO r (zl x) u dm i hi hb) Z Z Z Z Z Z Z Z ?_);refine gA Z (zD [] Z (zW (zH ac)))
  .have b: ¬(r.body.getD i em).kind=((0+1:Nat):Int):=by
    have b:li ((1:Int)=(r.body.getD i em).kind)=lc:=b;exact fun g=>zF b g.symm
   refine gA Z ?_;exact⟨by decide,step 0 d b,[],zW (zH (zK ⟨⟨_,rfl,.of_eq Z⟩,Y5 Z,l4 _,ac⟩))⟩
 |1,_,d=>
  refine gM 6 Z (bB ab Z Z Z Z Z (rfl) Z Z ?_);refine zJ Z Z (fun b=>?_) fun b=>?_
  .have b:(r.body.getD i em).kind=2:=by
    have b:li ((2:Int)=(r.body.getD i em).kind)=kw:=b;exact(zT b).symm
   rw[show lH (aH u) x (r.body.getD i em) i=uY (aH u) (r.body.getD i em) i by unfold lH;rw[be (show¬(r.body.getD i em).kind=1 from d 0 (by decide)),am b]];refine gA Z (bM [0,1,2] (Kw r (zl x) u dm i hi hb) Z Z Z Z Z Z Z Z ?_);refine gA Z (zD [] Z (zW (zH ac)))
  .have b: ¬(r.body.getD i em).kind=((1+1:Nat):Int):=by
    have b:li ((2:Int)=(r.body.getD i em).kind)=lc:=b;exact fun g=>zF b g.symm
   refine gA Z ?_;exact⟨by decide,step 1 d b,[],zW (zH (zK ⟨⟨_,rfl,.of_eq Z⟩,Y5 Z,l4 _,ac⟩))⟩
 |2,_,d=>
  refine gM 6 Z (bB ab Z Z Z Z Z (rfl) Z Z ?_);refine zJ Z Z (fun b=>?_) fun b=>?_
  .have b:(r.body.getD i em).kind=3:=by
    have b:li ((3:Int)=(r.body.getD i em).kind)=kw:=b;exact(zT b).symm
   rw[show lH (aH u) x (r.body.getD i em) i=yK (aH u) (r.body.getD i em) i by unfold lH;rw[be (show¬(r.body.getD i em).kind=1 from d 0 (by decide)),be (show¬(r.body.getD i em).kind=2 from d 1 (by decide)),am b]];refine gA Z (bM [0,1,2] (Wb r (zl x) u dm i hi hb) Z Z Z Z Z Z Z Z ?_);refine gA Z (zD [] Z (zW (zH ac)))
  .have b: ¬(r.body.getD i em).kind=((2+1:Nat):Int):=by
    have b:li ((3:Int)=(r.body.getD i em).kind)=lc:=b;exact fun g=>zF b g.symm
   refine gA Z ?_;exact⟨by decide,step 2 d b,[],zW (zH (zK ⟨⟨_,rfl,.of_eq Z⟩,Y5 Z,l4 _,ac⟩))⟩
 |3,_,d=>
  refine gM 6 Z (bB ab Z Z Z Z Z (rfl) Z Z ?_);refine zJ Z Z (fun b=>?_) fun b=>?_
  .have b:(r.body.getD i em).kind=4:=by
    have b:li ((4:Int)=(r.body.getD i em).kind)=kw:=b;exact(zT b).symm
   rw[show lH (aH u) x (r.body.getD i em) i=Bq (aH u) (bU (.int .i64) x i []) (r.body.getD i em) i by unfold lH;rw[be (show¬(r.body.getD i em).kind=1 from d 0 (by decide)),be (show¬(r.body.getD i em).kind=2 from d 1 (by decide)),be (show¬(r.body.getD i em).kind=3 from d 2 (by decide)),am b]];refine gA Z (bM [0,1,2] (We r x u dm i hi hb A) Z Z Z Z Z Z Z Z ?_);refine gA Z (zD [] Z (zW (zH ac)))
  .have b: ¬(r.body.getD i em).kind=((3+1:Nat):Int):=by
    have b:li ((4:Int)=(r.body.getD i em).kind)=lc:=b;exact fun g=>zF b g.symm
   refine gA Z ⟨by decide,step 3 d b,[],zW (zH (zK ⟨⟨_,rfl,.of_eq Z⟩,Y5 Z,l4 _,ac⟩))⟩
def jX(r:ah)(s:dI):List ak:=if s.kind=1 then dA (r.body.getD s.lit.toNat em) else if s.kind=3 then[s.var] else[]
def Jt(dm:WD)(i:Int):WD:=cH (.int .i64) dm i (bU (.int .i64) dm i 0+1)
theorem Kx(r:ah)(br:IV)(j:List ak)(dm:WD)(d:Int)(i:Nat)(x:List Int)(b:ak)(hi:i<r.body.length)(hb:r.size<=10000000)(I:j.length<=500000000000000)(hd:0<=bU (.int .i64) dm (i:Int) 0∧bU (.int .i64) dm (i:Int) 0<=1000000000):
  bW prog 83 [.ptr 0 0,ag (dI.mk d i x b).c] (Nj r br j dm) (.bQ []) (wH r br (j++jX r (dI.mk d i x b)) (Jt dm i)) 3:=by
 have A:(r.body.getD i em).size<=10000000:=by have:=Lit.aF r.body i hi;unfold ah.size at hb;omega
 obtain⟨D,F⟩:=hd;have G:=bz j b;have B:=fa j b;by_cases u:d=1
 .have e:jX r (dI.mk d i x b)=dA (r.body.getD i em):=by unfold jX;rw[am u];rfl
  rw[e];refine aB ab func83 Z (by decide) ntmps83 Z (by simp) ?_;refine zJ Z Z (fun q=>?_) fun q=>?_
  .refine gA Z (zd [1] (KB (r.body.getD i em) j (by omega)) ?_);refine gA Z (zD [] Z (zW (zH ac)))
  .exact absurd u (zF q)
 by_cases y:d=3
 .have e:jX r (dI.mk d i x b)=[b]:=by unfold jX;rw[be u,am y]
  rw[e];refine aB ab func83 Z (by decide) ntmps83 Z (by simp) ?_;refine zJ Z Z (fun q=>?_) fun q=>?_
  .exact absurd (zT q) u
  refine zJ Z Z (fun g=>?_) fun g=>?_
  .refine gA Z (zD [] Z (zW (hW Z Z Z (by rw[cU];rfl) Z Z Z ac)))
  .exact absurd y (zF g)
 have e:jX r (dI.mk d i x b)=[]:=by unfold jX;rw[be u,be y]
 rw[e,ZL];refine aB ab func83 Z (by decide) ntmps83 Z (by simp) ?_;refine zJ Z Z (fun q=>?_) fun q=>?_
 .exact absurd (zT q) u
 refine zJ Z Z (fun g=>?_) fun g=>?_
 .exact absurd (zT g) y
 refine gA Z (zD [] Z (zW (zH ac)))
end Go.Proofs.YtflegjieadkonaaGreatDoor
namespace Go.Proofs.YtflegjieadkonaaGreatDoor
open Go Go.Al
section
def oF(dm:WD)(i:Nat):Bool:=li (bU (.int .i64) dm (i:Int) 0>0)
def r8(fstv:Int)(b:Option dI)(i:Nat)(s:dI):Bool:=match b with
 |none=>kw
 |some t=>li ((i:Int)=fstv)||(!li (t.lit=fstv)&&li ((s.dh.length:Int)>t.dh.length))
section
variable (C:Nat->Option dI) (r:ah) (dn:Nat->Bool) (fstv:Int)
def tI(b:Option dI)(i:Nat):Option dI:=if dn i=kw then b else match C i with
 |none=>b
 |some s=>if r8 fstv b i s=kw then io s else b
def testW(i:Nat):Option dI:=if !dn i&&li ((r.body.getD i em).kind≠1) then C i else jp
def iA(i:Nat):Option dI:=(Zy i).foldl (tI C dn fstv) jp
def yc:Option dI:=match(Zy r.body.length).findSome? (testW C r dn) with
 |some s=>io s
 |none=>iA C dn fstv r.body.length
theorem qX(i:Nat):iA C dn fstv (i+1)=tI C dn fstv (iA C dn fstv i) i:=by
 unfold iA;rw[abo,aaE];rfl
end
def Xh(b:Option dI):List IV:=match b with
 |none=>SE
 |some t=>t.c
abbrev nxF(r:ah)(fstv:Int)(b:Option dI)(i:Nat):AF:=[(0,.ptr 0 0),(1,pI fstv),(4,.ptr 3 0),(6,.ptr 4 0),(7,pB b.isSome),(16,.iv (lits r.body)),(17,pI r.body.length),(18,pI i)]
abbrev nxH(r:ah)(b:BM)(d:List ak)(dm:WD)(c:List IV):AH:=[(0,io (wO r (zl b))),(1,io (cx (aC d))),(2,io (xk dm)),(3,io (aj SE)),(4,io (aj c))]
set_option maxHeartbeats 2000000 in
theorem TV(r:ah)(B:BM)(G:List ak)(dm:WD)(fstv:Int)(hb:r.size<=10000000)(b0: ∀i:Int,(bU (.int .i64) B i []).length<=1000000000):
  bW Tryz.prog 109 [.ptr 0 0,pI fstv] (Nj r (zl B) G dm) (CG (yc (fun i=>lH (aH G) B (r.body.getD i em) i) r (oF dm) fstv)) (wH r (zl B) G dm) 3:=by
 have d0:r.body.length<=10000000:=by have:=Lit.au r.body;unfold ah.size at hb;omega
 generalize Y:(fun i:Nat=>lH (aH G) B (r.body.getD i em) i)=C;have a0: ∀i,C i=lH (aH G) B (r.body.getD i em) i:=fun i=>by rw[<-Y]
 refine aB ab Tryz.func109 Z (by decide) Tryz.ntmps109 Z (by simp) ?_;refine gA Z ?_;refine uz 0 r.body.length (Zf _) (fun i (b:Option dI)=>⟨nxF r fstv b i,nxH r B G dm (Xh b),5⟩) (fun i b=>b=iA C (oF dm) fstv i∧ ∀j,j<i->testW C r (oF dm) j=jp) jp [] ⟨rfl,fun j hj=>absurd hj (aaj j)⟩
  (zM (bv (bv (bv (bv ⟨.rC Z,rfl,bv (bv (bv trivial))⟩)))) (zH (zK (zK trivial)))) fun i b hi hJ=>?_
 obtain⟨I,D⟩:=hJ;refine zE Z Z (fun x=>?_) fun x=>?_
 .have x:r.body.length<=i:=by have:=zF x;omega
  have c0:i=r.body.length:=by omega
  subst c0;have hn:yc C r (oF dm) fstv=b:=by unfold yc;rw[HJ D,I]
  rw[hn];cases b with
  |none=>
   refine gA Z (zD [] Z (zM ⟨IY,rfl,ac⟩ (zH ac)))
  |some t=>
   refine gA Z (zD [] Z (zW (zH ac)))
 have x:i<r.body.length:=by have:=zT x;omega
 have u:testW C r (oF dm) i=jp-> ∀j,j<i+1->testW C r (oF dm) j=jp:=fun h j hj=>by
  rcases ZS.1 hj with hj|hj
  .exact D j hj
  .subst hj;exact h
 have d:=qX C (oF dm) fstv i;rw[<-I]at d;refine zJ Z Z (fun y=>?_) fun y=>?_
 .have y:oF dm i=kw:=y;refine gA Z ⟨x,b,[],⟨by rw[d];unfold tI;rw[am y],u (by unfold testW;rw[y];rfl)⟩,zW (zH (zK (zK ac)))⟩
 have y:oF dm i=lc:=y;have d:iA C (oF dm) fstv (i+1)=match C i with
   |none=>b
   |some s=>if r8 fstv b i s=kw then io s else b:=by rw[d];unfold tI;rw[be (by rw[y];exact ZN)]
 have J:=Sy r B G dm i x hb (b0 i);rw[<-a0 i]at J;cases hk:C i with
 |none=>
  rw[hk]at J d;refine gA Z (bM [0,1,2] J Z Z Z Z Z Z Z Z ?_);refine zJ Z Z (fun S=>?_) fun S=>?_
  .refine gA Z ?_;exact⟨x,b,[],⟨d.symm,u (by unfold testW;rw[hk];split<;>rfl)⟩,zW (zH (zK (zK ac)))⟩
  .exact absurd S (show¬((!lc)=lc) by decide)
 |some s=>
  rw[hk]at J d;refine gA Z (bM [0,1,2] J Z Z Z Z Z Z Z Z ?_);refine zJ Z Z (fun S=>?_) fun S=>?_
  .exact absurd S (show¬((!kw)=kw) by decide)
  refine zJ Z Z (fun A=>?_) fun A=>?_
  .have A:(r.body.getD i em).kind≠1:=by
    have A:(!li ((r.body.getD i em).kind=1))=kw:=A;simpa using A
   have F:testW C r (oF dm) i=io s:=by unfold testW;rw[y,decide_eq_true A,hk];rfl
   have hn:yc C r (oF dm) fstv=io s:=by unfold yc;rw[Mg D F x]
   rw[hn];refine gA Z (zD [] Z (zW (zH ac)))
  have A:(r.body.getD i em).kind=1:=zY A;have F:testW C r (oF dm) i=jp:=by unfold testW;rw[decide_eq_false (not_not_intro A),aaa];rfl
  have d:iA C (oF dm) fstv (i+1)=if r8 fstv b i s=kw then io s else b:=d;cases b with
  |none=>
   have d:iA C (oF dm) fstv (i+1)=io s:=d;refine zJ Z Z (fun g1=>?_) fun g1=>?_
   .exact absurd g1 (show¬((!lc)=lc) by decide)
   refine gA Z ?_;exact⟨x,io s,[],⟨d.symm,u F⟩,zM (bv (bv (bv (bv ⟨.rC Z,rfl,bv (bv (bv ac))⟩)))) (zH (zK (zK ac)))⟩
  |some t=>
   have d:iA C (oF dm) fstv (i+1)=if(li ((i:Int)=fstv)||(!li (t.lit=fstv)&&li ((s.dh.length:Int)>t.dh.length)))=kw then io s else io t:=d;refine zE Z Z (fun g1=>?_) fun g1=>?_
   .exact absurd g1 (show¬((!kw)=kw) by decide)
   refine zE Z Z (fun g2=>?_) fun g2=>?_
   .have g2:li ((i:Int)=fstv)=kw:=g2;rw[am (by rw[g2];rfl)]at d;refine gA Z ⟨x,io s,[],⟨d.symm,u F⟩,zM (bv (bv (bv (bv ⟨.rC Z,rfl,bv (bv (bv ac))⟩)))) (zH (zK (zK ac)))⟩
   have g2:li ((i:Int)=fstv)=lc:=g2;refine zE Z Z (fun g3=>?_) fun g3=>?_
   .have g3:(!li (t.lit=fstv))=lc:=g3;rw[be (by rw[g2,g3];exact ZN)]at d;refine gA Z ⟨x,io t,[],⟨d.symm,u F⟩,zW (zH (zK (zK ac)))⟩
   have g3:(!li (t.lit=fstv))=kw:=g3;refine zJ Z Z (fun g4=>?_) fun g4=>?_
   .have g4:li ((s.dh.length:Int)>t.dh.length)=kw:=g4;rw[am (by rw[g2,g3,g4];rfl)]at d;refine gA Z ⟨x,io s,[],⟨d.symm,u F⟩,zM (bv (bv (bv (bv ⟨.rC Z,rfl,bv (bv (bv ac))⟩)))) (zH (zK (zK ac)))⟩
   .have g4:li ((s.dh.length:Int)>t.dh.length)=lc:=g4;rw[be (by rw[g2,g3,g4];exact ZN)]at d;refine gA Z ⟨x,io t,[],⟨d.symm,u F⟩,zW (zH (zK (zK ac)))⟩
end
section
theorem EA{α:Type}{f g:Nat->Option α}: ∀{n:Nat},(∀i,i<n->f i=g i)->(Zy n).findSome? f=(Zy n).findSome? g
 |0,_=>rfl
 |n+1,h=>by
  rw[abo,abV,abV,EA fun i b=>h i (by omega)];simp[h n (aax n)]
def Cv(r:ah)(fstv:Int):Prop:=fstv= -1∨ ∃f:Nat,fstv=f∧f<r.body.length∧(r.body.getD f em).kind=1
section
variable {K:ak->Bool} {r:ah} {dn:Nat->Bool} {fstv:Int} {C:Nat->Option dI}
def GR(K:ak->Bool)(r:ah)(i:Nat):dI:=⟨1,i,ki K (r.body.getD i em).atom,Zd⟩
theorem uI{i:Nat}(h:(r.body.getD i em).kind=1):iz K r i=io (GR K r i):=by
 unfold iz uK;rw[am h];rfl
theorem MI{i:Nat}(b:pD K r dn i=jp)(hd:dn i=lc)(h: ¬(r.body.getD i em).kind=1):iz K r i=jp:=by
 unfold pD at b;rwa[am (by rw[hd,decide_eq_true h];rfl)]at b
theorem MO(hC: ∀i,i<r.body.length->C i=iz K r i)(hn: ∀i,i<r.body.length->pD K r dn i=jp)(D: ¬(0<=fstv∧dn fstv.toNat=lc)): ∀m,m<=r.body.length->
  (iA C dn fstv m=jp∧sA K r dn m=(-1, -1))∨ ∃j:Nat,j<m∧dn j=lc∧(r.body.getD j em).kind=1∧iA C dn fstv m=io (GR K r j)∧sA K r dn m=((j:Int),((ki K (r.body.getD j em).atom).length:Int))
 |0,_=> .inl ⟨rfl,rfl⟩
 |m+1,hm=>by
  have y: ∀j:Nat,dn j=lc-> ¬(j:Int)=fstv:=fun j hd e=>D ⟨by omega,by rw[<-e,Zx];exact hd⟩;have d:=qX C dn fstv m;have u:=Gq K r dn m;unfold tI at d;unfold wA at u;have G:=MO hC hn D m (by omega);have F:iA C dn fstv (m+1)=iA C dn fstv m->sA K r dn (m+1)=sA K r dn m->((iA C dn fstv (m+1)=jp∧sA K r dn (m+1)=(-1, -1))∨ ∃j:Nat,j<m+1∧dn j=lc∧(r.body.getD j em).kind=1∧iA C dn fstv (m+1)=io (GR K r j)∧sA K r dn (m+1)=((j:Int),((ki K (r.body.getD j em).atom).length:Int))):=fun a b=>G.imp (fun h=>⟨a.trans h.1,b.trans h.2⟩) (fun⟨j,h0,h3,h4,h5,h6⟩=>⟨j,aaL h0,h3,h4,a.trans h5,b.trans h6⟩);by_cases hd:dn m=kw
  .rw[am hd]at d;rw[be (by rw[hd];exact fun h=>nomatch h.1)]at u;exact F d u
  have hd:dn m=lc:=by simpa using hd
  rw[be (by rw[hd];exact ZN),hC m (by omega)]at d;by_cases x:(r.body.getD m em).kind=1
  .rw[uI x]at d;have B:=y m hd;right;rcases G with⟨i1,i2⟩|⟨j,i0,i1,i2,i3,i4⟩
   .rw[i1]at d;rw[i2,am ⟨by rw[hd,decide_eq_true x];rfl,show((ki K (r.body.getD m em).atom).length:Int)> -1 by omega⟩]at u;exact⟨m,aax m,hd,x,d,u⟩
   .have I:r8 fstv (io (GR K r j)) m (GR K r m)=li (((ki K (r.body.getD m em).atom).length:Int)>(ki K (r.body.getD j em).atom).length):=by
     unfold r8;show(li ((m:Int)=fstv)||(!li ((j:Int)=fstv)&&decide _))=_;rw[decide_eq_false B,decide_eq_false (y j i1)];rfl
    rw[i3]at d;have d:iA C dn fstv (m+1)=if r8 fstv (io (GR K r j)) m (GR K r m)=kw then io (GR K r m) else io (GR K r j):=d;rw[I]at d;rw[i4]at u;by_cases A:((ki K (r.body.getD m em).atom).length:Int)>(ki K (r.body.getD j em).atom).length
    .rw[am (decide_eq_true A)]at d;rw[am ⟨by rw[hd,decide_eq_true x];rfl,A⟩]at u;exact⟨m,aax m,hd,x,d,u⟩
    .rw[be (by rw[decide_eq_false A];exact ZN)]at d;rw[be (fun g=>A g.2)]at u;exact⟨j,aaL i0,i1,i2,d,u⟩
  .rw[MI (hn m (by omega)) hd x]at d;rw[be (by rw[decide_eq_false x,aaa];exact fun h=>nomatch h.1)]at u;exact F d u
theorem MP(hC: ∀i,i<r.body.length->C i=iz K r i){f:Nat}(b:fstv=f)(hd:dn f=lc)(d:(r.body.getD f em).kind=1): ∀m,m<=r.body.length->f<m->iA C dn fstv m=io (GR K r f)
 |0,_,h=>absurd h (aaj f)
 |m+1,hm,hfm=>by
  rw[qX];rcases ZS.1 hfm with h|h
  .rw[MP hC b hd d m (by omega) h];unfold tI;split
   .rfl
   .cases C m with
    |none=>rfl
    |some s=>
     show(if r8 fstv (io (GR K r f)) m s=kw then io s else io (GR K r f))=_;rw[be];unfold r8;show¬(li ((m:Int)=fstv)||(!li ((f:Int)=fstv)&&_))=kw;rw[decide_eq_false (by omega),decide_eq_true b.symm];exact ZN
  .subst h;unfold tI;rw[be (by rw[hd];exact ZN),hC f (by omega),uI d];show(if r8 fstv _ f (GR K r f)=kw then io (GR K r f) else _)=_;rw[am];unfold r8;split
   .rfl
   .rw[decide_eq_true b.symm];rfl
theorem Lc(hC: ∀i,i<r.body.length->C i=iz K r i)(hf:Cv r fstv):yc C r dn fstv=ov K r dn fstv:=by
 have B:(Zy r.body.length).findSome? (testW C r dn)=(Zy r.body.length).findSome? (pD K r dn):=EA fun i y=>by
  unfold testW pD;rw[hC i y]
 unfold yc ov;rw[B];cases hs:(Zy r.body.length).findSome? (pD K r dn) with
 |some s=>rfl
 |none=>
  have A: ∀i,i<r.body.length->pD K r dn i=jp:=fun i y=>List.findSome?_eq_none_iff.1 hs i (aam.2 y);dsimp only;by_cases b:0<=fstv∧dn fstv.toNat=lc
  .rw[am b];rcases hf with rfl|⟨f,rfl,hfl,d⟩
   .exact absurd b.1 (by decide)
   .have hd:dn f=lc:=b.2;rw[MP hC Z hd d _ (Zc _) hfl];exact(uI d).symm
  .rw[be b];have hb:wz K r dn=sA K r dn r.body.length:=rfl;rw[hb];rcases MO hC A b r.body.length (Zc _) with⟨u,x⟩|⟨j,_,_,d,u,x⟩
   .rw[u,x];rfl
   .rw[u,x,be (by show¬(j:Int)<0;omega)];exact(uI d).symm
end
end
end Go.Proofs.YtflegjieadkonaaGreatDoor
namespace Go.Proofs.YtflegjieadkonaaGreatDoor
open Go Go.Al Go.Proofs.Tryz
def uH(dn:Nat->Bool):Nat->Nat
 |0=>0
 |n+1=>uH dn n+if dn n=kw then 1 else 0
theorem HX(dn:Nat->Bool): ∀n,uH dn n<=n
 |0=>Zc _
 |n+1=>by have:=HX dn n;unfold uH;split<;>omega
theorem HW{dn:Nat->Bool}{i:Nat}(hd:dn i=lc): ∀{n},i<n->uH dn n<n
 |0,h=>absurd h (aaj i)
 |n+1,h=>by
  unfold uH;rcases ZS.1 h with h|h
  .have:=HW hd h;split<;>omega
  .subst h;rw[be (by rw[hd];exact ZN)];have:=HX dn i;omega
def zo(dn:Nat->Bool)(i:Int):Nat->Bool:=fun j=>dn j||decide ((j:Int)=i)
theorem Bb{dn:Nat->Bool}{i:Nat}: ∀{n},n<=i->uH (zo dn i) n=uH dn n
 |0,_=>rfl
 |n+1,h=>by
  have e:zo dn i n=dn n:=by unfold zo;rw[decide_eq_false (by omega),aaK]
  unfold uH;rw[Bb (by omega),e]
theorem ET{dn:Nat->Bool}{i:Nat}(hd:dn i=lc): ∀{n},i<n->uH (zo dn i) n=uH dn n+1
 |0,h=>absurd h (aaj i)
 |n+1,h=>by
  unfold uH;rcases ZS.1 h with h|h
  .have e:zo dn i n=dn n:=by unfold zo;rw[decide_eq_false (by omega),aaK]
   rw[ET hd h,e];omega
  .subst h;rw[Bb (Zc _),am (by unfold zo;rw[decide_eq_true Z,abi]),be (by rw[hd];exact ZN)]
theorem uq{V:Type}{m:List ((KC.int .i64).K×V)}{a c:Int}{v z:V}:bU (.int .i64) (cH (.int .i64) m a v) c z=if a=c then v else bU (.int .i64) m c z:=by
 induction m with
 |nil=>simp only[cH,bU]
 |cons x r ih=>
  obtain⟨k,b⟩:=x;simp only[cH];by_cases h:k=a
  .rw[am h];simp only[bU];by_cases d:a=c
   .simp[d]
   .have: ¬k=c:=fun e=>d (h▸e)
    rw[be d,be d,be this]
  .rw[be h];simp only[bU,ih];by_cases d:k=c
   .have: ¬a=c:=fun e=>h (d.trans e.symm)
    simp[d,this]
   .simp[d]
theorem CB{dm:WD}{i:Nat}(h0:0<=bU (.int .i64) dm (i:Int) 0):oF (Jt dm i)=zo (oF dm) i:=by
 funext j
 unfold oF Jt zo;rw[uq];by_cases h:(i:Int)=(j:Int)
 .rw[am h,decide_eq_true (by omega:(j:Int)=i),abi,decide_eq_true (by omega)]
 .rw[be h,decide_eq_false (by omega: ¬(j:Int)=i),aaK]
theorem Lb{K:ak->Bool}{r:ah}{dn:Nat->Bool}{fstv:Int}{s:dI}(hf:fstv<r.body.length)(h:ov K r dn fstv=io s): ∃i:Nat,s.lit=i∧i<r.body.length∧dn i=lc∧iz K r i=io s:=by
 obtain⟨i,u,x,y⟩:=La hf h;refine⟨i,u,x,y,?_⟩;have key: ∀j:Nat,iz K r j=io s->iz K r i=io s:=fun j d=>by
  have:=uJ d;have:i=j:=by omega
  subst this;exact d
 unfold ov at h;cases hg:(Zy r.body.length).findSome? (pD K r dn) with
 |some s'=>
  rw[hg]at h;cases h;obtain⟨j,_,b⟩:=List.exists_of_findSome?_eq_some hg;unfold pD at b;split at b
  .exact key j b
  .cases b
 |none=>
  rw[hg]at h;dsimp only at h;split at h
  .exact key _ h
  .split at h
   .cases h
   .exact key _ h
theorem JA{K:ak->Bool}{r:ah}{l:Lit}{i:Int}{s:dI}(h:uK K r l i=io s)(b:s.kind=1):l.kind=1:=by
 unfold uK vO Gt at h
 repeat' split at h
 all_goals first
  |assumption
  |(cases h;cases b)
  |cases h
structure Bt (r:ah) (bm:BM):Prop where
 can: ∀(K:ak->Bool) (i:Nat),i<r.body.length->lH K bm (r.body.getD i em) i=iz K r i
 add: ∀i,i<r.body.length->(r.body.getD i em).kind=1-> ∀x,aH (dA (r.body.getD i em)) x=aH (bn (r.body.getD i em).atom) x
 br: ∀i:Int,(bU (.int .i64) bm i []).length<=1000000000
theorem Bt.take{r:ah}{d:BM}(h:Bt r d){K:ak->Bool}{s:dI}{i:Nat}(hi:i<r.body.length)(hs:s.lit=i)(hc:iz K r i=io s):aH (jX r s)=aH (rX r s):=by
 funext x
 unfold jX rX;by_cases b:s.kind=1
 .rw[am b,am b,hs];exact h.add i hi (JA hc b) x
 .rw[be b,be b]
theorem C9(r:ah)(s:dI){i:Nat}(hs:s.lit=i)(hi:i<r.body.length)(hb:r.size<=10000000):(jX r s).length<=10000000:=by
 have b:(r.body.getD i em).size<=10000000:=by have:=Lit.aF r.body i hi;unfold ah.size at hb;omega
 have d:=tn (r.body.getD i em);unfold jX;split
 .rw[hs];show(dA (r.body.getD i em)).length<=_;omega
 .split
  .simp
  .simp
structure SW (r:ah) (fstv:Int) (all:List dI) (c:Option dI) (ks:List ak) (dm:WD) (L:List dI):Prop where
 cur:c=ov (aH ks) r (oF dm) fstv
 kl:ks.length<=1000000000+L.length*10000000
 cnt:uH (oF dm) r.body.length=L.length
 pos: ∀i:Int,0<=bU (.int .i64) dm i 0∧bU (.int .i64) dm i 0<=1
 rest:L++oP r fstv (r.body.length-L.length) (oF dm) (aH ks)=all
theorem OZ{r:ah}{fstv:Int}{all:List dI}{j:List ak}{dm:WD}{L:List dI}(h:SW r fstv all jp j dm L):L=all:=by
 have b:=h.rest;have d:=h.cur.symm;cases hm:r.body.length-L.length with
 |zero=>rw[hm]at b;simpa[oP]using b
 |succ m=>rw[hm,oP,d]at b;simpa using b
theorem OY{r:ah}{D:BM}{fstv:Int}{all:List dI}{s:dI}{A:List ak}{dm:WD}{L:List dI}(G:Bt r D)(hf:fstv<r.body.length)(hb:r.size<=10000000)(h:SW r fstv all (io s) A dm L):
  ∃i:Nat,s.lit=i∧i<r.body.length∧(0<=bU (.int .i64) dm (i:Int) 0∧bU (.int .i64) dm (i:Int) 0<=1000000000)∧L.length<r.body.length∧SW r fstv all (ov (aH (A++jX r s)) r (oF (Jt dm i)) fstv) (A++jX r s) (Jt dm i) (L++ [s]):=by
 obtain⟨i,u,b,x,F⟩:=Lb hf h.cur.symm;have y:=h.pos i;have d:=HW x b;rw[h.cnt]at d;have I:bU (.int .i64) dm (i:Int) 0=0:=by
  have:=zF x;omega
 refine⟨i,u,b,⟨y.1,by omega⟩,d,rfl,?_,?_,?_,?_⟩
 .have J:=C9 r s u b hb;have S:=h.kl;rw[Y8,Y8,ZH,aal];omega
 .rw[CB y.1,ET x b,h.cnt,Y8,ZH]
 .intro j;unfold Jt;rw[uq];split
  .omega
  .exact h.pos j
 .have B:=h.rest;rw[show r.body.length-L.length=(r.body.length-(L.length+1))+1 by omega,oP,<-h.cur]at B;rw[<-B,Zj,Y8,ZH,CB y.1,Cj,G.take b u F,<-u];rfl
abbrev stF(fstv:Int)(n:Nat)(b:Bool):AF:=[(0,.ptr 0 0),(1,pI fstv),(5,.sl 6 0 n 4),(6,.ptr 5 0),(7,pB b)]
abbrev stH(r:ah)(b:BM)(d:List ak)(dm:WD)(c:List IV)(L:List dI):AH:=[(0,io (wO r (zl b))),(1,io (cx (aC d))),(2,io (xk dm)),(5,io (aj c)),(6,io (aE 4 L dI.c))]
set_option maxHeartbeats 1000000 in
theorem BJ(r:ah)(d:BM)(b:List ak)(fstv:Int)(G:Bt r d)(S:Cv r fstv)(hf:fstv<r.body.length)(hb:r.size<=10000000)(hk:b.length<=1000000000):
  bW prog 73 [.ptr 0 0,pI fstv] (Nj r (zl d) b []) (.iv (cZ 4 (oP r fstv r.body.length (fun _=>lc) (aH b)) dI.c)) [] 3:=by
 have a0:r.body.length<=10000000:=by have:=Lit.au r.body;unfold ah.size at hb;omega
 have hN: ∀b dm,bW prog 109 [.ptr 0 0,pI fstv] (Nj r (zl d) b dm) (CG (ov (aH b) r (oF dm) fstv)) (wH r (zl d) b dm) 3:=fun b dm=>by
  have h:=TV r d b dm fstv hb G.br;rwa[Lc (fun i Y=>G.can (aH b) i Y) S]at h
 generalize I:oP r fstv r.body.length (fun _=>lc) (aH b)=all
 have h0:SW r fstv all (ov (aH b) r (oF []) fstv) b [] []:=⟨rfl,by omega,by
  have: ∀n,uH (oF []) n=0:=fun n=>by induction n with
   |zero=>rfl
   |succ n ih=>unfold uH;rw[ih];rfl
  exact this _,fun _=>by simp[bU],by
  have:oF []=fun _=>lc:=by funext j;rfl
  rw[this];exact I⟩
 generalize J:ov (aH b) r (oF []) fstv=c at h0;have y:=hN b [];rw[J]at y;refine aB ab func73 Z (by decide) ntmps73 Z (by simp) ?_;refine gA Z (bM [0,1,2] y Z Z Z Z Z Z Z Z ?_);refine gA Z ?_;refine fY 5 4 Z ?_;refine oC (σ:={x:Option dI×List ak×WD×List dI//SW r fstv all x.1 x.2.1 x.2.2.1 x.2.2.2}) (fun x=>⟨stF fstv x.1.2.2.2.length (IQ x.1.1).2,stH r d x.1.2.1 x.1.2.2.1 (IQ x.1.1).1.c x.1.2.2.2,7⟩) (fun x=>r.body.length-x.1.2.2.2.length) ⟨(c,b,[],[]),h0⟩ [3,4]
  (zW (zH (zK (zS trivial)))) fun x=>?_
 obtain⟨⟨c,b,dm,L⟩,B⟩:=x;have B:SW r fstv all c b dm L:=B;show GO prog _ _ _ ⟨stF fstv L.length (IQ c).2,stH r d b dm (IQ c).1.c L,7⟩;refine zJ Z Z (fun q1=>?_) fun q1=>?_
 .cases c with
  |none=>exact absurd q1 (show¬(lc=kw) by decide)
  |some s=>
   obtain⟨i,hs,Y,hd,d0,A⟩:=OY G hf hb B;obtain⟨D,lt,u,F⟩:=s;cases hs;have c0:=B.kl;refine gA Z (bM [0,1,2] (Kx r (zl d) b dm D i u F Y hb (by omega) hd) Z Z Z Z Z Z Z Z ?_);have hn:=hN (b++jX r ⟨D,(i:Int),u,F⟩) (Jt dm i);generalize b0:ov (aH (b++jX r ⟨D,(i:Int),u,F⟩)) r (oF (Jt dm i)) fstv=c2 at hn A;refine gA Z (bM [0,1,2] hn Z Z Z Z Z Z Z Z ?_);refine gA Z ⟨⟨(c2,b++jX r ⟨D,(i:Int),u,F⟩,Jt dm i,L++ [⟨D,(i:Int),u,F⟩]),A⟩,[9,8],by simp only[Y8,ZH];omega,zM (bv (bv ⟨.row (by rw[Y8];rfl),rfl,bv (bv ac)⟩)) (zH (zK (hR Z (by rw[Ze];rfl) Z ac)))⟩
 .cases c with
  |some s=>exact absurd q1 (show¬(kw=lc) by decide)
  |none=>
   have:=OZ B;subst this;refine gM 1 Z (fO [] (t:=⟨[(5,.sl 6 0 L.length 4)],[(6,io (aE 4 L dI.c))],7⟩) (zW (zS ac)) ?_);refine rE 6 (fun k=>dI.c (L.getD k em)) Z (eE Z) (by simp[AF.rR,PV.bX]) ⟨jZ _ _ _ _ _ _,ac⟩ ?_
   refine fO (L:=[]) (t:=⟨[(5,.iv (cZ 4 L dI.c))],[],7⟩) (zM ⟨(by
    show aK (.iv (.de 4 L.length fun k=>dI.c (L.getD (0+k) em))) (.iv (cZ 4 L dI.c));simp only[Zu]
    exact .refl _),rfl,ac⟩ ac) ?_
   refine gA Z (zD [] Z (zW ac))
def ik(l:Lit):List ak:=(if l.c7=1 then[] else bw l.jT)++l.ar.flatMap dA
def No(r:ah)(l:Lit):List ak:=if l.kind=4 then(outer r).filter (aH (ik l)) else[]
def zc(G:BM)(k:Int)(l:List ak):BM:=l.foldl (fun G a=>cH (.int .i64) G k (bU (.int .i64) G k []++ [a])) G
def QU(r:ah)(i:Nat):BM:=(Zy i).foldl (fun G (i:Nat)=>zc G i (No r (r.body.getD i em))) []
def H4(r:ah):BM:=QU r r.body.length
theorem JI(G:BM)(k:Int)(l:List ak)(a:ak):zc G k (l++ [a])=cH (.int .i64) (zc G k l) k (bU (.int .i64) (zc G k l) k []++ [a]):=by
 unfold zc;rw[aaE];rfl
theorem E2(r:ah)(i:Nat):QU r (i+1)=zc (QU r i) i (No r (r.body.getD i em)):=by
 unfold QU;rw[abo,aaE];rfl
theorem Ib(k c:Int): ∀(l:List ak) (G:BM),bU (.int .i64) (zc G k l) c []=if k=c then bU (.int .i64) G c []++l else bU (.int .i64) G c []
 | [],G=>by unfold zc;simp
 |a::l,G=>by
  show bU (.int .i64) (zc (cH (.int .i64) G k (bU (.int .i64) G k []++ [a])) k l) c []=_;rw[Ib k c l,uq];by_cases h:k=c
  .subst h;rw[am Z,am Z,am Z,Zj];rfl
  .rw[be h,be h,be h]
theorem Gm(r:ah)(c:Int): ∀n,bU (.int .i64) (QU r n) c []=if 0<=c∧c<n then No r (r.body.getD c.toNat em) else[]
 |0=>by rw[be (by omega)];rfl
 |n+1=>by
  rw[E2,Ib,Gm r c n];by_cases h:(n:Int)=c
  .subst h;rw[am Z,be (by omega),am (by omega),Zx];rfl
  .rw[be h];by_cases b:0<=c∧c<n
   .rw[am b,am (by omega)]
   .rw[be b,be (by omega)]
theorem QR(r:ah)(l:Lit):(No r l).length<=r.size:=by
 unfold No;split
 .exact Z1 (aak _ _) (Ar r)
 .exact Zf _
theorem U3(r:ah){i:Nat}(hi:i<r.body.length):bU (.int .i64) (H4 r) (i:Int) []=No r (r.body.getD i em):=by
 unfold H4;rw[Gm,am (by omega)];rfl
theorem QS(r:ah)(c:Int):(bU (.int .i64) (H4 r) c []).length<=r.size:=by
 unfold H4;rw[Gm];split
 .exact QR r _
 .exact Zf _
theorem K6{L:GL}(k:Int)(a:ak):
  (lB (.int .i64) (ofM L) k=jp∧bU (.int .i64) (ofM L) k jp=jp∧(∀b e a0,cH (.int .i64) (ofM L) k (io (b,1,a0))=ofM (L++ [(b,e,k,a0,[a])])∧oA (L++ [(b,e,k,a0,[a])])=cH (.int .i64) (oA L) k (bU (.int .i64) (oA L) k []++ [a])))∨
  ∃i y,L[i]? =io y∧bU (.int .i64) (ofM L) k jp=io (y.1,y.2.2.2.2.length,y.2.2.2.1)∧(∀b e a0,cH (.int .i64) (ofM L) k (io (b,y.2.2.2.2.length+1,a0))=ofM (L.set i (b,e,k,a0,y.2.2.2.2++ [a]))∧oA (L.set i (b,e,k,a0,y.2.2.2.2++ [a]))=cH (.int .i64) (oA L) k (bU (.int .i64) (oA L) k []++ [a])):=by
 cases hf:lB (.int .i64) (ofM L) k with
 |none=>
  obtain⟨d,_,u,_⟩:=me hf;rw[HN]at hf;obtain⟨x,_,B,_⟩:=me hf;exact .inl ⟨rfl,d jp,fun b e a0=>⟨by rw[u];simp[ofM],by rw[B,x];simp[oA]⟩⟩
 |some i=>
  right;obtain⟨v,d,u,_,x,_⟩:=mc hf;rw[HN]at hf;obtain⟨F,g1,g2,_,g3,_⟩:=mc hf;have j: ∃y,L[i]? =io y:=by
   unfold ofM at d;rw[Zg,Zi]at d;obtain⟨y,j,_⟩:=d;exact⟨y,j⟩
  obtain⟨y,j⟩:=j;have D:v=io (y.1,y.2.2.2.2.length,y.2.2.2.1):=by
   unfold ofM at d;rw[Zg,j]at d;simp only[Z8,Y9,Zl]at d;exact d.2.symm
  have A:F=y.2.2.2.2:=by
   unfold oA at g1;rw[Zg,j]at g1;simp only[Z8,Y9,Zl]at g1;exact g1.2.symm
  refine⟨i,y,j,by rw[u jp,D],fun b e a0=>⟨?_,?_⟩⟩
  .rw[x];unfold ofM;rw[aaR];simp
  .rw[g3,g2 [],A];unfold oA;rw[aaR]
abbrev Vm(r:ah):AO:= .cells [.iv (iS r.head.rel),.iv (cZ 5 r.head.ad Term.c),.iv (lits r.body),.iv (iI r.at_.line),.iv (iI r.at_.zy),.mp 1,.mp 2,.mp 3]
theorem AE: ∀l:List Lit,(l.flatMap dA).length<=Lit.az l
 | []=>Zc _
 |e::r=>by
  have b:=tn e;have d:=AE r;simp only[ZX,Y8,Lit.az];omega
theorem I6(l:List Lit){k:Nat}(h:k<l.length):((l.take k).flatMap dA).length+(l.getD k em).size<=2*Lit.az l:=by
 have d:=AE (l.take k);have j:=Lit.aF l k h;have b: ∀(l:List Lit) k,Lit.az (l.take k)<=Lit.az l:=fun l=>by
  induction l with
  |nil=>intro k;simp
  |cons e r ih=>intro k;cases k with
   |zero=>simp[Lit.az]
   |succ k=>have:=ih k;simp only[aau,Lit.az];omega
 have:=b l k;omega
abbrev YV(r:ah)(i:Nat):AF:=[(2,.ptr 0 0),(5,.ptr 4 0),(8,.iv (strs (outer r))),(39,.iv (lits r.body)),(40,pI r.body.length),(41,pI i)]
abbrev YT(r:ah)(b:List ak)(L:GL):AH:=[(0,io (aj r.c)),(1,io (cx (aC b))),(2,io (Un (ofM L))),(3,io (xk [])),(4,io (Vm r))]
theorem hB{n:Nat}{σ:Nat->Nat}{h:AH}{r:ah}{m:NM}{b:List ak}{d:OM}{L:GL}{rest:AH}(h0:h.get (σ 0)=io (aj r.c))(h1:h.get (σ 1)=io (cx m))(h2:h.get (σ 2)=io (Un d))(h3:h.get (σ 3)=io (xk []))
  (j:h.get (σ 4)=io (.cells [.iv (iS r.head.rel),.iv (cZ 5 r.head.ad Term.c),.iv (lits r.body),.iv (iI r.at_.line),.iv (iI r.at_.zy),.mp (σ 1),.mp (σ 2),.mp (σ 3)])) (e1:m=aC b) (e2:d=ofM L) (u:(Vm r).low n) (hb:Zs 4 n=kw) (hr:n7 n σ h rest):
  n7 n σ h ((0,io (aj r.c))::(1,io (cx (aC b)))::(2,io (Un (ofM L)))::(3,io (xk []))::(4,io (Vm r))::rest):=by
 subst e1 e2;have x:4<n:=Y5 hb;exact⟨⟨_,h0,.of_eq Z⟩,by omega,mf n r.c,⟨_,h1,.of_eq Z⟩,by omega,ac,⟨_,h2,.of_eq Z⟩,by omega,ac,⟨_,h3,.of_eq Z⟩,by omega,ac,⟨_,j,.of_eq Z⟩,x,u,hr⟩
abbrev U5(r:ah)(i:Nat):AF:=[(2,.ptr 0 0),(5,.ptr 4 0),(8,.iv (strs (outer r))),(39,.iv (lits r.body)),(40,pI r.body.length),(41,pI i),(9,pI i),(10,.ptr 5 0),(11,.mp 6)]
abbrev YU(r:ah)(i:Nat)(l:Lit)(k:Nat):AF:=[(2,.ptr 0 0),(5,.ptr 4 0),(8,.iv (strs (outer r))),(39,.iv (lits r.body)),(40,pI r.body.length),(41,pI i),(9,pI i),(10,.ptr 5 0),(11,.mp 6),(61,.iv (lits l.ar)),(62,pI l.ar.length),(63,pI k)]
abbrev U4(r:ah)(i:Nat)(k:Nat):AF:=[(2,.ptr 0 0),(5,.ptr 4 0),(8,.iv (strs (outer r))),(39,.iv (lits r.body)),(40,pI r.body.length),(41,pI i),(9,pI i),(10,.ptr 5 0),(11,.mp 6),(71,.iv (strs (outer r))),(72,pI (outer r).length),(73,pI k)]
abbrev Xg(r:ah)(i:Nat)(k n:Nat):AF:=[(2,.ptr 0 0),(5,.ptr 4 0),(8,.iv (strs (outer r))),(39,.iv (lits r.body)),(40,pI r.body.length),(41,pI i),(9,pI i),(10,.ptr 5 0),(11,.mp 6),(71,.iv (strs (outer r))),(72,pI (outer r).length),(73,pI k),(84,.mp 2),(85,pI i),(94,.sl 9 0 n 1)]
abbrev Xf(r:ah)(b:List ak)(L:GL)(l:Lit)(occ:List ak)(x:List ak):AH:=[(0,io (aj r.c)),(1,io (cx (aC b))),(2,io (Un (ofM L))),(3,io (xk [])),(4,io (Vm r)),(5,io (aj l.c)),(6,io (cx (aC occ))),(9,io (aE 1 x cz))]
abbrev Gp(r:ah)(b:List ak)(L:GL)(l:Lit)(occ:List ak):AH:=[(0,io (aj r.c)),(1,io (cx (aC b))),(2,io (Un (ofM L))),(3,io (xk [])),(4,io (Vm r)),(5,io (aj l.c)),(6,io (cx (aC occ)))]
set_option maxHeartbeats 1000000 in
theorem Fy(r:ah)(A:List ak)(hb:r.size<=2000000)(hk:A.length<=1000000000):bW prog 72 [ag r.c,.iv (strs A)] [] (.ptr 0 0) (wH r (zl (H4 r)) A []) 3:=by
 have t0:r.body.length<=2000000:=by have:=Lit.au r.body;unfold ah.size at hb;omega
 have s0:(outer r).length<=2000000:=Z1 (Ar r) hb;refine aB ab func72 Z (by decide) ntmps72 Z (by simp) ?_;refine gA Z ?_;refine aw 0 A.length (Zf _) (fun j=>⟨[(2,.ptr 0 0),(5,.ptr 4 0),(22,.iv (strs A)),(23,pI A.length),(24,pI j)],[(0,io (aj r.c)),(1,io (cx (aC (A.take j)))),(2,io (Un (ofM []))),(3,io (xk [])),(4,io (Vm r))],5⟩) (fun _=>True) [] ac ?_ fun j hj _=>?_
 .exact zW (zK (Jf Z (fun _=> .v _) Z (Jf Z (fun _=> .v _) Z (Jf Z (fun _=> .v _) Z (zO ac)))))
 refine zJ Z Z (fun G=>?_) fun G=>?_
 .have G:=ci G;have j0:=bz (A.take j) (A.getD j em);have o0:=fa (A.take j) (A.getD j em);simp only[ZP]at o0;refine gA Z ⟨G,ac,[],zW (hB Z Z Z Z Z (by rw[ba G,cU];rfl) Z Z Z ac)⟩
 have G:=co G;have e0:A.take j=A:=Zh G;rw[e0];refine gA Z (zp (UW r (by omega)) ?_);refine gM 2 Z (Hx ?_);refine aJ (aJ (fX ⟨YV r 0,YT r A [],5⟩ ?_ ?_))
 .refine gA Z (fN [] ?_);exact zW (hB Z Z Z Z Z Z Z Z Z ac)
 refine bR (ke 0 r.body.length (Zf _) (fun i (x:ULift.{1} GL)=>⟨YV r i,YT r A x.down,5⟩)
  (fun i x Y=>Y=eT fR x.down∧Ra x.down∧oA x.down=QU r i∧ ∀y∈x.down,y.2.2.2.2.length<=i*(outer r).length) ⟨[]⟩ [] ⟨rfl,⟨aab,fun y hy=>(nomatch hy)⟩,rfl,fun y hy=>(nomatch hy)⟩
  (zW (hB Z Z Z Z Z Z Z Z Z ac)) (fun _ _ _ h=>h.1▸cP fR _) fun i x Y hi hJ=>?_)
 obtain⟨rfl,d0,b0,i0⟩:=hJ;obtain⟨L⟩:=x;have d0:Ra L:=d0;have b0:oA L=QU r i:=b0;have i0: ∀y∈L,y.2.2.2.2.length<=i*(outer r).length:=i0;refine aJ (bZ ?_);refine gA Z ?_;refine aJ (dD Z (fun G=>dQ ?_) (fun G=>gJ ?_));rotate_left
 .have G:=co G;have k0:i=r.body.length:=by omega
  subst k0;change GX _ _ [.code _] _ _ _;refine Eo (BC (i:=2) (o':= .map (.int .i64) strs [] (.slice jp 0 0) dvL (oA L)) Z (Vv d0)) fun t Y I=>?_;obtain⟨rfl,rfl⟩:=I;rw[b0];refine bZ ?_;refine xh 2 Z ?_;refine gA Z (zD [4,1,3] Z (zW (zH ac)))
 have G:=ci G;have c0:=E2 r i;refine aJ (bR ?_);refine yt 2 ⟨YV r i++ [(9,pI i),(10,.ptr 5 0),(48,pB (li ((r.body.getD i em).kind=4)))],YT r A L++ [(5,io (aj (r.body.getD i em).c))],6⟩ Z ?_ ?_
 .refine gA Z (fN [5] ?_);exact zW (hB Z Z Z Z Z Z Z Z Z (zK ac))
 refine dD Z (fun q1=>?_) (fun q1=>dQ ?_)
 .have q1:(r.body.getD i em).kind=4:=zT q1;generalize r0:r.body.getD i em=l at*
  have y0:l.size<=10000000:=by rw[<-r0];have:=Lit.aF r.body i G;unfold ah.size at hb;omega
  have x0:=l.size_eq;have v0:i*(outer r).length<=2000000*2000000:=Nat.mul_le_mul (by omega) s0;have p0:=ir l.jT;have g0:=Lit.au l.ar;refine yt 1 ⟨U5 r i,Gp r A L l [],7⟩ Z ?_ ?_
  .refine gA Z (fN [6] ?_);exact zW (hB Z Z Z Z Z Z Z Z Z (zK (Jf Z (fun _=> .v _) Z ac)))
  refine yt 1 ⟨U5 r i,Gp r A L l (if l.c7=1 then[] else bw l.jT),7⟩ Z ?_ ?_
  .refine zJ Z Z (fun q2=>?_) fun q2=>?_
   .have q2: ¬l.c7=1:=by simpa using q2
    rw[be q2];refine gA Z (bM [6] (sX _ l.jT [] (Zc _) (by simp only[aai];omega)) Z Z Z Z Z Z Z Z ?_);refine gA Z (fN [] ?_);exact zW (hB Z Z Z Z Z Z Z Z Z (zK (zC ac)))
   .have q2:l.c7=1:=by simpa using q2
    rw[am q2];refine gA Z (fN [] ?_);exact zW (hB Z Z Z Z Z Z Z Z Z (zK (zC ac)))
  generalize f0:(if l.c7=1 then[] else bw l.jT)=pre;have w0:pre.length<=l.jT.size:=by rw[<-f0];split;simp;exact p0
  have k0:ik l=pre++l.ar.flatMap dA:=by unfold ik;rw[f0]
  refine yt 1 ⟨U5 r i,Gp r A L l (ik l),7⟩ Z ?_ ?_
  .refine gA Z ?_;refine aw 0 l.ar.length (Zf _) (fun k=>⟨YU r i l k,Gp r A L l (pre++(l.ar.take k).flatMap dA),7⟩) (fun _=>True) [] ac
    (zM (bv (bv (bv (bv (bv (bv (bv (bv (bv ⟨.iv (kG _),rfl,bv (bv trivial)⟩))))))))) (hB Z Z Z Z Z Z Z Z Z (zK (hM Z (by simp) Z trivial)))) fun k hk _=>?_
   refine zJ Z Z (fun D=>?_) fun D=>?_
   .have D:=ci D;have hs:=bE (f:=dA) D;have hz:=Lit.aF l.ar k D;refine gA Z (bM [6] (KB (l.ar.getD k em) (pre++(l.ar.take k).flatMap dA) (by have:=I6 l.ar D;rw[Y8];omega)) Z Z Z Z Z Z Z Z ?_);refine gA Z ⟨D,ac,[],zW (hB Z Z Z Z Z Z Z Z Z (zK (hM Z (by rw[hs,Zj]) Z ac)))⟩
   .have D:=co D;rw[Zh D];refine gA Z (fN [] ?_);exact zW (hB Z Z Z Z Z Z Z Z Z (zK (hM Z (by rw[k0]) Z ac)))
  refine aJ (fX ⟨U4 r i 0,Gp r A L l (ik l),7⟩ ?_ ?_)
  .refine gA Z (fN [] ?_);exact zW (hB Z Z Z Z Z Z Z Z Z (zK (zC ac)))
  refine bR (ke 0 (outer r).length (Zf _) (fun k (x:ULift.{1} GL)=>⟨U4 r i k,Gp r A x.down l (ik l),7⟩)
   (fun k x Y=>Y=eT fR x.down∧Ra x.down∧oA x.down=zc (QU r i) i (((outer r).take k).filter (aH (ik l)))∧ ∀y∈x.down,y.2.2.2.2.length<=i*(outer r).length+k) ⟨L⟩ [] ⟨rfl,d0,b0,i0⟩
   (zW (hB Z Z Z Z Z Z Z Z Z (zK (zC ac)))) (fun _ _ _ h=>h.1▸cP fR _) fun k x Y hk hJ=>?_)
  obtain⟨rfl,u,F,B⟩:=hJ;obtain⟨J⟩:=x;have u:Ra J:=u;have F:oA J=zc (QU r i) i (((outer r).take k).filter (aH (ik l))):=F;have B: ∀y∈J,y.2.2.2.2.length<=i*(outer r).length+k:=B;refine aJ (bZ ?_);refine gA Z ?_;refine aJ (dD Z (fun D=>dQ ?_) (fun D=>gJ ?_));rotate_left
  .change GX _ _ (.aL 3::_) _ _ _;have D:=co D;rw[Zh D]at F;refine jx (bZ ?_);refine gA Z ⟨G,⟨J⟩,[],⟨rfl,u,by rw[c0,F];unfold No;rw[am q1],fun z hz=>by have:=B z hz;rw[aa3];omega⟩,zW (hB Z Z Z Z Z Z Z Z Z ac)⟩
  have D:=ci D;have n0:=ba D;refine aJ (bR ?_);refine yt 2 ⟨U4 r i k++ [(15,pS ((outer r).getD k em)),(80,pB (aH (ik l) ((outer r).getD k em)))],Gp r A J l (ik l),7⟩ Z ?_ ?_
  .refine gA Z (fN [] ?_);exact zM (bv (bv (bv (bv (bv (bv (bv (bv (bv (bv (bv (bv (bv ⟨.of_eq (by rw[<-uG];rfl),rfl,ac⟩))))))))))))) (hB Z Z Z Z Z Z Z Z Z (zK (zC ac)))
  refine dD Z (fun q4=>?_) (fun q4=>dQ ?_);rotate_left
  .refine jx (bZ ?_);refine gA Z ⟨D,⟨J⟩,[],⟨rfl,u,by rw[n0,abk,List.filter_cons_of_neg (by rw[q4];exact ZN),List.filter_nil,ZL];exact F,fun z hz=>Nat.le_succ_of_le (B z hz)⟩,zW (hB Z Z Z Z Z Z Z Z Z (zK (zC ac)))⟩
  have q0:((outer r).take (k+1)).filter (aH (ik l))=((outer r).take k).filter (aH (ik l))++ [(outer r).getD k em]:=by
   rw[n0,abk,List.filter_cons_of_pos q4];rfl
  have m0:=K6 (L:=J) i ((outer r).getD k em);rw[F,<-JI,<-q0]at m0;refine LK cB Z Z Z ?_;refine dR 12 Z ?_;refine dO Z Z Z Z Z Z ?_;rcases m0 with⟨_,j0,hnew⟩|⟨t,y,hy,j0,hnew⟩
  .refine qO (Ss (d:=91) (p:= .iv (.v (.slice jp 0 0))) (.of_eq (show PV.iv (.v (TH (bU (.int .i64) (ofM J) (i:Int) jp)))=_ by rw[j0];rfl))) fun t Y I=>?_
   obtain⟨rfl,rfl⟩:=I;refine dO Z Z Z Z Z Z ?_;refine qO (Sr (t:=⟨Xg r i k 1,Xf r A J l (ik l) [(outer r).getD k em],10⟩) (L:=[]) (zW (hB Z Z Z Z Z Z Z Z Z (zK (zC (zS ac)))))) fun t Y I=>?_;obtain⟨rfl,rfl⟩:=I;refine qO (rj (i:=9) (d:=94) (cP fR J) Z Z (Dx _) Z (by simp)) fun t Y I=>?_;obtain⟨b,e,a0,g0,g1,g2,g3,rfl,rfl⟩:=I;refine dO Z Z Z Z Z Z ?_;refine HQ ?_;refine jx (bZ ?_);refine gA Z ?_;have S:=ub fR g0;obtain⟨p1,p2⟩:=hnew b e a0
   exact⟨D,⟨J++ [(b,e,(i:Int),a0,[(outer r).getD k em])]⟩,[],⟨sW fR (y:=(b,e,(i:Int),a0,[(outer r).getD k em])) u.nd S,PW u S ⟨by simp,by simpa using g1,g2,g3⟩,p2,fun z hz=>by
    rcases Zm.1 hz with hz|hz
    .have:=B z hz;omega
    .rw[Zk]at hz;subst hz;show 1<=_;omega⟩,zW (hB Z Z Z Z Z Z p1 Z Z (zK (zC ac)))⟩
  .obtain⟨k1,k2,k3,k4⟩:=u.ok y (ZC hy);have k5:=B y (ZC hy);refine qO (kA (d:=91) (sz:=1) (dd fR u.nd hy) (show PV.iv (.v (TH (bU (.int .i64) (ofM J) (i:Int) jp)))=_ by rw[j0];rfl) (List.length_pos_iff.2 k1) k2 k3 k4) fun t Y I=>?_;obtain⟨rfl,rfl⟩:=I;refine qO (Ss (d:=91) (p:= .sl 8 0 (y.2.2.2.2.map fun x=>(cz x).map PV.iv).length 1) (aK.row (by simp))) fun t Y I=>?_;obtain⟨rfl,rfl⟩:=I;refine dO Z Z Z Z Z Z ?_ ⟨?_,?_⟩;rotate_left
   .exact⟨rfl,by simp,rfl,by simp;omega,by simp;omega⟩
   .repeat' (first|exact ac|exact rfl|exact aK.refl _|apply ZU)
   refine qO (Sr (t:=⟨Xg r i k (y.2.2.2.2.length+1),Xf r A J l (ik l) (y.2.2.2.2++ [(outer r).getD k em]),10⟩) (L:=[]) (zM (bv (bv (bv (bv (bv (bv (bv (bv (bv (bv (bv (bv (bv (bv ⟨.row (by simp),rfl,ac⟩)))))))))))))) (hB Z Z Z Z Z Z Z Z Z (zK (zC (hR Z (by simp;rfl) Z ac)))))) fun t Y I=>?_;obtain⟨rfl,rfl⟩:=I;refine qO (Iq y.1) fun t Y I=>?_;obtain⟨rfl,rfl⟩:=I;refine qO (rj (i:=9) (d:=94) Fu Z KG (Dx _) Z (by simp)) fun t Y I=>?_;obtain⟨b,e,a0,g0,g1,g2,g3,rfl,rfl⟩:=I;refine dO Z Z Z Z Z Z ?_;refine HQ ?_;refine jx (bZ ?_);refine gA Z ?_;have S:=Js g0;obtain⟨p1,p2⟩:=hnew b e a0
   exact⟨D,⟨J.set t (b,e,(i:Int),a0,y.2.2.2.2++ [(outer r).getD k em])⟩,[],⟨Iz fR (y':=(b,e,(i:Int),a0,y.2.2.2.2++ [(outer r).getD k em])) u.nd hy S,Uj u hy S ⟨by simp,by simpa using g1,g2,g3⟩,p2,fun z hz=>by
    rcases abL hz with hz|rfl
    .have:=B z hz;omega
    .simp;omega⟩,zW (hB Z Z Z Z Z Z p1 Z Z (zK (zC ac)))⟩
 .refine jx (bZ ?_);refine gA Z ⟨G,⟨L⟩,[],⟨rfl,d0,by rw[c0];unfold No;rw[be (zF q1)];exact b0,fun z hz=>by have:=i0 z hz;rw[aa3];omega⟩,zW (hB Z Z Z Z Z Z Z Z Z ac)⟩
def ah.z0:ah:=⟨⟨Zd,[]⟩,[],⟨0,0⟩⟩
def kP(p:Prog)(n:Int):ah:=if eH p n=0 then bT p n else ah.z0
theorem zR(e:Int):aK (.bQ [.agg [pS Zd,.iv (.v (.slice jp 0 0)),.iv (.v (.slice jp 0 0)),pI 0,pI 0],pI e]) (.bQ [ag ah.z0.c,pI e]):= .bQ ⟨.agg ⟨.refl _,.nil _ _,.nil _ _,.refl _,.refl _,ac⟩,.refl _,ac⟩
theorem BL(p:Prog)(n:Int)(hb:p.fit)(hs:p.size<=10000000):Pure prog 71 [ag p.c,pI n] (.bQ [ag (kP p n).c,pI (eH p n)]):=by
 have d:p.rules.length<=1000000000:=hb.2.1;refine ae ab func71 Z (by decide) ntmps71 Z (by simp) Z ?_;refine zE Z Z (fun g1=>?_) fun g1=>?_
 .have g1:n<1:=zT g1;have h:eH p n=1:=by unfold eH;rw[am (.inl g1)]
  rw[show kP p n=ah.z0 by unfold kP;rw[be (by rw[h];decide)],h];refine gA Z (zL ?_);exact zR _
 have g1: ¬n<1:=zF g1;refine zJ Z Z (fun g2=>?_) fun g2=>?_
 .have g2:n>p.rules.length:=zT g2;have h:eH p n=1:=by unfold eH;rw[am (.inr g2)]
  rw[show kP p n=ah.z0 by unfold kP;rw[be (by rw[h];decide)],h];refine gA Z (zL ?_);exact zR _
 have g2: ¬n>p.rules.length:=zF g2;have b:eH p n=if(dU p).1≠0 then 4 else 0:=by unfold eH;rw[be (fun g=>g.elim g1 g2)]
 refine gA Z (zp (T3 Kn p hb hs) ?_);refine zJ Z Z (fun k1=>?_) fun k1=>?_
 .have k1:(dU p).1≠0:=by
   have k1:(!li ((dU p).1=0))=kw:=k1;simpa using k1
  rw[am k1]at b;rw[show kP p n=ah.z0 by unfold kP;rw[be (by rw[b];decide)],b];refine gA Z (zL ?_);exact zR _
 .have k1: ¬(dU p).1≠0:=by
   have k1:(!li ((dU p).1=0))=lc:=k1;simpa using k1
  rw[be k1]at b;rw[show kP p n=bT p n by unfold kP;rw[am b],b];refine gA Z (zL ?_);exact .refl _
theorem GZ(r:ah)(hb:r.size<=2000000):bW prog 72 [ag r.c,.iv (.v (.slice jp 0 0))] [] (.ptr 0 0) (wH r (zl (H4 r)) [] []) 3:=
 (Fy r [] hb (by simp)).le ⟨.refl _,.nil _ _,ac⟩
def Xq:Prop:= ∀(p:Prog) (r:ah),(dU p).1=0->r∈p.rules->r.size<=2000000->Bt r (H4 r)
set_option maxHeartbeats 1000000 in
theorem TX(B:Xq)(p:Prog)(n fstv:Int)(hb:p.fit)(hs:p.size<=2000000):Pure prog 36 [ag p.c,pI n,pI fstv] (Ha (uo p n fstv)):=by
 have J:p.rules.length<=1000000000:=hb.2.1;refine ae ab func36 Z (by decide) ntmps36 Z (by simp) Z ?_;refine gA Z (zp (BL p n hb (by omega)) ?_);refine zJ Z Z (fun k1=>?_) fun k1=>?_
 .have k1:eH p n≠0:=by
   have k1:(!li (eH p n=0))=kw:=k1;simpa using k1
  rw[show uo p n fstv=(nh.z,eH p n) by unfold uo;rw[am k1]];refine gA Z (zL ?_);exact zP _
 have k1:eH p n=0:=zY k1;have j:=vh k1;have x:=p7 k1;have S:(n-1).toNat<p.rules.length:=by omega
 have D:(bT p n).body.length<=2000000:=by have:=Lit.au (bT p n).body;unfold ah.size at x;omega
 have A:uo p n fstv=if iq (bT p n) fstv then(nh.z,90) else(⟨n,fstv,[],Dg (bT p n) fstv []⟩,0):=by unfold uo;rw[be (by simpa using k1)]
 have bad:iq (bT p n) fstv->uo p n fstv=(nh.z,90):=fun h=>by rw[A,am h]
 have b: ¬iq (bT p n) fstv->uo p n fstv=(⟨n,fstv,[],Dg (bT p n) fstv []⟩,0):=fun h=>by rw[A,be h]
 have y:=B p (bT p n) j.2.2 (BN k1) (by omega);have u:kP p n=bT p n:=by unfold kP;rw[am k1]
 rw[u];generalize bT p n=r at*
 refine zE Z Z (fun g1=>?_) fun g1=>?_
 .have g1:fstv< -1:=zT g1;rw[bad (.inl g1)];refine gA Z (zL ?_);exact zP _
 have g1: ¬fstv< -1:=zF g1;refine zE Z Z (fun g2=>?_) fun g2=>?_
 .have g2:fstv>=r.body.length:=zT g2;rw[bad (.inr (.inl g2))];refine gA Z (zL ?_);exact zP _
 have g2: ¬fstv>=r.body.length:=zF g2;have a0: ¬iq r fstv->Cv r fstv:=fun h=>by
  by_cases F:fstv= -1
  .exact .inl F
  .refine .inr ⟨fstv.toNat,by unfold iq at h;omega,by unfold iq at h;omega,?_⟩;exact ab3.1 fun I=>h (.inr (.inr ⟨by unfold iq at h;omega,I⟩))
 refine zJ Z Z (fun g3=>?_) fun g3=>?_
 .have g3:fstv>=0:=zT g3;have G:fstv.toNat<r.body.length:=by omega
  refine zJ Z Z (fun g4=>?_) fun g4=>?_
  .have g4:(r.body.getD fstv.toNat em).kind≠1:=by
    have g4:(!li ((r.body.getD fstv.toNat em).kind=1))=kw:=g4;simpa using g4
   rw[bad (.inr (.inr ⟨g3,g4⟩))];refine gA Z (zL ?_);exact zP _
  .have g4: ¬(r.body.getD fstv.toNat em).kind≠1:=by
    have g4:(!li ((r.body.getD fstv.toNat em).kind=1))=lc:=g4;simpa using g4
   have d: ¬iq r fstv:=fun h=>h.elim g1 fun h=>h.elim g2 fun h=>g4 h.2;rw[b d];refine gA Z (bM [] (GZ r (by omega)) Z Z Z Z Z Z Z Z ?_);refine gA Z (bM [3,4,5] (BJ r (H4 r) [] fstv y (a0 d) (by omega) (by omega) (by simp)) Z Z Z Z Z Z Z Z ?_);refine gA Z (zL ?_);exact .bQ ⟨.agg ⟨.refl _,.refl _,.nil _ _,.refl _,ac⟩,.refl _,ac⟩
 .have g3: ¬fstv>=0:=zF g3;have d: ¬iq r fstv:=fun h=>h.elim g1 fun h=>h.elim g2 fun h=>g3 h.1;rw[b d];refine gA Z (bM [] (GZ r (by omega)) Z Z Z Z Z Z Z Z ?_);refine gA Z (bM [3,4,5] (BJ r (H4 r) [] fstv y (a0 d) (by omega) (by omega) (by simp)) Z Z Z Z Z Z Z Z ?_);refine gA Z (zL ?_);exact .bQ ⟨.agg ⟨.refl _,.refl _,.nil _ _,.refl _,ac⟩,.refl _,ac⟩
end Go.Proofs.YtflegjieadkonaaGreatDoor
namespace Go.Proofs.YtflegjieadkonaaGreatDoor
open Go Go.Al
theorem EE{α β:Type}{f g:α->List β}: ∀{l:List α},(∀x∈l,f x=g x)->l.flatMap f=l.flatMap g
 | [],_=>rfl
 |x::l,h=>by
  rw[ZX,ZX,h x Zo,EE fun y b=>h y (Zn _ b)]
theorem OU{α:Type}[Inhabited α]{l:List α}(h:l.length=2):l=[l.getD 0 em,l.getD 1 em]:=by
 match l,h with
 | [a,b],_=>rfl
theorem PU{α:Type}[Inhabited α]{l:List α}(h:l.length=1):l=[l.getD 0 em]:=by
 match l,h with
 | [a],_=>rfl
theorem oD: ∀(n:Nat) (e:Expr),(bO n e).2=lc->bw e=bA e:=by
 intro n
 induction n using abR with
 |ind n ih=>
  intro e h;rw[tB,yG];have u: ∀(b:Bool) (k:nZ),(gH e b k).2=lc->((e.kind=1∨e.kind=2)∧e.args=[])∨(e.kind=4∧k.2=lc):=fun b k hh=>by
   unfold gH at hh;split at hh
   .rename_i hk;refine .inl ⟨hk,?_⟩;unfold yk at hh;simp only[ZG,decide_eq_false_iff_not]at hh;exact ZY (by omega)
   .split at hh
    .cases hh
    .rename_i d;exact .inr ⟨ab3.1 fun g=>d (.inl g),hh⟩
  have x:(e.kind=1∨e.kind=2)∧e.args=[]->((if e.kind=1 then[e.var] else[])++e.args.flatMap bw)=if e.kind=1 then[e.var] else if e.kind=4 then e.args.flatMap bA else[]:=by
   rintro⟨hk,ha⟩;rw[ha];rcases hk with hk|hk
   .rw[am hk,am hk];rfl
   .rw[be (by omega),be (by omega),be (by omega)];rfl
  match n,h with
  |0,h=>
   rcases u _ _ h with y|⟨_,d⟩
   .exact x y
   .cases d
  |1,h=>
   rcases u _ _ h with y|⟨_,d⟩
   .exact x y
   .cases d
  |m+2,h=>
   rw[vM]at h;rcases u _ _ h with y|⟨F,d⟩
   .exact x y
   .rw[be (by omega),be (by omega),am F,aaN];have j: ∀b a,(kn m b a).2=lc->bw a=bA a:=fun b a hh=>by
     unfold kn at hh;split at hh
     .simp only[ZG]at hh;exact ih m (by omega) a hh.1
     .exact ih (m+1) (by omega) a hh
    unfold nv at d;split at d
    .split at d
     .rename_i B;have A:=j _ _ d;rw[PU B];simp only[ZX,abX];rw[show bw (e.args.getD 0 em)=bA (e.args.getD 0 em) from A]
     .cases d
    .split at d
     .rename_i B;simp only[ZG]at d;have A:=j _ _ d.1;have D:=j _ _ d.2;rw[OU B];simp only[ZX,abX];rw[show bw (e.args.getD 0 em)=bA (e.args.getD 0 em) from A,show bw (e.args.getD 1 em)=bA (e.args.getD 1 em) from D]
     .cases d
theorem rF{e:Expr}(h:cY e=kw):bw e=[]:=by
 unfold cY at h;simp only[Zw,decide_eq_true_eq]at h;obtain⟨b,_,_,_,d⟩:=h;rw[tB,be (by omega),ZY (l:=e.args) (by omega)];rfl
theorem Bi{a:Atom}(h:eU a=kw):cL a=[]:=by
 unfold eU at h;simp only[Zw,decide_eq_true_eq]at h;have:a.ad=[]:=ZY (by omega);unfold cL;rw[this];rfl
theorem Ec: ∀(n:Nat) (br:Int) (l:Lit),(eA n br l).2=lc->dA l=cf l∧(l.kind=4->ik l=bd l.agg)∧(l.kind=3->bw l.left=bA l.left∧bw l.right=bA l.right)
 |0,_,_,h=>by cases h
 |n+1,br,l,h=>by
  rw[eA]at h;unfold jO at h;unfold dA cf;split at h
  .rename_i F;simp only[ZG,aaM]at h;have d:=h.2.1;unfold hP at d;simp only[Zw]at d;refine⟨by rw[am F,rF d.1,rF d.2.1];simp,fun g=>by omega,fun g=>by omega⟩
  .rename_i F;rw[be F];split at h
   .rename_i A;simp only[ZG,aaM]at h;refine⟨by rw[am A,Bi h.2.2.1,oD _ _ h.1,oD _ _ h.2.1];rfl,fun g=>by omega,fun _=>⟨oD _ _ h.1,oD _ _ h.2.1⟩⟩
   .rename_i A;split at h
    .rename_i J;simp only[ZG,aaM]at h;have d:=h.2.2;unfold hP at d;simp only[Zw]at d;refine⟨by rw[be A,Bi h.2.1,rF d.1,rF d.2.1];rfl,fun _=>?_,fun g=>absurd g A⟩;have j:=h.1;unfold oL at j;split at j
     .cases j
     .simp only[ZG]at j;unfold ik bd;congr 1
      .show(if l.c7=1 then[] else bw l.jT)=if l.c7=1 then[] else bA l.jT;by_cases u:l.c7=1
       .rw[am u,am u]
       .rw[be u,be u];have D:=j.1;unfold Hf at D;rw[be (show¬l.agg.func=1 from u)]at D;simp only[ZG]at D;exact oD _ _ D.2
      .refine EE fun x I=>?_
       have hb: ∀i,i<=l.ar.length->(b5 (eA n (br-1)) l.ar i).2=lc:=by
        have G: ∀k i,i+k=l.ar.length->(b5 (eA n (br-1)) l.ar i).2=lc:=by
         intro k
         induction k with
         |zero=>intro i B;rw[show i=l.ar.length by omega];exact j.2
         |succ k ih=>
          intro i B;have b:=ih (i+1) (by omega);rw[b5]at b;split at b
          .cases b
          .rename_i y;simpa using y
        exact fun i B=>G (l.ar.length-i) i (by omega)
       obtain⟨i,B,rfl⟩:=aaf.1 I;have b:=hb (i+1) (by omega);rw[b5]at b;split at b
       .cases b
       .split at b
        .cases b
        .rename_i y;rw[aaC,Y6,Za B]at y;exact(Ec n (br-1) _ y).1
    .cases h
theorem uP{K:ak->Bool}{a b:List ak}(h: ∀x,x∈a↔x∈b):a.all K=b.all K:=by
 rw[ZW,ZA,ZA];exact⟨fun g x d=>g x ((h x).2 d),fun g x d=>g x ((h x).1 d)⟩
theorem Mm:Xq:=by
 intro p r h hr hb;have h0:=(ME h).1;have Y:=(yL p).1 h0;unfold jl at Y;have h2:=(xM p _).1 (aby.1 Y).2;obtain⟨j,hj,rfl⟩:=aaf.1 hr;have S:=h2 j hj;have h4:(pG p p.rules[j] ((j:Int)+1)).1=0:=by
  rw[p8,Y6,Za hj]at S;exact S
 generalize p.rules[j]=r at*
 have b: ∀i,i<r.body.length->dA (r.body.getD i em)=cf (r.body.getD i em)∧((r.body.getD i em).kind=4->ik (r.body.getD i em)=bd (r.body.getD i em).agg)∧((r.body.getD i em).kind=3->bw (r.body.getD i em).left=bA (r.body.getD i em).left∧bw (r.body.getD i em).right=bA (r.body.getD i em).right):=fun i y=>by
  have u:=IG h4 _ (cv y);unfold iR at u;rw[B7 _ _ _ (Zc _),ZG]at u;exact Ec _ _ _ u.2
 refine⟨fun K i y=>?_,fun i y hk x=>?_,fun i=>Z1 (QS r i) (by omega)⟩
 .obtain⟨f1,f2,f3⟩:=b i y;have F:=U3 r y;unfold iz;generalize r.body.getD i em=l at*
  unfold lH uK;by_cases k1:l.kind=1
  .rw[am k1,am k1]
  rw[be k1,be k1];by_cases D:l.kind=2
  .rw[am D,am D];unfold uY;have:(dA l).all K=(bn l.atom).all K:=uP fun x=>by
    rw[f1,fW];unfold cf;rw[am (.inr D)]
   rw[this]
  rw[be D,be D];have d:cf l=if l.kind=3 then bA l.left++bA l.right else[]:=by unfold cf;rw[be (by omega)]
  by_cases A:l.kind=3
  .rw[am A,am A];rw[am A]at d;obtain⟨e1,e2⟩:=f3 A;have a1:(dA l).all K=((aI l.left).all K&&(aI l.right).all K):=by
    rw[f1,d,List.all_append,uP fun x=>(dr (x:=x) (e:=l.left)).symm,uP fun x=>(dr (x:=x) (e:=l.right)).symm]
   have a2:fJ K l.left l.right=fH K l.left l.right:=by
    unfold fJ fH;rw[e2,uP fun x=>(dr (x:=x) (e:=l.right)).symm,acm]
   have a3:fJ K l.right l.left=fH K l.right l.left:=by
    unfold fJ fH;rw[e1,uP fun x=>(dr (x:=x) (e:=l.left)).symm,acm]
   unfold yK vO;rw[a1,a2,a3]
  rw[be A,be A];by_cases B:l.kind=4
  .rw[am B,am B,F];unfold Bq Gt;have:(No r l).all K=(aG l.agg).all fun v=>!aH (outer r) v||K v:=by
    unfold No;rw[am B,f2 B,ZW,ZA,ZA];constructor
    .intro g x G;cases ho:aH (outer r) x with
     |false=>rfl
     |true=>
      show K x=kw;exact g x (ZM.2 ⟨aM.1 ho,aM.2 (fy.1 G)⟩)
    .intro g x G;obtain⟨I,J⟩:=ZM.1 G;have:=g x (fy.2 (aM.1 J));rw[aM.2 I]at this;exact this
   rw[this]
  .rw[be B,be B]
 .obtain⟨f1,_⟩:=b i y;rw[f1];refine rD (fun x=>?_) x;rw[fW];unfold cf;rw[am (.inl hk)]
end Go.Proofs.YtflegjieadkonaaGreatDoor
