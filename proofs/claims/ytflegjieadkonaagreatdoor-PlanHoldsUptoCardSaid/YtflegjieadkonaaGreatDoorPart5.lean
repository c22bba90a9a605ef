/-
  What the proofs of the claims need: part 5 of 6.
-/
import Derived.Test.YtflegjieadkonaaGreatDoorPart4
open And renaming intro→Rm
open Bool renaming and_eq_true→Q5,false_ne_true→Ri,not_eq_true'→Rw
open ByteArray renaming empty→Qz
open Decidable renaming not_not→SC
open Int renaming le_refl→SA,toNat_natCast→QW
open List renaming all_eq_true→Q7,eq_nil_of_length_eq_zero→Rx,foldl_cons→Rc,getD_eq_getElem?_getD→Qx,getElem?_eq_getElem→Qy,getElem?_replicate→S0,getElem?_set→R5,getElem?_take→Rt,getElem_mem→Rz,length_append→Qv,length_cons→Rf,length_map→Rv,length_set→SO,length_singleton→Rp,length_take→RW,map_append→QO,map_set→S4,mem_append_left→Q8,mem_iff_getElem?→S7,nil_append→Sa,pairwise_iff_getElem→Sq,replicate→SM,take_of_length_le→QM
open Nat renaming add_mul→RJ,le_of_ble_eq_true→Qs,le_refl→QH,le_trans→Rr,zero_add→Q9,zero_le→QN
open Option.some renaming inj→RC
set_option maxRecDepth 100000
open Bool renaming false→lc,true→kw
open Decidable renaming decide→li
open Inhabited renaming default→co
open Option renaming none→jp,some→io
open Array renaming getD_eq_getD_getElem?→Qt
open Option.some renaming injEq→Qu
open Array renaming range→Tz
open Array renaming getElem?_map→S3
open Option renaming map_some→RZ
open Option renaming getD_some→R2
open Array renaming getElem?_eq_getElem→Rs
open List renaming getElem?_eq_some_iff→Qw
open Nat renaming mul_le_mul_right→Rb
open Array renaming getElem?_append_left→RB
open List renaming getElem?_append_right→QX
open Array renaming getElem?_toList→RI
open List renaming append_assoc→QU
namespace Go.Proofs.YtflegjieadkonaaGreatDoor
open Go Go.Al Go.Proofs.Tryz
def MK:ae:=⟨#[88]⟩
def Nr:ae:=⟨#[89]⟩
def MJ:ae:=⟨#[90]⟩
def qX:ae:=⟨#[101,100,103,101]⟩
def kL:ae:=⟨#[112,97,116,104]⟩
def qH(s:ae):Term:=⟨1,s,⟨0,0,Qz⟩⟩
def FH(a:Atom):Lit:= .mk 1 a 0 Gn Gn 0 Qz Gn [] ⟨0,0⟩
def xk:List Lit:=[FH ⟨kL,[qH MK,qH Nr]⟩,FH ⟨qX,[qH Nr,qH MJ]⟩]
def kI:Prog:=⟨[⟨qX,[1,1],⟨0,0⟩⟩,⟨kL,[1,1],⟨0,0⟩⟩],[⟨⟨kL,[qH MK,qH MJ]⟩,xk,⟨0,0⟩⟩]⟩
theorem Dr(s:ae):Pure prog 105 [pS s] (ag (qH s).c):=by
 refine ar ab func105 D (by decide) ntmps105 D (by simp) D ?_;refine gA D (zL ?_);exact .refl _
def nN:List (List PV)->List (List PV)->Prop
 | [],[]=>True
 |e::r,f::q=>j4 e f∧nN r q
 |_,_=>False
theorem nN.length: ∀{a b:List (List PV)},nN a b->a.length=b.length
 | [],[],_=>rfl
 |_::_,_::_,h=>congrArg (· +1) (nN.length h.2)
 | [],_::_,h=>h.elim
 |_::_,[],h=>h.elim
theorem nN.get: ∀{a b:List (List PV)},nN a b-> ∀(k:Nat) (e:List PV),b[k]? =io e-> ∃d,a[k]? =io d∧j4 d e
 | [],[],_,k,e,h=>by simp at h
 |x::r,y::q,hh,k,e,h=>by
  cases k with
  |zero=>cases h;exact⟨x,rfl,hh.1⟩
  |succ k=>exact nN.get hh.2 k e h
 | [],_::_,hh,_,_,_=>hh.elim
 |_::_,[],hh,_,_,_=>hh.elim
theorem Mo{sz:Nat}{es b:List (List PV)}(h:nN es b):eJ (.row sz es) (.row sz b):=by
 have d:=h.length;refine⟨fun hr=>?_,fun M N U w i F=>?_⟩
 .cases es with
  |nil=>cases b with
   |nil=>exact hr
   |cons a r=>cases d
  |cons a r=>rfl
 .rcases F with F|⟨G,c,T,I,J,S,Y,Z⟩
  .refine .inl ?_;rw[F]at d;exact Rx d.symm
  .refine .inr ⟨G,c,T,I,J,by rw[<-d];exact S,fun k e A=>?_,fun k e j x A hx=>?_⟩
   .obtain⟨u,y,hb⟩:=h.get k e A;rw[<-hb.length];exact Y k u y
   .obtain⟨u,y,hb⟩:=h.get k e A;obtain⟨x0,hd,B⟩:=hb.get j x hx;exact B M N U _ (Z k u j x0 y hd)
abbrev Bt:AO:= .cells [.iv (.v (.slice jp 0 0)),.iv (.v (.slice jp 0 0))]
abbrev Cj(rel:ae)(x:PV):List PV:=((FH ⟨rel,[]⟩).c.map PV.iv).set 2 x
abbrev Pw:List Term:=[qH MK,qH Nr]
abbrev Pv:List Term:=[qH Nr,qH MJ]
abbrev Pl:List Term:=[qH MK,qH MJ]
set_option maxHeartbeats 4000000 in
theorem Oi:Pure prog 68 [] (ag kI.c):=by
 refine ar ab func68 D (by decide) ntmps68 D (by simp) D ?_;refine gM 9 D (jL [] (t:=⟨[(0,.ptr 0 0),(1,.sl 1 0 2 1)],[(0,io Bt),(1,io (aW 1 [(1:Int),1] cR))],2⟩) (zW (zO (zS ac))) ?_);refine nf 1 (fun k=>cR ([(1:Int),1].getD k co)) D (fQ D) (by simp[AF.tP,PV.cU]) (kh D) ?_
 refine jL (L:=[]) (t:=⟨[(0,.ptr 0 0),(1,.iv (de 1 [(1:Int),1] cR))],[(0,io Bt)],2⟩) (zM (bi ⟨(by
  show aC (.iv (.c5 1 2 fun k=>cR ([(1:Int),1].getD (0+k) co))) (.iv (de 1 [(1:Int),1] cR));simp only[Q9]
  exact .refl _),rfl,ac⟩) (zO ac)) ?_
 refine gA D (zp (Dr MK) ?_);refine gA D (zp (Dr Nr) ?_);refine gA D (zp (Dr Nr) ?_);refine gA D (zp (Dr MJ) ?_);refine gM 6 D (jL [] (t:=⟨[(0,.ptr 0 0),(1,.iv (de 1 [(1:Int),1] cR)),(2,.sl 4 0 2 30)],[(0,io Bt),(2,io (aW 5 Pw Term.c)),(3,io (aW 5 Pv Term.c)),(4,io (.row 30 [Cj kL (.sl 2 0 2 5),Cj qX (.sl 3 0 2 5)]))],5⟩) (zW (zO (zS (zS ⟨⟨_,rfl,Mo ⟨⟨.refl _,.refl _,.refl _,.refl _,.refl _,.refl _,.refl _,.refl _,.refl _,.refl _,.nil _ _,.refl _,.refl _,.refl _,.refl _,.refl _,.refl _,.nil _ _,.refl _,.refl _,.refl _,.refl _,.refl _,.refl _,.refl _,.refl _,.nil _ _,.nil _ _,.refl _,.refl _,ac⟩,⟨.refl _,.refl _,.refl _,.refl _,.refl _,.refl _,.refl _,.refl _,.refl _,.refl _,.nil _ _,.refl _,.refl _,.refl _,.refl _,.refl _,.refl _,.nil _ _,.refl _,.refl _,.refl _,.refl _,.refl _,.refl _,.refl _,.refl _,.nil _ _,.nil _ _,.refl _,.refl _,ac⟩,ac⟩⟩,Qs D,IJ D,ac⟩)))) ?_);refine nf 2 (fun k=>Term.c (Pw.getD k co)) D (fQ D) (by simp[AF.tP,PV.cU]) (kh D) ?_
 refine nf 3 (fun k=>Term.c (Pv.getD k co)) D (fQ D) (by
  simp[AF.tP,AF.jf,PV.dT,PV.cU];show PV.cU 3 5 2 (.sl 4 0 2 30)
  simp[PV.cU]) (kh D) ?_
 refine jL (L:=[]) (t:=⟨[(0,.ptr 0 0),(1,.iv (de 1 [(1:Int),1] cR)),(2,.sl 4 0 2 30)],[(0,io Bt),(4,io (aW 30 xk Lit.c))],5⟩) (zW (zO (hR D (by
  show[Cj kL (.iv (.c5 5 2 fun k=>Term.c (Pw.getD (0+k) co))),Cj qX (.iv (.c5 5 2 fun k=>Term.c (Pv.getD (0+k) co)))]=_
  simp only[Q9];rfl) D ac))) ?_
 refine nf 4 (fun k=>Lit.c (xk.getD k co)) D (fQ D) (by simp[AF.tP,PV.cU,xk]) (kh D) ?_
 refine jL (L:=[]) (t:=⟨[(0,.ptr 0 0),(1,.iv (de 1 [(1:Int),1] cR)),(2,.iv (lits xk))],[(0,io Bt)],5⟩) (zM (bi (bi ⟨(by
  show aC (.iv (.c5 30 2 fun k=>Lit.c (xk.getD (0+k) co))) (.iv (lits xk));simp only[Q9]
  exact .refl _),rfl,ac⟩)) (zO ac)) ?_
 refine gA D (zp (Dr MK) ?_);refine gA D (zp (Dr MJ) ?_);refine gM 5 D (jL [] (t:=⟨[(0,.ptr 0 0),(1,.iv (de 1 [(1:Int),1] cR)),(2,.iv (lits xk)),(3,.ptr 6 0)],[(0,io Bt),(5,io (aW 5 Pl Term.c)),(6,io (.cells [pS kL,.sl 5 0 2 5]))],7⟩) (zW (zO (zS (zO ac)))) ?_);refine nf 5 (fun k=>Term.c (Pl.getD k co)) D (fQ D) (by simp[AF.tP,PV.cU]) (kh D) ?_
 refine jL (L:=[]) (t:=⟨[(0,.ptr 0 0),(1,.iv (de 1 [(1:Int),1] cR)),(2,.iv (lits xk)),(3,.ptr 6 0)],[(0,io Bt),(6,io (au (Atom.c ⟨kL,Pl⟩)))],7⟩) (zW ⟨⟨_,rfl,.of_eq D⟩,Qs D,rfl,⟨_,rfl,.of_eq (by
  show AO.cells [pS kL,.iv (.c5 5 2 fun k=>Term.c (Pl.getD (0+k) co))]=_
  simp only[Q9];rfl)⟩,Qs D,rfl,ac⟩) ?_
 refine gA D (sV (.inr D) D (j5.Mp 7 kI.aZ Decl.c D D ?_ (j5.Mp 8 kI.rules ai.c D D ?_ (.done ?_))))
 .simp[PV.cU,gB,kI]
 .simp[PV.dT,uq,PV.cU,gB,kI];show PV.cU 8 5 1 (.sl 8 0 1 5);simp[PV.cU]
 .show aC (.agg [.iv (.c5 4 2 fun k=>Decl.c (kI.aZ.getD (0+k) co)),.iv (.c5 5 1 fun k=>ai.c (kI.rules.getD (0+k) co))]) (ag kI.c);simp only[Q9];exact .refl _
instance (a b:ae):Decidable (Hi a b):=inferInstanceAs (Decidable (mA a<mA b))
theorem MF:ns kI=[qX,kL]:=
 lJ (gq (show[qX,kL].Nodup by decide)) (by unfold qA;decide+kernel) fun x=>by rw[ns,jn];rfl
theorem Bq:fI kI=eN.z:=by
 delta fI qC sH xd ringEq Gm
 rw[MF];decide+kernel
theorem xi:dM kI 1=0:=by
 unfold dM;rw[Bq];decide
theorem xM:kI.fit:=by
 have h: ∀r∈kI.rules,r.size<=10000000∧r.head.ts<=900000000∧ ∀l∈r.body,l.ts<=900000000:=by decide+kernel
 exact⟨by decide+kernel,by decide+kernel,h⟩
theorem tv:kI.size<=2000000:=by decide+kernel
def plA:kP:=⟨1,1,[],[⟨1,1,[],Qz⟩,⟨1,0,[1],Qz⟩]⟩
def Ot:kP:=⟨1, -1,[MK,MJ],[⟨1,0,[0],Qz⟩,⟨1,1,[0,1],Qz⟩]⟩
theorem FC:kj kI 1 1=(plA,0):=by
 unfold kj;rw[xi];decide+kernel
theorem FP:jJ kI 1=(Ot,0):=by
 unfold jJ lV;rw[xi];decide+kernel
theorem C7:eR kI Ot=kw:=by
 unfold eR;rw[show dM kI Ot.iY=0 from xi];decide+kernel
theorem w8:Pure prog 34 [] (pB kw):=by
 have b:=AP Aa kI 1 1 xM tv;have d:=E2 kI 1 xM tv;have j:=w5 kI Ot xM tv (by decide);rw[FC]at b;rw[FP]at d;rw[C7]at j;unfold plA at b;unfold Ot at d j;refine ar ab func34 D (by decide) ntmps34 D (by simp) D ?_;refine gA D (zp (Oi) ?_);refine gA D (zp (b) ?_);refine gA D (zp (d) ?_)
 repeat(refine gA D (zI (fun q=>?_) (fun q=>?_))<;>try(exact absurd q (by decide)))
 refine gA D (zp (j) ?_)
 repeat(refine gA D (zI (fun q=>?_) (fun q=>?_))<;>try(exact absurd q (by decide)))
 refine gA D (zL ?_);exact .of_eq (mF (by decide+kernel))
theorem tq(r:ai)(fstv:Int): ∀(n:Nat) (dn:Nat->Bool) (K:ae->Bool),(cV r fstv n dn K).length<=n
 |0,_,_=>QH _
 |n+1,dn,K=>by
  rw[cV];split
  .exact QN _
  .rw[Rf];exact Nat.succ_le_succ (tq r fstv n _ _)
theorem EV(l:List ae)(s:ae)(hb:l.length<=5000000000000):bL prog 86 [.sl 0 0 l.length 1,pS s] [aW 1 l bR] (.sl 1 0 (j7 l s).length 1) [(1,io (aW 1 (j7 l s) bR))] 2:=by
 refine aw ab func86 D (by decide) ntmps86 D (by simp) ?_;refine gA D ?_;refine aD 0 l.length (QN _) (fun i=>⟨[(0,.sl 0 0 l.length 1),(1,pS s),(5,pI i)],[(0,io (aW 1 l bR))],1⟩) (fun i=>(l.take i).any (fun x=>li (x=s))=lc) [] D
  (zW (zS trivial)) fun i y u=>?_
 refine zJ D D (fun b=>?_) fun b=>?_
 .have b:=bv b
  first
   |refine gM 1 D (aM ab D D D D D (b8 b) D D ?_)
   |refine gM 2 D (aM ab D D D D D (b8 b) D D ?_)
   |refine gM 3 D (aM ab D D D D D (b8 b) D D ?_)
   |refine gM 4 D (aM ab D D D D D (b8 b) D D ?_)
   |refine gM 5 D (aM ab D D D D D (b8 b) D D ?_)
   |refine gM 6 D (aM ab D D D D D (b8 b) D D ?_)
   |refine gM 7 D (aM ab D D D D D (b8 b) D D ?_)
   |refine gM 8 D (aM ab D D D D D (b8 b) D D ?_)
  refine zJ D D (fun d=>?_) fun d=>?_
  .have d:li (l.getD i co=s)=kw:=d;have j:j7 l s=l:=am (ya b d);rw[j];refine gA D (zD [0] D (zW (zS ac)))
  .have d:li (l.getD i co=s)=lc:=d;refine gA D ⟨b,(cP u b).2 d,[],zW (zS ac)⟩
 .have b:=ci b;have j:j7 l s=l++ [s]:=be (by rw[show aJ l s=lc from any_none u b];exact Ri);rw[j];refine gA D (zD [2] D (zM ⟨.row (by rw[Qv];rfl),rfl,ac⟩ (hR D (by rw[QO];rfl) D ac)))
theorem C5(l:List ae)(s:ae):(j7 l s).length<=l.length+1:=by
 unfold j7;split
 .omega
 .simp
theorem Aw: ∀(ts:List Term) (a:List ae),(ts.foldl s7 a).length<=a.length+ts.length
 | [],a=>QH _
 |t::ts,a=>by
  have b:=Aw ts (s7 a t);have d:(s7 a t).length<=a.length+1:=by
   unfold s7;split
   .exact C5 _ _
   .omega
  rw[Rc,Rf];omega
structure OJ (r:ai) (pl:kP) (i:Nat) (seen:List Int) (set:List ae):Prop where
 sl:seen.length=r.body.length
 bd: ∀j,0<=seen.getD j co∧seen.getD j co<=i
 ll:set.length<=1000000000+i*2000000
 rest:rP r (pl.steps.drop i) seen set=kw
theorem Lc{r:ai}{pl:kP}{i:Nat}{b:List Int}{set:List ae}(h:OJ r pl i b set)(hi:i<pl.steps.length): ¬G0 r (pl.steps.getD i co):=fun g=>by
 have:=h.rest;rw[n6 hi,rP,am g]at this;cases this
theorem B9{b:List Int}{s:cQ}{i:Nat}(h: ∀j,0<=b.getD j co∧b.getD j co<=(i:Int)): ∀j,0<=(gQ b s).getD j co∧(gQ b s).getD j co<=((i+1:Nat):Int):=fun j=>by
 unfold gQ;have d:=h j;have u:=h s.lit.toNat;rw[Qx,R5];split
 .split
  .show 0<=b.getD s.lit.toNat co+1∧b.getD s.lit.toNat co+1<=_;omega
  .exact⟨SA 0,Int.natCast_nonneg _⟩
 .rw[<-Qx];omega
theorem I8{r:ai}(hb:r.size<=2000000){pl:kP}{i:Nat}{b:List Int}{set:List ae}(h:OJ r pl i b set)(hi:i<pl.steps.length){s:cQ}(hs:pl.steps.getD i co=s):
  (s.kind=3->aJ (mB r set s) s.var=lc∧OJ r pl (i+1) (gQ b s) (mB r set s++ [s.var]))∧(¬s.kind=3->OJ r pl (i+1) (gQ b s) (mB r set s)):=by
 have j:=h.rest;have d:=Lc h hi;rw[hs]at d;rw[n6 hi,hs,rP,be d]at j;have y:s.lit.toNat<r.body.length:=by unfold G0 at d;omega
 have x:=Lit.aV r.body s.lit.toNat y;have G:=(fX r s).size_eq;have A:(mB r set s).length+1<=1000000000+(i+1)*2000000:=by
  have:=h.ll;rw[RJ];unfold mB;split
  .have:=Aw (fX r s).atom.ad set;have:(fX r s).size<=Lit.az r.body:=x;unfold ai.size at hb;omega
  .omega
 have u:(gQ b s).length=r.body.length:=by unfold gQ;rw[SO,h.sl]
 constructor
 .intro B;rw[am B]at j;split at j
  .cases j
  .rename_i F;exact⟨by simpa using F,u,B9 h.bd,by rw[Qv,Rp];exact A,j⟩
 .intro B;rw[be B]at j;exact⟨u,B9 h.bd,by omega,j⟩
abbrev ocF(n m i:Nat):AF:=[(2,.ptr 0 0),(3,.ptr 1 0),(5,.sl 2 0 n 1),(6,.sl 5 0 m 1),(7,pI i)]
abbrev ocH(r:ai)(pl:kP)(b:List Int)(set:List ae):AH:=[(0,io (au r.c)),(1,io (au pl.c)),(2,io (aW 1 b cR)),(5,io (aW 1 set bR))]
theorem tz(b:List Int)(s:cQ):(b.map fun x=>(cR x).map PV.iv).set (0+s.lit.toNat) [pI (b.getD s.lit.toNat co+1)]=(gQ b s).map fun x=>(cR x).map PV.iv:=by
 unfold gQ;rw[Q9,S4];rfl
theorem Hl{ts:List Term}{a:List ae}{k:Nat}(h:k<ts.length):(ts.take (k+1)).foldl s7 a=s7 ((ts.take k).foldl s7 a) (ts.getD k co):=dz h
set_option maxHeartbeats 1000000 in
theorem AN(r:ai)(pl:kP)(hb:r.size<=2000000)(hg:pl.given.length<=1000000000)(hO:y6 r pl=kw):Pure prog 45 [ag r.c,ag pl.c] (pB kw):=by
 have k0:r.body.length<=2000000:=by have:=Lit.aA r.body;unfold ai.size at hb;omega
 unfold y6 at hO;rw[Q5,decide_eq_true_eq]at hO;obtain⟨b0,hO⟩:=hO;refine ar ab func45 D (by decide) ntmps45 D (by simp) D ?_;refine zJ D D (fun g0=>?_) fun g0=>?_
 .exact absurd (show(pl.steps.length:Int)=r.body.length by omega) (by simpa using g0)
 rcases Nat.eq_zero_or_pos r.body.length with h0|h0
 .have c0:pl.steps=[]:=Rx (by omega);rw[c0,h0]at hO;have hO:li (pl.given.length=(outer r).length)=kw:=hO;refine gA D (Bj ab 1 (fun _=> []) D D D D D D D (by omega) (by omega) D ?_);refine gA D ?_;refine aD 0 0 (QN _) (fun i=>⟨[(2,.ptr 0 0),(3,.ptr 1 0),(5,.iv (.c5 1 0 fun _=> [])),(6,.sl 4 0 pl.given.length 1),(7,pI i)],[(0,io (au r.c)),(1,io (au pl.c)),(4,io (aW 1 pl.given bR))],5⟩) (fun _=>True) [] ac
   (zM (bi (bi (bi ⟨.row (by simp),rfl,bi trivial⟩))) (zK (zK (hR D (by simp only[nR,Sa]) D trivial)))) fun i hi _=>?_
  refine zJ D D (fun u=>?_) fun u=>?_
  .have u:=bv u;omega
  refine gA D ?_;refine aD 0 0 (QN _) (fun i=>⟨[(2,.ptr 0 0),(5,.iv (.c5 1 0 fun _=> [])),(6,.sl 4 0 pl.given.length 1),(12,pI i)],[(0,io (au r.c)),(4,io (aW 1 pl.given bR))],5⟩) (fun _=>True) [] ac
   (zW (zK (zS trivial))) fun i hi _=>?_
  refine zJ D D (fun d=>?_) fun d=>?_
  .have d:(i:Int)<0:=zT d;omega
  refine gA D (zp (c30 r (by omega)) ?_);refine gA D (zL (.of_eq ?_));rw[decide_eq_true_eq]at hO;exact mF (decide_eq_true (by rw[hO]))
 refine gA D (F3 ab r.body.length r.body.length D D D D D D D D D h0 (by omega) (by show 8*r.body.length<=_;omega) D (by decide) (z:=[pI 0]) D (.inr ⟨rfl,rfl⟩) D ?_);refine gA D ?_;refine ql 0 pl.steps.length (QN _) (fun i (x:List Int×List ae)=>⟨ocF r.body.length x.2.length i,ocH r pl x.1 x.2,6⟩) (fun i x=>OJ r pl i x.1 x.2) (SM r.body.length 0,pl.given) [4]
  ⟨by simp,fun j=>by
   rw[Qx,S0]
   split<;>exact⟨SA 0,SA 0⟩,by omega,hO⟩
  (zM (bi (bi (bi ⟨.row (by simp),rfl,bi trivial⟩))) (zK (zK (hR D (by rw[List.map_replicate];rfl) D (hR D (by simp only[nR,Sa]) D trivial))))) fun i x hi F=>?_
 obtain⟨b,set⟩:=x;have F:OJ r pl i b set:=F;show GO prog _ _ _ ⟨ocF r.body.length set.length i,ocH r pl b set,6⟩;have o0:=F.sl;have m0:=F.ll;refine zE D D (fun u=>?_) fun u=>?_
 .have u:=ci u;have S:=F.rest;rw[List.drop_eq_nil_of_le u]at S;have S:((b.all fun x=>li (x=1))&&li (set.length=(outer r).length))=kw:=S;rw[Q5,Q7,decide_eq_true_eq]at S;refine gA D ?_;refine aD 0 b.length (QN _) (fun k=>⟨[(2,.ptr 0 0),(5,.sl 2 0 r.body.length 1),(6,.sl 5 0 set.length 1),(12,pI k)],[(0,io (au r.c)),(2,io (aW 1 b cR)),(5,io (aW 1 set bR))],6⟩) (fun _=>True) [] ac
   (zW (zK (zS (zS trivial)))) fun k hk _=>?_
  refine zJ D D (fun d=>?_) fun d=>?_
  .have d:=bv d
   first
    |refine gM 1 D (aM ab D D D D D (b8 (l:=b) (f:=cR) (i:=k) (by omega)) D D ?_)
    |refine gM 2 D (aM ab D D D D D (b8 (l:=b) (f:=cR) (i:=k) (by omega)) D D ?_)
    |refine gM 3 D (aM ab D D D D D (b8 (l:=b) (f:=cR) (i:=k) (by omega)) D D ?_)
    |refine gM 4 D (aM ab D D D D D (b8 (l:=b) (f:=cR) (i:=k) (by omega)) D D ?_)
    |refine gM 5 D (aM ab D D D D D (b8 (l:=b) (f:=cR) (i:=k) (by omega)) D D ?_)
    |refine gM 6 D (aM ab D D D D D (b8 (l:=b) (f:=cR) (i:=k) (by omega)) D D ?_)
    |refine gM 7 D (aM ab D D D D D (b8 (l:=b) (f:=cR) (i:=k) (by omega)) D D ?_)
    |refine gM 8 D (aM ab D D D D D (b8 (l:=b) (f:=cR) (i:=k) (by omega)) D D ?_)
   refine zJ D D (fun q=>?_) fun q=>?_
   .exact absurd (zT (S.1 _ (dS (i:=k) (by omega)))) (by simpa using q)
   refine gA D ⟨by omega,ac,[],zW (zK (zS (zS ac)))⟩
  refine gA D (zp (c30 r (by omega)) ?_);refine gA D (zL (.of_eq ?_));exact mF (decide_eq_true (by rw[S.2]))
 have u:i<pl.steps.length:=by have:=zT u;omega
 have G:=Lc F u;obtain⟨Z,B⟩:=I8 hb F u D;have d0:=F.bd;refine zJ D D (fun g1=>?_) fun g1=>?_
 .exact absurd (.inl (zT g1)) G
 refine zJ D D (fun g2=>?_) fun g2=>?_
 .exact absurd (.inr (.inl (zT g2))) G
 have g1: ¬(pl.steps.getD i co).lit<0:=zF g1;have g2: ¬(pl.steps.getD i co).lit>=r.body.length:=zF g2;refine zJ D D (fun g3=>?_) fun g3=>?_
 .exact absurd (.inr (.inr fun e=>by
   have g3:(!(li ((pl.steps.getD i co).kind=1)==li ((fX r (pl.steps.getD i co)).kind=1)))=kw:=g3;rw[e]at g3
   simp at g3)) G
 have a0:(pl.steps.getD i co).lit.toNat<r.body.length:=by omega
 have j0:=d0 (pl.steps.getD i co).lit.toNat
 first
  |refine gM 1 D (aM ab D D D D D (b8 (l:=b) (f:=cR) (i:=(pl.steps.getD i co).lit.toNat) (by omega)) D D ?_)
  |refine gM 2 D (aM ab D D D D D (b8 (l:=b) (f:=cR) (i:=(pl.steps.getD i co).lit.toNat) (by omega)) D D ?_)
  |refine gM 3 D (aM ab D D D D D (b8 (l:=b) (f:=cR) (i:=(pl.steps.getD i co).lit.toNat) (by omega)) D D ?_)
  |refine gM 4 D (aM ab D D D D D (b8 (l:=b) (f:=cR) (i:=(pl.steps.getD i co).lit.toNat) (by omega)) D D ?_)
  |refine gM 5 D (aM ab D D D D D (b8 (l:=b) (f:=cR) (i:=(pl.steps.getD i co).lit.toNat) (by omega)) D D ?_)
  |refine gM 6 D (aM ab D D D D D (b8 (l:=b) (f:=cR) (i:=(pl.steps.getD i co).lit.toNat) (by omega)) D D ?_)
  |refine gM 7 D (aM ab D D D D D (b8 (l:=b) (f:=cR) (i:=(pl.steps.getD i co).lit.toNat) (by omega)) D D ?_)
  |refine gM 8 D (aM ab D D D D D (b8 (l:=b) (f:=cR) (i:=(pl.steps.getD i co).lit.toNat) (by omega)) D D ?_)
 refine gA D ?_;refine Bh ab D D D (i:=2) (sz:=1) (q:=0+(pl.steps.getD i co).lit.toNat) D D D D (by simp only[Rv];omega) D D D D ?_;refine zE D D (fun J=>?_) fun J=>?_
 .have J: ¬(pl.steps.getD i co).kind=1:=zF J;have I:mB r set (pl.steps.getD i co)=set:=by unfold mB;rw[be J]
  rw[I]at Z B;refine zE D D (fun A=>?_) fun A=>?_
  .have A: ¬(pl.steps.getD i co).kind=3:=zF A;refine gA D ⟨u,(gQ b (pl.steps.getD i co),set),[5],B A,zW (zK (zK (hR D (tz b (pl.steps.getD i co)) D (zS ac))))⟩
  have A:(pl.steps.getD i co).kind=3:=zT A;obtain⟨hn,f0⟩:=Z A;have hw:=EV set (pl.steps.getD i co).var (by omega);rw[show j7 set (pl.steps.getD i co).var=set++ [(pl.steps.getD i co).var] from be (by rw[hn];exact Ri)]at hw;refine gA D (bc [5] hw D D D D D (by show[_]=[io ((aW 1 set bR).cx _)];rw[bD];rfl) D D ?_);refine zJ D D (fun q=>?_) fun q=>?_
  .exact absurd (zT q) (by rw[Qv];simp;omega)
  refine gA D ⟨u,(gQ b (pl.steps.getD i co),set++ [(pl.steps.getD i co).var]),[7],f0,zW (zK (zK (hR D (tz b (pl.steps.getD i co)) D ⟨⟨_,rfl,.of_eq ((bD _).trans (bD _).symm)⟩,Qs D,dB _,ac⟩)))⟩
 have J:(pl.steps.getD i co).kind=1:=zT J;have I:mB r set (pl.steps.getD i co)=(fX r (pl.steps.getD i co)).atom.ad.foldl s7 set:=by unfold mB;rw[am J]
 rw[I]at B;have Y:=Lit.aV r.body (pl.steps.getD i co).lit.toNat a0;have n0:=(fX r (pl.steps.getD i co)).size_eq;have p0:(fX r (pl.steps.getD i co)).atom.ad.length<=2000000:=by
  have:(fX r (pl.steps.getD i co)).size<=Lit.az r.body:=Y;unfold ai.size at hb;omega
 refine gA D ?_;refine aD 0 (fX r (pl.steps.getD i co)).atom.ad.length (QN _) (fun k=>⟨[(2,.ptr 0 0),(3,.ptr 1 0),(5,.sl 2 0 r.body.length 1),(6,.sl 8 0 (((fX r (pl.steps.getD i co)).atom.ad.take k).foldl s7 set).length 1),(7,pI i),(8,.ptr 6 0),(9,.ptr 7 0),(10,pI k)],[(0,io (au r.c)),(1,io (au pl.c)),(2,io (aW 1 (gQ b (pl.steps.getD i co)) cR)),(6,io (au (pl.steps.getD i co).c)),(7,io (au (fX r (pl.steps.getD i co)).atom.c)),(8,io (aW 1 (((fX r (pl.steps.getD i co)).atom.ad.take k).foldl s7 set) bR))],9⟩) (fun _=>True) [5] ac
  (zW (zK (zK (hR D (tz b (pl.steps.getD i co)) D (zK (zK (zS trivial))))))) fun k hk _=>?_
 refine zJ D D (fun d=>?_) fun d=>?_
 .have d:k<(fX r (pl.steps.getD i co)).atom.ad.length:=by simpa using d
  have y:((fX r (pl.steps.getD i co)).atom.ad.take (k+1)).foldl s7 set=if((fX r (pl.steps.getD i co)).atom.ad.getD k co).kind=1 then j7 (((fX r (pl.steps.getD i co)).atom.ad.take k).foldl s7 set) ((fX r (pl.steps.getD i co)).atom.ad.getD k co).var else((fX r (pl.steps.getD i co)).atom.ad.take k).foldl s7 set:=Hl d;have i0:=Aw ((fX r (pl.steps.getD i co)).atom.ad.take k) set;rw[RW]at i0;refine zJ D D (fun q=>?_) fun q=>?_
  .have q:((fX r (pl.steps.getD i co)).atom.ad.getD k co).kind=1:=zT q;rw[am q]at y;refine gA D (bc [8] (EV (((fX r (pl.steps.getD i co)).atom.ad.take k).foldl s7 set) ((fX r (pl.steps.getD i co)).atom.ad.getD k co).var (by omega)) D D D D D (by show[_]=[io ((aW 1 _ bR).cx _)];rw[bD];rfl) D D ?_);refine gA D ⟨d,ac,[9],zM (bi (bi (bi ⟨.row (by rw[y]),rfl,bi (bi (bi (bi ac)))⟩))) (zK (zK (zS (zK (zK ⟨⟨_,rfl,.of_eq ((bD _).trans (by rw[y,bD]))⟩,Qs D,dB _,ac⟩)))))⟩
  .have q: ¬((fX r (pl.steps.getD i co)).atom.ad.getD k co).kind=1:=zF q;rw[be q]at y;refine gA D ⟨d,ac,[8],zM (bi (bi (bi ⟨.row (by rw[y]),rfl,bi (bi (bi (bi ac)))⟩))) (zK (zK (zS (zK (zK (hR D (by rw[y]) D ac))))))⟩
 .have d:(fX r (pl.steps.getD i co)).atom.ad.length<=k:=by simpa using d
  have e0:(fX r (pl.steps.getD i co)).atom.ad.take k=(fX r (pl.steps.getD i co)).atom.ad:=QM d;rw[e0];refine zJ D D (fun A=>?_) fun A=>?_
  .exact absurd (zT A) (by omega)
  refine gA D ⟨u,(gQ b (pl.steps.getD i co),(fX r (pl.steps.getD i co)).atom.ad.foldl s7 set),[8],B (by omega),zW (zK (zK (zS (zS ac))))⟩
theorem hmE(p:Prog)(pl:kP)(L:List cQ)(R:Nat): ∀(j:Nat) (x:PV),[ag p.c,ag (⟨pl.iY,pl.first,pl.given,L⟩:kP).c][j]? =io x-> ∃y,[ag p.c,PV.agg [pI pl.iY,pI pl.first,.iv (strs pl.given),.sl R 0 L.length 4]][j]? =io y∧y.cU R 4 (L.map fun x=>x.c.map PV.iv).length∧aC (y.dT R 4 fun k=>(L.getD k co).c) x:=by
 intro j x b
 match j,b with
 |0,b=>
  cases b;refine⟨_,rfl,by simp[Prog.c,PV.cU,gB],?_⟩;show aC (PV.dT R 4 _ (.agg [.iv (de 4 p.aZ Decl.c),.iv (de 5 p.rules ai.c)])) _;simp only[PV.dT,uq];exact .refl _
 |1,b=>
  cases b;refine⟨_,rfl,by simp[PV.cU,gB],?_⟩;simp only[PV.dT,uq,Q9,Nat.beq_refl,cond_true];exact .refl _
 |j+2,b=>exact nomatch b
theorem AB(L:List cQ)(i:Nat):(((L.map fun x=>x.c.map PV.iv).set (0+(i+1)) ((L.getD i co).c.map PV.iv)).set (0+i) ((L.getD (i+1) co).c.map PV.iv))=(jv L i).map fun x=>x.c.map PV.iv:=by
 unfold jv;rw[Q9,Q9,S4,S4]
theorem Dg(L:List cQ)(i:Nat):(jv L i).length=L.length:=by unfold jv;rw[SO,SO]
abbrev egF(i:Nat):AF:=[(2,.ptr 0 0),(3,.ptr 1 0),(6,pI i)]
abbrev egH(p:Prog)(pl:kP):AH:=[(0,io (au p.c)),(1,io (au pl.c))]
set_option maxHeartbeats 1000000 in
theorem xa(p:Prog)(pl:kP)(hb:p.fit)(hs:p.size<=2000000)(hg:pl.given.length<=1000000000)(Y:pl.steps.length<=2000000)(J:eR p pl=kw)
  (he: ∀i,i+1<pl.steps.length->(pl.steps.getD i co).kind=1->(pl.steps.getD (i+1) co).kind=2->eR p ⟨pl.iY,pl.first,pl.given,jv pl.steps i⟩=lc):Pure prog 46 [ag p.c,ag pl.c] (pB kw):=by
 have x:=w5 p pl hb hs hg;rw[J]at x;refine ar ab func46 D (by decide) ntmps46 D (by simp) D ?_;refine gA D (zp (x) ?_);refine zJ D D (fun A=>?_) fun A=>?_
 .exact absurd A (show¬((!kw)=kw) by decide)
 refine gA D ?_;refine aD 1 (pl.steps.length+1) (by omega) (fun i=>⟨egF i,egH p pl,2⟩) (fun i=>1<=i) [] (QH _)
  (zW (zK (zK trivial))) fun i S B=>?_
 refine zE D D (fun b=>?_) fun b=>?_
 .exact zU D
 have b:=bv b;obtain⟨k,rfl⟩: ∃k,i=k+1:=⟨i-1,by have:1<=i:=B;omega⟩
 have d:(((k+1:Nat):Int)-1).toNat=k:=by omega
 have u: ∀{nt:Nat},k+1<pl.steps.length+1:=fun{_}=>by omega
 refine zE D D (fun g1=>?_) fun g1=>?_
 .refine gA D ?_;exact⟨by omega,by omega,[],zW (zK (zK ac))⟩
 have g1:(pl.steps.getD (k+1) co).kind=2:=zT g1;refine zE D D (fun g2=>?_) fun g2=>?_
 .refine gA D ?_;exact⟨by omega,by omega,[],zW (zK (zK ac))⟩
 have g2:(pl.steps.getD k co).kind=1:=by
  have g2:(pl.steps.getD (((k+1:Nat):Int)-1).toNat co).kind=1:=zT g2;rwa[d]at g2
 have F:=he k b g2 g1;have y:=w5 p ⟨pl.iY,pl.first,pl.given,jv pl.steps k⟩ hb hs hg;rw[F]at y;refine gA D (rk ab D D D D D (by(repeat' (first|exact ac|exact rfl|exact aC.refl _|exact aC.bk (by assumption)|apply Rm))<;>first|omega|(simp only[QW];omega)|(simp;done)|(simp;omega)) (oP ab D D (i:=4) (sz:=4) (q:=0+(k+1)) D D D D (by simp;omega) D D D) D (by(repeat' (first|exact ac|exact rfl|exact aC.refl _|exact aC.bk (by assumption)|apply Rm))<;>first|omega|(simp only[QW];omega)|(simp;done)|(simp;omega)) ?_);refine gA D (rk ab D D D D D (by(repeat' (first|exact ac|exact rfl|exact aC.refl _|exact aC.bk (by assumption)|apply Rm))<;>first|omega|(simp only[QW];omega)|(simp;done)|(simp;omega)) (oP ab D D (i:=4) (sz:=4) (q:=0+(((k+1:Nat):Int)-1).toNat) D D D D (by simp;omega) D D D) D (by(repeat' (first|exact ac|exact rfl|exact aC.refl _|exact aC.bk (by assumption)|apply Rm))<;>first|omega|(simp only[QW];omega)|(simp;done)|(simp;omega)) ?_);refine gM 1 D ?_;refine jL (L:=[]) (t:=⟨[(2,.ptr 0 0),(3,.ptr 1 0),(6,pI (k+1:Nat)),(7,.ptr 2 0)],[(0,io (au p.c)),(1,io (au pl.c)),(2,io (.cells [pI pl.iY,pI pl.first,.iv (strs pl.given),.sl 4 0 (jv pl.steps k).length 4])),(4,io (aW 4 (jv pl.steps k) cQ.c))],5⟩)
  (zW (zK (zK ⟨⟨_,rfl,.of_eq (by rw[Dg,Q9];rfl)⟩,Qs D,rfl,hR D (by rw[d,<-AB,nR];rfl) D trivial⟩))) ?_
 refine gA D (Gb (asv:=[ag p.c,.agg [pI pl.iY,pI pl.first,.iv (strs pl.given),.sl 4 0 (jv pl.steps k).length 4]]) (Pure.det y) D D D D D (fun M N w I=>fz1 4 4 (fun j=>((jv pl.steps k).getD j co).c) D (fQ D) (hmE p pl (jv pl.steps k) 4) I) D (fun j o G=>nomatch G) D ?_);refine zJ D D (fun q=>?_) fun q=>?_
 .exact absurd q (show¬(lc=kw) by decide)
 refine gA D ⟨by omega,by omega,[],zW (zK (zK ac))⟩
theorem vZ{p:Prog}{n:Int}:jt (aL p n) (aU (aL p n).head)=kw:=by
 refine yk fun i d=>?_;unfold FV;have e:(aU (aL p n).head).getD i co=(aU (aL p n).head)[i]:=by rw[Qx,Qy d];rfl
 have x:=pL (mw (aL p n).head);rw[e,Q5,Rw];refine⟨aI.2 (hP.2 (Q8 _ (c6.1 (Rz d)))),bN.2 fun y=>?_⟩;obtain⟨j,b⟩:=S7.1 y;rw[Rt]at b;split at b
 .rename_i u;rw[Qy (by omega)]at b;exact Sq.1 x j i (by omega) d u (RC b)
 .cases b
theorem Cf{p:Prog}{n fstv:Int}(h:dM p n=0):(c4 (aL p n) fstv∧kj p n fstv=(kP.z,90))∨(kj p n fstv=(⟨n,fstv,[],mj (aL p n) fstv []⟩,0)∧Holds p ⟨n,fstv,[],mj (aL p n) fstv []⟩):=by
 unfold kj;rw[be (by simpa using h)];by_cases b:c4 (aL p n) fstv
 .exact .inl ⟨b,am b⟩
 .refine .inr ⟨be b,holds_of h ?_ ?_ D⟩
  .unfold c4 at b;simp only[not_or,not_and,SC]at b;by_cases d:fstv= -1
   .exact .inl d
   .exact .inr ⟨fstv.toNat,by omega,by omega,b.2.2 (by omega)⟩
  .unfold c4 at b;omega
theorem AM(p:Prog)(n fstv:Int)(hb:p.fit)(hs:p.size<=2000000):Pure prog 10 [ag p.c,pI n,pI fstv] (pB kw):=by
 have e0:p.rules.length<=1000000000:=hb.2.1;have J:=AP Aa p n fstv hb hs;have S:=E2 p n hb hs;have h3:=AP Aa p n (-1) hb hs;by_cases d:dM p n=0
 .have d0:=oZ d;have a0:=mK d;have b0:(aL p n).body.length<=2000000:=by have:=Lit.aA (aL p n).body;unfold ai.size at a0;omega
  have c0:=gH (aL p n).head;have Z:(aU (aL p n).head).length<=1000000000:=by unfold ai.size at a0;omega
  have F: ∀(f:Int) (l:List ae),(mj (aL p n) f l).length<=2000000:=fun f l=>Rr (tq _ _ _ _ _) b0
  have hB:jJ p n=(⟨n, -1,aU (aL p n).head,mj (aL p n) (-1) (aU (aL p n).head)⟩,0):=by
   unfold jJ lV;rw[be (by simpa using d),be (by simpa using d),be (by rw[vZ];decide)]
  have A:Holds p ⟨n, -1,aU (aL p n).head,mj (aL p n) (-1) (aU (aL p n).head)⟩:=holds_of d (.inl D) (by omega) vZ;rcases Cf (fstv:= -1) d with⟨hf,_⟩|⟨hC,B⟩
  .unfold c4 at hf;omega
  rw[hB]at S;rw[hC]at h3;have o1:=AN (aL p n) _ (by omega) (by simp) B.once;have o2:=AN (aL p n) _ (by omega) Z A.once;have e1:=xa p _ hb hs (by simp) (F (-1) []) B.valid B.eager;have e2:=xa p _ hb hs Z (F (-1) (aU (aL p n).head)) A.valid A.eager;rcases Cf (fstv:=fstv) d with⟨_,Y⟩|⟨Y,y⟩
  .rw[Y]at J;refine ar ab func10 D (by decide) ntmps10 D (by simp) D ?_;refine gA D (zp (w8) ?_);refine gA D (zp (J) ?_);refine gA D (zp (S) ?_);refine zE D D (fun u=>?_) fun u=>?_
   .exact absurd u (by decide)
   refine zE D D (fun G=>?_) fun G=>?_
   .exact absurd (zT G) (by omega)
   refine zE D D (fun I=>?_) fun I=>?_
   .exact absurd (zT I) (by omega)
   refine zJ D D (fun j=>?_) fun j=>?_
   .simp at j
   refine gA D (zp (h3) ?_);refine zE D D (fun q5=>?_) fun q5=>?_
   .simp at q5
   refine zE D D (fun q6=>?_) fun q6=>?_
   .simp at q6
   refine zJ D D (fun q7=>?_) fun q7=>?_
   .simp at q7
   refine gA D (zp (o1) ?_);refine gA D (zp (o2) ?_);refine gA D (zp (e1) ?_);refine gA D (zp (e2) ?_);refine zJ D D (fun q8=>?_) fun q8=>?_
   .exact absurd q8 (by decide)
   refine zE D D (fun r1=>?_) fun r1=>?_
   .exact absurd r1 (by decide)
   refine zE D D (fun r2=>?_) fun r2=>?_
   .exact absurd r2 (by decide)
   refine zE D D (fun r3=>?_) fun r3=>?_
   .exact absurd r3 (by decide)
   refine zE D D (fun r4=>?_) fun r4=>?_
   .exact absurd r4 (by decide)
   refine gA D (zL ?_);exact .of_eq D
  .rw[Y]at J;have o3:=AN (aL p n) _ (by omega) (by simp) y.once;have e3:=xa p _ hb hs (by simp) (F fstv []) y.valid y.eager;refine ar ab func10 D (by decide) ntmps10 D (by simp) D ?_;refine gA D (zp (w8) ?_);refine gA D (zp (J) ?_);refine gA D (zp (S) ?_);refine zE D D (fun u=>?_) fun u=>?_
   .exact absurd u (by decide)
   refine zE D D (fun G=>?_) fun G=>?_
   .exact absurd (zT G) (by omega)
   refine zE D D (fun I=>?_) fun I=>?_
   .exact absurd (zT I) (by omega)
   refine zJ D D (fun j=>?_) fun j=>?_
   .simp at j
   refine gA D (zp (h3) ?_);refine zE D D (fun q5=>?_) fun q5=>?_
   .simp at q5
   refine zE D D (fun q6=>?_) fun q6=>?_
   .simp at q6
   refine zJ D D (fun q7=>?_) fun q7=>?_
   .simp at q7
   refine gA D (zp (o1) ?_);refine gA D (zp (o2) ?_);refine gA D (zp (e1) ?_);refine gA D (zp (e2) ?_);refine zE D D (fun q8=>?_) fun q8=>?_
   .simp at q8
   refine gA D (zp (o3) ?_);refine zE D D (fun q9=>?_) fun q9=>?_
   .exact absurd q9 (by decide)
   refine gA D (zp (e3) ?_);refine zE D D (fun r1=>?_) fun r1=>?_
   .exact absurd r1 (by decide)
   refine zE D D (fun r2=>?_) fun r2=>?_
   .exact absurd r2 (by decide)
   refine zE D D (fun r3=>?_) fun r3=>?_
   .exact absurd r3 (by decide)
   refine zE D D (fun r4=>?_) fun r4=>?_
   .exact absurd r4 (by decide)
   refine gA D (zL ?_);exact .of_eq D
 .have Y:kj p n fstv=(kP.z,dM p n):=by unfold kj;rw[am d]
  have hB:jJ p n=(kP.z,dM p n):=by unfold jJ;rw[am d]
  rw[Y]at J;rw[hB]at S;generalize dM p n=e at*
  refine ar ab func10 D (by decide) ntmps10 D (by simp) D ?_;refine gA D (zp (w8) ?_);refine gA D (zp (J) ?_);refine gA D (zp (S) ?_);refine zE D D (fun u=>?_) fun u=>?_
  .exact absurd u (by decide)
  refine zJ D D (fun G=>?_) fun G=>?_
  .refine zJ D D (fun I=>?_) fun I=>?_
   .refine zJ D D (fun j=>?_) fun j=>?_
    .refine zE D D (fun x=>?_) fun x=>?_
     .exact absurd x (by decide)
     refine zJ D D (fun b=>?_) fun b=>?_
     .have b:(!li (e=0))=lc:=b;simp at b;exact absurd b d
     refine gA D (zL ?_);exact .of_eq D
    .have j:(!li (e=0))=lc:=j;simp at j;exact absurd j d
   .refine zE D D (fun x=>?_) fun x=>?_
    .exact absurd x (by decide)
    refine zJ D D (fun b=>?_) fun b=>?_
    .have b:(!li (e=0))=lc:=b;simp at b;exact absurd b d
    refine gA D (zL ?_);exact .of_eq D
  .refine zE D D (fun x=>?_) fun x=>?_
   .exact absurd x (by decide)
   refine zJ D D (fun b=>?_) fun b=>?_
   .have b:(!li (e=0))=lc:=b;simp at b;exact absurd b d
   refine gA D (zL ?_);exact .of_eq D
end Go.Proofs.YtflegjieadkonaaGreatDoor
