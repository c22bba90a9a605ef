/-
  What the proofs of the claims need: part 5 of 5.
-/
import Derived.Test.YtllkaddcplhklaaGreatDoorPart4
open And renaming intro→OF
open Bool renaming false_and→Qg,false_eq_true→Qb,not_eq_false'→Qm,true_and→Rb
open ByteArray renaming empty→OI
open Int renaming toNat_natCast→OG
open List renaming append_assoc→O0,append_nil→Pw,getD_eq_getElem?_getD→OC,getElem?_eq_getElem→OD,getElem?_eq_some_iff→OB,getElem?_map→OH,getElem?_of_mem→Po,getElem_map→P7,length_cons→Pb,length_map→O7,length_nil→Qa,map_append→OX,map_cons→OZ,map_nil→P9,mem_cons→OP,mem_cons_of_mem→ON,mem_cons_self→OO,mem_map→Pg,mem_of_getElem?→Pe,mem_singleton→OM,nodup_cons→Pf,nodup_nil→Pk,pairwise_iff_getElem→PL,perm_ext_iff_of_nodup→P2
open Nat renaming le_of_ble_eq_true→Oy,le_refl→OL,le_succ→Qv,lt_succ_iff_lt_or_eq→QH,lt_trichotomy→QW,not_lt_zero→QA,zero_add→O8,zero_le→OS
open Option.some renaming inj→Pl
set_option maxRecDepth 100000
open Bool renaming false→jp,true→is
open Decidable renaming decide→kw
open Inhabited renaming default→ci
open Option renaming none→io,some→co
open Array renaming getD_eq_getD_getElem?→Oz
open Option.some renaming injEq→OA
open Array renaming range→Rw
open Array renaming getElem?_map→QN
open Option renaming map_some→PI
open Option renaming getD_some→PA
open Array renaming getElem?_eq_getElem→O4
open Nat renaming mul_le_mul_right→O3
open Nat renaming add_mul→PD
open Array renaming getElem?_append_left→Pc
open List renaming getElem?_append_right→OQ
open Array renaming getElem?_append_right→QX
open List renaming getElem?_take→Pn
open Array renaming getElem?_toList→O6
open List renaming length_append→OE
namespace Go.Proofs.YtllkaddcplhklaaGreatDoor
open Go Go.Al Go.Proofs.Tryz Go.Bo
section
def wE(m:FM)(x:bY Fact):FM:=if x.1=is then cq kF m (bG x.2) x.2 else jh kF m (bG x.2)
def Cs(S:List Fact)(x:bY Fact):List Fact:=if x.1=is then x.2::S else S.erase x.2
def kZ(m:FM)(M:CM):List Nat->FM
 | []=>m
 |j::vs=>wE (kZ m M vs) (kj M j)
def jI(S:List Fact)(M:CM):List Nat->List Fact
 | []=>S
 |j::vs=>Cs (jI S M vs) (kj M j)
section
variable {S:List Fact} {T:List (bY Fact)}
theorem yS{j:Nat}(hj:j<T.length): ∃x,T[j]? =co x∧kj (mapOf T) j=x:=by
 refine⟨T[j],OD hj,?_⟩;unfold kj mapOf;rw[OC,OH,OD hj];rfl
structure Nl (S:List Fact) (T:List (bY Fact)):Prop where
 nd:(T.map (·.2)).Nodup
 Np: ∀x∈T,kw (x.2∈S)≠x.1
 s8: ∀f∈S,f.args.length<=8
 t8: ∀x∈T,x.2.args.length<=8
theorem Nl.one(h:Nl S T){i j:Nat}{x y:bY Fact}(hi:T[i]? =co x)(hj:T[j]? =co y)(e:x.2=y.2):i=j:=by
 have C:=PL.1 h.nd;obtain⟨u,b⟩:=OB.1 hi;obtain⟨B,A⟩:=OB.1 hj;rcases QW i j with g|g|g
 .exact absurd (by rw[P7,P7,b,A];exact e) (C i j (by simpa using u) (by simpa using B) g)
 .exact g
 .exact absurd (by rw[P7,P7,b,A];exact e.symm) (C j i (by simpa using B) (by simpa using u) g)
theorem nZ(h:Nl S T)(hS:S.Nodup): ∀{vs:List Nat},vs.Nodup->(∀j∈vs,j<T.length)->(jI S (mapOf T) vs).Nodup∧ ∀f,f∈jI S (mapOf T) vs↔(∃j∈vs,T[j]? =co (is,f))∨(f∈S∧ ¬ ∃j∈vs,T[j]? =co (jp,f))
 | [],_,_=>⟨hS,fun f=>by simp[jI]⟩
 |j::vs,hn,hv=>by
  rw[Pf]at hn;obtain⟨i1,i2⟩:=nZ h hS hn.2 fun i hi=>hv i (ON _ hi);obtain⟨x,y,D⟩:=yS (hv j (OO ..));have C:=h.Np x (Pe y);have u: ∀i∈vs,∀b,T[i]? ≠co (b,x.2):=fun i hi b e=>hn.1 ((h.one e y Z)▸hi);simp only[jI,D,Cs];obtain⟨b,g⟩:=x
  cases b with
  |true=>
   simp only[if_true];have A:g∉S:=fun m=>C (decide_eq_true m)
   have B:g∉jI S (mapOf T) vs:=fun m=>by
    rcases(i2 g).1 m with⟨i,hi,e⟩|⟨m2,_⟩
    .exact u i hi is e
    .exact A m2
   refine⟨Pf.2 ⟨B,i1⟩,fun f=>?_⟩;rw[OP,i2];constructor
   .rintro(rfl|⟨i,hi,e⟩|⟨m,k⟩)
    .exact .inl ⟨j,OO ..,y⟩
    .exact .inl ⟨i,ON _ hi,e⟩
    .refine .inr ⟨m,?_⟩;rintro⟨i,hi,e⟩;rcases OP.1 hi with rfl|hi
     .rw[y]at e;cases e
     .exact k ⟨i,hi,e⟩
   .rintro(⟨i,hi,e⟩|⟨m,k⟩)
    .rcases OP.1 hi with rfl|hi
     .rw[y]at e;cases e;exact .inl Z
     .exact .inr (.inl ⟨i,hi,e⟩)
    .exact .inr (.inr ⟨m,fun⟨i,hi,e⟩=>k ⟨i,ON _ hi,e⟩⟩)
  |false=>
   simp only[Qb,if_false];refine⟨i1.erase g,fun f=>?_⟩;rw[i1.mem_erase_iff,i2];constructor
   .rintro⟨hne,⟨i,hi,e⟩|⟨m,k⟩⟩
    .exact .inl ⟨i,ON _ hi,e⟩
    .refine .inr ⟨m,?_⟩;rintro⟨i,hi,e⟩;rcases OP.1 hi with rfl|hi
     .rw[y]at e;cases e;exact hne Z
     .exact k ⟨i,hi,e⟩
   .rintro(⟨i,hi,e⟩|⟨m,k⟩)
    .rcases OP.1 hi with rfl|hi
     .rw[y]at e;cases e
     .refine⟨?_,.inl ⟨i,hi,e⟩⟩;rintro rfl;exact u i hi is e
    .refine⟨?_,.inr ⟨m,fun⟨i,hi,e⟩=>k ⟨i,ON _ hi,e⟩⟩⟩;rintro rfl;exact k ⟨j,OO ..,y⟩
theorem qv{m:FM}(hk:dP bG m S)(h:Nl S T)(hS:S.Nodup): ∀{vs:List Nat},vs.Nodup->(∀j∈vs,j<T.length)->dP bG (kZ m (mapOf T) vs) (jI S (mapOf T) vs)∧ ∀f∈jI S (mapOf T) vs,f.args.length<=8
 | [],_,_=>⟨hk,h.s8⟩
 |j::vs,hn,hv=>by
  have y:=Pf.1 hn;obtain⟨I,D⟩:=qv hk h hS y.2 fun i A=>hv i (ON _ A);have R:=(nZ h hS y.2 fun i A=>hv i (ON _ A)).2;obtain⟨x,G,J⟩:=yS (hv j (OO ..));have B:=Pe G;have C:=h.Np x B;have b: ∀u∈jI S (mapOf T) vs,bG u=bG x.2->u=x.2:=fun u hu e=>oA (D u hu) e;simp only[kZ,jI,J,wE,Cs];by_cases hb:x.1=is
  .rw[am hb,am hb];refine⟨I.put b fun m2=>?_,fun f hf=>?_⟩
   .rcases(R x.2).1 m2 with⟨i,A,e⟩|⟨m3,_⟩
    .exact y.1 (h.one e G Z▸A)
    .exact C (by rw[hb];exact decide_eq_true m3)
   .rcases OP.1 hf with rfl|hf
    .exact h.t8 x B
    .exact D f hf
  .rw[be hb,be hb];exact⟨I.del b,fun f hf=>D f (List.mem_of_mem_erase hf)⟩
end
theorem D8{p:Prog}{S:List Fact}{l:List (bY Fact)}(hS:Go.Bo.jJ bq (okF p) S)(h:kB bq (okF p) S l=0):Nl S (bP S l):=by
 have u:(bP S l).Perm (c7 bq S l):=kK qK S l;have y:=um.1 h;have j: ∀x∈bP S l,dZ l x.2=co x.1∧kw (x.2∈S)≠x.1:=fun x b=>(gK qK (a:=x.1) (f:=x.2)).1 (u.mem_iff.1 b);exact⟨((u.map (·.2)).nodup_iff).2 ((sZ.facts (mh qK S l)).nodup qK),fun x b=>(j x b).2,fun f A=>iH (hS.ok f A),fun x b=>iH (y.2.1 _ (j3 (j x b).1))⟩
theorem BU{p:Prog}{m:FM}{S:List Fact}{l:List (bY Fact)}(hk:dP bG m S)(hS:Go.Bo.jJ bq (okF p) S)(h:kB bq (okF p) S l=0){vs:List Nat}(A:vs.Nodup)(v2: ∀j∈vs,j<(bP S l).length)(v3: ∀j,j<(bP S l).length->j∈vs):
  dP bG (kZ m (mapOf (bP S l)) vs) (jn bq S l):=by
 have x:=D8 hS h;have u:=hS.F5.nodup qK;have B:(bP S l).Perm (c7 bq S l):=kK qK S l;obtain⟨C,_⟩:=qv hk x u A v2;obtain⟨G,I⟩:=nZ x u A v2;refine C.perm ((P2 G ((wF qK S l).nodup qK)).2 fun f=>?_);have hT: ∀b:Bool,(∃j∈vs,(bP S l)[j]? =co (b,f))↔dZ l f=co b∧kw (f∈S)≠b:=fun b=>by
  rw[<-gK qK,<-B.mem_iff];constructor
  .rintro⟨j,_,e⟩;exact Pe e
  .intro D;obtain⟨j,y⟩:=Po D;exact⟨j,v3 j (OB.1 y).1,y⟩
 rw[I,xr qK,hT,hT];cases e:dZ l f with
 |none=>simp
 |some b=>cases b<;>by_cases g:f∈S<;>simp[g]
theorem Km(p:Prog)(n:Nat){m:FM}{S:List Fact}(l:List (bY Fact))(hb:p.aR.length<=1000000000)(hk:dP bG m S)(hS:Go.Bo.jJ bq (okF p) S)(hF: ∀x∈l,x.2.args.length<=1000000000)(hn:n<=1000000000000):
  Al.Fn prog 10 [.ptr 1 0,.iv (bV 3 l ef)] (bO p n m) fun r h k=> ∃m',dP bG m' (ql bq (okF p) (S,n) l).1∧r=yu p S l∧h=bH p (ql bq (okF p) (S,n) l).2 m'∧k=2:=by
 have h1:=NA p n l hb hk hS hF;by_cases b:kB bq (okF p) S l=0;rotate_left
 .rw[qQ Z b]at h1;have e:yu p S l= .bh [.iv (bV 3 [] ef),pI (kB bq (okF p) S l)]:=by unfold yu;rw[be b]
  have J:ql bq (okF p) (S,n) l=(S,n):=by unfold ql;rw[be b]
  rw[e,J];refine nT ab func10 Z (by decide) ntmps10 Z (by simp) ?_;refine gA Z (cJ [0,1] (h1) Z Z Z Z Z Z Z Z ?_);refine gA Z ?_;refine OF (fun I=>?_) (fun I=>?_);rotate_left
  .exact absurd (by simpa using I) b
  refine gA Z (qZ [] (.inr Z) Z ⟨m,hk,rfl,rfl,rfl⟩ (wk Z Z Z ⟨.bh ⟨.nil _ _,.refl _,ac⟩,rfl,ac⟩ (hM Z Z Z ⟨⟨_,rfl,.of_eq Z⟩,Oy Z,rfl,ac⟩) Z))
 obtain⟨q1,q2,q3,q4⟩:=A7 b;have b0:=q1.length_eq;rw[O7,O7]at b0;rw[zB b]at h1;have e:yu p S l= .bh [.iv (bV 3 (c7 bq S l) ef),pI 0]:=by unfold yu;rw[am b,b]
 have J:ql bq (okF p) (S,n) l=(jn bq S l,n+1):=by unfold ql;rw[am b]
 rw[e,J];have R: ∀x∈bP S l,x.2.args.length<=8:=(D8 hS b).t8;refine nT ab func10 Z (by decide) ntmps10 Z (by simp) ?_;refine gA Z (cJ [0,1] (h1) Z Z Z Z Z Z Z Z ?_);refine gA Z ?_;refine OF (fun I=>?_) (fun I=>?_)
 .exact absurd I (by decide)
 refine gA Z ?_;refine eQ (mapOf (bP S l)) (fun vs=>⟨[(0,.ptr 1 0),(6,.iv (xT (mapOf (bP S l)))),(20,.ptr 2 0)],[(0,co (fi (kZ m (mapOf (bP S l)) vs))),(1,co (gX p n 0)),(2,co (.bB kF xU (mapOf (bP S l)) vs io))],3⟩) (fun vs=>vs.Nodup∧ ∀j∈vs,j<(mapOf (bP S l)).length) [] ⟨Pk,by simp⟩
  (wk Z Z Z (bi (bi (bi trivial))) (hM Z Z Z ⟨⟨_,rfl,.of_eq Z⟩,Oy Z,rfl,hI Z Z (.inl Z) Z trivial⟩) Z) fun vs hJ=>?_
 obtain⟨v1,v2⟩:=hJ;refine fb Z ac (dd Z Z Z Z Z (by decide) (fun C=>?_) fun j x A B=>?_)
 .have Y:=BU hk hS b v1 (fun j B=>by have:=v2 j B;rwa[O7]at this) (fun j B=>C j (by rwa[O7]));refine gA Z (aA (Mk q1 q2 q3 q4) Z Z Z Z Z Z ?_);refine gA Z (qZ [] (.inr Z) Z ⟨_,Y,rfl,rfl,rfl⟩ (wk Z Z Z (bi ac) (hM Z Z Z ⟨⟨_,rfl,.of_eq Z⟩,Oy Z,rfl,ac⟩) Z))
 .have e0:x.2=kj (mapOf (bP S l)) j:=by rw[kj,OC,A];rfl
  have a0: ∀u,u=j::vs->u.Nodup∧ ∀i∈u,i<(mapOf (bP S l)).length:=fun u e=>e▸⟨Pf.2 ⟨B,v1⟩,fun i hi=>(OP.1 hi).elim (fun h=>h▸(OB.1 A).1) (v2 i)⟩;have D:=(OB.1 A).1;rw[O7]at D;obtain⟨y,hy,d0⟩:=yS D
  have c0:x=(bG y.2,y):=by
   have:(mapOf (bP S l))[j]? =co (bG y.2,y):=by unfold mapOf;rw[OH,hy];rfl
   rw[this]at A;exact(Pl A).symm
  subst c0;have f0:=R y (Pe hy);have G:kZ m (mapOf (bP S l)) (j::vs)=wE (kZ m (mapOf (bP S l)) vs) y:=by rw[kZ,d0]
  refine gA Z ?_;refine OF (fun g1=>?_) (fun g1=>?_)
  .have g1:y.1=is:=g1;refine gA Z (bD ab [] (Pure.q9 (mn y.2 (by omega))) Z Z Z Z Z Z Z Z Z Z Z Z (by(repeat' (first|exact ac|exact rfl|exact an.refl _|exact an.bk (by assumption)|apply OF))<;>first|omega|(simp only[OG];omega)|(simp;done)|(simp;omega)) Z (by(repeat' (first|exact ac|exact rfl|exact an.refl _|exact an.bk (by assumption)|apply OF))<;>first|omega|(simp only[OG];omega)|(simp;done)|(simp;omega)) ?_);refine fb Z ?_ ?_
   .repeat' (first|exact ac|exact rfl|exact D5 _|exact an.refl _|apply OF)
   exact⟨j,_,A,B,a0 _ Z,[],wk Z Z Z (bi (bi (bi ac))) (hM Z (by rw[G,wE,am g1];exact congrArg (cq kF (kZ m (mapOf (bP S l)) vs) (bG y.2)) (D9 y.2)) Z ⟨⟨_,rfl,.of_eq Z⟩,Oy Z,rfl,hI Z Z (.inr Z) Z ac⟩) Z⟩
  .have g1:y.1=jp:=g1;refine gA Z ⟨j,_,A,B,a0 _ Z,[],wk Z Z Z (bi (bi (bi ac))) (hM Z (by rw[G,wE,be (by rw[g1];decide)];rfl) Z ⟨⟨_,rfl,.of_eq Z⟩,Oy Z,rfl,hI Z Z (.inr Z) Z ac⟩) Z⟩
end
section
abbrev Eo:AO:= .cells [aB]
theorem NB(x y:Fact)(b:x.args.length<=1000000000)(j:y.args.length<=1000000000):bI prog 58 [ag x.c,ag y.c,.ptr 0 0] [Eo] (pB (kw (bq x y=0))) [(0,co Eo)] 1:=by
 refine ax ab func58 Z (by decide) ntmps58 Z (by simp) ?_;refine gA Z (aA (pU x y b j) Z Z Z Z Z Z ?_);refine gA Z (bj [] (by first|exact .inr Z|exact .inl Z) Z (wk Z Z Z (bi ac) ⟨⟨_,rfl,.of_eq Z⟩,Oy Z,rfl,ac⟩ Z))
section
variable {L:List Fact} (hs:uY bq L) (hF:y0 L) (hl:L.length<=1000000000)
include hs hF hl
theorem CE:bI prog 57 [a8 L,.bX (.func 58) [] [.ptr 0 0]] [Eo] (a8 L) [(0,co Eo)] 1:=by
 refine ax ab func57 Z (by decide) ntmps57 Z (by simp) ?_;refine gA Z ?_;refine OF (fun x=>?_) (fun x=>?_)
 .refine gA Z (bj [] (by first|exact .inr Z|exact .inl Z) Z (wk Z Z Z (bi ac) ⟨⟨_,rfl,.of_eq Z⟩,Oy Z,rfl,ac⟩ Z))
 refine gA Z ?_;refine aM 1 (max 1 L.length) (Nat.le_max_left _ _) (fun i=>⟨[(0,a8 L),(1,.bX (.func 58) [] [.ptr 0 0]),(5,pI i)],[(0,co Eo)],1⟩) (fun i=>1<=i) [] (OL _)
  (wk Z Z Z (bi (bi (bi trivial))) ⟨⟨_,rfl,.of_eq Z⟩,Oy Z,rfl,ac⟩ Z) fun i A y=>?_
 refine gA Z ?_;refine OF (fun h1=>?_) (fun h1=>?_)
 .have h1:i<L.length:=by simpa using h1
  have e:((i:Int)-1).toNat=i-1:=by omega
  refine gA Z (bD ab [0] (NB (L.getD i ci) (L.getD ((i:Int)-1).toNat ci) (hF.at (by omega)) (hF.at (by omega))) Z Z Z Z Z Z Z Z Z Z Z Z (by(repeat' (first|exact ac|exact rfl|exact an.refl _|exact an.bk (by assumption)|apply OF))<;>first|omega|(simp only[OG];omega)|(simp;done)|(simp;omega)) Z (by(repeat' (first|exact ac|exact rfl|exact an.refl _|exact an.bk (by assumption)|apply OF))<;>first|omega|(simp only[OG];omega)|(simp;done)|(simp;omega)) ?_);refine gA Z ?_;refine OF (fun b=>?_) (fun b=>?_)
  .have b:bq (L.getD i ci) (L.getD ((i:Int)-1).toNat ci)=0:=of_decide_eq_true b;rw[e]at b;have u:=(PL.1 hs) (i-1) i (by omega) h1 (by omega);have j:=(qK.eq _ _).1 b;rw[OC,OC,OD h1,OD (by omega:i-1<L.length)]at j;have j:L[i]=L[i-1]:=j;rw[j]at u;exact absurd u (qK.MM _)
  .refine gA Z ?_;exact⟨by omega,by omega,[],wk Z Z Z (bi (bi (bi ac))) ⟨⟨_,rfl,.of_eq Z⟩,Oy Z,rfl,ac⟩ Z⟩
 .refine gA Z (bj [] (by first|exact .inr Z|exact .inl Z) Z (wk Z Z Z (bi ac) ⟨⟨_,rfl,.of_eq Z⟩,Oy Z,rfl,ac⟩ Z))
omit hs hF in
theorem Mt:Pure prog 56 [a8 L] (a8 L):=by
 refine ae ab func56 Z (by decide) ntmps56 Z (by simp) Z ?_;refine gA Z (aH (by first|exact .inr Z|exact .inl Z) Z ?_);exact .cp (by simp) (fun k _=>rfl)
theorem zk:Pure prog 33 [a8 L,aB] (a8 L):=by
 refine ae ab func33 Z (by decide) ntmps33 Z (by simp) Z ?_;refine gA Z (aA (Gj L (by omega)) Z Z Z Z Z Z ?_);refine gA Z (aA (Cx (Lt hs) hF (by omega)) Z Z Z Z Z Z ?_);refine gA Z (cJ [0] (CE hs hF hl) Z Z Z Z Z Z Z Z ?_);refine gA Z (aA (Mt hl) Z Z Z Z Z Z ?_);refine gA Z (aH (by first|exact .inr Z|exact .inl Z) Z (.of_eq ?_));rfl
end
def KX:List Fact->List Fact->Int
 | [],_=>1
 |_::_,[]=> -1
 |x::_,y::_=>bq x y
theorem yf: ∀(A B:List Fact) (u:y0 A) (C:y0 B),Pure prog 35 [a8 A,a8 B] (pI (KX A B))
 | [],B,_,_=>by
  refine ae ab func35 Z (by decide) ntmps35 Z (by simp) Z ?_;refine gA Z ?_;refine OF (fun b=>?_) (fun b=>?_)
  .refine gA Z (aH (by first|exact .inr Z|exact .inl Z) Z (.of_eq ?_));rfl
  .exact absurd b (by simp)
 |x::A,[],_,_=>by
  refine ae ab func35 Z (by decide) ntmps35 Z (by simp) Z ?_;refine gA Z ?_;refine OF (fun b=>?_) (fun b=>?_)
  .exact absurd b (by simp;omega)
  refine gA Z ?_;refine OF (fun j=>?_) (fun j=>?_)
  .refine gA Z (aH (by first|exact .inr Z|exact .inl Z) Z (.of_eq ?_));rfl
  .exact absurd j (by simp)
 |x::A,y::B,u,C=>by
  refine ae ab func35 Z (by decide) ntmps35 Z (by simp) Z ?_;refine gA Z ?_;refine OF (fun b=>?_) (fun b=>?_)
  .exact absurd b (by simp;omega)
  refine gA Z ?_;refine OF (fun j=>?_) (fun j=>?_)
  .exact absurd j (by simp;omega)
  refine gA Z (bD ab [] (Pure.q9 (pU x y (u x (OO ..)) (C y (OO ..)))) Z Z Z Z Z Z Z Z Z Z Z Z (by(repeat' (first|exact ac|exact rfl|exact an.refl _|exact an.bk (by assumption)|apply OF))<;>first|omega|(simp only[OG];omega)|(simp;done)|(simp;omega)) Z (by(repeat' (first|exact ac|exact rfl|exact an.refl _|exact an.bk (by assumption)|apply OF))<;>first|omega|(simp only[OG];omega)|(simp;done)|(simp;omega)) ?_);refine gA Z (aH (by first|exact .inr Z|exact .inl Z) Z (.of_eq ?_));rfl
end
theorem kh{x:Fact}{A:List Fact}(h:y0 (x::A)):y0 A:=fun f b=>h f (ON _ b)
theorem po(x:Fact)(A:List Fact):an (.iv (.cp 2 ((x::A).length-(1:Int).toNat) fun k=>(fun k=>Fact.c ((x::A).getD k ci)) ((1:Int).toNat+k))) (a8 A):=
 .cp (by simp) fun k _=>by
  show Fact.c ((x::A).getD (1+k) ci)=_;rw[Nat.add_comm];rfl
abbrev btS(A B:List Fact)(out:List (bY Fact)):AS:=⟨[(5,a8 A),(6,a8 B),(7,.sl 1 0 out.length 3)],[(1,co (aT 3 out ef))],2⟩
theorem CI(A B:List Fact)(hA:uY bq A)(hB:uY bq B)(Y:y0 A)(fB:y0 B)(lA:A.length<=1000000)(lB:B.length<=1000000):Pure prog 19 [a8 A,a8 B] (.iv (bV 3 (cX bq A B) ef)):=by
 obtain⟨R,J⟩: ∃R,R=cX bq A B:=⟨_,rfl⟩
 rw[<-J];refine ae ab func19 Z (by decide) ntmps19 Z (by simp) Z ?_;refine gA Z (aA (zk hA Y (by omega)) Z Z Z Z Z Z ?_);refine gA Z (aA (zk hB fB (by omega)) Z Z Z Z Z Z ?_);refine gM 6 Z (mv 7 3 Z ?_)
 refine gA Z (fW (σ:={s:List Fact×List Fact×List (bY Fact)//y0 s.1∧y0 s.2.1∧R=s.2.2++cX bq s.1 s.2.1∧s.1.length+s.2.1.length+s.2.2.length<=2000000}) (fun s=>btS s.1.1 s.1.2.1 s.1.2.2) (fun s=>s.1.1.length+s.1.2.1.length) ⟨(A,B,[]),Y,fB,J,by simp;omega⟩ [0]
  (wk Z Z Z (bi (bi (bi ac))) (hR Z Z Z ac) Z) fun s=>?_)
 obtain⟨⟨C,D,a0⟩,b,j,G,u⟩:=s;have b:y0 C:=b;have j:y0 D:=j;have G:R=a0++cX bq C D:=G;have u:C.length+D.length+a0.length<=2000000:=u;show GO _ _ _ _ (btS C D a0)
 match C,D,b,j,G,u with
 | [],[],b,j,G,u=>
  refine gA Z ?_;refine OF (fun g1=>?_) (fun g1=>?_);rotate_left
  .exact absurd g1 (by simp)
  refine gA Z ?_;refine OF (fun g2=>?_) (fun g2=>?_)
  .exact absurd g2 (by simp)
  rw[kC,P9,Pw]at G;subst G;refine gA Z (dh (by first|exact .inr Z|exact .inl Z) Z Z (rfl) (rfl))
 | [],y::D,b,j,G,u=>
  have hy:=j y (OO ..);have I:R=(a0++ [(is,y)])++cX bq [] D:=by rw[G,kC,kC,OZ,O0];rfl
  simp only[Pb,Qa]at u;refine gA Z ?_;refine OF (fun g1=>?_) (fun g1=>?_);rotate_left
  .exact absurd g1 (by simp)
  refine gA Z ?_;refine OF (fun g2=>?_) (fun g2=>?_);rotate_left
  .exact absurd g2 (by simp)
  refine gA Z (aA (yf [] (y::D) b j) Z Z Z Z Z Z ?_);refine gA Z ?_;refine OF (fun g3=>?_) (fun g3=>?_)
  .exact absurd (of_decide_eq_true g3) (by show¬(1:Int)<0;decide)
  refine gA Z ?_;refine OF (fun g4=>?_) (fun g4=>?_);rotate_left
  .exact absurd (show(1:Int)>0 by decide) (of_decide_eq_false g4)
  refine gA Z (aA (mn y (by omega)) Z Z Z Z Z Z ?_);refine gA Z ?_;exact⟨⟨([],D,a0++ [(is,y)]),b,kh j,I,by simp;omega⟩,[3],by show _<_;simp,wk Z Z Z (bi ⟨po y D,rfl,.row (by simp),rfl,ac⟩) (Ll Z (by rw[OX];exact(cY.refl _).app ⟨⟨.kb _,.refl _,.refl _,ac⟩,ac⟩) Z ac) Z⟩
 |x::C,[],b,j,G,u=>
  have hx:=b x (OO ..);have I:R=(a0++ [(jp,x)])++cX bq C []:=by rw[G,p7,p7,OZ,O0];rfl
  simp only[Pb,Qa]at u;refine gA Z ?_;refine OF (fun g1=>?_) (fun g1=>?_)
  .exact absurd g1 (by simp)
  refine gA Z (aA (yf (x::C) [] b j) Z Z Z Z Z Z ?_);refine gA Z ?_;refine OF (fun g3=>?_) (fun g3=>?_);rotate_left
  .exact absurd (show(-1:Int)<0 by decide) (of_decide_eq_false g3)
  refine gA Z (aA (mn x (by omega)) Z Z Z Z Z Z ?_);refine gA Z ?_;exact⟨⟨(C,[],a0++ [(jp,x)]),kh b,j,I,by simp;omega⟩,[3],by show _<_;simp,wk Z Z Z ⟨po x C,rfl,bi ⟨.row (by simp),rfl,ac⟩⟩ (Ll Z (by rw[OX];exact(cY.refl _).app ⟨⟨.refl _,.refl _,.refl _,ac⟩,ac⟩) Z ac) Z⟩
 |x::C,y::D,b,j,G,u=>
  have hx:=b x (OO ..);have hy:=j y (OO ..);simp only[Pb]at u;rw[p8]at G;refine gA Z ?_;refine OF (fun g1=>?_) (fun g1=>?_)
  .exact absurd g1 (by simp)
  refine gA Z (aA (yf (x::C) (y::D) b j) Z Z Z Z Z Z ?_);refine gA Z ?_;refine OF (fun g3=>?_) (fun g3=>?_)
  .have g3:bq x y<0:=of_decide_eq_true g3;rw[am g3]at G;have I:R=(a0++ [(jp,x)])++cX bq C (y::D):=by rw[G,O0];rfl
   refine gA Z (aA (mn x (by omega)) Z Z Z Z Z Z ?_);refine gA Z ⟨⟨(C,y::D,a0++ [(jp,x)]),kh b,j,I,by simp;omega⟩,[3],by show _<_;simp,wk Z Z Z ⟨po x C,rfl,bi ⟨.row (by simp),rfl,ac⟩⟩ (Ll Z (by rw[OX];exact(cY.refl _).app ⟨⟨.refl _,.refl _,.refl _,ac⟩,ac⟩) Z ac) Z⟩
  have g3: ¬bq x y<0:=of_decide_eq_false g3;rw[be g3]at G;refine gA Z ?_;refine OF (fun g4=>?_) (fun g4=>?_)
  .have g4:0<bq x y:=of_decide_eq_true g4;rw[am g4]at G;have I:R=(a0++ [(is,y)])++cX bq (x::C) D:=by rw[G,O0];rfl
   refine gA Z (aA (mn y (by omega)) Z Z Z Z Z Z ?_);refine gA Z ⟨⟨(x::C,D,a0++ [(is,y)]),b,kh j,I,by simp;omega⟩,[3],by show _<_;simp,wk Z Z Z (bi ⟨po y D,rfl,.row (by simp),rfl,ac⟩) (Ll Z (by rw[OX];exact(cY.refl _).app ⟨⟨.kb _,.refl _,.refl _,ac⟩,ac⟩) Z ac) Z⟩
  .have g4: ¬0<bq x y:=of_decide_eq_false g4;rw[be g4]at G;refine gA Z ⟨⟨(C,D,a0),kh b,kh j,G,by simp;omega⟩,[1],by show _<_;simp;omega,wk Z Z Z ⟨po x C,rfl,po y D,rfl,bi ac⟩ (hR Z Z Z ac) Z⟩
theorem Cj{α:Type}[Inhabited α]{a b:List α}(hl:a.length=b.length)(h: ∀j,j<a.length->a.getD j ci=b.getD j ci):a=b:=by
 refine List.ext_getElem hl fun i h1 u=>?_;have:=h i h1;rwa[OC,OC,OD h1,OD u]at this
theorem Df{α:Type}[Inhabited α]{a b:List α}{i:Nat}(h: ¬a.getD i ci=b.getD i ci):a≠b:=fun e=>h (by rw[e])
theorem yd(a b:List dM)(ha:a.length<=1000000000):Pure prog 37 [.iv (bV 3 a dM.c),.iv (bV 3 b dM.c)] (pB (kw (a=b))):=by
 refine ae ab func37 Z (by decide) ntmps37 Z (by simp) Z ?_;refine gA Z ?_;refine OF (fun u=>?_) (fun u=>?_)
 .have u: ¬a.length=b.length:=by
   intro e;have g:(!kw ((a.length:Int)=(b.length:Int)))=is:=u;rw[e]at g;simp at g
  rw[decide_eq_false fun e=>u (by rw[e])];refine gA Z (aH (by first|exact .inr Z|exact .inl Z) Z (.of_eq ?_));rfl
 have u:a.length=b.length:=by
  have g:(!kw ((a.length:Int)=(b.length:Int)))=jp:=u;rw[Qm,decide_eq_true_eq]at g;exact Int.ofNat_inj.1 g
 refine gA Z ?_;refine aM 0 a.length (OS _) (fun i=>⟨[(0,.iv (bV 3 a dM.c)),(1,.iv (bV 3 b dM.c)),(5,pI i)],[],0⟩) (fun i=> ∀j,j<i->a.getD j ci=b.getD j ci) [] (fun j A=>absurd A (QA j))
  (wk Z Z Z (bi (bi (bi trivial))) trivial Z) fun i G C=>?_
 refine gA Z ?_;refine OF (fun h1=>?_) (fun h1=>?_)
 .have h1:i<a.length:=by simpa using h1
  have D:(kw ((a.getD i ci).kind=(b.getD i ci).kind)&&(kw ((a.getD i ci).num=(b.getD i ci).num)&&(kw ((a.getD i ci).sym=(b.getD i ci).sym)&&is)))=kw (a.getD i ci=b.getD i ci):=by
   generalize a.getD i ci=x;generalize b.getD i ci=y;cases x;cases y;simp[dM.mk.injEq]
  refine gA Z ?_;refine OF (fun B=>?_) (fun B=>?_)
  .have g:(!(kw ((a.getD i ci).kind=(b.getD i ci).kind)&&(kw ((a.getD i ci).num=(b.getD i ci).num)&&(kw ((a.getD i ci).sym=(b.getD i ci).sym)&&is))))=is:=B;rw[D]at g;have g: ¬a.getD i ci=b.getD i ci:=by simpa using g
   rw[decide_eq_false (Df g)];refine gA Z (aH (by first|exact .inr Z|exact .inl Z) Z (.of_eq ?_));rfl
  .have g:(!(kw ((a.getD i ci).kind=(b.getD i ci).kind)&&(kw ((a.getD i ci).num=(b.getD i ci).num)&&(kw ((a.getD i ci).sym=(b.getD i ci).sym)&&is))))=jp:=B;rw[D]at g;have g:a.getD i ci=b.getD i ci:=by simpa using g
   refine gA Z ⟨h1,fun j A=>by rcases QH.1 A with h|h;exact C j h;exact h▸g,[],wk Z Z Z (bi (bi (bi ac))) ac Z⟩
 .have h1:a.length<=i:=by simpa using h1
  rw[decide_eq_true (Cj u fun j A=>C j (by omega))];refine gA Z (aH (by first|exact .inr Z|exact .inl Z) Z (.of_eq ?_));rfl
theorem A3(a b:Fact)(ha:a.args.length<=1000000000):Pure prog 22 [ag a.c,ag b.c] (pB (kw (a=b))):=by
 have u:kw (a=b)=(kw (a.rel=b.rel)&&kw (a.args=b.args)):=by
  cases a;cases b;simp[Fact.mk.injEq]
 rw[u];refine ae ab func22 Z (by decide) ntmps22 Z (by simp) Z ?_;refine gA Z ?_;refine OF (fun j=>?_) (fun j=>?_)
 .have j:a.rel=b.rel:=of_decide_eq_true j;refine gA Z (aA (yd a.args b.args ha) Z Z Z Z Z Z ?_);refine gA Z (aH (by first|exact .inr Z|exact .inl Z) Z (.of_eq ?_));rw[decide_eq_true j,Rb];rfl
 .have j: ¬a.rel=b.rel:=of_decide_eq_false j;refine gA Z (aH (by first|exact .inr Z|exact .inl Z) Z ?_);rw[decide_eq_false j,Qg];exact .of_eq Z
end Go.Proofs.YtllkaddcplhklaaGreatDoor
namespace Go.Proofs.YtllkaddcplhklaaGreatDoor
open Go Go.Al Go.Bo
section
def KD:ak:=⟨#[112]⟩
def gh(n:Int):Fact:=⟨KD,[⟨1,n,OI⟩]⟩
theorem Hl(a b:Int):bq (gh a) (gh b)=jH a b:=by
 have j:nJ KD KD=0:=No.refl _;have u:nJ OI OI=0:=No.refl _;have x:jH 1 1=0:=TO.int.refl _;simp only[bq,gh,qJ,cmpL,vU,j,u,x];unfold qN;rw[am Z,am Z];split
 .rename_i q;rw[am Z,q]
 .rfl
theorem Ep{a b:Int}:jH a b<0↔a<b:=by
 unfold jH;split
 .simp;assumption
 .split<;>simp<;>omega
section
variable {ok:Fact->Bool} (hok: ∀n:Int, -1<=n->n<=65536->ok (gh n)=is)
include hok
end
def more:List (bY Fact):=[(is,gh 65536),(is,gh (-1)),(jp,gh 0),(jp,gh 1)]
end
end Go.Proofs.YtllkaddcplhklaaGreatDoor
namespace Go.Proofs.YtllkaddcplhklaaGreatDoor
open Go Go.Al Go.Proofs.Tryz Go.Bo
theorem A4(n:Int):Pure prog 9 [pI n] (ag (gh n).c):=by
 refine ae ab func9 Z (by decide) ntmps9 Z (by simp) Z ?_;refine gA Z (kR (.inr Z) Z (gZ.CN 1 [(⟨1,n,OI⟩:dM)] dM.c Z Z (by simp[PV.dC,dQ]) (.done (.of_eq (by simp only[PV.dR,pD,O8];rfl)))))
def pX:Prog:=⟨[⟨KD,[1],⟨0,0⟩⟩],[]⟩
theorem Kx:pX.fit:=⟨by decide,by decide,fun r h=>nomatch h⟩
theorem C5:(sJ pX).1=0:=by decide+kernel
theorem GB:pX.size<=10000000:=by decide
def l3:List (bY Fact):=[(is,gh 2),(is,gh 1),(jp,gh 2)]
theorem yB:kB bq (okF pX) [] l3=0:=by decide+kernel
theorem G1:c7 bq [] l3=[(is,gh 1)]:=by decide+kernel
theorem G2:jn bq [] l3=[gh 1]:=by decide+kernel
theorem Ng:cX bq [gh 1] [gh 2]=[(jp,gh 1),(is,gh 2)]:=by
 have h:bq (gh 1) (gh 2)<0:=by rw[Hl,Ep];decide
 rw[p8,am h,kC];rfl
theorem NN:yu pX [] l3= .bh [.iv (bV 3 [(is,gh 1)] ef),pI 0]:=by unfold yu;rw[am yB,G1,yB]
theorem G3:ql bq (okF pX) ([],0) l3=([gh 1],1):=by unfold ql;rw[am yB,G2]
theorem MX(n:Int):y0 [gh n]:=fun f b=>by rw[OM.1 b];show 1<=_;decide
theorem Mi(n:Int):uY bq [gh n]:=List.pairwise_singleton _ _
theorem uj{i sz n b:Nat}{es:List (List PV)}(h: ∀e∈es,dQ i sz n e):(AO.row b es).tk i sz n:=h
theorem pe{i sz n:Nat}{p:Prog}{a b:Nat}:(gX p a b).tk i sz n:=⟨ac,ac,ac,ac,ac⟩
theorem iB{α:Type}(i sz n b:Nat)(l:List α)(f:α->List IV):(aT b l f).tk i sz n:=uj fun e j=>by
 obtain⟨x,_,rfl⟩:=Pg.1 j;exact Da _ _ _ _
abbrev KK(F:AF)(d i j k:Nat):AS:=⟨(d,.agg [.sl j 0 1 4,.iv (.v (.slice io 0 0))])::F,[(i,co (aT 1 [(1:Int)] j5)),(j,co (.row 4 [[pS KD,.sl i 0 1 1,pI 0,pI 0]]))],k⟩
theorem JW:To (KK [] 10 0 1 2) ⟨[(10,ag pX.c)],[],2⟩:=by
 refine(To.row (s:=KK [] 10 0 1 2) 0 (fun k=>j5 ([(1:Int)].getD k ci)) Z (gz Z) (by simp[AF.qO,PV.dC,dQ]) ⟨iB _ _ _ _ _ _,uj (by simp[PV.dC,dQ]),ac⟩).trans ?_;refine(To.wk (L:=[]) (t:=⟨[(10,.agg [.sl 1 0 1 4,.iv (.v (.slice io 0 0))])],[(1,co (aT 4 pX.aR Decl.c))],2⟩) (wk Z Z Z (bi ac) (Ll Z (show cY [[pS KD,.iv (.cp 1 1 fun k=>j5 ([(1:Int)].getD (0+k) ci)),pI 0,pI 0]] [[pS KD,.iv (bV 1 [(1:Int)] j5),pI 0,pI 0]] from⟨⟨.refl _,.cp Z fun k _=>by rw[O8],.refl _,.refl _,ac⟩,ac⟩) Z ac) Z)).trans ?_;refine(To.row (s:=⟨[(10,.agg [.sl 1 0 1 4,.iv (.v (.slice io 0 0))])],[(1,co (aT 4 pX.aR Decl.c))],2⟩) 1 (fun k=>Decl.c (pX.aR.getD k ci)) Z (gz Z) (by simp[AF.qO,PV.dC,dQ,pX]) ⟨iB _ _ _ _ _ _,ac⟩).trans ?_;exact To.wk (L:=[]) (wk Z Z Z ⟨.agg ⟨.cp Z fun k _=>by rw[O8],.nil _ _,ac⟩,rfl,ac⟩ ac Z)
set_option maxHeartbeats 1000000 in
theorem Kl(hS:fM):Pure prog 7 [] (pB is):=by
 have B:=Nz hS pX Kx GB C5;have j:=CI [gh 1] [gh 2] (Mi 1) (Mi 2) (MX 1) (MX 2) (by decide) (by decide);rw[Ng]at j
 have b:=Km pX 0 l3 (m:=[]) (S:=[]) (by decide) dP.nil (Go.Bo.jJ.nil _ _) (fun x u=>by
  simp only[l3,OP,List.mem_nil_iff,or_false]at u
  rcases u with rfl|rfl|rfl<;>(show 1<=_;decide)) (by decide)
 simp only[NN,G3]at b;refine ae ab func7 Z (by decide) ntmps7 Z (by simp) Z ?_;refine gA Z (yI (t:=⟨[(10,ag pX.c)],[],2⟩) ((To.wk (L:=[]) (t:=KK [] 10 0 1 2) (wk Z Z Z (bi ac) (hR Z Z Z ⟨⟨_,rfl,.of_eq Z⟩,Oy Z,Gm Z,ac⟩) Z)).trans JW) ?_);refine gA Z (cJ [] (B) Z Z Z Z Z Z Z Z ?_);refine gA Z ?_;refine OF (fun y=>?_) (fun y=>?_);rotate_left
 .exact absurd y (by decide)
 refine gA Z ?_;refine OF (fun A=>?_) (fun A=>?_)
 .exact absurd A (by decide)
 refine gA Z (aA (A4 2) Z Z Z Z Z Z ?_);refine gA Z (aA (A4 1) Z Z Z Z Z Z ?_);refine gA Z (aA (A4 2) Z Z Z Z Z Z ?_)
 refine gA Z (yI (t:=⟨[(1,.ptr 3 0),(21,.ptr 3 0),(28,.iv (bV 3 l3 ef))],[(2,co (fi [])),(3,co (gX pX 0 2))],5⟩) (((To.wk (L:=[]) (t:=⟨[(1,.ptr 3 0),(21,.ptr 3 0),(28,.sl 4 0 3 3)],[(2,co (fi [])),(3,co (gX pX 0 2)),(4,co (aT 3 l3 ef))],5⟩) (wk Z Z Z (bi (bi (bi ac))) (hM Z Z Z ⟨⟨_,rfl,.of_eq Z⟩,Oy Z,rfl,(Ll Z (show cY [[PV.kb is,.iv (iS (gh 2).rel),.iv (bV 3 (gh 2).args dM.c)],[PV.kb is,.iv (iS (gh 1).rel),.iv (bV 3 (gh 1).args dM.c)],[pB jp,.iv (iS (gh 2).rel),.iv (bV 3 (gh 2).args dM.c)]] [[pB is,.iv (iS (gh 2).rel),.iv (bV 3 (gh 2).args dM.c)],[pB is,.iv (iS (gh 1).rel),.iv (bV 3 (gh 1).args dM.c)],[pB jp,.iv (iS (gh 2).rel),.iv (bV 3 (gh 2).args dM.c)]] from⟨⟨.kb _,.refl _,.refl _,ac⟩,⟨.kb _,.refl _,.refl _,ac⟩,⟨.refl _,.refl _,.refl _,ac⟩,ac⟩) Z ac)⟩) Z)).trans
  (To.row (s:=⟨[(1,.ptr 3 0),(21,.ptr 3 0),(28,.sl 4 0 3 3)],[(2,co (fi [])),(3,co (gX pX 0 2)),(4,co (aT 3 l3 ef))],5⟩) 4 (fun k=>ef (l3.getD k ci)) Z (gz Z) (by simp[AF.qO,PV.dC,l3]) ⟨ac,pe,iB _ _ _ _ _ _,ac⟩)).trans
  (To.wk (L:=[]) (wk Z Z Z (bi (bi ⟨.cp Z (fun k _=>by rw[O8]),rfl,ac⟩)) (hM Z Z Z ⟨⟨_,rfl,.of_eq Z⟩,Oy Z,rfl,ac⟩) Z))) ?_)
 refine gA Z (xJ [2,3] b Z Z Z Z Z Z Z ?_);rintro r C D ⟨m1,hk1,rfl,rfl,rfl⟩;refine⟨_,rfl,?_⟩;refine gA Z (aA (A4 1) Z Z Z Z Z Z ?_);refine gA Z (aA (A4 2) Z Z Z Z Z Z ?_)
 refine gA Z (yI (t:=⟨[(1,.ptr 3 0),(3,.iv (bV 3 [((is,gh 1):bY Fact)] ef)),(4,pI 0),(33,a8 [gh 1]),(35,a8 [gh 2])],[(2,co (fi m1)),(3,co (gX pX 1 2))],7⟩) ((((To.wk (L:=[]) (t:=⟨[(1,.ptr 3 0),(3,.iv (bV 3 [((is,gh 1):bY Fact)] ef)),(4,pI 0),(33,.sl 5 0 1 2),(35,.sl 6 0 1 2)],[(2,co (fi m1)),(3,co (gX pX 1 2)),(5,co (aT 2 [gh 1] Fact.c)),(6,co (aT 2 [gh 2] Fact.c))],7⟩) (wk Z Z Z (bi (bi (bi (bi (bi ac))))) (hM Z Z Z ⟨⟨_,rfl,.of_eq Z⟩,Oy Z,rfl,(hR Z Z Z (hR Z Z Z ac))⟩) Z)).trans
  (To.row (s:=⟨[(1,.ptr 3 0),(3,.iv (bV 3 [((is,gh 1):bY Fact)] ef)),(4,pI 0),(33,.sl 5 0 1 2),(35,.sl 6 0 1 2)],[(2,co (fi m1)),(3,co (gX pX 1 2)),(5,co (aT 2 [gh 1] Fact.c)),(6,co (aT 2 [gh 2] Fact.c))],7⟩) 5 (fun k=>Fact.c ([gh 1].getD k ci)) Z (gz Z) (by simp[AF.qO,PV.dC]) ⟨ac,pe,iB _ _ _ _ _ _,iB _ _ _ _ _ _,ac⟩)).trans
  (To.wk (L:=[]) (t:=⟨[(1,.ptr 3 0),(3,.iv (bV 3 [((is,gh 1):bY Fact)] ef)),(4,pI 0),(33,a8 [gh 1]),(35,.sl 6 0 1 2)],[(2,co (fi m1)),(3,co (gX pX 1 2)),(6,co (aT 2 [gh 2] Fact.c))],7⟩) (wk Z Z Z (bi (bi (bi ⟨.cp Z (fun k _=>by rw[O8]),rfl,bi ac⟩))) (hM Z Z Z ⟨⟨_,rfl,.of_eq Z⟩,Oy Z,rfl,(hR Z Z Z ac)⟩) Z))).trans
  ((To.row (s:=⟨[(1,.ptr 3 0),(3,.iv (bV 3 [((is,gh 1):bY Fact)] ef)),(4,pI 0),(33,a8 [gh 1]),(35,.sl 6 0 1 2)],[(2,co (fi m1)),(3,co (gX pX 1 2)),(6,co (aT 2 [gh 2] Fact.c))],7⟩) 6 (fun k=>Fact.c ([gh 2].getD k ci)) Z (gz Z) (by simp[AF.qO,PV.dC]) ⟨ac,pe,iB _ _ _ _ _ _,ac⟩).trans
  (To.wk (L:=[]) (wk Z Z Z (bi (bi (bi (bi ⟨.cp Z (fun k _=>by rw[O8]),rfl,ac⟩)))) (hM Z Z Z ⟨⟨_,rfl,.of_eq Z⟩,Oy Z,rfl,ac⟩) Z)))) ?_)
 refine gA Z (aA (j) Z Z Z Z Z Z ?_);refine gA Z ?_;refine OF (fun g1=>?_) (fun g1=>?_);rotate_left
 .exact absurd g1 (by decide)
 refine gA Z ?_;refine OF (fun g2=>?_) (fun g2=>?_);rotate_left
 .exact absurd g2 (by decide)
 refine gA Z ?_;refine OF (fun g3=>?_) (fun g3=>?_);rotate_left
 .exact absurd g3 (by decide)
 refine gA Z (bD ab [] (Pure.q9 (A4 1)) Z Z Z Z Z Z Z Z Z Z Z Z (by(repeat' (first|exact ac|exact rfl|exact an.refl _|exact an.bk (by assumption)|apply OF))<;>first|omega|(simp only[OG];omega)|(simp;done)|(simp;omega)) Z (by(repeat' (first|exact ac|exact rfl|exact an.refl _|exact an.bk (by assumption)|apply OF))<;>first|omega|(simp only[OG];omega)|(simp;done)|(simp;omega)) ?_);refine gA Z (bD ab [] (Pure.q9 (A3 (gh 1) (gh 1) (by show 1<=_;decide))) Z Z Z Z Z Z Z Z Z Z Z Z (by(repeat' (first|exact ac|exact rfl|exact an.refl _|exact an.bk (by assumption)|apply OF))<;>first|omega|(simp only[OG];omega)|(simp;done)|(simp;omega)) Z (by(repeat' (first|exact ac|exact rfl|exact an.refl _|exact an.bk (by assumption)|apply OF))<;>first|omega|(simp only[OG];omega)|(simp;done)|(simp;omega)) ?_);refine gA Z ?_;refine OF (fun g4=>?_) (fun g4=>?_);rotate_left
 .exact absurd g4 (by simp)
 refine gA Z (bD ab [2,3] (Gf pX 1 m1) Z Z Z Z Z Z Z Z Z Z Z Z (by(repeat' (first|exact ac|exact rfl|exact an.refl _|exact an.bk (by assumption)|apply OF))<;>first|omega|(simp only[OG];omega)|(simp;done)|(simp;omega)) Z (by(repeat' (first|exact ac|exact rfl|exact an.refl _|exact an.bk (by assumption)|apply OF))<;>first|omega|(simp only[OG];omega)|(simp;done)|(simp;omega)) ?_);refine gA Z ?_;refine OF (fun g5=>?_) (fun g5=>?_);rotate_left
 .exact absurd g5 (by decide)
 refine gA Z (aH (by first|exact .inr Z|exact .inl Z) Z (.of_eq ?_));rfl
abbrev Ou(l:List (bY Fact)):List IV:=[bV 3 l ef]
end Go.Proofs.YtllkaddcplhklaaGreatDoor
namespace Go.Proofs.YtllkaddcplhklaaGreatDoor
open Go Go.Al Go.Proofs.Tryz Go.Bo Go.ChangeShapes Go.WideShapes Go.RowKit
section
theorem K6:prog.cellsOf 4=1:=by kernel_rfl
theorem Au:prog.cellsOf 42=3:=by kernel_rfl
section
variable {H:Type} {enc:TypeId×Value->H} {W:World} {hT:ll W} {sp:Nat->Bool} {held:Bool}
def QC(x:bY Fact)(d:DataW H):Prop:=x.2.args.length<=bk d
theorem Gs(n:Nat):Rd enc prog W hT sp held 4 (fun b=> [.v (.bool b)]) (fun _ _=>True) n:=by
 intro m _ j y h;obtain⟨b,rfl,rfl⟩:=DataW.trod_bool underlying4 h;exact⟨b,.one (.v _),ac⟩
theorem Kr(n:Nat):Rd enc prog W hT sp held 42 ef QC n:=by
 intro m _ D y h;obtain⟨C,k,rfl,rfl,hl,A,j⟩:=DataW.trod_struct underlying42 h
 match C,A with
 | [x0,x1],_=>
  obtain⟨a,u,_⟩:=Gs (hT:=hT) k k (OL _) _ _ (KW j 0 Z Z Z K6 Z);obtain⟨b,x,B⟩:=zt (hT:=hT) k k (OL _) _ _ (KW j 1 Z Z Z Av Z);refine⟨(a,b),u.x7 (o':=1) Z (x.x7 (o':=3) Z (.end_ (hl.trans Au))),?_⟩;simp only[QF,bk]at B;simp only[QC,bk,OZ,P9,Rows.uptoBulk,Rows.uptoBulkAll];omega
theorem Gr(n:Nat):Rd enc prog W hT sp held 36 Ou (QL QC) n:=
 (wZ (hT:=hT) underlying36 Au (by decide) (fun _=>rfl) (Kr n)).mono (Qv n)
end
theorem EA{H:Type}{enc:TypeId×Value->H}{W:World}(hT:ll W){v:Value}{d:DataW H}{p:List MemPlace}(b: ∃base,Value.okWide prog W .any base 39 v)(h:DataW.Trod enc prog W 0 (fun _=>is) is 39 v d p):
  ∃x:Fact,QF x d∧VR (Mem.n3 W hT) MA (· <0) (ag x.c) v:=by
 obtain⟨base,b⟩:=b;obtain⟨y,rfl,_⟩:=okWide_struct underlying39 b;obtain⟨n,u⟩:=h;obtain⟨r,h1,j⟩:=zt (hT:=hT) n n (OL _) _ _ u;exact⟨r,j,h1.agg⟩
theorem EB{H:Type}{enc:TypeId×Value->H}{W:World}(hT:ll W){v:Value}{d:DataW H}{p:List MemPlace}(b: ∃base,Value.okWide prog W .any base 36 v)(h:DataW.Trod enc prog W 0 (fun _=>is) is 36 v d p):
  ∃x:List (bY Fact),QL QC x d∧VR (Mem.n3 W hT) MA (· <0) (.iv (bV 3 x ef)) v:=by
 obtain⟨base,b⟩:=b;obtain⟨a,len,a0,rfl⟩:=okWide_slice underlying36 b;obtain⟨n,u⟩:=h;obtain⟨r,h1,j⟩:=Gr (hT:=hT) n n (OL _) _ _ u;exact⟨r,j,Jg h1⟩
end
end Go.Proofs.YtllkaddcplhklaaGreatDoor
namespace Go.Proofs.YtllkaddcplhklaaGreatDoor
open Go Go.Al Go.Proofs.Tryz Go.ChangeShapes Go.WideShapes Go.RowKit
theorem kv:prog.closure 6=[6,7,8,23,38,39,64,63,82,116,152,117,93,138,179,204,212,180,73,83,118,153,185,186,205,213,218,187,188,206,141,214,219,221,222,223,224,104,227,228,225,226,229,230,231,232,220,154,189,119,155,190,207,191,208,209,216,215,217,192,210,120,135,156,193,121,157,162,122,124,125,123,158,126,127,128,129,159,194,160,90,137,161,130,163,195,164,166,196,165,167,131,132,168,197,198,85,136,169,199,133,62,40,65,66,84,76,103,134,170,176,203,171,200,172,143,144,173,201,202,211,174,175,177,178,67,41,68,86,87,88,69,89,70,91,24,42,43,44,71,72,92,9,10,25,45,74,94,139,181,140,46,48,47,26,49,27,50,75,95,96,142,97,98,145,146,182,99,100,101,102,51,34,60,79,114,61,80,81,115,151,59,19,33,54,55,78,105,113,150,184,58,57,56,35,22,37,13,11,20,36,15,28,31,52,77,106,147,107,108,148,149,183,109,110,111,112,21,14,30,12,29,17,32,53]:=by kernel_rfl
theorem tA:joinedFacts prog 6 f6 (Rows.OpenSpec.upto Rows.baseNilSpec).bare Rows.baseNilUptoRow=is:=by
 have h1:prog.inPlace 6=Rows.baseNilUptoRow.inPlace:=by unfold Program.inPlace;rw[kv];kernel_rfl
 have b:prog.unfollowed 6=is:=by unfold Program.unfollowed;rw[kv];kernel_rfl
 have j:prog.varsNamed 6=Rows.baseNilUptoRow.named:=by unfold Program.varsNamed;rw[kv];kernel_rfl
 have u:prog.recurses 6=is:=by unfold Program.recurses;rw[b];rfl
 unfold joinedFacts;rw[h1,b,j,u];show(_:Bool)=is
 kernel_rfl
end Go.Proofs.YtllkaddcplhklaaGreatDoor
namespace Go.Proofs.YtllkaddcplhklaaGreatDoor
open Go Go.Al Go.Proofs.Tryz Go.Bo
abbrev xo:PV:= .iv (.v (.slice io 0 0))
theorem Dp:Pure prog 28 [lq] lq:=by
 refine ae ab func28 Z (by decide) ntmps28 Z (by simp) Z ?_;refine gA Z ?_;refine OF (fun b=>?_) (fun b=>?_)<;>(try(exact absurd b (by decide)))
 refine gA Z (aH (by first|exact .inr Z|exact .inl Z) Z (.of_eq ?_));rfl
theorem ME:Pure prog 29 [lq] (pI 0):=by
 refine ae ab func29 Z (by decide) ntmps29 Z (by simp) Z ?_;refine gA Z ?_;refine OF (fun b=>?_) (fun b=>?_)<;>(try(exact absurd b (by decide)))
 refine gA Z (aH (by first|exact .inr Z|exact .inl Z) Z (.of_eq ?_));rfl
theorem GK:Pure prog 31 [lq] xo:=by
 refine ae ab func31 Z (by decide) ntmps31 Z (by simp) Z ?_;refine gA Z ?_;refine OF (fun b=>?_) (fun b=>?_)<;>(try(exact absurd b (by decide)))
 refine gA Z (aH (by first|exact .inr Z|exact .inl Z) Z (.of_eq ?_));rfl
theorem MF(f:Fact):Pure prog 30 [lq,ag f.c] (pB jp):=by
 by_cases j:f.args.length<=8
 .refine ae ab func30 Z (by decide) ntmps30 Z (by simp) Z ?_;refine gA Z (aA (CD f j) Z Z Z Z Z Z ?_);refine gA Z ?_;refine OF (fun b=>?_) (fun b=>?_)<;>(try(exact absurd b (by decide)))
  refine gA Z (aH (by first|exact .inr Z|exact .inl Z) Z (.of_eq ?_));rfl
 .refine ae ab func30 Z (by decide) ntmps30 Z (by simp) Z ?_;refine gA Z (aA (Kh f (by omega)) Z Z Z Z Z Z ?_);refine gA Z ?_;refine OF (fun b=>?_) (fun b=>?_)<;>(try(exact absurd b (by decide)))
  refine gA Z (aH (by first|exact .inr Z|exact .inl Z) Z (.of_eq ?_));rfl
theorem NH:Pure prog 12 [lq] (pI 0):=by
 refine ae ab func12 Z (by decide) ntmps12 Z (by simp) Z ?_;refine gA Z (aA (Dp) Z Z Z Z Z Z ?_);refine gA Z (aA (ME) Z Z Z Z Z Z ?_);refine gA Z (aH (by first|exact .inr Z|exact .inl Z) Z (.of_eq ?_));rfl
theorem Dq:Pure prog 15 [lq] xo:=by
 refine ae ab func15 Z (by decide) ntmps15 Z (by simp) Z ?_;refine gA Z (aA (Dp) Z Z Z Z Z Z ?_);refine gA Z (aA (GK) Z Z Z Z Z Z ?_);refine gA Z (aH (by first|exact .inr Z|exact .inl Z) Z (.of_eq ?_));rfl
theorem GJ:Pure prog 13 [lq] (pI 0):=by
 refine ae ab func13 Z (by decide) ntmps13 Z (by simp) Z ?_;refine gA Z ?_;refine OF (fun b=>?_) (fun b=>?_)<;>(try(exact absurd b (by decide)))
 refine gA Z (aH (by first|exact .inr Z|exact .inl Z) Z (.of_eq ?_));rfl
theorem NI(f:Fact):Pure prog 14 [lq,ag f.c] (pB jp):=by
 refine ae ab func14 Z (by decide) ntmps14 Z (by simp) Z ?_;refine gA Z (bD ab [] (Pure.q9 (Dp)) Z Z Z Z Z Z Z Z Z Z Z Z (by(repeat' (first|exact ac|exact rfl|exact an.refl _|exact an.bk (by assumption)|apply OF))<;>first|omega|(simp only[OG];omega)|(simp;done)|(simp;omega)) Z (by(repeat' (first|exact ac|exact rfl|exact an.refl _|exact an.bk (by assumption)|apply OF))<;>first|omega|(simp only[OG];omega)|(simp;done)|(simp;omega)) ?_);refine gA Z (bD ab [] (Pure.q9 (MF f)) Z Z Z Z Z Z Z Z Z Z Z Z (by(repeat' (first|exact ac|exact rfl|exact an.refl _|exact an.bk (by assumption)|apply OF))<;>first|omega|(simp only[OG];omega)|(simp;done)|(simp;omega)) Z (by(repeat' (first|exact ac|exact rfl|exact an.refl _|exact an.bk (by assumption)|apply OF))<;>first|omega|(simp only[OG];omega)|(simp;done)|(simp;omega)) ?_);refine gA Z (aH (by first|exact .inr Z|exact .inl Z) Z (.of_eq ?_));rfl
theorem MG:Pure prog 17 [lq] lq:=by
 refine ae ab func17 Z (by decide) ntmps17 Z (by simp) Z ?_;refine gA Z ?_;refine OF (fun b=>?_) (fun b=>?_)<;>(try(exact absurd b (by decide)))
 refine gA Z (aH (by first|exact .inr Z|exact .inl Z) Z (.of_eq ?_));rfl
theorem IW(l:List (bY Fact)):Pure prog 25 [lq,.iv (bV 3 l ef)] (.bh [.iv (.v (.map io)),pI 1]):=by
 refine ae ab func25 Z (by decide) ntmps25 Z (by simp) Z ?_;refine gA Z ?_;refine OF (fun b=>?_) (fun b=>?_)<;>(try(exact absurd b (by decide)))
 refine gA Z (aH (by first|exact .inr Z|exact .inl Z) Z (.of_eq ?_));rfl
theorem NG(l:List (bY Fact)):Pure prog 11 [lq,.iv (bV 3 l ef)] (.bh [xo,pI 1]):=by
 refine ae ab func11 Z (by decide) ntmps11 Z (by simp) Z ?_;refine gA Z (aA (IW l) Z Z Z Z Z Z ?_);refine gA Z ?_;refine OF (fun b=>?_) (fun b=>?_)<;>(try(exact absurd b (by decide)))
 refine gA Z (aH (by first|exact .inr Z|exact .inl Z) Z (.of_eq ?_));rfl
theorem KE(l:List (bY Fact)):Pure prog 10 [lq,.iv (bV 3 l ef)] (.bh [xo,pI 1]):=by
 refine ae ab func10 Z (by decide) ntmps10 Z (by simp) Z ?_;refine gA Z (aA (IW l) Z Z Z Z Z Z ?_);refine gA Z ?_;refine OF (fun b=>?_) (fun b=>?_)<;>(try(exact absurd b (by decide)))
 refine gA Z (aH (by first|exact .inr Z|exact .inl Z) Z (.of_eq ?_));rfl
theorem Dn:Pure prog 21 [lq] (.agg [xo,xo]):=by
 refine ae ab func21 Z (by decide) ntmps21 Z (by simp) Z ?_;refine gA Z ?_;refine OF (fun b=>?_) (fun b=>?_)<;>(try(exact absurd b (by decide)))
 refine gA Z (aH (by first|exact .inr Z|exact .inl Z) Z (.of_eq ?_));rfl
abbrev Dg:AO:= .cells [lq]
theorem NJ:bI prog 20 [lq] [] (.bX (.func 36) [] [.ptr 0 0]) [(0,co Dg)] 1:=by
 refine ax ab func20 Z (by decide) ntmps20 Z (by simp) ?_;refine gA Z (bj [0] (by first|exact .inr Z|exact .inl Z) Z (wk Z Z Z ⟨.of_eq Z,rfl,ac⟩ ⟨⟨_,rfl,.of_eq Z⟩,Oy Z,rfl,ac⟩ Z))
theorem MH(y:PV):bI prog 36 [y,.ptr 0 0] [Dg] (.bh []) [(0,co Dg)] 1:=by
 refine ax ab func36 Z (by decide) ntmps36 Z (by simp) ?_;refine gA Z (aA (Dq) Z Z Z Z Z Z ?_);refine gA Z ?_;refine vM 0 0 (OL _) (fun i (_:Unit)=>⟨[(7,pI 0),(8,pI i)],[(0,co Dg)],1⟩) (fun _ _=>True) () [] ac
  (wk Z Z Z (bi (bi trivial)) ⟨⟨_,rfl,.of_eq Z⟩,Oy Z,rfl,ac⟩ Z) fun i _ j _=>?_
 obtain rfl:i=0:=by omega
 refine gA Z ?_;refine OF (fun b=>?_) (fun b=>?_)<;>(try(exact absurd b (by decide)))
 refine gA Z (bj [] (by first|exact .inr Z|exact .inl Z) Z (wk Z Z Z (bi ac) ⟨⟨_,rfl,.of_eq Z⟩,Oy Z,rfl,ac⟩ Z))
abbrev Lm(l:Nat):PV:= .iv (.v (.func (.yield l) #[] #[]))
noncomputable abbrev MD:Code:=f6.body.getD .skip
abbrev MC(f:Fact):AS:=⟨[(3,.ptr 0 0),(4,.ptr 1 0),(6,lq),(7,xo),(8,pI 1),(9,xo),(10,pI 1),(34,.bX (.func 36) [] [.ptr 2 0])],[(0,co (ay f.c)),(1,co (.cells [pB jp])),(2,co Dg)],3⟩
theorem CJ(hS:fM)(l:List (bY Fact))(f:Fact):Pure prog 6 [.iv (bV 3 l ef),ag f.c] (pB is):=by
 refine Gz ab func6 (cs:=(qM MD).1) (show _=co (KL (qM MD)) from rfl) (by decide) ntmps6 Z (by simp) Z (MC f) ?_ (asv:=fun l=> [Lm l,.ptr 2 0]) [2] (fun l=>MH (Lm l)) (fun _=>rfl) Z Z Z (fun _=>rfl) fun D=>?_
 .refine gA Z (aA (Kl hS) Z Z Z Z Z Z ?_);refine gA Z (aA (KE l) Z Z Z Z Z Z ?_);refine gA Z (aA (NG l) Z Z Z Z Z Z ?_);refine gA Z (cJ [] (NJ) Z Z Z Z Z Z Z Z ?_);refine gA Z ?_;refine OF (fun b=>?_) (fun b=>?_)<;>(try(exact absurd b (by decide)))
  refine gA Z ?_;refine OF (fun b=>?_) (fun b=>?_)<;>(try(exact absurd b (by decide)))
  refine gA Z ⟨rfl,[],wk Z Z Z (bi (bi (bi (bi (bi (bi (bi (bi ac)))))))) (hC Z Z Z ⟨⟨_,rfl,.of_eq Z⟩,Oy Z,rfl,⟨⟨_,rfl,.of_eq Z⟩,Oy Z,rfl,ac⟩⟩) Z⟩
 .refine gA Z (aA (Dn) Z Z Z Z Z Z ?_);refine gA Z ?_;refine OF (fun b=>?_) (fun b=>?_)<;>(try(exact absurd b (by decide)))
  refine gA Z ?_;refine OF (fun b=>?_) (fun b=>?_)<;>(try(exact absurd b (by decide)))
  refine gA Z ?_;refine OF (fun b=>?_) (fun b=>?_)<;>(try(exact absurd b (by decide)))
  refine gA Z (aA (NI f) Z Z Z Z Z Z ?_);refine gA Z ?_;refine OF (fun b=>?_) (fun b=>?_)<;>(try(exact absurd b (by decide)))
  refine gA Z (aA (NH) Z Z Z Z Z Z ?_);refine gA Z ?_;refine OF (fun b=>?_) (fun b=>?_)<;>(try(exact absurd b (by decide)))
  refine gA Z (aA (Dq) Z Z Z Z Z Z ?_);refine gA Z ?_;refine OF (fun b=>?_) (fun b=>?_)<;>(try(exact absurd b (by decide)))
  refine gA Z (aA (GJ) Z Z Z Z Z Z ?_);refine gA Z ?_;refine OF (fun b=>?_) (fun b=>?_)<;>(try(exact absurd b (by decide)))
  refine gA Z ?_;refine OF (fun b=>?_) (fun b=>?_)<;>(try(exact absurd b (by decide)))
  refine gA Z (aA (MG) Z Z Z Z Z Z ?_);refine gA Z (aH (by first|exact .inr Z|exact .inl Z) Z (.of_eq ?_));rfl
end Go.Proofs.YtllkaddcplhklaaGreatDoor
