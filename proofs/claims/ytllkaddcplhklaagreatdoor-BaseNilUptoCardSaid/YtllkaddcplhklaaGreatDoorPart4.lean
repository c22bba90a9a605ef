/-
  What the proofs of the claims need: part 4 of 5.
-/
import Derived.Test.YtllkaddcplhklaaGreatDoorPart3
import Derived.KernelRfl
import Derived.Test.YtllkaddcplhklaaGreatDoorRows
import Derived.WalkKit
import Derived.ProofKit
import Derived.OpenShut
import Derived.Deep.DeepHandedRow
import Derived.Lib.LaidTab
import Derived.LaidSub
import Derived.MakeChecks
import Derived.Test.YtllkaddcplhklaaGreatDoorCards
import Derived.Test.YtllkaddcplhklaaGreatDoorTie
import Derived.Lib.Bytealg
import Derived.Laws.Externs
import Derived.Shelf.SlSortCmp.NoneTotal
import Derived.Shelf.SlMaps.Clone
open And renaming intro→OF
open Array renaming eq_empty_of_size_eq_zero→P6,toList_inj→RC
open Bool renaming and_eq_true→Pq,and_false→QZ,eq_iff_iff→PS,false_and→Qg,false_eq_true→Qb,not_eq_false→RZ,not_eq_false'→Qm,not_eq_true'→PF,or_eq_false_iff→QD,or_eq_true→Qz,true_and→Rb
open ByteArray renaming empty→OI
open Classical renaming byContradiction→PM
open Int renaming le_refl→QM,toNat_natCast→OG
open List.Nodup renaming length_le_of_subset→PK
open List.Pairwise renaming filter→QG,imp→Rz,nil→Ri
open List renaming all_eq_true→Pj,any_eq_false→Pz,any_eq_true→PO,append_assoc→O0,append_eq_nil_iff→Rl,append_nil→Pw,concat_eq_append→RL,cons_append→PT,drop_eq_getElem_cons→Qy,drop_of_length_le→QQ,eq_nil_of_length_eq_zero→Ps,ext_getElem?→QE,filter_congr→Qq,filter_cons→Qd,find?_cons→RI,find?_eq_none→Qw,flatMap_append→Ra,flatMap_cons→PH,foldl_cons→Pr,getD_cons_zero→Qs,getD_eq_getElem?_getD→OC,getElem?_cons_succ→Rf,getElem?_eq_getElem→OD,getElem?_eq_some_iff→OB,getElem?_map→OH,getElem?_set→Qe,getElem?_take→Pn,getElem?_zipWith→RN,getElem_map→P7,getElem_mem→Pm,length→RP,length_append→OE,length_cons→Pb,length_eq_zero_iff→P0,length_filter_le→PQ,length_map→O7,length_nil→Qa,length_pos_iff→PJ,length_singleton→PC,length_take→PN,map_append→OX,map_congr_left→QJ,map_cons→OZ,map_map→Qf,map_nil→P9,mem_append→OW,mem_append_left→Ph,mem_append_right→P8,mem_cons→OP,mem_cons_of_mem→ON,mem_cons_self→OO,mem_filter→Pa,mem_flatMap→Rp,mem_iff_getElem→Qp,mem_map→Pg,mem_map_of_mem→Rr,mem_of_getElem?→Pe,mem_of_mem_take→RR,mem_range→PW,mem_reverse→R4,mem_singleton→OM,mem_singleton_self→Qr,nil_append→Qh,nodup_append→PZ,nodup_cons→Pf,nodup_nil→Pk,pairwise_append→Q3,pairwise_cons→PG,pairwise_iff_getElem→PL,perm_ext_iff_of_nodup→P2,range→O9,replicate→QY,singleton_append→RK,sum_cons→PU,take_append_drop→QT,take_length→Ql,take_of_length_le→OY,take_succ_cons→PX,zipWith→RF,zipWith_cons_cons→RG
open List.cons renaming injEq→RH
open Nat renaming add_assoc→P3,beq→O2,ble→Qx,ble_eq_true_of_le→Pu,blt→O1,le_of_ble_eq_true→Oy,le_of_eq→R0,le_of_not_lt→Qk,le_refl→OL,le_succ→Qv,le_trans→Pp,lt_succ_iff_lt_or_eq→QH,max_eq_right→R5,not_lt_zero→QA,succ_le_succ→R3,zero_add→O8,zero_le→OS
open Option renaming bind_some→QK,getD_some→PA,map_eq_none_iff→QO,map_eq_some_iff→OJ
open Option.some renaming inj→Pl,injEq→OA
open Prod renaming fst→Px
open Prod.mk renaming injEq→OK
set_option maxRecDepth 100000
open Bool renaming false→jp,true→is
open Decidable renaming decide→kw
open Inhabited renaming default→ci
open Option renaming none→io,some→co
open Array renaming getD_eq_getD_getElem?→Oz
open Array renaming range→Rw
open Array renaming getElem?_map→QN
open Option renaming map_some→PI
open Array renaming getElem?_eq_getElem→O4
open Nat renaming mul_le_mul_right→O3
open Nat renaming add_mul→PD
open Array renaming getElem?_append_left→Pc
open List renaming getElem?_append_right→OQ
open Array renaming getElem?_append_right→QX
open Array renaming getElem?_toList→O6
namespace Go.Proofs.YtllkaddcplhklaaGreatDoor
open Go Go.Al
def ra(a:Atom):Bool:=(iY WS.o a).bad
def pn(l:Lit):Bool:=(dt l.size l WS.o).bad
def rk(l:Lit):Bool:=kw (l.kind=4)&&kw ((l.ar.length:Int)>12)
def gk(n:Nat):List Int:=(O9 (n+1)).map fun k:Nat=>(k:Int)-1
theorem pj(n:Nat):(gk n).length=n+1:=by simp[gk]
theorem uv(n k:Nat)(h:k<n+1):(gk n).getD k ci=(k:Int)-1:=by simp[gk,h]
def yP(f:Int->Bool)(n:Nat):Option Int:=(gk n).find? f
abbrev eZ:=Int×Pos
def eZ.c(d:eZ):List IV:=[iI d.1,iI d.2.line,iI d.2.EP]
def lM(r:aw)(e:Int)(f:Int->Bool)(k:eZ):eZ:=match yP f r.body.length with
 |some lit=>(e,pc r lit)
 |none=>k
def vB(p:Prog)(r:aw):eZ:=
 lM r 61 (fun lit=>(ep r lit).any fun x=>sX p x)<|lM r 62 (fun lit=>(ep r lit).any fun x=>vY p x)<|lM r 65 (kr r)<|lM r 63 (oS (lx p r))<|lM r 64 (jC r) (0,⟨0,0⟩)
def tU(p:Prog)(r:aw)(n:Int):eZ:=
 if ra r.head=is then(1,r.at_) else match r.body.find? pn with
 |some l=>(1,l.at)
 |none=>if n>256∨(r.body.length:Int)>12 then(66,r.at_) else if(Cv r:Int)>24 then(66,r.at_) else match r.body.find? rk with
  |some l=>(66,l.at)
  |none=>vB p r
def aw.fit(r:aw):Prop:=r.size<=10000000∧r.head.ts<=900000000∧ ∀l∈r.body,l.ts<=900000000
theorem ke{α:Type}{p:α->Bool}{l:List α}(h:l.any p=jp):l.find? p=io:=by
 rw[Qw];intro x b;have:=Pz.1 h x b;simpa using this
theorem lV{α:Type}[Inhabited α]{p:α->Bool}{l:List α}{i:Nat}(h:(l.take i).any p=jp)(hi:i<l.length)(hp:p (l.getD i ci)=is):l.find? p=co (l.getD i ci):=by
 have b:l.getD i ci=l[i]:=by simp[hi]
 rw[b]at hp ⊢;rw[List.find?_eq_some_iff_getElem];refine⟨hp,i,hi,rfl,fun j u=>?_⟩;have:=Pz.1 h l[j] (List.mem_iff_getElem?.2 ⟨j,by rw[Pn,am u,OD (by omega)]⟩);simpa using this
def gL(p:Prog)(r:aw):List (List PV):=[[pI 61,.bX (.func 122) [] [.ptr 1 0,.ptr 0 0]],[pI 62,.bX (.func 126) [] [.ptr 1 0,.ptr 0 0]],[pI 65,.bX (.func 128) [] [.ptr 1 0]],[pI 63,.bX (.func 131) [.iv (JT r (lx p r))] []],[pI 64,.bX (.func 132) [.iv (b8 r)] []]]
theorem b5(p:Prog)(r:aw)(n:Nat)(h:O1 1 n=is):(AO.row 2 (gL p r)).low n:=by
 have b:O1 0 n=is:=Pu (by have:=Oy h;omega);intro k e hk
 match k,hk with
 |0,hk=>cases hk;simp[bb,PV.low,h,b]
 |1,hk=>cases hk;simp[bb,PV.low,h,b]
 |2,hk=>cases hk;simp[bb,PV.low,h,b]
 |3,hk=>cases hk;simp[bb,PV.low,h,b]
 |4,hk=>cases hk;simp[bb,PV.low,h,b]
 |k+5,hk=>simp[gL]at hk
theorem lL{r:aw}{e:Int}{f:Int->Bool}{k:eZ}{i:Nat}(b:((gk r.body.length).take i).any f=jp)(hi:i<r.body.length+1)(h:f ((i:Int)-1)=is):lM r e f k=(e,pc r ((i:Int)-1)):=by
 have h1:=uv r.body.length i hi;have:=lV b (by rw[pj];exact hi) (by rw[h1];exact h);rw[h1]at this;rw[lM,yP,this]
theorem jX{r:aw}{e:Int}{f:Int->Bool}{k:eZ}{i:Nat}(b:((gk r.body.length).take i).any f=jp)(hi:r.body.length+1<=i):lM r e f k=k:=by
 rw[OY (by rw[pj];exact hi)]at b;rw[lM,yP,ke b]
theorem jW{r:aw}{f:Int->Bool}{i:Nat}(b:((gk r.body.length).take i).any f=jp)(hi:i<r.body.length+1)(h:f ((i:Int)-1)=jp):((gk r.body.length).take (i+1)).any f=jp:=by
 refine(cC b (by rw[pj];exact hi)).2 ?_;rw[uv _ _ hi];exact h
set_option maxHeartbeats 4000000 in
theorem c65(p:Prog)(r:aw)(n:Int)(hb:r.fit):Pure Tryz.prog 83 [.iv (cv p),ag r.c,pI n] (ag (tU p r n).c):=by
 obtain⟨hb,G,I⟩:=hb;have b0:r.size=r.head.aj.length+Lit.aE r.body:=rfl;have R:=Lit.aF r.body;refine ae ab Tryz.func83 Z (by decide) Tryz.ntmps83 Z (by simp) Z ?_;refine gA Z (zp (c61 r.head G) ?_);refine zJ Z Z (fun g1=>?_) fun g1=>?_
 .have g1:ra r.head=is:=by
   cases h:ra r.head with
   |true=>rfl
   |false=>
    have h:(iY WS.o r.head).bad=jp:=h;rw[h]at g1;simp at g1
  rw[tU,am g1];exact zU Z
 have g1: ¬ra r.head=is:=by
  intro h;have h:(iY WS.o r.head).bad=is:=h;rw[h]at g1;simp at g1
 rw[tU,be g1];refine gA Z ?_;refine aM 0 r.body.length (OS _) (fun i=>⟨[(2,pI n),(3,.ptr 0 0),(4,.ptr 1 0),(6,.ptr 2 0),(32,.iv (lits r.body)),(33,pI r.body.length),(34,pI i)],[(0,co (.cells [.iv (cv p)])),(1,co (ay r.c)),(2,co (.cells [pI 0,pI 0,pI 0]))],3⟩) (fun i=>(r.body.take i).any pn=jp) [] (by simp)
  (zW ⟨⟨_,rfl,.of_eq Z⟩,Oy Z,rfl,⟨_,rfl,.of_eq Z⟩,Oy Z,rfl,⟨_,rfl,.of_eq Z⟩,Oy Z,rfl,ac⟩) fun i Y u=>?_
 refine zJ Z Z (fun h1=>?_) fun h1=>?_
 .have h1:i<r.body.length:=zN h1;have D:=cC u h1;have hm:r.body.getD i ci∈r.body:=by rw[OC,OD h1];exact Pm h1
  have a0:=Lit.bN r.body i h1;refine gA Z (aA (Oq (r.body.getD i ci) (I _ hm) (by omega)) Z Z Z Z Z Z ?_);refine zJ Z Z (fun A=>?_) fun A=>?_
  .have A:pn (r.body.getD i ci)=is:=by
    cases h:pn (r.body.getD i ci) with
    |true=>rfl
    |false=>
     have h:(dt (r.body.getD i ci).size (r.body.getD i ci) WS.o).bad=jp:=h;have g:(!kw ((if(dt (r.body.getD i ci).size (r.body.getD i ci) WS.o).bad=is then(50:Int) else 0)=0))=is:=A;rw[h]at g;simp at g
   rw[lV u h1 A];exact zU Z
  .have A:pn (r.body.getD i ci)=jp:=by
    cases h:pn (r.body.getD i ci) with
    |false=>rfl
    |true=>
     have h:(dt (r.body.getD i ci).size (r.body.getD i ci) WS.o).bad=is:=h;have g:(!kw ((if(dt (r.body.getD i ci).size (r.body.getD i ci) WS.o).bad=is then(50:Int) else 0)=0))=jp:=A;rw[h]at g;simp at g
   refine gA Z ⟨h1,D.2 A,[],zW ⟨⟨_,rfl,.of_eq Z⟩,Oy Z,rfl,⟨_,rfl,.of_eq Z⟩,Oy Z,rfl,⟨_,rfl,.of_eq Z⟩,Oy Z,rfl,ac⟩⟩
 have h1:r.body.length<=i:=zG h1;rw[OY h1]at u;rw[ke u];refine zE Z Z (fun g2=>?_) fun g2=>?_
 .have g2:n>256:=by simpa using g2
  rw[am (.inl g2)];exact zU Z
 have g2: ¬n>256:=zF g2;refine zJ Z Z (fun g3=>?_) fun g3=>?_
 .rw[am (.inr (zT g3))];exact zU Z
 have g3: ¬(r.body.length:Int)>12:=zF g3;rw[be (by rintro(h|h);exact g2 h;exact g3 h)];refine gA Z (zp (c48 r (by omega)) ?_);refine gA Z (zp (Oo r (by omega)) ?_);refine zJ Z Z (fun g4=>?_) fun g4=>?_
 .rw[am (zT g4)];exact zU Z
 have g4: ¬(Cv r:Int)>24:=zF g4;rw[be g4];refine gA Z ?_;refine aM 0 r.body.length (OS _) (fun i=>⟨[(3,.ptr 0 0),(4,.ptr 1 0),(6,.ptr 2 0),(13,.iv (b8 r)),(69,.iv (lits r.body)),(70,pI r.body.length),(71,pI i)],[(0,co (.cells [.iv (cv p)])),(1,co (ay r.c)),(2,co (.cells [pI 0,pI 0,pI 0]))],3⟩) (fun i=>(r.body.take i).any rk=jp) [] (by simp)
  (zW ⟨⟨_,rfl,.of_eq Z⟩,Oy Z,rfl,⟨_,rfl,.of_eq Z⟩,Oy Z,rfl,⟨_,rfl,.of_eq Z⟩,Oy Z,rfl,ac⟩) fun i Y u=>?_
 refine zJ Z Z (fun A=>?_) fun A=>?_
 .have A:i<r.body.length:=zN A;have D:=cC u A;refine zJ Z Z (fun B=>?_) fun B=>?_
  .have B:(r.body.getD i ci).kind=4:=zT B;refine zJ Z Z (fun C=>?_) fun C=>?_
   .have C:rk (r.body.getD i ci)=is:=by rw[rk,decide_eq_true B];exact C
    rw[lV u A C];exact zU Z
   .have C:rk (r.body.getD i ci)=jp:=by rw[rk,decide_eq_true B];exact C
    refine gA Z ⟨A,D.2 C,[],zW ⟨⟨_,rfl,.of_eq Z⟩,Oy Z,rfl,⟨_,rfl,.of_eq Z⟩,Oy Z,rfl,⟨_,rfl,.of_eq Z⟩,Oy Z,rfl,ac⟩⟩
  .have B: ¬(r.body.getD i ci).kind=4:=zF (by have g:kw ((r.body.getD i ci).kind=4)=jp:=B;exact g);refine gA Z ⟨A,D.2 (by rw[rk,decide_eq_false B];rfl),[],zW ⟨⟨_,rfl,.of_eq Z⟩,Oy Z,rfl,⟨_,rfl,.of_eq Z⟩,Oy Z,rfl,⟨_,rfl,.of_eq Z⟩,Oy Z,rfl,ac⟩⟩
 have A:r.body.length<=i:=zG A;rw[OY A]at u;rw[ke u];refine gA Z (zp (c49 p r (by omega)) ?_);refine gA Z ?_;refine ah [] (t:=⟨[(3,.ptr 0 0),(4,.ptr 1 0),(6,.ptr 2 0),(104,.sl 3 0 5 2),(105,pI 5),(106,pI 0)],[(0,co (.cells [.iv (cv p)])),(1,co (ay r.c)),(2,co (.cells [pI 0,pI 0,pI 0])),(3,co (.row 2 (gL p r)))],4⟩)
  (zW (zO (zO (zO ⟨⟨_,rfl,.of_eq Z⟩,Oy Z,b5 p r _ Z,ac⟩)))) ?_
 have J:(lx p r).ws.length<=1000000000000:=by have:=sL p r r.body.length (OL _);rw[Ql]at this;show(dO p r r.body.length).ws.length<=_;omega
 rw[vB];refine nQ (n:=6) ?_;refine zE Z Z (fun q=>?_) fun q=>?_
 .exact absurd (show is=jp from q) (by decide)
 refine gA Z ?_;refine aM 0 (r.body.length+1) (OS _) (fun k=>⟨[(3,.ptr 0 0),(4,.ptr 1 0),(6,.ptr 2 0),(18,.ptr 4 0),(19,pI ((k:Int)-1)),(104,.sl 3 0 5 2),(105,pI 5),(106,pI 0)],[(0,co (.cells [.iv (cv p)])),(1,co (ay r.c)),(2,co (.cells [pI 0,pI 0,pI 0])),(3,co (.row 2 (gL p r))),(4,co (.cells [pI 61,.bX (.func 122) [] [.ptr 1 0,.ptr 0 0]]))],5⟩) (fun k=>((gk r.body.length).take k).any (fun lit=>(ep r lit).any fun x=>sX p x)=jp) [] Z
  (zW (zO (zO (zO ⟨⟨_,rfl,.of_eq Z⟩,Oy Z,b5 p r _ Z,(zO trivial)⟩)))) fun k hk u=>?_
 refine zJ Z Z (fun j=>?_) fun j=>?_
 .have j:(k:Int)-1<r.body.length:=zT j;have b:k<r.body.length+1:=by omega
  refine gA Z (zq [1,0] (d110 p r ((k:Int)-1) (by omega) (by omega)) ?_);refine zJ Z Z (fun y=>?_) fun y=>?_
  .rw[lL u b y];refine gA Z (y3 (Ez r ((k:Int)-1) j) ?_);exact zU Z
  .refine gA Z ?_;exact⟨b,jW u b y,[],zM (bi (bi (bi (bi ⟨.of_eq (BY (by omega)),rfl,bi (bi (bi ac))⟩)))) (zO (zO (zO ⟨⟨_,rfl,.of_eq Z⟩,Oy Z,b5 p r _ Z,(zO ac)⟩)))⟩
 have j: ¬(k:Int)-1<r.body.length:=zF j;rw[jX u (by omega)];clear u hk j;refine zE Z Z (fun q=>?_) fun q=>?_
 .exact absurd (show is=jp from q) (by decide)
 refine gA Z ?_;refine aM 0 (r.body.length+1) (OS _) (fun k=>⟨[(3,.ptr 0 0),(4,.ptr 1 0),(6,.ptr 2 0),(18,.ptr 5 0),(19,pI ((k:Int)-1)),(104,.sl 3 0 5 2),(105,pI 5),(106,pI 1)],[(0,co (.cells [.iv (cv p)])),(1,co (ay r.c)),(2,co (.cells [pI 0,pI 0,pI 0])),(3,co (.row 2 (gL p r))),(5,co (.cells [pI 62,.bX (.func 126) [] [.ptr 1 0,.ptr 0 0]]))],6⟩) (fun k=>((gk r.body.length).take k).any (fun lit=>(ep r lit).any fun x=>vY p x)=jp) [] Z
  (zW (zO (zO (zO ⟨⟨_,rfl,.of_eq Z⟩,Oy Z,b5 p r _ Z,(zO trivial)⟩)))) fun k hk u=>?_
 refine zJ Z Z (fun j=>?_) fun j=>?_
 .have j:(k:Int)-1<r.body.length:=zT j;have b:k<r.body.length+1:=by omega
  refine gA Z (zq [1,0] (d114 p r ((k:Int)-1) (by omega) (by omega)) ?_);refine zJ Z Z (fun y=>?_) fun y=>?_
  .rw[lL u b y];refine gA Z (y3 (Ez r ((k:Int)-1) j) ?_);exact zU Z
  .refine gA Z ?_;exact⟨b,jW u b y,[],zM (bi (bi (bi (bi ⟨.of_eq (BY (by omega)),rfl,bi (bi (bi ac))⟩)))) (zO (zO (zO ⟨⟨_,rfl,.of_eq Z⟩,Oy Z,b5 p r _ Z,(zO ac)⟩)))⟩
 have j: ¬(k:Int)-1<r.body.length:=zF j;rw[jX u (by omega)];clear u hk j;refine zE Z Z (fun q=>?_) fun q=>?_
 .exact absurd (show is=jp from q) (by decide)
 refine gA Z ?_;refine aM 0 (r.body.length+1) (OS _) (fun k=>⟨[(3,.ptr 0 0),(4,.ptr 1 0),(6,.ptr 2 0),(18,.ptr 6 0),(19,pI ((k:Int)-1)),(104,.sl 3 0 5 2),(105,pI 5),(106,pI 2)],[(0,co (.cells [.iv (cv p)])),(1,co (ay r.c)),(2,co (.cells [pI 0,pI 0,pI 0])),(3,co (.row 2 (gL p r))),(6,co (.cells [pI 65,.bX (.func 128) [] [.ptr 1 0]]))],7⟩) (fun k=>((gk r.body.length).take k).any (kr r)=jp) [] Z
  (zW (zO (zO (zO ⟨⟨_,rfl,.of_eq Z⟩,Oy Z,b5 p r _ Z,(zO trivial)⟩)))) fun k hk u=>?_
 refine zJ Z Z (fun j=>?_) fun j=>?_
 .have j:(k:Int)-1<r.body.length:=zT j;have b:k<r.body.length+1:=by omega
  refine gA Z (zq [1] (d116 r ((k:Int)-1) (by omega) (by omega)) ?_);refine zJ Z Z (fun y=>?_) fun y=>?_
  .rw[lL u b y];refine gA Z (y3 (Ez r ((k:Int)-1) j) ?_);exact zU Z
  .refine gA Z ?_;exact⟨b,jW u b y,[],zM (bi (bi (bi (bi ⟨.of_eq (BY (by omega)),rfl,bi (bi (bi ac))⟩)))) (zO (zO (zO ⟨⟨_,rfl,.of_eq Z⟩,Oy Z,b5 p r _ Z,(zO ac)⟩)))⟩
 have j: ¬(k:Int)-1<r.body.length:=zF j;rw[jX u (by omega)];clear u hk j;refine zE Z Z (fun q=>?_) fun q=>?_
 .exact absurd (show is=jp from q) (by decide)
 refine gA Z ?_;refine aM 0 (r.body.length+1) (OS _) (fun k=>⟨[(3,.ptr 0 0),(4,.ptr 1 0),(6,.ptr 2 0),(18,.ptr 7 0),(19,pI ((k:Int)-1)),(104,.sl 3 0 5 2),(105,pI 5),(106,pI 3)],[(0,co (.cells [.iv (cv p)])),(1,co (ay r.c)),(2,co (.cells [pI 0,pI 0,pI 0])),(3,co (.row 2 (gL p r))),(7,co (.cells [pI 63,.bX (.func 131) [.iv (JT r (lx p r))] []]))],8⟩) (fun k=>((gk r.body.length).take k).any (oS (lx p r))=jp) [] Z
  (zW (zO (zO (zO ⟨⟨_,rfl,.of_eq Z⟩,Oy Z,b5 p r _ Z,(zO trivial)⟩)))) fun k hk u=>?_
 refine zJ Z Z (fun j=>?_) fun j=>?_
 .have j:(k:Int)-1<r.body.length:=zT j;have b:k<r.body.length+1:=by omega
  refine gA Z (aA (Om r (lx p r) ((k:Int)-1) (vW p r _) J) Z Z Z Z Z Z ?_);refine zJ Z Z (fun y=>?_) fun y=>?_
  .rw[lL u b y];refine gA Z (y3 (Ez r ((k:Int)-1) j) ?_);exact zU Z
  .refine gA Z ?_;exact⟨b,jW u b y,[],zM (bi (bi (bi (bi ⟨.of_eq (BY (by omega)),rfl,bi (bi (bi ac))⟩)))) (zO (zO (zO ⟨⟨_,rfl,.of_eq Z⟩,Oy Z,b5 p r _ Z,(zO ac)⟩)))⟩
 have j: ¬(k:Int)-1<r.body.length:=zF j;rw[jX u (by omega)];clear u hk j;refine zE Z Z (fun q=>?_) fun q=>?_
 .exact absurd (show is=jp from q) (by decide)
 refine gA Z ?_;refine aM 0 (r.body.length+1) (OS _) (fun k=>⟨[(3,.ptr 0 0),(4,.ptr 1 0),(6,.ptr 2 0),(18,.ptr 8 0),(19,pI ((k:Int)-1)),(104,.sl 3 0 5 2),(105,pI 5),(106,pI 4)],[(0,co (.cells [.iv (cv p)])),(1,co (ay r.c)),(2,co (.cells [pI 0,pI 0,pI 0])),(3,co (.row 2 (gL p r))),(8,co (.cells [pI 64,.bX (.func 132) [.iv (b8 r)] []]))],9⟩) (fun k=>((gk r.body.length).take k).any (jC r)=jp) [] Z
  (zW (zO (zO (zO ⟨⟨_,rfl,.of_eq Z⟩,Oy Z,b5 p r _ Z,(zO trivial)⟩)))) fun k hk u=>?_
 refine zJ Z Z (fun j=>?_) fun j=>?_
 .have j:(k:Int)-1<r.body.length:=zT j;have b:k<r.body.length+1:=by omega
  refine gA Z (zp (Ol r ((k:Int)-1) (by omega) (by omega)) ?_);refine zJ Z Z (fun y=>?_) fun y=>?_
  .rw[lL u b y];refine gA Z (y3 (Ez r ((k:Int)-1) j) ?_);exact zU Z
  .refine gA Z ?_;exact⟨b,jW u b y,[],zM (bi (bi (bi (bi ⟨.of_eq (BY (by omega)),rfl,bi (bi (bi ac))⟩)))) (zO (zO (zO ⟨⟨_,rfl,.of_eq Z⟩,Oy Z,b5 p r _ Z,(zO ac)⟩)))⟩
 have j: ¬(k:Int)-1<r.body.length:=zF j;rw[jX u (by omega)];clear u hk j;refine zJ Z Z (fun q=>?_) fun q=>?_
 .exact absurd (show jp=is from q) (by decide)
 exact zU Z
end Go.Proofs.YtllkaddcplhklaaGreatDoor
namespace Go.Proofs.YtllkaddcplhklaaGreatDoor
open Go Go.Al Go.Proofs.Tryz
section
theorem Ev:prog.cellsOf 3=1:=by kernel_rfl
theorem Et:prog.cellsOf 9=1:=by kernel_rfl
theorem As:prog.cellsOf 72=3:=by kernel_rfl
theorem Hu:prog.cellsOf 37=1:=by kernel_rfl
theorem Av:prog.cellsOf 39=2:=by kernel_rfl
section
variable {H:Type}
abbrev bk(d:DataW H):Nat:=Rows.uptoBulk d
theorem K9(d:DataW H):1<=bk d:=by
 cases d with
 |lit l=>cases l<;>simp[bk,Rows.uptoBulk]
 |nil=>simp[bk,Rows.uptoBulk]
 |ptr d=>simp[bk,Rows.uptoBulk]
 |slice elems spare=>simp[bk,Rows.uptoBulk]
 |agg parts=>simp[bk,Rows.uptoBulk]
 |iface t d=>simp[bk,Rows.uptoBulk]
 |map entries=>simp[bk,Rows.uptoBulk]
 |held h=>simp[bk,Rows.uptoBulk]
theorem K8(s:ByteArray):bk (DataW.lit (H:=H) (.string s.data.toList))=s.size+1:=by
 simp[bk,Rows.uptoBulk]
theorem _root_.Go.Al.QL.sum{α:Type}{Q:α->DataW H->Prop}{l:List α}{d:DataW H}(h:QL Q l d){f:α->Nat}{c:Nat}(hf: ∀x e,Q x e->f x<=c*bk e):(l.map f).sum<=c*bk d:=by
 obtain⟨b,hd,j,u⟩:=h;have key: ∀(l:List α) (b:List (DataW H)),l.length=b.length->(∀(i:Nat) (x:α) (e:DataW H),l[i]? =co x->b[i]? =co e->Q x e)->(l.map f).sum<=c*Rows.uptoBulkAll b:=by
  intro l
  induction l with
  |nil=>intro b _ _;simp
  |cons x r ih=>
   intro b hl u;cases b with
   |nil=>simp at hl
   |cons e b=>
    have h1:=hf x e (u 0 x e Z Z);have B:=ih b (by simpa using hl) fun i x e A y=>u (i+1) x e (by simpa using A) (by simpa using y);simp only[OZ,PU,Rows.uptoBulkAll,Nat.mul_add];simp only[bk]at h1;omega
 have h1:=key l b j u;rcases hd with⟨rfl,rfl⟩|⟨sp,rfl⟩
 .simp[Rows.uptoBulkAll]at h1;omega
 .refine Pp h1 (Nat.mul_le_mul_left c ?_);simp only[bk,Rows.uptoBulk];omega
theorem wv{α:Type}: ∀l:List α,(l.map fun _=>1).sum=l.length
 | []=>rfl
 |x::r=>by simp only[OZ,PU,Pb,wv r];omega
theorem _root_.Go.Al.QL.len{α:Type}{Q:α->DataW H->Prop}{l:List α}{d:DataW H}(h:QL Q l d):l.length<=bk d:=by
 have:=h.sum (f:=fun _=>1) (c:=1) fun x e _=>by have:=K9 e;omega
 have e:=wv l;omega
theorem _root_.Go.Al.QL.all{α:Type}{Q:α->DataW H->Prop}{l:List α}{d:DataW H}(h:QL Q l d): ∀x∈l,∃e,Q x e∧bk e<=bk d:=by
 intro x C;obtain⟨b,hd,u,B⟩:=h;obtain⟨i,A,rfl⟩:=Qp.1 C;have j:i<b.length:=by omega
 refine⟨b[i],B i _ _ (OD A) (OD j),?_⟩;have key: ∀(b:List (DataW H)),∀e∈b,bk e<=Rows.uptoBulkAll b:=by
  intro b
  induction b with
  |nil=>intro e he;cases he
  |cons y r ih=>
   intro e he;simp only[Rows.uptoBulkAll];rcases OP.1 he with rfl|he
   .simp only[bk];omega
   .have:=ih e he;omega
 have h1:=key b b[i] (Pm j);rcases hd with⟨rfl,rfl⟩|⟨sp,rfl⟩
 .simp at j
 .refine Pp h1 ?_;simp only[bk,Rows.uptoBulk];omega
end
section
variable {H:Type} {enc:TypeId×Value->H} {W:World} {hT:ll W} {sp:Nat->Bool} {held:Bool}
def QV(v:dM)(d:DataW H):Prop:=v.sym.size<=bk d
def Pos.c(p:Pos):List IV:=[iI p.line,iI p.EP]
theorem rd_val(n:Nat):Rd enc prog W hT sp held 72 dM.c QV n:=by
 intro m _ G y h;obtain⟨D,k,rfl,rfl,hl,B,j⟩:=DataW.trod_struct underlying72 h
 match D,B with
 | [x0,x1,x2],_=>
  obtain⟨a,u,I,_⟩:=CX (hT:=hT) underlying3 k k (OL _) _ _ (KW j 0 Z Z Z Ev Z);obtain⟨b,x,J,_⟩:=CX (hT:=hT) underlying3 k k (OL _) _ _ (KW j 1 Z Z Z Ev Z);obtain⟨c,A,C,_⟩:=tY (hT:=hT) underlying9 k k (OL _) _ _ (KW j 2 Z Z Z Et Z);refine⟨⟨a,b,c⟩,u.x7 (o':=1) Z (x.x7 (o':=2) Z (A.x7 (o':=3) Z (.end_ (hl.trans As)))),?_⟩;simp only[QV,bk,OZ,P9,Rows.uptoBulk,Rows.uptoBulkAll];have:=K8 (H:=H) c;rw[<-C]at this;simp only[bk]at this;omega
end
end
end Go.Proofs.YtllkaddcplhklaaGreatDoor
namespace Go.Proofs.YtllkaddcplhklaaGreatDoor
open Go Go.Al Go.Proofs.Tryz Go.ChangeShapes Go.WideShapes Go.RowKit
theorem own:ownKnob prog.godebug=io:=by kernel_rfl
theorem MU:prog.globalNamed "internal/strconv.uint64pow10" =co 1:=by kernel_rfl
theorem DW:(prog.globals[1]?).map (·.type)=co 300:=by kernel_rfl
theorem Eu:prog.cellsOf 300=20:=by kernel_rfl
theorem Ew:prog.cellsOf 177=1:=by kernel_rfl
theorem Ca:prog.underlying 300=co (.array 20 177):=by kernel_rfl
theorem Cb:prog.underlying 177=co (.int .u64):=by kernel_rfl
abbrev DD:List (String×DataW Unit):=[("math/bits.deBruijn32tab",Rows.laid_math_bits_deBruijn32tab),("math/bits.deBruijn64tab",Rows.laid_math_bits_deBruijn64tab),("internal/strconv.uint64pow10",Rows.laid_internal_strconv_uint64pow10)]
theorem Ck{W:World}(h:laidMetH prog DD W):ll W:=by
 have u:=laidMetH.filter (fun x=>x.1== "internal/strconv.uint64pow10") h;have A:laidMet prog [("internal/strconv.uint64pow10",Lib.tabData .u64 nF)] W:=by
  rw[show DD.filter (fun x=>x.1== "internal/strconv.uint64pow10")=[("internal/strconv.uint64pow10",Lib.tabData .u64 nF)] by kernel_rfl]at u;rwa[MakeChecks.laidMetH_plain _ _ _ (by kernel_rfl)]at u
 have j:Lib.TabIs prog W "internal/strconv.uint64pow10" .u64 nF:=Lib.tabIs_of_head (rest:=[]) MU DW Ca Cb Ew Eu A;intro b c hb;unfold Lib.TabIs World.var? at j;rw[MU]at j
 match b with
 |0=>exact nomatch hb
 |1=>
  have B:(nF.map fun z=>Value.int .u64 z).toArray=c:=Pl hb;rw[B]at j;simp only[QK]at j;split at j
  .rename_i C T y e;exact⟨T,y,by rw[e,Pl j]⟩
  .cases j
 |b+2=>exact nomatch hb
theorem kids:Kids prog (· <prog.types.size):=kids_rows (by kernel_rfl) (by kernel_rfl)
theorem full: ∀{t e},t<prog.types.size->prog.underlying t=co (.slice e)->0<prog.cellsOf e:=fun{t e}=>slices_full_of prog (by kernel_rfl) t e
theorem vk{H:Type}{enc:TypeId×Value->H}{W:World}(hT:ll W){k:FuncId}{f:Func}{s:ChangeSpec}{args:List PV}{vs:List Value}{B gs:List (DataW H)}{u:List MemPlace}
  (hp:Al.Pure prog k args (pB is)) (D:args.length=vs.length) (hv: ∀(j:Nat) (p:PV),args[j]? =co p->VR (Mem.n3 W hT) MA (· <0) p (vs.getD j undef))
  (G: ∀t∈f.params.toList,t<prog.types.size) (A:s.vars=[]) (y:f.resultTypes= #[4])
  (hW:DataW.Whole enc prog f.params.toList s.vars jp W vs.toArray.toList B gs u)
  (I:(s.fn H (B++gs)).results=[.lit (.bool is)]) (J:(s.fn H (B++gs)).args=B) (R:(s.fn H (B++gs)).vars=[]):
  Calls prog k vs.toArray W fun e W'=> ∃v,e= .returned v∧s.post enc prog f jp is jp jp W vs.toArray v W':=by
 refine(hp.2 (Mem.n3 W hT) MA W vs (Gq W hT) D hv).mono ?_;rintro e W' ⟨x,M',N',r,h',n',rfl,⟨rfl,rfl,rfl⟩,hx,hr,hvr⟩;have Y:x= .bool is:=by
  cases hvr with
  |iv _ _ h=>cases h;rfl
 subst Y;refine⟨_,rfl,vl kids full G A hW hx.os hx.output.out (fun b hb=>hx.dc b hb fun i o hi=>(nomatch hi)) (fun b sp hd=>?_) J R ?_⟩
 .rw[I,y];exact trodAll_cons_mk (shut_bool underlying4 _) trodAll_mk0
 .intro j t r h1 C;rw[y]at h1 C
  match j,h1,C with
  |0,h1,C=>
   cases h1;cases C;exact okWide_bool_mk underlying4 _
  |j+1,h1,C=>simp at h1
theorem bound{H:Type}{l:List (DataW H)}(hk:Rows.uptoSmall H l=is):Rows.uptoBulkAll l<=1048576:=of_decide_eq_true hk
def DC(b:Nat)(cs:Array Value)(h:Array Obj):Array Obj:=h.modify b fun
 | .cells _ t frozen=> .cells cs t frozen
 |o=>o
noncomputable def pq(os:Os):World:=
 {World.holding prog os ⟨#[], #[],[]⟩ with
  heap:=DC 3 #[.int .u8 0,.int .u8 1,.int .u8 56,.int .u8 2,.int .u8 57,.int .u8 49,.int .u8 28,.int .u8 3,.int .u8 61,.int .u8 58,.int .u8 42,.int .u8 50,.int .u8 38,.int .u8 29,.int .u8 17,.int .u8 4,.int .u8 62,.int .u8 47,.int .u8 59,.int .u8 36,.int .u8 45,.int .u8 43,.int .u8 51,.int .u8 22,.int .u8 53,.int .u8 39,.int .u8 33,.int .u8 30,.int .u8 24,.int .u8 18,.int .u8 12,.int .u8 5,.int .u8 63,.int .u8 55,.int .u8 48,.int .u8 27,.int .u8 60,.int .u8 41,.int .u8 37,.int .u8 16,.int .u8 46,.int .u8 35,.int .u8 44,.int .u8 21,.int .u8 52,.int .u8 32,.int .u8 23,.int .u8 11,.int .u8 54,.int .u8 26,.int .u8 40,.int .u8 15,.int .u8 34,.int .u8 20,.int .u8 31,.int .u8 10,.int .u8 25,.int .u8 14,.int .u8 19,.int .u8 9,.int .u8 13,.int .u8 8,.int .u8 7,.int .u8 6] (DC 2 #[.int .u8 0,.int .u8 1,.int .u8 28,.int .u8 2,.int .u8 29,.int .u8 14,.int .u8 24,.int .u8 3,.int .u8 30,.int .u8 22,.int .u8 20,.int .u8 15,.int .u8 25,.int .u8 17,.int .u8 4,.int .u8 8,.int .u8 31,.int .u8 27,.int .u8 13,.int .u8 23,.int .u8 21,.int .u8 19,.int .u8 16,.int .u8 7,.int .u8 26,.int .u8 12,.int .u8 18,.int .u8 6,.int .u8 11,.int .u8 5,.int .u8 10,.int .u8 9] (DC 1 (nF.map fun z=>Value.int .u64 z).toArray (World.holding prog os ⟨#[], #[],[]⟩).heap))}
end Go.Proofs.YtllkaddcplhklaaGreatDoor
namespace Go.Proofs.YtllkaddcplhklaaGreatDoor
open Go Go.Al Go.Proofs.Tryz
def eZ.z:eZ:=(0,⟨0,0⟩)
theorem d64(d e:eZ):bI prog 64 [ag d.c,.ptr 0 0] [ay e.c] (pB jp) [(0,co (ay d.c))] 1:=by
 refine ax ab func64 Z (by decide) ntmps64 Z (by simp) ?_;refine gA Z (zD [] Z (zW (zO ac)))
def eW(p:Prog)(i:Nat):List ak:=(p.aR.take i).map Decl.name
def fo(p:Prog)(i:Nat):Int:=nC (p.aR.getD i ci) i (dm .str (aD (eW p i)) (p.aR.getD i ci).name 0)
def nB(p:Prog):Nat->List eZ
 |0=> []
 |i+1=>nB p i++(if fo p i=0 then[] else[(fo p i,(p.aR.getD i ci).at_)])
def rF(p:Prog)(i:Nat):eZ:=tU p (p.rules.getD i ci) ((i:Int)+1)
def oh(p:Prog):Nat->List eZ
 |0=> []
 |i+1=>oh p i++(if(rF p i).1=0 then[] else[rF p i])
def jv(p:Prog):List eZ:=nB p p.aR.length++oh p p.rules.length
def dK(p:Prog):eZ:=(jv p).headD eZ.z
theorem wX(p:Prog)(i:Nat): ∀k,∃t,nB p (i+k)=nB p i++t
 |0=>⟨[],by simp⟩
 |k+1=>by
  obtain⟨t,h⟩:=wX p i k;exact⟨_,by rw[<-P3,nB,h,O0]⟩
theorem wQ(p:Prog)(i:Nat): ∀k,∃t,oh p (i+k)=oh p i++t
 |0=>⟨[],by simp⟩
 |k+1=>by
  obtain⟨t,h⟩:=wQ p i k;exact⟨_,by rw[<-P3,oh,h,O0]⟩
theorem BQ{p:Prog}{i:Nat}(j:nB p i=[])(hi:i<p.aR.length)(h: ¬fo p i=0):dK p=(fo p i,(p.aR.getD i ci).at_):=by
 obtain⟨t,b⟩:=wX p (i+1) (p.aR.length-(i+1));have e:i+1+(p.aR.length-(i+1))=p.aR.length:=by omega
 rw[e,nB,j,be h]at b;rw[dK,jv,b];rfl
theorem BP{p:Prog}{i:Nat}(h0:nB p p.aR.length=[])(j:oh p i=[])(hi:i<p.rules.length)(h: ¬(rF p i).1=0):dK p=rF p i:=by
 obtain⟨t,b⟩:=wQ p (i+1) (p.rules.length-(i+1));have e:i+1+(p.rules.length-(i+1))=p.rules.length:=by omega
 rw[e,oh,j,be h]at b;rw[dK,jv,b,h0];rfl
theorem Es{p:Prog}(h0:nB p p.aR.length=[])(h1:oh p p.rules.length=[]):dK p=eZ.z:=by
 rw[dK,jv,h0,h1];rfl
theorem vh{p:Prog}{i:Nat}(h:i<p.aR.length):aD (eW p (i+1))=bump (aD (eW p i)) (p.aR.getD i ci).name:=by
 rw[eW,cd h,OX];exact cS _ _
theorem ym(p:Prog)(i:Nat)(s:ak):0<=dm .str (aD (eW p i)) s 0∧dm .str (aD (eW p i)) s 0<=i:=by
 have h:=fq (eW p i) s;have b:(eW p i).length<=i:=by simp[eW];omega
 rw[bt];omega
def Prog.fit(p:Prog):Prop:=p.aR.length<=1000000000∧p.rules.length<=1000000000∧ ∀r∈p.rules,r.fit
theorem N4(p:Prog)(hb:p.fit):bI prog 63 [ag p.c,.bX (.func 64) [] [.ptr 0 0]] [ay eZ.z.c] (.bh []) [(0,co (ay (dK p).c))] 1:=by
 obtain⟨A,B,y⟩:=hb;refine ax ab func63 Z (by decide) ntmps63 Z (by simp) ?_;refine gA Z ?_;refine aM 0 p.aR.length (OS _) (fun i=>⟨[(1,.bX (.func 64) [] [.ptr 0 0]),(2,.ptr 1 0),(4,.mp 2),(13,.iv (bV 4 p.aR Decl.c)),(14,pI p.aR.length),(15,pI i)],[(0,co (ay eZ.z.c)),(1,co (ay p.c)),(2,co (cy (aD (eW p i))))],3⟩) (fun i=>nB p i=[]) [] Z
  (zW ⟨⟨_,rfl,.of_eq Z⟩,Oy Z,rfl,⟨_,rfl,.of_eq Z⟩,Oy Z,rfl,KP Z eS Z trivial⟩) fun i C u=>?_
 refine zJ Z Z (fun h1=>?_) fun h1=>?_
 .have h1:i<p.aR.length:=zN h1;have hl:=ym p i (p.aR.getD i ci).name;have G:=vh h1;refine gA Z (zp (Ot (p.aR.getD i ci) i (dm .str (aD (eW p i)) (p.aR.getD i ci).name 0)) ?_);refine zJ Z Z (fun g=>?_) fun g=>?_
  .have g: ¬fo p i=0:=by
    have g:(!kw (fo p i=0))=is:=g;simpa only[PF,decide_eq_false_iff_not]using g
   rw[BQ u h1 g];refine gA Z (zq [0] (d64 (fo p i,(p.aR.getD i ci).at_) eZ.z) ?_);refine zE Z Z (fun q=>?_) fun q=>?_
   .exact absurd (show is=jp from q) (by decide)
   refine gA Z (zD [] Z (zW (zO ac)))
  .have g:fo p i=0:=by
    have g:(!kw (fo p i=0))=jp:=g;simpa only[Qm,decide_eq_true_eq]using g
   refine gA Z ⟨h1,by rw[nB,u,am g];rfl,[],zW (zO (zO (hM Z (by rw[G];rfl) Z trivial)))⟩
 have h1:p.aR.length<=i:=zG h1;have j:i=p.aR.length:=by omega
 subst j;refine gA Z (zq [] (d50 p (by omega)) ?_);refine gA Z ?_;refine Ha 3 Z ?_;refine aM 0 p.rules.length (OS _) (fun i=>⟨[(1,.bX (.func 64) [] [.ptr 0 0]),(2,.ptr 1 0),(8,.iv (cv p)),(47,.iv (bV 5 p.rules aw.c)),(48,pI p.rules.length),(49,pI i)],[(0,co (ay eZ.z.c)),(1,co (ay p.c))],4⟩) (fun i=>oh p i=[]) [] Z
  (zW (zO (zO trivial))) fun i C x=>?_
 refine zJ Z Z (fun b=>?_) fun b=>?_
 .have b:i<p.rules.length:=zN b;have D:p.rules.getD i ci∈p.rules:=by rw[OC,OD b];exact Pm b
  refine gA Z (aA (c65 p (p.rules.getD i ci) ((i:Int)+1) (y _ D)) Z Z Z Z Z Z ?_);refine zJ Z Z (fun g=>?_) fun g=>?_
  .have g: ¬(rF p i).1=0:=by
    have g:(!kw ((rF p i).1=0))=is:=g;simpa only[PF,decide_eq_false_iff_not]using g
   rw[BP u x b g];refine gA Z (zq [0] (d64 (rF p i) eZ.z) ?_);refine zE Z Z (fun q=>?_) fun q=>?_
   .exact absurd (show is=jp from q) (by decide)
   refine gA Z (zD [] Z (zW (zO ac)))
  .have g:(rF p i).1=0:=by
    have g:(!kw ((rF p i).1=0))=jp:=g;simpa only[Qm,decide_eq_true_eq]using g
   refine gA Z ⟨b,by rw[oh,x,am g];rfl,[],zW (zO (zO trivial))⟩
 have b:p.rules.length<=i:=zG b;have j:i=p.rules.length:=by omega
 subst j;rw[Es u x];refine gA Z (zD [] Z (zW (zO ac)))
theorem c24(p:Prog)(hb:p.fit):Pure prog 39 [ag p.c] (ag (dK p).c):=by
 refine ae ab func39 Z (by decide) ntmps39 Z (by simp) Z ?_;refine gA Z (zq [2] (N4 p hb) ?_);exact zU Z
end Go.Proofs.YtllkaddcplhklaaGreatDoor
namespace Go.Proofs.YtllkaddcplhklaaGreatDoor
open Go Go.Al Go.ChangeShapes Go.WideShapes Go.RowKit
section
section
variable {H:Type} {enc:TypeId×Value->H} {W:World} {hT:ll W} {sp:Nat->Bool} {held:Bool}
def QF(f:Fact)(d:DataW H):Prop:=f.args.length<=bk d
theorem zt(n:Nat):Rd enc Tryz.prog W hT sp held 39 Fact.c QF n:=by
 intro m _ G y h;obtain⟨D,k,rfl,rfl,hl,B,j⟩:=DataW.trod_struct Tryz.underlying39 h
 match D,B with
 | [x0,x1],_=>
  obtain⟨a,u,I,_⟩:=tY (hT:=hT) Tryz.underlying9 k k (OL _) _ _ (KW j 0 Z Z Z Et Z);obtain⟨b,x,C⟩:=(wZ (hT:=hT) Tryz.underlying37 As (by decide) (fun _=>rfl) (rd_val k)).mono (Qv k) k (OL _) _ _ (KW j 1 Z Z Z Hu Z);refine⟨⟨a,b⟩,u.x7 (o':=1) Z (x.x7 (o':=2) Z (.end_ (hl.trans Av))),?_⟩;have A:=C.len;simp only[bk]at A;simp only[QF,bk,OZ,P9,Rows.uptoBulk,Rows.uptoBulkAll];omega
end
theorem Jg{M:Mem}{N:Nm}{U:Nat->Prop}{p:IV}{a:Option Addr}{l c:Nat}(h:CR M [p] (Value.slice a l c).cells.toList):VR M N U (.iv p) (.slice a l c):= .iv _ _ (h.2 0 p Z)
end
end Go.Proofs.YtllkaddcplhklaaGreatDoor
namespace Go.Bo
section
structure TO {α:Type} (c:α->α->Int):Prop where
 eq: ∀x y,c x y=0↔x=y
 neg: ∀x y,c y x<0↔0<c x y
 tr: ∀x y z,c x y<0->c y z<0->c x z<0
section
variable {α:Type} {c:α->α->Int} (h:TO c)
include h
theorem TO.refl(x:α):c x x=0:=(h.eq x x).2 Z
theorem TO.MM(x:α): ¬c x x<0:=by rw[h.refl];omega
theorem TO.asym{x y:α}(a:c x y<0): ¬c y x<0:=fun b=>by have:=(h.neg x y).1 b;omega
theorem TO.Mb{x y:α}(a: ¬c x y<0)(b: ¬c y x<0):x=y:=by
 refine(h.eq x y).1 ?_;have:=(h.neg x y).2;omega
theorem TO.NF{x y z:α}(a: ¬c x y<0)(b: ¬c y z<0): ¬c x z<0:=fun g=>by
 by_cases e:c y x<0
 .exact b (h.tr _ _ _ e g)
 .rw[h.Mb a e]at g;exact b g
end
def qN(a b:Int):Int:=if a=0 then b else a
theorem zu{a b j u:Int}(h1:j<0↔0<a)(x:a<0↔0<j)(y:u<0↔0<b):qN j u<0↔0<qN a b:=by
 unfold qN;split<;>split<;>omega
theorem TO.pair{α β:Type}{c:α->α->Int}{d:β->β->Int}(h:TO c)(g:TO d):TO fun(x y:α×β)=>qN (c x.1 y.1) (d x.2 y.2) where
 eq:=fun x y=>by
  unfold qN;constructor
  .intro e;split at e
   .rename_i a;exact Prod.ext ((h.eq _ _).1 a) ((g.eq _ _).1 e)
   .rename_i a;exact absurd e a
  .rintro rfl;rw[am (h.refl _)];exact g.refl _
 neg:=fun x y=>zu (h.neg _ _) (h.neg _ _) (g.neg _ _)
 tr:=fun x y z a b=>by
  unfold qN at*
  by_cases u:c x.1 y.1=0
  .rw[am u]at a;have A:=(h.eq _ _).1 u;rw[A];by_cases j:c y.1 z.1=0
   .rw[am j]at b ⊢;exact g.tr _ _ _ a b
   .rw[be j]at b ⊢;exact b
  .rw[be u]at a;by_cases j:c y.1 z.1=0
   .rw[<-(h.eq _ _).1 j,be u];exact a
   .rw[be j]at b;have:=h.tr _ _ _ a b;rw[be (by omega)];exact this
theorem TO.map{α β:Type}{c:β->β->Int}(h:TO c)(f:α->β)(hf: ∀x y,f x=f y->x=y):TO fun x y=>c (f x) (f y) where
 eq:=fun x y=>(h.eq _ _).trans ⟨hf x y,fun e=>by rw[e]⟩
 neg:=fun x y=>h.neg _ _
 tr:=fun x y z=>h.tr _ _ _
def cmpL{α:Type}(c:α->α->Int):List α->List α->Int
 | [],[]=>0
 | [],_::_=> -1
 |_::_,[]=>1
 |x::a,y::b=>qN (c x y) (cmpL c a b)
theorem TO.list{α:Type}{c:α->α->Int}(h:TO c):TO (cmpL c) where
 eq:=by
  intro x
  induction x with
  |nil=>intro y;cases y<;>simp[cmpL]
  |cons x a ih=>
   intro y;cases y with
   |nil=>simp[cmpL]
   |cons y b=>
    simp only[cmpL,qN,RH];constructor
    .intro e;split at e
     .rename_i q;exact⟨(h.eq _ _).1 q,(ih b).1 e⟩
     .rename_i q;exact absurd e q
    .rintro⟨rfl,rfl⟩;rw[am (h.refl _)];exact(ih a).2 Z
 neg:=by
  intro x
  induction x with
  |nil=>intro y;cases y<;>simp[cmpL]
  |cons x a ih=>
   intro y;cases y with
   |nil=>simp[cmpL]
   |cons y b=>exact zu (h.neg _ _) (h.neg _ _) (ih b)
 tr:=by
  intro x
  induction x with
  |nil=>
   intro y z a b;cases y with
   |nil=>simp[cmpL]at a
   |cons y y'=>cases z with
    |nil=>simp[cmpL]at b
    |cons z z'=>simp[cmpL]
  |cons x x' ih=>
   intro y z a b;cases y with
   |nil=>simp[cmpL]at a
   |cons y y'=>cases z with
    |nil=>simp[cmpL]at b
    |cons z z'=>
     simp only[cmpL,qN] at*
     by_cases u:c x y=0
     .rw[am u]at a;rw[(h.eq _ _).1 u];by_cases j:c y z=0
      .rw[am j]at b ⊢;exact ih _ _ a b
      .rw[be j]at b ⊢;exact b
     .rw[be u]at a;by_cases j:c y z=0
      .rw[<-(h.eq _ _).1 j,be u];exact a
      .rw[be j]at b;have:=h.tr _ _ _ a b;rw[be (by omega)];exact this
def jH(a b:Int):Int:=if a<b then-1 else if b<a then 1 else 0
theorem TO.int:TO jH where
 eq:=fun x y=>by unfold jH;split<;>(try split)<;>omega
 neg:=fun x y=>by unfold jH;split<;>(try split)<;>(try split)<;>(try split)<;>omega
 tr:=fun x y z=>by unfold jH;split<;>(try split)<;>(try split)<;>(try split)<;>(try split)<;>omega
section
variable {α:Type} (c:α->α->Int)
def uY(l:List α):Prop:=l.Pairwise fun x y=>c x y<0
def ins(x:α):List α->List α
 | []=> [x]
 |y::r=>if c x y<0 then x::y::r else if c y x<0 then y::ins x r else y::r
def pR(l:List α):List α:=l.foldr (ins c) []
theorem uY.filter{c:α->α->Int}{l:List α}(hs:uY c l)(p:α->Bool):uY c (l.filter p):=QG p hs
variable {c} (h:TO c)
include h
theorem kD{x y:α}: ∀{l:List α},y∈ins c x l↔y=x∨y∈l
 | []=>by simp[ins]
 |z::r=>by
  unfold ins;split
  .simp
  .split
   .simp only[OP,kD (l:=r)];constructor
    .rintro(a|a|a)<;>simp[a]
    .rintro(a|a|a)<;>simp[a]
   .rename_i a b;have:=h.Mb a b;subst this;simp
theorem zf{x:α}: ∀{l:List α},uY c l->uY c (ins c x l)
 | [],_=>by simp[ins,uY]
 |z::r,hs=>by
  have j:=PG.1 hs;unfold ins;split
  .rename_i a;refine PG.2 ⟨fun y hy=>?_,hs⟩;rcases OP.1 hy with rfl|hy
   .exact a
   .exact h.tr _ _ _ a (j.1 y hy)
  .split
   .rename_i a b;refine PG.2 ⟨fun y hy=>?_,zf j.2⟩;rcases(kD h).1 hy with rfl|hy
    .exact b
    .exact j.1 y hy
   .exact hs
theorem pg{y:α}: ∀{l:List α},y∈pR c l↔y∈l
 | []=>by simp[pR]
 |x::l=>by
  show y∈ins c x (pR c l)↔_;rw[kD h,pg,OP]
theorem oV: ∀(l:List α),uY c (pR c l)
 | []=>Ri
 |x::l=>zf h (oV l)
theorem uY.nodup{l:List α}(hs:uY c l):l.Nodup:=Rz (fun a e=>by subst e;exact h.MM _ a) hs
end
end
end Go.Bo
namespace Go.Proofs.YtllkaddcplhklaaGreatDoor
open Go Go.Al Go.Bo
deriving instance DecidableEq for Fact
def Mc(s:ak):List Int:=s.data.toList.map fun b=>(b.toNat:Int)
theorem FZ{a b:ak}(h:Mc a=Mc b):a=b:=by
 have:a.data.toList=b.data.toList:=List.map_inj_right (fun x y e=>UInt8.toNat_inj.1 (Int.ofNat.inj e))|>.1 h;cases a;cases b;simp only[ByteArray.mk.injEq];exact RC.1 this
def nJ(a b:ak):Int:=cmpL jH (Mc a) (Mc b)
def vU(a b:dM):Int:=qN (jH a.kind b.kind) (qN (jH a.num b.num) (nJ a.sym b.sym))
def qJ(a b:List dM):Int:=cmpL vU a b
def bq(a b:Fact):Int:=qN (nJ a.rel b.rel) (qJ a.args b.args)
theorem No:TO nJ:=TO.int.list.map Mc fun _ _=>FZ
theorem toV:TO vU:=(TO.int.pair (TO.int.pair No)).map (fun v:dM=>(v.kind,v.num,v.sym)) fun x y e=>by
 cases x;cases y;simp only[OK]at e;obtain⟨rfl,rfl,rfl⟩:=e;rfl
theorem qK:TO bq:=(No.pair toV.list).map (fun f:Fact=>(f.rel,f.args)) fun x y e=>by
 cases x;cases y;simp only[OK]at e;obtain⟨rfl,rfl⟩:=e;rfl
def Jh:Nat->FS
 |0=> []
 |n+1=>co .i64::co .i64::io::Jh n
abbrev fp:FS:=io::co .i64::Jh 8
def vZ:(n:Nat)->List dM->FK (Jh n)
 |0,_=>()
 |n+1,[]=>(0,0,OI,vZ n [])
 |n+1,v::r=>(v.kind,v.num,v.sym,vZ n r)
def bG(f:Fact):FK fp:=(f.rel,(f.args.length:Int),vZ 8 f.args)
theorem xX: ∀(n:Nat) (a b:List dM),a.length=b.length->a.length<=n->vZ n a=vZ n b->a=b
 |_,[],[],_,_,_=>rfl
 |_,[],_::_,h,_,_=>by simp at h
 |_,_::_,[],h,_,_=>by simp at h
 |0,_::_,_::_,_,h,_=>by simp at h
 |n+1,v::a,u::b,h,g,e=>by
  have j:(v.kind,v.num,v.sym,vZ n a)=(u.kind,u.num,u.sym,vZ n b):=e;rw[OK,OK,OK]at j;obtain⟨x,y,A,B⟩:=j;rw[xX n a b (by simpa using h) (by simpa using g) B];cases v;cases u;simp only at x y A;subst x y A;rfl
theorem oA{f g:Fact}(hf:f.args.length<=8)(e:bG f=bG g):f=g:=by
 have b:(f.rel,(f.args.length:Int),vZ 8 f.args)=(g.rel,(g.args.length:Int),vZ 8 g.args):=e;rw[OK,OK]at b;obtain⟨j,x,u⟩:=b;have:=xX 8 f.args g.args (by omega) hf u;cases f;cases g;simp only at j this;subst j this;rfl
end Go.Proofs.YtllkaddcplhklaaGreatDoor
namespace Go.Bo
section
abbrev bY(F:Type):=Bool×F
def sZ{F:Type}(c:F->F->Int)(l:List (bY F)):Prop:=l.Pairwise fun x y=>c x.2 y.2<0
theorem F4{F:Type}{c:F->F->Int}{l:List F}(hl:uY c l)(g:F->Option (bY F))(hg: ∀f x,g f=co x->x.2=f):sZ c (l.filterMap g):=by
 refine List.Pairwise.filterMap g (fun x y a u hu v b=>?_) hl;rw[hg _ _ hu,hg _ _ b];exact a
theorem sZ.facts{F:Type}{c:F->F->Int}{l:List (bY F)}(hl:sZ c l):uY c (l.map (·.2)):=List.pairwise_map.2 hl
theorem tP{F:Type}{c:F->F->Int}: ∀(l:List F),(pR c l).length<=l.length
 | []=>OL _
 |x::l=>by
  have key: ∀(m:List F),(ins c x m).length<=m.length+1:=by
   intro m
   induction m with
   |nil=>exact OL _
   |cons y r ih=>
    unfold ins;split
    .exact OL _
    .split
     .exact R3 ih
     .exact Qv _
  exact Pp (key _) (R3 (tP l))
section
variable {F:Type} [DecidableEq F] (c:F->F->Int)
def dZ(l:List (bY F))(f:F):Option Bool:=(l.reverse.find? fun x=>kw (x.2=f)).map (·.1)
def c7(S:List F)(l:List (bY F)):List (bY F):=
 (pR c (l.map (·.2))).filterMap fun f=>(dZ l f).bind fun a=>if kw (f∈S)=a then io else co (a,f)
def jn(S:List F)(l:List (bY F)):List F:=(pR c (S++l.map (·.2))).filter fun f=>(dZ l f).getD is
variable {c}
theorem yA{l:List (bY F)}{f:F}:dZ l f=io↔f∉l.map (·.2):=by
 unfold dZ;rw[QO,Qw];simp only[R4,decide_eq_true_eq,Pg,not_exists,not_and]
theorem j3{l:List (bY F)}{f:F}{a:Bool}(e:dZ l f=co a):(a,f)∈l:=by
 unfold dZ at e;rw[OJ]at e;obtain⟨x,h1,rfl⟩:=e;have b:=List.find?_some h1;have j:=List.mem_of_find?_eq_some h1;rw[decide_eq_true_eq]at b;rw[<-b];exact R4.1 j
theorem gK(h:TO c){S:List F}{l:List (bY F)}{a:Bool}{f:F}:(a,f)∈c7 c S l↔dZ l f=co a∧kw (f∈S)≠a:=by
 unfold c7;rw[List.mem_filterMap];constructor
 .rintro⟨g,_,e⟩;cases e1:dZ l g with
  |none=>rw[e1]at e;cases e
  |some b=>
   rw[e1,QK]at e;split at e
   .cases e
   .rename_i q;cases e;exact⟨e1,q⟩
 .rintro⟨e1,e2⟩;refine⟨f,(pg h).2 (Pg.2 ⟨_,j3 e1,rfl⟩),?_⟩;rw[e1,QK,be e2]
theorem xr(h:TO c){S:List F}{l:List (bY F)}{f:F}:f∈jn c S l↔(dZ l f=co is∨dZ l f=io∧f∈S):=by
 unfold jn;rw[Pa,pg h,OW];cases e:dZ l f with
 |none=>have:=yA.1 e;simp[this]
 |some a=>
  have:f∈l.map (·.2):=Pg.2 ⟨_,j3 e,rfl⟩;cases a<;>simp[this]
theorem wF(h:TO c)(S:List F)(l:List (bY F)):uY c (jn c S l):=(oV h _).filter _
theorem mh(h:TO c)(S:List F)(l:List (bY F)):sZ c (c7 c S l):=F4 (oV h _) _ fun f x e=>by
 cases e1:dZ l f with
 |none=>rw[e1]at e;cases e
 |some b=>
  rw[e1,QK]at e;split at e
  .cases e
  .cases e;rfl
theorem Cg(S:List F)(l:List (bY F)):(c7 c S l).length<=l.length:=by
 have:=List.length_filterMap_le (fun f=>(dZ l f).bind fun a=>if kw (f∈S)=a then io else co (a,f)) (pR c (l.map (·.2)));have b:=tP (c:=c) (l.map (·.2));rw[O7]at b;exact Pp this b
theorem Dh(h:TO c){S:List F}(hS:uY c S)(l:List (bY F)):
  (jn c S l).length+((c7 c S l).filter fun x=>!x.1).length=S.length+((c7 c S l).filter fun x=>x.1).length:=by
 have hT:=mh h S l;have B: ∀q:bY F->Bool,(((c7 c S l).filter q).map (·.2)).Nodup:=fun q=>
  (sZ.facts (QG q hT)).nodup h
 have A:(S.filter fun f=>kw ((jp,f)∉c7 c S l)).Nodup:=(hS.filter _).nodup h;have j: ∀(b:Bool) (f:F),f∈((c7 c S l).filter fun x=>x.1==b).map (·.2)↔(b,f)∈c7 c S l:=fun b f=>by
  rw[Pg];constructor
  .rintro⟨x,hx,rfl⟩;rw[Pa,beq_iff_eq]at hx;rw[<-hx.2];exact hx.1
  .intro m;exact⟨_,Pa.2 ⟨m,beq_self_eq_true b⟩,rfl⟩
 have G:(jn c S l).Perm ((S.filter fun f=>kw ((jp,f)∉c7 c S l))++((c7 c S l).filter fun x=>x.1==is).map (·.2)):=by
  refine(P2 ((wF h S l).nodup h) ?_).2 fun f=>?_
  .refine PZ.2 ⟨A,B _,fun f u g y e=>?_⟩;subst e;rw[Pa]at u;have:=(gK h).1 ((j is f).1 y);exact this.2 (decide_eq_true u.1)
  .rw[OW,Pa,j,decide_eq_true_eq,gK h,gK h,xr h];by_cases m:f∈S<;>cases e:dZ l f with
   |none=>simp[m]
   |some b=>cases b<;>simp[m]
 have I:S.Perm ((S.filter fun f=>kw ((jp,f)∉c7 c S l))++((c7 c S l).filter fun x=>x.1==jp).map (·.2)):=by
  refine(P2 (hS.nodup h) ?_).2 fun f=>?_
  .refine PZ.2 ⟨A,B _,fun f u g y e=>?_⟩;subst e;rw[Pa,decide_eq_true_eq]at u;exact u.2 ((j jp f).1 y)
  .rw[OW,Pa,j,decide_eq_true_eq,gK h];by_cases m:f∈S<;>cases e:dZ l f with
   |none=>simp[m]
   |some b=>cases b<;>simp[m]
 have C:=G.length_eq;have D:=I.length_eq;rw[OE,O7]at C D;have c1:((c7 c S l).filter fun x=>x.1==is)=(c7 c S l).filter fun x=>x.1:=Qq fun x _=>by cases x.1<;>rfl
 have c2:((c7 c S l).filter fun x=>x.1==jp)=(c7 c S l).filter fun x=>!x.1:=Qq fun x _=>by cases x.1<;>rfl
 rw[c1]at C;rw[c2]at D;omega
end
section
variable {F:Type} (c:F->F->Int)
def cX:List F->List F->List (bY F)
 | [],b=>b.map fun f=>(is,f)
 |a,[]=>a.map fun f=>(jp,f)
 |x::a,y::b=>if c x y<0 then(jp,x)::cX a (y::b) else if 0<c x y then(is,y)::cX (x::a) b else cX a b
 termination_by a b=>a.length+b.length
variable {c}
theorem kC(b:List F):cX c [] b=b.map fun f=>(is,f):=by unfold cX;rfl
theorem p7(a:List F):cX c a []=a.map fun f=>(jp,f):=by
 cases a with
 |nil=>unfold cX;rfl
 |cons=>unfold cX;rfl
theorem p8(x y:F)(a b:List F):cX c (x::a) (y::b)=if c x y<0 then(jp,x)::cX c a (y::b) else if 0<c x y then(is,y)::cX c (x::a) b else cX c a b:=by
 rw[cX]
structure jJ (c:F->F->Int) (ok:F->Bool) (S:List F):Prop where
 F5:uY c S
 ok: ∀f∈S,ok f=is
 few:S.length<=65536
theorem jJ.nil(c:F->F->Int)(ok:F->Bool):jJ c ok []:=⟨Ri,fun _ m=>(nomatch m),OS _⟩
variable [DecidableEq F]
def kB(c:F->F->Int)(ok:F->Bool)(S:List F)(l:List (bY F)):Int:=
 if 4096<l.length then 2 else if(l.all fun x=>ok x.2)=jp then 5 else if 65536<(jn c S l).length then 3 else 0
abbrev Stt(F:Type):=List F×Nat
def ql(c:F->F->Int)(ok:F->Bool)(s:Stt F)(l:List (bY F)):Stt F:=if kB c ok s.1 l=0 then(jn c s.1 l,s.2+1) else s
theorem um{ok:F->Bool}{S:List F}{l:List (bY F)}:kB c ok S l=0↔l.length<=4096∧(∀x∈l,ok x.2=is)∧(jn c S l).length<=65536:=by
 unfold kB;split
 .exact⟨fun e=>by simp at e,fun e=>by omega⟩
 .split
  .rename_i q r;refine⟨fun e=>by simp at e,fun e=>?_⟩;rw[Pj.2 e.2.1]at r;cases r
  .split
   .exact⟨fun e=>by simp at e,fun e=>by omega⟩
   .rename_i q r t;refine⟨fun _=>⟨by omega,?_,by omega⟩,fun _=>rfl⟩;rw[RZ]at r;exact Pj.1 r
end
section
variable {F:Type} [DecidableEq F]
def jf:List (bY F)->bY F->List (bY F)
 | [],c=> [c]
 |x::r,c=>if x.2=c.2 then c::r else x::jf r c
def lj(l:List (bY F)):List (bY F):=l.foldl jf []
theorem xp{a:Bool}{f:F}: ∀{T:List (bY F)} {c:bY F},(T.map (·.2)).Nodup->((a,f)∈jf T c↔(a,f)=c∨(f≠c.2∧(a,f)∈T))
 | [],c,_=>by simp[jf]
 |x::r,c,hn=>by
  rw[OZ,Pf]at hn;unfold jf;split
  .rename_i e;rw[OP,OP];constructor
   .rintro(q|q)
    .exact .inl q
    .refine .inr ⟨fun b=>hn.1 (Pg.2 ⟨_,q,?_⟩),.inr q⟩;show f=x.2;rw[b,e]
   .rintro(q|⟨q,r1|r1⟩)
    .exact .inl q
    .exact absurd (by rw[<-e,<-r1]) q
    .exact .inr r1
  .rename_i e;rw[OP,OP,xp hn.2];constructor
   .rintro(q|q|⟨q,r1⟩)
    .exact .inr ⟨fun b=>e (by rw[<-q];exact b),.inl q⟩
    .exact .inl q
    .exact .inr ⟨q,.inr r1⟩
   .rintro(q|⟨q,r1|r1⟩)
    .exact .inr (.inl q)
    .exact .inl r1
    .exact .inr (.inr ⟨q,r1⟩)
theorem sE{f:F}: ∀{T:List (bY F)} {c:bY F},f∈(jf T c).map (·.2)↔f=c.2∨f∈T.map (·.2)
 | [],c=>by simp[jf]
 |x::r,c=>by
  unfold jf;split
  .rename_i e;simp only[OZ,OP];rw[e];constructor
   .rintro(q|q)
    .exact .inl q
    .exact .inr (.inr q)
   .rintro(q|q|q)
    .exact .inl q
    .exact .inl q
    .exact .inr q
  .simp only[OZ,OP,sE (T:=r)];constructor
   .rintro(q|q|q)
    .exact .inr (.inl q)
    .exact .inl q
    .exact .inr (.inr q)
   .rintro(q|q|q)
    .exact .inr (.inl q)
    .exact .inl q
    .exact .inr (.inr q)
theorem rS: ∀{T:List (bY F)} {c:bY F},(T.map (·.2)).Nodup->((jf T c).map (·.2)).Nodup
 | [],c,_=>by simp[jf]
 |x::r,c,hn=>by
  rw[OZ,Pf]at hn;unfold jf;split
  .rename_i e;rw[OZ,Pf,<-e];exact hn
  .rename_i e;rw[OZ,Pf,sE];exact⟨fun q=>q.elim e hn.1,rS hn.2⟩
theorem yz(l:List (bY F))(c:bY F)(f:F):dZ (l++ [c]) f=if c.2=f then co c.1 else dZ l f:=by
 unfold dZ;rw[List.reverse_append,List.reverse_singleton,RK,RI];by_cases e:c.2=f
 .rw[am e,decide_eq_true e];rfl
 .rw[be e,decide_eq_false e]
theorem nM(l:List (bY F)):((lj l).map (·.2)).Nodup∧ ∀(a:Bool) (f:F),(a,f)∈lj l↔dZ l f=co a:=by
 suffices key: ∀(m k:List (bY F)) (T:List (bY F)),(T.map (·.2)).Nodup->(∀(a:Bool) (f:F),(a,f)∈T↔dZ k f=co a)->
   ((m.foldl jf T).map (·.2)).Nodup∧ ∀(a:Bool) (f:F),(a,f)∈m.foldl jf T↔dZ (k++m) f=co a by
  have:=key l [] [] Pk fun a f=>by simp[dZ]
  exact this
 intro m
 induction m with
 |nil=>intro k T h1 b;rw[Pw];exact⟨h1,b⟩
 |cons c m ih=>
  intro k T h1 b;have:=ih (k++ [c]) (jf T c) (rS h1) fun a f=>by
   rw[xp h1,yz,b];by_cases e:c.2=f
   .rw[am e];constructor
    .rintro(q|⟨q,_⟩)
     .rw[<-q]
     .exact absurd e.symm q
    .intro q;left;have:=Pl q;rw[<-this,<-e]
   .rw[be e];constructor
    .rintro(q|⟨_,q⟩)
     .exact absurd (by rw[<-q]) e
     .exact q
    .intro q;exact .inr ⟨fun g=>e g.symm,q⟩
  rw[O0,RK]at this;exact this
theorem kK{c:F->F->Int}(h:TO c)(S:List F)(l:List (bY F)):((lj l).filter fun x=>!(kw (x.2∈S)==x.1)).Perm (c7 c S l):=by
 obtain⟨h1,j⟩:=nM l;have b: ∀{t:List (bY F)},(t.map (·.2)).Nodup->t.Nodup:=fun{t} q=>by
  have:=List.pairwise_map.1 q;exact this.imp fun a e=>a (by rw[e])
 refine(P2 (QG _ (b h1)) (b ((sZ.facts (mh h S l)).nodup h))).2 fun x=>?_;obtain⟨a,f⟩:=x;rw[Pa,j,gK h];simp
theorem Bc{kc:Go.Al.KC}{key:F->kc.K}(T:List (bY F))(c:bY F)(b: ∀x∈T,key x.2=key c.2->x.2=c.2):
  Go.Al.cq kc (T.map fun x=>(key x.2,x)) (key c.2) c=(jf T c).map fun x=>(key x.2,x):=by
 induction T with
 |nil=>rfl
 |cons x r ih=>
  simp only[OZ,Go.Al.cq,jf];by_cases e:key x.2=key c.2
  .rw[am e,am (b x (OO ..) e),OZ]
  .rw[be e,be (fun q=>e (by rw[q])),OZ,ih fun u hu=>b u (ON _ hu)]
end
end
end Go.Bo
namespace Go.Proofs.YtllkaddcplhklaaGreatDoor
open Go Go.Al Go.Proofs.Tryz Go.Bo
theorem uN: ∀a b:List UInt8,Lib.compareBytes a b=cmpL jH (a.map fun x=>(x.toNat:Int)) (b.map fun x=>(x.toNat:Int))
 | [],[]=>rfl
 | [],_::_=>rfl
 |_::_,[]=>rfl
 |x::a,y::b=>by
  simp only[Lib.compareBytes,OZ,cmpL,uN a b];have h1:(x<y)↔((x.toNat:Int)<(y.toNat:Int)):=by rw[UInt8.lt_iff_toNat_lt];omega
  have j:(y<x)↔((y.toNat:Int)<(x.toNat:Int)):=by rw[UInt8.lt_iff_toNat_lt];omega
  simp only[qN,jH,h1,j];split
  .simp
  .split
   .simp
   .simp
theorem tx(a b:ak)(w:World):(callFunc 114 #[.string a,.string b]).run prog w= .ok (.value (.int .i64 (nJ a b))) w:=by
 rw[run_callFunc_extern func114 (by kernel_rfl) (by kernel_rfl) (by kernel_rfl) (e:=Extern.BytealgCompare.compare) (by kernel_rfl),Lib.run_compareString,uN];rfl
theorem CF(a b:ak):Pure prog 79 [pS a,pS b] (pI (nJ a b)):=by
 refine ae ab func79 Z (by decide) ntmps79 Z (by simp) Z ?_;refine gA Z (Hb (.int .i64 (nJ a b)) Z Z Z Z (tx a b) Z ?_);refine gA Z (aH (by first|exact .inr Z|exact .inl Z) Z (.of_eq ?_));rfl
theorem zm(a b:ak):Pure prog 60 [pS a,pS b] (pI (nJ a b)):=by
 refine ae ab func60 Z (by decide) ntmps60 Z (by simp) Z ?_;refine gA Z (aA (CF a b) Z Z Z Z Z Z ?_);refine gA Z (aH (by first|exact .inr Z|exact .inl Z) Z (.of_eq ?_));rfl
theorem Mn(n:Int):Pure prog 151 [pI n] (pB jp):=by
 refine ae ab func151 Z (by decide) ntmps151 Z (by simp) Z ?_;refine gA Z (aH (by first|exact .inr Z|exact .inl Z) Z (.of_eq ?_));show pB (!kw (n=n))=pB jp;simp
theorem IT(a b:Int):Pure prog 115 [pI a,pI b] (pI (jH a b)):=by
 refine ae ab func115 Z (by decide) ntmps115 Z (by simp) Z ?_;refine gA Z (aA (Mn a) Z Z Z Z Z Z ?_);refine gA Z (aA (Mn b) Z Z Z Z Z Z ?_);refine gA Z ?_;refine OF (fun x=>?_) (fun x=>?_)
 .exact absurd x (by decide)
 refine gA Z ?_;refine OF (fun y=>?_) (fun y=>?_)
 .exact absurd y (by decide)
 refine gA Z ?_;refine OF (fun j=>?_) (fun j=>?_)
 .have j:a<b:=by simpa using j
  refine gA Z (aH (by first|exact .inr Z|exact .inl Z) Z (.of_eq ?_));rw[jH,am j];rfl
 have j: ¬a<b:=by simpa using j
 refine gA Z ?_;refine OF (fun u=>?_) (fun u=>?_)
 .have u:b<a:=by simpa using u
  refine gA Z (aH (by first|exact .inr Z|exact .inl Z) Z (.of_eq ?_));rw[jH,be j,am u];rfl
 .have u: ¬b<a:=by simpa using u
  refine gA Z (aH (by first|exact .inr Z|exact .inl Z) Z (.of_eq ?_));rw[jH,be j,be u];rfl
def BZ:List Int->Int
 | []=>0
 |x::r=>qN x (BZ r)
theorem xj{l:List Int}{i:Nat}(h: ∀x∈l.take i,x=0):BZ l=BZ (l.drop i):=by
 induction i generalizing l with
 |zero=>rfl
 |succ i ih=>
  cases l with
  |nil=>rfl
  |cons x r=>
   have b:x=0:=h x (by simp);rw[BZ,b,qN,am Z,List.drop_succ_cons];exact ih fun y j=>h y (by simp[j])
theorem sOr(l:List Int)(hl:l.length<=100):bI prog 59 [.sl 0 0 l.length 1] [aT 1 l j5] (pI (BZ l)) [] 1:=by
 refine ax ab func59 Z (by decide) ntmps59 Z (by simp) ?_;refine vL 0 (fun k=>j5 (l.getD k ci)) Z (gz Z) (show AF.qO 0 1 (l.map fun x=>(j5 x).map PV.iv).length [(0,.sl 0 0 l.length 1)] from⟨by simp[PV.dC],ac⟩) ⟨GD _ _ _ _ _ _,ac⟩ ?_;refine gA Z ?_;refine aM 0 l.length (OS _) (fun i=>⟨[(3,pI 0),(6,.iv (bV 1 l j5)),(7,pI l.length),(8,pI i)],[],1⟩) (fun i=> ∀x∈l.take i,x=0) [] (by simp)
  (wk Z Z Z (bi ⟨.cp Z (fun k _=>by rw[O8]),rfl,bi (bi trivial)⟩) trivial Z) fun i y j=>?_
 refine gA Z ?_;refine OF (fun h1=>?_) (fun h1=>?_)
 .have h1:i<l.length:=by simpa using h1
  have hd:l.drop i=l.getD i ci::l.drop (i+1):=by
   rw[OC,OD h1,PA,Qy h1]
  refine gA Z ?_;refine OF (fun b=>?_) (fun b=>?_)
  .have b: ¬l.getD i ci=0:=by simpa using b
   have:BZ l=l.getD i ci:=by rw[xj j,hd,BZ,qN,be b]
   rw[this];refine gA Z (bj [] (by first|exact .inr Z|exact .inl Z) Z (wk Z Z Z (bi ac) ac Z))
  .have b:l.getD i ci=0:=by simpa using b
   refine gA Z ?_;refine⟨h1,fun x u=>?_,[],wk Z Z Z (bi (bi (bi (bi ac)))) ac Z⟩;rw[cd h1,OW,OM]at u;exact u.elim (j x) fun e=>e.trans b
 .have h1:l.length<=i:=by simpa using h1
  have:BZ l=0:=by rw[xj j,QQ h1];rfl
  rw[this];refine gA Z (bj [] (by first|exact .inr Z|exact .inl Z) Z (wk Z Z Z (bi ac) ac Z))
theorem Mr(a b:dM):Pure prog 81 [ag a.c,ag b.c] (pI (vU a b)):=by
 have e:vU a b=BZ [jH a.kind b.kind,jH a.num b.num,nJ a.sym b.sym]:=by
  simp only[vU,BZ];have:qN (nJ a.sym b.sym) 0=nJ a.sym b.sym:=by unfold qN;split<;>simp_all
  rw[this]
 rw[e];refine ae ab func81 Z (by decide) ntmps81 Z (by simp) Z ?_;refine gA Z (bD ab [] (Pure.q9 (IT a.kind b.kind)) Z Z Z Z Z Z Z Z Z Z Z Z (by(repeat' (first|exact ac|exact rfl|exact an.refl _|exact an.bk (by assumption)|apply OF))<;>first|omega|(simp only[OG];omega)|(simp;done)|(simp;omega)) Z (by(repeat' (first|exact ac|exact rfl|exact an.refl _|exact an.bk (by assumption)|apply OF))<;>first|omega|(simp only[OG];omega)|(simp;done)|(simp;omega)) ?_);refine gA Z (bD ab [] (Pure.q9 (IT a.num b.num)) Z Z Z Z Z Z Z Z Z Z Z Z (by(repeat' (first|exact ac|exact rfl|exact an.refl _|exact an.bk (by assumption)|apply OF))<;>first|omega|(simp only[OG];omega)|(simp;done)|(simp;omega)) Z (by(repeat' (first|exact ac|exact rfl|exact an.refl _|exact an.bk (by assumption)|apply OF))<;>first|omega|(simp only[OG];omega)|(simp;done)|(simp;omega)) ?_);refine gA Z (bD ab [] (Pure.q9 (zm a.sym b.sym)) Z Z Z Z Z Z Z Z Z Z Z Z (by(repeat' (first|exact ac|exact rfl|exact an.refl _|exact an.bk (by assumption)|apply OF))<;>first|omega|(simp only[OG];omega)|(simp;done)|(simp;omega)) Z (by(repeat' (first|exact ac|exact rfl|exact an.refl _|exact an.bk (by assumption)|apply OF))<;>first|omega|(simp only[OG];omega)|(simp;done)|(simp;omega)) ?_);refine gA Z (bD ab [2] (sOr [jH a.kind b.kind,jH a.num b.num,nJ a.sym b.sym] (by simp)) Z Z Z Z Z Z Z Z Z Z Z Z (by(repeat' (first|exact ac|exact rfl|exact an.refl _|exact an.bk (by assumption)|apply OF))<;>first|omega|(simp only[OG];omega)|(simp;done)|(simp;omega)) Z (by(repeat' (first|exact ac|exact rfl|exact an.refl _|exact an.bk (by assumption)|apply OF))<;>first|omega|(simp only[OG];omega)|(simp;done)|(simp;omega)) ?_);refine gA Z (aH (by first|exact .inr Z|exact .inl Z) Z (.of_eq ?_));rfl
theorem Kj(a b:List dM)(ha:a.length<=1000000000)(hb:b.length<=1000000000):Pure prog 80 [.iv (bV 3 a dM.c),.iv (bV 3 b dM.c),.bX (.func 81) [] []] (pI (qJ a b)):=by
 refine ae ab func80 Z (by decide) ntmps80 Z (by simp) Z ?_;refine gA Z ?_;refine aM 0 a.length (OS _) (fun i=>⟨[(0,.iv (bV 3 a dM.c)),(1,.iv (bV 3 b dM.c)),(2,.bX (.func 81) [] []),(11,.iv (bV 3 a dM.c)),(12,pI a.length),(13,pI i)],[],0⟩) (fun i=>i<=b.length∧qJ a b=qJ (a.drop i) (b.drop i)) [] ⟨OS _,rfl⟩
  (wk Z Z Z (bi (bi (bi (bi (bi (bi trivial)))))) trivial Z) fun i C x=>?_
 obtain⟨B,x⟩:=x;refine gA Z ?_;refine OF (fun h1=>?_) (fun h1=>?_)
 .have h1:i<a.length:=by simpa using h1
  have hd:a.drop i=a.getD i ci::a.drop (i+1):=by
   rw[OC,OD h1,PA,Qy h1]
  refine gA Z ?_;refine OF (fun j=>?_) (fun j=>?_)
  .have j:b.length<=i:=by simpa using j
   rw[x,hd,QQ j];refine gA Z (aH (by first|exact .inr Z|exact .inl Z) Z (.of_eq ?_));rfl
  .have j:i<b.length:=by simpa using j
   have A:b.drop i=b.getD i ci::b.drop (i+1):=by
    rw[OC,OD j,PA,Qy j]
   have hs:qJ a b=qN (vU (a.getD i ci) (b.getD i ci)) (qJ (a.drop (i+1)) (b.drop (i+1))):=by rw[x,hd,A];rfl
   refine gA Z (aA (Mr (a.getD i ci) (b.getD i ci)) Z Z Z Z Z Z ?_);refine gA Z ?_;refine OF (fun u=>?_) (fun u=>?_)
   .have u: ¬vU (a.getD i ci) (b.getD i ci)=0:=by simpa using u
    rw[hs,qN,be u];refine gA Z (aH (by first|exact .inr Z|exact .inl Z) Z (.of_eq ?_));rfl
   .have u:vU (a.getD i ci) (b.getD i ci)=0:=by simpa using u
    refine gA Z ⟨h1,⟨j,by rw[hs,u,qN,am Z]⟩,[],wk Z Z Z (bi (bi (bi (bi (bi (bi ac)))))) ac Z⟩
 .have h1:a.length<=i:=by simpa using h1
  have y:i=a.length:=by omega
  subst y;rw[x,QQ (OL a.length)];refine gA Z ?_;refine OF (fun j=>?_) (fun j=>?_)
  .have j:a.length<b.length:=by simpa using j
   rw[Qy j];refine gA Z (aH (by first|exact .inr Z|exact .inl Z) Z (.of_eq ?_));rfl
  .have j:b.length<=a.length:=by simpa using j
   rw[QQ j];refine gA Z (aH (by first|exact .inr Z|exact .inl Z) Z (.of_eq ?_));rfl
theorem Ms(a b:List dM)(ha:a.length<=1000000000)(hb:b.length<=1000000000):Pure prog 61 [.iv (bV 3 a dM.c),.iv (bV 3 b dM.c)] (pI (qJ a b)):=by
 refine ae ab func61 Z (by decide) ntmps61 Z (by simp) Z ?_;refine gA Z (aA (Kj a b ha hb) Z Z Z Z Z Z ?_);refine gA Z (aH (by first|exact .inr Z|exact .inl Z) Z (.of_eq ?_));rfl
theorem pU(a b:Fact)(ha:a.args.length<=1000000000)(hb:b.args.length<=1000000000):Pure prog 34 [ag a.c,ag b.c] (pI (bq a b)):=by
 have e:bq a b=BZ [nJ a.rel b.rel,qJ a.args b.args]:=by
  simp only[bq,BZ];have:qN (qJ a.args b.args) 0=qJ a.args b.args:=by unfold qN;split<;>simp_all
  rw[this]
 rw[e];refine ae ab func34 Z (by decide) ntmps34 Z (by simp) Z ?_;refine gA Z (bD ab [] (Pure.q9 (zm a.rel b.rel)) Z Z Z Z Z Z Z Z Z Z Z Z (by(repeat' (first|exact ac|exact rfl|exact an.refl _|exact an.bk (by assumption)|apply OF))<;>first|omega|(simp only[OG];omega)|(simp;done)|(simp;omega)) Z (by(repeat' (first|exact ac|exact rfl|exact an.refl _|exact an.bk (by assumption)|apply OF))<;>first|omega|(simp only[OG];omega)|(simp;done)|(simp;omega)) ?_);refine gA Z (bD ab [] (Pure.q9 (Ms a.args b.args ha hb)) Z Z Z Z Z Z Z Z Z Z Z Z (by(repeat' (first|exact ac|exact rfl|exact an.refl _|exact an.bk (by assumption)|apply OF))<;>first|omega|(simp only[OG];omega)|(simp;done)|(simp;omega)) Z (by(repeat' (first|exact ac|exact rfl|exact an.refl _|exact an.bk (by assumption)|apply OF))<;>first|omega|(simp only[OG];omega)|(simp;done)|(simp;omega)) ?_);refine gA Z (bD ab [2] (sOr [nJ a.rel b.rel,qJ a.args b.args] (by simp)) Z Z Z Z Z Z Z Z Z Z Z Z (by(repeat' (first|exact ac|exact rfl|exact an.refl _|exact an.bk (by assumption)|apply OF))<;>first|omega|(simp only[OG];omega)|(simp;done)|(simp;omega)) Z (by(repeat' (first|exact ac|exact rfl|exact an.refl _|exact an.bk (by assumption)|apply OF))<;>first|omega|(simp only[OG];omega)|(simp;done)|(simp;omega)) ?_);refine gA Z (aH (by first|exact .inr Z|exact .inl Z) Z (.of_eq ?_));rfl
def ef(x:bY Fact):List IV:= .v (.bool x.1)::x.2.c
theorem Gl(a b:bY Fact)(ha:a.2.args.length<=1000000000)(hb:b.2.args.length<=1000000000):Pure prog 51 [ag (ef a),ag (ef b)] (pI (bq a.2 b.2)):=by
 refine ae ab func51 Z (by decide) ntmps51 Z (by simp) Z ?_;refine gA Z (aA (pU a.2 b.2 ha hb) Z Z Z Z Z Z ?_);refine gA Z (aH (by first|exact .inr Z|exact .inl Z) Z (.of_eq ?_));rfl
section
theorem bm{a b:Int}(h:a=b):an (pI a) (pI b):=h▸ .refl _
theorem eI{α:Type}[Inhabited α](l:List α)(f:α->List IV):((O9 l.length).map fun k=>(f (l.getD k ci)).map PV.iv)=l.map fun x=>(f x).map PV.iv:=by
 refine List.ext_getElem (by simp) fun i h1 b=>?_;simp only[O7]at b;simp[OD b]
def Up(L:List Fact):Prop:= ∀i j,i<j->j<L.length-> ¬bq (L.getD j ci) (L.getD i ci)<0
theorem Lt{L:List Fact}(h:uY bq L):Up L:=fun i j b u=>by
 have:=(PL.1 h) i j (by omega) u b;rw[OC,OC,OD u,OD (by omega:i<L.length)];exact qK.asym this
def y0(L:List Fact):Prop:= ∀f∈L,f.args.length<=1000000000
theorem BG{L:List Fact}{i:Nat}(hi:i<L.length):L.getD i ci∈L:=by
 rw[OC,OD hi];exact Pm hi
theorem y0.at{L:List Fact}(h:y0 L){i:Nat}(hi:i<L.length):(L.getD i ci).args.length<=1000000000:=h _ (BG hi)
abbrev aB:PV:= .bX (.func 34) [] []
abbrev a8(L:List Fact):PV:= .iv (bV 2 L Fact.c)
theorem oC(i j:Nat)(h:i+j<=4000000000000):IntKind.i64.wrap (Int.fdiv (IntKind.u64.wrap ((i:Int)+(j:Int))) (2 ^ min (Int.toNat 1) IntKind.u64.bits))=(((i+j)/2:Nat):Int):=by
 have h1:IntKind.u64.wrap ((i:Int)+(j:Int))=((i+j:Nat):Int):=by simp[IntKind.wrap,IntKind.bits,IntKind.signed];omega
 rw[h1];have b:Int.fdiv (((i+j:Nat)):Int) (2 ^ min (Int.toNat 1) IntKind.u64.bits)=(((i+j)/2:Nat):Int):=by
  show Int.fdiv _ 2=_;rw[Int.fdiv_eq_ediv_of_nonneg _ (by decide)];omega
 rw[b];simp[IntKind.wrap,IntKind.bits,IntKind.signed];omega
section
variable {L:List Fact} (hu:Up L) (hF:y0 L) (hl:L.length<=1000000000000)
include hu hF hl
theorem Mp(a b:Nat)(j:a<=b)(hb:b<=L.length):Pure prog 105 [a8 L,pI a,pI b,aB] (.bh []):=by
 refine ae ab func105 Z (by decide) ntmps105 Z (by simp) Z ?_;refine gA Z ?_;refine aM (a+1) (max (a+1) b) (Nat.le_max_left _ _) (fun i=>⟨[(0,a8 L),(1,pI a),(2,pI b),(3,aB),(8,pI i)],[],0⟩) (fun i=>a+1<=i) [] (OL _)
  (wk Z Z Z (bi (bi (bi (bi (bi trivial))))) trivial Z) fun i x u=>?_
 refine gA Z ?_;refine OF (fun h1=>?_) (fun h1=>?_)
 .have h1:i<b:=by simpa using h1
  refine gA Z (nQ (n:=0) ?_);have e:((i:Int)-1).toNat=i-1:=by omega
  refine gA Z ?_;refine OF (fun g1=>?_) (fun g1=>?_)
  .refine gA Z (bD ab [] (Pure.q9 (pU (L.getD i ci) (L.getD ((i:Int)-1).toNat ci) (hF.at (by omega)) (hF.at (by omega)))) Z Z Z Z Z Z Z Z Z Z Z Z (by(repeat' (first|exact ac|exact rfl|exact an.refl _|exact an.bk (by assumption)|apply OF))<;>first|omega|(simp only[OG];omega)|(simp;done)|(simp;omega)) Z (by(repeat' (first|exact ac|exact rfl|exact an.refl _|exact an.bk (by assumption)|apply OF))<;>first|omega|(simp only[OG];omega)|(simp;done)|(simp;omega)) ?_);refine gA Z ?_;refine OF (fun g2=>?_) (fun g2=>?_)
   .exact absurd (of_decide_eq_true g2) (by rw[e];exact hu (i-1) i (by omega) (by omega))
   .refine gA Z ?_;exact⟨by omega,by omega,[],wk Z Z Z (bi (bi (bi (bi (bi ac))))) ac Z⟩
  .exact absurd g1 (by simp;omega)
 .refine gA Z (aH (by first|exact .inr Z|exact .inl Z) Z (.of_eq ?_));rfl
theorem Ml: ∀(n a m b:Nat),b-a<=n->a<m->m<b->b<=L.length->Pure prog 113 [a8 L,pI a,pI m,pI b,aB] (.bh []):=by
 intro n
 induction n with
 |zero=>intro a m b h0 h1 R h3;omega
 |succ n ih=>
  intro a m b h0 h1 R h3;refine ae ab func113 Z (by decide) ntmps113 Z (by simp) Z ?_;refine gA Z ?_;refine OF (fun I=>?_) (fun I=>?_)
  .have I:m=a+1:=by have:=of_decide_eq_true I;(try dsimp only at this);omega
   refine gA Z (fW (σ:={j:Nat//m<=j∧j<=b}) (fun j=>⟨[(0,a8 L),(1,pI a),(2,pI m),(3,pI b),(4,aB),(10,pI m),(11,pI j.1)],[],0⟩) (fun j=>j.1-m) ⟨b,by omega,OL _⟩ []
    (wk Z Z Z (bi (bi (bi (bi (bi (bi (bi ac))))))) ac Z) fun j=>?_)
   obtain⟨j,j1,j2⟩:=j;refine gA Z ?_;refine OF (fun g1=>?_) (fun g1=>?_)
   .have g1:m<j:=by simpa using g1
    have x:=oC m j (by omega)
    first
     |(refine gM 1 Z ?_;refine ah (L:=[]) (t:=⟨[(0,a8 L),(1,pI a),(2,pI m),(3,pI b),(4,aB),(10,pI m),(11,pI j),(12,pI ((m+j)/2:Nat))],[],0⟩) (wk Z Z Z (bi (bi (bi (bi (bi (bi (bi ⟨bm x,rfl,ac⟩))))))) ac Z) ?_)
     |(refine gM 2 Z ?_;refine ah (L:=[]) (t:=⟨[(0,a8 L),(1,pI a),(2,pI m),(3,pI b),(4,aB),(10,pI m),(11,pI j),(12,pI ((m+j)/2:Nat))],[],0⟩) (wk Z Z Z (bi (bi (bi (bi (bi (bi (bi ⟨bm x,rfl,ac⟩))))))) ac Z) ?_)
     |(refine gM 3 Z ?_;refine ah (L:=[]) (t:=⟨[(0,a8 L),(1,pI a),(2,pI m),(3,pI b),(4,aB),(10,pI m),(11,pI j),(12,pI ((m+j)/2:Nat))],[],0⟩) (wk Z Z Z (bi (bi (bi (bi (bi (bi (bi ⟨bm x,rfl,ac⟩))))))) ac Z) ?_)
     |(refine gM 4 Z ?_;refine ah (L:=[]) (t:=⟨[(0,a8 L),(1,pI a),(2,pI m),(3,pI b),(4,aB),(10,pI m),(11,pI j),(12,pI ((m+j)/2:Nat))],[],0⟩) (wk Z Z Z (bi (bi (bi (bi (bi (bi (bi ⟨bm x,rfl,ac⟩))))))) ac Z) ?_)
     |(refine gM 5 Z ?_;refine ah (L:=[]) (t:=⟨[(0,a8 L),(1,pI a),(2,pI m),(3,pI b),(4,aB),(10,pI m),(11,pI j),(12,pI ((m+j)/2:Nat))],[],0⟩) (wk Z Z Z (bi (bi (bi (bi (bi (bi (bi ⟨bm x,rfl,ac⟩))))))) ac Z) ?_)
     |(refine gM 6 Z ?_;refine ah (L:=[]) (t:=⟨[(0,a8 L),(1,pI a),(2,pI m),(3,pI b),(4,aB),(10,pI m),(11,pI j),(12,pI ((m+j)/2:Nat))],[],0⟩) (wk Z Z Z (bi (bi (bi (bi (bi (bi (bi ⟨bm x,rfl,ac⟩))))))) ac Z) ?_)
     |(refine gM 7 Z ?_;refine ah (L:=[]) (t:=⟨[(0,a8 L),(1,pI a),(2,pI m),(3,pI b),(4,aB),(10,pI m),(11,pI j),(12,pI ((m+j)/2:Nat))],[],0⟩) (wk Z Z Z (bi (bi (bi (bi (bi (bi (bi ⟨bm x,rfl,ac⟩))))))) ac Z) ?_)
     |(refine gM 8 Z ?_;refine ah (L:=[]) (t:=⟨[(0,a8 L),(1,pI a),(2,pI m),(3,pI b),(4,aB),(10,pI m),(11,pI j),(12,pI ((m+j)/2:Nat))],[],0⟩) (wk Z Z Z (bi (bi (bi (bi (bi (bi (bi ⟨bm x,rfl,ac⟩))))))) ac Z) ?_)
     |(refine gM 9 Z ?_;refine ah (L:=[]) (t:=⟨[(0,a8 L),(1,pI a),(2,pI m),(3,pI b),(4,aB),(10,pI m),(11,pI j),(12,pI ((m+j)/2:Nat))],[],0⟩) (wk Z Z Z (bi (bi (bi (bi (bi (bi (bi ⟨bm x,rfl,ac⟩))))))) ac Z) ?_)
     |(refine gM 10 Z ?_;refine ah (L:=[]) (t:=⟨[(0,a8 L),(1,pI a),(2,pI m),(3,pI b),(4,aB),(10,pI m),(11,pI j),(12,pI ((m+j)/2:Nat))],[],0⟩) (wk Z Z Z (bi (bi (bi (bi (bi (bi (bi ⟨bm x,rfl,ac⟩))))))) ac Z) ?_)
     |(refine gM 11 Z ?_;refine ah (L:=[]) (t:=⟨[(0,a8 L),(1,pI a),(2,pI m),(3,pI b),(4,aB),(10,pI m),(11,pI j),(12,pI ((m+j)/2:Nat))],[],0⟩) (wk Z Z Z (bi (bi (bi (bi (bi (bi (bi ⟨bm x,rfl,ac⟩))))))) ac Z) ?_)
     |(refine gM 12 Z ?_;refine ah (L:=[]) (t:=⟨[(0,a8 L),(1,pI a),(2,pI m),(3,pI b),(4,aB),(10,pI m),(11,pI j),(12,pI ((m+j)/2:Nat))],[],0⟩) (wk Z Z Z (bi (bi (bi (bi (bi (bi (bi ⟨bm x,rfl,ac⟩))))))) ac Z) ?_)
     |(refine gM 13 Z ?_;refine ah (L:=[]) (t:=⟨[(0,a8 L),(1,pI a),(2,pI m),(3,pI b),(4,aB),(10,pI m),(11,pI j),(12,pI ((m+j)/2:Nat))],[],0⟩) (wk Z Z Z (bi (bi (bi (bi (bi (bi (bi ⟨bm x,rfl,ac⟩))))))) ac Z) ?_)
     |(refine gM 14 Z ?_;refine ah (L:=[]) (t:=⟨[(0,a8 L),(1,pI a),(2,pI m),(3,pI b),(4,aB),(10,pI m),(11,pI j),(12,pI ((m+j)/2:Nat))],[],0⟩) (wk Z Z Z (bi (bi (bi (bi (bi (bi (bi ⟨bm x,rfl,ac⟩))))))) ac Z) ?_)
     |(refine gM 15 Z ?_;refine ah (L:=[]) (t:=⟨[(0,a8 L),(1,pI a),(2,pI m),(3,pI b),(4,aB),(10,pI m),(11,pI j),(12,pI ((m+j)/2:Nat))],[],0⟩) (wk Z Z Z (bi (bi (bi (bi (bi (bi (bi ⟨bm x,rfl,ac⟩))))))) ac Z) ?_)
     |(refine gM 16 Z ?_;refine ah (L:=[]) (t:=⟨[(0,a8 L),(1,pI a),(2,pI m),(3,pI b),(4,aB),(10,pI m),(11,pI j),(12,pI ((m+j)/2:Nat))],[],0⟩) (wk Z Z Z (bi (bi (bi (bi (bi (bi (bi ⟨bm x,rfl,ac⟩))))))) ac Z) ?_)
     |(refine gM 17 Z ?_;refine ah (L:=[]) (t:=⟨[(0,a8 L),(1,pI a),(2,pI m),(3,pI b),(4,aB),(10,pI m),(11,pI j),(12,pI ((m+j)/2:Nat))],[],0⟩) (wk Z Z Z (bi (bi (bi (bi (bi (bi (bi ⟨bm x,rfl,ac⟩))))))) ac Z) ?_)
     |(refine gM 18 Z ?_;refine ah (L:=[]) (t:=⟨[(0,a8 L),(1,pI a),(2,pI m),(3,pI b),(4,aB),(10,pI m),(11,pI j),(12,pI ((m+j)/2:Nat))],[],0⟩) (wk Z Z Z (bi (bi (bi (bi (bi (bi (bi ⟨bm x,rfl,ac⟩))))))) ac Z) ?_)
     |(refine gM 19 Z ?_;refine ah (L:=[]) (t:=⟨[(0,a8 L),(1,pI a),(2,pI m),(3,pI b),(4,aB),(10,pI m),(11,pI j),(12,pI ((m+j)/2:Nat))],[],0⟩) (wk Z Z Z (bi (bi (bi (bi (bi (bi (bi ⟨bm x,rfl,ac⟩))))))) ac Z) ?_)
     |(refine gM 20 Z ?_;refine ah (L:=[]) (t:=⟨[(0,a8 L),(1,pI a),(2,pI m),(3,pI b),(4,aB),(10,pI m),(11,pI j),(12,pI ((m+j)/2:Nat))],[],0⟩) (wk Z Z Z (bi (bi (bi (bi (bi (bi (bi ⟨bm x,rfl,ac⟩))))))) ac Z) ?_)
     |(refine gM 21 Z ?_;refine ah (L:=[]) (t:=⟨[(0,a8 L),(1,pI a),(2,pI m),(3,pI b),(4,aB),(10,pI m),(11,pI j),(12,pI ((m+j)/2:Nat))],[],0⟩) (wk Z Z Z (bi (bi (bi (bi (bi (bi (bi ⟨bm x,rfl,ac⟩))))))) ac Z) ?_)
     |(refine gM 22 Z ?_;refine ah (L:=[]) (t:=⟨[(0,a8 L),(1,pI a),(2,pI m),(3,pI b),(4,aB),(10,pI m),(11,pI j),(12,pI ((m+j)/2:Nat))],[],0⟩) (wk Z Z Z (bi (bi (bi (bi (bi (bi (bi ⟨bm x,rfl,ac⟩))))))) ac Z) ?_)
     |(refine gM 23 Z ?_;refine ah (L:=[]) (t:=⟨[(0,a8 L),(1,pI a),(2,pI m),(3,pI b),(4,aB),(10,pI m),(11,pI j),(12,pI ((m+j)/2:Nat))],[],0⟩) (wk Z Z Z (bi (bi (bi (bi (bi (bi (bi ⟨bm x,rfl,ac⟩))))))) ac Z) ?_)
     |(refine gM 24 Z ?_;refine ah (L:=[]) (t:=⟨[(0,a8 L),(1,pI a),(2,pI m),(3,pI b),(4,aB),(10,pI m),(11,pI j),(12,pI ((m+j)/2:Nat))],[],0⟩) (wk Z Z Z (bi (bi (bi (bi (bi (bi (bi ⟨bm x,rfl,ac⟩))))))) ac Z) ?_)
     |(refine gM 25 Z ?_;refine ah (L:=[]) (t:=⟨[(0,a8 L),(1,pI a),(2,pI m),(3,pI b),(4,aB),(10,pI m),(11,pI j),(12,pI ((m+j)/2:Nat))],[],0⟩) (wk Z Z Z (bi (bi (bi (bi (bi (bi (bi ⟨bm x,rfl,ac⟩))))))) ac Z) ?_)
     |(refine gM 26 Z ?_;refine ah (L:=[]) (t:=⟨[(0,a8 L),(1,pI a),(2,pI m),(3,pI b),(4,aB),(10,pI m),(11,pI j),(12,pI ((m+j)/2:Nat))],[],0⟩) (wk Z Z Z (bi (bi (bi (bi (bi (bi (bi ⟨bm x,rfl,ac⟩))))))) ac Z) ?_)
     |(refine gM 27 Z ?_;refine ah (L:=[]) (t:=⟨[(0,a8 L),(1,pI a),(2,pI m),(3,pI b),(4,aB),(10,pI m),(11,pI j),(12,pI ((m+j)/2:Nat))],[],0⟩) (wk Z Z Z (bi (bi (bi (bi (bi (bi (bi ⟨bm x,rfl,ac⟩))))))) ac Z) ?_)
     |(refine gM 28 Z ?_;refine ah (L:=[]) (t:=⟨[(0,a8 L),(1,pI a),(2,pI m),(3,pI b),(4,aB),(10,pI m),(11,pI j),(12,pI ((m+j)/2:Nat))],[],0⟩) (wk Z Z Z (bi (bi (bi (bi (bi (bi (bi ⟨bm x,rfl,ac⟩))))))) ac Z) ?_)
     |(refine gM 29 Z ?_;refine ah (L:=[]) (t:=⟨[(0,a8 L),(1,pI a),(2,pI m),(3,pI b),(4,aB),(10,pI m),(11,pI j),(12,pI ((m+j)/2:Nat))],[],0⟩) (wk Z Z Z (bi (bi (bi (bi (bi (bi (bi ⟨bm x,rfl,ac⟩))))))) ac Z) ?_)
    refine gA Z (bD ab [] (Pure.q9 (pU (L.getD ((m+j)/2) ci) (L.getD a ci) (hF.at (by omega)) (hF.at (by omega)))) Z Z Z Z Z Z Z Z Z Z Z Z (by(repeat' (first|exact ac|exact rfl|exact an.refl _|exact an.bk (by assumption)|apply OF))<;>first|omega|(simp only[OG];omega)|(simp;done)|(simp;omega)) Z (by(repeat' (first|exact ac|exact rfl|exact an.refl _|exact an.bk (by assumption)|apply OF))<;>first|omega|(simp only[OG];omega)|(simp;done)|(simp;omega)) ?_);refine gA Z ?_;refine OF (fun g2=>?_) (fun g2=>?_)
    .exact absurd (of_decide_eq_true g2) (hu a ((m+j)/2) (by omega) (by omega))
    .refine gA Z ?_;exact⟨⟨(m+j)/2,by omega,by omega⟩,[],by show(m+j)/2-m<j-m;omega,wk Z Z Z (bi (bi (bi (bi (bi (bi (bi ac))))))) ac Z⟩
   .refine gA Z (nQ (n:=0) ?_);refine gA Z ?_;refine OF (fun g3=>?_) (fun g3=>?_)
    .exact absurd g3 (by simp;omega)
    .refine gA Z (aH (by first|exact .inr Z|exact .inl Z) Z (.of_eq ?_));rfl
  have I: ¬m=a+1:=by have:=of_decide_eq_false I;(try dsimp only at this);omega
  refine gA Z ?_;refine OF (fun J=>?_) (fun J=>?_)
  .have J:b=m+1:=by have:=of_decide_eq_true J;(try dsimp only at this);omega
   refine gA Z (fW (σ:={i:Nat//a<=i∧i<=m}) (fun i=>⟨[(0,a8 L),(1,pI a),(2,pI m),(3,pI b),(4,aB),(14,pI i.1),(15,pI m)],[],0⟩) (fun i=>m-i.1) ⟨a,OL _,by omega⟩ []
    (wk Z Z Z (bi (bi (bi (bi (bi (bi (bi ac))))))) ac Z) fun i=>?_)
   obtain⟨i,i1,i2⟩:=i;refine gA Z ?_;refine OF (fun g1=>?_) (fun g1=>?_)
   .have g1:i<m:=by simpa using g1
    have x:=oC i m (by omega)
    first
     |(refine gM 1 Z ?_;refine ah (L:=[]) (t:=⟨[(0,a8 L),(1,pI a),(2,pI m),(3,pI b),(4,aB),(14,pI i),(15,pI m),(16,pI ((i+m)/2:Nat))],[],0⟩) (wk Z Z Z (bi (bi (bi (bi (bi (bi (bi ⟨bm x,rfl,ac⟩))))))) ac Z) ?_)
     |(refine gM 2 Z ?_;refine ah (L:=[]) (t:=⟨[(0,a8 L),(1,pI a),(2,pI m),(3,pI b),(4,aB),(14,pI i),(15,pI m),(16,pI ((i+m)/2:Nat))],[],0⟩) (wk Z Z Z (bi (bi (bi (bi (bi (bi (bi ⟨bm x,rfl,ac⟩))))))) ac Z) ?_)
     |(refine gM 3 Z ?_;refine ah (L:=[]) (t:=⟨[(0,a8 L),(1,pI a),(2,pI m),(3,pI b),(4,aB),(14,pI i),(15,pI m),(16,pI ((i+m)/2:Nat))],[],0⟩) (wk Z Z Z (bi (bi (bi (bi (bi (bi (bi ⟨bm x,rfl,ac⟩))))))) ac Z) ?_)
     |(refine gM 4 Z ?_;refine ah (L:=[]) (t:=⟨[(0,a8 L),(1,pI a),(2,pI m),(3,pI b),(4,aB),(14,pI i),(15,pI m),(16,pI ((i+m)/2:Nat))],[],0⟩) (wk Z Z Z (bi (bi (bi (bi (bi (bi (bi ⟨bm x,rfl,ac⟩))))))) ac Z) ?_)
     |(refine gM 5 Z ?_;refine ah (L:=[]) (t:=⟨[(0,a8 L),(1,pI a),(2,pI m),(3,pI b),(4,aB),(14,pI i),(15,pI m),(16,pI ((i+m)/2:Nat))],[],0⟩) (wk Z Z Z (bi (bi (bi (bi (bi (bi (bi ⟨bm x,rfl,ac⟩))))))) ac Z) ?_)
     |(refine gM 6 Z ?_;refine ah (L:=[]) (t:=⟨[(0,a8 L),(1,pI a),(2,pI m),(3,pI b),(4,aB),(14,pI i),(15,pI m),(16,pI ((i+m)/2:Nat))],[],0⟩) (wk Z Z Z (bi (bi (bi (bi (bi (bi (bi ⟨bm x,rfl,ac⟩))))))) ac Z) ?_)
     |(refine gM 7 Z ?_;refine ah (L:=[]) (t:=⟨[(0,a8 L),(1,pI a),(2,pI m),(3,pI b),(4,aB),(14,pI i),(15,pI m),(16,pI ((i+m)/2:Nat))],[],0⟩) (wk Z Z Z (bi (bi (bi (bi (bi (bi (bi ⟨bm x,rfl,ac⟩))))))) ac Z) ?_)
     |(refine gM 8 Z ?_;refine ah (L:=[]) (t:=⟨[(0,a8 L),(1,pI a),(2,pI m),(3,pI b),(4,aB),(14,pI i),(15,pI m),(16,pI ((i+m)/2:Nat))],[],0⟩) (wk Z Z Z (bi (bi (bi (bi (bi (bi (bi ⟨bm x,rfl,ac⟩))))))) ac Z) ?_)
     |(refine gM 9 Z ?_;refine ah (L:=[]) (t:=⟨[(0,a8 L),(1,pI a),(2,pI m),(3,pI b),(4,aB),(14,pI i),(15,pI m),(16,pI ((i+m)/2:Nat))],[],0⟩) (wk Z Z Z (bi (bi (bi (bi (bi (bi (bi ⟨bm x,rfl,ac⟩))))))) ac Z) ?_)
     |(refine gM 10 Z ?_;refine ah (L:=[]) (t:=⟨[(0,a8 L),(1,pI a),(2,pI m),(3,pI b),(4,aB),(14,pI i),(15,pI m),(16,pI ((i+m)/2:Nat))],[],0⟩) (wk Z Z Z (bi (bi (bi (bi (bi (bi (bi ⟨bm x,rfl,ac⟩))))))) ac Z) ?_)
     |(refine gM 11 Z ?_;refine ah (L:=[]) (t:=⟨[(0,a8 L),(1,pI a),(2,pI m),(3,pI b),(4,aB),(14,pI i),(15,pI m),(16,pI ((i+m)/2:Nat))],[],0⟩) (wk Z Z Z (bi (bi (bi (bi (bi (bi (bi ⟨bm x,rfl,ac⟩))))))) ac Z) ?_)
     |(refine gM 12 Z ?_;refine ah (L:=[]) (t:=⟨[(0,a8 L),(1,pI a),(2,pI m),(3,pI b),(4,aB),(14,pI i),(15,pI m),(16,pI ((i+m)/2:Nat))],[],0⟩) (wk Z Z Z (bi (bi (bi (bi (bi (bi (bi ⟨bm x,rfl,ac⟩))))))) ac Z) ?_)
     |(refine gM 13 Z ?_;refine ah (L:=[]) (t:=⟨[(0,a8 L),(1,pI a),(2,pI m),(3,pI b),(4,aB),(14,pI i),(15,pI m),(16,pI ((i+m)/2:Nat))],[],0⟩) (wk Z Z Z (bi (bi (bi (bi (bi (bi (bi ⟨bm x,rfl,ac⟩))))))) ac Z) ?_)
     |(refine gM 14 Z ?_;refine ah (L:=[]) (t:=⟨[(0,a8 L),(1,pI a),(2,pI m),(3,pI b),(4,aB),(14,pI i),(15,pI m),(16,pI ((i+m)/2:Nat))],[],0⟩) (wk Z Z Z (bi (bi (bi (bi (bi (bi (bi ⟨bm x,rfl,ac⟩))))))) ac Z) ?_)
     |(refine gM 15 Z ?_;refine ah (L:=[]) (t:=⟨[(0,a8 L),(1,pI a),(2,pI m),(3,pI b),(4,aB),(14,pI i),(15,pI m),(16,pI ((i+m)/2:Nat))],[],0⟩) (wk Z Z Z (bi (bi (bi (bi (bi (bi (bi ⟨bm x,rfl,ac⟩))))))) ac Z) ?_)
     |(refine gM 16 Z ?_;refine ah (L:=[]) (t:=⟨[(0,a8 L),(1,pI a),(2,pI m),(3,pI b),(4,aB),(14,pI i),(15,pI m),(16,pI ((i+m)/2:Nat))],[],0⟩) (wk Z Z Z (bi (bi (bi (bi (bi (bi (bi ⟨bm x,rfl,ac⟩))))))) ac Z) ?_)
     |(refine gM 17 Z ?_;refine ah (L:=[]) (t:=⟨[(0,a8 L),(1,pI a),(2,pI m),(3,pI b),(4,aB),(14,pI i),(15,pI m),(16,pI ((i+m)/2:Nat))],[],0⟩) (wk Z Z Z (bi (bi (bi (bi (bi (bi (bi ⟨bm x,rfl,ac⟩))))))) ac Z) ?_)
     |(refine gM 18 Z ?_;refine ah (L:=[]) (t:=⟨[(0,a8 L),(1,pI a),(2,pI m),(3,pI b),(4,aB),(14,pI i),(15,pI m),(16,pI ((i+m)/2:Nat))],[],0⟩) (wk Z Z Z (bi (bi (bi (bi (bi (bi (bi ⟨bm x,rfl,ac⟩))))))) ac Z) ?_)
     |(refine gM 19 Z ?_;refine ah (L:=[]) (t:=⟨[(0,a8 L),(1,pI a),(2,pI m),(3,pI b),(4,aB),(14,pI i),(15,pI m),(16,pI ((i+m)/2:Nat))],[],0⟩) (wk Z Z Z (bi (bi (bi (bi (bi (bi (bi ⟨bm x,rfl,ac⟩))))))) ac Z) ?_)
     |(refine gM 20 Z ?_;refine ah (L:=[]) (t:=⟨[(0,a8 L),(1,pI a),(2,pI m),(3,pI b),(4,aB),(14,pI i),(15,pI m),(16,pI ((i+m)/2:Nat))],[],0⟩) (wk Z Z Z (bi (bi (bi (bi (bi (bi (bi ⟨bm x,rfl,ac⟩))))))) ac Z) ?_)
     |(refine gM 21 Z ?_;refine ah (L:=[]) (t:=⟨[(0,a8 L),(1,pI a),(2,pI m),(3,pI b),(4,aB),(14,pI i),(15,pI m),(16,pI ((i+m)/2:Nat))],[],0⟩) (wk Z Z Z (bi (bi (bi (bi (bi (bi (bi ⟨bm x,rfl,ac⟩))))))) ac Z) ?_)
     |(refine gM 22 Z ?_;refine ah (L:=[]) (t:=⟨[(0,a8 L),(1,pI a),(2,pI m),(3,pI b),(4,aB),(14,pI i),(15,pI m),(16,pI ((i+m)/2:Nat))],[],0⟩) (wk Z Z Z (bi (bi (bi (bi (bi (bi (bi ⟨bm x,rfl,ac⟩))))))) ac Z) ?_)
     |(refine gM 23 Z ?_;refine ah (L:=[]) (t:=⟨[(0,a8 L),(1,pI a),(2,pI m),(3,pI b),(4,aB),(14,pI i),(15,pI m),(16,pI ((i+m)/2:Nat))],[],0⟩) (wk Z Z Z (bi (bi (bi (bi (bi (bi (bi ⟨bm x,rfl,ac⟩))))))) ac Z) ?_)
     |(refine gM 24 Z ?_;refine ah (L:=[]) (t:=⟨[(0,a8 L),(1,pI a),(2,pI m),(3,pI b),(4,aB),(14,pI i),(15,pI m),(16,pI ((i+m)/2:Nat))],[],0⟩) (wk Z Z Z (bi (bi (bi (bi (bi (bi (bi ⟨bm x,rfl,ac⟩))))))) ac Z) ?_)
     |(refine gM 25 Z ?_;refine ah (L:=[]) (t:=⟨[(0,a8 L),(1,pI a),(2,pI m),(3,pI b),(4,aB),(14,pI i),(15,pI m),(16,pI ((i+m)/2:Nat))],[],0⟩) (wk Z Z Z (bi (bi (bi (bi (bi (bi (bi ⟨bm x,rfl,ac⟩))))))) ac Z) ?_)
     |(refine gM 26 Z ?_;refine ah (L:=[]) (t:=⟨[(0,a8 L),(1,pI a),(2,pI m),(3,pI b),(4,aB),(14,pI i),(15,pI m),(16,pI ((i+m)/2:Nat))],[],0⟩) (wk Z Z Z (bi (bi (bi (bi (bi (bi (bi ⟨bm x,rfl,ac⟩))))))) ac Z) ?_)
     |(refine gM 27 Z ?_;refine ah (L:=[]) (t:=⟨[(0,a8 L),(1,pI a),(2,pI m),(3,pI b),(4,aB),(14,pI i),(15,pI m),(16,pI ((i+m)/2:Nat))],[],0⟩) (wk Z Z Z (bi (bi (bi (bi (bi (bi (bi ⟨bm x,rfl,ac⟩))))))) ac Z) ?_)
     |(refine gM 28 Z ?_;refine ah (L:=[]) (t:=⟨[(0,a8 L),(1,pI a),(2,pI m),(3,pI b),(4,aB),(14,pI i),(15,pI m),(16,pI ((i+m)/2:Nat))],[],0⟩) (wk Z Z Z (bi (bi (bi (bi (bi (bi (bi ⟨bm x,rfl,ac⟩))))))) ac Z) ?_)
     |(refine gM 29 Z ?_;refine ah (L:=[]) (t:=⟨[(0,a8 L),(1,pI a),(2,pI m),(3,pI b),(4,aB),(14,pI i),(15,pI m),(16,pI ((i+m)/2:Nat))],[],0⟩) (wk Z Z Z (bi (bi (bi (bi (bi (bi (bi ⟨bm x,rfl,ac⟩))))))) ac Z) ?_)
    refine gA Z (bD ab [] (Pure.q9 (pU (L.getD m ci) (L.getD ((i+m)/2) ci) (hF.at (by omega)) (hF.at (by omega)))) Z Z Z Z Z Z Z Z Z Z Z Z (by(repeat' (first|exact ac|exact rfl|exact an.refl _|exact an.bk (by assumption)|apply OF))<;>first|omega|(simp only[OG];omega)|(simp;done)|(simp;omega)) Z (by(repeat' (first|exact ac|exact rfl|exact an.refl _|exact an.bk (by assumption)|apply OF))<;>first|omega|(simp only[OG];omega)|(simp;done)|(simp;omega)) ?_);refine gA Z ?_;refine OF (fun g2=>?_) (fun g2=>?_)
    .refine gA Z ?_;exact⟨⟨(i+m)/2+1,by omega,by omega⟩,[],by show m-((i+m)/2+1)<m-i;omega,wk Z Z Z (bi (bi (bi (bi (bi (bi (bi ac))))))) ac Z⟩
    .have g2:bq (L.getD m ci) (L.getD ((i+m)/2) ci)<0:=by simpa using g2
     exact absurd g2 (hu ((i+m)/2) m (by omega) (by omega))
   .have g1:m<=i:=by simpa using g1
    have:i=m:=by omega
    subst this;refine gA Z (nQ (n:=0) ?_);refine gA Z ?_;refine OF (fun g3=>?_) (fun g3=>?_)
    .exact absurd g3 (by simp)
    .refine gA Z (aH (by first|exact .inr Z|exact .inl Z) Z (.of_eq ?_));rfl
  have J: ¬b=m+1:=by have:=of_decide_eq_false J;(try dsimp only at this);omega
  have x:=oC a b (by omega);obtain⟨u,C⟩: ∃u,u=(a+b)/2:=⟨_,rfl⟩
  rw[<-C]at x
  first
   |(refine gM 1 Z ?_;refine ah (L:=[]) (t:=⟨[(0,a8 L),(1,pI a),(2,pI m),(3,pI b),(4,aB),(18,pI u)],[],0⟩) (wk Z Z Z (bi (bi (bi (bi (bi ⟨bm x,rfl,ac⟩))))) ac Z) ?_)
   |(refine gM 2 Z ?_;refine ah (L:=[]) (t:=⟨[(0,a8 L),(1,pI a),(2,pI m),(3,pI b),(4,aB),(18,pI u)],[],0⟩) (wk Z Z Z (bi (bi (bi (bi (bi ⟨bm x,rfl,ac⟩))))) ac Z) ?_)
   |(refine gM 3 Z ?_;refine ah (L:=[]) (t:=⟨[(0,a8 L),(1,pI a),(2,pI m),(3,pI b),(4,aB),(18,pI u)],[],0⟩) (wk Z Z Z (bi (bi (bi (bi (bi ⟨bm x,rfl,ac⟩))))) ac Z) ?_)
   |(refine gM 4 Z ?_;refine ah (L:=[]) (t:=⟨[(0,a8 L),(1,pI a),(2,pI m),(3,pI b),(4,aB),(18,pI u)],[],0⟩) (wk Z Z Z (bi (bi (bi (bi (bi ⟨bm x,rfl,ac⟩))))) ac Z) ?_)
   |(refine gM 5 Z ?_;refine ah (L:=[]) (t:=⟨[(0,a8 L),(1,pI a),(2,pI m),(3,pI b),(4,aB),(18,pI u)],[],0⟩) (wk Z Z Z (bi (bi (bi (bi (bi ⟨bm x,rfl,ac⟩))))) ac Z) ?_)
   |(refine gM 6 Z ?_;refine ah (L:=[]) (t:=⟨[(0,a8 L),(1,pI a),(2,pI m),(3,pI b),(4,aB),(18,pI u)],[],0⟩) (wk Z Z Z (bi (bi (bi (bi (bi ⟨bm x,rfl,ac⟩))))) ac Z) ?_)
   |(refine gM 7 Z ?_;refine ah (L:=[]) (t:=⟨[(0,a8 L),(1,pI a),(2,pI m),(3,pI b),(4,aB),(18,pI u)],[],0⟩) (wk Z Z Z (bi (bi (bi (bi (bi ⟨bm x,rfl,ac⟩))))) ac Z) ?_)
   |(refine gM 8 Z ?_;refine ah (L:=[]) (t:=⟨[(0,a8 L),(1,pI a),(2,pI m),(3,pI b),(4,aB),(18,pI u)],[],0⟩) (wk Z Z Z (bi (bi (bi (bi (bi ⟨bm x,rfl,ac⟩))))) ac Z) ?_)
   |(refine gM 9 Z ?_;refine ah (L:=[]) (t:=⟨[(0,a8 L),(1,pI a),(2,pI m),(3,pI b),(4,aB),(18,pI u)],[],0⟩) (wk Z Z Z (bi (bi (bi (bi (bi ⟨bm x,rfl,ac⟩))))) ac Z) ?_)
   |(refine gM 10 Z ?_;refine ah (L:=[]) (t:=⟨[(0,a8 L),(1,pI a),(2,pI m),(3,pI b),(4,aB),(18,pI u)],[],0⟩) (wk Z Z Z (bi (bi (bi (bi (bi ⟨bm x,rfl,ac⟩))))) ac Z) ?_)
   |(refine gM 11 Z ?_;refine ah (L:=[]) (t:=⟨[(0,a8 L),(1,pI a),(2,pI m),(3,pI b),(4,aB),(18,pI u)],[],0⟩) (wk Z Z Z (bi (bi (bi (bi (bi ⟨bm x,rfl,ac⟩))))) ac Z) ?_)
  refine gA Z ?_;refine OF (fun A=>?_) (fun A=>?_)
  .have A:u<m:=by simpa using A
   refine gA Z (fW (σ:={st:Nat//u+m-b<=st∧st<=u}) (fun st=>⟨[(0,a8 L),(1,pI a),(2,pI m),(3,pI b),(4,aB),(18,pI u),(19,pI (u+m:Nat)),(20,pI st.1),(21,pI u),(22,pI (u+m-1:Nat))],[],0⟩) (fun st=>u-st.1) ⟨u+m-b,OL _,by omega⟩ []
    (wk Z Z Z (bi (bi (bi (bi (bi (bi (bi ⟨bm (by(try dsimp only);omega),rfl,bi ⟨bm (by(try dsimp only);omega),rfl,ac⟩⟩))))))) ac Z) fun st=>?_)
   obtain⟨st,s1,s2⟩:=st;refine gA Z ?_;refine OF (fun g1=>?_) (fun g1=>?_)
   .have g1:st<u:=by simpa using g1
    have x:=oC st u (by omega);obtain⟨c,Y⟩: ∃c,c=(st+u)/2:=⟨_,rfl⟩
    rw[<-Y]at x
    first
     |(refine gM 1 Z ?_;refine ah (L:=[]) (t:=⟨[(0,a8 L),(1,pI a),(2,pI m),(3,pI b),(4,aB),(18,pI u),(19,pI (u+m:Nat)),(20,pI st),(21,pI u),(22,pI (u+m-1:Nat)),(23,pI c)],[],0⟩) (wk Z Z Z (bi (bi (bi (bi (bi (bi (bi (bi (bi (bi ⟨bm x,rfl,ac⟩)))))))))) ac Z) ?_)
     |(refine gM 2 Z ?_;refine ah (L:=[]) (t:=⟨[(0,a8 L),(1,pI a),(2,pI m),(3,pI b),(4,aB),(18,pI u),(19,pI (u+m:Nat)),(20,pI st),(21,pI u),(22,pI (u+m-1:Nat)),(23,pI c)],[],0⟩) (wk Z Z Z (bi (bi (bi (bi (bi (bi (bi (bi (bi (bi ⟨bm x,rfl,ac⟩)))))))))) ac Z) ?_)
     |(refine gM 3 Z ?_;refine ah (L:=[]) (t:=⟨[(0,a8 L),(1,pI a),(2,pI m),(3,pI b),(4,aB),(18,pI u),(19,pI (u+m:Nat)),(20,pI st),(21,pI u),(22,pI (u+m-1:Nat)),(23,pI c)],[],0⟩) (wk Z Z Z (bi (bi (bi (bi (bi (bi (bi (bi (bi (bi ⟨bm x,rfl,ac⟩)))))))))) ac Z) ?_)
     |(refine gM 4 Z ?_;refine ah (L:=[]) (t:=⟨[(0,a8 L),(1,pI a),(2,pI m),(3,pI b),(4,aB),(18,pI u),(19,pI (u+m:Nat)),(20,pI st),(21,pI u),(22,pI (u+m-1:Nat)),(23,pI c)],[],0⟩) (wk Z Z Z (bi (bi (bi (bi (bi (bi (bi (bi (bi (bi ⟨bm x,rfl,ac⟩)))))))))) ac Z) ?_)
     |(refine gM 5 Z ?_;refine ah (L:=[]) (t:=⟨[(0,a8 L),(1,pI a),(2,pI m),(3,pI b),(4,aB),(18,pI u),(19,pI (u+m:Nat)),(20,pI st),(21,pI u),(22,pI (u+m-1:Nat)),(23,pI c)],[],0⟩) (wk Z Z Z (bi (bi (bi (bi (bi (bi (bi (bi (bi (bi ⟨bm x,rfl,ac⟩)))))))))) ac Z) ?_)
     |(refine gM 6 Z ?_;refine ah (L:=[]) (t:=⟨[(0,a8 L),(1,pI a),(2,pI m),(3,pI b),(4,aB),(18,pI u),(19,pI (u+m:Nat)),(20,pI st),(21,pI u),(22,pI (u+m-1:Nat)),(23,pI c)],[],0⟩) (wk Z Z Z (bi (bi (bi (bi (bi (bi (bi (bi (bi (bi ⟨bm x,rfl,ac⟩)))))))))) ac Z) ?_)
     |(refine gM 7 Z ?_;refine ah (L:=[]) (t:=⟨[(0,a8 L),(1,pI a),(2,pI m),(3,pI b),(4,aB),(18,pI u),(19,pI (u+m:Nat)),(20,pI st),(21,pI u),(22,pI (u+m-1:Nat)),(23,pI c)],[],0⟩) (wk Z Z Z (bi (bi (bi (bi (bi (bi (bi (bi (bi (bi ⟨bm x,rfl,ac⟩)))))))))) ac Z) ?_)
     |(refine gM 8 Z ?_;refine ah (L:=[]) (t:=⟨[(0,a8 L),(1,pI a),(2,pI m),(3,pI b),(4,aB),(18,pI u),(19,pI (u+m:Nat)),(20,pI st),(21,pI u),(22,pI (u+m-1:Nat)),(23,pI c)],[],0⟩) (wk Z Z Z (bi (bi (bi (bi (bi (bi (bi (bi (bi (bi ⟨bm x,rfl,ac⟩)))))))))) ac Z) ?_)
     |(refine gM 9 Z ?_;refine ah (L:=[]) (t:=⟨[(0,a8 L),(1,pI a),(2,pI m),(3,pI b),(4,aB),(18,pI u),(19,pI (u+m:Nat)),(20,pI st),(21,pI u),(22,pI (u+m-1:Nat)),(23,pI c)],[],0⟩) (wk Z Z Z (bi (bi (bi (bi (bi (bi (bi (bi (bi (bi ⟨bm x,rfl,ac⟩)))))))))) ac Z) ?_)
     |(refine gM 10 Z ?_;refine ah (L:=[]) (t:=⟨[(0,a8 L),(1,pI a),(2,pI m),(3,pI b),(4,aB),(18,pI u),(19,pI (u+m:Nat)),(20,pI st),(21,pI u),(22,pI (u+m-1:Nat)),(23,pI c)],[],0⟩) (wk Z Z Z (bi (bi (bi (bi (bi (bi (bi (bi (bi (bi ⟨bm x,rfl,ac⟩)))))))))) ac Z) ?_)
     |(refine gM 11 Z ?_;refine ah (L:=[]) (t:=⟨[(0,a8 L),(1,pI a),(2,pI m),(3,pI b),(4,aB),(18,pI u),(19,pI (u+m:Nat)),(20,pI st),(21,pI u),(22,pI (u+m-1:Nat)),(23,pI c)],[],0⟩) (wk Z Z Z (bi (bi (bi (bi (bi (bi (bi (bi (bi (bi ⟨bm x,rfl,ac⟩)))))))))) ac Z) ?_)
     |(refine gM 12 Z ?_;refine ah (L:=[]) (t:=⟨[(0,a8 L),(1,pI a),(2,pI m),(3,pI b),(4,aB),(18,pI u),(19,pI (u+m:Nat)),(20,pI st),(21,pI u),(22,pI (u+m-1:Nat)),(23,pI c)],[],0⟩) (wk Z Z Z (bi (bi (bi (bi (bi (bi (bi (bi (bi (bi ⟨bm x,rfl,ac⟩)))))))))) ac Z) ?_)
     |(refine gM 13 Z ?_;refine ah (L:=[]) (t:=⟨[(0,a8 L),(1,pI a),(2,pI m),(3,pI b),(4,aB),(18,pI u),(19,pI (u+m:Nat)),(20,pI st),(21,pI u),(22,pI (u+m-1:Nat)),(23,pI c)],[],0⟩) (wk Z Z Z (bi (bi (bi (bi (bi (bi (bi (bi (bi (bi ⟨bm x,rfl,ac⟩)))))))))) ac Z) ?_)
     |(refine gM 14 Z ?_;refine ah (L:=[]) (t:=⟨[(0,a8 L),(1,pI a),(2,pI m),(3,pI b),(4,aB),(18,pI u),(19,pI (u+m:Nat)),(20,pI st),(21,pI u),(22,pI (u+m-1:Nat)),(23,pI c)],[],0⟩) (wk Z Z Z (bi (bi (bi (bi (bi (bi (bi (bi (bi (bi ⟨bm x,rfl,ac⟩)))))))))) ac Z) ?_)
     |(refine gM 15 Z ?_;refine ah (L:=[]) (t:=⟨[(0,a8 L),(1,pI a),(2,pI m),(3,pI b),(4,aB),(18,pI u),(19,pI (u+m:Nat)),(20,pI st),(21,pI u),(22,pI (u+m-1:Nat)),(23,pI c)],[],0⟩) (wk Z Z Z (bi (bi (bi (bi (bi (bi (bi (bi (bi (bi ⟨bm x,rfl,ac⟩)))))))))) ac Z) ?_)
     |(refine gM 16 Z ?_;refine ah (L:=[]) (t:=⟨[(0,a8 L),(1,pI a),(2,pI m),(3,pI b),(4,aB),(18,pI u),(19,pI (u+m:Nat)),(20,pI st),(21,pI u),(22,pI (u+m-1:Nat)),(23,pI c)],[],0⟩) (wk Z Z Z (bi (bi (bi (bi (bi (bi (bi (bi (bi (bi ⟨bm x,rfl,ac⟩)))))))))) ac Z) ?_)
     |(refine gM 17 Z ?_;refine ah (L:=[]) (t:=⟨[(0,a8 L),(1,pI a),(2,pI m),(3,pI b),(4,aB),(18,pI u),(19,pI (u+m:Nat)),(20,pI st),(21,pI u),(22,pI (u+m-1:Nat)),(23,pI c)],[],0⟩) (wk Z Z Z (bi (bi (bi (bi (bi (bi (bi (bi (bi (bi ⟨bm x,rfl,ac⟩)))))))))) ac Z) ?_)
     |(refine gM 18 Z ?_;refine ah (L:=[]) (t:=⟨[(0,a8 L),(1,pI a),(2,pI m),(3,pI b),(4,aB),(18,pI u),(19,pI (u+m:Nat)),(20,pI st),(21,pI u),(22,pI (u+m-1:Nat)),(23,pI c)],[],0⟩) (wk Z Z Z (bi (bi (bi (bi (bi (bi (bi (bi (bi (bi ⟨bm x,rfl,ac⟩)))))))))) ac Z) ?_)
     |(refine gM 19 Z ?_;refine ah (L:=[]) (t:=⟨[(0,a8 L),(1,pI a),(2,pI m),(3,pI b),(4,aB),(18,pI u),(19,pI (u+m:Nat)),(20,pI st),(21,pI u),(22,pI (u+m-1:Nat)),(23,pI c)],[],0⟩) (wk Z Z Z (bi (bi (bi (bi (bi (bi (bi (bi (bi (bi ⟨bm x,rfl,ac⟩)))))))))) ac Z) ?_)
     |(refine gM 20 Z ?_;refine ah (L:=[]) (t:=⟨[(0,a8 L),(1,pI a),(2,pI m),(3,pI b),(4,aB),(18,pI u),(19,pI (u+m:Nat)),(20,pI st),(21,pI u),(22,pI (u+m-1:Nat)),(23,pI c)],[],0⟩) (wk Z Z Z (bi (bi (bi (bi (bi (bi (bi (bi (bi (bi ⟨bm x,rfl,ac⟩)))))))))) ac Z) ?_)
     |(refine gM 21 Z ?_;refine ah (L:=[]) (t:=⟨[(0,a8 L),(1,pI a),(2,pI m),(3,pI b),(4,aB),(18,pI u),(19,pI (u+m:Nat)),(20,pI st),(21,pI u),(22,pI (u+m-1:Nat)),(23,pI c)],[],0⟩) (wk Z Z Z (bi (bi (bi (bi (bi (bi (bi (bi (bi (bi ⟨bm x,rfl,ac⟩)))))))))) ac Z) ?_)
     |(refine gM 22 Z ?_;refine ah (L:=[]) (t:=⟨[(0,a8 L),(1,pI a),(2,pI m),(3,pI b),(4,aB),(18,pI u),(19,pI (u+m:Nat)),(20,pI st),(21,pI u),(22,pI (u+m-1:Nat)),(23,pI c)],[],0⟩) (wk Z Z Z (bi (bi (bi (bi (bi (bi (bi (bi (bi (bi ⟨bm x,rfl,ac⟩)))))))))) ac Z) ?_)
     |(refine gM 23 Z ?_;refine ah (L:=[]) (t:=⟨[(0,a8 L),(1,pI a),(2,pI m),(3,pI b),(4,aB),(18,pI u),(19,pI (u+m:Nat)),(20,pI st),(21,pI u),(22,pI (u+m-1:Nat)),(23,pI c)],[],0⟩) (wk Z Z Z (bi (bi (bi (bi (bi (bi (bi (bi (bi (bi ⟨bm x,rfl,ac⟩)))))))))) ac Z) ?_)
     |(refine gM 24 Z ?_;refine ah (L:=[]) (t:=⟨[(0,a8 L),(1,pI a),(2,pI m),(3,pI b),(4,aB),(18,pI u),(19,pI (u+m:Nat)),(20,pI st),(21,pI u),(22,pI (u+m-1:Nat)),(23,pI c)],[],0⟩) (wk Z Z Z (bi (bi (bi (bi (bi (bi (bi (bi (bi (bi ⟨bm x,rfl,ac⟩)))))))))) ac Z) ?_)
     |(refine gM 25 Z ?_;refine ah (L:=[]) (t:=⟨[(0,a8 L),(1,pI a),(2,pI m),(3,pI b),(4,aB),(18,pI u),(19,pI (u+m:Nat)),(20,pI st),(21,pI u),(22,pI (u+m-1:Nat)),(23,pI c)],[],0⟩) (wk Z Z Z (bi (bi (bi (bi (bi (bi (bi (bi (bi (bi ⟨bm x,rfl,ac⟩)))))))))) ac Z) ?_)
     |(refine gM 26 Z ?_;refine ah (L:=[]) (t:=⟨[(0,a8 L),(1,pI a),(2,pI m),(3,pI b),(4,aB),(18,pI u),(19,pI (u+m:Nat)),(20,pI st),(21,pI u),(22,pI (u+m-1:Nat)),(23,pI c)],[],0⟩) (wk Z Z Z (bi (bi (bi (bi (bi (bi (bi (bi (bi (bi ⟨bm x,rfl,ac⟩)))))))))) ac Z) ?_)
     |(refine gM 27 Z ?_;refine ah (L:=[]) (t:=⟨[(0,a8 L),(1,pI a),(2,pI m),(3,pI b),(4,aB),(18,pI u),(19,pI (u+m:Nat)),(20,pI st),(21,pI u),(22,pI (u+m-1:Nat)),(23,pI c)],[],0⟩) (wk Z Z Z (bi (bi (bi (bi (bi (bi (bi (bi (bi (bi ⟨bm x,rfl,ac⟩)))))))))) ac Z) ?_)
     |(refine gM 28 Z ?_;refine ah (L:=[]) (t:=⟨[(0,a8 L),(1,pI a),(2,pI m),(3,pI b),(4,aB),(18,pI u),(19,pI (u+m:Nat)),(20,pI st),(21,pI u),(22,pI (u+m-1:Nat)),(23,pI c)],[],0⟩) (wk Z Z Z (bi (bi (bi (bi (bi (bi (bi (bi (bi (bi ⟨bm x,rfl,ac⟩)))))))))) ac Z) ?_)
     |(refine gM 29 Z ?_;refine ah (L:=[]) (t:=⟨[(0,a8 L),(1,pI a),(2,pI m),(3,pI b),(4,aB),(18,pI u),(19,pI (u+m:Nat)),(20,pI st),(21,pI u),(22,pI (u+m-1:Nat)),(23,pI c)],[],0⟩) (wk Z Z Z (bi (bi (bi (bi (bi (bi (bi (bi (bi (bi ⟨bm x,rfl,ac⟩)))))))))) ac Z) ?_)
    have e:(((u+m-1:Nat):Int)-(c:Int)).toNat=u+m-1-c:=by omega
    refine gA Z (bD ab [] (Pure.q9 (pU (L.getD (((u+m-1:Nat):Int)-(c:Int)).toNat ci) (L.getD c ci) (hF.at (by omega)) (hF.at (by omega)))) Z Z Z Z Z Z Z Z Z Z Z Z (by(repeat' (first|exact ac|exact rfl|exact an.refl _|exact an.bk (by assumption)|apply OF))<;>first|omega|(simp only[OG];omega)|(simp;done)|(simp;omega)) Z (by(repeat' (first|exact ac|exact rfl|exact an.refl _|exact an.bk (by assumption)|apply OF))<;>first|omega|(simp only[OG];omega)|(simp;done)|(simp;omega)) ?_);refine gA Z ?_;refine OF (fun g2=>?_) (fun g2=>?_)
    .refine gA Z ?_;exact⟨⟨c+1,by omega,by omega⟩,[],by show u-(c+1)<u-st;omega,wk Z Z Z (bi (bi (bi (bi (bi (bi (bi (bi (bi (bi ac)))))))))) ac Z⟩
    .have g2:bq (L.getD (((u+m-1:Nat):Int)-(c:Int)).toNat ci) (L.getD c ci)<0:=by simpa using g2
     rw[e]at g2;exact absurd g2 (hu c (u+m-1-c) (by omega) (by omega))
   .have g1:u<=st:=by simpa using g1
    have:st=u:=by omega
    subst this
    first
     |(refine gM 1 Z ?_;refine ah (L:=[]) (t:=⟨[(0,a8 L),(1,pI a),(2,pI m),(3,pI b),(4,aB),(18,pI st),(20,pI st),(24,pI m)],[],0⟩) (wk Z Z Z (bi (bi (bi (bi (bi (bi (bi ⟨bm (by(try dsimp only);omega),rfl,ac⟩))))))) ac Z) ?_)
     |(refine gM 2 Z ?_;refine ah (L:=[]) (t:=⟨[(0,a8 L),(1,pI a),(2,pI m),(3,pI b),(4,aB),(18,pI st),(20,pI st),(24,pI m)],[],0⟩) (wk Z Z Z (bi (bi (bi (bi (bi (bi (bi ⟨bm (by(try dsimp only);omega),rfl,ac⟩))))))) ac Z) ?_)
     |(refine gM 3 Z ?_;refine ah (L:=[]) (t:=⟨[(0,a8 L),(1,pI a),(2,pI m),(3,pI b),(4,aB),(18,pI st),(20,pI st),(24,pI m)],[],0⟩) (wk Z Z Z (bi (bi (bi (bi (bi (bi (bi ⟨bm (by(try dsimp only);omega),rfl,ac⟩))))))) ac Z) ?_)
     |(refine gM 4 Z ?_;refine ah (L:=[]) (t:=⟨[(0,a8 L),(1,pI a),(2,pI m),(3,pI b),(4,aB),(18,pI st),(20,pI st),(24,pI m)],[],0⟩) (wk Z Z Z (bi (bi (bi (bi (bi (bi (bi ⟨bm (by(try dsimp only);omega),rfl,ac⟩))))))) ac Z) ?_)
     |(refine gM 5 Z ?_;refine ah (L:=[]) (t:=⟨[(0,a8 L),(1,pI a),(2,pI m),(3,pI b),(4,aB),(18,pI st),(20,pI st),(24,pI m)],[],0⟩) (wk Z Z Z (bi (bi (bi (bi (bi (bi (bi ⟨bm (by(try dsimp only);omega),rfl,ac⟩))))))) ac Z) ?_)
     |(refine gM 6 Z ?_;refine ah (L:=[]) (t:=⟨[(0,a8 L),(1,pI a),(2,pI m),(3,pI b),(4,aB),(18,pI st),(20,pI st),(24,pI m)],[],0⟩) (wk Z Z Z (bi (bi (bi (bi (bi (bi (bi ⟨bm (by(try dsimp only);omega),rfl,ac⟩))))))) ac Z) ?_)
     |(refine gM 7 Z ?_;refine ah (L:=[]) (t:=⟨[(0,a8 L),(1,pI a),(2,pI m),(3,pI b),(4,aB),(18,pI st),(20,pI st),(24,pI m)],[],0⟩) (wk Z Z Z (bi (bi (bi (bi (bi (bi (bi ⟨bm (by(try dsimp only);omega),rfl,ac⟩))))))) ac Z) ?_)
     |(refine gM 8 Z ?_;refine ah (L:=[]) (t:=⟨[(0,a8 L),(1,pI a),(2,pI m),(3,pI b),(4,aB),(18,pI st),(20,pI st),(24,pI m)],[],0⟩) (wk Z Z Z (bi (bi (bi (bi (bi (bi (bi ⟨bm (by(try dsimp only);omega),rfl,ac⟩))))))) ac Z) ?_)
     |(refine gM 9 Z ?_;refine ah (L:=[]) (t:=⟨[(0,a8 L),(1,pI a),(2,pI m),(3,pI b),(4,aB),(18,pI st),(20,pI st),(24,pI m)],[],0⟩) (wk Z Z Z (bi (bi (bi (bi (bi (bi (bi ⟨bm (by(try dsimp only);omega),rfl,ac⟩))))))) ac Z) ?_)
     |(refine gM 10 Z ?_;refine ah (L:=[]) (t:=⟨[(0,a8 L),(1,pI a),(2,pI m),(3,pI b),(4,aB),(18,pI st),(20,pI st),(24,pI m)],[],0⟩) (wk Z Z Z (bi (bi (bi (bi (bi (bi (bi ⟨bm (by(try dsimp only);omega),rfl,ac⟩))))))) ac Z) ?_)
     |(refine gM 11 Z ?_;refine ah (L:=[]) (t:=⟨[(0,a8 L),(1,pI a),(2,pI m),(3,pI b),(4,aB),(18,pI st),(20,pI st),(24,pI m)],[],0⟩) (wk Z Z Z (bi (bi (bi (bi (bi (bi (bi ⟨bm (by(try dsimp only);omega),rfl,ac⟩))))))) ac Z) ?_)
    refine gA Z ?_;refine OF (fun D=>?_) (fun D=>?_);rotate_left
    .exact absurd A (by simpa using D)
    refine gA Z ?_;refine OF (fun k2=>?_) (fun k2=>?_)
    .exact absurd k2 (by simp)
    refine gA Z ?_;refine OF (fun G=>?_) (fun G=>?_);rotate_left
    .exact absurd (show a<st by omega) (by simpa using G)
    refine gA Z ?_;refine OF (fun B=>?_) (fun B=>?_)
    .exact absurd B (by simp)
    refine gA Z ?_;refine OF (fun y=>?_) (fun y=>?_);rotate_left
    .exact absurd A (by simpa using y)
    refine gA Z ?_;refine OF (fun k6=>?_) (fun k6=>?_)
    .refine gA Z (aA (ih st m b (by omega) A R h3) Z Z Z Z Z Z ?_);refine gA Z (aH (by first|exact .inr Z|exact .inl Z) Z (.of_eq ?_));rfl
    .exact absurd R (by simpa using k6)
  .have A:m<=u:=by simpa using A
   refine gA Z (fW (σ:={st:Nat//a<=st∧st<=m}) (fun st=>⟨[(0,a8 L),(1,pI a),(2,pI m),(3,pI b),(4,aB),(18,pI u),(19,pI (u+m:Nat)),(20,pI st.1),(21,pI m),(22,pI (u+m-1:Nat))],[],0⟩) (fun st=>m-st.1) ⟨a,OL _,by omega⟩ []
    (wk Z Z Z (bi (bi (bi (bi (bi (bi ⟨bm (by(try dsimp only);omega),rfl,bi (bi ⟨bm (by(try dsimp only);omega),rfl,ac⟩)⟩)))))) ac Z) fun st=>?_)
   obtain⟨st,s1,s2⟩:=st;refine gA Z ?_;refine OF (fun g1=>?_) (fun g1=>?_)
   .have g1:st<m:=by simpa using g1
    have x:=oC st m (by omega);obtain⟨c,Y⟩: ∃c,c=(st+m)/2:=⟨_,rfl⟩
    rw[<-Y]at x
    first
     |(refine gM 1 Z ?_;refine ah (L:=[]) (t:=⟨[(0,a8 L),(1,pI a),(2,pI m),(3,pI b),(4,aB),(18,pI u),(19,pI (u+m:Nat)),(20,pI st),(21,pI m),(22,pI (u+m-1:Nat)),(23,pI c)],[],0⟩) (wk Z Z Z (bi (bi (bi (bi (bi (bi (bi (bi (bi (bi ⟨bm x,rfl,ac⟩)))))))))) ac Z) ?_)
     |(refine gM 2 Z ?_;refine ah (L:=[]) (t:=⟨[(0,a8 L),(1,pI a),(2,pI m),(3,pI b),(4,aB),(18,pI u),(19,pI (u+m:Nat)),(20,pI st),(21,pI m),(22,pI (u+m-1:Nat)),(23,pI c)],[],0⟩) (wk Z Z Z (bi (bi (bi (bi (bi (bi (bi (bi (bi (bi ⟨bm x,rfl,ac⟩)))))))))) ac Z) ?_)
     |(refine gM 3 Z ?_;refine ah (L:=[]) (t:=⟨[(0,a8 L),(1,pI a),(2,pI m),(3,pI b),(4,aB),(18,pI u),(19,pI (u+m:Nat)),(20,pI st),(21,pI m),(22,pI (u+m-1:Nat)),(23,pI c)],[],0⟩) (wk Z Z Z (bi (bi (bi (bi (bi (bi (bi (bi (bi (bi ⟨bm x,rfl,ac⟩)))))))))) ac Z) ?_)
     |(refine gM 4 Z ?_;refine ah (L:=[]) (t:=⟨[(0,a8 L),(1,pI a),(2,pI m),(3,pI b),(4,aB),(18,pI u),(19,pI (u+m:Nat)),(20,pI st),(21,pI m),(22,pI (u+m-1:Nat)),(23,pI c)],[],0⟩) (wk Z Z Z (bi (bi (bi (bi (bi (bi (bi (bi (bi (bi ⟨bm x,rfl,ac⟩)))))))))) ac Z) ?_)
     |(refine gM 5 Z ?_;refine ah (L:=[]) (t:=⟨[(0,a8 L),(1,pI a),(2,pI m),(3,pI b),(4,aB),(18,pI u),(19,pI (u+m:Nat)),(20,pI st),(21,pI m),(22,pI (u+m-1:Nat)),(23,pI c)],[],0⟩) (wk Z Z Z (bi (bi (bi (bi (bi (bi (bi (bi (bi (bi ⟨bm x,rfl,ac⟩)))))))))) ac Z) ?_)
     |(refine gM 6 Z ?_;refine ah (L:=[]) (t:=⟨[(0,a8 L),(1,pI a),(2,pI m),(3,pI b),(4,aB),(18,pI u),(19,pI (u+m:Nat)),(20,pI st),(21,pI m),(22,pI (u+m-1:Nat)),(23,pI c)],[],0⟩) (wk Z Z Z (bi (bi (bi (bi (bi (bi (bi (bi (bi (bi ⟨bm x,rfl,ac⟩)))))))))) ac Z) ?_)
     |(refine gM 7 Z ?_;refine ah (L:=[]) (t:=⟨[(0,a8 L),(1,pI a),(2,pI m),(3,pI b),(4,aB),(18,pI u),(19,pI (u+m:Nat)),(20,pI st),(21,pI m),(22,pI (u+m-1:Nat)),(23,pI c)],[],0⟩) (wk Z Z Z (bi (bi (bi (bi (bi (bi (bi (bi (bi (bi ⟨bm x,rfl,ac⟩)))))))))) ac Z) ?_)
     |(refine gM 8 Z ?_;refine ah (L:=[]) (t:=⟨[(0,a8 L),(1,pI a),(2,pI m),(3,pI b),(4,aB),(18,pI u),(19,pI (u+m:Nat)),(20,pI st),(21,pI m),(22,pI (u+m-1:Nat)),(23,pI c)],[],0⟩) (wk Z Z Z (bi (bi (bi (bi (bi (bi (bi (bi (bi (bi ⟨bm x,rfl,ac⟩)))))))))) ac Z) ?_)
     |(refine gM 9 Z ?_;refine ah (L:=[]) (t:=⟨[(0,a8 L),(1,pI a),(2,pI m),(3,pI b),(4,aB),(18,pI u),(19,pI (u+m:Nat)),(20,pI st),(21,pI m),(22,pI (u+m-1:Nat)),(23,pI c)],[],0⟩) (wk Z Z Z (bi (bi (bi (bi (bi (bi (bi (bi (bi (bi ⟨bm x,rfl,ac⟩)))))))))) ac Z) ?_)
     |(refine gM 10 Z ?_;refine ah (L:=[]) (t:=⟨[(0,a8 L),(1,pI a),(2,pI m),(3,pI b),(4,aB),(18,pI u),(19,pI (u+m:Nat)),(20,pI st),(21,pI m),(22,pI (u+m-1:Nat)),(23,pI c)],[],0⟩) (wk Z Z Z (bi (bi (bi (bi (bi (bi (bi (bi (bi (bi ⟨bm x,rfl,ac⟩)))))))))) ac Z) ?_)
     |(refine gM 11 Z ?_;refine ah (L:=[]) (t:=⟨[(0,a8 L),(1,pI a),(2,pI m),(3,pI b),(4,aB),(18,pI u),(19,pI (u+m:Nat)),(20,pI st),(21,pI m),(22,pI (u+m-1:Nat)),(23,pI c)],[],0⟩) (wk Z Z Z (bi (bi (bi (bi (bi (bi (bi (bi (bi (bi ⟨bm x,rfl,ac⟩)))))))))) ac Z) ?_)
     |(refine gM 12 Z ?_;refine ah (L:=[]) (t:=⟨[(0,a8 L),(1,pI a),(2,pI m),(3,pI b),(4,aB),(18,pI u),(19,pI (u+m:Nat)),(20,pI st),(21,pI m),(22,pI (u+m-1:Nat)),(23,pI c)],[],0⟩) (wk Z Z Z (bi (bi (bi (bi (bi (bi (bi (bi (bi (bi ⟨bm x,rfl,ac⟩)))))))))) ac Z) ?_)
     |(refine gM 13 Z ?_;refine ah (L:=[]) (t:=⟨[(0,a8 L),(1,pI a),(2,pI m),(3,pI b),(4,aB),(18,pI u),(19,pI (u+m:Nat)),(20,pI st),(21,pI m),(22,pI (u+m-1:Nat)),(23,pI c)],[],0⟩) (wk Z Z Z (bi (bi (bi (bi (bi (bi (bi (bi (bi (bi ⟨bm x,rfl,ac⟩)))))))))) ac Z) ?_)
     |(refine gM 14 Z ?_;refine ah (L:=[]) (t:=⟨[(0,a8 L),(1,pI a),(2,pI m),(3,pI b),(4,aB),(18,pI u),(19,pI (u+m:Nat)),(20,pI st),(21,pI m),(22,pI (u+m-1:Nat)),(23,pI c)],[],0⟩) (wk Z Z Z (bi (bi (bi (bi (bi (bi (bi (bi (bi (bi ⟨bm x,rfl,ac⟩)))))))))) ac Z) ?_)
     |(refine gM 15 Z ?_;refine ah (L:=[]) (t:=⟨[(0,a8 L),(1,pI a),(2,pI m),(3,pI b),(4,aB),(18,pI u),(19,pI (u+m:Nat)),(20,pI st),(21,pI m),(22,pI (u+m-1:Nat)),(23,pI c)],[],0⟩) (wk Z Z Z (bi (bi (bi (bi (bi (bi (bi (bi (bi (bi ⟨bm x,rfl,ac⟩)))))))))) ac Z) ?_)
     |(refine gM 16 Z ?_;refine ah (L:=[]) (t:=⟨[(0,a8 L),(1,pI a),(2,pI m),(3,pI b),(4,aB),(18,pI u),(19,pI (u+m:Nat)),(20,pI st),(21,pI m),(22,pI (u+m-1:Nat)),(23,pI c)],[],0⟩) (wk Z Z Z (bi (bi (bi (bi (bi (bi (bi (bi (bi (bi ⟨bm x,rfl,ac⟩)))))))))) ac Z) ?_)
     |(refine gM 17 Z ?_;refine ah (L:=[]) (t:=⟨[(0,a8 L),(1,pI a),(2,pI m),(3,pI b),(4,aB),(18,pI u),(19,pI (u+m:Nat)),(20,pI st),(21,pI m),(22,pI (u+m-1:Nat)),(23,pI c)],[],0⟩) (wk Z Z Z (bi (bi (bi (bi (bi (bi (bi (bi (bi (bi ⟨bm x,rfl,ac⟩)))))))))) ac Z) ?_)
     |(refine gM 18 Z ?_;refine ah (L:=[]) (t:=⟨[(0,a8 L),(1,pI a),(2,pI m),(3,pI b),(4,aB),(18,pI u),(19,pI (u+m:Nat)),(20,pI st),(21,pI m),(22,pI (u+m-1:Nat)),(23,pI c)],[],0⟩) (wk Z Z Z (bi (bi (bi (bi (bi (bi (bi (bi (bi (bi ⟨bm x,rfl,ac⟩)))))))))) ac Z) ?_)
     |(refine gM 19 Z ?_;refine ah (L:=[]) (t:=⟨[(0,a8 L),(1,pI a),(2,pI m),(3,pI b),(4,aB),(18,pI u),(19,pI (u+m:Nat)),(20,pI st),(21,pI m),(22,pI (u+m-1:Nat)),(23,pI c)],[],0⟩) (wk Z Z Z (bi (bi (bi (bi (bi (bi (bi (bi (bi (bi ⟨bm x,rfl,ac⟩)))))))))) ac Z) ?_)
     |(refine gM 20 Z ?_;refine ah (L:=[]) (t:=⟨[(0,a8 L),(1,pI a),(2,pI m),(3,pI b),(4,aB),(18,pI u),(19,pI (u+m:Nat)),(20,pI st),(21,pI m),(22,pI (u+m-1:Nat)),(23,pI c)],[],0⟩) (wk Z Z Z (bi (bi (bi (bi (bi (bi (bi (bi (bi (bi ⟨bm x,rfl,ac⟩)))))))))) ac Z) ?_)
     |(refine gM 21 Z ?_;refine ah (L:=[]) (t:=⟨[(0,a8 L),(1,pI a),(2,pI m),(3,pI b),(4,aB),(18,pI u),(19,pI (u+m:Nat)),(20,pI st),(21,pI m),(22,pI (u+m-1:Nat)),(23,pI c)],[],0⟩) (wk Z Z Z (bi (bi (bi (bi (bi (bi (bi (bi (bi (bi ⟨bm x,rfl,ac⟩)))))))))) ac Z) ?_)
     |(refine gM 22 Z ?_;refine ah (L:=[]) (t:=⟨[(0,a8 L),(1,pI a),(2,pI m),(3,pI b),(4,aB),(18,pI u),(19,pI (u+m:Nat)),(20,pI st),(21,pI m),(22,pI (u+m-1:Nat)),(23,pI c)],[],0⟩) (wk Z Z Z (bi (bi (bi (bi (bi (bi (bi (bi (bi (bi ⟨bm x,rfl,ac⟩)))))))))) ac Z) ?_)
     |(refine gM 23 Z ?_;refine ah (L:=[]) (t:=⟨[(0,a8 L),(1,pI a),(2,pI m),(3,pI b),(4,aB),(18,pI u),(19,pI (u+m:Nat)),(20,pI st),(21,pI m),(22,pI (u+m-1:Nat)),(23,pI c)],[],0⟩) (wk Z Z Z (bi (bi (bi (bi (bi (bi (bi (bi (bi (bi ⟨bm x,rfl,ac⟩)))))))))) ac Z) ?_)
     |(refine gM 24 Z ?_;refine ah (L:=[]) (t:=⟨[(0,a8 L),(1,pI a),(2,pI m),(3,pI b),(4,aB),(18,pI u),(19,pI (u+m:Nat)),(20,pI st),(21,pI m),(22,pI (u+m-1:Nat)),(23,pI c)],[],0⟩) (wk Z Z Z (bi (bi (bi (bi (bi (bi (bi (bi (bi (bi ⟨bm x,rfl,ac⟩)))))))))) ac Z) ?_)
     |(refine gM 25 Z ?_;refine ah (L:=[]) (t:=⟨[(0,a8 L),(1,pI a),(2,pI m),(3,pI b),(4,aB),(18,pI u),(19,pI (u+m:Nat)),(20,pI st),(21,pI m),(22,pI (u+m-1:Nat)),(23,pI c)],[],0⟩) (wk Z Z Z (bi (bi (bi (bi (bi (bi (bi (bi (bi (bi ⟨bm x,rfl,ac⟩)))))))))) ac Z) ?_)
     |(refine gM 26 Z ?_;refine ah (L:=[]) (t:=⟨[(0,a8 L),(1,pI a),(2,pI m),(3,pI b),(4,aB),(18,pI u),(19,pI (u+m:Nat)),(20,pI st),(21,pI m),(22,pI (u+m-1:Nat)),(23,pI c)],[],0⟩) (wk Z Z Z (bi (bi (bi (bi (bi (bi (bi (bi (bi (bi ⟨bm x,rfl,ac⟩)))))))))) ac Z) ?_)
     |(refine gM 27 Z ?_;refine ah (L:=[]) (t:=⟨[(0,a8 L),(1,pI a),(2,pI m),(3,pI b),(4,aB),(18,pI u),(19,pI (u+m:Nat)),(20,pI st),(21,pI m),(22,pI (u+m-1:Nat)),(23,pI c)],[],0⟩) (wk Z Z Z (bi (bi (bi (bi (bi (bi (bi (bi (bi (bi ⟨bm x,rfl,ac⟩)))))))))) ac Z) ?_)
     |(refine gM 28 Z ?_;refine ah (L:=[]) (t:=⟨[(0,a8 L),(1,pI a),(2,pI m),(3,pI b),(4,aB),(18,pI u),(19,pI (u+m:Nat)),(20,pI st),(21,pI m),(22,pI (u+m-1:Nat)),(23,pI c)],[],0⟩) (wk Z Z Z (bi (bi (bi (bi (bi (bi (bi (bi (bi (bi ⟨bm x,rfl,ac⟩)))))))))) ac Z) ?_)
     |(refine gM 29 Z ?_;refine ah (L:=[]) (t:=⟨[(0,a8 L),(1,pI a),(2,pI m),(3,pI b),(4,aB),(18,pI u),(19,pI (u+m:Nat)),(20,pI st),(21,pI m),(22,pI (u+m-1:Nat)),(23,pI c)],[],0⟩) (wk Z Z Z (bi (bi (bi (bi (bi (bi (bi (bi (bi (bi ⟨bm x,rfl,ac⟩)))))))))) ac Z) ?_)
    have e:(((u+m-1:Nat):Int)-(c:Int)).toNat=u+m-1-c:=by omega
    refine gA Z (bD ab [] (Pure.q9 (pU (L.getD (((u+m-1:Nat):Int)-(c:Int)).toNat ci) (L.getD c ci) (hF.at (by omega)) (hF.at (by omega)))) Z Z Z Z Z Z Z Z Z Z Z Z (by(repeat' (first|exact ac|exact rfl|exact an.refl _|exact an.bk (by assumption)|apply OF))<;>first|omega|(simp only[OG];omega)|(simp;done)|(simp;omega)) Z (by(repeat' (first|exact ac|exact rfl|exact an.refl _|exact an.bk (by assumption)|apply OF))<;>first|omega|(simp only[OG];omega)|(simp;done)|(simp;omega)) ?_);refine gA Z ?_;refine OF (fun g2=>?_) (fun g2=>?_)
    .refine gA Z ?_;exact⟨⟨c+1,by omega,by omega⟩,[],by show m-(c+1)<m-st;omega,wk Z Z Z (bi (bi (bi (bi (bi (bi (bi (bi (bi (bi ac)))))))))) ac Z⟩
    .have g2:bq (L.getD (((u+m-1:Nat):Int)-(c:Int)).toNat ci) (L.getD c ci)<0:=by simpa using g2
     rw[e]at g2;exact absurd g2 (hu c (u+m-1-c) (by omega) (by omega))
   .have g1:m<=st:=by simpa using g1
    have:st=m:=by omega
    subst this
    first
     |(refine gM 1 Z ?_;refine ah (L:=[]) (t:=⟨[(0,a8 L),(1,pI a),(2,pI st),(3,pI b),(4,aB),(18,pI u),(20,pI st),(24,pI u)],[],0⟩) (wk Z Z Z (bi (bi (bi (bi (bi (bi (bi ⟨bm (by(try dsimp only);omega),rfl,ac⟩))))))) ac Z) ?_)
     |(refine gM 2 Z ?_;refine ah (L:=[]) (t:=⟨[(0,a8 L),(1,pI a),(2,pI st),(3,pI b),(4,aB),(18,pI u),(20,pI st),(24,pI u)],[],0⟩) (wk Z Z Z (bi (bi (bi (bi (bi (bi (bi ⟨bm (by(try dsimp only);omega),rfl,ac⟩))))))) ac Z) ?_)
     |(refine gM 3 Z ?_;refine ah (L:=[]) (t:=⟨[(0,a8 L),(1,pI a),(2,pI st),(3,pI b),(4,aB),(18,pI u),(20,pI st),(24,pI u)],[],0⟩) (wk Z Z Z (bi (bi (bi (bi (bi (bi (bi ⟨bm (by(try dsimp only);omega),rfl,ac⟩))))))) ac Z) ?_)
     |(refine gM 4 Z ?_;refine ah (L:=[]) (t:=⟨[(0,a8 L),(1,pI a),(2,pI st),(3,pI b),(4,aB),(18,pI u),(20,pI st),(24,pI u)],[],0⟩) (wk Z Z Z (bi (bi (bi (bi (bi (bi (bi ⟨bm (by(try dsimp only);omega),rfl,ac⟩))))))) ac Z) ?_)
     |(refine gM 5 Z ?_;refine ah (L:=[]) (t:=⟨[(0,a8 L),(1,pI a),(2,pI st),(3,pI b),(4,aB),(18,pI u),(20,pI st),(24,pI u)],[],0⟩) (wk Z Z Z (bi (bi (bi (bi (bi (bi (bi ⟨bm (by(try dsimp only);omega),rfl,ac⟩))))))) ac Z) ?_)
     |(refine gM 6 Z ?_;refine ah (L:=[]) (t:=⟨[(0,a8 L),(1,pI a),(2,pI st),(3,pI b),(4,aB),(18,pI u),(20,pI st),(24,pI u)],[],0⟩) (wk Z Z Z (bi (bi (bi (bi (bi (bi (bi ⟨bm (by(try dsimp only);omega),rfl,ac⟩))))))) ac Z) ?_)
     |(refine gM 7 Z ?_;refine ah (L:=[]) (t:=⟨[(0,a8 L),(1,pI a),(2,pI st),(3,pI b),(4,aB),(18,pI u),(20,pI st),(24,pI u)],[],0⟩) (wk Z Z Z (bi (bi (bi (bi (bi (bi (bi ⟨bm (by(try dsimp only);omega),rfl,ac⟩))))))) ac Z) ?_)
     |(refine gM 8 Z ?_;refine ah (L:=[]) (t:=⟨[(0,a8 L),(1,pI a),(2,pI st),(3,pI b),(4,aB),(18,pI u),(20,pI st),(24,pI u)],[],0⟩) (wk Z Z Z (bi (bi (bi (bi (bi (bi (bi ⟨bm (by(try dsimp only);omega),rfl,ac⟩))))))) ac Z) ?_)
     |(refine gM 9 Z ?_;refine ah (L:=[]) (t:=⟨[(0,a8 L),(1,pI a),(2,pI st),(3,pI b),(4,aB),(18,pI u),(20,pI st),(24,pI u)],[],0⟩) (wk Z Z Z (bi (bi (bi (bi (bi (bi (bi ⟨bm (by(try dsimp only);omega),rfl,ac⟩))))))) ac Z) ?_)
     |(refine gM 10 Z ?_;refine ah (L:=[]) (t:=⟨[(0,a8 L),(1,pI a),(2,pI st),(3,pI b),(4,aB),(18,pI u),(20,pI st),(24,pI u)],[],0⟩) (wk Z Z Z (bi (bi (bi (bi (bi (bi (bi ⟨bm (by(try dsimp only);omega),rfl,ac⟩))))))) ac Z) ?_)
     |(refine gM 11 Z ?_;refine ah (L:=[]) (t:=⟨[(0,a8 L),(1,pI a),(2,pI st),(3,pI b),(4,aB),(18,pI u),(20,pI st),(24,pI u)],[],0⟩) (wk Z Z Z (bi (bi (bi (bi (bi (bi (bi ⟨bm (by(try dsimp only);omega),rfl,ac⟩))))))) ac Z) ?_)
    refine gA Z ?_;refine OF (fun D=>?_) (fun D=>?_)
    .exact absurd D (by simp)
    refine gA Z ?_;refine OF (fun G=>?_) (fun G=>?_);rotate_left
    .exact absurd h1 (by simpa using G)
    refine gA Z ?_;refine OF (fun B=>?_) (fun B=>?_)
    .have B:st<u:=by simpa using B
     refine gA Z (aA (ih a st u (by omega) h1 B (by omega)) Z Z Z Z Z Z ?_);refine gA Z ?_;refine OF (fun y=>?_) (fun y=>?_)
     .exact absurd y (by simp)
     refine gA Z (aH (by first|exact .inr Z|exact .inl Z) Z (.of_eq ?_));rfl
    .refine gA Z ?_;refine OF (fun y=>?_) (fun y=>?_)
     .exact absurd y (by simp)
     refine gA Z (aH (by first|exact .inr Z|exact .inl Z) Z (.of_eq ?_));rfl
theorem Gb:Pure prog 78 [a8 L,pI L.length,aB] (.bh []):=by
 refine ae ab func78 Z (by decide) ntmps78 Z (by simp) Z ?_
 refine gA Z (fW (σ:={i:Nat//i<=L.length}) (fun i=>⟨[(0,a8 L),(1,pI L.length),(2,aB),(6,pI 20),(7,pI i.1),(8,pI (i.1+20:Nat))],[],0⟩) (fun i=>L.length-i.1) ⟨0,OS _⟩ []
  (wk Z Z Z (bi (bi (bi (bi (bi (bi ac)))))) ac Z) fun i=>?_)
 obtain⟨i,i1⟩:=i;refine gA Z ?_;refine OF (fun g1=>?_) (fun g1=>?_)
 .have g1:i+20<=L.length:=by have:=of_decide_eq_true g1;(try dsimp only at this);omega
  refine gA Z (aA (Mp hu hF hl i (i+20) (by omega) g1) Z Z Z Z Z Z ?_);refine gA Z ⟨⟨i+20,g1⟩,[],by show L.length-(i+20)<L.length-i;omega,wk Z Z Z (bi (bi (bi (bi (bi ⟨bm (by(try dsimp only);omega),rfl,ac⟩))))) ac Z⟩
 .refine gA Z (aA (Mp hu hF hl i L.length (by omega) (OL _)) Z Z Z Z Z Z ?_)
  refine gA Z (fW (σ:={bs:Nat//0<bs∧bs<=2*L.length+20}) (fun bs=>⟨[(0,a8 L),(1,pI L.length),(2,aB),(6,pI bs.1)],[],0⟩) (fun bs=>2*L.length+20-bs.1) ⟨20,by omega,by omega⟩ []
   (wk Z Z Z (bi (bi (bi (bi ac)))) ac Z) fun bs=>?_)
  obtain⟨bs,b,j⟩:=bs;refine gA Z ?_;refine OF (fun g2=>?_) (fun g2=>?_)
  .have g2:bs<L.length:=by simpa using g2
   refine gA Z (fW (σ:={i:Nat//i<=L.length}) (fun i=>⟨[(0,a8 L),(1,pI L.length),(2,aB),(6,pI bs),(7,pI i.1),(8,pI (i.1+2*bs:Nat))],[],0⟩) (fun i=>L.length-i.1) ⟨0,OS _⟩ []
    (wk Z Z Z (bi (bi (bi (bi (bi ⟨bm (by(try dsimp only);omega),rfl,ac⟩))))) ac Z) fun i=>?_)
   obtain⟨i,i1⟩:=i;refine gA Z ?_;refine OF (fun g3=>?_) (fun g3=>?_)
   .have g3:i+2*bs<=L.length:=by have:=of_decide_eq_true g3;(try dsimp only at this);omega
    refine gA Z (aA (Ml hu hF hl (2*bs) i (i+bs) (i+2*bs) (by omega) (by omega) (by omega) g3) Z Z Z Z Z Z ?_);refine gA Z ⟨⟨i+2*bs,g3⟩,[],by show L.length-(i+2*bs)<L.length-i;omega,wk Z Z Z (bi (bi (bi (bi (bi ⟨bm (by(try dsimp only);omega),rfl,ac⟩))))) ac Z⟩
   .refine gA Z ?_;refine OF (fun g4=>?_) (fun g4=>?_)
    .have g4:i+bs<L.length:=by have:=of_decide_eq_true g4;(try dsimp only at this);omega
     refine gA Z (aA (Ml hu hF hl L.length i (i+bs) L.length (by omega) (by omega) g4 (OL _)) Z Z Z Z Z Z ?_);refine gA Z ⟨⟨2*bs,by omega,by omega⟩,[],by show 2*L.length+20-2*bs<2*L.length+20-bs;omega,wk Z Z Z (bi (bi (bi ⟨bm (by(try dsimp only);omega),rfl,ac⟩))) ac Z⟩
    .refine gA Z ?_;exact⟨⟨2*bs,by omega,by omega⟩,[],by show 2*L.length+20-2*bs<2*L.length+20-bs;omega,wk Z Z Z (bi (bi (bi ⟨bm (by(try dsimp only);omega),rfl,ac⟩))) ac Z⟩
  .refine gA Z (aH (by first|exact .inr Z|exact .inl Z) Z (.of_eq ?_));rfl
theorem Cx:Pure prog 55 [a8 L,aB] (.bh []):=by
 refine ae ab func55 Z (by decide) ntmps55 Z (by simp) Z ?_;refine gA Z (aA (Gb hu hF hl) Z Z Z Z Z Z ?_);refine gA Z (aH (by first|exact .inr Z|exact .inl Z) Z (.of_eq ?_));rfl
end
end
theorem Gi(l:List Int)(hb:l.length<=10000000000):Pure prog 42 [.iv (bV 1 l j5)] (.iv (bV 1 l j5)):=by
 refine ae ab func42 Z (by decide) ntmps42 Z (by simp) Z ?_;refine fb Z ac (gU Z Z Z Z underlying27 Z fun b u=>?_);refine gA Z ?_;refine OF (fun x=>?_) (fun x=>?_)
 .have j:l=[]:=Ps (u x);subst j;refine gA Z (aH (by first|exact .inr Z|exact .inl Z) Z ?_);exact .nil _ _
 refine fb Z ac (jt ab Z Z Z Z Z Z Z fun A=>?_);by_cases j:l=[]
 .subst j;refine fb Z ac (j7 ab Z Z Z Z Z Z Z Z (el2:=fun k=>j5 (([]:List Int).getD k ci)) Z ?_);refine gA Z (aH (by first|exact .inr Z|exact .inl Z) Z ?_);exact .refl _
 .have y:0<l.length:=PJ.2 j;refine fb Z ac (ju ab Z Z Z Z Z Z Z Z (by decide) Z (gy Z) (by simp;omega) (by show((O9 l.length).map _).length*8<=_;simp;omega) (by simp;omega) Z ?_);refine gA Z (dh (by first|exact .inr Z|exact .inl Z) Z Z ((eI l j5)) ((by simp)))
theorem zn(l:List Term)(hb:l.length<=10000000000):Pure prog 43 [.iv (bV 5 l Term.c)] (.iv (bV 5 l Term.c)):=by
 refine ae ab func43 Z (by decide) ntmps43 Z (by simp) Z ?_;refine fb Z ac (gU Z Z Z Z underlying94 Z fun b u=>?_);refine gA Z ?_;refine OF (fun x=>?_) (fun x=>?_)
 .have j:l=[]:=Ps (u x);subst j;refine gA Z (aH (by first|exact .inr Z|exact .inl Z) Z ?_);exact .nil _ _
 refine fb Z ac (jt ab Z Z Z Z Z Z Z fun A=>?_);by_cases j:l=[]
 .subst j;refine fb Z ac (j7 ab Z Z Z Z Z Z Z Z (el2:=fun k=>Term.c (([]:List Term).getD k ci)) Z ?_);refine gA Z (aH (by first|exact .inr Z|exact .inl Z) Z ?_);exact .refl _
 .have y:0<l.length:=PJ.2 j;refine fb Z ac (ju ab Z Z Z Z Z Z Z Z (by decide) Z (gy Z) (by simp;omega) (by show((O9 l.length).map _).length*56<=_;simp;omega) (by simp;omega) Z ?_);refine gA Z (dh (by first|exact .inr Z|exact .inl Z) Z Z ((eI l Term.c)) ((by simp)))
theorem Gh(l:List Lit)(hb:l.length<=10000000000):Pure prog 71 [.iv (bV 30 l Lit.c)] (.iv (bV 30 l Lit.c)):=by
 refine ae ab func71 Z (by decide) ntmps71 Z (by simp) Z ?_;refine fb Z ac (gU Z Z Z Z underlying97 Z fun b u=>?_);refine gA Z ?_;refine OF (fun x=>?_) (fun x=>?_)
 .have j:l=[]:=Ps (u x);subst j;refine gA Z (aH (by first|exact .inr Z|exact .inl Z) Z ?_);exact .nil _ _
 refine fb Z ac (jt ab Z Z Z Z Z Z Z fun A=>?_);by_cases j:l=[]
 .subst j;refine fb Z ac (j7 ab Z Z Z Z Z Z Z Z (el2:=fun k=>Lit.c (([]:List Lit).getD k ci)) Z ?_);refine gA Z (aH (by first|exact .inr Z|exact .inl Z) Z ?_);exact .refl _
 .have y:0<l.length:=PJ.2 j;refine fb Z ac (ju ab Z Z Z Z Z Z Z Z (by decide) Z (gy Z) (by simp;omega) (by show((O9 l.length).map _).length*384<=_;simp;omega) (by simp;omega) Z ?_);refine gA Z (dh (by first|exact .inr Z|exact .inl Z) Z Z ((eI l Lit.c)) ((by simp)))
theorem CG(l:List Lit)(hb:l.length<=10000000000)(h0:l≠ []):bI prog 71 [.iv (bV 30 l Lit.c)] [] (.sl 0 0 l.length 30) [(0,co (aT 30 l Lit.c))] 1:=by
 have x:0<l.length:=PJ.2 h0;refine ax ab func71 Z (by decide) ntmps71 Z (by simp) ?_;refine fb Z ac (gU Z Z Z Z underlying97 Z fun b j=>?_);refine gA Z ?_;refine OF (fun u=>?_) (fun u=>?_)
 .exact absurd (j u) (by omega)
 refine fb Z ac (jt ab Z Z Z Z Z Z Z fun y=>?_);refine fb Z ac (ju ab Z Z Z Z Z Z Z Z (by decide) Z (gy Z) (by simp;omega) (by show((O9 l.length).map _).length*384<=_;simp;omega) (by simp;omega) Z ?_);refine gA Z (bj [1] (by first|exact .inr Z|exact .inl Z) Z (wk Z Z Z ⟨.row (by simp),rfl,ac⟩ (hR Z (eI l Lit.c) Z ac) Z))
theorem Gk(l:List Expr)(hb:l.length<=10000000000):Pure prog 92 [.iv (bV 7 l Expr.c)] (.iv (bV 7 l Expr.c)):=by
 refine ae ab func92 Z (by decide) ntmps92 Z (by simp) Z ?_;refine fb Z ac (gU Z Z Z Z underlying122 Z fun b u=>?_);refine gA Z ?_;refine OF (fun x=>?_) (fun x=>?_)
 .have j:l=[]:=Ps (u x);subst j;refine gA Z (aH (by first|exact .inr Z|exact .inl Z) Z ?_);exact .nil _ _
 refine fb Z ac (jt ab Z Z Z Z Z Z Z fun A=>?_);by_cases j:l=[]
 .subst j;refine fb Z ac (j7 ab Z Z Z Z Z Z Z Z (el2:=fun k=>Expr.c (([]:List Expr).getD k ci)) Z ?_);refine gA Z (aH (by first|exact .inr Z|exact .inl Z) Z ?_);exact .refl _
 .have y:0<l.length:=PJ.2 j;refine fb Z ac (ju ab Z Z Z Z Z Z Z Z (by decide) Z (gy Z) (by simp;omega) (by show((O9 l.length).map _).length*88<=_;simp;omega) (by simp;omega) Z ?_);refine gA Z (dh (by first|exact .inr Z|exact .inl Z) Z Z ((eI l Expr.c)) ((by simp)))
theorem CH(l:List Expr)(hb:l.length<=10000000000)(h0:l≠ []):bI prog 92 [.iv (bV 7 l Expr.c)] [] (.sl 0 0 l.length 7) [(0,co (aT 7 l Expr.c))] 1:=by
 have x:0<l.length:=PJ.2 h0;refine ax ab func92 Z (by decide) ntmps92 Z (by simp) ?_;refine fb Z ac (gU Z Z Z Z underlying122 Z fun b j=>?_);refine gA Z ?_;refine OF (fun u=>?_) (fun u=>?_)
 .exact absurd (j u) (by omega)
 refine fb Z ac (jt ab Z Z Z Z Z Z Z fun y=>?_);refine fb Z ac (ju ab Z Z Z Z Z Z Z Z (by decide) Z (gy Z) (by simp;omega) (by show((O9 l.length).map _).length*88<=_;simp;omega) (by simp;omega) Z ?_);refine gA Z (bj [1] (by first|exact .inr Z|exact .inl Z) Z (wk Z Z Z ⟨.row (by simp),rfl,ac⟩ (hR Z (eI l Expr.c) Z ac) Z))
theorem Gg(l:List dM)(hb:l.length<=10000000000):Pure prog 49 [.iv (bV 3 l dM.c)] (.iv (bV 3 l dM.c)):=by
 refine ae ab func49 Z (by decide) ntmps49 Z (by simp) Z ?_;refine fb Z ac (gU Z Z Z Z underlying37 Z fun b u=>?_);refine gA Z ?_;refine OF (fun x=>?_) (fun x=>?_)
 .have j:l=[]:=Ps (u x);subst j;refine gA Z (aH (by first|exact .inr Z|exact .inl Z) Z ?_);exact .nil _ _
 refine fb Z ac (jt ab Z Z Z Z Z Z Z fun A=>?_);by_cases j:l=[]
 .subst j;refine fb Z ac (j7 ab Z Z Z Z Z Z Z Z (el2:=fun k=>dM.c (([]:List dM).getD k ci)) Z ?_);refine gA Z (aH (by first|exact .inr Z|exact .inl Z) Z ?_);exact .refl _
 .have y:0<l.length:=PJ.2 j;refine fb Z ac (ju ab Z Z Z Z Z Z Z Z (by decide) Z (gy Z) (by simp;omega) (by show((O9 l.length).map _).length*32<=_;simp;omega) (by simp;omega) Z ?_);refine gA Z (dh (by first|exact .inr Z|exact .inl Z) Z Z ((eI l dM.c)) ((by simp)))
theorem Gj(l:List Fact)(hb:l.length<=10000000000):Pure prog 54 [.iv (bV 2 l Fact.c)] (.iv (bV 2 l Fact.c)):=by
 refine ae ab func54 Z (by decide) ntmps54 Z (by simp) Z ?_;refine fb Z ac (gU Z Z Z Z underlying48 Z fun b u=>?_);refine gA Z ?_;refine OF (fun x=>?_) (fun x=>?_)
 .have j:l=[]:=Ps (u x);subst j;refine gA Z (aH (by first|exact .inr Z|exact .inl Z) Z ?_);exact .nil _ _
 refine fb Z ac (jt ab Z Z Z Z Z Z Z fun A=>?_);by_cases j:l=[]
 .subst j;refine fb Z ac (j7 ab Z Z Z Z Z Z Z Z (el2:=fun k=>Fact.c (([]:List Fact).getD k ci)) Z ?_);refine gA Z (aH (by first|exact .inr Z|exact .inl Z) Z ?_);exact .refl _
 .have y:0<l.length:=PJ.2 j;refine fb Z ac (ju ab Z Z Z Z Z Z Z Z (by decide) Z (gy Z) (by simp;omega) (by show((O9 l.length).map _).length*40<=_;simp;omega) (by simp;omega) Z ?_);refine gA Z (dh (by first|exact .inr Z|exact .inl Z) Z Z ((eI l Fact.c)) ((by simp)))
theorem CK{α:Type}[Inhabited α]{l:List α}{g:α->List PV}{i:Nat}(hi:i<l.length):(l.map g).set (0+i) (g (l.getD i ci))=l.map g:=by
 refine QE fun j=>?_;rw[O8,Qe];split
 .rename_i e;subst e;rw[am (by simpa using hi),OH,OC,OD hi];rfl
 .rfl
theorem CL{α:Type}[Inhabited α]{l:List α}{g:α->List PV}{i:Nat}(hi:i<l.length):(l.map g)[0+i]? =co (g (l.getD i ci)):=by
 rw[O8,OH,OC,OD hi];rfl
theorem IS: ∀(n:Nat) (e:Expr),e.size<=n->e.size<=1000000000->Pure prog 72 [ag e.c] (ag e.c)
 |0,e,h,_=>absurd e.size_pos (by omega)
 |n+1,e,h,hb=>by
  have A:=e.size_eq;have y:=Expr.aF e.args;refine Al.Pure.le (aa:=[ag e.c]) (args:=[ag e.c1]) ?_ ⟨e.DA,ac⟩;by_cases j:e.args=[]
  .refine ae ab func72 Z (by decide) ntmps72 Z (by simp) Z ?_;refine gA Z (aA (Gk e.args (by omega)) Z Z Z Z Z Z ?_);refine gA Z (nQ (n:=0) ?_);refine gA Z ?_;refine OF (fun u=>?_) (fun u=>?_)
   .exact absurd u (by simp[j])
   refine gA Z (aH (by first|exact .inr Z|exact .inl Z) Z ?_);exact e.G0
  refine ae ab func72 Z (by decide) ntmps72 Z (by simp) Z ?_;refine gA Z (cJ [] (CH e.args (by omega) j) Z Z Z Z Z Z Z Z ?_);refine gA Z ?_;refine aM 0 e.args.length (OS _) (fun i=>⟨[(1,.ptr 0 0),(2,.ptr 1 0),(10,pI e.args.length),(11,pI i)],[(0,co (.cells [.iv (iI e.kind),.iv (iS e.var),.iv (iI e.val.kind),.iv (iI e.val.num),.iv (iS e.val.sym),.iv (iI e.op),.sl 2 0 e.args.length 7])),(1,co (.cells [pI 0,pS OI,pI 0,pI 0,pS OI,pI 0,.iv (.v (.slice io 0 0))])),(2,co (aT 7 e.args Expr.c))],3⟩) (fun _=>True) [] ac
   (wk Z Z Z (bi (bi (bi (bi trivial)))) ⟨⟨_,rfl,.of_eq Z⟩,Oy Z,rfl,⟨⟨_,rfl,.of_eq Z⟩,Oy Z,rfl,hR Z (by rw[Qf];exact QJ fun x _=>mu _ _) Z trivial⟩⟩ Z) fun i C _=>?_
  refine gA Z ?_;refine OF (fun h1=>?_) (fun h1=>?_)
  .have h1:i<e.args.length:=by simpa using h1
   have B:=Expr.bN e.args i h1;have b:=CL (g:=fun x=>(Expr.c x).map PV.iv) h1;refine gM 16 Z (sv (p:=ag (e.args.getD i ci).c) 7 Z Z Z Z Z Z (gP ab Z Z Z Z b Z) ?_);refine gA Z (bD ab [] (Pure.q9 (IS n (e.args.getD i ci) (by omega) (by omega))) Z Z Z Z Z Z Z Z Z Z Z Z (by(repeat' (first|exact ac|exact rfl|exact an.refl _|exact an.bk (by assumption)|apply OF))<;>first|omega|(simp only[OG];omega)|(simp;done)|(simp;omega)) Z (by(repeat' (first|exact ac|exact rfl|exact an.refl _|exact an.bk (by assumption)|apply OF))<;>first|omega|(simp only[OG];omega)|(simp;done)|(simp;omega)) ?_);refine gA Z (kO ab Z Z Z Z Z (by first|trivial|(repeat' apply OF)<;>trivial) (x9 ab Z Z (i:=2) (sz:=7) (q:=0+i) Z Z Z Z (by simp;omega) Z Z Z) Z (by first|trivial|(repeat' apply OF)<;>trivial) ?_);refine gA Z ⟨h1,ac,[],wk Z Z Z (bi (bi (bi (bi ac)))) ⟨⟨_,rfl,.of_eq Z⟩,Oy Z,rfl,⟨⟨_,rfl,.of_eq Z⟩,Oy Z,rfl,hR Z (CK (g:=fun x=>(Expr.c x).map PV.iv) h1) Z ac⟩⟩ Z⟩
  .have h1:e.args.length<=i:=by simpa using h1
   refine gA Z (kR (.inr Z) Z (gZ.CN 2 e.args Expr.c Z Z (by simp[PV.dC,dQ]) (.done ?_)));have:an (ag e.c1) (ag e.c):=e.G0;simp only[PV.dR,pD,O8];exact this
theorem yg(e:Expr)(hb:e.size<=1000000000):Pure prog 72 [ag e.c] (ag e.c):=IS e.size e (OL _) hb
theorem mn(f:Fact)(hb:f.args.length<=10000000000):Pure prog 26 [ag f.c] (ag f.c):=by
 refine ae ab func26 Z (by decide) ntmps26 Z (by simp) Z ?_;refine gA Z (bD ab [] (Pure.q9 (Gg f.args hb)) Z Z Z Z Z Z Z Z Z Z Z Z (by(repeat' (first|exact ac|exact rfl|exact an.refl _|exact an.bk (by assumption)|apply OF))<;>first|omega|(simp only[OG];omega)|(simp;done)|(simp;omega)) Z (by(repeat' (first|exact ac|exact rfl|exact an.refl _|exact an.bk (by assumption)|apply OF))<;>first|omega|(simp only[OG];omega)|(simp;done)|(simp;omega)) ?_);refine gA Z (aH (by first|exact .inr Z|exact .inl Z) Z (.of_eq ?_));rfl
abbrev kF:KC:= .fl fp
abbrev NO(f:Fact):PV:=kF.pk (bG f)
theorem aU(a0:ak): ∀(args:List dM),args.length<=8->
  ([pS a0,pI args.length]++(aK eV.zero).drop 2).take 2++((O9 args.length).map fun k=>(dM.c (args.getD k ci)).map PV.iv).flatten++([pS a0,pI args.length]++(aK eV.zero).drop 2).drop (2+((O9 args.length).map fun k=>(dM.c (args.getD k ci)).map PV.iv).length*3)
   =(FK.vs fp (bG ⟨a0,args⟩)).map fun v=>PV.iv (.v v)
 | [],_=>rfl
 | [_],_=>rfl
 | [_,_],_=>rfl
 | [_,_,_],_=>rfl
 | [_,_,_,_],_=>rfl
 | [_,_,_,_,_],_=>rfl
 | [_,_,_,_,_,_],_=>rfl
 | [_,_,_,_,_,_,_],_=>rfl
 | [_,_,_,_,_,_,_,_],_=>rfl
 |_::_::_::_::_::_::_::_::_::_,h=>by simp at h
theorem CD(f:Fact)(hb:f.args.length<=8):Pure prog 46 [ag f.c] (.bh [NO f,pB is]):=by
 refine ae ab func46 Z (by decide) ntmps46 Z (by simp) Z ?_;refine gA Z ?_;refine OF (fun h1=>?_) (fun h1=>?_)
 .exact absurd h1 (by simp;omega)
 refine gA Z (sv (p:= .mA 2 2 8) 1 Z Z Z Z Z Z (HB ab Z Z Z Z Z) ?_);refine gA Z (kO ab Z Z Z Z Z (by(repeat' (first|exact ac|exact rfl|exact an.refl _|exact an.bk (by assumption)|apply OF))<;>first|omega|(simp only[OG];omega)|(simp;done)|(simp;omega)) (Em ab Z Z Z Z Z Z Z (gy Z) (fun e b=>by obtain⟨k,_,rfl⟩:=Pg.1 b;rfl) (by simp;omega) (by show 2+_*3<=26;simp;omega) Z) Z (by(repeat' (first|exact ac|exact rfl|exact an.refl _|exact an.bk (by assumption)|apply OF))<;>first|omega|(simp only[OG];omega)|(simp;done)|(simp;omega)) ?_)
 first
  |(refine gM 1 Z ?_;refine ah (L:=[]) (t:=⟨[(2,.ptr 1 0),(4,.ptr 2 0)],[(1,co (.cells (aK eV.zero))),(2,co (ay ((FK.vs fp (bG f)).map IV.v)))],3⟩) (wk Z Z Z (bi (bi ac)) ⟨⟨_,rfl,.of_eq Z⟩,Oy Z,rfl,hC Z (aU f.rel f.args hb) Z ac⟩ Z) ?_)
  |(refine gM 2 Z ?_;refine ah (L:=[]) (t:=⟨[(2,.ptr 1 0),(4,.ptr 2 0)],[(1,co (.cells (aK eV.zero))),(2,co (ay ((FK.vs fp (bG f)).map IV.v)))],3⟩) (wk Z Z Z (bi (bi ac)) ⟨⟨_,rfl,.of_eq Z⟩,Oy Z,rfl,hC Z (aU f.rel f.args hb) Z ac⟩ Z) ?_)
  |(refine gM 3 Z ?_;refine ah (L:=[]) (t:=⟨[(2,.ptr 1 0),(4,.ptr 2 0)],[(1,co (.cells (aK eV.zero))),(2,co (ay ((FK.vs fp (bG f)).map IV.v)))],3⟩) (wk Z Z Z (bi (bi ac)) ⟨⟨_,rfl,.of_eq Z⟩,Oy Z,rfl,hC Z (aU f.rel f.args hb) Z ac⟩ Z) ?_)
  |(refine gM 4 Z ?_;refine ah (L:=[]) (t:=⟨[(2,.ptr 1 0),(4,.ptr 2 0)],[(1,co (.cells (aK eV.zero))),(2,co (ay ((FK.vs fp (bG f)).map IV.v)))],3⟩) (wk Z Z Z (bi (bi ac)) ⟨⟨_,rfl,.of_eq Z⟩,Oy Z,rfl,hC Z (aU f.rel f.args hb) Z ac⟩ Z) ?_)
  |(refine gM 5 Z ?_;refine ah (L:=[]) (t:=⟨[(2,.ptr 1 0),(4,.ptr 2 0)],[(1,co (.cells (aK eV.zero))),(2,co (ay ((FK.vs fp (bG f)).map IV.v)))],3⟩) (wk Z Z Z (bi (bi ac)) ⟨⟨_,rfl,.of_eq Z⟩,Oy Z,rfl,hC Z (aU f.rel f.args hb) Z ac⟩ Z) ?_)
  |(refine gM 6 Z ?_;refine ah (L:=[]) (t:=⟨[(2,.ptr 1 0),(4,.ptr 2 0)],[(1,co (.cells (aK eV.zero))),(2,co (ay ((FK.vs fp (bG f)).map IV.v)))],3⟩) (wk Z Z Z (bi (bi ac)) ⟨⟨_,rfl,.of_eq Z⟩,Oy Z,rfl,hC Z (aU f.rel f.args hb) Z ac⟩ Z) ?_)
  |(refine gM 7 Z ?_;refine ah (L:=[]) (t:=⟨[(2,.ptr 1 0),(4,.ptr 2 0)],[(1,co (.cells (aK eV.zero))),(2,co (ay ((FK.vs fp (bG f)).map IV.v)))],3⟩) (wk Z Z Z (bi (bi ac)) ⟨⟨_,rfl,.of_eq Z⟩,Oy Z,rfl,hC Z (aU f.rel f.args hb) Z ac⟩ Z) ?_)
  |(refine gM 8 Z ?_;refine ah (L:=[]) (t:=⟨[(2,.ptr 1 0),(4,.ptr 2 0)],[(1,co (.cells (aK eV.zero))),(2,co (ay ((FK.vs fp (bG f)).map IV.v)))],3⟩) (wk Z Z Z (bi (bi ac)) ⟨⟨_,rfl,.of_eq Z⟩,Oy Z,rfl,hC Z (aU f.rel f.args hb) Z ac⟩ Z) ?_)
  |(refine gM 9 Z ?_;refine ah (L:=[]) (t:=⟨[(2,.ptr 1 0),(4,.ptr 2 0)],[(1,co (.cells (aK eV.zero))),(2,co (ay ((FK.vs fp (bG f)).map IV.v)))],3⟩) (wk Z Z Z (bi (bi ac)) ⟨⟨_,rfl,.of_eq Z⟩,Oy Z,rfl,hC Z (aU f.rel f.args hb) Z ac⟩ Z) ?_)
  |(refine gM 10 Z ?_;refine ah (L:=[]) (t:=⟨[(2,.ptr 1 0),(4,.ptr 2 0)],[(1,co (.cells (aK eV.zero))),(2,co (ay ((FK.vs fp (bG f)).map IV.v)))],3⟩) (wk Z Z Z (bi (bi ac)) ⟨⟨_,rfl,.of_eq Z⟩,Oy Z,rfl,hC Z (aU f.rel f.args hb) Z ac⟩ Z) ?_)
  |(refine gM 11 Z ?_;refine ah (L:=[]) (t:=⟨[(2,.ptr 1 0),(4,.ptr 2 0)],[(1,co (.cells (aK eV.zero))),(2,co (ay ((FK.vs fp (bG f)).map IV.v)))],3⟩) (wk Z Z Z (bi (bi ac)) ⟨⟨_,rfl,.of_eq Z⟩,Oy Z,rfl,hC Z (aU f.rel f.args hb) Z ac⟩ Z) ?_)
  |(refine gM 12 Z ?_;refine ah (L:=[]) (t:=⟨[(2,.ptr 1 0),(4,.ptr 2 0)],[(1,co (.cells (aK eV.zero))),(2,co (ay ((FK.vs fp (bG f)).map IV.v)))],3⟩) (wk Z Z Z (bi (bi ac)) ⟨⟨_,rfl,.of_eq Z⟩,Oy Z,rfl,hC Z (aU f.rel f.args hb) Z ac⟩ Z) ?_)
  |(refine gM 13 Z ?_;refine ah (L:=[]) (t:=⟨[(2,.ptr 1 0),(4,.ptr 2 0)],[(1,co (.cells (aK eV.zero))),(2,co (ay ((FK.vs fp (bG f)).map IV.v)))],3⟩) (wk Z Z Z (bi (bi ac)) ⟨⟨_,rfl,.of_eq Z⟩,Oy Z,rfl,hC Z (aU f.rel f.args hb) Z ac⟩ Z) ?_)
  |(refine gM 14 Z ?_;refine ah (L:=[]) (t:=⟨[(2,.ptr 1 0),(4,.ptr 2 0)],[(1,co (.cells (aK eV.zero))),(2,co (ay ((FK.vs fp (bG f)).map IV.v)))],3⟩) (wk Z Z Z (bi (bi ac)) ⟨⟨_,rfl,.of_eq Z⟩,Oy Z,rfl,hC Z (aU f.rel f.args hb) Z ac⟩ Z) ?_)
  |(refine gM 15 Z ?_;refine ah (L:=[]) (t:=⟨[(2,.ptr 1 0),(4,.ptr 2 0)],[(1,co (.cells (aK eV.zero))),(2,co (ay ((FK.vs fp (bG f)).map IV.v)))],3⟩) (wk Z Z Z (bi (bi ac)) ⟨⟨_,rfl,.of_eq Z⟩,Oy Z,rfl,hC Z (aU f.rel f.args hb) Z ac⟩ Z) ?_)
  |(refine gM 16 Z ?_;refine ah (L:=[]) (t:=⟨[(2,.ptr 1 0),(4,.ptr 2 0)],[(1,co (.cells (aK eV.zero))),(2,co (ay ((FK.vs fp (bG f)).map IV.v)))],3⟩) (wk Z Z Z (bi (bi ac)) ⟨⟨_,rfl,.of_eq Z⟩,Oy Z,rfl,hC Z (aU f.rel f.args hb) Z ac⟩ Z) ?_)
  |(refine gM 17 Z ?_;refine ah (L:=[]) (t:=⟨[(2,.ptr 1 0),(4,.ptr 2 0)],[(1,co (.cells (aK eV.zero))),(2,co (ay ((FK.vs fp (bG f)).map IV.v)))],3⟩) (wk Z Z Z (bi (bi ac)) ⟨⟨_,rfl,.of_eq Z⟩,Oy Z,rfl,hC Z (aU f.rel f.args hb) Z ac⟩ Z) ?_)
  |(refine gM 18 Z ?_;refine ah (L:=[]) (t:=⟨[(2,.ptr 1 0),(4,.ptr 2 0)],[(1,co (.cells (aK eV.zero))),(2,co (ay ((FK.vs fp (bG f)).map IV.v)))],3⟩) (wk Z Z Z (bi (bi ac)) ⟨⟨_,rfl,.of_eq Z⟩,Oy Z,rfl,hC Z (aU f.rel f.args hb) Z ac⟩ Z) ?_)
  |(refine gM 19 Z ?_;refine ah (L:=[]) (t:=⟨[(2,.ptr 1 0),(4,.ptr 2 0)],[(1,co (.cells (aK eV.zero))),(2,co (ay ((FK.vs fp (bG f)).map IV.v)))],3⟩) (wk Z Z Z (bi (bi ac)) ⟨⟨_,rfl,.of_eq Z⟩,Oy Z,rfl,hC Z (aU f.rel f.args hb) Z ac⟩ Z) ?_)
  |(refine gM 20 Z ?_;refine ah (L:=[]) (t:=⟨[(2,.ptr 1 0),(4,.ptr 2 0)],[(1,co (.cells (aK eV.zero))),(2,co (ay ((FK.vs fp (bG f)).map IV.v)))],3⟩) (wk Z Z Z (bi (bi ac)) ⟨⟨_,rfl,.of_eq Z⟩,Oy Z,rfl,hC Z (aU f.rel f.args hb) Z ac⟩ Z) ?_)
  |(refine gM 21 Z ?_;refine ah (L:=[]) (t:=⟨[(2,.ptr 1 0),(4,.ptr 2 0)],[(1,co (.cells (aK eV.zero))),(2,co (ay ((FK.vs fp (bG f)).map IV.v)))],3⟩) (wk Z Z Z (bi (bi ac)) ⟨⟨_,rfl,.of_eq Z⟩,Oy Z,rfl,hC Z (aU f.rel f.args hb) Z ac⟩ Z) ?_)
  |(refine gM 22 Z ?_;refine ah (L:=[]) (t:=⟨[(2,.ptr 1 0),(4,.ptr 2 0)],[(1,co (.cells (aK eV.zero))),(2,co (ay ((FK.vs fp (bG f)).map IV.v)))],3⟩) (wk Z Z Z (bi (bi ac)) ⟨⟨_,rfl,.of_eq Z⟩,Oy Z,rfl,hC Z (aU f.rel f.args hb) Z ac⟩ Z) ?_)
  |(refine gM 23 Z ?_;refine ah (L:=[]) (t:=⟨[(2,.ptr 1 0),(4,.ptr 2 0)],[(1,co (.cells (aK eV.zero))),(2,co (ay ((FK.vs fp (bG f)).map IV.v)))],3⟩) (wk Z Z Z (bi (bi ac)) ⟨⟨_,rfl,.of_eq Z⟩,Oy Z,rfl,hC Z (aU f.rel f.args hb) Z ac⟩ Z) ?_)
  |(refine gM 24 Z ?_;refine ah (L:=[]) (t:=⟨[(2,.ptr 1 0),(4,.ptr 2 0)],[(1,co (.cells (aK eV.zero))),(2,co (ay ((FK.vs fp (bG f)).map IV.v)))],3⟩) (wk Z Z Z (bi (bi ac)) ⟨⟨_,rfl,.of_eq Z⟩,Oy Z,rfl,hC Z (aU f.rel f.args hb) Z ac⟩ Z) ?_)
  |(refine gM 25 Z ?_;refine ah (L:=[]) (t:=⟨[(2,.ptr 1 0),(4,.ptr 2 0)],[(1,co (.cells (aK eV.zero))),(2,co (ay ((FK.vs fp (bG f)).map IV.v)))],3⟩) (wk Z Z Z (bi (bi ac)) ⟨⟨_,rfl,.of_eq Z⟩,Oy Z,rfl,hC Z (aU f.rel f.args hb) Z ac⟩ Z) ?_)
  |(refine gM 26 Z ?_;refine ah (L:=[]) (t:=⟨[(2,.ptr 1 0),(4,.ptr 2 0)],[(1,co (.cells (aK eV.zero))),(2,co (ay ((FK.vs fp (bG f)).map IV.v)))],3⟩) (wk Z Z Z (bi (bi ac)) ⟨⟨_,rfl,.of_eq Z⟩,Oy Z,rfl,hC Z (aU f.rel f.args hb) Z ac⟩ Z) ?_)
  |(refine gM 27 Z ?_;refine ah (L:=[]) (t:=⟨[(2,.ptr 1 0),(4,.ptr 2 0)],[(1,co (.cells (aK eV.zero))),(2,co (ay ((FK.vs fp (bG f)).map IV.v)))],3⟩) (wk Z Z Z (bi (bi ac)) ⟨⟨_,rfl,.of_eq Z⟩,Oy Z,rfl,hC Z (aU f.rel f.args hb) Z ac⟩ Z) ?_)
  |(refine gM 28 Z ?_;refine ah (L:=[]) (t:=⟨[(2,.ptr 1 0),(4,.ptr 2 0)],[(1,co (.cells (aK eV.zero))),(2,co (ay ((FK.vs fp (bG f)).map IV.v)))],3⟩) (wk Z Z Z (bi (bi ac)) ⟨⟨_,rfl,.of_eq Z⟩,Oy Z,rfl,hC Z (aU f.rel f.args hb) Z ac⟩ Z) ?_)
  |(refine gM 29 Z ?_;refine ah (L:=[]) (t:=⟨[(2,.ptr 1 0),(4,.ptr 2 0)],[(1,co (.cells (aK eV.zero))),(2,co (ay ((FK.vs fp (bG f)).map IV.v)))],3⟩) (wk Z Z Z (bi (bi ac)) ⟨⟨_,rfl,.of_eq Z⟩,Oy Z,rfl,hC Z (aU f.rel f.args hb) Z ac⟩ Z) ?_)
 refine gA Z (aH (by first|exact .inr Z|exact .inl Z) Z (.of_eq ?_));rfl
theorem Kh(f:Fact)(hb:8<f.args.length):Pure prog 46 [ag f.c] (.bh [.agg (aK eV.zero),pB jp]):=by
 refine ae ab func46 Z (by decide) ntmps46 Z (by simp) Z ?_;refine gA Z ?_;refine OF (fun h1=>?_) (fun h1=>?_)
 .refine gA Z (aH (by first|exact .inr Z|exact .inl Z) Z (.of_eq ?_));rfl
 .exact absurd h1 (by simp;omega)
end Go.Proofs.YtllkaddcplhklaaGreatDoor
namespace Go.Proofs.YtllkaddcplhklaaGreatDoor
open Go Go.Al Go.Bo
section
def Fact.z:Fact:=⟨OI,[]⟩
def D6(f:Fact):IV:= .agg f.c
def I2:Value:= .agg #[.string OI,.slice io 0 0]
def valOf:List IV->dM
 | [.v (.int _ k),.v (.int _ n),.v (.string s)]=>⟨k,n,s⟩
 |_=>⟨0,0,OI⟩
def MY:PV->Fact
 | .agg [.iv (.v (.string s)),.iv (.cp _ n el)]=>⟨s,(O9 n).map fun k=>valOf (el k)⟩
 |_=>Fact.z
def xU(x:bY Fact):IV:= .agg (ef x)
def Hs:Value:= .agg #[.bool jp,.string OI,.slice io 0 0]
def bY.z:bY Fact:=(jp,Fact.z)
def Nq:PV->bY Fact
 | .agg [.iv (.v (.bool b)),p,q]=>(b,MY (.agg [p,q]))
 |_=>bY.z
abbrev FM:=List (kF.K×Fact)
abbrev CM:=List (kF.K×bY Fact)
abbrev fi(m:FM):AO:= .map kF D6 Fact.z I2 MY m
abbrev Er(m:CM):AO:= .map kF xU bY.z Hs Nq m
abbrev xT(m:CM):IV:= .dJ kF xU bY.z Hs m
theorem B7(l:List dM):(O9 l.length).map (fun k=>valOf (dM.c (l.getD k ci)))=l:=by
 apply QE;intro k;by_cases hk:k<l.length
 .simp[hk,valOf,dM.c]
 .simp[hk]
theorem D9(f:Fact):MY (ag f.c)=f:=by
 show(⟨f.rel,(O9 f.args.length).map fun k=>valOf (dM.c (f.args.getD k ci))⟩:Fact)=f;rw[B7]
theorem I5(x:bY Fact):Nq (ag (ef x))=x:=by
 show(x.1,MY (ag x.2.c))=x;rw[D9]
theorem D5(f:Fact):an (ag f.c) (.iv (D6 (MY (ag f.c)))):=by rw[D9];exact Nt _
theorem Ht(x:bY Fact):an (ag (ef x)) (.iv (xU (Nq (ag (ef x))))):=by rw[I5];exact Nt _
theorem D4: ∀M,IR M (D6 Fact.z) I2:=fun M=>by
 refine .agg _ _ Z fun j p b=>?_
 match j,b with
 |0,b=>cases b;exact .v _
 |1,b=>cases b;exact .fh _ _ _ _
 |j+2,b=>simp[Fact.c]at b
theorem Hr: ∀M,IR M (xU bY.z) Hs:=fun M=>by
 refine .agg _ _ Z fun j p b=>?_
 match j,b with
 |0,b=>cases b;exact .v _
 |1,b=>cases b;exact .v _
 |2,b=>cases b;exact .fh _ _ _ _
 |j+3,b=>simp[ef,Fact.c]at b
abbrev gX(p:Prog)(n:Nat)(i:Nat):AO:= .cells [.mp i,.iv (bV 4 p.aR Decl.c),.iv (bV 5 p.rules aw.c),pI n]
abbrev lq:PV:= .iv (.v (.pointer io))
section
variable (p:Prog) (n:Nat) (m:FM)
abbrev bO:List AO:=[fi m,gX p n 0]
abbrev bH:AH:=[(0,co (fi m)),(1,co (gX p n 0))]
theorem Gf:bI Tryz.prog 13 [.ptr 1 0] (bO p n m) (pI n) (bH p n m) 2:=by
 refine ax ab Tryz.func13 Z (by decide) Tryz.ntmps13 Z (by simp) ?_;refine gA Z ?_;refine OF (fun h1=>?_) (fun h1=>?_)
 .exact absurd h1 (by decide)
 refine gA Z (bj [] (by first|exact .inr Z|exact .inl Z) Z (wk Z Z Z (bi ac) (hM Z Z Z ⟨⟨_,rfl,.of_eq Z⟩,Oy Z,rfl,ac⟩) Z))
end
end
end Go.Proofs.YtllkaddcplhklaaGreatDoor
namespace Go.Proofs
open Go.Shelf
def Tryz.xx:Go.Shelf.Ren:=⟨fun|6=>50|15=>76|14=>75|28=>103|29=>104|20=>95|21=>96|22=>97|23=>98|24=>99|25=>100|26=>101|27=>102|46=>142|47=>143|48=>144|49=>145|50=>146|57=>182|n=>n,fun|22=>36|24=>42|25=>114|3=>3|39=>147|0=>0|53=>175|55=>177|4=>4|46=>168|45=>167|50=>172|5=>5|9=>9|66=>210|70=>214|76=>258|77=>259|n=>n,fun|n=>n⟩
theorem Tryz.zQ:Go.Proofs.SlLaysF0.n6 Tryz.prog Tryz.xx:={
 mixed:=by kernel_rfl
 f6:=⟨Tryz.f50.name,by decide,Tryz.func50.trans (congrArg co (by kernel_rfl))⟩
 f14:=⟨Tryz.f75.name,by decide,Tryz.func75.trans (congrArg co (by kernel_rfl))⟩
 f15:=Tryz.func76.trans (congrArg co (by kernel_rfl))
 f20:=⟨Tryz.f95.name,by decide,Tryz.func95.trans (congrArg co (by kernel_rfl))⟩
 f21:=⟨Tryz.f96.name,by decide,Tryz.func96.trans (congrArg co (by kernel_rfl))⟩
 f22:=⟨Tryz.f97.name,by decide,Tryz.func97.trans (congrArg co (by kernel_rfl))⟩
 f23:=⟨Tryz.f98.name,by decide,Tryz.func98.trans (congrArg co (by kernel_rfl))⟩
 f24:=⟨Tryz.f99.name,by decide,Tryz.func99.trans (congrArg co (by kernel_rfl))⟩
 f25:=⟨Tryz.f100.name,by decide,Tryz.func100.trans (congrArg co (by kernel_rfl))⟩
 f26:=⟨Tryz.f101.name,by decide,Tryz.func101.trans (congrArg co (by kernel_rfl))⟩
 f27:=⟨Tryz.f102.name,by decide,Tryz.func102.trans (congrArg co (by kernel_rfl))⟩
 f28:=Tryz.func103.trans (congrArg co (by kernel_rfl))
 f29:=Tryz.func104.trans (congrArg co (by kernel_rfl))
 f46:=⟨Tryz.f142.name,by decide,Tryz.func142.trans (congrArg co (by kernel_rfl))⟩
 f47:=Tryz.func143.trans (congrArg co (by kernel_rfl))
 f48:=Tryz.func144.trans (congrArg co (by kernel_rfl))
 f49:=⟨Tryz.f145.name,by decide,Tryz.func145.trans (congrArg co (by kernel_rfl))⟩
 f50:=⟨Tryz.f146.name,by decide,Tryz.func146.trans (congrArg co (by kernel_rfl))⟩
 f57:=⟨Tryz.f182.name,by decide,Tryz.func182.trans (congrArg co (by kernel_rfl))⟩
 t0:=Tryz.underlying0
 a0:=Tryz.isAgg0
 z0:=Tryz.sizeOf0
 v0:=Tryz.zeroValue0
 t3:=Tryz.underlying3
 a3:=Tryz.isAgg3
 z3:=Tryz.sizeOf3
 v3:=Tryz.zeroValue3
 t4:=Tryz.underlying4
 a4:=Tryz.isAgg4
 z4:=Tryz.sizeOf4
 v4:=Tryz.zeroValue4
 t5:=Tryz.underlying5
 a5:=Tryz.isAgg5
 z5:=Tryz.sizeOf5
 v5:=Tryz.zeroValue5
 t9:=Tryz.underlying9
 a9:=Tryz.isAgg9
 z9:=Tryz.sizeOf9
 v9:=Tryz.zeroValue9
 t22:=Tryz.underlying36
 a22:=Tryz.isAgg36
 z22:=Tryz.sizeOf36
 v22:=Tryz.zeroValue36
 t25:=Tryz.underlying114
 a25:=Tryz.isAgg114
 z25:=Tryz.sizeOf114
 v25:=Tryz.zeroValue114
 t39:=Tryz.underlying147
 a39:=Tryz.isAgg147
 z39:=Tryz.sizeOf147
 v39:=Tryz.zeroValue147
 t45:=Tryz.underlying167
 a45:=Tryz.isAgg167
 z45:=Tryz.sizeOf167
 v45:=Tryz.zeroValue167
 t46:=Tryz.underlying168
 a46:=Tryz.isAgg168
 z46:=Tryz.sizeOf168
 v46:=Tryz.zeroValue168
 t50:=Tryz.underlying172
 a50:=Tryz.isAgg172
 z50:=Tryz.sizeOf172
 v50:=Tryz.zeroValue172
 t53:=Tryz.underlying175
 a53:=Tryz.isAgg175
 z53:=Tryz.sizeOf175
 v53:=Tryz.zeroValue175
 t55:=Tryz.underlying177
 a55:=Tryz.isAgg177
 z55:=Tryz.sizeOf177
 v55:=Tryz.zeroValue177
 t66:=Tryz.underlying210
 a66:=Tryz.isAgg210
 z66:=Tryz.sizeOf210
 v66:=Tryz.zeroValue210
 t70:=Tryz.underlying214
 a70:=Tryz.isAgg214
 z70:=Tryz.sizeOf214
 v70:=Tryz.zeroValue214
 t76:=Tryz.underlying258
 a76:=Tryz.isAgg258
 z76:=Tryz.sizeOf258
 v76:=Tryz.zeroValue258
 t77:=Tryz.underlying259
 a77:=Tryz.isAgg259
 z77:=Tryz.sizeOf259
 v77:=Tryz.zeroValue259}
theorem YtllkaddcplhklaaGreatDoor.Mj:Go.Al.EJ Tryz.prog 50 3:=
 ⟨fun enc hk h1 A hO g y x b0 a0 d w eg j hH b u=>AnyQ.slices_SortFunc Tryz.zQ 3 (fun _=>Go.Al.fx (YtllkaddcplhklaaGreatDoor.ab 42 _ Z)) (fun _=>Go.Al.aO (YtllkaddcplhklaaGreatDoor.ab 42 _ Z)) enc hk h1 A hO g y x b0 a0 d w eg j hH b u,
  fun p a0 B w=>AnyF.slices_SortFunc_none Tryz.zQ p a0 B w⟩
end Go.Proofs
namespace Go.Proofs.YtllkaddcplhklaaGreatDoor
open Go Go.Al Go.Proofs.Tryz Go.Bo
theorem Ct{l u:List (bY Fact)}(hF: ∀x∈l,x.2.args.length<=1000000000)(hn:(l.map (·.2)).Nodup)(hp:l.Perm u)(hs:sZ bq u)(j:l.length<=1000000000000):bI prog 50 [.sl 0 0 l.length 3,.bX (.func 51) [] []] [aT 3 l ef] (.bh []) [(0,co (aT 3 u ef))] 1:=
 AP Mj (bc func50 Z (by decide)) (bc func51 Z (by decide)) (by decide) ef (fun a b=>bq a.2 b.2) (fun f=>f.2.args.length<=1000000000) (fun x y A B=>Gl x y A B) (fun _=>rfl)
  (fun x c hc=>by
   rcases OP.1 hc with rfl|hc
   .rfl
   rcases OP.1 hc with rfl|hc
   .rfl
   .rw[OM.1 hc];rfl)
  (fun x _=>qK.MM x.2) (fun x y z _ _ _=>qK.tr x.2 y.2 z.2) (fun x y z _ _ _=>qK.NF) l u hF (fun x A y B a b=>by
   have e:=qK.Mb a b;have key: ∀{l:List (bY Fact)},(l.map (·.2)).Nodup->x∈l->y∈l->x=y:=by
    intro l
    induction l with
    |nil=>intro _ m;cases m
    |cons z r ih=>
     intro hn m1 m2;rw[OZ,Pf]at hn;rcases OP.1 m1 with e1|e1<;>rcases OP.1 m2 with e2|e2
     .exact e1.trans e2.symm
     .exact absurd (Pg.2 ⟨_,e2,by rw[<-e,e1]⟩) hn.1
     .exact absurd (Pg.2 ⟨_,e1,by rw[e,e2]⟩) hn.1
     .exact ih hn.2 e1 e2
   exact key hn A B) hp (hs.imp fun{a b} h=>qK.asym h) j _ (fun M N U v h=>by
   cases h with
   |bX _ _ _ f' c' h1 h2=>simp at h1 h2;simp[P6 h1.symm,P6 h2.symm])
abbrev kj(m:CM)(j:Nat):bY Fact:=(m.getD j (bG Fact.z,bY.z)).2
theorem Bq{m:CM}{vs:List Nat}(hn:vs.Nodup)(u: ∀j∈vs,j<m.length)(h: ∀j,j<m.length->j∈vs):(vs.reverse.map (kj m)).Perm (m.map (·.2)):=by
 have h1:=(y8 hn u h).map fun j=>m.getD j (bG Fact.z,bY.z);rw[gm]at h1;have b:=h1.map (·.2);rw[Qf]at b;exact((List.reverse_perm vs).map _).trans b
theorem Mk{b:CM}{L:List (bY Fact)}(hp:(b.map (·.2)).Perm L)(hs:sZ bq L)(hF: ∀x∈L,x.2.args.length<=1000000000)(hl:L.length<=100000000):Pure prog 27 [.iv (xT b)] (.iv (bV 3 L ef)):=by
 have b0:b.length=L.length:=by have:=hp.length_eq;rwa[O7]at this
 refine ae ab func27 Z (by decide) ntmps27 Z (by simp) Z ?_;refine gA Z ?_;refine mv 3 3 Z ?_;refine eQ b (fun vs=>⟨[(3,.sl 2 0 (vs.reverse.map (kj b)).length 3),(7,.ptr 0 0)],[(0,co (.bB kF xU b vs io)),(2,co (aT 3 (vs.reverse.map (kj b)) ef))],3⟩) (fun vs=>vs.Nodup∧ ∀j∈vs,j<b.length) [1] ⟨Pk,by simp⟩
  (wk Z Z Z (bi (bi trivial)) (hI Z Z (.inl Z) Z (hR Z Z Z trivial)) Z) fun vs Y=>?_
 obtain⟨y,A⟩:=Y;have c0:=B4 y A;refine fb Z ac (dd Z Z Z Z Z (by decide) (fun C=>?_) fun j x B R=>?_)
 .have D:=(Bq y A C).trans hp;have G:=D.length_eq;refine gA Z (cJ [2] (Ct (fun x B=>hF x (D.mem_iff.1 B)) (((D.map (·.2)).nodup_iff).2 ((sZ.facts hs).nodup qK)) D hs (by omega)) Z Z Z Z Z (by show[_]=[co (AO.cj _ (aT _ _ _))];rw[b3];rfl) Z Z ?_);refine gA Z (dh (by first|exact .inr Z|exact .inl Z) Z Z ((by rw[Qf];exact QJ fun x _=>mu _ _)) (G))
 .have J:x.2=kj b j:=by rw[kj,OC,B];rfl
  have I:x.2∈L:=hp.mem_iff.1 (Pg.2 ⟨x,Pe B,rfl⟩);have a0: ∀u,u=j::vs->u.Nodup∧ ∀i∈u,i<b.length:=fun u e=>e▸⟨Pf.2 ⟨R,y⟩,fun i hi=>(OP.1 hi).elim (fun h=>h▸(OB.1 B).1) (A i)⟩;refine gA Z (bD ab [] (Pure.q9 (mn x.2.2 (by have:=hF _ I;omega))) Z Z Z Z Z Z Z Z Z Z Z Z (by(repeat' (first|exact ac|exact rfl|exact an.refl _|exact an.bk (by assumption)|apply OF))<;>first|omega|(simp only[OG];omega)|(simp;done)|(simp;omega)) Z (by(repeat' (first|exact ac|exact rfl|exact an.refl _|exact an.bk (by assumption)|apply OF))<;>first|omega|(simp only[OG];omega)|(simp;done)|(simp;omega)) ?_);refine gA Z ⟨j,x,B,R,a0 _ Z,[5],wk Z Z Z ⟨.row (by simp),rfl,bi ac⟩ (hI Z Z (.inr Z) Z (hR Z (by rw[List.reverse_cons,OX,OX,List.map_singleton,<-J];rfl) Z ac)) Z⟩
abbrev Aw:AO:= .cells [.ptr 1 0]
abbrev nO(p:Prog)(n:Nat)(m:FM):List AO:=[fi m,gX p n 0,Aw]
abbrev nH(p:Prog)(n:Nat)(m:FM):AH:=[(0,co (fi m)),(1,co (gX p n 0)),(2,co Aw)]
def lk(m:FM)(e:kF.K×bY Fact):Bool:=cV kF m e.1==e.2.1
theorem Mq(p:Prog)(n:Nat)(m:FM)(k:kF.K)(x:bY Fact):bI prog 48 [kF.pk k,ag (ef x),.ptr 2 0] (nO p n m) (pB (lk m (k,x))) (nH p n m) 3:=by
 refine ax ab func48 Z (by decide) ntmps48 Z (by simp) ?_;refine gA Z (bj [] (by first|exact .inr Z|exact .inl Z) Z (wk Z Z Z (bi ac) (hM Z Z Z ⟨⟨_,rfl,.of_eq Z⟩,Oy Z,rfl,⟨⟨_,rfl,.of_eq Z⟩,Oy Z,rfl,ac⟩⟩) Z))
theorem NC(p:Prog)(n:Nat)(m:FM)(u:CM)(hn:(u.map (·.1)).Nodup)(hl:u.length<=1000000000):bI prog 47 [.mp 3,.bX (.func 48) [] [.ptr 2 0]] (nO p n m++ [Er u]) (.bh []) (nH p n m++ [(3,co (Er (u.filter fun e=>!lk m e)))]) 4:=by
 refine ax ab func47 Z (by decide) ntmps47 Z (by simp) ?_;refine gM 3 Z (cG Z (Bb ab Z Z Z Z Z Z (by decide)) ?_);rintro t ⟨bs,clock,hbl,hbn,hbc,rfl⟩
 refine gA Z (G8 u.length (fun vs=>⟨[(0,.mp 3),(1,.bX (.func 48) [] [.ptr 2 0]),(7,.ptr 4 0)],[(0,co (fi m)),(1,co (gX p n 0)),(2,co Aw),(3,co (.gi kF xU bY.z Hs Nq (lP u (bG Fact.z,bY.z) (fun j=>lk m (u.getD j (bG Fact.z,bY.z))) vs) (mQ u.length bs (fun j=>lk m (u.getD j (bG Fact.z,bY.z))) vs) clock)),(4,co (.dB (.mp 3) clock (nv bs vs)))],5⟩) (fun _=>True) [] ac
  (wk Z Z Z (bi (bi (bi ac))) (hM Z Z Z ⟨⟨_,rfl,.of_eq Z⟩,Oy Z,rfl,⟨⟨_,rfl,.of_eq Z⟩,Oy Z,rfl,⟨⟨_,rfl,.of_eq (by rw[Bv,Bw hbl];rfl)⟩,Oy Z,ac,⟨⟨_,rfl,.of_eq Z⟩,Oy Z,rfl,ac⟩⟩⟩⟩) Z) fun vs R v2 _=>?_)
 refine gM 2 Z (cG Z (Di Z Z Z Z Z (by decide)) ?_);rintro t (⟨hall,rfl⟩|⟨q,x,b,hx,hb,hns,rfl⟩)
 .have hE:=Dz (d:=(bG Fact.z,bY.z)) hbl hbn v2 (lk m) (fun j=>rfl) hall;refine gA Z (bj [] (by first|exact .inr Z|exact .inl Z) Z (wk Z Z Z (bi ac) (hM Z Z Z ⟨⟨_,rfl,.of_eq Z⟩,Oy Z,rfl,⟨⟨_,rfl,.of_eq Z⟩,Oy Z,rfl,hMb Z hE Z ac⟩⟩) Z))
 .obtain⟨j,B,C,y,I⟩:=left_at hbl hx hb;have D:u.getD j (bG Fact.z,bY.z)=x:=by rw[OC,C];rfl
  refine gM 8 Z (cG Z (BM Z Z Z Z A0 hb hx Z) ?_);rintro t rfl;refine gA Z (cJ [0,1,2] (Mq p n m x.1 x.2) Z Z Z Z Z Z Z Z ?_);have G:lk m (x.1,x.2)=lk m (u.getD j (bG Fact.z,bY.z)):=by rw[D]
  refine gA Z ?_;refine OF (fun g1=>?_) (fun g1=>?_)
  .have g1:lk m (u.getD j (bG Fact.z,bY.z))=is:=by rw[<-G];exact g1
   obtain⟨A,J⟩:=Dy (m:=u) (d:=(bG Fact.z,bY.z)) (bs:=bs) (dl:=fun j=>lk m (u.getD j (bG Fact.z,bY.z))) g1 B;refine gM 3 Z (cG Z (yV ab Z Z Z Z Z Z (rfl:kF.dk _=co x.1) (Am ((Bu.map _).nodup hn) hx) Z) ?_);rintro t rfl;refine gA Z ⟨j,I,wK y hns,ac,[],wk Z Z Z (bi (bi (bi ac))) (hM Z Z Z ⟨⟨_,rfl,.of_eq Z⟩,Oy Z,rfl,⟨⟨_,rfl,.of_eq Z⟩,Oy Z,rfl,⟨⟨_,rfl,.of_eq (by rw[A,J];rfl)⟩,Oy Z,ac,⟨⟨_,rfl,.of_eq (by rw[tT y];rfl)⟩,Oy Z,rfl,ac⟩⟩⟩⟩) Z⟩
  .have g1:lk m (u.getD j (bG Fact.z,bY.z))=jp:=by rw[<-G];exact g1
   have A:=yD (n:=u.length) (vs:=vs) (dl:=fun j=>lk m (u.getD j (bG Fact.z,bY.z))) g1;refine gA Z ⟨j,I,wK y hns,ac,[],wk Z Z Z (bi (bi (bi ac))) (hM Z Z Z ⟨⟨_,rfl,.of_eq Z⟩,Oy Z,rfl,⟨⟨_,rfl,.of_eq Z⟩,Oy Z,rfl,⟨⟨_,rfl,.of_eq (by unfold lP mQ;rw[A];rfl)⟩,Oy Z,ac,⟨⟨_,rfl,.of_eq (by rw[tT y];rfl)⟩,Oy Z,rfl,ac⟩⟩⟩⟩) Z⟩
end Go.Proofs.YtllkaddcplhklaaGreatDoor
namespace Go.Proofs.YtllkaddcplhklaaGreatDoor
open Go Go.Al
def BI(p:Prog)(f:Fact)(j:Nat):Bool:=kw ((f.args.getD j ci).kind=(fE p f.rel).types.getD j ci)
def oL(p:Prog)(f:Fact):Int:=
 if cV .str (pW p) f.rel=jp∨jF f=jp∨ ¬(f.args.length:Int)=((fE p f.rel).types.length:Int) then 5
 else if(O9 f.args.length).all (BI p f)=is then 0 else 5
theorem Ba{q:Nat->Bool}{n:Nat}(h: ∀j,j<n->q j=is):(O9 n).all q=is:=Pj.2 fun j b=>h j (PW.1 b)
theorem A9{q:Nat->Bool}{n j:Nat}(h:j<n)(b:q j=jp): ¬(O9 n).all q=is:=fun e=>by
 have:=Pj.1 e j (PW.2 h);rw[b]at this;cases this
theorem c16(p:Prog)(f:Fact)(hb:p.aR.length<=1000000000)(hf:f.args.length<=1000000000):Pure Tryz.prog 45 [ag p.c,ag f.c] (pI (oL p f)):=by
 refine ae ab Tryz.func45 Z (by decide) Tryz.ntmps45 Z (by simp) Z ?_;refine gA Z (zd [] (d50 p (by omega)) ?_);refine zE Z Z (fun g1=>?_) fun g1=>?_
 .have g1:cV .str (pW p) f.rel=jp:=by simpa using g1
  rw[oL,am (.inl g1)];exact zU Z
 have g1: ¬cV .str (pW p) f.rel=jp:=by
  have g:(!cV .str (pW p) f.rel)=jp:=g1;intro h;rw[h]at g;cases g
 refine gA Z (zp (c55 f) ?_);refine zE Z Z (fun g2=>?_) fun g2=>?_
 .have g2:jF f=jp:=by
   cases h:jF f with
   |false=>rfl
   |true=>
    have g:(!kw ((if jF f then(0:Int) else 20)=0))=is:=g2;rw[h]at g;simp at g
  rw[oL,am (.inr (.inl g2))];exact zU Z
 have g2: ¬jF f=jp:=by
  intro h;have g:(!kw ((if jF f then(0:Int) else 20)=0))=jp:=g2;rw[h]at g;simp at g
 refine zJ Z Z (fun g3=>?_) fun g3=>?_
 .have g3: ¬(f.args.length:Int)=((fE p f.rel).types.length:Int):=by
   have g:(!kw ((f.args.length:Int)=((fE p f.rel).types.length:Int)))=is:=g3;simpa only[PF,decide_eq_false_iff_not]using g
  rw[oL,am (.inr (.inr g3))];exact zU Z
 have g3:(f.args.length:Int)=((fE p f.rel).types.length:Int):=by
  have g:(!kw ((f.args.length:Int)=((fE p f.rel).types.length:Int)))=jp:=g3;simpa only[Qm,decide_eq_true_eq]using g
 rw[oL,be (by rintro(h|h|h);exact g1 h;exact g2 h;exact h g3)];refine gA Z ?_;refine aM 0 f.args.length (OS _) (fun i=>⟨[(5,.ptr 3 0),(34,.iv (bV 3 f.args dM.c)),(35,pI f.args.length),(36,pI i)],[(3,co (ay (fE p f.rel).c))],4⟩) (fun i=> ∀j,j<i->BI p f j=is) [] (fun j u=>absurd u (QA j))
  (zW (zO trivial)) fun i y x=>?_
 refine zJ Z Z (fun h1=>?_) fun h1=>?_
 .have h1:i<f.args.length:=zN h1;refine zJ Z Z (fun b=>?_) fun b=>?_
  .have b:BI p f i=jp:=by
    have g:(!BI p f i)=is:=b;simpa using g
   rw[be (A9 h1 b)];exact zU Z
  .have b:BI p f i=is:=by
    have g:(!BI p f i)=jp:=b;simpa using g
   refine gA Z ⟨h1,fun j u=>by rcases QH.1 u with h|h;exact x j h;exact h▸b,[],zW (zO ac)⟩
 .have h1:f.args.length<=i:=zG h1;rw[am (Ba fun j u=>x j (by omega))];exact zU Z
end Go.Proofs.YtllkaddcplhklaaGreatDoor
namespace Go.Proofs.YtllkaddcplhklaaGreatDoor
open Go Go.Al Go.Proofs.Tryz Go.Bo
def okF(p:Prog)(f:Fact):Bool:=kw (oL p f=0)
theorem iH{p:Prog}{f:Fact}(h:okF p f=is):f.args.length<=8:=by
 have h:=of_decide_eq_true h;unfold oL at h;split at h
 .cases h
 .rename_i g;have g2: ¬jF f=jp:=fun e=>g (.inr (.inl e));rw[RZ]at g2;unfold jF at g2;simp only[Pq,decide_eq_true_eq]at g2;exact g2.2.1
abbrev mapOf(T:List (bY Fact)):CM:=T.map fun x=>(bG x.2,x)
theorem xt{T:List (bY Fact)}(hn:(T.map (·.2)).Nodup)(j: ∀x∈T,x.2.args.length<=8):((mapOf T).map (·.1)).Nodup:=by
 induction T with
 |nil=>exact Pk
 |cons x r ih=>
  rw[OZ,Pf]at hn;rw[mapOf,OZ,OZ,Pf];refine⟨fun m=>?_,ih hn.2 fun y b=>j y (ON _ b)⟩;obtain⟨e,A,u⟩:=Pg.1 m;obtain⟨y,b,rfl⟩:=Pg.1 A;have:=oA (j y (ON _ b)) u;exact hn.1 (Pg.2 ⟨y,b,this⟩)
def bP(S:List Fact)(l:List (bY Fact)):List (bY Fact):=(lj l).filter fun x=>!(kw (x.2∈S)==x.1)
theorem uy{l:List (bY Fact)}{x:bY Fact}(h:x∈lj l):x∈l:=by
 have:=((nM l).2 x.1 x.2).1 h;exact j3 this
theorem Bz{m:FM}{S:List Fact}(hk:dP bG m S)(b: ∀f∈S,f.args.length<=8)(f:Fact):cV kF m (bG f)=kw (f∈S):=by
 have:=hk.has (f:=f) fun u hu e=>oA (b u hu) e;by_cases h:f∈S
 .rw[decide_eq_true h,this.2 h]
 .rw[decide_eq_false h];cases e:cV kF m (bG f) with
  |false=>rfl
  |true=>exact absurd (this.1 e) h
theorem CV{m:FM}{S:List Fact}(hk:dP bG m S)(b: ∀f∈S,f.args.length<=8)(l:List (bY Fact)):((mapOf (lj l)).filter fun e=>!lk m e)=mapOf (bP S l):=by
 unfold bP mapOf;rw[List.filter_map];congr 1;refine Qq fun x _=>?_;show(!(cV kF m (bG x.2)==x.1))=_;rw[Bz hk b]
theorem w8: ∀(T:List (bY Fact)) (c:bY Fact),(jf T c).length<=T.length+1
 | [],_=>OL _
 |x::r,c=>by
  have:=w8 r c;unfold jf;split
  .simp
  .simp only[Pb];omega
theorem By(l:List (bY Fact)):(lj l).length<=l.length:=by
 have key: ∀(l T:List (bY Fact)),(l.foldl jf T).length<=T.length+l.length:=by
  intro l
  induction l with
  |nil=>intro T;exact OL _
  |cons c r ih=>
   intro T;have h1:=ih (jf T c);have b:=w8 T c;rw[Pr,Pb];omega
 have:=key l [];show(l.foldl jf []).length<=_;simpa using this
def we(x:bY Fact):Int:=if x.1=is then 1 else-1
theorem xf{a b:List Int}(h:a.Perm b):a.sum=b.sum:=by
 induction h with
 |nil=>rfl
 |cons x _ ih=>rw[PU,PU,ih]
 |swap x y l=>rw[PU,PU,PU,PU];omega
 |trans _ _ a b=>exact a.trans b
theorem zi: ∀(T:List (bY Fact)),(T.map we).sum=((T.filter fun x=>x.1).length:Int)-((T.filter fun x=>!x.1).length:Int)
 | []=>rfl
 |x::r=>by
  rw[OZ,PU,zi r];cases h:x.1 with
  |true=>simp[we,h];omega
  |false=>simp[we,h];omega
theorem CU{S:List Fact}(hS:uY bq S)(l:List (bY Fact)):(S.length:Int)+((bP S l).map we).sum=(jn bq S l).length:=by
 have b:(bP S l).Perm (c7 bq S l):=kK qK S l;rw[xf (b.map we),zi];have:=Dh qK hS l;omega
theorem AZ(T:List (bY Fact)): -(T.length:Int)<=(T.map we).sum∧(T.map we).sum<=T.length:=by
 induction T with
 |nil=>simp
 |cons x r ih=>
  rw[OZ,PU,Pb];unfold we at*
  split<;>omega
def Dk(p:Prog)(S:List Fact)(l:List (bY Fact)):PV:=
 if kB bq (okF p) S l=0 then .bh [.iv (xT (mapOf (bP S l))),pI 0] else .bh [.iv (.v (.map io)),pI (kB bq (okF p) S l)]
theorem qQ{p:Prog}{S:List Fact}{l:List (bY Fact)}{e:Int}(h:kB bq (okF p) S l=e)(h0:e≠0):Dk p S l= .bh [.iv (.v (.map io)),pI e]:=by
 unfold Dk;rw[h,be h0]
theorem zB{p:Prog}{S:List Fact}{l:List (bY Fact)}(h:kB bq (okF p) S l=0):Dk p S l= .bh [.iv (xT (mapOf (bP S l))),pI 0]:=by
 unfold Dk;rw[am h]
theorem NA(p:Prog)(n:Nat){m:FM}{S:List Fact}(l:List (bY Fact))(hb:p.aR.length<=1000000000)(hk:dP bG m S)(hS:jJ bq (okF p) S)(hF: ∀x∈l,x.2.args.length<=1000000000):
  bI prog 25 [.ptr 1 0,.iv (bV 3 l ef)] (bO p n m) (Dk p S l) (bH p n m) 2:=by
 have s0:=hk.len;have i0:=hS.few;have f0: ∀f∈S,f.args.length<=8:=fun f hf=>iH (hS.ok f hf);refine ax ab func25 Z (by decide) ntmps25 Z (by simp) ?_;refine gA Z ?_;refine OF (fun k1=>?_) (fun k1=>?_)
 .exact absurd k1 (by decide)
 refine gA Z ?_;refine OF (fun I=>?_) (fun I=>?_)
 .have I:4096<l.length:=by have:=of_decide_eq_true I;omega
  rw[qQ (e:=2) (by unfold kB;rw[am I]) (by decide)];refine gA Z (bj [] (by first|exact .inr Z|exact .inl Z) Z (wk Z Z Z (bi ac) (hM Z Z Z ⟨⟨_,rfl,.of_eq Z⟩,Oy Z,rfl,ac⟩) Z))
 have I:l.length<=4096:=by have:=of_decide_eq_false I;omega
 refine gA Z ?_;refine aM 0 l.length (OS _) (fun i=>⟨[(2,.ptr 2 0),(6,.mp 3),(20,.iv (bV 3 l ef)),(21,pI l.length),(22,pI i)],[(0,co (fi m)),(1,co (gX p n 0)),(2,co Aw),(3,co (Er (mapOf (lj (l.take i)))))],4⟩) (fun i=> ∀x∈l.take i,okF p x.2=is) [] (by simp)
  (wk Z Z Z (bi (bi (bi (bi (bi trivial))))) (hM Z Z Z ⟨⟨_,rfl,.of_eq Z⟩,Oy Z,rfl,⟨⟨_,rfl,.of_eq Z⟩,Oy Z,rfl,KP Z Hr Z trivial⟩⟩) Z) fun i hi J=>?_
 refine gA Z ?_;refine OF (fun h1=>?_) (fun h1=>?_)
 .have h1:i<l.length:=by simpa using h1
  have d0:l.getD i ci∈l:=by rw[OC,OD h1];exact Pm h1
  have R:=gq (g:=jf) (b:=([]:List (bY Fact))) h1;have p0:=cd (l:=l) h1;refine gA Z (bD ab [] (Pure.q9 (c16 p (l.getD i ci).2 hb (hF _ d0))) Z Z Z Z Z Z Z Z Z Z Z Z (by(repeat' (first|exact ac|exact rfl|exact an.refl _|exact an.bk (by assumption)|apply OF))<;>first|omega|(simp only[OG];omega)|(simp;done)|(simp;omega)) Z (by(repeat' (first|exact ac|exact rfl|exact an.refl _|exact an.bk (by assumption)|apply OF))<;>first|omega|(simp only[OG];omega)|(simp;done)|(simp;omega)) ?_);refine gA Z ?_;refine OF (fun g1=>?_) (fun g1=>?_)
  .have g1:okF p (l.getD i ci).2=jp:=by
    have g:(!kw (oL p (l.getD i ci).2=0))=is:=g1;rw[PF]at g;exact g
   rw[qQ (e:=5) (by
    unfold kB;rw[be (by omega),am]
    exact List.all_eq_false.2 ⟨_,d0,by rw[g1];decide⟩) (by decide)]
   refine gA Z (bj [] (by first|exact .inr Z|exact .inl Z) Z (wk Z Z Z (bi ac) (hM Z Z Z ⟨⟨_,rfl,.of_eq Z⟩,Oy Z,rfl,ac⟩) Z))
  .have g1:okF p (l.getD i ci).2=is:=by
    have g:(!kw (oL p (l.getD i ci).2=0))=jp:=g1;rw[Qm]at g;exact g
   have r0:=iH g1;refine gA Z (aA (CD (l.getD i ci).2 r0) Z Z Z Z Z Z ?_);have n0:=Bc (kc:=kF) (key:=bG) (lj (l.take i)) (l.getD i ci) fun y hy e=>oA (iH (J y (uy hy))) e;refine fb Z ?_ ?_
   .repeat' (first|exact ac|exact rfl|exact Ht _|exact an.refl _|apply OF)
    all_goals omega
   refine⟨h1,fun x u=>?_,[],wk Z Z Z (bi (bi (bi (bi (bi ac))))) (hM Z Z Z ⟨⟨_,rfl,.of_eq Z⟩,Oy Z,rfl,⟨⟨_,rfl,.of_eq Z⟩,Oy Z,rfl,hM Z ?_ Z ac⟩⟩) Z⟩
   .rw[p0,OW,OM]at u;exact u.elim (J x) fun e=>e▸g1
   .show _=(lj (l.take (i+1))).map fun x=>(bG x.2,x)
    unfold lj at*
    rw[R,<-n0,<-I5 (l.getD i ci)];rfl
 .have h1:l.length<=i:=by simpa using h1
  have j0:i=l.length:=by omega
  subst j0;rw[OY (OL _)]at J ⊢;have B:(l.all fun x=>okF p x.2)=is:=Pj.2 J;have m0:=xt (nM l).1 fun x u=>iH (J x (uy u));have o0:=CV hk f0 l;have v0:=CU hS.F5 l;have k0:=By l;have t0:(bP S l).length<=l.length:=Pp (PQ _ _) k0;refine gA Z (cJ [0,1,2,3] (NC p n m (mapOf (lj l)) m0 (by rw[mapOf,O7];omega)) Z Z Z Z Z Z Z Z ?_);rw[o0];refine gA Z ?_
  refine eQ (mapOf (bP S l)) (fun vs=>⟨[(6,.iv (xT (mapOf (bP S l)))),(11,pI ((m.length:Int)+(vs.map fun j=>we (kj (mapOf (bP S l)) j)).sum)),(54,.ptr 4 0)],[(0,co (fi m)),(1,co (gX p n 0)),(4,co (.bB kF xU (mapOf (bP S l)) vs io))],5⟩) (fun vs=>vs.Nodup∧ ∀j∈vs,j<(mapOf (bP S l)).length) [] ⟨Pk,by simp⟩
   (wk Z Z Z (bi ⟨bm (by simp),rfl,bi trivial⟩) (hM Z Z Z ⟨⟨_,rfl,.of_eq Z⟩,Oy Z,rfl,hI Z Z (.inl Z) Z trivial⟩) Z) fun vs e0=>?_
  obtain⟨v1,v2⟩:=e0;have q0:=B4 v1 v2;rw[O7]at q0;have G:=AZ (vs.map (kj (mapOf (bP S l))));rw[Qf,O7]at G;have Y:=G.1;have a0:=G.2;have g0:(we ∘ kj (mapOf (bP S l)))=fun j=>we (kj (mapOf (bP S l)) j):=rfl;rw[g0]at Y a0;refine fb Z ac (dd Z Z Z Z Z (by decide) (fun C=>?_) fun j x u hj=>?_)
  .have hq:(vs.map fun j=>we (kj (mapOf (bP S l)) j)).sum=((bP S l).map we).sum:=by
    have h1:=((y8 v1 v2 C).map fun j=>(mapOf (bP S l)).getD j (bG Fact.z,bY.z)).map fun e=>we e.2;rw[gm,Qf,Qf]at h1;exact xf h1
   rw[hq];refine gA Z ?_;refine OF (fun g2=>?_) (fun g2=>?_)
   .have g2:65536<(jn bq S l).length:=by have:=of_decide_eq_true g2;omega
    rw[qQ (e:=3) (by unfold kB;rw[be (by omega),be (by rw[B];decide),am g2]) (by decide)];refine gA Z (bj [] (by first|exact .inr Z|exact .inl Z) Z (wk Z Z Z (bi ac) (hM Z Z Z ⟨⟨_,rfl,.of_eq Z⟩,Oy Z,rfl,ac⟩) Z))
   .have g2: ¬65536<(jn bq S l).length:=by have:=of_decide_eq_false g2;omega
    rw[zB (by unfold kB;rw[be (by omega),be (by rw[B];decide),be g2])];refine gA Z (bj [] (by first|exact .inr Z|exact .inl Z) Z (wk Z Z Z (bi ac) (hM Z Z Z ⟨⟨_,rfl,.of_eq Z⟩,Oy Z,rfl,ac⟩) Z))
  .have c0:x.2=kj (mapOf (bP S l)) j:=by rw[kj,OC,u];rfl
   have b0: ∀A,A=j::vs->A.Nodup∧ ∀i∈A,i<(mapOf (bP S l)).length:=fun A e=>e▸⟨Pf.2 ⟨hj,v1⟩,fun i hi=>(OP.1 hi).elim (fun h=>h▸(OB.1 u).1) (v2 i)⟩;refine gA Z ?_;refine OF (fun g3=>?_) (fun g3=>?_)
   .have g3:x.2.1=is:=g3;have D:we (kj (mapOf (bP S l)) j)=1:=by rw[<-c0,we,am g3]
    refine gA Z ⟨j,x,u,hj,b0 _ Z,[],wk Z Z Z (bi ⟨bm (by rw[OZ,PU,D];omega),rfl,bi ac⟩) (hM Z Z Z ⟨⟨_,rfl,.of_eq Z⟩,Oy Z,rfl,hI Z Z (.inr Z) Z ac⟩) Z⟩
   .have g3:x.2.1=jp:=g3;have D:we (kj (mapOf (bP S l)) j)= -1:=by rw[<-c0,we,be (by rw[g3];decide)]
    refine gA Z ⟨j,x,u,hj,b0 _ Z,[],wk Z Z Z (bi ⟨bm (by rw[OZ,PU,D];omega),rfl,bi ac⟩) (hM Z Z Z ⟨⟨_,rfl,.of_eq Z⟩,Oy Z,rfl,hI Z Z (.inr Z) Z ac⟩) Z⟩
theorem CC{y:IV}(u:km (lits []) y):Pure prog 44 [.iv (lits [])] (.iv y):=by
 refine ae ab func44 Z (by decide) ntmps44 Z (by simp) Z ?_;refine gA Z (aA (Gh [] (by simp)) Z Z Z Z Z Z ?_);refine gA Z (nQ (n:=0) ?_);refine gA Z ?_;refine OF (fun b=>?_) (fun b=>?_)
 .exact absurd b (by simp)
 refine gA Z (aH (by first|exact .inr Z|exact .inl Z) Z ?_);exact .iv (fun M x j=>u M x j)
set_option maxHeartbeats 2000000 in
theorem Mo: ∀(n:Nat) (l:List Lit) (y:IV),Lit.aE l<=n->Lit.aE l<=1000000000->km (lits l) y->Pure prog 44 [.iv (lits l)] (.iv y):=by
 intro n
 induction n with
 |zero=>
  intro l y h hb u;have hl:=Lit.aF l;have j:l=[]:=P0.1 (by omega);subst j;exact CC u
 |succ n ih=>
  intro l y h hb u;have hl:=Lit.aF l;by_cases A:l=[]
  .subst A;exact CC u
  refine ae ab func44 Z (by decide) ntmps44 Z (by simp) Z ?_;refine gA Z (cJ [] (CG l (by omega) A) Z Z Z Z Z Z Z Z ?_);refine gA Z ?_;refine aM 0 l.length (OS _) (fun i=>⟨[(0,.iv (lits l)),(3,.sl 0 0 l.length 30),(9,pI l.length),(10,pI i)],[(0,co (aT 30 l Lit.c))],1⟩) (fun _=>True) [] ac
   (wk Z Z Z (bi (bi (bi (bi trivial)))) (hR Z (by rw[Qf];exact QJ fun x _=>mu _ _) Z trivial) Z) fun i D _=>?_
  refine gA Z ?_;refine OF (fun h1=>?_) (fun h1=>?_)
  .have h1:i<l.length:=by simpa using h1
   have C:=Lit.bN l i h1;have B:=(l.getD i ci).size_eq;have b:=CL (g:=fun x=>(Lit.c x).map PV.iv) h1;refine gM 22 Z (nR ab Z Z Z Z Z (b) Z Z ?_);refine gA Z (aA (zn (l.getD i ci).atom.aj (by omega)) Z Z Z Z Z Z ?_);refine gA Z (oF ab Z Z Z Z (i:=0) (q:=0+i) (off:=2) Z Z b Z Z (by decide) Z Z ?_);refine gM 9 Z (sv (p:=ag (l.getD i ci).left.c) 6 Z Z Z Z Z Z (gP ab Z Z Z Z b Z) ?_);refine gM 3 Z (sv (p:=ag (l.getD i ci).right.c) 11 Z Z Z Z Z Z (gP ab Z Z Z Z b Z) ?_);refine gM 4 Z (sv (p:=ag (l.getD i ci).ji.c) 17 Z Z Z Z Z Z (gP ab Z Z Z Z b Z) ?_);refine gA Z (xL ab [11,17] [] (Pure.q9 (yg (l.getD i ci).left (by omega))) Z Z Z Z Z Z Z Z Z Z Z Z (by(repeat' (first|exact ac|exact rfl|exact an.refl _|exact an.bk (by assumption)|apply OF))<;>first|omega|(simp only[OG];omega)|(simp;done)|(simp;omega)) Z (by(repeat' (first|exact ac|exact rfl|exact an.refl _|exact an.bk (by assumption)|apply OF))<;>first|omega|(simp only[OG];omega)|(simp;done)|(simp;omega)) ⟨sW ab Z Z Z Z Z Z Z b Z (.refl _),⟨sW ab Z Z Z Z Z Z Z b Z (.refl _),ac⟩⟩ ?_);refine gA Z (xL ab [17] [] (Pure.q9 (yg (l.getD i ci).right (by omega))) Z Z Z Z Z Z Z Z Z Z Z Z (by(repeat' (first|exact ac|exact rfl|exact an.refl _|exact an.bk (by assumption)|apply OF))<;>first|omega|(simp only[OG];omega)|(simp;done)|(simp;omega)) Z (by(repeat' (first|exact ac|exact rfl|exact an.refl _|exact an.bk (by assumption)|apply OF))<;>first|omega|(simp only[OG];omega)|(simp;done)|(simp;omega)) ⟨sW ab Z Z Z Z Z Z Z b Z (.refl _),ac⟩ ?_);refine gA Z (bD ab [] (Pure.q9 (yg (l.getD i ci).ji (by omega))) Z Z Z Z Z Z Z Z Z Z Z Z (by(repeat' (first|exact ac|exact rfl|exact an.refl _|exact an.bk (by assumption)|apply OF))<;>first|omega|(simp only[OG];omega)|(simp;done)|(simp;omega)) Z (by(repeat' (first|exact ac|exact rfl|exact an.refl _|exact an.bk (by assumption)|apply OF))<;>first|omega|(simp only[OG];omega)|(simp;done)|(simp;omega)) ?_);refine gA Z (kO ab Z Z Z Z Z (by(repeat' (first|exact ac|exact rfl|exact an.refl _|exact an.bk (by assumption)|apply OF))<;>first|omega|(simp only[OG];omega)|(simp;done)|(simp;omega)) (kq ab Z Z Z (i:=0) (q:=0+i) (off:=4) Z Z b Z Z (by decide) Z Z) Z (by(repeat' (first|exact ac|exact rfl|exact an.refl _|exact an.bk (by assumption)|apply OF))<;>first|omega|(simp only[OG];omega)|(simp;done)|(simp;omega)) ?_);refine gA Z (kO ab Z Z Z Z Z (by(repeat' (first|exact ac|exact rfl|exact an.refl _|exact an.bk (by assumption)|apply OF))<;>first|omega|(simp only[OG];omega)|(simp;done)|(simp;omega)) (kq ab Z Z Z (i:=0) (q:=0+i) (off:=11) Z Z b Z Z (by decide) Z Z) Z (by(repeat' (first|exact ac|exact rfl|exact an.refl _|exact an.bk (by assumption)|apply OF))<;>first|omega|(simp only[OG];omega)|(simp;done)|(simp;omega)) ?_);refine gA Z (kO ab Z Z Z Z Z (by(repeat' (first|exact ac|exact rfl|exact an.refl _|exact an.bk (by assumption)|apply OF))<;>first|omega|(simp only[OG];omega)|(simp;done)|(simp;omega)) (kq ab Z Z Z (i:=0) (q:=0+i) (off:=20) Z Z b Z Z (by decide) Z Z) Z (by(repeat' (first|exact ac|exact rfl|exact an.refl _|exact an.bk (by assumption)|apply OF))<;>first|omega|(simp only[OG];omega)|(simp;done)|(simp;omega)) ?_);refine gM 7 Z (nR ab Z Z Z Z Z (b) Z Z ?_);refine gA Z (aA (Al.Pure.le (aa:=[.iv (sN (l.getD i ci).ar)]) (ih (l.getD i ci).ar (sN (l.getD i ci).ar) (by omega) (by omega) (Dv _)) ⟨.iv (lO _),ac⟩) Z Z Z Z Z Z ?_);refine gA Z (oF ab Z Z Z Z (i:=0) (q:=0+i) (off:=27) Z Z b Z Z (by decide) Z Z ?_);refine gA Z ⟨h1,ac,[],wk Z Z Z (bi (bi (bi (bi ac)))) (hR Z Z Z ac) Z⟩
  .have h1:l.length<=i:=by simpa using h1
   refine gA Z (kR (r0:= .sl 0 0 l.length 30) (.inr Z) Z (gZ.CN 0 l Lit.c Z Z (by simp[PV.dC,dQ]) (.done ?_)));have:an (.iv (lits l)) (.iv y):= .iv u;simp only[PV.dR,pD,O8];exact this
theorem Kg(l:List Lit)(hb:Lit.aE l<=1000000000):Pure prog 44 [.iv (lits l)] (.iv (lits l)):=Mo _ l _ (OL _) hb (fun _ _ h=>h)
theorem Kf(p:Prog)(hb:p.size<=1000000000):Pure prog 24 [ag p.c] (ag p.c):=by
 unfold Prog.size at hb;refine ae ab func24 Z (by decide) ntmps24 Z (by simp) Z ?_;refine gM 9 Z ?_;refine oE 2 0 4 Z Z ?_;refine oE 2 1 5 Z Z ?_;refine gA Z ?_;refine aM 0 p.aR.length (OS _) (fun i=>⟨[(1,.ptr 0 0),(2,.ptr 1 0),(3,.ptr 2 0),(9,.iv (bV 4 p.aR Decl.c)),(10,pI p.aR.length),(11,pI i)],[(0,co (ay p.c)),(1,co (.cells [.iv (.v (.slice io 0 0)),.iv (.v (.slice io 0 0))])),(2,co (.cells [.sl 5 0 i 4,.sl 4 0 0 5])),(4,co (aT 5 ([]:List aw) aw.c)),(5,co (aT 4 (p.aR.take i) Decl.c))],6⟩) (fun _=>True) [3] ac
  (wk Z Z Z (bi (bi (bi (bi (bi (bi trivial)))))) (hC Z Z Z ⟨⟨_,rfl,.of_eq Z⟩,Oy Z,rfl,⟨_,rfl,.of_eq Z⟩,Oy Z,rfl,hR Z Z Z (hR Z Z Z trivial)⟩) Z) fun i A _=>?_
 refine gA Z ?_;refine OF (fun h1=>?_) (fun h1=>?_)
 .have h1:i<p.aR.length:=by simpa using h1
  have x:(p.aR.take i).length=i:=by rw[PN];omega
  have u:=cd (l:=p.aR) h1;have y:=u5 (fun d:Decl=>d.types.length) p.aR i h1;refine gA Z (aA (Gi (p.aR.getD i ci).types (by omega)) Z Z Z Z Z Z ?_);refine gA Z ⟨h1,ac,[8],wk Z Z Z (bi (bi (bi (bi (bi (bi ac)))))) (hC Z Z Z ⟨⟨_,rfl,.of_eq Z⟩,Oy Z,rfl,⟨⟨_,rfl,.of_eq Z⟩,Oy Z,rfl,hR Z Z Z (hR Z (by rw[u,OX];rfl) Z ac)⟩⟩) Z⟩
 .have h1:p.aR.length<=i:=by simpa using h1
  have j:i=p.aR.length:=by omega
  subst j;rw[OY (OL _)];refine gA Z ?_;refine aM 0 p.rules.length (OS _) (fun i=>⟨[(1,.ptr 0 0),(2,.ptr 1 0),(3,.ptr 2 0),(27,.iv (bV 5 p.rules aw.c)),(28,pI p.rules.length),(29,pI i)],[(0,co (ay p.c)),(1,co (.cells [.iv (.v (.slice io 0 0)),.iv (.v (.slice io 0 0))])),(2,co (.cells [.sl 5 0 p.aR.length 4,.sl 6 0 i 5])),(5,co (aT 4 p.aR Decl.c)),(6,co (aT 5 (p.rules.take i) aw.c))],7⟩) (fun _=>True) [4] ac
   (wk Z Z Z (bi (bi (bi (bi (bi (bi trivial)))))) (hC Z Z Z ⟨⟨_,rfl,.of_eq Z⟩,Oy Z,rfl,⟨⟨_,rfl,.of_eq Z⟩,Oy Z,rfl,hR Z Z Z (hR Z Z Z trivial)⟩⟩) Z) fun i A _=>?_
  refine gA Z ?_;refine OF (fun b=>?_) (fun b=>?_)
  .have b:i<p.rules.length:=by simpa using b
   have x:(p.rules.take i).length=i:=by rw[PN];omega
   have u:=cd (l:=p.rules) b;have y:=u5 aw.size p.rules i b;have B:(p.rules.getD i ci).size=(p.rules.getD i ci).head.aj.length+Lit.aE (p.rules.getD i ci).body:=rfl;refine gA Z (aA (zn (p.rules.getD i ci).head.aj (by omega)) Z Z Z Z Z Z ?_);refine gA Z (aA (Kg (p.rules.getD i ci).body (by omega)) Z Z Z Z Z Z ?_);refine gA Z ⟨b,ac,[9],wk Z Z Z (bi (bi (bi (bi (bi (bi ac)))))) (hC Z Z Z ⟨⟨_,rfl,.of_eq Z⟩,Oy Z,rfl,⟨⟨_,rfl,.of_eq Z⟩,Oy Z,rfl,hR Z Z Z (hR Z (by rw[u,OX];rfl) Z ac)⟩⟩) Z⟩
  .have b:p.rules.length<=i:=by simpa using b
   have j:i=p.rules.length:=by omega
   subst j;rw[OY (OL _)];refine gA Z (kR (r0:= .agg [.sl 5 0 p.aR.length 4,.sl 6 0 p.rules.length 5]) (.inr Z) Z (gZ.CN 5 p.aR Decl.c Z Z (by simp[PV.dC,dQ]) (gZ.CN 6 p.rules aw.c Z Z (by simp[PV.dC,dQ,PV.dR,pD,show O2 6 5=jp from rfl]) (.done (.of_eq (by simp only[PV.dR,pD,O8,show O2 6 5=jp from rfl,show O2 5 5=is from rfl,show O2 6 6=is from rfl,cond_true,cond_false];rfl))))))
end Go.Proofs.YtllkaddcplhklaaGreatDoor
namespace Go.Tj
section
section
variable {α:Type}
inductive lr (succ:α->List α):α->α->Prop
 |refl (a:α):lr succ a a
 |step {a b c:α}:lr succ a b->c∈succ b->lr succ a c
theorem lr.trans{succ:α->List α}{a b c:α}(h:lr succ a b)(g:lr succ b c):lr succ a c:=by
 induction g with
 |refl=>exact h
 |step _ he ih=>exact .step ih he
theorem lr.one{succ:α->List α}{a b:α}(h:b∈succ a):lr succ a b:= .step (.refl a) h
structure St (α:Type) where
 low:α->Int
 on:α->Int
 ring:α->Int
 n:Nat
 stack:List α
section
variable [DecidableEq α]
def u1(f:α->Int)(a:α)(v:Int):α->Int:=fun x=>if x=a then v else f x
theorem iE(f:α->Int)(a:α)(v:Int):u1 f a v a=v:=am Z
theorem jz{f:α->Int}{a x:α}{v:Int}(h: ¬x=a):u1 f a v x=f x:=be h
def push(s:St α)(a:α):St α:=⟨u1 s.low a ((s.n:Int)+1),u1 s.on a 1,s.ring,s.n+1,s.stack++ [a]⟩
def vn(j:Int)(s:St α):St α:=match s.stack.getLast? with
 |some b=>⟨s.low,u1 s.on b 2,u1 s.ring b j,s.n,s.stack.dropLast⟩
 |none=>s
def eO(a:α)(b:Int):Nat->St α->St α
 |0,s=>s
 |k+1,s=>if s.on a=1 then eO a b k (vn b s) else s
def pQ(j:α->St α->Int×St α)(q:Int×St α)(b:α):Int×St α:=
 if q.2.low b=0 then(min q.1 (j b q.2).1,(j b q.2).2) else if q.2.on b=1 then(min q.1 (q.2.low b),q.2) else q
def qH(a:α)(b:Int)(q:Int×St α):Int×St α:=if q.1=b then(q.1,eO a b q.2.stack.length q.2) else q
def dF(succ:α->List α):Nat->α->St α->Int×St α
 |0,_,s=>(0,s)
 |f+1,a,s=>qH a ((s.n:Int)+1) ((succ a).foldl (pQ (dF succ f)) ((s.n:Int)+1,push s a))
def fy(succ:α->List α)(f:Nat)(V:List α)(s:St α):St α:=V.foldl (fun s a=>if s.low a=0 then(dF succ f a s).2 else s) s
end
def St.o:St α:=⟨fun _=>0,fun _=>0,fun _=>0,0,[]⟩
structure Inv (succ:α->List α) (path:List α) (s:St α):Prop where
 lh: ∀a,0<=s.low a∧s.low a<=s.n
 inj: ∀a b,s.low a=s.low b->s.low a≠0->a=b
 EO: ∀a,s.on a=0↔s.low a=0
 Bk: ∀a,s.on a=0∨s.on a=1∨s.on a=2
 tN: ∀a,s.on a=1↔a∈s.stack
 F5:s.stack.Pairwise fun x y=>s.low x<s.low y
 Ho: ∀a,s.on a=2-> ∀b∈succ a,s.on b=2
 Kv: ∀g∈path,s.on g=1
 up: ∀y,s.on y=1-> ∃g∈path,s.low g<=s.low y∧lr succ y g
 dn: ∀g∈path,∀y,s.on y=1->s.low g<=s.low y->lr succ g y
 az: ∀y,s.low y≠0->y∉path-> ∀z∈succ y,s.low z≠0
 Mv: ∀a,s.on a=2-> ∃r,s.on r=2∧s.low r=s.ring a∧lr succ a r∧lr succ r a
 cmp: ∀a b,s.on a=2->s.on b=2->lr succ a b->lr succ b a->s.ring a=s.ring b
structure Le (s s':St α):Prop where
 low: ∀x,s.low x≠0->s'.low x=s.low x
 Ho: ∀x,s.on x=2->s'.on x=2
 n:s.n<=s'.n
theorem Le.refl(s:St α):Le s s:=⟨fun _ _=>rfl,fun _ h=>h,OL _⟩
theorem Le.trans{s t u:St α}(h:Le s t)(g:Le t u):Le s u:=
 ⟨fun x b=>by rw[g.low x (by rw[h.low x b];exact b),h.low x b],fun x b=>g.Ho x (h.Ho x b),Pp h.n g.n⟩
structure Ld (succ:α->List α) (path:List α) (a:α) (s:St α) (least:Int) (s':St α) (t:List α):Prop where
 inv:Inv succ path s'
 le:Le s s'
 stack:s'.stack=s.stack++t
 new: ∀y∈t,s.low y=0
 at_:(s.n:Int)<s'.low a
 KH:least<=s'.low a
 l1: ∀y∈t,∀z∈succ y,s'.on z=1->least<=s'.low z
 l2:(s'.on a=2∧least=s'.low a)∨ ∃z∈s.stack,s'.low z=least∧lr succ a z
theorem rP{succ:α->List α}{path:List α}{s:St α}(h:Inv succ path s){x:α}(b:s.on x=1):s.low x≠0:=fun g=>by
 have:=(h.EO x).2 g;omega
theorem C9{succ:α->List α}{p:List α}{s s':St α}(h:Inv succ p s)(hl:Le s s'){x:α}(b:s.low x≠0)(ho:s'.on x=1):s.on x=1:=by
 rcases h.Bk x with g|g|g
 .exact absurd ((h.EO x).1 g) b
 .exact g
 .have:=hl.Ho x g;omega
section
variable [DecidableEq α]
theorem w9{succ:α->List α}{path:List α}{s:St α}{a:α}(h:Inv succ path s)(ha:s.low a=0)(hp: ∀g∈path,lr succ g a):Inv succ (path++ [a]) (push s a):=by
 have a0:s.on a=0:=(h.EO a).2 ha;have J:a∉s.stack:=fun g=>by have:=(h.tN a).2 g;omega
 have A: ∀x,¬x=a->(push s a).low x=s.low x:=fun x j=>jz j;have la:(push s a).low a=(s.n:Int)+1:=iE _ _ _;have D: ∀x,¬x=a->(push s a).on x=s.on x:=fun x j=>jz j;have G:(push s a).on a=1:=iE _ _ _;have hn:((push s a).n:Int)=(s.n:Int)+1:=by show((s.n+1:Nat):Int)=_;omega
 refine⟨fun x=>?_,fun x y C j=>?_,fun x=>?_,fun x=>?_,fun x=>?_,?_,fun x j b hb=>?_,fun g hg=>?_,fun y B=>?_,fun g hg y B I=>?_,fun y B R z hz=>?_,fun x j=>?_,fun x y j B h1 h2=>?_⟩
 .have:=h.lh x;by_cases e:x=a
  .subst e;rw[la,hn];omega
  .rw[A x e,hn];omega
 .have h1:=h.lh x;have h2:=h.lh y;by_cases e:x=a
  .by_cases u:y=a
   .rw[e,u]
   .rw[e,la,A y u]at C;omega
  .by_cases u:y=a
   .rw[u,la,A x e]at C;omega
   .rw[A x e,A y u]at C;rw[A x e]at j;exact h.inj x y C j
 .by_cases e:x=a
  .subst e;rw[G,la];constructor<;>intro g<;>omega
  .rw[D x e,A x e];exact h.EO x
 .by_cases e:x=a
  .subst e;exact .inr (.inl G)
  .rw[D x e];exact h.Bk x
 .show _↔x∈s.stack++ [a];rw[OW,OM];by_cases e:x=a
  .subst e;simp[G]
  .rw[D x e,h.tN x];simp[e]
 .show(s.stack++ [a]).Pairwise _;rw[Q3];refine⟨h.F5.imp_of_mem ?_,List.pairwise_singleton _ _,fun x j y B=>?_⟩
  .intro x y j B C;rw[A x (fun e=>J (e▸j)),A y (fun e=>J (e▸B))];exact C
  .rw[OM]at B;subst B;rw[la,A x (fun e=>J (e▸j))];have:=h.lh x;omega
 .have e: ¬x=a:=fun e=>by subst e;rw[G]at j;omega
  rw[D x e]at j;have Y:=h.Ho x j b hb;have u: ¬b=a:=fun e=>by subst e;omega
  rw[D b u];exact Y
 .rcases OW.1 hg with g1|g1
  .have:=h.Kv g g1;rw[D g (fun e=>by subst e;omega)];exact this
  .rw[OM]at g1;subst g1;exact G
 .by_cases e:y=a
  .subst e;exact⟨y,P8 _ OO,QM _,.refl _⟩
  .rw[D y e]at B;obtain⟨g,g1,g2,g3⟩:=h.up y B;have u: ¬g=a:=fun e=>by have:=h.Kv g g1;subst e;omega
   exact⟨g,Ph _ g1,by rw[A g u,A y e];exact g2,g3⟩
 .rcases OW.1 hg with g1|g1
  .have u: ¬g=a:=fun e=>by have:=h.Kv g g1;subst e;omega
   by_cases e:y=a
   .subst e;exact hp g g1
   .rw[A g u,A y e]at I;rw[D y e]at B;exact h.dn g g1 y B I
  .rw[OM]at g1;subst g1;by_cases e:y=g
   .subst e;exact .refl _
   .rw[la,A y e]at I;have:=h.lh y;omega
 .have e: ¬y=a:=fun e=>R (P8 _ (by rw[e];exact OO))
  rw[A y e]at B;have:=h.az y B (fun g=>R (Ph _ g)) z hz;by_cases u:z=a
  .rw[u,la];omega
  .rw[A z u];exact this
 .have e: ¬x=a:=fun e=>by subst e;rw[G]at j;omega
  rw[D x e]at j;obtain⟨r,r1,r2,r3⟩:=h.Mv x j;have u: ¬r=a:=fun e=>by subst e;omega
  exact⟨r,by rw[D r u];exact r1,by rw[A r u];exact r2,r3⟩
 .have e: ¬x=a:=fun e=>by subst e;rw[G]at j;omega
  have u: ¬y=a:=fun e=>by subst e;rw[G]at B;omega
  rw[D x e]at j;rw[D y u]at B;exact h.cmp x y j B h1 h2
theorem Gy{succ:α->List α}{path:List α}{s:St α}{a:α}(h:Inv succ path s)(ha:s.low a=0):Le s (push s a):=by
 have j:s.on a=0:=(h.EO a).2 ha;refine⟨fun x b=>jz fun e=>b (e▸ha),fun x b=>?_,by show s.n<=s.n+1;omega⟩;have: ¬x=a:=fun e=>by subst e;omega
 show u1 s.on a 1 x=2;rw[jz this];exact b
def vm(s:St α)(u c:List α)(b:Int):St α:=⟨s.low,fun x=>if x∈c then 2 else s.on x,fun x=>if x∈c then b else s.ring x,s.n,u⟩
theorem xa{a:α}{b:Int}{s:St α}(h: ¬s.on a=1): ∀k,eO a b k s=s
 |0=>rfl
 |k+1=>be h
theorem ub(a:α)(j:Int)(u:List α): ∀(k:Nat) (t:List α) (s:St α),t.length<k->s.stack=u++a::t->a∉t->s.on a=1->(eO a j k s).low=s.low∧(eO a j k s).n=s.n∧(eO a j k s).stack=u∧(∀x,(eO a j k s).on x=if x∈a::t then 2 else s.on x)∧ ∀x,(eO a j k s).ring x=if x∈a::t then j else s.ring x
 |0,t,s,h,_,_,_=>absurd h (QA _)
 |k+1,t,s,hk,hs,hn,ho=>by
  rw[eO,am ho];rcases t.eq_nil_or_concat with e|⟨t0,b,e⟩
  .subst e;have hl:s.stack.getLast? =co a:=by rw[hs];simp
   have hd:s.stack.dropLast=u:=by rw[hs];simp
   have G:vn j s=⟨s.low,u1 s.on a 2,u1 s.ring a j,s.n,u⟩:=by unfold vn;rw[hl,hd]
   rw[G,xa (by show¬u1 s.on a 2 a=1;rw[iE];decide)];exact⟨rfl,rfl,rfl,fun x=>by simp[u1],fun x=>by simp[u1]⟩
  .rw[RL]at e;subst e;have B:s.stack=(u++a::t0)++ [b]:=by rw[hs];simp
   have hl:s.stack.getLast? =co b:=by rw[B];exact List.getLast?_concat
   have hd:s.stack.dropLast=u++a::t0:=by rw[B];exact List.dropLast_concat
   have G:vn j s=⟨s.low,u1 s.on b 2,u1 s.ring b j,s.n,u++a::t0⟩:=by unfold vn;rw[hl,hd]
   have D: ¬a=b:=fun e=>hn (by rw[e];simp);have C:=ub a j u k t0 ⟨s.low,u1 s.on b 2,u1 s.ring b j,s.n,u++a::t0⟩ (by simp at hk;omega) Z (fun g=>hn (Ph _ g)) (by show u1 s.on b 2 a=1;rw[jz D];exact ho);rw[G];refine⟨C.1,C.2.1,C.2.2.1,fun x=>?_,fun x=>?_⟩
   .rw[C.2.2.2.1 x];by_cases y:x∈a::t0
    .rw[am y,am (by rw[<-PT];exact Ph _ y)]
    .rw[be y];by_cases A:x=b
     .subst A;rw[am (by simp)];exact iE _ _ _
     .rw[be (by rw[<-PT,OW,OM];exact fun g=>g.elim y A)];exact jz A
   .rw[C.2.2.2.2 x];by_cases y:x∈a::t0
    .rw[am y,am (by rw[<-PT];exact Ph _ y)]
    .rw[be y];by_cases A:x=b
     .subst A;rw[am (by simp)];exact iE _ _ _
     .rw[be (by rw[<-PT,OW,OM];exact fun g=>g.elim y A)];exact jz A
theorem St.eq{β:Type}{s t:St β}(h1:s.low=t.low)(b:s.on=t.on)(j:s.ring=t.ring)(u:s.n=t.n)(x:s.stack=t.stack):s=t:=by
 cases s;cases t;simp_all
theorem pb{a:α}{b:Int}{u t:List α}{k:Nat}{s:St α}(hk:t.length<k)(hs:s.stack=u++a::t)(hn:a∉t)(ho:s.on a=1):eO a b k s=vm s u (a::t) b:=by
 obtain⟨h1,j,x,y,A⟩:=ub a b u k t s hk hs hn ho;exact St.eq h1 (funext y) (funext A) j x
theorem uL{β:Type}{succ:β->List β}{path:List β}{s:St β}(h:Inv succ path s){a b:β}(ha:s.on a=2)(hr:lr succ a b):s.on b=2:=by
 induction hr with
 |refl=>exact ha
 |step _ he ih=>exact h.Ho _ ih _ he
theorem GA{succ:α->List α}{path:List α}{s:St α}{a:α}{u t:List α}(h:Inv succ (path++ [a]) s)(hs:s.stack=u++a::t)(R: ∀g∈path,s.low g<s.low a)(i0: ∀z∈succ a,s.low z≠0)
  (d0: ∀y∈a::t,∀z∈succ y,s.on z=1->s.low a<=s.low z):Inv succ path (vm s u (a::t) (s.low a)):=by
 have I:=h.F5;rw[hs,Q3]at I;obtain⟨hu,hc,b0⟩:=I;have e0:=(PG.1 hc).1;have g0:s.on a=1:=(h.tN a).2 (by rw[hs];simp);have hC: ∀x,x∈a::t↔(s.on x=1∧s.low a<=s.low x):=by
  intro x;constructor
  .intro j;refine⟨(h.tN x).2 (by rw[hs];exact P8 _ j),?_⟩;rcases OP.1 j with e|e
   .rw[e];exact QM _
   .have:=e0 x e;omega
  .rintro⟨h1,D⟩;have:=(h.tN x).1 h1;rw[hs]at this;rcases OW.1 this with g|g
   .have:=b0 x g a OO;omega
   .exact g
 have Y:a∈a::t:=OO;have A: ∀x,x∈a::t->(vm s u (a::t) (s.low a)).on x=2:=fun x j=>am j;have no: ∀x,x∉a::t->(vm s u (a::t) (s.low a)).on x=s.on x:=fun x j=>be j
 have J: ∀x,x∈a::t->lr succ x a:=by
  intro x j;obtain⟨h1,D⟩:=(hC x).1 j;obtain⟨g,g1,g2,g3⟩:=h.up x h1;refine g3.trans (h.dn g g1 a g0 ?_);rcases OW.1 g1 with e|e
  .have:=R g e;omega
  .rw[OM]at e;rw[e];exact QM _
 have G: ∀x,x∈a::t->lr succ a x:=by
  intro x j;obtain⟨h1,D⟩:=(hC x).1 j;exact h.dn a (by simp) x h1 D
 have a0: ∀y,s.low y≠0->y∉path-> ∀z∈succ y,s.low z≠0:=by
  intro y B j0 z hz;by_cases e:y=a
  .rw[e]at hz;exact i0 z hz
  .exact h.az y B (by rw[OW,OM];exact fun g=>g.elim j0 e) z hz
 refine⟨h.lh,h.inj,fun x=>?_,fun x=>?_,fun x=>?_,hu,fun x j b hb=>?_,fun g hg=>?_,fun y B=>?_,fun g hg y B f0=>?_,a0,fun x j=>?_,fun x y j B h1 D=>?_⟩
 .by_cases e:x∈a::t
  .rw[A x e];have:=rP h ((hC x).1 e).1;exact⟨fun g=>by omega,fun g=>absurd g this⟩
  .rw[no x e];exact h.EO x
 .by_cases e:x∈a::t
  .exact .inr (.inr (A x e))
  .rw[no x e];exact h.Bk x
 .show _↔x∈u;by_cases e:x∈a::t
  .rw[A x e];refine⟨fun g=>by omega,fun g=>?_⟩;have h1:=b0 x g a Y;have D:=((hC x).1 e).2;omega
  .rw[no x e,h.tN x,hs,OW];exact⟨fun g=>g.elim id fun q=>absurd q e,.inl⟩
 .by_cases e:x∈a::t
  .obtain⟨h1,D⟩:=(hC x).1 e;have c0:s.low b≠0:=a0 x (rP h h1) (fun g=>by have:=R x g;omega) b hb;rcases h.Bk b with g|g|g
   .exact absurd ((h.EO b).1 g) c0
   .exact A b ((hC b).2 ⟨g,d0 x e b hb g⟩)
   .by_cases C:b∈a::t
    .exact A b C
    .rw[no b C];exact g
  .rw[no x e]at j;have g:=h.Ho x j b hb;by_cases C:b∈a::t
   .exact A b C
   .rw[no b C];exact g
 .have h1:=h.Kv g (Ph _ hg);have D:=R g hg;rw[no g (fun e=>by have:=((hC g).1 e).2;omega)];exact h1
 .by_cases e:y∈a::t
  .rw[A y e]at B;omega
  .rw[no y e]at B;obtain⟨g,g1,g2,g3⟩:=h.up y B;rcases OW.1 g1 with q|q
   .exact⟨g,q,g2,g3⟩
   .rw[OM]at q;rw[q]at g2;exact absurd ((hC y).2 ⟨B,g2⟩) e
 .by_cases e:y∈a::t
  .rw[A y e]at B;omega
  .rw[no y e]at B;exact h.dn g (Ph _ hg) y B f0
 .by_cases e:x∈a::t
  .exact⟨a,A a Y,(am e).symm,J x e,G x e⟩
  .rw[no x e]at j;obtain⟨r,r1,r2,r3⟩:=h.Mv x j;have C:r∉a::t:=fun g=>by have:=((hC r).1 g).1;omega
   refine⟨r,by rw[no r C];exact r1,?_,r3⟩;show s.low r=if x∈a::t then s.low a else s.ring x;rw[be e];exact r2
 .show(if x∈a::t then s.low a else s.ring x)=if y∈a::t then s.low a else s.ring y;by_cases e:x∈a::t
  .by_cases C:y∈a::t
   .rw[am e,am C]
   .rw[no y C]at B;have:=uL h B D;have:=((hC x).1 e).1;omega
  .rw[no x e]at j;by_cases C:y∈a::t
   .have:=uL h j h1;have:=((hC y).1 C).1;omega
   .rw[no y C]at B;rw[be e,be C];exact h.cmp x y j B h1 D
theorem Bx{succ:α->List α}{path:List α}{s:St α}{a z:α}(h:Inv succ (path++ [a]) s)(j: ∀z∈succ a,s.low z≠0)(C:s.on z=1)(B:s.low z<s.low a)(hr:lr succ a z):Inv succ path s:=by
 refine⟨h.lh,h.inj,h.EO,h.Bk,h.tN,h.F5,h.Ho,fun g b=>h.Kv g (Ph _ b),fun y x=>?_,fun g b=>h.dn g (Ph _ b),fun y x A w u=>?_,h.Mv,h.cmp⟩
 .obtain⟨g,g1,g2,g3⟩:=h.up y x;rcases OW.1 g1 with q|q
  .exact⟨g,q,g2,g3⟩
  .rw[OM]at q;subst q;obtain⟨k,D,I,G⟩:=h.up z C;rcases OW.1 D with q|q
   .exact⟨k,q,by omega,(g3.trans hr).trans G⟩
   .rw[OM]at q;subst q;omega
 .by_cases e:y=a
  .rw[e]at u;exact j w u
  .exact h.az y x (by rw[OW,OM];exact fun g=>g.elim A e) w u
def iD(V:List α)(s:St α):Nat:=(V.filter fun x=>kw (s.low x=0)).length
theorem filter_le{β:Type}{p q:β->Bool}: ∀(l:List β),(∀x∈l,p x=is->q x=is)->(l.filter p).length<=(l.filter q).length
 | [],_=>OL _
 |x::r,h=>by
  have u:=filter_le r fun y j=>h y (ON _ j);have b:=h x OO;rw[Qd,Qd];split
  .rename_i g;rw[am (b g)];simp only[Pb];omega
  .split
   .simp only[Pb];omega
   .exact u
theorem filter_lt{β:Type}{p q:β->Bool}{a:β}: ∀(l:List β),(∀x∈l,p x=is->q x=is)->a∈l->p a=jp->q a=is->(l.filter p).length<(l.filter q).length
 | [],_,h,_,_=>nomatch h
 |x::r,h,ha,h1,h2=>by
  have j:=filter_le r fun y b=>h y (ON _ b);have u:=h x OO;rw[Qd,Qd];rcases OP.1 ha with e|e
  .subst e;rw[h1,h2];simp only[Qb,if_false,if_true,Pb];omega
  .have A:=filter_lt r (fun y b=>h y (ON _ b)) e h1 h2;split
   .rename_i g;rw[am (u g)];simp only[Pb];omega
   .split
    .simp only[Pb];omega
    .exact A
theorem tF{β:Type}{V:List β}{s s':St β}(h:Le s s'):iD V s'<=iD V s:=
 filter_le V fun x _ b=>by
  refine decide_eq_true (PM fun g=>?_);have:=of_decide_eq_true b;rw[h.low x g]at this;exact g this
theorem jj{V:List α}{s:St α}{a:α}(hn: ∀x,0<=s.low x∧s.low x<=s.n)(ha:a∈V)(h0:s.low a=0):iD V (push s a)<iD V s:=by
 have la:(push s a).low a=(s.n:Int)+1:=iE _ _ _;refine filter_lt V (fun x _ b=>?_) ha (decide_eq_false (by rw[la];omega)) (decide_eq_true h0);have:=of_decide_eq_true b;by_cases e:x=a
 .rw[e];exact decide_eq_true h0
 .refine decide_eq_true ?_;rwa[show(push s a).low x=s.low x from jz e]at this
structure eA (succ:α->List α) (path:List α) (a:α) (s0:St α) (done:List α) (q:Int×St α) (t:List α):Prop where
 inv:Inv succ (path++ [a]) q.2
 le:Le (push s0 a) q.2
 stack:q.2.stack=s0.stack++a::t
 new: ∀y∈t,s0.low y=0
 KH:q.1<=(s0.n:Int)+1
 l1: ∀y∈t,∀z∈succ y,q.2.on z=1->q.1<=q.2.low z
 MK: ∀z∈done,q.2.on z=1->q.1<=q.2.low z
 proc: ∀z∈done,q.2.low z≠0
 l2: ∃z,q.2.on z=1∧q.2.low z=q.1∧lr succ a z
section
variable {succ:α->List α} {path:List α} {a:α} {s0:St α} {done:List α} {q:Int×St α} {t:List α}
theorem eA.la(h:eA succ path a s0 done q t):q.2.low a=(s0.n:Int)+1:=by
 have e:(push s0 a).low a=(s0.n:Int)+1:=iE _ _ _;rw[h.le.low a (by rw[e];omega),e]
theorem eA.pa(h:eA succ path a s0 done q t)(h0:Inv succ path s0)(ha:s0.low a=0): ∀g∈path,q.2.low g<q.2.low a:=by
 intro g j;have h1:=h0.Kv g j;have b:=rP h0 h1;have e:(push s0 a).low g=s0.low g:=jz fun e=>b (by rw[e];exact ha);rw[h.la,h.le.low g (by rw[e];exact b),e];have:=h0.lh g;omega
theorem eA.at_(h:eA succ path a s0 done q t):a∉t:=fun g=>by
 have:=h.inv.F5;rw[h.stack,Q3]at this;have:=(PG.1 this.2.1).1 a g;omega
theorem eA.step{V:List α}{u:α->St α->Int×St α}{f:Nat}(hV: ∀a∈V,∀b∈succ a,b∈V)
  (ih: ∀(path:List α) (b:α) (s:St α),Inv succ path s->s.low b=0->b∈V->(∀g∈path,lr succ g b)->iD V s<=f-> ∃t,Ld succ path b s (u b s).1 (u b s).2 t)
  (h:eA succ path a s0 done q t) (h0:Inv succ path s0) (ha:s0.low a=0) (a0:a∈V) {b:α} (hb:b∈succ a) (hw:iD V q.2<=f): ∃t',eA succ path a s0 (done++ [b]) (pQ u q b) t':=by
 have i0:=h.la;have e0:=h.pa h0 ha;have b0:=h.at_;have d0:q.2.on a=1:=(h.inv.tN a).2 (by rw[h.stack];simp);unfold pQ;by_cases G:q.2.low b=0
 .rw[am G];have J: ∀g∈path++ [a],lr succ g b:=by
   intro g hg;refine .step (h.inv.dn g hg a d0 ?_) hb;rcases OW.1 hg with e|e
   .have:=e0 g e;omega
   .rw[OM]at e;rw[e];exact QM _
  obtain⟨tb,x⟩:=ih (path++ [a]) b q.2 h.inv G (hV a a0 b hb) J hw;generalize u b q.2=w at x ⊢;obtain⟨I,s'⟩:=w;have C: ∀z,q.2.on z=1->s'.on z=1:=fun z j=>(x.inv.tN z).2 (by rw[x.stack];exact Ph _ ((h.inv.tN z).1 j));have k0:=h.le.n;have j0:(push s0 a).n=s0.n+1:=rfl;refine⟨t++tb,x.inv,h.le.trans x.le,?_,fun y R=>?_,?_,fun y R z j D=>?_,fun z j D=>?_,fun z j=>?_,?_⟩
  .show s'.stack=_;rw[x.stack,h.stack];simp
  .rcases OW.1 R with g|g
   .exact h.new y g
   .refine PM fun hc=>?_
    have e:(push s0 a).low y=s0.low y:=jz fun e=>hc (by rw[e];exact ha);have:=h.le.low y (by rw[e];exact hc);rw[x.new y g,e]at this;exact hc this.symm
  .have:=h.KH;show min q.1 I<=_;omega
  .show min q.1 I<=s'.low z;rcases OW.1 R with g|g
   .have g0:q.2.on y=1:=(h.inv.tN y).2 (by rw[h.stack];simp[g]);have f0:y∉path++ [a]:=by
     rw[OW,OM];rintro(e|e)
     .have h1:=rP h0 (h0.Kv y e);exact h1 (h.new y g)
     .rw[e]at g;exact b0 g
    have A:=h.inv.az y (rP h.inv g0) f0 z j;have B:=C9 h.inv x.le A D;have:=h.l1 y g z j B;rw[x.le.low z A];omega
   .have:I<=s'.low z:=x.l1 y g z j D;omega
  .show min q.1 I<=s'.low z;rcases OW.1 j with g|g
   .have A:=h.proc z g;have:=h.MK z g (C9 h.inv x.le A D);rw[x.le.low z A];omega
   .rw[OM]at g;subst g;have:I<=s'.low z:=x.KH;omega
  .show s'.low z≠0;rcases OW.1 j with g|g
   .have A:=h.proc z g;rw[x.le.low z A];exact A
   .rw[OM]at g;subst g;have:(q.2.n:Int)<s'.low z:=x.at_;omega
  .obtain⟨z,Y,z2,z3⟩:=h.l2;by_cases c0:q.1<=I
   .exact⟨z,C z Y,by show s'.low z=min q.1 I;rw[x.le.low z (rP h.inv Y)];omega,z3⟩
   .rcases x.l2 with⟨_,g⟩|⟨w,w1,w2,w3⟩
    .have h1:I=s'.low b:=g;have h2:(q.2.n:Int)<s'.low b:=x.at_;have h3:=h.KH;omega
    .have w2:s'.low w=I:=w2;exact⟨w,C w ((h.inv.tN w).2 w1),by show s'.low w=min q.1 I;omega,(lr.one hb).trans w3⟩
 .rw[be G];by_cases B:q.2.on b=1
  .rw[am B];refine⟨t,h.inv,h.le,h.stack,h.new,?_,fun y R z j D=>?_,fun z j D=>?_,fun z j=>?_,?_⟩
   .have:=h.KH;show min q.1 (q.2.low b)<=_;omega
   .have:=h.l1 y R z j D;show min q.1 (q.2.low b)<=q.2.low z;omega
   .show min q.1 (q.2.low b)<=q.2.low z;rcases OW.1 j with g|g
    .have:=h.MK z g D;omega
    .rw[OM]at g;subst g;omega
   .rcases OW.1 j with g|g
    .exact h.proc z g
    .rw[OM]at g;subst g;exact G
   .obtain⟨z,Y,z2,z3⟩:=h.l2;by_cases c0:q.1<=q.2.low b
    .exact⟨z,Y,by show q.2.low z=min q.1 (q.2.low b);omega,z3⟩
    .exact⟨b,B,by show q.2.low b=min q.1 (q.2.low b);omega,.one hb⟩
  .rw[be B];refine⟨t,h.inv,h.le,h.stack,h.new,h.KH,h.l1,fun z j D=>?_,fun z j=>?_,h.l2⟩
   .rcases OW.1 j with g|g
    .exact h.MK z g D
    .rw[OM]at g;subst g;exact absurd D B
   .rcases OW.1 j with g|g
    .exact h.proc z g
    .rw[OM]at g;subst g;exact G
end
theorem ph{succ:α->List α}{path:List α}{a:α}{s0:St α}{V:List α}{j:α->St α->Int×St α}{f:Nat}(B: ∀a∈V,∀b∈succ a,b∈V)
  (C: ∀(path:List α) (b:α) (s:St α),Inv succ path s->s.low b=0->b∈V->(∀g∈path,lr succ g b)->iD V s<=f-> ∃t,Ld succ path b s (j b s).1 (j b s).2 t)
  (h0:Inv succ path s0) (ha:s0.low a=0) (u:a∈V) (y:iD V (push s0 a)<=f):
  ∀(l done:List α) (q:Int×St α) (t:List α),eA succ path a s0 done q t->(∀b∈l,b∈succ a)-> ∃G,eA succ path a s0 (done++l) (l.foldl (pQ j) q) G
 | [],done,q,t,h,_=>⟨t,by rw[Pw];exact h⟩
 |b::l,done,q,t,h,hl=>by
  obtain⟨t1,h1⟩:=h.step B C h0 ha u (hl b OO) (Pp (tF h.le) y);obtain⟨t2,A⟩:=ph B C h0 ha u y l (done++ [b]) _ t1 h1 fun x D=>hl x (ON _ D);exact⟨t2,by rw[O0]at A;exact A⟩
theorem nh{succ:α->List α}{V:List α}(hV: ∀a∈V,∀b∈succ a,b∈V): ∀(f:Nat) (path:List α) (a:α) (s:St α),Inv succ path s->s.low a=0->a∈V->(∀g∈path,lr succ g a)->iD V s<=f-> ∃t,Ld succ path a s (dF succ f a s).1 (dF succ f a s).2 t
 |0,path,a,s,h,ha,haV,_,hw=>by
  have:=jj h.lh haV ha;omega
 |f+1,path,a,s,h,ha,haV,hp,hw=>by
  have d0:=jj h.lh haV ha;have hi:=w9 h ha hp;have la:(push s a).low a=(s.n:Int)+1:=iE _ _ _;have oa:(push s a).on a=1:=iE _ _ _;have J:eA succ path a s [] ((s.n:Int)+1,push s a) []:=
   ⟨hi,.refl _,rfl,fun y u=>(nomatch u),QM _,fun y u=>(nomatch u),fun z C=>(nomatch C),fun z C=>(nomatch C),⟨a,oa,la,.refl _⟩⟩
  obtain⟨t,j⟩:=ph hV (fun p b s'=>nh hV f p b s') h ha haV (by omega) (succ a) [] _ [] J fun b hb=>hb;rw[Qh]at j;rw[dF];generalize(succ a).foldl (pQ (dF succ f)) ((s.n:Int)+1,push s a)=q at j ⊢;have D:=j.la;have b0:=j.pa h ha;have R:=j.at_;have a0:q.2.on a=1:=(j.inv.tN a).2 (by rw[j.stack];simp);have A:Le s q.2:=(Gy h ha).trans j.le;unfold qH;by_cases Y:q.1=(s.n:Int)+1
  .rw[am Y,pb (by rw[j.stack];simp;omega) j.stack R a0,<-D];refine⟨[],GA j.inv j.stack b0 j.proc fun y u z C G=>?_,⟨A.low,fun x hx=>?_,A.n⟩,by rw[Pw];rfl,fun y u=>(nomatch u),?_,?_,fun y u=>(nomatch u),.inl ⟨am OO,?_⟩⟩
   .rw[D,<-Y];rcases OP.1 u with e|e
    .rw[e]at C;exact j.MK z C G
    .exact j.l1 y e z C G
   .show(if x∈a::t then(2:Int) else q.2.on x)=2;split
    .rfl
    .exact A.Ho x hx
   .show(s.n:Int)<q.2.low a;omega
   .show q.1<=q.2.low a;omega
   .show q.1=q.2.low a;omega
  .rw[be Y];have c0:q.1<q.2.low a:=by have:=j.KH;omega
   obtain⟨z,z1,z2,z3⟩:=j.l2;have I:=j.inv.F5;rw[j.stack,Q3]at I;refine⟨a::t,Bx j.inv j.proc z1 (by omega) z3,A,j.stack,fun y u=>?_,by omega,by omega,fun y u w B G=>?_,.inr ⟨z,?_,z2,z3⟩⟩
   .rcases OP.1 u with e|e
    .rw[e];exact ha
    .exact j.new y e
   .rcases OP.1 u with e|e
    .rw[e]at B;exact j.MK w B G
    .exact j.l1 y e w B G
   .have:=(j.inv.tN z).1 z1;rw[j.stack]at this;rcases OW.1 this with g|g
    .exact g
    .rcases OP.1 g with e|e
     .rw[e]at z2;omega
     .have:=(PG.1 I.2.1).1 z e;omega
theorem IU{β:Type}(succ:β->List β):Inv succ [] (St.o:St β):=
 ⟨fun _=>⟨QM _,QM _⟩,fun _ _ _ h=>absurd Z h,fun _=>Iff.rfl,fun _=> .inl Z,fun _=>⟨fun h=>(nomatch h),fun h=>(nomatch h)⟩,.nil,fun _ h=>(nomatch h),fun _ h=>(nomatch h),fun _ h=>(nomatch h),fun _ h=>(nomatch h),fun _ h=>absurd Z h,fun _ h=>(nomatch h),fun _ _ h=>(nomatch h)⟩
theorem o7{succ:α->List α}{V:List α}(A: ∀a∈V,∀b∈succ a,b∈V){f:Nat}(hf:V.length<=f): ∀(l:List α) (s:St α),(∀a∈l,a∈V)->Inv succ [] s->Inv succ [] (fy succ f l s)∧(∀x,s.low x≠0->(fy succ f l s).low x≠0)∧ ∀a∈l,(fy succ f l s).low a≠0
 | [],s,_,h=>⟨h,fun _ j=>j,fun _ u=>(nomatch u)⟩
 |b::l,s,hl,h=>by
  have key: ∃s',(if s.low b=0 then(dF succ f b s).2 else s)=s'∧Inv succ [] s'∧(∀x,s.low x≠0->s'.low x≠0)∧s'.low b≠0:=by
   by_cases e:s.low b=0
   .obtain⟨t,y⟩:=nh A f [] b s h e (hl b OO) (fun g C=>nomatch C) (Pp (PQ _ _) hf);refine⟨_,am e,y.inv,fun x j=>by rw[y.le.low x j];exact j,?_⟩;have:=y.at_;omega
   .exact⟨s,be e,h,fun _ j=>j,e⟩
  obtain⟨s',e,D,G,I⟩:=key;obtain⟨i1,i2,i3⟩:=o7 A hf l s' (fun a u=>hl a (ON _ u)) D;have B:fy succ f (b::l) s=fy succ f l s':=by
   show fy succ f l (if s.low b=0 then(dF succ f b s).2 else s)=_;rw[e]
  rw[B];refine⟨i1,fun x j=>i2 x (G x j),fun a u=>?_⟩;rcases OP.1 u with q|q
  .rw[q];exact i2 b I
  .exact i3 a q
theorem A6{succ:α->List α}{V:List α}(A: ∀a∈V,∀b∈succ a,b∈V){f:Nat}(hf:V.length<=f){a b:α}(ha:a∈V)(hb:b∈V):
  (fy succ f V St.o).ring a=(fy succ f V St.o).ring b↔lr succ a b∧lr succ b a:=by
 obtain⟨h,_,y⟩:=o7 A hf V St.o (fun _ h=>h) (IU succ);generalize fy succ f V St.o=s at h y ⊢;have j: ∀x∈V,s.on x=2:=by
  intro x B;rcases h.Bk x with g|g|g
  .exact absurd ((h.EO x).1 g) (y x B)
  .obtain⟨k,C,_⟩:=h.up x g;exact nomatch C
  .exact g
 constructor
 .intro e;obtain⟨r,r1,r2,I,J⟩:=h.Mv a (j a ha);obtain⟨q,R,Y,D,G⟩:=h.Mv b (j b hb);have u:s.low r≠0:=fun g=>by have:=(h.EO r).2 g;omega
  have:r=q:=h.inj r q (by omega) u;subst this;exact⟨I.trans G,D.trans J⟩
 .rintro⟨h1,h2⟩;exact h.cmp a b (j a ha) (j b hb) h1 h2
end
end
end
end Go.Tj
namespace Go.Wa
section
inductive sY (R:Nat->Nat->Prop):Nat->Nat->Prop
 |refl (a:Nat):sY R a a
 |step {a b c:Nat} (h:R a b) (t:sY R b c):sY R a c
theorem sY.trans{R:Nat->Nat->Prop}{a b c:Nat}(h:sY R a b)(k:sY R b c):sY R a c:=by
 induction h with
 |refl=>exact k
 |step h _ ih=>exact .step h (ih k)
def W(E:Nat->Nat->Bool):Nat->Nat->Nat->Bool
 |0,a,b=>E a b||a==b
 |m+1,a,b=>W E m a b||(W E m a m&&W E m m b)
variable {E:Nat->Nat->Bool}
theorem W.mono(m a b:Nat)(h:W E m a b=is):W E (m+1) a b=is:=by simp[W,h]
theorem W.IX{m k a b:Nat}(hk:m<=k)(h:W E m a b=is):W E k a b=is:=by
 induction hk with
 |refl=>exact h
 |step _ ih=>exact W.mono _ _ _ ih
theorem W.self(m a:Nat):W E m a a=is:=W.IX (OS m) (by simp[W])
theorem W.trans: ∀(m a k b:Nat),k<m->W E m a k=is->W E m k b=is->W E m a b=is
 |m+1,a,k,b,hk,h1,j=>by
  simp only[W,Qz,Pq]at h1 j ⊢;by_cases A:k=m
  .subst A;have B:W E k a k=is:=by rcases h1 with h|h;exact h;exact h.1
   have C:W E k k b=is:=by rcases j with h|h;exact h;exact h.2
   exact .inr ⟨B,C⟩
  .have u:k<m:=by omega
   rcases h1 with h1|⟨h1,y⟩<;>rcases j with j|⟨j,x⟩
   .exact .inl (W.trans m a k b u h1 j)
   .exact .inr ⟨W.trans m a k m u h1 j,x⟩
   .exact .inr ⟨h1,W.trans m m k b u y j⟩
   .exact .inr ⟨h1,x⟩
theorem W.sound: ∀(m a b:Nat),W E m a b=is->sY (fun a b=>E a b=is) a b
 |0,a,b,h=>by
  simp only[W,Qz,beq_iff_eq]at h;rcases h with h|h
  .exact .step h (.refl _)
  .subst h;exact .refl _
 |m+1,a,b,h=>by
  simp only[W,Qz,Pq]at h;rcases h with h|⟨h1,j⟩
  .exact W.sound m a b h
  .exact(W.sound m a m h1).trans (W.sound m m b j)
theorem W.iff{n:Nat}(hE: ∀a b,a<n->E a b=is->b<n){a b:Nat}(ha:a<n):W E n a b=is↔sY (fun a b=>E a b=is) a b:=by
 refine⟨W.sound n a b,fun h=>?_⟩
 induction h with
 |refl a=>exact W.self n a
 |step h _ ih=>
  have hb:=hE _ _ ha h;exact W.trans n _ _ _ hb (W.IX (OS n) (by simp[W,h])) (ih hb)
def V(E:Nat->Nat->Bool)(m a b x y:Nat):Bool:=if x<a∨x=a∧y<b then W E (m+1) x y else W E m x y
theorem V.row(m a b y:Nat):V E m a b m y=W E m m y:=by
 unfold V;split
 .simp only[W];cases W E m m y<;>simp
 .rfl
end
end Go.Wa
namespace Go.Co
section
section
variable {n:Nat} {s7:Nat->Nat->Bool} {e:Nat->Nat->Bool}
structure Far (n:Nat) (e s7:Nat->Nat->Bool):Prop where
 refl: ∀a,a<n->s7 a a=is
 trans: ∀a b c,s7 a b=is->s7 b c=is->s7 a c=is
 edge: ∀a b,a<n->e a b=is->s7 a b=is
 lt: ∀a b,a<n->s7 a b=is->b<n
 elt: ∀a b,a<n->e a b=is->b<n
 split: ∀a b (p:Nat->Prop),a<n->s7 a b=is->p a-> ¬p b-> ∃x y,x<n∧s7 a x=is∧p x∧e x y=is∧ ¬p y∧s7 y b=is
def cls(s7:Nat->Nat->Bool)(a b:Nat):Bool:=s7 a b&&s7 b a
end
end
end Go.Co
namespace Go.Rg
open Go.Wa Go.Co Go.Tj
section
section
variable {α:Type} [Inhabited α]
def ed(V:List α)(g:α->α->Bool)(i j:Nat):Bool:=kw (i<V.length)&&kw (j<V.length)&&g (V.getD i ci) (V.getD j ci)
def s7(V:List α)(g:α->α->Bool):Nat->Nat->Bool:=W (ed V g) V.length
theorem yT{V:List α}{g:α->α->Bool}{i j:Nat}:ed V g i j=is↔i<V.length∧j<V.length∧g (V.getD i ci) (V.getD j ci)=is:=by
 simp[ed,and_assoc]
theorem vz{V:List α}{a:α}(h:a∈V): ∃i,i<V.length∧V.getD i ci=a:=by
 obtain⟨i,b,rfl⟩:=Qp.1 h;exact⟨i,b,by simp[OC,b]⟩
theorem get_mem{V:List α}{i:Nat}(h:i<V.length):V.getD i ci∈V:=by
 rw[OC,OD h];exact Pm h
theorem y7{V:List α}(hn:V.Nodup){g:α->α->Bool}{succ:α->List α}(hs: ∀a∈V,∀b,b∈succ a↔b∈V∧g a b=is){i j:Nat}(hi:i<V.length)(hj:j<V.length):
  s7 V g i j=is↔lr succ (V.getD i ci) (V.getD j ci):=by
 have B: ∀{x y:Nat},x<V.length->y<V.length->V.getD x ci=V.getD y ci->x=y:=by
  intro x y C u h;rw[OC,OC,OD C,OD u]at h;exact(List.getElem_inj hn).1 h
 rw[s7,W.iff (n:=V.length) (fun a b _ h=>(yT.1 h).2.1) hi];constructor
 .intro h;clear hj;have: ∀{a b:Nat},sY (fun a b=>ed V g a b=is) a b->lr succ (V.getD a ci) (V.getD b ci):=by
   intro a b h
   induction h with
   |refl a=>exact .refl _
   |step h _ ih=>
    obtain⟨h1,A,D⟩:=yT.1 h;exact(lr.step (.refl _) ((hs _ (get_mem h1) _).2 ⟨get_mem A,D⟩)).trans ih
  exact this h
 .intro h;have key: ∀{a b:α},lr succ a b-> ∀x,x<V.length->V.getD x ci=a-> ∃y,y<V.length∧V.getD y ci=b∧sY (fun a b=>ed V g a b=is) x y:=by
   intro a b h
   induction h with
   |refl=>exact fun x C G=>⟨x,C,G,.refl _⟩
   |step _ hc ih=>
    intro x C G;obtain⟨y,u,h1,A⟩:=ih x C G;subst h1;obtain⟨D,J⟩:=(hs _ (get_mem u) _).1 hc;obtain⟨z,I,rfl⟩:=vz D;exact⟨z,I,rfl,A.trans (.step (yT.2 ⟨u,I,J⟩) (.refl _))⟩
  obtain⟨y,u,h1,A⟩:=key h i hi Z;have:=B u hj h1;subst this;exact A
def s4(V:List α)(g:α->α->Bool)(b:α->Int):Prop:= ∀i j,i<V.length->j<V.length->(b (V.getD i ci)=b (V.getD j ci)↔s7 V g i j=is∧s7 V g j i=is)
theorem CQ[DecidableEq α]{V:List α}(hn:V.Nodup){g:α->α->Bool}{succ:α->List α}(hs: ∀a∈V,∀b,b∈succ a↔b∈V∧g a b=is){f:Nat}(hf:V.length<=f):s4 V g (fy succ f V St.o).ring:=by
 intro i j u x;rw[A6 (fun a y b hb=>((hs a y b).1 hb).1) hf (get_mem u) (get_mem x),y7 hn hs u x,y7 hn hs x u]
end
end
end Go.Rg
namespace Go.Proofs.YtllkaddcplhklaaGreatDoor
open Go Go.Al
mutual
def named:Lit->List ak
 | .mk k a _ _ _ _ _ _ b _=>if k=1∨k=2 then[a.rel] else if k=4 then fC b else[]
def fC:List Lit->List ak
 | []=> []
 |l::r=>named l++fC r
end
def Dm(l:Lit):List ak:=if l.kind=1∨l.kind=2 then[l.atom.rel] else if l.kind=4 then(l.ar.filter fun x=>kw (x.kind=1∨x.kind=2)).map fun x=>x.atom.rel else[]
theorem lI: ∀l:List Lit,fC l=l.flatMap named
 | []=>rfl
 |x::r=>by simp only[fC,PH,lI r]
theorem uo: ∀(b:List Lit),(∀x∈b,x.kind≠4)->fC b=(b.filter fun x=>kw (x.kind=1∨x.kind=2)).map fun x=>x.atom.rel
 | [],_=>rfl
 | .mk k' a' op' le' ri' af' av' ao' b' at'::b,h=>by
  have j:k'≠4:=h (.mk k' a' op' le' ri' af' av' ao' b' at') (OO ..);rw[fC,uo b fun y u=>h y (ON _ u),Qd];by_cases hk:k'=1∨k'=2
  .have:kw ((Lit.mk k' a' op' le' ri' af' av' ao' b' at').kind=1∨(Lit.mk k' a' op' le' ri' af' av' ao' b' at').kind=2)=is:=decide_eq_true hk;rw[this,named,am hk];rfl
  .have:kw ((Lit.mk k' a' op' le' ri' af' av' ao' b' at').kind=1∨(Lit.mk k' a' op' le' ri' af' av' ao' b' at').kind=2)=jp:=decide_eq_false hk;rw[this,named,be hk,be j];rfl
theorem Dl(l:Lit)(h:l.kind=4-> ∀x∈l.ar,x.kind≠4):named l=Dm l:=by
 obtain⟨k,a,op,le,B,u,A,y,b,at_⟩:=l;show(if k=1∨k=2 then[a.rel] else if k=4 then fC b else[])=if k=1∨k=2 then[a.rel] else if k=4 then(b.filter fun x=>kw (x.kind=1∨x.kind=2)).map fun x=>x.atom.rel else[];by_cases j:k=4
 .rw[uo b (h j)]
 .rw[be j,be j]
def kN(l:Lit):Nat:=if l.kind=1 then 1 else 2
def cA(p:Prog):List (ak×ak×Nat):=p.rules.flatMap fun r=>r.body.flatMap fun l=>(named l).map fun t=>(r.head.rel,t,kN l)
def gD(hs:List (ak×ak×Nat))(a b:ak):Nat:=hs.foldl (fun m x=>if x.1=a∧x.2.1=b then max m x.2.2 else m) 0
theorem vQ(a b:ak): ∀(hs:List (ak×ak×Nat)) (m:Nat),m<=hs.foldl (fun m x=>if x.1=a∧x.2.1=b then max m x.2.2 else m) m∧(∀k,(a,b,k)∈hs->k<=hs.foldl (fun m x=>if x.1=a∧x.2.1=b then max m x.2.2 else m) m)∧
  (hs.foldl (fun m x=>if x.1=a∧x.2.1=b then max m x.2.2 else m) m=m∨(a,b,hs.foldl (fun m x=>if x.1=a∧x.2.1=b then max m x.2.2 else m) m)∈hs)
 | [],m=>⟨OL _,fun _ h=>(nomatch h),.inl Z⟩
 |(x,y,k)::hs,m=>by
  obtain⟨h1,u,h3⟩:=vQ a b hs (if x=a∧y=b then max m k else m);rw[Pr];refine⟨Pp ?_ h1,fun A hk=>?_,?_⟩
  .split<;>omega
  .rcases OP.1 hk with h|h
   .cases h;refine Pp ?_ h1;rw[am ⟨rfl,rfl⟩];exact Nat.le_max_right _ _
   .exact u A h
  .rcases h3 with h3|h3
   .by_cases j:x=a∧y=b
    .rw[am j]at h3;rcases Nat.le_total m k with h4|h4
     .right;rw[R5 h4]at h3;obtain⟨rfl,rfl⟩:=j;simp only[and_self,if_true,R5 h4]at h3 ⊢;rw[h3];simp
     .left;rw[Nat.max_eq_left h4]at h3;simp only[j,and_self,if_true,Nat.max_eq_left h4]at h3 ⊢;exact h3
    .rw[be j]at h3;left;simp only[be j];exact h3
   .exact .inr (ON _ h3)
theorem MW{hs:List (ak×ak×Nat)}{a b:ak}{k:Nat}(h:(a,b,k)∈hs):k<=gD hs a b:=(vQ a b hs 0).2.1 k h
theorem MV(hs:List (ak×ak×Nat))(a b:ak):gD hs a b=0∨(a,b,gD hs a b)∈hs:=(vQ a b hs 0).2.2
def ns(p:Prog):List ak:=c8 (p.aR.map Decl.name)
theorem uX.KB{l:List ak}(h:uX l):l.Nodup:=by
 refine Rz ?_ h;intro a b j e;subst e;exact kE _ j
def eg(p:Prog)(a b:ak):Bool:=kw (gD (cA p) a b≠0)
def KY(p:Prog):Nat->Nat->Bool:=Go.Rg.s7 (ns p) (eg p)
theorem CS{p:Prog}(hn:(p.aR.map Decl.name).Nodup){f:Nat}(hf:(ns p).length<=f):Go.Rg.s4 (ns p) (eg p) (Go.Tj.fy (fun a=>(ns p).filter (eg p a)) f (ns p) Go.Tj.St.o).ring:=
 Go.Rg.CQ (V:=ns p) (uX.KB (il hn)) (fun a _ b=>by rw[Pa]) hf
def ringEq(p:Prog)(a b:ak):Bool:=(O9 (ns p).length).any fun i=>(O9 (ns p).length).any fun j=>kw ((ns p).getD i ci=a)&&kw ((ns p).getD j ci=b)&&Go.Co.cls (KY p) i j
theorem yj{p:Prog}{a b:ak}:ringEq p a b=is↔ ∃i j,i<(ns p).length∧j<(ns p).length∧(ns p).getD i ci=a∧(ns p).getD j ci=b∧KY p i j=is∧KY p j i=is:=by
 simp only[ringEq,PO,PW,Pq,decide_eq_true_eq,Go.Co.cls];constructor
 .rintro⟨i,hi,j,hj,⟨h1,h2⟩,h3,h4⟩;exact⟨i,j,hi,hj,h1,h2,h3,h4⟩
 .rintro⟨i,j,hi,hj,h1,h2,h3,h4⟩;exact⟨i,hi,j,hj,⟨h1,h2⟩,h3,h4⟩
theorem pV{p:Prog}{u:ak->Int}(hr:Go.Rg.s4 (ns p) (eg p) u){a b:ak}(ha:a∈ns p)(hb:b∈ns p):ringEq p a b=kw (u a=u b):=by
 rw[PS,yj,decide_eq_true_eq];constructor
 .rintro⟨i,j,x,y,rfl,rfl,A,B⟩;exact(hr i j x y).2 ⟨A,B⟩
 .intro h;obtain⟨i,x,rfl⟩:=Go.Rg.vz ha;obtain⟨j,y,rfl⟩:=Go.Rg.vz hb;obtain⟨A,B⟩:=(hr i j x y).1 h;exact⟨i,j,x,y,rfl,rfl,A,B⟩
def yi(p:Prog)(r:aw):Bool:=r.body.any fun l=>kw (l.kind=1)&&ringEq p l.atom.rel r.head.rel
def u6(p:Prog)(r:aw):Option Lit:=r.body.find? fun l=>kw (l.kind≠1)&&(named l).any fun t=>ringEq p t r.head.rel
def pG(r:aw):Bool:=r.head.aj.any fun t=>kw (t.kind=1)&&!dp (jB r) t.var
def uZ(p:Prog)(r:aw):eZ:=match u6 p r with
 |some l=>(70,l.at)
 |none=>if pG r=is∧yi p r=is then(71,r.at_) else eZ.z
def sJ(p:Prog):eZ:=if(dK p).1≠0 then dK p else((p.rules.map (uZ p)).find? fun d=>kw (d.1≠0)).getD eZ.z
end Go.Proofs.YtllkaddcplhklaaGreatDoor
namespace Go.Re
open Go.Tj
section
variable {α:Type}
structure Mid (succ:α->List α) (S T:α->Prop) (a:α) (l:List α):Prop where
 Mz: ∀x,S x->T x
 here:T a
 new: ∀x,T x->S x∨lr succ a x
 next: ∀x,T x->S x∨x=a∨ ∀y∈succ x,T y
 done: ∀y∈l,T y
structure Top (succ:α->List α) (V:α->Prop) (T:α->Prop) (l:List α):Prop where
 new: ∀x,T x-> ∃r∈l,V r∧lr succ r x
 next: ∀x,T x-> ∀y∈succ x,T y
 done: ∀r∈l,V r->T r
end
end Go.Re
namespace Go.Proofs.YtllkaddcplhklaaGreatDoor
open Go Go.Al
section
section
variable {r t:aw} (hh:t.head=r.head) (hb: ∀x,x∈t.body↔x∈r.body)
include hh hb
end
section
variable {r t:aw} (hh:t.head=r.head) (hb: ∀x,x∈t.body↔x∈r.body)
include hh hb
end
structure Ow (r t u:aw) (i k:Int):Prop where
 NL: ∀x∈ey (aD (bJ r)),x∈ey (aD (aC r))
 My: ∀x∈ey (aD (mM r)),x∈ey (aD (bJ r))
 outer:ey (aD (aC t))=ey (aD (aC r))
 lim:ey (aD (bJ t))=ey (aD (bJ r))
 plain:ey (aD (mM t))=ey (aD (mM r))
 loc:vC t i=vC r k
 vC: ∀x∈vC r k,x∉ey (aD (aC r))
 more: ∀x∈ey (aD (bJ r)),x∈ey (aD (bJ u))
 hasX:Kz [88]∈ey (aD (bJ u))
end
theorem Gm{n sz:Nat}{es:List (List PV)}(h:es.all (bb n)=is):(AO.row sz es).low n:=fun _ e b=>Pj.1 h e (Pe b)
def s6:List IV->List IV->Prop
 | [],[]=>True
 |p::r,q::s=>km p q∧s6 r s
 |_,_=>False
theorem s6.length: ∀{a b:List IV},s6 a b->a.length=b.length
 | [],[],_=>rfl
 |_::_,_::_,h=>congrArg (· +1) (s6.length h.2)
 | [],_::_,h=>h.elim
 |_::_,[],h=>h.elim
theorem s6.get: ∀{a b:List IV},s6 a b-> ∀(j:Nat) (q:IV),b[j]? =co q-> ∃p,a[j]? =co p∧km p q
 | [],[],_,j,q,h=>by simp at h
 |p::r,q0::s,hh,j,q,h=>by
  cases j with
  |zero=>simp at h;subst h;exact⟨p,rfl,hh.1⟩
  |succ j=>simpa using s6.get hh.2 j q (by simpa using h)
 | [],_::_,hh,_,_,_=>hh.elim
 |_::_,[],hh,_,_,_=>hh.elim
theorem zs(p:Prog): ∀i,∀d∈nB p i,¬d.1=0
 |0,d,h=>by cases h
 |i+1,d,h=>by
  rw[nB]at h;rcases OW.1 h with h|h
  .exact zs p i d h
  .split at h
   .cases h
   .rename_i g;rw[OM]at h;subst h;exact g
theorem zo(p:Prog): ∀i,∀d∈oh p i,¬d.1=0
 |0,d,h=>by cases h
 |i+1,d,h=>by
  rw[oh]at h;rcases OW.1 h with h|h
  .exact zo p i d h
  .split at h
   .cases h
   .rename_i g;rw[OM]at h;subst h;exact g
theorem BJ(p:Prog): ∀d∈jv p,¬d.1=0:=fun d h=>by
 rcases OW.1 h with h|h
 .exact zs p _ d h
 .exact zo p _ d h
theorem yW(p:Prog):(dK p).1=0↔jv p=[]:=by
 unfold dK;cases h:jv p with
 |nil=>exact⟨fun _=>rfl,fun _=>rfl⟩
 |cons d l=>exact⟨fun e=>absurd e (BJ p d (by rw[h];exact OO)),fun e=>nomatch e⟩
theorem wR(p:Prog): ∀n,oh p n=[]↔ ∀i,i<n->(rF p i).1=0
 |0=>⟨fun _ i h=>absurd h (QA i),fun _=>rfl⟩
 |n+1=>by
  rw[oh,Rl,wR p n];constructor
  .rintro⟨h1,h2⟩ i b;rcases QH.1 b with h|h
   .exact h1 i h
   .subst h;by_cases g:(rF p i).1=0
    .exact g
    .rw[be g]at h2;cases h2
  .intro h;exact⟨fun i b=>h i (by omega),am (h n (by omega))⟩
theorem j8{α:Type}[Inhabited α]{l:List α}{i:Nat}(hi:i<l.length):l.getD i ci∈l:=by rw[OC,OD hi];exact Pm hi
structure jJ (p:Prog):Prop where
 nodup:(p.aR.map Decl.name).Nodup
 len:p.aR.length<=64
 Aa: ∀r∈p.rules,r.head.rel∈p.aR.map Decl.name
 lits: ∀r∈p.rules,∀l∈r.body,∀t∈named l,t∈p.aR.map Decl.name
 flat: ∀r∈p.rules,∀l∈r.body,l.kind=4-> ∀x∈l.ar,x.kind≠4
theorem wY(p:Prog): ∀n,nB p n=[]-> ∀i,i<n->fo p i=0
 |0,_,i,h=>absurd h (QA _)
 |n+1,h,i,hi=>by
  rw[nB]at h;obtain⟨h1,b⟩:=Rl.1 h;rcases QH.1 hi with h3|h3
  .exact wY p n h1 i h3
  .subst h3;exact Decidable.byContradiction fun j=>by rw[be j]at b;cases b
theorem pY{d:Decl}{i k:Int}(h:nC d i k=0): ¬i>=64∧ ¬k>0:=by
 unfold nC at h;split at h
 .cases h
 .split at h
  .cases h
  .rename_i b;split at h
   .cases h
   .rename_i j;exact⟨fun g=>b (.inl g),j⟩
theorem rR{α:Type}[Inhabited α]: ∀(n:Nat) (l:List α),l.length=n->(∀i,i<l.length->l.getD i ci∉l.take i)->l.Nodup
 |0,l,hn,_=>by rw[P0.1 hn];exact Pk
 |n+1,l,hn,h=>by
  have hd:l=l.take n++ [l.getD n ci]:=by rw[<-cd (by omega),OY (by omega)]
  have h1:=rR n (l.take n) (by rw[PN];omega) fun i u=>by
   rw[PN]at u;have:=h i (by omega);rw[List.take_take,Nat.min_eq_left (by omega),OC,Pn,am (by omega),<-OC];exact this
  rw[hd,PZ];refine⟨h1,by simp,fun a j b hb e=>?_⟩;rw[OM]at hb;subst e;subst hb;exact h n (by omega) j
theorem wW{s:ak}: ∀(l:List Decl) (m:DM),cV .str (l.foldl iu m) s=is->s∈m.map Px∨s∈l.map Decl.name
 | [],m,h=> .inl (xE.1 h)
 |d::l,m,h=>by
  rw[Pr]at h;rcases wW l _ h with h1|h1
  .unfold iu at h1;split at h1
   .exact .inl h1
   .rename_i b;rw[du (fun g=>b (xE.2 g))]at h1;rcases OW.1 h1 with h3|h3
    .exact .inl h3
    .rw[OM]at h3;subst h3;exact .inr OO
  .exact .inr (ON _ h1)
theorem HH{p:Prog}{a:Atom}(h:sX p a=jp):a.rel∈p.aR.map Decl.name:=by
 unfold sX at h;rw[Qm]at h;rcases wW p.aR [] h with h1|h1
 .cases h1
 .exact h1
theorem kG{r:aw}{e:Int}(he:e≠0){f:Int->Bool}{k:eZ}(h:(lM r e f k).1=0):(∀lit∈gk r.body.length,f lit=jp)∧k.1=0:=by
 unfold lM at h;split at h
 .exact absurd h he
 .rename_i h1;refine⟨fun lit hl=>?_,h⟩;have:=Qw.1 h1 lit hl;simpa using this
theorem yh{p:Prog}{r:aw}{n:Int}(h:(tU p r n).1=0):(vB p r).1=0:=by
 unfold tU at h;split at h
 .cases h
 .split at h
  .cases h
  .split at h
   .cases h
   .split at h
    .cases h
    .split at h
     .cases h
     .exact h
theorem GV(n:Nat):(-1:Int)∈gk n:=Pg.2 ⟨0,by simp,by simp⟩
theorem zH{n i:Nat}(h:i<n):(i:Int)∈gk n:=Pg.2 ⟨i+1,by simp;omega,by simp⟩
theorem Bp{l:Lit}{t:ak}(hf:l.kind=4-> ∀x∈l.ar,x.kind≠4)(h:t∈named l): ∃a∈(if l.kind=4 then l.ar else[l]).flatMap ct,a.rel=t:=by
 rw[Dl l hf]at h;unfold Dm at h;split at h
 .rename_i hk;rw[OM]at h;have b: ¬l.kind=4:=by omega
  refine⟨l.atom,?_,h.symm⟩;rw[be b,Rp];exact⟨l,Qr _,by rw[ct,am hk];exact Qr _⟩
 .split at h
  .rename_i b;obtain⟨x,y,rfl⟩:=Pg.1 h;obtain⟨j,u⟩:=Pa.1 y;refine⟨x.atom,?_,rfl⟩;rw[am b,Rp];exact⟨x,j,by rw[ct,am (zT u)];exact Qr _⟩
  .cases h
theorem Aj{p:Prog}(h:(dK p).1=0):jJ p:=by
 have hF:=(yW p).1 h;unfold jv at hF;obtain⟨h1,B⟩:=Rl.1 hF;have h1:=wY p _ h1;have B:=(wR p _).1 B;have u: ∀r∈p.rules,(vB p r).1=0:=by
  intro r y;obtain⟨i,b,rfl⟩:=Qp.1 y;have:=yh (B i b);rwa[OC,OD b]at this
 have A: ∀r∈p.rules,∀lit∈gk r.body.length,∀a∈ep r lit,a.rel∈p.aR.map Decl.name:=by
  intro r y lit hl a C;have:=(kG (by decide) (u r y)).1 lit hl;exact HH (by simpa using Pz.1 this a C)
 have j: ∀r∈p.rules,∀l∈r.body,l.kind=4-> ∀x∈l.ar,x.kind≠4:=by
  intro r y l hl I x Y;obtain⟨i,b,rfl⟩:=Qp.1 hl;have:=(kG (by decide) (kG (by decide) (kG (by decide) (u r y)).2).2).1 _ (zH b);have e:aq r (i:Int)=r.body[i]:=by unfold aq;simp[OC,b]
  unfold kr at this;rw[be (by omega),e,am I,QD]at this;simpa using Pz.1 this.1 x Y
 refine⟨rR _ _ Z fun i b G=>?_,?_,fun r y=>?_,fun r y l hl t R=>?_,j⟩
 .rw[O7]at b;have:=(pY (h1 i b)).2;rw[bt]at this;have D:nY (eW p i) (p.aR.getD i ci).name=0:=by omega
  rw[pJ]at D;apply D;unfold eW;rw[OC,OH,OD b,<-List.map_take]at G;rw[OC,OD b];exact G
 .refine Qk fun J=>?_
  have:=(pY (h1 64 J)).1;omega
 .exact A r y (-1) (GV _) r.head (by unfold ep;simp)
 .obtain⟨i,b,rfl⟩:=Qp.1 hl;obtain⟨a,C,rfl⟩:=Bp (j r y _ hl) R;refine A r y _ (zH b) a ?_;have e:aq r (i:Int)=r.body[i]:=by unfold aq;simp[OC,b]
  unfold ep vD;rw[be (by omega),e];exact C
theorem jJ.cA{p:Prog}(h:jJ p){x:ak×ak×Nat}(j:x∈cA p):x.1∈p.aR.map Decl.name∧x.2.1∈p.aR.map Decl.name∧0<x.2.2:=by
 simp only[_root_.Go.Proofs.YtllkaddcplhklaaGreatDoor.cA,Rp,Pg]at j;obtain⟨r,b,l,hl,t,u,rfl⟩:=j;refine⟨h.Aa r b,h.lits r b l hl t u,?_⟩;show 0<kN l;unfold kN;split<;>omega
abbrev GM:=List ((KC.str).K×Option NM)
def Bi:Option NM->IV
 |none=> .v (.map io)
 |some r=>xn r
abbrev uE(m:GM):IV:= .dJ .str Bi io (.map io) m
def BV(row:NM)(t:ak)(b:Int):NM:=cq .str row t (max (dm .str row t 0) b)
def iq(hs:List (ak×ak×Nat))(a:ak):NM:=hs.foldl (fun row x=>if x.1=a then BV row x.2.1 x.2.2 else row) []
def bU(p:Prog)(hs:List (ak×ak×Nat)):GM:=p.aR.map fun r=>(r.name,co (iq hs r.name))
def sr(p:Prog):IV:=if(dK p).1=0 then uE (bU p (cA p)) else .v (.map io)
theorem mq(hs:List (ak×ak×Nat))(x:ak×ak×Nat)(a:ak):iq (hs++ [x]) a=if x.1=a then BV (iq hs a) x.2.1 x.2.2 else iq hs a:=by
 simp[iq,List.foldl_append]
theorem tW(hs:List (ak×ak×Nat))(a:ak):((iq hs a).map Px).Nodup∧ ∀b:ak,b∈(iq hs a).map Px↔ ∃k,(a,b,k)∈hs:=by
 induction hs using od with
 |h0=>exact⟨Pk,fun b=>by simp[iq]⟩
 |h1 hs x ih=>
  obtain⟨B,A⟩:=ih;obtain⟨y,z,k⟩:=x;rw[mq];by_cases h:y=a
  .rw[am h,BV];by_cases C:z∈(iq hs a).map Px
   .rw[oz C];refine⟨B,fun b=>?_⟩;rw[A];constructor
    .rintro⟨j,hj⟩;exact⟨j,Ph _ hj⟩
    .rintro⟨j,hj⟩;rcases OW.1 hj with hj|hj
     .exact⟨j,hj⟩
     .rw[OM]at hj;cases hj;exact(A z).1 C
   .rw[du C];refine⟨PZ.2 ⟨B,by simp,fun u hu v D e=>?_⟩,fun b=>?_⟩
    .rw[OM]at D;subst e;subst D;exact C hu
    .rw[OW,A,OM];constructor
     .rintro(⟨j,hj⟩|rfl)
      .exact⟨j,Ph _ hj⟩
      .exact⟨k,P8 _ (by rw[h];exact Qr _)⟩
     .rintro⟨j,hj⟩;rcases OW.1 hj with hj|hj
      .exact .inl ⟨j,hj⟩
      .rw[OM]at hj;cases hj;exact .inr Z
  .rw[be h];refine⟨B,fun b=>?_⟩;rw[A];constructor
   .rintro⟨j,hj⟩;exact⟨j,Ph _ hj⟩
   .rintro⟨j,hj⟩;rcases OW.1 hj with hj|hj
    .exact⟨j,hj⟩
    .rw[OM]at hj;cases hj;exact absurd Z h
theorem CO(hs:List (ak×ak×Nat))(a:ak):(iq hs a).length<=hs.length:=by
 induction hs using od with
 |h0=>exact OL _
 |h1 hs x ih=>
  rw[mq,OE,PC];split
  .have:=rL (iq hs a) x.2.1 (max (dm .str (iq hs a) x.2.1 0) x.2.2);unfold BV;omega
  .omega
def a7(p:Prog)(a:ak):List ak:=(ns p).filter (eg p a)
theorem wx{p:Prog}(h:jJ p)(a:ak):c8 ((iq (cA p) a).map Px)=a7 p a:=by
 refine nq (il (tW _ _).1) (QG _ (il h.nodup)) fun b=>?_;rw[jV,(tW _ _).2,a7,Pa,ns,jV,eg,decide_eq_true_eq];constructor
 .rintro⟨k,hk⟩;have h1:=h.cA hk;refine⟨h1.2.1,?_⟩;have:=MW hk;have h2:0<k:=h1.2.2;omega
 .rintro⟨_,h1⟩;rcases MV (cA p) a b with h2|h2
  .exact absurd h2 h1
  .exact⟨_,h2⟩
theorem DO(p:Prog)(hs:List (ak×ak×Nat)){a:ak}(h:a∈p.aR.map Decl.name):dm .str (bU p hs) a io=co (iq hs a):=by
 unfold bU
 revert h
 generalize p.aR=l
 induction l with
 |nil=>intro h;cases h
 |cons d l ih=>
  intro h;simp only[OZ,dm];by_cases e:d.name=a
  .rw[am e,e]
  .rw[be e];rw[OZ,OP]at h;exact ih (h.resolve_left fun g=>e g.symm)
theorem yH(p:Prog)(hs:List (ak×ak×Nat)):(bU p hs).map Px=p.aR.map Decl.name:=by
 simp[bU]
theorem p6{b:List Lit}{i:Nat}(h:i<b.length):fC (b.take (i+1))=fC (b.take i)++named (b.getD i ci):=by
 rw[lI,lI,cd h,Ra];simp
mutual
theorem jU: ∀l:Lit,(named l).length<=l.size
 | .mk k a op le ri af av ao b at_=>by
  have:=nK b;unfold named Lit.size;split
  .simp;omega
  .split
   .omega
   .simp
theorem nK: ∀l:List Lit,(fC l).length<=Lit.aE l
 | []=>OL _
 |l::r=>by
  have h1:=jU l;have b:=nK r;simp only[fC,Lit.aE,OE];omega
end
theorem Bn(b:List Lit)(i:Nat):(fC (b.take i)).length<=Lit.aE b:=by
 have h1:=nK (b.take i);have j: ∀(b:List Lit) (i:Nat),Lit.aE (b.take i)<=Lit.aE b:=by
  intro b
  induction b with
  |nil=>intro i;simp[Lit.aE]
  |cons x r ih=>
   intro i;cases i with
   |zero=>simp[Lit.aE]
   |succ i=>have:=ih i;simp only[PX,Lit.aE];omega
 exact Pp h1 (j b i)
def Lh(n:Nat):Prop:= ∀l:Lit,l.size<=n->Pure Tryz.prog 62 [ag l.c] (.iv (strs (named l)))
theorem ov(l:Lit):named l=if l.kind=1∨l.kind=2 then[l.atom.rel] else if l.kind=4 then fC l.ar else[]:=by cases l;rfl
theorem CB: ∀n:Nat,n<=100000000000->Lh n
 |0,_=>fun l h=>absurd l.size_pos (by omega)
 |n+1,hn=>fun l h=>by
  have C:=l.size_eq;refine Al.Pure.le (aa:=[ag l.c]) (args:=[ag l.c1]) ?_ ⟨l.DA,ac⟩;refine ae ab Tryz.func62 Z (by decide) Tryz.ntmps62 Z (by simp) Z ?_;refine zJ Z Z (fun b=>?_) fun b=>?_
  .have b:l.kind=1:=by simpa using b
   rw[ov,am (.inl b)];refine gA Z (dh (by first|exact .inr Z|exact .inl Z) Z Z (rfl) (rfl))
  have b: ¬l.kind=1:=by simpa using b
  refine zJ Z Z (fun j=>?_) fun j=>?_
  .have j:l.kind=2:=by simpa using j
   rw[ov,am (.inr j)];refine gA Z (dh (by first|exact .inr Z|exact .inl Z) Z Z (rfl) (rfl))
  have j: ¬l.kind=2:=by simpa using j
  rw[ov,be (by rintro(g|g);exact b g;exact j g)];refine zE Z Z (fun u=>?_) fun u=>?_
  .have u: ¬l.kind=4:=by simpa using u
   rw[be u];refine gA Z (zL ?_);exact .nil _ _
  have u:l.kind=4:=by simpa using u
  rw[am u];refine gA Z ?_;refine mv 3 1 Z ?_;refine aM 0 l.ar.length (OS _) (fun i=>⟨[(3,.sl 2 0 (fC (l.ar.take i)).length 1),(19,.iv (lits l.ar)),(20,pI l.ar.length),(21,pI i)],[(2,co (aT 1 (fC (l.ar.take i)) cM))],3⟩) (fun _=>True) [1] ac
   (zW (zS trivial)) fun i D _=>?_
  have y:=Bn l.ar i;have x:=Lit.aF l.ar;refine zJ Z Z (fun h1=>?_) fun h1=>?_
  .have h1:i<l.ar.length:=by simpa using h1
   have A:=Lit.bN l.ar i h1;have B:=jU (l.ar.getD i ci);refine gA Z (zp (CB n (by omega) (l.ar.getD i ci) (by omega)) ?_);refine gA Z ⟨h1,ac,[4],zM ⟨.row (by rw[p6 h1,OE]),rfl,bi (bi (bi ac))⟩ (hR Z (by rw[u9,p6 h1,OX]) Z ac)⟩
  .have h1:l.ar.length<=i:=by simpa using h1
   rw[OY h1];refine gA Z (dh (by first|exact .inr Z|exact .inl Z) Z Z (rfl) (rfl))
theorem zl(l:Lit)(h:l.size<=100000000000):Pure Tryz.prog 62 [ag l.c] (.iv (strs (named l))):=CB l.size h l (OL _)
end Go.Proofs.YtllkaddcplhklaaGreatDoor
namespace Go.Proofs.YtllkaddcplhklaaGreatDoor
open Go Go.Al Go.Proofs.Tryz
section
theorem IN(hS:fM)(el:Nat->List IV):Pure prog 84 [.iv (.cp 1 0 el)] (.bh []):=by
 refine⟨bc func84 Z (by decide),fun M N w vs x j y=>?_⟩;obtain⟨v,rfl⟩: ∃v,vs=[v]:=by
  cases vs with
  |nil=>cases j
  |cons v r=>cases r with
   |nil=>exact⟨v,rfl⟩
   |cons a b=>simp at j
 have u:=y 0 _ Z;simp only[Qs]at u;obtain⟨a,a0,rfl⟩: ∃a a0,v= .slice a 0 a0:=by
  cases u with
  |iv _ _ h=>cases h with
   |fh _ _ a a0=>exact⟨a,a0,rfl⟩
   |cp _ _ _ b off a0=>exact⟨_,a0,rfl⟩
 refine(hS.2 a a0 w).mono ?_;rintro e w' ⟨rfl,rfl⟩;exact⟨_,M,N,.bh [],_,_,rfl,⟨rfl,rfl,rfl⟩,.refl _ _ _ _ _,x,.bh [] #[] Z (by simp)⟩
section
variable {V:Type}
def zZ(m:List ((KC.str).K×V))(vs:List Nat):List ak:=fD (m.map fun x=>(x.1,0)) vs
theorem xC(m:List ((KC.str).K×V))(vs:List Nat)(j:Nat)(x:(KC.str).K×V)(h:m[j]? =co x):zZ m (j::vs)=zZ m vs++ [x.1]:=
 jr _ _ _ (x.1,0) (by rw[OH,h];rfl)
theorem zY(m:List ((KC.str).K×V))(vs:List Nat)(hn:vs.Nodup)(hb: ∀j∈vs,j<m.length)(b: ∀j,j<m.length->j∈vs):(zZ m vs).Perm (m.map (·.1)):=by
 have:=iL (m.map fun x=>(x.1,(0:Int))) vs hn (by simpa using hb) (by simpa using b);rw[Qf]at this;exact this
theorem zX(m:List ((KC.str).K×V))(vs:List Nat):(zZ m vs).length<=vs.length:=sb _ _
end
def Bh(i:Nat):List ak->PV
 | []=> .sl i 1 0 1
 |x::r=> .sl i 0 (x::r).length 1
def tj(n:Nat):List ak->AO
 | []=> .row 1 (QY n [pS OI])
 |x::r=>aT 1 (x::r) cM
theorem uh(i:Nat)(l:List ak)(s:ak):Bh i (l++ [s])= .sl i 0 (l.length+1) 1:=by cases l<;>simp[Bh]
theorem ui(n:Nat)(l:List ak)(s:ak):tj n (l++ [s])=aT 1 (l++ [s]) cM:=by cases l<;>rfl
theorem xh{i:Nat}{l:List ak}(h:l≠ []):Bh i l= .sl i 0 l.length 1:=by cases l with
 |nil=>exact absurd Z h
 |cons=>rfl
theorem xi{n:Nat}{l:List ak}(h:l≠ []):tj n l=aT 1 l cM:=by cases l with
 |nil=>exact absurd Z h
 |cons=>rfl
theorem C7(n:Nat)(l:List ak)(k:Nat):(tj n l).low k:=by
 cases l with
 |nil=>
  intro j e b;rw[List.getElem?_replicate]at b;split at b
  .cases b;rfl
  .cases b
 |cons x r=>exact dG k
theorem C6(n:Nat)(l:List ak)(σ:Nat->Nat):(tj n l).cj σ=tj n l:=by
 cases l with
 |nil=>simp only[tj,AO.cj];rw[List.map_replicate];rfl
 |cons x r=>exact b3 σ
theorem hO{h r:AH}{σ:Nat->Nat}{i n m:Nat}{o:AO}{l:List ak}(ho:h.get (σ i)=co o)(he:o=tj m l)(hi:O1 i n=is)(hr:mf n σ h r):mf n σ h ((i,co (tj m l))::r):=
 ⟨⟨_,ho,.of_eq (by rw[C6,he])⟩,Oy hi,C7 m l n,hr⟩
theorem om(i:Nat)(l:List ak){n:Nat}(h:O1 i n=is):(Bh i l).low n=is:=by cases l<;>exact h
theorem Cy(hS:fM)(m:NM)(hm:m.length<=100000000):Pure prog 66 [.iv (xn m)] (.iv (strs (c8 (m.map (·.1))))):=by
 refine ae ab func66 Z (by decide) ntmps66 Z (by simp) Z ?_;rcases Nat.eq_zero_or_pos m.length with h0|h0
 .have h0:=P0.1 h0;subst h0;refine gA Z (DQ ab 1 (fun k=>cM (([]:List ak).getD k ci)) Z Z Z Z Z Z Z Z Z Z ?_);refine gA Z ?_;refine eQ ([]:List ((KC.str).K×Int)) (fun _=>⟨[(3,.iv (.cp 1 0 (fun k=>cM (([]:List ak).getD k ci)))),(9,.ptr 1 0)],[(1,co (.bB .str wg ([]:List ((KC.str).K×Int)) [] io))],2⟩) (fun _=>True) [] ac
   (zW (hI Z Z (.inl Z) Z trivial)) fun vs _=>?_
  refine fb Z ac (dd Z Z Z Z Z (by decide) (fun _=>?_) fun j x A _=>?_)
  .refine gA Z (aA (IN hS _) Z Z Z Z Z Z ?_);refine gA Z (zL ?_);exact .of_eq (show _=PV.iv (strs (c8 [])) by rw[mj];rfl)
  .cases A
 refine gA Z (I1 ab m.length 0 Z Z Z Z Z Z Z Z Z h0 (by omega) (by show 16*m.length<=_;omega) Z (by decide) Z (.inl ⟨rfl,rfl⟩) Z ?_);refine gA Z ?_;refine eQ m (fun vs=>⟨[(3,Bh 2 (zZ m vs)),(9,.ptr 1 0)],[(1,co (.bB .str wg m vs io)),(2,co (tj m.length (zZ m vs)))],3⟩) (fun vs=>vs.Nodup∧ ∀j∈vs,j<m.length) [0] ⟨Pk,by simp⟩
  (zW (hI Z Z (.inl Z) Z (hO Z Z Z trivial))) fun vs Y=>?_
 obtain⟨u,y⟩:=Y;have J:=rT u y;have C:=zX m vs;refine fb Z ac (dd Z Z Z Z Z (by decide) (fun B=>?_) fun j x A G=>?_)
 .have I:=zY m vs u y B;have D:zZ m vs≠ []:=fun e=>by
   have:=I.length_eq;rw[e,O7]at this;simp at this;omega
  rw[xh D,xi D];refine fb Z ac (cJ [2] (Ey hS (zZ m vs) (by omega)) Z Z Z Z Z (congrArg (fun o=> [co o]) (b3 _).symm) Z Z ?_);refine fb Z ac (dh (.inr Z) Z Z ((rG _ _).trans (by rw[nr I])) ?_);rw[iz,<-I.length_eq]
 .have hk:=xC m vs j x A;have a0: ∀b,b=j::vs->b.Nodup∧ ∀i∈b,i<m.length:=fun b e=>e▸⟨Pf.2 ⟨G,u⟩,fun i hi=>(OP.1 hi).elim (fun h=>h▸(OB.1 A).1) (y i)⟩
  cases hl:zZ m vs with
  |nil=>
   rw[hl,Qh]at hk;refine gA Z (vO ab Z Z Z Z Z Z Z Z Z (by simp;omega) (by simp) (jb Z) Z ?_);refine gA Z ?_;exact⟨j,x,A,G,a0 _ Z,[4],zM ⟨.of_eq (by rw[hk];rfl),om 2 _ Z,.refl _,rfl,ac⟩ (hI Z Z (.inr Z) Z (hO Z (by rw[hk];rfl) Z ac))⟩
  |cons a r=>
   rw[hl]at hk C;have R:(r.length+1)<=m.length:=by simpa using Pp C J
   refine gA Z ⟨j,x,A,G,a0 _ Z,[4],zM ⟨.of_eq (by rw[hk,uh];rfl),om 2 _ Z,.refl _,rfl,ac⟩ (hI Z Z (.inr Z) Z (hO Z (by rw[hk,ui,aT,OX];rfl) Z ac))⟩
theorem Cz(hS:fM)(m:GM)(hm:m.length<=100000000):Pure prog 67 [.iv (uE m)] (.iv (strs (c8 (m.map (·.1))))):=by
 refine ae ab func67 Z (by decide) ntmps67 Z (by simp) Z ?_;rcases Nat.eq_zero_or_pos m.length with h0|h0
 .have h0:=P0.1 h0;subst h0;refine gA Z (DQ ab 1 (fun k=>cM (([]:List ak).getD k ci)) Z Z Z Z Z Z Z Z Z Z ?_);refine gA Z ?_;refine eQ ([]:List ((KC.str).K×Option NM)) (fun _=>⟨[(3,.iv (.cp 1 0 (fun k=>cM (([]:List ak).getD k ci)))),(9,.ptr 1 0)],[(1,co (.bB .str Bi ([]:List ((KC.str).K×Option NM)) [] io))],2⟩) (fun _=>True) [] ac
   (zW (hI Z Z (.inl Z) Z trivial)) fun vs _=>?_
  refine fb Z ac (dd Z Z Z Z Z (by decide) (fun _=>?_) fun j x A _=>?_)
  .refine gA Z (aA (IN hS _) Z Z Z Z Z Z ?_);refine gA Z (zL ?_);exact .of_eq (show _=PV.iv (strs (c8 [])) by rw[mj];rfl)
  .cases A
 refine gA Z (I1 ab m.length 0 Z Z Z Z Z Z Z Z Z h0 (by omega) (by show 16*m.length<=_;omega) Z (by decide) Z (.inl ⟨rfl,rfl⟩) Z ?_);refine gA Z ?_;refine eQ m (fun vs=>⟨[(3,Bh 2 (zZ m vs)),(9,.ptr 1 0)],[(1,co (.bB .str Bi m vs io)),(2,co (tj m.length (zZ m vs)))],3⟩) (fun vs=>vs.Nodup∧ ∀j∈vs,j<m.length) [0] ⟨Pk,by simp⟩
  (zW (hI Z Z (.inl Z) Z (hO Z Z Z trivial))) fun vs Y=>?_
 obtain⟨u,y⟩:=Y;have J:=rT u y;have C:=zX m vs;refine fb Z ac (dd Z Z Z Z Z (by decide) (fun B=>?_) fun j x A G=>?_)
 .have I:=zY m vs u y B;have D:zZ m vs≠ []:=fun e=>by
   have:=I.length_eq;rw[e,O7]at this;simp at this;omega
  rw[xh D,xi D];refine fb Z ac (cJ [2] (Ey hS (zZ m vs) (by omega)) Z Z Z Z Z (congrArg (fun o=> [co o]) (b3 _).symm) Z Z ?_);refine fb Z ac (dh (.inr Z) Z Z ((rG _ _).trans (by rw[nr I])) ?_);rw[iz,<-I.length_eq]
 .have hk:=xC m vs j x A;have a0: ∀b,b=j::vs->b.Nodup∧ ∀i∈b,i<m.length:=fun b e=>e▸⟨Pf.2 ⟨G,u⟩,fun i hi=>(OP.1 hi).elim (fun h=>h▸(OB.1 A).1) (y i)⟩
  cases hl:zZ m vs with
  |nil=>
   rw[hl,Qh]at hk;refine gA Z (vO ab Z Z Z Z Z Z Z Z Z (by simp;omega) (by simp) (jb Z) Z ?_);refine gA Z ?_;exact⟨j,x,A,G,a0 _ Z,[4],zM ⟨.of_eq (by rw[hk];rfl),om 2 _ Z,.refl _,rfl,ac⟩ (hI Z Z (.inr Z) Z (hO Z (by rw[hk];rfl) Z ac))⟩
  |cons a r=>
   rw[hl]at hk C;have R:(r.length+1)<=m.length:=by simpa using Pp C J
   refine gA Z ⟨j,x,A,G,a0 _ Z,[4],zM ⟨.of_eq (by rw[hk,uh];rfl),om 2 _ Z,.refl _,rfl,ac⟩ (hI Z Z (.inr Z) Z (hO Z (by rw[hk,ui,aT,OX];rfl) Z ac))⟩
end
end Go.Proofs.YtllkaddcplhklaaGreatDoor
namespace Go.Proofs.YtllkaddcplhklaaGreatDoor
open Go Go.Al
def ND(b:Option Nat):IV:= .v (.map b)
def dvR(p:PV):Option Nat:=match p with
 | .iv (.v (.map b))=>b
 |_=>io
abbrev RM:=List ((KC.str).K×Option Nat)
abbrev gO(m:RM):AO:= .map .str ND io (.map io) dvR m
abbrev wh:=Nat×Nat
def iG(l:List Decl)(B:List wh):RM:=RF (fun d b=>(d.name,co b.1)) l B
def dr(L:List (Nat×Nat×NM)):bg:=fun b=>(L.find? fun y=>y.1==b).map fun y=> .obj (cy y.2.2) y.2.1
theorem fP(L:List (Nat×Nat×NM)):(dr L).still:=by
 intro b i e h;unfold dr at h;cases hf:L.find? fun y=>y.1==b<;>rw[hf]at h<;>cases h
def rowsOf(l:List Decl)(B:List wh)(hs:List (ak×ak×Nat)):List (Nat×Nat×NM):=RF (fun d b=>(b.1,b.2,iq hs d.name)) l B
theorem Br{V:Type}{kc:KC}{ev:V->IV}{z:V}{b:Value}{u:PV->V}(y: ∀M,IR M (ev z) b):dN .eC (.map kc ev z b u []):=
 ⟨id,fun M N U w j x=>⟨#[],0,x,⟨rfl,by simp,by simp,by simp,by simp⟩,y M⟩⟩
structure BOK (l:List Decl) (i:Nat) (B:List wh):Prop where
 len:B.length=i
 nd:(B.map Px).Nodup
theorem w5(l:List Decl):iG l []=[]:=by cases l<;>rfl
theorem rI(l:List Decl)(hs:List (ak×ak×Nat)):rowsOf l [] hs=[]:=by cases l<;>rfl
theorem yc(l:List Decl)(hs:List (ak×ak×Nat)):dr (rowsOf l [] hs)=bg.nil:=by rw[rI];rfl
theorem rb{α β γ:Type}[Inhabited α](f:α->β->γ): ∀(l:List α) (B:List β) (x:β),B.length<l.length->RF f l (B++ [x])=RF f l B++ [f (l.getD B.length ci) x]
 |a::l,[],x,_=>by simp
 |a::l,b::B,x,h=>by
  have:=rb f l B x (by simpa using h);simp[this]
 | [],B,x,h=>absurd h (QA _)
theorem GI{B:List wh}{b e:Nat}(h:(B.map Px).Nodup)(hb:b∉B.map Px):((B++ [(b,e)]).map Px).Nodup:=by
 rw[OX,PZ];exact⟨h,by simp,fun u hu v j g=>hb (by simp at j;subst g;subst j;exact hu)⟩
theorem lE(hs:List (ak×ak×Nat)): ∀(l:List Decl) (B:List wh),B.length<=l.length->(rowsOf l B hs).map Px=B.map Px
 |_,[],_=>by simp[rI]
 |d::l,b::B,h=>by
  have:=lE hs l B (by simpa using h);simp only[rowsOf,RG,OZ]at this ⊢;rw[this]
 | [],b::B,h=>absurd h (by simp)
theorem AY{l:List Decl}{B:List wh}{hs:List (ak×ak×Nat)}{b:Nat}(hl:B.length<=l.length)(h:dr (rowsOf l B hs) b=io):b∉B.map Px:=by
 rw[<-lE hs l B hl];intro j;obtain⟨y,u,rfl⟩:=Pg.1 j;unfold dr at h;rw[QO,Qw]at h;exact h y u (by simp)
theorem wJ(L:List (Nat×Nat×NM))(y:Nat×Nat×NM)(h:y.1∉L.map Px):dr (L++ [y])=(dr L).put y.1 (.obj (cy y.2.2) y.2.1):=by
 funext c
 unfold dr bg.put;rw[List.find?_append];by_cases b:c=y.1
 .subst b;rw[am Z];have:L.find? (fun z=>z.1==y.1)=io:=Qw.2 fun z j=>by
   simp only[beq_iff_eq];exact fun e=>h (e▸Rr j)
  rw[this];simp
 .rw[be b];have: ¬y.1=c:=fun e=>b e.symm;cases hf:L.find? (fun z=>z.1==c)<;>simp[this,hf]
theorem AV{l:List Decl}{B:List wh}{b e:Nat}(hl:B.length<l.length)(hb:b∉B.map Px):dr (rowsOf l (B++ [(b,e)]) [])=(dr (rowsOf l B [])).put b (.obj (cy []) e):=by
 have h:rowsOf l (B++ [(b,e)]) []=rowsOf l B []++ [(b,e,[])]:=rb _ l B (b,e) hl;rw[h];exact wJ _ _ (by rw[lE _ _ _ (Nat.le_of_lt hl)];exact hb)
theorem w4: ∀(l:List Decl) (B:List wh),B.length<=l.length->(iG l B).map Px=(l.take B.length).map Decl.name
 |_,[],_=>by simp[w5]
 |d::l,b::B,h=>by
  have:=w4 l B (by simpa using h);simp only[iG,RG,OZ,Pb,PX]at this ⊢;rw[this]
 | [],b::B,h=>absurd h (by simp)
theorem Gv{V:Type}{m:List ((KC.str).K×V)}{s:ak}{v:V}(h:s∉m.map Px):cq .str m s v=m++ [(s,v)]:=by
 induction m with
 |nil=>rfl
 |cons x r ih=>
  obtain⟨a,c⟩:=x;simp only[OZ,OP,not_or]at h;have: ¬a=s:=fun e=>h.1 e.symm;simp only[cq,be this,ih h.2];rfl
theorem CY{l:List Decl}{B:List wh}{i b e:Nat}(hn:(l.map Decl.name).Nodup)(hi:B.length=i)(hl:i<l.length):cq .str (iG l B) (l.getD i ci).name (co b)=iG l (B++ [(b,e)]):=by
 subst hi;have h:iG l (B++ [(b,e)])=iG l B++ [((l.getD B.length ci).name,co b)]:=rb _ l B (b,e) hl;rw[h];apply Gv;rw[w4 l B (Nat.le_of_lt hl)];intro u;have j:l.map Decl.name=(l.take B.length).map Decl.name++(l.drop B.length).map Decl.name:=by rw[<-OX,QT]
 rw[j,PZ]at hn;refine hn.2.2 _ u _ (Pg.2 ⟨l.getD B.length ci,?_,rfl⟩) Z;rw[OC,OD hl];exact List.mem_drop_iff_getElem.2 ⟨0,by simpa using hl,by simp⟩
def oD(r:aw)(l:Lit):List (ak×ak×Nat):=(named l).map fun t=>(r.head.rel,t,kN l)
def Ab(r:aw):List (ak×ak×Nat):=r.body.flatMap (oD r)
theorem Ak: ∀{L:List (Nat×Nat×NM)} {j:Nat} {y:Nat×Nat×NM},(L.map Px).Nodup->L[j]? =co y->L.find? (fun z=>z.1==y.1)=co y
 | [],_,_,_,h=>by simp at h
 |x::L,0,y,_,h=>by
  simp only[List.getElem?_cons_zero,OA]at h;subst h;simp
 |x::L,j+1,y,hn,h=>by
  rw[Rf]at h;rw[OZ,Pf]at hn;have b: ¬x.1=y.1:=fun e=>hn.1 (e▸Rr (Pe h));rw[List.find?_cons_of_neg (by simpa using b)];exact Ak hn.2 h
theorem oe{l:List Decl}{B:List wh}{hs:List (ak×ak×Nat)}{j:Nat}{d:Decl}{b:wh}(hl:B.length=l.length)(hn:(B.map Px).Nodup)(hd:l[j]? =co d)(hb:B[j]? =co b):dr (rowsOf l B hs) b.1=co (.obj (cy (iq hs d.name)) b.2):=by
 have h:(rowsOf l B hs)[j]? =co (b.1,b.2,iq hs d.name):=by
  unfold rowsOf;rw[RN,hd,hb]
 have u:=Ak (by rw[lE hs l B (R0 hl)];exact hn) h;unfold dr;rw[u];rfl
theorem wI{l:List Decl}{B:List wh}{hs:List (ak×ak×Nat)}{c:Nat}(hl:B.length<=l.length)(h:c∉B.map Px):dr (rowsOf l B hs) c=io:=by
 rw[<-lE hs l B hl]at h;unfold dr;rw[QO,Qw];intro y b;simp only[beq_iff_eq];exact fun e=>h (e▸Rr b)
theorem AU{l:List Decl}{B:List wh}{hs:List (ak×ak×Nat)}{j h:Nat}{d:Decl}{b:wh}{t:ak}(hl:B.length=l.length)(hn:(B.map Px).Nodup)(J:(l.map Decl.name).Nodup)(hd:l[j]? =co d)(hb:B[j]? =co b):
  (dr (rowsOf l B hs)).put b.1 (.obj (cy (BV (iq hs d.name) t h)) b.2)=dr (rowsOf l B (hs++ [(d.name,t,h)])):=by
 funext c
 unfold bg.put;by_cases y:c=b.1
 .subst y;rw[am Z,oe hl hn hd hb,mq,am Z]
 .rw[be y];by_cases I:c∈B.map Px
  .obtain⟨Y,x,rfl⟩:=Pg.1 I;obtain⟨i,A,rfl⟩:=Qp.1 x;have u:i<l.length:=by omega
   have C:i≠j:=fun e=>y (by subst e;rw[OD A]at hb;cases hb;rfl);rw[oe hl hn (OD u) (OD A),oe hl hn (OD u) (OD A),mq,be];intro e;have R:=(OB.1 hd)
   obtain⟨D,G⟩:=R;apply C;refine(List.getElem_inj J (h₀:=by simpa using u) (h₁:=by simpa using D)).1 ?_;rw[P7,P7,G];exact e.symm
  .rw[wI (R0 hl) I,wI (R0 hl) I]
theorem Ks{l:List Decl}{B:List wh}{a:ak}(hl:B.length=l.length)(u:(l.map Decl.name).Nodup)(ha:a∈l.map Decl.name): ∃(j:Nat) (d:Decl) (b:wh),l[j]? =co d∧B[j]? =co b∧d.name=a∧dm .str (iG l B) a io=co b.1:=by
 induction l generalizing B with
 |nil=>cases ha
 |cons d l ih=>
  cases B with
  |nil=>cases hl
  |cons b B=>
   by_cases h:d.name=a
   .exact⟨0,d,b,rfl,rfl,h,by simp[iG,dm,h]⟩
   .rw[OZ,Pf]at u;rw[OZ,OP]at ha;obtain⟨j,y,x,h1,A,C,D⟩:=ih (by simpa using hl) u.2 (ha.resolve_left fun e=>h e.symm);exact⟨j+1,y,x,h1,A,C,by simpa[iG,dm,h]using D⟩
def dvG(_:PV):Option NM:=io
theorem B8{p:Prog}{B:List wh}(hl:B.length=p.aR.length)(hn:(B.map Px).Nodup){hs:List (ak×ak×Nat)}:Jc (dr (rowsOf p.aR B hs)) (gO (iG p.aR B)) (.map .str Bi io (.map io) dvG (bU p hs)):=by
 refine .map _ _ _ _ _ _ _ _ _ _ (by simp[bU,iG,hl]) (fun j y u=>?_) fun M=> .v _
 obtain⟨d,hd,rfl⟩: ∃d,p.aR[j]? =co d∧y=(d.name,co (iq hs d.name)):=by
  unfold bU at u;rw[OH,OJ]at u;obtain⟨d,h1,x⟩:=u;exact⟨d,h1,x.symm⟩
 have b:j<B.length:=by rw[hl];exact(OB.1 hd).1
 refine⟨(d.name,co B[j].1),.map (co B[j].1),?_,rfl,rfl,?_⟩
 .unfold iG;rw[RN,hd,OD b]
 .refine .map B[j].1 B[j].2 .str wg 0 (.int .i64 0) NR (iq hs d.name) ?_;exact oe hl hn hd (OD b)
theorem IQ(hS:fM)(p:Prog)(hb:p.fit):Pure Tryz.prog 38 [ag p.c] (.bh [.iv (sr p),pB (kw ((dK p).1=0))]):=by
 refine ae ab Tryz.func38 Z (by decide) Tryz.ntmps38 Z (by simp) Z ?_;refine gA Z (zp (c24 p hb) ?_);refine zJ Z Z (fun I=>?_) fun I=>?_
 .have I: ¬(dK p).1=0:=by simpa using I
  rw[sr,be I,decide_eq_false I];exact zU Z
 have I:(dK p).1=0:=by simpa using I
 have hf:=Aj I;have w0:=hf.len;rw[sr,am I,decide_eq_true I];refine gM 1 Z ?_;refine MR ?_;refine cI (iO ?_);refine gA Z ?_;refine cI (cI (sq ⟨[(1,.ptr 0 0),(4,.mp 2),(20,.iv (bV 4 p.aR Decl.c)),(21,pI p.aR.length),(22,pI 0)],[(0,co (ay p.c)),(2,co (gO []))],3⟩ ?_ ?_))
 .refine gA Z (uC [1] ?_);exact zW (zK (KP Z (fun _=> .v _) Z ac))
 refine gQ (vK 0 p.aR.length (OS _) (fun i (x:ULift.{1} (List wh))=>⟨[(1,.ptr 0 0),(4,.mp 2),(20,.iv (bV 4 p.aR Decl.c)),(21,pI p.aR.length),(22,pI i)],[(0,co (ay p.c)),(2,co (gO (iG p.aR x.down)))],3⟩)
  (fun i x Y=>BOK p.aR i x.down∧Y=dr (rowsOf p.aR x.down [])) ⟨[]⟩ [] ⟨⟨rfl,Pk⟩,(yc p.aR []).symm⟩
  (zW (zK (hM Z (w5 p.aR).symm Z ac))) (fun _ _ _ h=>h.2▸fP _) fun i x Y hi hJ=>?_)
 obtain⟨hB,rfl⟩:=hJ;obtain⟨B⟩:=x;refine cI (iO ?_);refine gA Z ?_;refine cI (qW Z (fun h1=>qT ?_) (fun h1=>qV ?_))
 .have h1:i<p.aR.length:=by simpa using h1
  refine cI (gQ (cI (iO ?_)));refine gA Z ?_;refine uB (qU 4 ?_);refine gA Z ?_;refine vJ (J3 (i:=4) (o':=cy []) Z (Br eS)) fun t Y C=>?_;obtain⟨rfl,rfl⟩:=C;refine vJ (AJ (i:=4) (d:=29) (fP _) Z Z ac Z) fun t Y C=>?_;obtain⟨b,e,p0,rfl,rfl⟩:=C;refine qU 1 ?_;refine gA Z ?_;refine sk (DK (iO ?_));refine gA Z ?_;have a0:=AY (by rw[hB.len];exact hi) p0;exact⟨h1,⟨B++ [(b,e)]⟩,[],⟨⟨by rw[OE,hB.len];rfl,GI hB.nd a0⟩,(AV (by rw[hB.len];exact h1) a0).symm⟩,zW (zK (hM Z (CY hf.nodup hB.len h1) Z ac))⟩
 have h1:p.aR.length<=i:=by simpa using h1
 have J:B.length=p.aR.length:=by have:B.length=i:=hB.len;omega
 have d0:=hB.nd;clear hB;have z0:p.rules.length<=1000000000:=hb.2.1
 let G:Nat->List (ak×ak×Nat):=fun r=>(p.rules.take r).flatMap Ab
 change GX _ _ [.code _] _ _ _;refine cI (cI (sq ⟨[(1,.ptr 0 0),(4,.mp 2),(32,.iv (bV 5 p.rules aw.c)),(33,pI p.rules.length),(34,pI 0)],[(0,co (ay p.c)),(2,co (gO (iG p.aR B)))],3⟩ ?_ ?_))
 .refine gA Z (uC [] ?_);exact zW (zK (zC ac))
 refine gQ (vK 0 p.rules.length (OS _) (fun i (_:PUnit.{2})=>⟨[(1,.ptr 0 0),(4,.mp 2),(32,.iv (bV 5 p.rules aw.c)),(33,pI p.rules.length),(34,pI i)],[(0,co (ay p.c)),(2,co (gO (iG p.aR B)))],3⟩)
  (fun i _ Y=>Y=dr (rowsOf p.aR B (G i))) ⟨⟩ [] Z (zW (zK (zC ac))) (fun _ _ _ h=>h▸fP _) fun n _ Y hn hJ=>?_)
 subst hJ;refine cI (iO ?_);refine gA Z ?_;refine cI (qW Z (fun h1=>qT ?_) (fun h1=>qV ?_));rotate_left
 .have h1:p.rules.length<=n:=by simpa using h1
  have m0:G n=cA p:=by show((p.rules.take n).flatMap Ab)=_;rw[OY h1];rfl
  rw[m0];change GX _ _ [.code _] _ _ _;refine I0 (J4 (i:=2) (o':= .map .str Bi io (.map io) dvG (bU p (cA p))) Z (B8 J d0)) fun t Y C=>?_;obtain⟨rfl,rfl⟩:=C;refine iO ?_;refine gA Z (kR (.inr Z) Z (gZ.map 2 Z (.done (.refl _))))
 have h1:n<p.rules.length:=by simpa using h1
 have hR:p.rules.getD n ci∈p.rules:=j8 h1;have g0:G (n+1)=G n++Ab (p.rules.getD n ci):=by show((p.rules.take (n+1)).flatMap Ab)=_;rw[cd h1,Ra];simp;rfl
 have b0:=hb.2.2 _ hR;have A:=b0.1;have u:=hf.Aa _ hR;have y:=hf.lits _ hR;generalize n0:p.rules.getD n ci=R at hR g0 b0 A u y;refine cI (gQ (cI (iO ?_)));refine gA Z ?_;refine cI (sq ⟨[(1,.ptr 0 0),(4,.mp 2),(8,.ptr 3 0),(32,.iv (bV 5 p.rules aw.c)),(33,pI p.rules.length),(34,pI n),(39,.iv (lits R.body)),(40,pI R.body.length),(41,pI 0)],[(0,co (ay p.c)),(2,co (gO (iG p.aR B))),(3,co (ay R.c))],4⟩ ?_ ?_)
 .refine gA Z (uC [] ?_);subst n0;exact zW (zK (zC (zK ac)))
 have t0:R.body.length<=10000000:=by have:=Lit.aF R.body;unfold aw.size at A;omega
 refine gQ (vK 0 R.body.length (OS _) (fun i (_:PUnit.{2})=>⟨[(1,.ptr 0 0),(4,.mp 2),(8,.ptr 3 0),(32,.iv (bV 5 p.rules aw.c)),(33,pI p.rules.length),(34,pI n),(39,.iv (lits R.body)),(40,pI R.body.length),(41,pI i)],[(0,co (ay p.c)),(2,co (gO (iG p.aR B))),(3,co (ay R.c))],4⟩)
  (fun i _ Y=>Y=dr (rowsOf p.aR B (G n++(R.body.take i).flatMap (oD R)))) ⟨⟩ [] (by simp) (zW (zK (zC (zK ac)))) (fun _ _ _ h=>h▸fP _) fun i _ Y v0 hJ=>?_)
 subst hJ;refine cI (iO ?_);refine gA Z ?_;refine cI (qW Z (fun D=>qT ?_) (fun D=>qV ?_));rotate_left
 .have D:R.body.length<=i:=by simpa using D
  rw[OY D,show G n++R.body.flatMap (oD R)=G (n+1) from g0.symm];change GX _ _ (.code _::_) _ _ _;refine iO ?_;refine gA Z ⟨h1,⟨⟩,[],rfl,zW (zK (zC ac))⟩
 have D:i<R.body.length:=by simpa using D
 have hl:R.body.getD i ci∈R.body:=j8 D;have i0:(R.body.take (i+1)).flatMap (oD R)=(R.body.take i).flatMap (oD R)++oD R (R.body.getD i ci):=by rw[cd D,Ra];simp
 have f0:(R.body.getD i ci).size<=10000000:=by have:=Lit.bN R.body i D;unfold aw.size at A;omega
 have e0:=y _ hl;generalize r0:R.body.getD i ci=l at hl i0 f0 e0;refine cI (gQ (cI (iO ?_)));refine gA Z ?_;refine cI (sq ⟨[(1,.ptr 0 0),(4,.mp 2),(8,.ptr 3 0),(10,.ptr 4 0),(32,.iv (bV 5 p.rules aw.c)),(33,pI p.rules.length),(34,pI n),(39,.iv (lits R.body)),(40,pI R.body.length),(41,pI i),(46,.iv (strs (named l))),(47,pI (named l).length),(48,pI 0)],[(0,co (ay p.c)),(2,co (gO (iG p.aR B))),(3,co (ay R.c)),(4,co (ay l.c))],5⟩ ?_ ?_)
 .subst r0;refine gA Z (zp (zl (R.body.getD i ci) (by omega)) ?_);refine gA Z (uC [] ?_);exact zW (zK (zC (zK (zK ac))))
 have x0:=jU l
 refine gQ (vK 0 (named l).length (OS _) (fun k (_:PUnit.{2})=>⟨[(1,.ptr 0 0),(4,.mp 2),(8,.ptr 3 0),(10,.ptr 4 0),(32,.iv (bV 5 p.rules aw.c)),(33,pI p.rules.length),(34,pI n),(39,.iv (lits R.body)),(40,pI R.body.length),(41,pI i),(46,.iv (strs (named l))),(47,pI (named l).length),(48,pI k)],[(0,co (ay p.c)),(2,co (gO (iG p.aR B))),(3,co (ay R.c)),(4,co (ay l.c))],5⟩)
  (fun k _ Y=>Y=dr (rowsOf p.aR B ((G n++(R.body.take i).flatMap (oD R))++((named l).take k).map fun t=>(R.head.rel,t,kN l)))) ⟨⟩ [] (by simp) (zW (zK (zC (zK (zK ac))))) (fun _ _ _ h=>h▸fP _) fun k _ Y hk hJ=>?_)
 subst hJ;refine cI (iO ?_);refine gA Z ?_;refine cI (qW Z (fun h3=>qT ?_) (fun h3=>qV ?_));rotate_left
 .have h3:(named l).length<=k:=by simpa using h3
  have eX:(G n++(R.body.take i).flatMap (oD R))++(named l).map (fun t=>(R.head.rel,t,kN l))=G n++(R.body.take (i+1)).flatMap (oD R):=by rw[O0,i0];rfl
  rw[OY h3,eX];change GX _ _ (.code _::_) _ _ _;refine iO ?_;refine gA Z ⟨D,⟨⟩,[],rfl,zW (zK (zC (zK ac)))⟩
 have h3:k<(named l).length:=by simpa using h3
 obtain⟨j,d,b,hd,j0,q0,k0⟩:=Ks J hf.nodup u;have hX:=oe (hs:=(G n++(R.body.take i).flatMap (oD R))++((named l).take k).map fun t=>(R.head.rel,t,kN l)) J d0 hd j0;have c0:=AU (hs:=(G n++(R.body.take i).flatMap (oD R))++((named l).take k).map fun t=>(R.head.rel,t,kN l)) (t:=(named l).getD k ci) (h:=kN l) J d0 hf.nodup hd j0;rw[q0]at hX c0;have s0:((G n++(R.body.take i).flatMap (oD R))++((named l).take k).map fun t=>(R.head.rel,t,kN l))++ [(R.head.rel,(named l).getD k ci,kN l)]=(G n++(R.body.take i).flatMap (oD R))++((named l).take (k+1)).map fun t=>(R.head.rel,t,kN l):=by
  rw[cd h3,OX,O0];rfl
 rw[s0]at c0;generalize(G n++(R.body.take i).flatMap (oD R))++((named l).take k).map (fun t=>(R.head.rel,t,kN l))=hs at hX c0;refine cI (gQ (cI (iO ?_)));refine gA Z ?_;refine cI (iO ?_);refine gA Z ?_;refine cI (sq ⟨[(1,.ptr 0 0),(4,.mp 2),(8,.ptr 3 0),(10,.ptr 4 0),(32,.iv (bV 5 p.rules aw.c)),(33,pI p.rules.length),(34,pI n),(39,.iv (lits R.body)),(40,pI R.body.length),(41,pI i),(46,.iv (strs (named l))),(47,pI (named l).length),(48,pI k),(12,pS ((named l).getD k ci)),(13,pI (kN l))],[(0,co (ay p.c)),(2,co (gO (iG p.aR B))),(3,co (ay R.c)),(4,co (ay l.c))],5⟩ ?_ ?_)
 .refine zJ Z Z (fun h4=>?_) fun h4=>?_
  .have h4:l.kind=1:=zT h4;refine gA Z (uC [] ?_);exact zM (bi (bi (bi (bi (bi (bi (bi (bi (bi (bi (bi (bi (bi (bi ⟨.of_eq (by rw[kN,am h4];rfl),rfl,ac⟩)))))))))))))) (zK (zC (zK (zK ac))))
  .have h4: ¬l.kind=1:=zF h4;refine gA Z (uC [] ?_);exact zM (bi (bi (bi (bi (bi (bi (bi (bi (bi (bi (bi (bi (bi (bi ⟨.of_eq (by rw[kN,be h4];rfl),rfl,ac⟩)))))))))))))) (zK (zC (zK (zK ac))))
 refine uB (qU 12 ?_);refine gA Z ?_;refine vJ (AI (d:=65) hX (show PV.iv (.v (.map (dm .str (iG p.aR B) R.head.rel io)))=_ by rw[k0])) fun t Y C=>?_;obtain⟨rfl,rfl⟩:=C;refine vJ (Cl (b:=b.1) (j:=5) (e:=b.2) (d:=59) (p:= .mp 5) (bg.eK _ _ _) fun M N U x hu o0 _ hv=>?_) fun t Y C=>?_
 .have hv:VR M N U (PV.iv (.v (.map (dm .str (iG p.aR B) R.head.rel io)))) x:=hv;rw[k0]at hv;cases hv with
  |iv _ _ hi=>cases hi with
   |v=>rw[<-o0];exact .mp 5 hu
 obtain⟨rfl,rfl⟩:=C;refine qU 4 ?_;refine gA Z ?_;refine sk (DK (I0 (Mg (b:=b.1) (e:=b.2) (i:=5) (o:=cy (BV (iq hs R.head.rel) ((named l).getD k ci) (kN l))) (bg.eK _ _ _) Z Z ac) fun t Y C=>?_));obtain⟨rfl,rfl⟩:=C;rw[bg.Gu];refine iO ?_;refine gA Z ⟨h3,⟨⟩,[],c0,zW (zK (zC (zK (zK ac))))⟩
end Go.Proofs.YtllkaddcplhklaaGreatDoor
namespace Go.Proofs.YtllkaddcplhklaaGreatDoor
open Go Go.Al Go.Proofs.Tryz Go.Tj
def nn(e:Option ak)(i:Nat)(l:List ak):PV:=match e,l with
 |some _,[]=> .sl i 1 0 1
 |_,l=> .sl i 0 l.length 1
def np(e:Option ak)(l:List ak):AO:=match e,l with
 |some y,[]=> .row 1 [[pS y]]
 |_,l=>aT 1 l cM
theorem jN(σ:Nat->Nat)(e:Option ak)(i:Nat)(l:List ak):(nn e i l).cj σ=nn e (σ i) l:=by cases e<;>cases l<;>rfl
theorem jO(σ:Nat->Nat)(e:Option ak)(l:List ak):(np e l).cj σ=np e l:=by
 cases e<;>cases l<;>first|rfl|exact b3 σ
theorem wA{n i:Nat}(h:O1 i n=is)(e:Option ak)(l:List ak):(nn e i l).low n=is:=by cases e<;>cases l<;>exact h
theorem wD(n:Nat)(e:Option ak)(l:List ak):(np e l).low n:=by
 cases e with
 |none=>exact dG n
 |some y=>
  cases l with
  |nil=>
   intro k e b;cases k with
   |zero=>cases b;rfl
   |succ k=>cases b
  |cons=>exact dG n
theorem wz{e:Option ak}{i:Nat}{l:List ak}(h:e=io∨l≠ []):nn e i l= .sl i 0 l.length 1:=by
 cases e with
 |none=>rfl
 |some y=>cases l with
  |nil=>exact absurd Z (h.resolve_left (by simp))
  |cons=>rfl
theorem wB{e:Option ak}{l:List ak}(h:e=io∨l≠ []):np e l=aT 1 l cM:=by
 cases e with
 |none=>rfl
 |some y=>cases l with
  |nil=>exact absurd Z (h.resolve_left (by simp))
  |cons=>rfl
structure TW where
 low:NM
 on:NM
 ring:NM
 stack:List ak
 qC:Option ak
def TW.st(w:TW):St ak:=⟨fun a=>dm .str w.low a 0,fun a=>dm .str w.on a 0,fun a=>dm .str w.ring a 0,w.low.length,w.stack⟩
structure TW.Ok (V:List ak) (w:TW):Prop where
 nz: ∀a∈w.low.map Px,dm .str w.low a 0≠0
 nd:(w.low.map Px).Nodup
 sub: ∀a∈w.low.map Px,a∈V
abbrev wo:PV:= .bX (.func 65) [] [.ptr 0 0,.ptr 1 0,.ptr 2 0,.ptr 3 0,.ptr 4 0,.ptr 5 0]
abbrev tO(G:IV)(w:TW):List AO:=[.cells [.mp 6],.cells [.mp 7],.cells [nn w.qC 9 w.stack],.cells [.iv G],.cells [wo],.cells [.mp 8],cy w.low,cy w.on,cy w.ring,np w.qC w.stack]
abbrev tH(G:IV)(w:TW)(k:Nat):AH:=[(0,co (.cells [.mp 6])),(1,co (.cells [.mp 7])),(2,co (.cells [nn w.qC k w.stack])),(3,co (.cells [.iv G])),(4,co (.cells [wo])),(5,co (.cells [.mp 8])),
 (6,co (cy w.low)),(7,co (cy w.on)),(8,co (cy w.ring)),(k,co (np w.qC w.stack))]
theorem rj{n k:Nat}{σ:Nat->Nat}{h:AH}{G:IV}{w:TW}{C:PV}{y A B:NM}{o:AO}(b:Qx 9 n=is)(bk:O1 k n=is)(hs: ∀i,i<9->σ i=i)
  (g0:h.get 0=co (.cells [.mp 6])) (g1:h.get 1=co (.cells [.mp 7])) (g2:h.get 2=co (.cells [C])) (g3:h.get 3=co (.cells [.iv G])) (g4:h.get 4=co (.cells [wo])) (g5:h.get 5=co (.cells [.mp 8]))
  (g6:h.get 6=co (cy y)) (g7:h.get 7=co (cy A)) (g8:h.get 8=co (cy B)) (g9:h.get (σ k)=co o)
  (D:C=nn w.qC (σ k) w.stack) (I:y=w.low) (J:A=w.on) (R:B=w.ring) (Y:dN o (np w.qC w.stack)):mf n σ h (tH G w k):=by
 have b9:=Oy b;have bk:=Oy bk;have hb: ∀i,i<9->O1 i n=is:=fun i j=>Pu (by omega);subst D I J R;have r: ∀i,i<9->PV.mp (σ i)=PV.mp i:=fun i j=>by rw[hs i j]
 have u: ∀i,i<9->PV.ptr (σ i) 0=PV.ptr i 0:=fun i j=>by rw[hs i j]
 have x: ∀i,i<9->bb n [PV.mp i]=is:=fun i j=>by simp only[bb,PV.low,hb i j]
 refine⟨⟨_,by rw[hs 0 (by omega)];exact g0,.of_eq (by simp only[AO.cj,cW,PV.cj,r 6 (by omega)])⟩,by omega,x 6 (by omega),
  ⟨_,by rw[hs 1 (by omega)];exact g1,.of_eq (by simp only[AO.cj,cW,PV.cj,r 7 (by omega)])⟩,by omega,x 7 (by omega),
  ⟨_,by rw[hs 2 (by omega)];exact g2,.of_eq (by simp only[AO.cj,cW,jN])⟩,by omega,by simp only[AO.low,bb,wA (Pu bk)],
  ⟨_,by rw[hs 3 (by omega)];exact g3,.of_eq Z⟩,by omega,rfl,
  ⟨_,by rw[hs 4 (by omega)];exact g4,.of_eq (by simp only[AO.cj,cW,PV.cj,u 0 (by omega),u 1 (by omega),u 2 (by omega),u 3 (by omega),u 4 (by omega),u 5 (by omega)])⟩,by omega,by simp only[AO.low,bb,PV.low,hb 0 (by omega),hb 1 (by omega),hb 2 (by omega),hb 3 (by omega),hb 4 (by omega),hb 5 (by omega)],
  ⟨_,by rw[hs 5 (by omega)];exact g5,.of_eq (by simp only[AO.cj,cW,PV.cj,r 8 (by omega)])⟩,by omega,x 8 (by omega),
  ⟨_,by rw[hs 6 (by omega)];exact g6,.of_eq Z⟩,by omega,ac,
  ⟨_,by rw[hs 7 (by omega)];exact g7,.of_eq Z⟩,by omega,ac,
  ⟨_,by rw[hs 8 (by omega)];exact g8,.of_eq Z⟩,by omega,ac,
  ⟨_,g9,by rw[jO];exact Y⟩,bk,wD _ _ _,ac⟩
theorem u7(m:NM)(b:ak)(v:Int):(fun x=>dm .str (cq .str m b v) x 0)=u1 (fun x=>dm .str m x 0) b v:=by
 funext x
 rw[jZ,u1];by_cases h:b=x
 .rw[am h,am h.symm]
 .rw[be h,be fun e=>h e.symm]
def TW.push(w:TW)(a:ak):TW:=⟨cq .str w.low a ((w.low.length:Int)+1),cq .str w.on a 1,w.ring,w.stack++ [a],io⟩
theorem TW.key{V:List ak}{w:TW}(h:w.Ok V){a:ak}(h0:w.st.low a=0):a∉w.low.map Px:=fun g=>h.nz a g h0
theorem p3{m:NM}{a:ak}{v:Int}(h:a∉m.map Px):(cq .str m a v).length=m.length+1:=by
 have:=congrArg RP (du (v:=v) h);simpa using this
theorem TW.Gw{V:List ak}{w:TW}(h:w.Ok V){a:ak}(h0:w.st.low a=0):(w.push a).st=Go.Tj.push w.st a:=
 St.eq (u7 _ _ _) (u7 _ _ _) Z (p3 (TW.key h h0)) Z
theorem TW.Gx{V:List ak}{w:TW}(h:w.Ok V){a:ak}(h0:w.st.low a=0)(ha:a∈V):(w.push a).Ok V:=by
 have hk:=TW.key h h0;refine⟨fun x b=>?_,?_,fun x b=>?_⟩
 .show dm .str (cq .str w.low a _) x 0≠0;rw[jZ];split
  .omega
  .rename_i j;have b:x∈(cq .str w.low a ((w.low.length:Int)+1)).map Px:=b;rw[du hk,OW,OM]at b;exact h.nz x (b.resolve_right fun e=>j e.symm)
 .show((cq .str w.low a _).map Px).Nodup;rw[du hk,PZ];exact⟨h.nd,by simp,fun u hu v y e=>hk (by rw[OM]at y;subst e;subst y;exact hu)⟩
 .have b:x∈(cq .str w.low a ((w.low.length:Int)+1)).map Px:=b;rw[du hk,OW,OM]at b;rcases b with b|rfl
  .exact h.sub x b
  .exact ha
theorem TW.len{V:List ak}{w:TW}(h:w.Ok V):w.low.length<=V.length:=by
 have:=PK h.nd (l₂:=V) h.sub;simpa using this
theorem TW.tN{V:List ak}{w:TW}(h:w.Ok V){succ:ak->List ak}{path:List ak}(hI:Inv succ path w.st):w.stack.length<=V.length:=by
 refine PK (l₂:=V) ?_ fun y A=>?_
 .refine Rz ?_ hI.F5;intro x y u e;subst e;omega
 .have h1:=(hI.tN y).2 A;have b:w.st.low y≠0:=rP hI h1;refine h.sub y (PM fun j=>b (yv j))
def TW.pop(w:TW)(u:List ak)(b:ak)(j:Int):TW:=⟨w.low,cq .str w.on b 2,cq .str w.ring b j,u,co b⟩
theorem TW.C4{w:TW}{u:List ak}{b:ak}(h:w.stack=u++ [b])(j:Int):(w.pop u b j).st=vn j w.st:=by
 have h1:w.st.stack.getLast? =co b:=by show w.stack.getLast? =_;rw[h];simp
 have x:w.st.stack.dropLast=u:=by show w.stack.dropLast=_;rw[h];simp
 unfold vn;rw[h1];exact St.eq Z (u7 _ _ _) (u7 _ _ _) Z x.symm
theorem TW.Kw{V:List ak}{w:TW}(h:w.Ok V)(u:List ak)(b:ak)(j:Int):(w.pop u b j).Ok V:=⟨h.nz,h.nd,h.sub⟩
theorem Mm(hS:fM){p:Prog}(hf:jJ p)(hl:(cA p).length<=100000000)(a:ak):Pure prog 66 [.iv (xn (iq (cA p) a))] (.iv (strs (a7 p a))):=by
 rw[<-wx hf];exact Cy hS _ (Pp (CO _ _) hl)
abbrev Ls(a:ak):List PV:=[pS a,.ptr 0 0,.ptr 1 0,.ptr 2 0,.ptr 3 0,.ptr 4 0,.ptr 5 0]
abbrev vF(a:ak):AF:=[(0,pS a),(1,.ptr 0 0),(2,.ptr 1 0),(3,.ptr 2 0),(4,.ptr 3 0),(5,.ptr 4 0),(6,.ptr 5 0)]
def Lc(p:Prog)(f:Nat):Prop:= ∀(path:List ak) (a:ak) (w:TW),w.Ok (ns p)->Inv (a7 p) path w.st->w.st.low a=0->a∈ns p->(∀g∈path,lr (a7 p) g a)->iD (ns p) w.st<=f->
 Go.Al.Fn prog 65 (Ls a) (tO (uE (bU p (cA p))) w) fun r h n=> ∃w':TW,w'.Ok (ns p)∧w'.st=(dF (a7 p) f a w.st).2∧r=pI (dF (a7 p) f a w.st).1∧h=tH (uE (bU p (cA p))) w' 10∧n=11
theorem DN(p:Prog)(hs:List (ak×ak×Nat)){a:ak}(h:a∈p.aR.map Decl.name):(Bi (dm .str (bU p hs) a io)).pv= .iv (xn (iq hs a)):=by rw[DO p hs h];rfl
theorem JZ(G:IV)(w:TW){n:Nat}:[co (AO.cells [PV.mp 6]),co (.cells [.mp 7]),co (.cells [nn w.qC 11 w.stack]),co (.cells [.iv G]),co (.cells [wo]),co (.cells [.mp 8]),co (cy w.low),co (cy w.on),co (cy w.ring),co (np w.qC w.stack)]=
  (tO G w).map fun o=>co (o.cj (sig [0,1,2,3,4,5,6,7,8,11] n)):=by
 have h1:=jN (sig [0,1,2,3,4,5,6,7,8,11] n) w.qC 9 w.stack;have b:=jO (sig [0,1,2,3,4,5,6,7,8,11] n) w.qC w.stack;show _=[co (AO.cells [PV.mp 6]),co (.cells [.mp 7]),co (.cells [(nn w.qC 9 w.stack).cj (sig [0,1,2,3,4,5,6,7,8,11] n)]),co (.cells [.iv G]),co (.cells [wo]),co (.cells [.mp 8]),co (cy w.low),co (cy w.on),co (cy w.ring),co ((np w.qC w.stack).cj (sig [0,1,2,3,4,5,6,7,8,11] n))]
 rw[h1,b];rfl
theorem Cn(u:List ak)(b:ak):((u++ [b]).map fun x=>(cM x).map PV.iv)[0+((((u.length+1:Nat):Int)-1).toNat)]? =co [pS b]:=by
 rw[O8,show(((u.length+1:Nat):Int)-1).toNat=u.length by omega];simp[cM]
theorem Cp(i:Nat)(u:List ak)(b:ak):(u.length=0∧nn (co b) i u= .sl i 1 0 1)∨(0<u.length∧nn (co b) i u= .sl i 0 u.length 1):=by
 cases u with
 |nil=>exact .inl ⟨rfl,rfl⟩
 |cons x r=>exact .inr ⟨by simp,rfl⟩
theorem wC(u:List ak)(b:ak):dN (aT 1 (u++ [b]) cM) (np (co b) u):=by
 cases u with
 |nil=>exact .of_eq Z
 |cons x r=>
  have e:np (co b) (x::r)= .row 1 (((x::r++ [b]).map fun y=>(cM y).map PV.iv).take (x::r).length):=by
   rw[<-List.map_take,List.take_left];rfl
  rw[e];exact .take
theorem qL{p:Prog}: ∀a∈ns p,∀b∈a7 p a,b∈ns p:=fun _ _ _ h=>(Pa.1 h).1
theorem De{p:Prog}(hf:jJ p):(ns p).length<=64:=by
 have:=hf.len;rw[ns,iz,O7];exact this
theorem B5(hS:fM){p:Prog}(hf:jJ p)(hl:(cA p).length<=100000000)(f:Nat)(ih:Lc p f):Lc p (f+1):=by
 intro path a w hok hI h0 R hp hw;have i0:=De hf;have e1:=jj hI.lh R h0;have l1:=TW.len hok;have o1:=TW.tN hok hI;have q0:a∈p.aR.map Decl.name:=by rw[ns,jV]at R;exact R
 have D:=TW.Gw hok h0;have t0:=TW.Gx hok h0 R;have n1:=PQ (eg p a) (ns p);refine nT ab func65 Z (by decide) ntmps65 Z (by simp) ?_;refine go_cut 6 (fun _:Unit=>⟨(9,pI ((w.low.length:Int)+1))::(10,pI ((w.low.length:Int)+1))::vF a,tH (uE (bU p (cA p))) (w.push a) 10,11⟩) Z ?_ ?_
 .have o0:dm .str (cq .str w.low a ((w.low.length:Int)+1)) a 0=(w.low.length:Int)+1:=by rw[jZ,am Z]
  by_cases hu:w.qC=io∨w.stack≠ []
  .rw[show tO (uE (bU p (cA p))) w=[.cells [.mp 6],.cells [.mp 7],.cells [.sl 9 0 w.stack.length 1],.cells [.iv (uE (bU p (cA p)))],.cells [wo],.cells [.mp 8],cy w.low,cy w.on,cy w.ring,aT 1 w.stack cM] by
    unfold tO;rw[wz hu,wB hu]]
   refine gA Z (Ek () [11] ?_);exact wk Z Z Z ⟨.of_eq (congrArg pI o0),rfl,.of_eq (congrArg pI o0),rfl,bi (bi (bi (bi (bi (bi (bi ac))))))⟩
    (rj (w:=w.push a) Z Z (fun i Y=>fa (by show i<10;omega)) Z Z Z Z Z Z Z Z Z Z (by show _=PV.sl 11 0 (w.stack++ [a]).length 1;rw[OE];rfl) Z Z Z (.of_eq (by show _=aT 1 (w.stack++ [a]) cM;rw[aT,OX];rfl))) Z
  .obtain⟨y,hy,v0⟩: ∃y,w.qC=co y∧w.stack=[]:=by
    cases hg:w.qC with
    |none=>exact absurd (.inl hg) hu
    |some y=>exact⟨y,rfl,PM fun h=>hu (.inr h)⟩
   rw[show tO (uE (bU p (cA p))) w=[.cells [.mp 6],.cells [.mp 7],.cells [.sl 9 1 0 1],.cells [.iv (uE (bU p (cA p)))],.cells [wo],.cells [.mp 8],cy w.low,cy w.on,cy w.ring,.row 1 [[pS y]]] by
    unfold tO;rw[hy,v0];rfl]
   refine gA Z (vO ab Z Z Z Z Z Z Z Z Z (by simp) (by simp) (jb Z) Z ?_);refine gA Z (Ek () [11] ?_);exact wk Z Z Z ⟨.of_eq (congrArg pI o0),rfl,.of_eq (congrArg pI o0),rfl,bi (bi (bi (bi (bi (bi (bi ac))))))⟩
    (rj (w:=w.push a) Z Z (fun i Y=>fa (by show i<10;omega)) Z Z Z Z Z Z Z Z Z Z (by show _=PV.sl 11 0 (w.stack++ [a]).length 1;rw[v0];rfl) Z Z Z (.of_eq (by show _=aT 1 (w.stack++ [a]) cM;rw[v0];rfl))) Z
 intro _;have Y:=w9 hI h0 hp;rw[<-D]at e1 Y;have hm:((w.push a).low.length:Int)=(w.low.length:Int)+1:=by
  have:=p3 (v:=(w.low.length:Int)+1) (TW.key hok h0);show(((cq .str w.low a _).length:Nat):Int)=_;rw[this];omega
 have la:(w.push a).st.low a=(w.st.n:Int)+1:=by rw[D];exact iE _ _ _
 have oa:(w.push a).st.on a=1:=by rw[D];exact iE _ _ _
 have g1:eA (a7 p) path a w.st [] ((w.st.n:Int)+1,Go.Tj.push w.st a) []:=
  ⟨D▸Y,.refl _,rfl,fun y hy=>(nomatch hy),QM _,fun y hy=>(nomatch hy),fun z hz=>(nomatch hz),fun z hz=>(nomatch hz),⟨a,D▸oa,D▸la,.refl _⟩⟩
 have k0:=fun pa b s=>nh (succ:=a7 p) qL f pa b s
 let I:Nat->Int×St ak:=fun i=>((a7 p a).take i).foldl (Go.Tj.pQ (dF (a7 p) f)) ((w.st.n:Int)+1,Go.Tj.push w.st a)
 have g0: ∀i,∃t,eA (a7 p) path a w.st ((a7 p a).take i) (I i) t:=fun i=>by
  have:=ph qL k0 hI h0 R (by rw[<-D];omega) ((a7 p a).take i) [] _ [] g1 fun b hb=>RR hb;rwa[Qh]at this
 refine gM 5 Z (G9 ab (.iv (xn (iq (cA p) a))) Z Z Z Z (DN p _ q0) Z ?_);refine gA Z (zp (Mm hS hf hl a) ?_);refine gA Z ?_;refine vM 0 (a7 p a).length (OS _) (fun i B=>⟨(9,pI ((w.low.length:Int)+1))::(10,pI (I i).1)::(32,.iv (strs (a7 p a)))::(33,pI (a7 p a).length)::(34,pI i)::vF a,tH (uE (bU p (cA p))) B 11,12⟩)
  (fun i B=>B.Ok (ns p)∧B.st=(I i).2) (w.push a) [10] ⟨t0,D⟩
  (wk Z Z Z (bi (bi (bi (bi (bi (bi (bi (bi (bi (bi (bi (bi trivial))))))))))))
   (rj Z Z (fun i Y=>fa (by show i<11;omega)) Z Z Z Z Z Z Z Z Z Z Z Z Z Z (.refl _)) Z) fun i B r1 hJ=>?_
 obtain⟨C,A⟩:=hJ;obtain⟨t2,x⟩:=g0 i;have m1:(a7 p a).length<=64:=Pp n1 i0;refine zJ Z Z (fun h1=>?_) fun h1=>?_
 .have h1:i<(a7 p a).length:=by simpa using h1
  have d0:I (i+1)=Go.Tj.pQ (dF (a7 p) f) (I i) ((a7 p a).getD i ci):=gq h1;have hb:((a7 p a).getD i ci)∈a7 p a:=j8 h1;have j:Go.Tj.pQ (dF (a7 p) f) (I i) ((a7 p a).getD i ci)=if B.st.low ((a7 p a).getD i ci)=0 then(min (I i).1 (dF (a7 p) f ((a7 p a).getD i ci) B.st).1,(dF (a7 p) f ((a7 p a).getD i ci) B.st).2)
    else if B.st.on ((a7 p a).getD i ci)=1 then(min (I i).1 (B.st.low ((a7 p a).getD i ci)),B.st) else(I i):=by rw[A];rfl
  refine zJ Z Z (fun h2=>?_) fun h2=>?_
  .have h2:B.st.low ((a7 p a).getD i ci)=0:=zT h2;rw[am h2]at j;have b0: ∀g∈path++ [a],lr (a7 p) g ((a7 p a).getD i ci):=by
    intro g hg;have G:(I i).2.on a=1:=(x.inv.tN a).2 (by rw[x.stack];simp);refine .step (x.inv.dn g hg a G ?_) hb;rcases OW.1 hg with e|e
    .have:=x.pa hI h0 g e;omega
    .rw[OM]at e;rw[e];exact QM _
   have q1:iD (ns p) B.st<=f:=by
    have:=tF (V:=ns p) x.le;rw[A];rw[D]at e1;omega
   refine gA Z (xJ [0,1,2,3,4,5,6,7,8,11] (ih (path++ [a]) ((a7 p a).getD i ci) B C (A▸x.inv) h2 (qL a R ((a7 p a).getD i ci) hb) b0 q1) Z Z Z Z Z (JZ _ _) Z ?_);rintro r h' n' ⟨w3,hok3,hst3,rfl,rfl,rfl⟩;refine⟨_,rfl,?_⟩;refine gA Z ⟨h1,w3,[12],⟨hok3,by rw[d0,j];exact hst3⟩,zM (bi ⟨.of_eq (by rw[d0,j];rfl),rfl,bi (bi (bi (bi (bi (bi (bi (bi (bi (bi ac)))))))))⟩) (rj Z Z (fun i Y=>fa (by show i<11;omega)) Z Z Z Z Z Z Z Z Z Z (jN _ _ _ _) Z Z Z (.of_eq (jO _ _ _)))⟩
  .have h2: ¬B.st.low ((a7 p a).getD i ci)=0:=zF h2;rw[be h2]at j;refine zJ Z Z (fun h3=>?_) fun h3=>?_
   .have h3:B.st.on ((a7 p a).getD i ci)=1:=zT h3;rw[am h3]at j;refine gA Z ⟨h1,B,[11],⟨C,by rw[d0,j]⟩,zM (bi ⟨.of_eq (by rw[d0,j];rfl),rfl,bi (bi (bi (bi (bi (bi (bi (bi (bi (bi ac)))))))))⟩) (rj Z Z (fun i Y=>fa (by show i<11;omega)) Z Z Z Z Z Z Z Z Z Z Z Z Z Z (.refl _))⟩
   .have h3: ¬B.st.on ((a7 p a).getD i ci)=1:=zF h3;rw[be h3]at j;refine gA Z ⟨h1,B,[11],⟨C,by rw[d0,j];exact A⟩,zM (bi ⟨.of_eq (by rw[d0,j];rfl),rfl,bi (bi (bi (bi (bi (bi (bi (bi (bi (bi ac)))))))))⟩) (rj Z Z (fun i Y=>fa (by show i<11;omega)) Z Z Z Z Z Z Z Z Z Z Z Z Z Z (.refl _))⟩
 .have h1:(a7 p a).length<=i:=by simpa using h1
  have j1:i=(a7 p a).length:=by omega
  subst j1;have n0:dF (a7 p) (f+1) a w.st=qH a ((w.st.n:Int)+1) (I (a7 p a).length):=by
   show qH a _ ((a7 p a).foldl _ _)=qH a _ (((a7 p a).take (a7 p a).length).foldl _ _);rw[Ql]
  have a0: ∀(w':TW) (k:Nat) (u:AS) (e:Exit),e= .normal∨e= .ret->10<=k->k<u.nx->iF ni u f65.results.toList=co (pI (I (a7 p a).length).1)->w'.Ok (ns p)->w'.st=(qH a ((w.st.n:Int)+1) (I (a7 p a).length)).2->
    mf 11 (sg 10 [k]) u.h (tH (uE (bU p (cA p))) w' 10)->HK ni f65.results.toList 10 (fun r h n=> ∃w':TW,w'.Ok (ns p)∧w'.st=(dF (a7 p) (f+1) a w.st).2∧r=pI (dF (a7 p) (f+1) a w.st).1∧h=tH (uE (bU p (cA p))) w' 10∧n=11) e u:=by
   intro w' k u e he hk k1 hr s0 w0 hh;refine qZ [k] he hr ⟨w',s0,by rw[n0];exact w0,rfl,rfl,rfl⟩ ⟨rfl,by show 10<=u.nx;omega,by simpa using k1,⟨.of_eq ?_,rfl,ac⟩,hh,?_⟩
   .show pI (I (a7 p a).length).1=pI (dF (a7 p) (f+1) a w.st).1;rw[n0];unfold qH;split<;>rfl
   .show[0,1,2,3,4,5,6,7,8,k].Nodup;simp;omega
  generalize I (a7 p a).length=q at*
  refine zE Z Z (fun h4=>?_) fun h4=>?_
  .have h4: ¬q.1=(w.st.n:Int)+1:=zF h4;refine gA Z (a0 B 11 _ _ (.inr Z) (by omega) (by show 11<12;omega) Z C (by rw[qH,be h4];exact A) ?_);exact rj Z Z (fun i Y=>fa (by omega)) Z Z Z Z Z Z Z Z Z Z Z Z Z Z (.refl _)
  have h4:q.1=(w.st.n:Int)+1:=zT h4;have hE:(qH a ((w.st.n:Int)+1) q).2=eO a ((w.st.n:Int)+1) q.2.stack.length q.2:=by rw[qH,am h4]
  have G:q.2.on a=1:=(x.inv.tN a).2 (by rw[x.stack];simp);have hF:eO a ((w.st.n:Int)+1) (t2.length+1) q.2=(qH a ((w.st.n:Int)+1) q).2:=by
   rw[hE,pb (by omega) x.stack x.at_ G,pb (by rw[x.stack];simp;omega) x.stack x.at_ G]
  generalize(qH a ((w.st.n:Int)+1) q).2=F at hF a0;refine gA Z ?_;refine fW (σ:={v:TW//v.Ok (ns p)∧((∃t,v.stack=w.stack++a::t∧a∉t∧v.stack.length<=64∧v.st.on a=1∧eO a ((w.st.n:Int)+1) (t.length+1) v.st=F)∨(v.st.on a≠1∧v.st=F))})
   (fun v=>⟨(9,pI ((w.low.length:Int)+1))::(10,pI q.1)::vF a,tH (uE (bU p (cA p))) v.1 12,13⟩) (fun v=>v.1.stack.length) ⟨B,C,.inl ⟨t2,by rw[show B.stack=B.st.stack from rfl,A];exact x.stack,x.at_,Pp (TW.tN C (A▸x.inv)) i0,by rw[A];exact G,by rw[A];exact hF⟩⟩ [11]
   (zW (rj Z Z (fun i Y=>fa (by show i<12;omega)) Z Z Z Z Z Z Z Z Z Z Z Z Z Z (.refl _))) fun v=>?_
  obtain⟨v,j0,hJ⟩:=v;rcases hJ with⟨t,hs,a1,m0,c0,J⟩|⟨c0,f1⟩
  rotate_left
  .refine zJ Z Z (fun h5=>?_) fun h5=>?_
   .exact absurd (zT h5) c0
   refine gA Z (a0 v 12 _ _ (.inr Z) (by omega) (by show 12<13;omega) Z j0 f1 ?_);exact rj Z Z (fun i Y=>fa (by omega)) Z Z Z Z Z Z Z Z Z Z Z Z Z Z (.refl _)
  have key: ∃u b,v.stack=u++ [b]∧((b=a∧vn ((w.st.n:Int)+1) v.st=F)∨ ∃t',u=w.stack++a::t'∧a∉t'∧b≠a∧eO a ((w.st.n:Int)+1) (t'.length+1) (vn ((w.st.n:Int)+1) v.st)=F):=by
   rcases t.eq_nil_or_concat with e|⟨t',b,e⟩
   .subst e;refine⟨w.stack,a,hs,.inl ⟨rfl,?_⟩⟩;rw[Qa,eO,am c0]at J;exact J
   .rw[RL]at e;subst e;refine⟨w.stack++a::t',b,by rw[hs];simp,.inr ⟨t',rfl,fun h=>a1 (by simp[h]),fun h=>a1 (by simp[h]),?_⟩⟩;rw[eO,am c0,OE]at J;exact J
  obtain⟨u,b,e0,f0⟩:=key;have s1:u.length+1<=64:=by rw[e0,OE]at m0;exact m0
  have d1:v.stack≠ []:=by rw[e0];simp
  have x0:v.stack.length=u.length+1:=by rw[e0,OE];rfl
  have p1:tH (uE (bU p (cA p))) v 12=[(0,co (.cells [.mp 6])),(1,co (.cells [.mp 7])),(2,co (.cells [.sl 12 0 (u.length+1) 1])),(3,co (.cells [.iv (uE (bU p (cA p)))])),(4,co (.cells [wo])),(5,co (.cells [.mp 8])),
    (6,co (cy v.low)),(7,co (cy v.on)),(8,co (cy v.ring)),(12,co (aT 1 (u++ [b]) cM))]:=by
   unfold tH;rw[wz (.inr d1),wB (.inr d1),x0,e0]
  show GO prog _ _ _ ⟨_,tH (uE (bU p (cA p))) v 12,_⟩;rw[p1];refine zE Z Z (fun h5=>?_) fun h5=>?_
  .exact absurd c0 (zF h5)
  refine gM 9 Z (nR ab Z Z Z Z Z (Cn u b) Z Z ?_);have z0:(v.pop u b ((w.st.n:Int)+1)).Ok (ns p)∧((∃t,(v.pop u b ((w.st.n:Int)+1)).stack=w.stack++a::t∧a∉t∧(v.pop u b ((w.st.n:Int)+1)).stack.length<=64∧(v.pop u b ((w.st.n:Int)+1)).st.on a=1∧eO a ((w.st.n:Int)+1) (t.length+1) (v.pop u b ((w.st.n:Int)+1)).st=F)∨((v.pop u b ((w.st.n:Int)+1)).st.on a≠1∧(v.pop u b ((w.st.n:Int)+1)).st=F)):=by
   refine⟨TW.Kw j0 u b _,?_⟩;rcases f0 with⟨rfl,p0⟩|⟨t',hu,r0,i1,p0⟩
   .refine .inr ⟨?_,by rw[TW.C4 e0];exact p0⟩;show dm .str (cq .str v.on b 2) b 0≠1;rw[jZ,am Z];decide
   .refine .inl ⟨t',hu,r0,by show u.length<=64;omega,?_,by rw[TW.C4 e0];exact p0⟩;show dm .str (cq .str v.on b 2) a 0=1;rw[jZ,be i1];exact c0
  have b1:(v.pop u b ((w.st.n:Int)+1)).stack.length<v.stack.length:=by show u.length<v.stack.length;omega
  rcases Cp 12 u b with hc|hc
  .refine gA Z (Af ab u.length Z Z Z Z Z Z Z (by omega) (by omega) (by omega) (.inl ⟨hc.1,rfl⟩) Z ?_);refine gA Z ⟨⟨v.pop u b ((w.st.n:Int)+1),z0⟩,[12],b1,zW (rj Z Z (fun i Y=>fa (by show i<12;omega)) Z Z Z Z Z Z Z Z Z Z hc.2.symm Z Z Z (wC u b))⟩
  .refine gA Z (Af ab u.length Z Z Z Z Z Z Z (by omega) (by omega) (by omega) (.inr ⟨hc.1,rfl⟩) Z ?_);refine gA Z ⟨⟨v.pop u b ((w.st.n:Int)+1),z0⟩,[12],b1,zW (rj Z Z (fun i Y=>fa (by show i<12;omega)) Z Z Z Z Z Z Z Z Z Z hc.2.symm Z Z Z (wC u b))⟩
theorem Lr(hS:fM){p:Prog}(hf:jJ p)(hl:(cA p).length<=100000000): ∀f,Lc p f
 |0=>fun path a w hok hI j b u x=>by
  have:=jj hI.lh b j;omega
 |f+1=>B5 hS hf hl f (Lr hS hf hl f)
theorem A2(hS:fM){p:Prog}(hf:jJ p)(hs:List (ak×ak×Nat)):Pure prog 67 [.iv (uE (bU p hs))] (.iv (strs (ns p))):=by
 have h:=Cz hS (bU p hs) (by have:=hf.len;simp[bU];omega);rw[show(bU p hs).map (·.1)=p.aR.map Decl.name from yH p hs]at h;exact h
abbrev Gt:PV:= .bX (.func 65) [] [.ptr 4 0,.ptr 5 0,.ptr 7 0,.ptr 0 0,.ptr 8 0,.ptr 6 0]
abbrev rH(G:IV)(w:TW)(k:Nat):AH:=[(0,co (.cells [.iv G])),(1,co (cy w.low)),(2,co (cy w.on)),(3,co (cy w.ring)),(4,co (.cells [.mp 1])),(5,co (.cells [.mp 2])),(6,co (.cells [.mp 3])),(7,co (.cells [nn w.qC k w.stack])),(8,co (.cells [Gt])),(k,co (np w.qC w.stack))]
theorem Je{n k:Nat}{σ:Nat->Nat}{h:AH}{G:IV}{w:TW}{C:PV}{y A B o:AO}(b:Qx 9 n=is)(bk:O1 k n=is)(hs: ∀i,i<9->σ i=i)
  (g0:h.get 0=co (.cells [.iv G])) (g1:h.get 1=co y) (g2:h.get 2=co A) (g3:h.get 3=co B)
  (g4:h.get 4=co (.cells [.mp 1])) (g5:h.get 5=co (.cells [.mp 2])) (g6:h.get 6=co (.cells [.mp 3])) (g7:h.get 7=co (.cells [C])) (g8:h.get 8=co (.cells [Gt])) (g9:h.get (σ k)=co o)
  (D:dN y (cy w.low)) (I:dN A (cy w.on)) (J:dN B (cy w.ring)) (R:C=nn w.qC (σ k) w.stack) (Y:dN o (np w.qC w.stack)):mf n σ h (rH G w k):=by
 have b9:=Oy b;have bk:=Oy bk;have hb: ∀i,i<9->O1 i n=is:=fun i j=>Pu (by omega);subst R;have r: ∀i,i<9->PV.mp (σ i)=PV.mp i:=fun i j=>by rw[hs i j]
 have u: ∀i,i<9->PV.ptr (σ i) 0=PV.ptr i 0:=fun i j=>by rw[hs i j]
 have x: ∀i,i<9->bb n [PV.mp i]=is:=fun i j=>by simp only[bb,PV.low,hb i j]
 refine⟨⟨_,by rw[hs 0 (by omega)];exact g0,.of_eq Z⟩,by omega,rfl,
  ⟨_,by rw[hs 1 (by omega)];exact g1,D⟩,by omega,ac,
  ⟨_,by rw[hs 2 (by omega)];exact g2,I⟩,by omega,ac,
  ⟨_,by rw[hs 3 (by omega)];exact g3,J⟩,by omega,ac,
  ⟨_,by rw[hs 4 (by omega)];exact g4,.of_eq (by simp only[AO.cj,cW,PV.cj,r 1 (by omega)])⟩,by omega,x 1 (by omega),
  ⟨_,by rw[hs 5 (by omega)];exact g5,.of_eq (by simp only[AO.cj,cW,PV.cj,r 2 (by omega)])⟩,by omega,x 2 (by omega),
  ⟨_,by rw[hs 6 (by omega)];exact g6,.of_eq (by simp only[AO.cj,cW,PV.cj,r 3 (by omega)])⟩,by omega,x 3 (by omega),
  ⟨_,by rw[hs 7 (by omega)];exact g7,.of_eq (by simp only[AO.cj,cW,jN])⟩,by omega,by simp only[AO.low,bb,wA (Pu bk)],
  ⟨_,by rw[hs 8 (by omega)];exact g8,.of_eq (by simp only[AO.cj,cW,PV.cj,u 0 (by omega),u 4 (by omega),u 5 (by omega),u 6 (by omega),u 7 (by omega),u 8 (by omega)])⟩,by omega,by simp only[AO.low,bb,PV.low,hb 0 (by omega),hb 4 (by omega),hb 5 (by omega),hb 6 (by omega),hb 7 (by omega),hb 8 (by omega)],
  ⟨_,g9,by rw[jO];exact Y⟩,bk,wD _ _ _,ac⟩
theorem rZ{V:Type}{kc:KC}{ev:V->IV}{z:V}{b:Value}{u:PV->V}(y: ∀M,IR M (ev z) b):dN .eC (.map kc ev z b u []):=
 ⟨id,fun M N U w j x=>⟨#[],0,x,⟨rfl,by simp,by simp,by simp,by simp⟩,y M⟩⟩
def TW.o:TW:=⟨[],[],[],[],io⟩
theorem Kt(G:IV)(w:TW){n:Nat}:[co (AO.cells [PV.mp 1]),co (.cells [.mp 2]),co (.cells [nn w.qC 10 w.stack]),co (.cells [.iv G]),co (.cells [Gt]),co (.cells [.mp 3]),co (cy w.low),co (cy w.on),co (cy w.ring),co (np w.qC w.stack)]=
  (tO G w).map fun o=>co (o.cj (sig [4,5,7,0,8,6,1,2,3,10] n)):=by
 have h1:=jN (sig [4,5,7,0,8,6,1,2,3,10] n) w.qC 9 w.stack;have b:=jO (sig [4,5,7,0,8,6,1,2,3,10] n) w.qC w.stack;show _=[co (AO.cells [PV.mp 1]),co (.cells [.mp 2]),co (.cells [(nn w.qC 9 w.stack).cj (sig [4,5,7,0,8,6,1,2,3,10] n)]),co (.cells [.iv G]),co (.cells [Gt]),co (.cells [.mp 3]),co (cy w.low),co (cy w.on),co (cy w.ring),co ((np w.qC w.stack).cj (sig [4,5,7,0,8,6,1,2,3,10] n))]
 rw[h1,b];rfl
theorem Kc(hS:fM){p:Prog}(hf:jJ p)(hl:(cA p).length<=100000000):Go.Al.Fn prog 40 [.iv (uE (bU p (cA p)))] [] fun r h n=> ∃m:NM,Go.Rg.s4 (ns p) (eg p) (fun a=>dm .str m a 0)∧r= .iv (xn m)∧h=[]∧n=0:=by
 have B:=De hf;refine nT ab func40 Z (by decide) ntmps40 Z (by simp) ?_;refine gA Z (zp (A2 hS hf (cA p)) ?_);refine gA Z ?_;refine oE 7 0 1 Z Z ?_
 let x:Nat->St ak:=fun i=>fy (a7 p) (ns p).length ((ns p).take i) St.o
 have y: ∀i,Inv (a7 p) [] (x i):=fun i=>(o7 qL (OL _) ((ns p).take i) St.o (fun a h=>RR h) (IU _)).1
 refine vM 0 (ns p).length (OS _) (fun i w=>⟨[(3,.ptr 4 0),(4,.ptr 5 0),(5,.ptr 6 0),(6,.ptr 7 0),(7,.ptr 8 0),(15,.iv (strs (ns p))),(16,pI (ns p).length),(17,pI i)],rH (uE (bU p (cA p))) w 10,11⟩)
  (fun i w=>w.Ok (ns p)∧w.st=x i) TW.o [9] ⟨⟨fun a h=>(nomatch h),Pk,fun a h=>(nomatch h)⟩,rfl⟩
  (wk Z Z Z (bi (bi (bi (bi (bi (bi (bi (bi trivial))))))))
   (Je Z Z (fun i A=>fa (by show i<10;omega)) Z Z Z Z Z Z Z Z Z Z (rZ eS) (rZ eS) (rZ eS) Z (.of_eq Z)) Z) fun i w A G=>?_
 obtain⟨hok,u⟩:=G;refine zJ Z Z (fun h1=>?_) fun h1=>?_
 .have h1:i<(ns p).length:=by simpa using h1
  have j:x (i+1)=if(x i).low ((ns p).getD i ci)=0 then(dF (a7 p) (ns p).length ((ns p).getD i ci) (x i)).2 else x i:=gq h1;refine zJ Z Z (fun b=>?_) fun b=>?_
  .have b:w.st.low ((ns p).getD i ci)=0:=zT b;rw[<-u,am b]at j;refine gA Z (xJ [4,5,7,0,8,6,1,2,3,10] (Lr hS hf hl (ns p).length [] ((ns p).getD i ci) w hok (u▸y i) b (j8 h1) (fun g I=>nomatch I) (PQ _ _)) Z Z Z Z Z (Kt _ _) Z ?_);rintro r R Y ⟨w3,hok3,hst3,rfl,rfl,rfl⟩;refine⟨_,rfl,?_⟩;refine gA Z ?_
   exact⟨h1,w3,[11],⟨hok3,by rw[j];exact hst3⟩,wk Z Z Z (bi (bi (bi (bi (bi (bi (bi (bi ac))))))))
    (Je Z Z (fun i A=>fa (by show i<10;omega)) Z Z Z Z Z Z Z Z Z Z (.refl _) (.refl _) (.refl _) (jN _ _ _ _) (.of_eq (jO _ _ _))) Z⟩
  .have b: ¬w.st.low ((ns p).getD i ci)=0:=zF b;rw[<-u,be b]at j;refine gA Z ?_
   exact⟨h1,w,[10],⟨hok,j.symm⟩,wk Z Z Z (bi (bi (bi (bi (bi (bi (bi (bi ac))))))))
    (Je Z Z (fun i A=>fa (by show i<10;omega)) Z Z Z Z Z Z Z Z Z Z (.refl _) (.refl _) (.refl _) Z (.refl _)) Z⟩
 .have h1:(ns p).length<=i:=by simpa using h1
  have J:Go.Rg.s4 (ns p) (eg p) (fun a=>dm .str w.ring a 0):=by
   have b:=CS hf.nodup (OL (ns p).length);have C:x i=fy (a7 p) (ns p).length (ns p) St.o:=by show fy _ _ ((ns p).take i) _=_;rw[OY h1]
   have D:(fun a=>dm .str w.ring a 0)=(fy (a7 p) (ns p).length (ns p) St.o).ring:=by rw[<-C,<-u];rfl
   rw[D];exact b
  refine gA Z ⟨.inr Z,_,rfl,gZ.map 3 Z (.done ⟨.iv (xn w.ring),[],0,[],⟨w.ring,J,rfl,rfl,rfl⟩,?_⟩)⟩;exact⟨rfl,OS _,by simp,⟨.of_eq Z,rfl,ac⟩,ac,Pk⟩
end Go.Proofs.YtllkaddcplhklaaGreatDoor
namespace Go.Proofs.YtllkaddcplhklaaGreatDoor
open Go Go.Al Go.Proofs.Tryz
theorem Ki(l:List ak)(s:ak):Pure prog 89 [.iv (strs l),pS s] (pI (nP (fun x:ak=>kw (s=x)) l)):=by
 refine C3 (bc func89 Z (by decide)) ⟨_,_,OO⟩ fun j=>?_;simp only[maxLen]at j;refine ae ab func89 Z (by decide) ntmps89 Z (by simp) Z ?_;refine gA Z ?_
 refine aM 0 l.length (OS _) (fun i=>⟨[(0,.iv (strs l)),(1,pS s),(7,pI l.length),(8,pI i)],[],0⟩) (fun i=>(l.take i).any (fun x:ak=>kw (s=x))=jp) [] (by simp)
  (wk0 Z Z (bi (bi (bi (bi trivial)))) Z) fun i y u=>?_
 refine zJ Z Z (fun h1=>?_) fun h1=>?_
 .have h1:i<l.length:=by simpa using h1
  refine zJ Z Z (fun b=>?_) fun b=>?_
  .have b:(fun x:ak=>kw (s=x)) (l.getD i ci)=is:=b;rw[fT u h1 b];exact zU Z
  .have b:(fun x:ak=>kw (s=x)) (l.getD i ci)=jp:=b;refine gA Z ⟨h1,(cC u h1).2 b,[],wk0 Z Z (bi (bi (bi (bi ac)))) Z⟩
 .have h1:l.length<=i:=by simpa using h1
  rw[eY (any_none u h1)];exact zU Z
theorem HF(l:List ak)(s:ak):(l.any fun x=>kw (s=x))=dp l s:=by
 rw[PS,bu,PO];constructor
 .rintro⟨x,hx,h⟩;exact(zT h)▸hx
 .exact fun h=>⟨s,h,decide_eq_true Z⟩
theorem A5(l:List ak)(s:ak):Pure prog 69 [.iv (strs l),pS s] (pB (dp l s)):=by
 refine ae ab func69 Z (by decide) ntmps69 Z (by simp) Z ?_;refine gA Z (zp (Ki l s) ?_);refine gA Z (zL (.of_eq ?_));exact lH (by rw[<-HF];exact fU _ l)
def mF(m:NM)(r:aw)(l:Lit):Bool:=kw (l.kind=1)&&kw (dm .str m l.atom.rel 0=dm .str m r.head.rel 0)
abbrev Kq(m:NM)(r:aw):List AO:=[.cells [.iv (xn m)],ay r.c]
abbrev Gp(m:NM)(r:aw):AH:=[(0,co (.cells [.iv (xn m)])),(1,co (ay r.c))]
theorem Ge(m:NM)(r:aw)(l:Lit):bI prog 91 [ag l.c,.ptr 0 0,.ptr 1 0] (Kq m r) (pB (mF m r l)) (Gp m r) 2:=by
 refine ax ab func91 Z (by decide) ntmps91 Z (by simp) ?_;refine zJ Z Z (fun h1=>?_) fun h1=>?_
 .have h1:l.kind=1:=zT h1;refine gA Z (zD [] Z (zM ⟨.of_eq (lH (by rw[mF,decide_eq_true h1,Rb])),rfl,ac⟩ ((zO (zK ac)))))
 .have h1: ¬l.kind=1:=zF h1;refine gA Z (zD [] Z (zM ⟨.of_eq (lH (by rw[mF,decide_eq_false h1,Qg])),rfl,ac⟩ ((zO (zK ac)))))
abbrev CP:PV:= .bX (.func 91) [] [.ptr 0 0,.ptr 1 0]
theorem Gc(m:NM)(r:aw)(l:List Lit):bI prog 137 [.iv (bV 30 l Lit.c),CP] (Kq m r) (pI (nP (mF m r) l)) (Gp m r) 2:=by
 refine nW (bc func137 Z (by decide)) ⟨_,_,OO⟩ fun j=>?_;simp only[maxLen]at j;refine ax ab func137 Z (by decide) ntmps137 Z (by simp) ?_;refine gA Z ?_
 refine aM 0 l.length (OS _) (fun i=>⟨[(0,.iv (bV 30 l Lit.c)),(1,CP),(7,pI l.length),(8,pI i)],Gp m r,2⟩) (fun i=>(l.take i).any (mF m r)=jp) [] (by simp)
  (zW ((zO (zK trivial)))) fun i x u=>?_
 refine zJ Z Z (fun h1=>?_) fun h1=>?_
 .have h1:i<l.length:=by simpa using h1
  refine gA Z (zq [0,1] (Ge m r (l.getD i ci)) ?_);refine zJ Z Z (fun b=>?_) fun b=>?_
  .have b:mF m r (l.getD i ci)=is:=b;rw[fT u h1 b];refine gA Z (zD [] Z (zW ((zO (zK ac)))))
  .have b:mF m r (l.getD i ci)=jp:=b;refine gA Z ⟨h1,(cC u h1).2 b,[],zW ((zO (zK ac)))⟩
 .have h1:l.length<=i:=by simpa using h1
  rw[eY (any_none u h1)];refine gA Z (zD [] Z (zW ((zO (zK ac)))))
theorem Gd(m:NM)(r:aw)(l:List Lit):bI prog 90 [.iv (bV 30 l Lit.c),CP] (Kq m r) (pB (l.any (mF m r))) (Gp m r) 2:=by
 refine ax ab func90 Z (by decide) ntmps90 Z (by simp) ?_;refine gA Z (zq [0,1] (Gc m r l) ?_);refine gA Z (zD [] Z (zM ⟨.of_eq (lH (fU _ l)),rfl,ac⟩ ((zO (zK ac)))))
theorem Kb(m:NM)(r:aw):Pure prog 70 [ag r.c,.iv (xn m)] (pB (r.body.any (mF m r))):=by
 refine ae ab func70 Z (by decide) ntmps70 Z (by simp) Z ?_;refine gA Z (zq [1,0] (Gd m r r.body) ?_);exact zU Z
def ti(m:NM)(r:aw)(l:Lit):Bool:=kw (l.kind≠1)&&(named l).any fun t=>kw (dm .str m t 0=dm .str m r.head.rel 0)
def tz(m:NM)(r:aw)(t:Term):Bool:=kw (t.kind=1)&&!dp (jB r) t.var&&r.body.any (mF m r)
def hZ(m:NM)(r:aw):eZ:=match r.body.find? (ti m r) with
 |some l=>(70,l.at)
 |none=>if r.head.aj.any (tz m r)=is then(71,r.at_) else eZ.z
theorem J9(m:NM)(r:aw)(hb:r.size<=10000000):Pure prog 41 [ag r.c,.iv (xn m)] (ag (hZ m r).c):=by
 have B:r.body.length<=10000000:=by have:=Lit.aF r.body;unfold aw.size at hb;omega
 have G:r.head.aj.length<=10000000:=by unfold aw.size at hb;omega
 refine ae ab func41 Z (by decide) ntmps41 Z (by simp) Z ?_;refine gA Z ?_;refine aM 0 r.body.length (OS _) (fun i=>⟨[(1,.iv (xn m)),(2,.ptr 0 0),(4,.ptr 1 0),(13,.iv (lits r.body)),(14,pI r.body.length),(15,pI i)],[(0,co (ay r.c)),(1,co (ay eZ.z.c))],2⟩) (fun i=>(r.body.take i).any (ti m r)=jp) [] (by simp)
  (zW (zK (zK trivial))) fun i I y=>?_
 refine zJ Z Z (fun h1=>?_) fun h1=>?_
 .have h1:i<r.body.length:=by simpa using h1
  have D:(r.body.getD i ci).size<=10000000:=by have:=Lit.bN r.body i h1;unfold aw.size at hb;omega
  have C:=jU (r.body.getD i ci);refine gA Z (zp (zl (r.body.getD i ci) (by omega)) ?_);refine gA Z ?_;refine aM 0 (named (r.body.getD i ci)).length (OS _) (fun k=>⟨[(1,.iv (xn m)),(2,.ptr 0 0),(4,.ptr 1 0),(6,.ptr 2 0),(13,.iv (lits r.body)),(14,pI r.body.length),(15,pI i),(20,.iv (strs (named (r.body.getD i ci)))),(21,pI (named (r.body.getD i ci)).length),(22,pI k)],[(0,co (ay r.c)),(1,co (ay eZ.z.c)),(2,co (ay (r.body.getD i ci).c))],3⟩)
   (fun k=>kw ((r.body.getD i ci).kind≠1)=jp∨((named (r.body.getD i ci)).take k).any (fun t=>kw (dm .str m t 0=dm .str m r.head.rel 0))=jp) [] (.inr (by simp))
   (zW (zK (zK (zK trivial)))) fun k hk hK=>?_
  refine zJ Z Z (fun b=>?_) fun b=>?_
  .have b:k<(named (r.body.getD i ci)).length:=by simpa using b
   refine zJ Z Z (fun j=>?_) fun j=>?_
   .have j: ¬(r.body.getD i ci).kind=1:=by simpa using j
    have hK:=hK.resolve_left (by simpa using j);refine zJ Z Z (fun u=>?_) fun u=>?_
    .have u:dm .str m ((named (r.body.getD i ci)).getD k ci) 0=dm .str m r.head.rel 0:=zT u;have hs:ti m r (r.body.getD i ci)=is:=by
      rw[ti,decide_eq_true j,Rb];exact Az b (decide_eq_true u)
     rw[hZ,lV y h1 hs];exact zU Z
    .have u: ¬dm .str m ((named (r.body.getD i ci)).getD k ci) 0=dm .str m r.head.rel 0:=zF u;refine gA Z ⟨b,.inr ((cC hK b).2 (decide_eq_false u)),[],zW (zK (zK (zK ac)))⟩
   .have j:(r.body.getD i ci).kind=1:=by simpa using j
    refine gA Z ⟨b,.inl (decide_eq_false fun h=>h j),[],zW (zK (zK (zK ac)))⟩
  .have b:(named (r.body.getD i ci)).length<=k:=by simpa using b
   have hs:ti m r (r.body.getD i ci)=jp:=by
    rcases hK with hK|hK
    .rw[ti,hK,Qg]
    .rw[ti,any_none hK b,QZ]
   refine gA Z ⟨h1,(cC y h1).2 hs,[],zW (zK (zK ac))⟩
 have h1:r.body.length<=i:=by simpa using h1
 have A:r.body.find? (ti m r)=io:=ke (any_none y h1);rw[hZ,A];refine gA Z (zp (N7 r hb) ?_);refine gA Z ?_;refine aM 0 r.head.aj.length (OS _) (fun k=>⟨[(1,.iv (xn m)),(2,.ptr 0 0),(4,.ptr 1 0),(9,.iv (strs (jB r))),(49,.iv (bV 5 r.head.aj Term.c)),(50,pI r.head.aj.length),(51,pI k)],[(0,co (ay r.c)),(1,co (ay eZ.z.c))],2⟩) (fun k=>(r.head.aj.take k).any (tz m r)=jp) [] (by simp)
  (zW (zK (zK trivial))) fun k hk hK=>?_
 refine zJ Z Z (fun b=>?_) fun b=>?_
 .have b:k<r.head.aj.length:=by simpa using b
  have no:tz m r (r.head.aj.getD k ci)=jp->(r.head.aj.take (k+1)).any (tz m r)=jp:=(cC hK b).2;refine zJ Z Z (fun j=>?_) fun j=>?_
  .have j:(r.head.aj.getD k ci).kind=1:=zT j;refine gA Z (zp (A5 (jB r) (r.head.aj.getD k ci).var) ?_);refine zJ Z Z (fun u=>?_) fun u=>?_
   .have u:(!dp (jB r) (r.head.aj.getD k ci).var)=is:=u;refine gA Z (zp (Kb m r) ?_);refine zJ Z Z (fun x=>?_) fun x=>?_
    .have x:r.body.any (mF m r)=is:=x;rw[am (Az b (by rw[tz,decide_eq_true j,u,x];rfl))];exact zU Z
    .have x:r.body.any (mF m r)=jp:=x;refine gA Z ⟨b,no (by rw[tz,x,QZ]),[],zW (zK (zK ac))⟩
   .have u:(!dp (jB r) (r.head.aj.getD k ci).var)=jp:=u;refine gA Z ⟨b,no (by rw[tz,u,QZ,Qg]),[],zW (zK (zK ac))⟩
  .have j: ¬(r.head.aj.getD k ci).kind=1:=zF j;refine gA Z ⟨b,no (by rw[tz,decide_eq_false j,Qg,Qg]),[],zW (zK (zK ac))⟩
 .have b:r.head.aj.length<=k:=by simpa using b
  rw[be (by rw[any_none hK b];decide)];exact zU Z
theorem find_congr{α:Type}{f g:α->Bool}: ∀{l:List α},(∀x∈l,f x=g x)->l.find? f=l.find? g
 | [],_=>rfl
 |x::l,h=>by
  rw[RI,RI,h x OO,find_congr fun y b=>h y (ON _ b)]
theorem sS{α:Type}{f g:α->Bool}{l:List α}(h: ∀x∈l,f x=g x):l.any f=l.any g:=by
 rw[PS,PO,PO];exact⟨fun⟨x,hx,h1⟩=>⟨x,hx,by rw[<-h x hx];exact h1⟩,fun⟨x,hx,h1⟩=>⟨x,hx,by rw[h x hx];exact h1⟩⟩
theorem vw{p:Prog}{a:ak}(h:a∈p.aR.map Decl.name):a∈ns p:=by rw[ns,jV];exact h
theorem Kp{p:Prog}(hf:jJ p){m:NM}(hR:Go.Rg.s4 (ns p) (eg p) (fun a=>dm .str m a 0)){r:aw}(hr:r∈p.rules):r.body.any (mF m r)=yi p r:=by
 refine sS fun l hl=>?_;rw[mF];by_cases hk:l.kind=1
 .have b:l.atom.rel∈named l:=by rw[ov,am (.inl hk)];exact Qr _
  rw[pV hR (vw (hf.lits r hr l hl _ b)) (vw (hf.Aa r hr))]
 .rw[decide_eq_false hk];rfl
theorem B1{p:Prog}(hf:jJ p){m:NM}(hR:Go.Rg.s4 (ns p) (eg p) (fun a=>dm .str m a 0)){r:aw}(hr:r∈p.rules):hZ m r=uZ p r:=by
 have h1:r.body.find? (ti m r)=u6 p r:=find_congr fun l hl=>by
  rw[ti];congr 1;exact sS fun t j=>(pV hR (vw (hf.lits r hr l hl t j)) (vw (hf.Aa r hr))).symm
 have b:r.head.aj.any (tz m r)=(pG r&&yi p r):=by
  rw[<-Kp hf hR hr,pG];have:tz m r=fun t=>(kw (t.kind=1)&&!dp (jB r) t.var)&&r.body.any (mF m r):=rfl;rw[this];generalize r.body.any (mF m r)=c;cases c<;>simp
 rw[hZ,uZ,h1];cases u6 p r with
 |some l=>rfl
 |none=>
  simp only[b,Pq]
theorem Ke(hS:fM){p:Prog}(hb:p.fit)(h: ¬(dK p).1=0):Pure prog 38 [ag p.c] (.bh [.iv (.v (.map io)),pB jp]):=by
 have:=IQ hS p hb;rwa[sr,be h,decide_eq_false h]at this
theorem Kd(hS:fM){p:Prog}(hb:p.fit)(h:(dK p).1=0):Pure prog 38 [ag p.c] (.bh [.iv (uE (bU p (cA p))),pB is]):=by
 have:=IQ hS p hb;rwa[sr,am h,decide_eq_true h]at this
theorem rz{α β:Type}(f:α->List β)(g:α->Nat)(h: ∀a,(f a).length<=g a): ∀l:List α,(l.flatMap f).length<=(l.map g).sum
 | []=>OL _
 |a::l=>by
  have h1:=rz f g h l;have b:=h a;rw[PH,OE,OZ,PU];omega
theorem tQ: ∀l:List Lit,Lit.aE l=(l.map Lit.size).sum
 | []=>rfl
 |x::l=>by rw[Lit.aE,tQ l,OZ,PU]
theorem BC{p:Prog}(hs:p.size<=10000000):(cA p).length<=100000000:=by
 have h1:=rz (fun r:aw=>r.body.flatMap fun l=>(named l).map fun t=>(r.head.rel,t,kN l)) aw.size (fun r=>by
  have:=rz (fun l=>(named l).map fun t=>(r.head.rel,t,kN l)) Lit.size (fun l=>by rw[O7];exact jU l) r.body;rw[<-tQ]at this
  unfold aw.size;omega) p.rules
 unfold Prog.size at hs;show(p.rules.flatMap _).length<=_;omega
theorem Kk(hS:fM)(p:Prog)(hb:p.fit)(hs:p.size<=10000000):Pure prog 23 [ag p.c] (ag (sJ p).c):=by
 by_cases y:(dK p).1=0;rotate_left
 .rw[sJ,am y];refine ae ab func23 Z (by decide) ntmps23 Z (by simp) Z ?_;refine gA Z (zp (Ke hS hb y) ?_);refine zE Z Z (fun A=>?_) fun A=>?_
  .cases A
  refine gA Z (zp (c24 p hb) ?_);exact zU Z
 have G:=Aj y;have R:p.rules.length<=1000000000:=hb.2.1;rw[sJ,be (by simpa using y)];refine ae ab func23 Z (by decide) ntmps23 Z (by simp) Z ?_;refine gA Z (zp (Kd hS hb y) ?_);refine zJ Z Z (fun A=>?_) fun A=>?_
 .cases A
 refine gA Z (xJ [] (Kc hS G (BC hs)) Z Z Z Z Z Z Z ?_);rintro r Y n' ⟨m,hR,rfl,rfl,rfl⟩;refine⟨_,rfl,?_⟩;have I:p.rules.map (hZ m)=p.rules.map (uZ p):=QJ fun r J=>B1 G hR J;rw[<-I]
 have x: ∀i,i<p.rules.length->(p.rules.map (hZ m)).getD i ci=hZ m (p.rules.getD i ci):=fun i D=>by
  rw[OC,OH,OD D,OC,OD D];rfl
 have b:(p.rules.map (hZ m)).length=p.rules.length:=O7 _;refine gA Z ?_;refine aM 0 p.rules.length (OS _) (fun i=>⟨[(1,.ptr 0 0),(2,.ptr 1 0),(5,.iv (xn m)),(21,.iv (bV 5 p.rules aw.c)),(22,pI p.rules.length),(23,pI i)],[(0,co (ay p.c)),(1,co (ay eZ.z.c))],2⟩) (fun i=>((p.rules.map (hZ m)).take i).any (fun d=>kw (d.1≠0))=jp) [] (by simp)
  (zW (zK (zK trivial))) fun i D B=>?_
 refine zJ Z Z (fun h1=>?_) fun h1=>?_
 .have h1:i<p.rules.length:=by simpa using h1
  have u:=hb.2.2 _ (j8 h1);have C:=x i h1;refine gA Z (zp (J9 m (p.rules.getD i ci) u.1) ?_);refine zJ Z Z (fun j=>?_) fun j=>?_
  .have j: ¬(hZ m (p.rules.getD i ci)).1=0:=by simpa using j
   rw[lV B (by rw[b];exact h1) (by rw[C];exact decide_eq_true j),C];exact zU Z
  .have j:(hZ m (p.rules.getD i ci)).1=0:=by simpa using j
   refine gA Z ⟨h1,(cC B (by rw[b];exact h1)).2 (by rw[C];simpa using j),[],zW (zK (zK ac))⟩
 .have h1:p.rules.length<=i:=by simpa using h1
  rw[ke (any_none B (by rw[b];exact h1))];exact zU Z
end Go.Proofs.YtllkaddcplhklaaGreatDoor
namespace Go.Proofs.YtllkaddcplhklaaGreatDoor
open Go Go.Al Go.Bo
section
theorem Nz(hS:fM)(p:Prog)(hb:p.fit)(hs:p.size<=10000000)(h0:(sJ p).1=0):bI Tryz.prog 8 [ag p.c] [] (.bh [.ptr 1 0,pI 0]) (bH p 0 []) 2:=by
 refine ax ab Tryz.func8 Z (by decide) Tryz.ntmps8 Z (by simp) ?_;refine gA Z (aA (Kk hS p hb hs) Z Z Z Z Z Z ?_);refine gA Z ?_;refine OF (fun b=>?_) (fun b=>?_)
 .exact absurd h0 (by simpa using b)
 refine gA Z (aA (Kf p (by omega)) Z Z Z Z Z Z ?_);refine gA Z (bj [1,2] (by first|exact .inr Z|exact .inl Z) Z (wk Z Z Z ⟨.of_eq Z,rfl,ac⟩ (KP Z D4 Z ⟨⟨_,rfl,.of_eq Z⟩,Oy Z,rfl,ac⟩) Z))
abbrev yu(p:Prog)(S:List Fact)(l:List (bY Fact)):PV:= .bh [.iv (bV 3 (if kB bq (okF p) S l=0 then c7 bq S l else[]) ef),pI (kB bq (okF p) S l)]
theorem A7{p:Prog}{S:List Fact}{l:List (bY Fact)}(h:kB bq (okF p) S l=0):(((mapOf (bP S l)).map (·.2)).Perm (c7 bq S l))∧sZ bq (c7 bq S l)∧(∀x∈c7 bq S l,x.2.args.length<=1000000000)∧(c7 bq S l).length<=100000000:=by
 have b:=um.1 h;refine⟨?_,mh qK S l,fun x j=>?_,by have:=Cg (c:=bq) S l;omega⟩
 .rw[Qf];have:(Prod.snd ∘ fun x:bY Fact=>(bG x.2,x))=id:=rfl;rw[this,List.map_id];exact kK qK S l
 .have:x.2.args.length<=8:=iH (b.2.1 _ (j3 ((gK qK (a:=x.1) (f:=x.2)).1 j).1));omega
section
variable (p:Prog) (n:Nat) {m:FM} {S:List Fact} (l:List (bY Fact)) (hb:p.aR.length<=1000000000) (hk:dP bG m S) (hS:Go.Bo.jJ bq (okF p) S) (hF: ∀x∈l,x.2.args.length<=1000000000)
include hb hk hS hF
end
end
end Go.Proofs.YtllkaddcplhklaaGreatDoor
