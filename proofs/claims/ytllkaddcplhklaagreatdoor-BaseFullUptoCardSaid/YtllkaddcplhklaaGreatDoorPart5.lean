/-
  What the proofs of the claims need: part 5 of 5.
-/
import Derived.Test.YtllkaddcplhklaaGreatDoorPart4
open And renaming intro→Oz
open ByteArray renaming empty→OB
open Int renaming toNat_natCast→OA
open List renaming all_eq_true→Pc,getElem_map→PQ,length_replicate→Q9,length_take→PF,map_append→OM,mem_cons→OG,mem_map→OZ,mem_nil_iff→Ri,mem_range→PA,mem_singleton→OI,replicate→Qp,take_of_length_le→OP,take_succ_eq_append_getElem→Qz
open Nat renaming le_of_ble_eq_true→Oq,le_refl→OJ,zero_add→OY
set_option maxRecDepth 100000
open Bool renaming false→jp,true→is
open Decidable renaming decide→kw
open Inhabited renaming default→ci
open Option renaming none→io,some→co
open Array renaming getD_eq_getD_getElem?→Ot
open Option.some renaming injEq→Ou
open Nat renaming le_succ→QH
open List renaming getElem?_eq_some_iff→Ov
open Array renaming range→Rq
open Array renaming getElem?_map→QJ
open Option renaming map_some→PC
open Option renaming getD_some→Px
open Array renaming getElem?_eq_getElem→O2
open Nat renaming mul_le_mul_right→OX
open Nat renaming add_mul→Pv
open Array renaming getElem?_append_left→Pa
open List renaming getD_eq_getElem?_getD→Ow
open List renaming getElem?_append_right→OO
open Array renaming getElem?_append_right→QT
open List renaming getElem?_take→Ph
open Array renaming getElem?_toList→O1
open List renaming length_map→O3
open List renaming length_append→Oy
open List renaming append_assoc→OS
open List renaming map_cons→OU
open List renaming nodup_cons→O7
namespace Go.Proofs.YtllkaddcplhklaaGreatDoor
open Go Go.Al Go.Proofs.Tryz Go.Bo
theorem oC(n:Int):Pure prog 9 [pI n] (ag (bY n).c):=by
 refine ai ab func9 Z (by decide) ntmps9 Z (by simp) Z ?_;refine gA Z (lg (.inr Z) Z (iB.Dm 1 [(⟨1,n,OB⟩:c8)] c8.c Z Z (by simp[PV.cF,c7]) (.done (.of_eq (by simp only[PV.dZ,p4,OY];rfl)))))
def pX:Prog:=⟨[⟨yN,[1],⟨0,0⟩⟩],[]⟩
theorem Dz:pX.fit:=⟨by decide,by decide,fun r h=>nomatch h⟩
theorem xy:(s7 pX).1=0:=by decide+kernel
theorem Ae:pX.size<=10000000:=by decide
theorem okX{n:Int}(h1: -1000000<=n)(B:n<=1000000):okF pX (bY n)=is:=by
 refine decide_eq_true ?_;have x:cO .str (mY pX) yN=is:=by decide+kernel
 have y:gZ yN=is:=by decide+kernel
 have A:cD ⟨1,n,OB⟩=0:=by
  unfold cD;simp;omega
 have b:(ey pX yN).types=[1]:=by decide+kernel
 unfold nr;rw[be]
 .rw[am];refine Pc.2 fun j u=>?_;rw[PA]at u;have:j=0:=by have:j<1:=u;omega
  subst this;show kw ((1:Int)=(ey pX yN).types.getD 0 ci)=is;rw[b];rfl
 .rintro(h|h|h)
  .have h:cO .str (mY pX) yN=jp:=h;rw[x]at h;cases h
  .unfold jj bY at h;simp[y,A]at h
  .apply h;show((1:Nat):Int)=((ey pX yN).types.length:Int)
   rw[b];rfl
def l3:List (bP Fact):=[(is,bY 2),(is,bY 1),(jp,bY 2)]
theorem yV:eS aR (okF pX) [] l3=0:=by decide+kernel
theorem Hm:cz aR [] l3=[(is,bY 1)]:=by decide+kernel
theorem Hn:dS aR [] l3=[bY 1]:=by decide+kernel
theorem Ng:c6 aR [bY 1] [bY 2]=[(jp,bY 1),(is,bY 2)]:=by
 have h:aR (bY 1) (bY 2)<0:=by rw[o7,mg];decide
 rw[qx,am h,kM];rfl
theorem NI:j8 pX [] l3= .bf [.iv (bw 3 [(is,bY 1)] bL),pI 0]:=by unfold j8;rw[am yV,Hm,yV]
theorem Ho:iC aR (okF pX) ([],0) l3=([bY 1],1):=by unfold iC;rw[am yV,Hn]
theorem MY(n:Int):zk [bY n]:=fun f b=>by rw[OI.1 b];show 1<=_;decide
theorem Mm(n:Int):qd aR [bY n]:=List.pairwise_singleton _ _
theorem pK{i sz n b:Nat}{es:List (List PV)}(h: ∀e∈es,c7 i sz n e):(AO.row b es).tN i sz n:=h
theorem gB{i sz n:Nat}{p:Prog}{a b:Nat}:(gx p a b).tN i sz n:=⟨ac,ac,ac,ac,ac⟩
theorem da{α:Type}(i sz n b:Nat)(l:List α)(f:α->List IV):(aP b l f).tN i sz n:=pK fun e j=>by
 obtain⟨x,_,rfl⟩:=OZ.1 j;exact DE _ _ _ _
abbrev BU(F:AF)(d i j k:Nat):AS:=⟨(d,.agg [.sl j 0 1 4,.iv (.v (.slice io 0 0))])::F,[(i,co (aP 1 [(1:Int)] iY)),(j,co (.row 4 [[pS yN,.sl i 0 1 1,pI 0,pI 0]]))],k⟩
theorem Ke:To (BU [] 10 0 1 2) ⟨[(10,ag pX.c)],[],2⟩:=by
 refine(To.row (s:=BU [] 10 0 1 2) 0 (fun k=>iY ([(1:Int)].getD k ci)) Z (dG Z) (by simp[AF.oq,PV.cF,c7]) ⟨da _ _ _ _ _ _,pK (by simp[PV.cF,c7]),ac⟩).trans ?_;refine(To.wk (L:=[]) (t:=⟨[(10,.agg [.sl 1 0 1 4,.iv (.v (.slice io 0 0))])],[(1,co (aP 4 pX.aQ Decl.c))],2⟩) (wk Z Z Z (bi ac) (Eb Z (show cy [[pS yN,.iv (.ck 1 1 fun k=>iY ([(1:Int)].getD (0+k) ci)),pI 0,pI 0]] [[pS yN,.iv (bw 1 [(1:Int)] iY),pI 0,pI 0]] from⟨⟨.refl _,.ck Z fun k _=>by rw[OY],.refl _,.refl _,ac⟩,ac⟩) Z ac) Z)).trans ?_;refine(To.row (s:=⟨[(10,.agg [.sl 1 0 1 4,.iv (.v (.slice io 0 0))])],[(1,co (aP 4 pX.aQ Decl.c))],2⟩) 1 (fun k=>Decl.c (pX.aQ.getD k ci)) Z (dG Z) (by simp[AF.oq,PV.cF,c7,pX]) ⟨da _ _ _ _ _ _,ac⟩).trans ?_;exact To.wk (L:=[]) (wk Z Z Z ⟨.agg ⟨.ck Z fun k _=>by rw[OY],.nil _ _,ac⟩,rfl,ac⟩ ac Z)
set_option maxHeartbeats 1000000 in
theorem KF(hS:fU):Pure prog 7 [] (pB is):=by
 have B:=Mq hS pX Dz Ae xy;have j:=Dj [bY 1] [bY 2] (Mm 1) (Mm 2) (MY 1) (MY 2) (by decide) (by decide);rw[Ng]at j
 have b:=rV pX 0 l3 (m:=[]) (S:=[]) (by decide) cX.nil (Go.Bo.gr.nil _ _) (fun x u=>by
  simp only[l3,OG,Ri,or_false]at u
  rcases u with rfl|rfl|rfl<;>(show 1<=_;decide)) (by decide)
 simp only[NI,Ho]at b;refine ai ab func7 Z (by decide) ntmps7 Z (by simp) Z ?_;refine gA Z (sN (t:=⟨[(10,ag pX.c)],[],2⟩) ((To.wk (L:=[]) (t:=BU [] 10 0 1 2) (wk Z Z Z (bi ac) (hR Z Z Z ⟨⟨_,rfl,.of_eq Z⟩,Oq Z,Aa Z,ac⟩) Z)).trans Ke) ?_);refine gA Z (bJ [] (B) Z Z Z Z Z Z Z Z ?_);refine gA Z ?_;refine Oz (fun y=>?_) (fun y=>?_);rotate_left
 .exact absurd y (by decide)
 refine gA Z ?_;refine Oz (fun A=>?_) (fun A=>?_)
 .exact absurd A (by decide)
 refine gA Z (aB (oC 2) Z Z Z Z Z Z ?_);refine gA Z (aB (oC 1) Z Z Z Z Z Z ?_);refine gA Z (aB (oC 2) Z Z Z Z Z Z ?_)
 refine gA Z (sN (t:=⟨[(1,.ptr 3 0),(21,.ptr 3 0),(28,.iv (bw 3 l3 bL))],[(2,co (eW [])),(3,co (gx pX 0 2))],5⟩) (((To.wk (L:=[]) (t:=⟨[(1,.ptr 3 0),(21,.ptr 3 0),(28,.sl 4 0 3 3)],[(2,co (eW [])),(3,co (gx pX 0 2)),(4,co (aP 3 l3 bL))],5⟩) (wk Z Z Z (bi (bi (bi ac))) (hM Z Z Z ⟨⟨_,rfl,.of_eq Z⟩,Oq Z,rfl,(Eb Z (show cy [[PV.kb is,.iv (iS (bY 2).rel),.iv (bw 3 (bY 2).args c8.c)],[PV.kb is,.iv (iS (bY 1).rel),.iv (bw 3 (bY 1).args c8.c)],[pB jp,.iv (iS (bY 2).rel),.iv (bw 3 (bY 2).args c8.c)]] [[pB is,.iv (iS (bY 2).rel),.iv (bw 3 (bY 2).args c8.c)],[pB is,.iv (iS (bY 1).rel),.iv (bw 3 (bY 1).args c8.c)],[pB jp,.iv (iS (bY 2).rel),.iv (bw 3 (bY 2).args c8.c)]] from⟨⟨.kb _,.refl _,.refl _,ac⟩,⟨.kb _,.refl _,.refl _,ac⟩,⟨.refl _,.refl _,.refl _,ac⟩,ac⟩) Z ac)⟩) Z)).trans
  (To.row (s:=⟨[(1,.ptr 3 0),(21,.ptr 3 0),(28,.sl 4 0 3 3)],[(2,co (eW [])),(3,co (gx pX 0 2)),(4,co (aP 3 l3 bL))],5⟩) 4 (fun k=>bL (l3.getD k ci)) Z (dG Z) (by simp[AF.oq,PV.cF,l3]) ⟨ac,gB,da _ _ _ _ _ _,ac⟩)).trans
  (To.wk (L:=[]) (wk Z Z Z (bi (bi ⟨.ck Z (fun k _=>by rw[OY]),rfl,ac⟩)) (hM Z Z Z ⟨⟨_,rfl,.of_eq Z⟩,Oq Z,rfl,ac⟩) Z))) ?_)
 refine gA Z (oW [2,3] b Z Z Z Z Z Z Z ?_);rintro r C D ⟨m1,hk1,rfl,rfl,rfl⟩;refine⟨_,rfl,?_⟩;refine gA Z (aB (oC 1) Z Z Z Z Z Z ?_);refine gA Z (aB (oC 2) Z Z Z Z Z Z ?_)
 refine gA Z (sN (t:=⟨[(1,.ptr 3 0),(3,.iv (bw 3 [((is,bY 1):bP Fact)] bL)),(4,pI 0),(33,bb [bY 1]),(35,bb [bY 2])],[(2,co (eW m1)),(3,co (gx pX 1 2))],7⟩) ((((To.wk (L:=[]) (t:=⟨[(1,.ptr 3 0),(3,.iv (bw 3 [((is,bY 1):bP Fact)] bL)),(4,pI 0),(33,.sl 5 0 1 2),(35,.sl 6 0 1 2)],[(2,co (eW m1)),(3,co (gx pX 1 2)),(5,co (aP 2 [bY 1] Fact.c)),(6,co (aP 2 [bY 2] Fact.c))],7⟩) (wk Z Z Z (bi (bi (bi (bi (bi ac))))) (hM Z Z Z ⟨⟨_,rfl,.of_eq Z⟩,Oq Z,rfl,(hR Z Z Z (hR Z Z Z ac))⟩) Z)).trans
  (To.row (s:=⟨[(1,.ptr 3 0),(3,.iv (bw 3 [((is,bY 1):bP Fact)] bL)),(4,pI 0),(33,.sl 5 0 1 2),(35,.sl 6 0 1 2)],[(2,co (eW m1)),(3,co (gx pX 1 2)),(5,co (aP 2 [bY 1] Fact.c)),(6,co (aP 2 [bY 2] Fact.c))],7⟩) 5 (fun k=>Fact.c ([bY 1].getD k ci)) Z (dG Z) (by simp[AF.oq,PV.cF]) ⟨ac,gB,da _ _ _ _ _ _,da _ _ _ _ _ _,ac⟩)).trans
  (To.wk (L:=[]) (t:=⟨[(1,.ptr 3 0),(3,.iv (bw 3 [((is,bY 1):bP Fact)] bL)),(4,pI 0),(33,bb [bY 1]),(35,.sl 6 0 1 2)],[(2,co (eW m1)),(3,co (gx pX 1 2)),(6,co (aP 2 [bY 2] Fact.c))],7⟩) (wk Z Z Z (bi (bi (bi ⟨.ck Z (fun k _=>by rw[OY]),rfl,bi ac⟩))) (hM Z Z Z ⟨⟨_,rfl,.of_eq Z⟩,Oq Z,rfl,(hR Z Z Z ac)⟩) Z))).trans
  ((To.row (s:=⟨[(1,.ptr 3 0),(3,.iv (bw 3 [((is,bY 1):bP Fact)] bL)),(4,pI 0),(33,bb [bY 1]),(35,.sl 6 0 1 2)],[(2,co (eW m1)),(3,co (gx pX 1 2)),(6,co (aP 2 [bY 2] Fact.c))],7⟩) 6 (fun k=>Fact.c ([bY 2].getD k ci)) Z (dG Z) (by simp[AF.oq,PV.cF]) ⟨ac,gB,da _ _ _ _ _ _,ac⟩).trans
  (To.wk (L:=[]) (wk Z Z Z (bi (bi (bi (bi ⟨.ck Z (fun k _=>by rw[OY]),rfl,ac⟩)))) (hM Z Z Z ⟨⟨_,rfl,.of_eq Z⟩,Oq Z,rfl,ac⟩) Z)))) ?_)
 refine gA Z (aB (j) Z Z Z Z Z Z ?_);refine gA Z ?_;refine Oz (fun g1=>?_) (fun g1=>?_);rotate_left
 .exact absurd g1 (by decide)
 refine gA Z ?_;refine Oz (fun g2=>?_) (fun g2=>?_);rotate_left
 .exact absurd g2 (by decide)
 refine gA Z ?_;refine Oz (fun g3=>?_) (fun g3=>?_);rotate_left
 .exact absurd g3 (by decide)
 refine gA Z (bA ab [] (Pure.tC (oC 1)) Z Z Z Z Z Z Z Z Z Z Z Z (by(repeat' (first|exact ac|exact rfl|exact an.refl _|exact an.bk (by assumption)|apply Oz))<;>first|omega|(simp only[OA];omega)|(simp;done)|(simp;omega)) Z (by(repeat' (first|exact ac|exact rfl|exact an.refl _|exact an.bk (by assumption)|apply Oz))<;>first|omega|(simp only[OA];omega)|(simp;done)|(simp;omega)) ?_);refine gA Z (bA ab [] (Pure.tC (Bv (bY 1) (bY 1) (by show 1<=_;decide))) Z Z Z Z Z Z Z Z Z Z Z Z (by(repeat' (first|exact ac|exact rfl|exact an.refl _|exact an.bk (by assumption)|apply Oz))<;>first|omega|(simp only[OA];omega)|(simp;done)|(simp;omega)) Z (by(repeat' (first|exact ac|exact rfl|exact an.refl _|exact an.bk (by assumption)|apply Oz))<;>first|omega|(simp only[OA];omega)|(simp;done)|(simp;omega)) ?_);refine gA Z ?_;refine Oz (fun g4=>?_) (fun g4=>?_);rotate_left
 .exact absurd g4 (by simp)
 refine gA Z (bA ab [2,3] (zY pX 1 m1) Z Z Z Z Z Z Z Z Z Z Z Z (by(repeat' (first|exact ac|exact rfl|exact an.refl _|exact an.bk (by assumption)|apply Oz))<;>first|omega|(simp only[OA];omega)|(simp;done)|(simp;omega)) Z (by(repeat' (first|exact ac|exact rfl|exact an.refl _|exact an.bk (by assumption)|apply Oz))<;>first|omega|(simp only[OA];omega)|(simp;done)|(simp;omega)) ?_);refine gA Z ?_;refine Oz (fun g5=>?_) (fun g5=>?_);rotate_left
 .exact absurd g5 (by decide)
 refine gA Z (aT (by first|exact .inr Z|exact .inl Z) Z (.of_eq ?_));rfl
theorem AB{p:Prog}{m:FM}{S:List Fact}(hk:cX bn m S)(h:Go.Bo.gr aR (okF p) S)(f:Fact):hasB m f=(kw (f.args.length<=8)&&kw (f∈S)):=by
 unfold hasB;rw[uT hk (fun g b=>gX (h.ok g b))]
theorem Am{p:Prog}{S:List Fact}{l:List (bP Fact)}(h:eS aR (okF p) S l=0):j8 p S l= .bf [.iv (bw 3 (cz aR S l) bL),pI 0]:=by unfold j8;rw[am h,h]
theorem An{p:Prog}{S:List Fact}{l:List (bP Fact)}(h: ¬eS aR (okF p) S l=0):j8 p S l= .bf [.iv (bw 3 [] bL),pI (eS aR (okF p) S l)]:=by unfold j8;rw[be h]
theorem AY{p:Prog}{S:List Fact}{n:Nat}{l:List (bP Fact)}(h:eS aR (okF p) S l=0):iC aR (okF p) (S,n) l=(dS aR S l,n+1):=by unfold iC;rw[am h]
theorem AZ{p:Prog}{S:List Fact}{n:Nat}{l:List (bP Fact)}(h: ¬eS aR (okF p) S l=0):iC aR (okF p) (S,n) l=(S,n):=by unfold iC;rw[be h]
theorem Gp:To (BU [(1,pB is)] 24 0 1 2) ⟨[(24,ag pX.c),(1,pB is)],[],2⟩:=by
 refine(To.row (s:=BU [(1,pB is)] 24 0 1 2) 0 (fun k=>iY ([(1:Int)].getD k ci)) Z (dG Z) (by simp[AF.oq,PV.cF,c7]) ⟨da _ _ _ _ _ _,pK (by simp[PV.cF,c7]),ac⟩).trans ?_;refine(To.wk (L:=[]) (t:=⟨[(24,.agg [.sl 1 0 1 4,.iv (.v (.slice io 0 0))]),(1,pB is)],[(1,co (aP 4 pX.aQ Decl.c))],2⟩) (wk Z Z Z (bi (bi ac)) (Eb Z (show cy [[pS yN,.iv (.ck 1 1 fun k=>iY ([(1:Int)].getD (0+k) ci)),pI 0,pI 0]] [[pS yN,.iv (bw 1 [(1:Int)] iY),pI 0,pI 0]] from⟨⟨.refl _,.ck Z fun k _=>by rw[OY],.refl _,.refl _,ac⟩,ac⟩) Z ac) Z)).trans ?_;refine(To.row (s:=⟨[(24,.agg [.sl 1 0 1 4,.iv (.v (.slice io 0 0))]),(1,pB is)],[(1,co (aP 4 pX.aQ Decl.c))],2⟩) 1 (fun k=>Decl.c (pX.aQ.getD k ci)) Z (dG Z) (by simp[AF.oq,PV.cF,c7,pX]) ⟨da _ _ _ _ _ _,ac⟩).trans ?_;exact To.wk (L:=[]) (wk Z Z Z ⟨.agg ⟨.ck Z fun k _=>by rw[OY],.nil _ _,ac⟩,rfl,bi ac⟩ ac Z)
theorem G3: ∀n:Int, -1<=n->n<=65536->okF pX (bY n)=is:=fun n h1 b=>okX (by omega) (by omega)
theorem Jn{n:Nat}(h:n<=65536):Go.Bo.gr aR (okF pX) (gl n):=⟨mb n,fun f b=>by
 obtain⟨k,hk,rfl⟩:=OZ.1 b;rw[PA]at hk
 exact G3 _ (by omega) (by omega),by rw[o9];exact h⟩
theorem E1(i:Nat): ∀x∈yj i,x.2.args.length<=1000000000:=fun x j=>by
 obtain⟨f,b,rfl⟩:=OZ.1 j;obtain⟨k,hk,rfl⟩:=OZ.1 b;show 1<=_;decide
theorem Nh{i:Nat}(h:i<16):j8 pX (gl (4096*i)) (yj i)= .bf [.iv (bw 3 (yj i) bL),pI 0]∧iC aR (okF pX) (gl (4096*i),i) (yj i)=(gl (4096*(i+1)),i+1):=by
 have h1:=HT G3 h;exact⟨by rw[Am h1,E0],by rw[AY h1,yh]⟩
abbrev yi(i k:Nat):List (bP Fact):=(yj i).take k
theorem Cm{i k:Nat}(h:k<4096):yi i (k+1)=yi i k++ [(is,bY ((i:Int)*4096+(k:Int)))]:=by
 have hl:k<(yj i).length:=by rw[mM];exact h
 unfold yi;rw[Qz hl];congr 2;simp only[yj,PQ,List.getElem_range];rw[show(((4096*i:Nat):Int))=(i:Int)*4096 by omega]
theorem th{i k:Nat}(h:k<=4096):(yi i k).length=k:=by
 unfold yi;rw[PF,mM];omega
abbrev v8:List (bP Fact):=[(is,bY 65536)]
abbrev qv:List (bP Fact):=[(is,bY (-1)),(jp,bY 0),(jp,bY 1),(is,bY 65536)]
abbrev lZ(n:Nat):List (bP Fact):=Qp n bP.z
abbrev H6:List PV:=[pB jp,.iv (.v (.string OB)),.iv (.v (.slice io 0 0))]
theorem Cv(n:Nat):cy (Qp n H6) ((lZ n).map fun x=>(bL x).map .iv):=by
 rw[List.map_replicate]
 induction n with
 |zero=>exact ac
 |succ n ih=>exact⟨⟨.refl _,.refl _,.nil _ _,ac⟩,ih⟩
abbrev tA(F:AF)(H:AH)(m:FM)(n nx:Nat):AS:=⟨(2,.ptr 3 0)::F,(2,co (eW m))::(3,co (gx pX n 2))::H,nx⟩
theorem Mg{l:List (bP Fact)}{m:FM}{i:Nat}:To (tA [(4,pI i),(5,.sl 5 0 l.length 3)] [(5,co (aP 3 l bL))] m i 6) (tA [(4,pI i),(5,.iv (bw 3 l bL))] [] m i 6):=
 (To.row (s:=tA [(4,pI i),(5,.sl 5 0 l.length 3)] [(5,co (aP 3 l bL))] m i 6) 5 (fun k=>bL (l.getD k ci)) Z (dG Z) (by simp[AF.oq,PV.cF]) ⟨ac,gB,da _ _ _ _ _ _,ac⟩).trans
  (To.wk (L:=[]) (wk Z Z Z (bi (bi ⟨.ck Z (fun k _=>by rw[OY]),rfl,ac⟩)) (hM Z Z Z ⟨⟨_,rfl,.of_eq Z⟩,Oq Z,rfl,ac⟩) Z))
theorem Me{l:List (bP Fact)}{m:FM}{i:Nat}:To (tA [(9,.sl 4 0 l.length 3)] [(4,co (aP 3 l bL))] m i 5) (tA [(9,.iv (bw 3 l bL))] [] m i 5):=
 (To.row (s:=tA [(9,.sl 4 0 l.length 3)] [(4,co (aP 3 l bL))] m i 5) 4 (fun k=>bL (l.getD k ci)) Z (dG Z) (by simp[AF.oq,PV.cF]) ⟨ac,gB,da _ _ _ _ _ _,ac⟩).trans
  (To.wk (L:=[]) (wk Z Z Z (bi ⟨.ck Z (fun k _=>by rw[OY]),rfl,ac⟩) (hM Z Z Z ⟨⟨_,rfl,.of_eq Z⟩,Oq Z,rfl,ac⟩) Z))
theorem Kf{l:List (bP Fact)}{m:FM}{i:Nat}:To (tA [(11,pI 3),(13,pI 3),(14,.sl 5 0 l.length 3)] [(5,co (aP 3 l bL))] m i 6) (tA [(11,pI 3),(13,pI 3),(14,.iv (bw 3 l bL))] [] m i 6):=
 (To.row (s:=tA [(11,pI 3),(13,pI 3),(14,.sl 5 0 l.length 3)] [(5,co (aP 3 l bL))] m i 6) 5 (fun k=>bL (l.getD k ci)) Z (dG Z) (by simp[AF.oq,PV.cF]) ⟨ac,gB,da _ _ _ _ _ _,ac⟩).trans
  (To.wk (L:=[]) (wk Z Z Z (bi (bi (bi ⟨.ck Z (fun k _=>by rw[OY]),rfl,ac⟩))) (hM Z Z Z ⟨⟨_,rfl,.of_eq Z⟩,Oq Z,rfl,ac⟩) Z))
theorem xE: ∀x∈v8,x.2.args.length<=1000000000:=fun x b=>by rw[OI.1 b];show 1<=_;decide
theorem BQ: ∀x∈more,x.2.args.length<=1000000000:=fun x b=>by
 simp only[more,OG,Ri,or_false]at b;rcases b with rfl|rfl|rfl|rfl<;>(show 1<=_;decide)
theorem Hl{n:Nat}: ∀x∈lZ n,x.2.args.length<=1000000000:=fun x b=>by rw[List.eq_of_mem_replicate b];show 0<=_;decide
theorem toZ{l:List (bP Fact)}{m:FM}{i:Nat}:To (tA [(11,pI 3),(13,pI 3),(15,.iv (bw 3 qv bL)),(16,pI 0),(99,.ptr 3 0),(100,.sl 6 0 l.length 3)] [(6,co (aP 3 l bL))] m i 7) (tA [(11,pI 3),(13,pI 3),(15,.iv (bw 3 qv bL)),(16,pI 0),(99,.ptr 3 0),(100,.iv (bw 3 l bL))] [] m i 7):=
 (To.row (s:=tA [(11,pI 3),(13,pI 3),(15,.iv (bw 3 qv bL)),(16,pI 0),(99,.ptr 3 0),(100,.sl 6 0 l.length 3)] [(6,co (aP 3 l bL))] m i 7) 6 (fun k=>bL (l.getD k ci)) Z (dG Z) (by simp[AF.oq,PV.cF]) ⟨ac,gB,da _ _ _ _ _ _,ac⟩).trans
  (To.wk (L:=[]) (wk Z Z Z (bi (bi (bi (bi (bi (bi ⟨.ck Z (fun k _=>by rw[OY]),rfl,ac⟩)))))) (hM Z Z Z ⟨⟨_,rfl,.of_eq Z⟩,Oq Z,rfl,ac⟩) Z))
set_option maxHeartbeats 4000000 in
theorem Bx(hS:fU):Pure prog 3 [] (pB is):=by
 have hN:=Mq hS pX Dz Ae xy;refine ai ab func3 Z (by decide) ntmps3 Z (by simp) Z ?_;refine gA Z (aB (KF hS) Z Z Z Z Z Z ?_);refine gA Z (sN (t:=⟨[(24,ag pX.c),(1,pB is)],[],2⟩) ((To.wk (L:=[]) (t:=BU [(1,pB is)] 24 0 1 2) (wk Z Z Z (bi (bi ac)) (hR Z Z Z ⟨⟨_,rfl,.of_eq Z⟩,Oq Z,Aa Z,ac⟩) Z)).trans Gp) ?_);refine gA Z (bJ [] (hN) Z Z Z Z Z Z Z Z ?_);refine gA Z ?_;refine Oz (fun b=>?_) (fun b=>?_)<;>(try(exact absurd b (by decide)))
 refine gA Z ?_;refine Oz (fun b=>?_) (fun b=>?_)<;>(try(exact absurd b (by decide)))
 refine gA Z ?_;refine Oz (fun b=>?_) (fun b=>?_)<;>(try(exact absurd b (by decide)))
 refine gA Z ?_;refine ru 0 16 (by decide) (fun i m=>tA [(4,pI i)] [] m i 4) (fun i m=>cX bn m (gl (4096*i))) ([]:FM) [] cX.nil
  (wk Z Z Z (bi (bi trivial)) (hM Z Z Z ⟨⟨_,rfl,.of_eq Z⟩,Oq Z,rfl,ac⟩) Z) fun i m hi hk=>?_
 refine gA Z ?_;refine Oz (fun g1=>?_) (fun g1=>?_)
 .have g1:i<16:=by have:=of_decide_eq_true g1;omega
  refine gM 7 Z (kY 5 3 Z ?_);refine gA Z ?_;refine ru 0 4096 (by decide) (fun k (_:Unit)=>tA [(4,pI i),(5,.sl 5 0 (yi i k).length 3),(6,pI k)] [(5,co (aP 3 (yi i k) bL))] m i 6) (fun _ _=>True) () [4] ac
   (wk Z Z Z (bi (bi (bi (bi trivial)))) (hM Z Z Z ⟨⟨_,rfl,.of_eq Z⟩,Oq Z,rfl,hR Z Z Z trivial⟩) Z) fun k _ n0 _=>?_
  refine gA Z ?_;refine Oz (fun g2=>?_) (fun g2=>?_)
  .have g2:k<4096:=by have:=of_decide_eq_true g2;omega
   refine gA Z (aB (oC ((i:Int)*4096+(k:Int))) Z Z Z Z Z Z ?_);refine gA Z ⟨g2,(),[7],ac,wk Z Z Z (bi (bi ⟨.row (by rw[th (by omega),th (by omega)]),rfl,bi ac⟩)) (hM Z Z Z ⟨⟨_,rfl,.of_eq Z⟩,Oq Z,rfl,(Eb Z (by rw[Cm g2,OM];exact(cy.refl _).app ⟨⟨.kb _,.refl _,.refl _,ac⟩,ac⟩) Z ac)⟩) Z⟩
  .have g2:k=4096:=by have:=of_decide_eq_false g2;omega
   subst g2;refine gM 2 Z ?_;refine y2 (t:=tA [(4,pI i),(5,.iv (bw 3 (yj i) bL))] [] m i 6) ((To.wk (L:=[]) ?_).trans (Mg (l:=yj i))) ?_
   .refine wk Z Z Z ?_ ?_ ?_
    .exact(bi (bi ⟨.row (by rw[th (OJ _),mM]),rfl,ac⟩))
    .exact(hM Z Z Z ⟨⟨_,rfl,.of_eq Z⟩,Oq Z,rfl,(hR Z (by rw[yi,OP (by rw[mM];exact OJ _)]) Z ac)⟩)
    .rfl
   obtain⟨o1,o2⟩:=Nh g1;have hA:=rV pX i (yj i) (by decide) hk (Jn (by omega)) (E1 i) (by omega);rw[o1,o2]at hA;refine gA Z (oW [2,3] hA Z Z Z Z Z Z Z ?_);rintro r h' n' ⟨m1,x,rfl,rfl,rfl⟩;refine⟨_,rfl,?_⟩;refine gA Z ?_;refine Oz (fun b=>?_) (fun b=>?_)<;>(try(exact absurd b (by decide)))
   refine gA Z ?_;refine Oz (fun b=>?_) (fun b=>?_)<;>(try(exfalso;revert b;simp[mM];done))
   refine gA Z ⟨g1,m1,[],x,wk Z Z Z (bi (bi ac)) (hM Z Z Z ⟨⟨_,rfl,.of_eq Z⟩,Oq Z,rfl,ac⟩) Z⟩
 .have g1:i=16:=by have:=of_decide_eq_false g1;omega
  subst g1;obtain⟨B,A,a0⟩: ∃B,B=gl (4096*16)∧Go.Bo.gr aR (okF pX) B:=⟨_,rfl,Jn (by decide)⟩
  have e1:eS aR (okF pX) B v8=3:=by rw[A];exact G2 G3
  rw[<-A]at hk;have eM:eS aR (okF pX) B more=0:=by rw[A];exact DR G3
  have tM:cz aR B more=qv:=by rw[A];exact uK
  have Y:bY 65536∈dS aR B more:=by rw[A];exact xL.1
  have b0:bY 0∉dS aR B more:=by rw[A];exact xL.2
  have g0:(dS aR B more).length=65536:=by rw[A];exact xK
  obtain⟨j,R,u⟩: ∃j,j=dS aR B more∧Go.Bo.gr aR (okF pX) j:=⟨_,rfl,a0.next mD eM⟩
  rw[<-R]at Y b0 g0;have i0:j8 pX B more= .bf [.iv (bw 3 qv bL),pI 0]:=by rw[Am eM,tM]
  have e0:iC aR (okF pX) (B,16) more=(j,17):=by rw[AY eM,R]
  obtain⟨z,hz⟩: ∃z:Nat,z=4097:=⟨_,rfl⟩
  have eZ:eS aR (okF pX) j (lZ z)=2:=by unfold eS;rw[am (by rw[Q9];omega)]
  have j0:j8 pX j (lZ z)= .bf [.iv (bw 3 [] bL),pI 2]:=by rw[An (by rw[eZ];decide),eZ]
  have f0:iC aR (okF pX) (j,17) (lZ z)=(j,17):=AZ (by rw[eZ];decide);have c0:j8 pX B v8= .bf [.iv (bw 3 [] bL),pI 3]:=by rw[An (by rw[e1];decide),e1]
  have d0:iC aR (okF pX) (B,16) v8=(B,16):=AZ (by rw[e1];decide);have J:=Mr pX 16 v8 (by decide) hk a0 xE;rw[c0]at J;have D:=rV pX 16 v8 (by decide) hk a0 xE (by decide);rw[c0,d0]at D;refine gA Z (aB (oC 65536) Z Z Z Z Z Z ?_);refine gM 5 Z ?_;refine y2 (t:=tA [(9,.iv (bw 3 v8 bL))] [] m 16 5) ((To.wk (L:=[]) ?_).trans (Me (l:=v8))) ?_
  .refine wk Z Z Z ?_ ?_ ?_
   .exact(bi (bi ac))
   .exact(hM Z Z Z ⟨⟨_,rfl,.of_eq Z⟩,Oq Z,rfl,(Eb Z (show cy [[PV.kb is,.iv (iS (bY 65536).rel),.iv (bw 3 (bY 65536).args c8.c)]] [[pB is,.iv (iS (bY 65536).rel),.iv (bw 3 (bY 65536).args c8.c)]] from⟨⟨.kb _,.refl _,.refl _,ac⟩,ac⟩) Z ac)⟩)
   .rfl
  refine gA Z (bJ [2,3] (J) Z Z Z Z Z Z Z Z ?_);refine gM 6 Z ?_;refine ae (L:=[]) (t:=tA [(9,.iv (bw 3 v8 bL)),(11,pI 3)] [] m 16 5) ?_ ?_
  .refine wk Z Z Z ?_ ?_ ?_
   .exact(bi (bi (bi ac)))
   .exact(hM Z Z Z ⟨⟨_,rfl,.of_eq Z⟩,Oq Z,rfl,ac⟩)
   .rfl
  refine gA Z (oW [2,3] D Z Z Z Z Z Z Z ?_);rintro r h' n' ⟨m1,x,rfl,rfl,rfl⟩;refine⟨_,rfl,?_⟩;have x:cX bn m1 B:=x;refine gM 6 Z ?_;refine ae (L:=[]) (t:=tA [(11,pI 3),(13,pI 3)] [] m1 16 5) ?_ ?_
  .refine wk Z Z Z ?_ ?_ ?_
   .exact(bi (bi (bi ac)))
   .exact(hM Z Z Z ⟨⟨_,rfl,.of_eq Z⟩,Oq Z,rfl,ac⟩)
   .rfl
  refine gA Z (aB (oC 65536) Z Z Z Z Z Z ?_);refine gA Z (aB (oC (-1)) Z Z Z Z Z Z ?_);refine gA Z (aB (oC 0) Z Z Z Z Z Z ?_);refine gA Z (aB (oC 1) Z Z Z Z Z Z ?_);refine gM 5 Z ?_;refine y2 (t:=tA [(11,pI 3),(13,pI 3),(14,.iv (bw 3 more bL))] [] m1 16 6) ((To.wk (L:=[]) ?_).trans (Kf (l:=more))) ?_
  .refine wk Z Z Z ?_ ?_ ?_
   .exact(bi (bi (bi (bi ac))))
   .exact(hM Z Z Z ⟨⟨_,rfl,.of_eq Z⟩,Oq Z,rfl,(Eb Z (show cy [[PV.kb is,.iv (iS (bY 65536).rel),.iv (bw 3 (bY 65536).args c8.c)],[PV.kb is,.iv (iS (bY (-1)).rel),.iv (bw 3 (bY (-1)).args c8.c)],[pB jp,.iv (iS (bY 0).rel),.iv (bw 3 (bY 0).args c8.c)],[pB jp,.iv (iS (bY 1).rel),.iv (bw 3 (bY 1).args c8.c)]] [[pB is,.iv (iS (bY 65536).rel),.iv (bw 3 (bY 65536).args c8.c)],[pB is,.iv (iS (bY (-1)).rel),.iv (bw 3 (bY (-1)).args c8.c)],[pB jp,.iv (iS (bY 0).rel),.iv (bw 3 (bY 0).args c8.c)],[pB jp,.iv (iS (bY 1).rel),.iv (bw 3 (bY 1).args c8.c)]] from⟨⟨.kb _,.refl _,.refl _,ac⟩,⟨.kb _,.refl _,.refl _,ac⟩,⟨.refl _,.refl _,.refl _,ac⟩,⟨.refl _,.refl _,.refl _,ac⟩,ac⟩) Z ac)⟩)
   .rfl
  have G:=rV pX 16 more (by decide) x a0 BQ (by decide);rw[i0,e0]at G;refine gA Z (oW [2,3] G Z Z Z Z Z Z Z ?_);rintro r h' n' ⟨m2,C,rfl,rfl,rfl⟩;refine⟨_,rfl,?_⟩;have C:cX bn m2 j:=C;refine gM 6 Z ?_;refine ae (L:=[]) (t:=tA [(11,pI 3),(13,pI 3),(15,.iv (bw 3 qv bL)),(16,pI 0)] [] m2 17 6) ?_ ?_
  .refine wk Z Z Z ?_ ?_ ?_
   .exact(bi (bi (bi (bi (bi ac)))))
   .exact(hM Z Z Z ⟨⟨_,rfl,.of_eq Z⟩,Oq Z,rfl,ac⟩)
   .rfl
  refine gA Z (Eh ab z z Z Z Z Z Z Z Z (by rw[hz];rfl) (by rw[hz];rfl) (by omega) (by omega) (by show 48*z<=_;omega) Z (by decide) (z:=H6) Z (.inr ⟨rfl,rfl⟩) Z ?_);refine gA Z (sN (t:=tA [(11,pI 3),(13,pI 3),(15,.iv (bw 3 qv bL)),(16,pI 0),(99,.ptr 3 0),(100,.iv (bw 3 (lZ z) bL))] [] m2 17 7) ((To.wk (L:=[]) ?_).trans (toZ (l:=lZ z))) ?_)
  .refine wk Z Z Z ?_ ?_ ?_
   .exact(bi (bi (bi (bi (bi (bi ⟨.row (by rw[Q9]),rfl,ac⟩))))))
   .exact(hM Z Z Z ⟨⟨_,rfl,.of_eq Z⟩,Oq Z,rfl,(Eb Z (Cv z) Z ac)⟩)
   .rfl
  have I:=rV pX 17 (lZ z) (by decide) C u Hl (by decide);rw[j0,f0]at I;refine gA Z (oW [2,3] I Z Z Z Z Z Z Z ?_);rintro r h' n' ⟨m3,y,rfl,rfl,rfl⟩;refine⟨_,rfl,?_⟩;have y:cX bn m3 j:=y;refine gM 6 Z ?_;refine ae (L:=[]) (t:=tA [(11,pI 3),(13,pI 3),(15,.iv (bw 3 qv bL)),(16,pI 0),(18,pI 2)] [] m3 17 7) ?_ ?_
  .refine wk Z Z Z ?_ ?_ ?_
   .exact(bi (bi (bi (bi (bi (bi ac))))))
   .exact(hM Z Z Z ⟨⟨_,rfl,.of_eq Z⟩,Oq Z,rfl,ac⟩)
   .rfl
  refine gA Z ?_;refine Oz (fun b=>?_) (fun b=>?_)<;>(try(exact absurd b (by decide)))
  refine gA Z ?_;refine Oz (fun b=>?_) (fun b=>?_)<;>(try(exact absurd b (by decide)))
  refine gA Z ?_;refine Oz (fun b=>?_) (fun b=>?_)<;>(try(exact absurd b (by decide)))
  refine gA Z ?_;refine Oz (fun b=>?_) (fun b=>?_)<;>(try(exact absurd b (by decide)))
  refine gA Z ?_;refine Oz (fun b=>?_) (fun b=>?_)<;>(try(exact absurd b (by decide)))
  have o0:m3.length=j.length:=y.len;have k0:hasB m3 (bY 65536)=is:=by rw[AB y u,decide_eq_true Y];rfl
  have m0:hasB m3 (bY 0)=jp:=by rw[AB y u,decide_eq_false b0];rfl
  have s1:=Mz pX 17 m3 (bY 65536);have s2:=Mz pX 17 m3 (bY 0);rw[k0]at s1;rw[m0]at s2;refine gA Z (bJ [2,3] (iu pX 17 m3) Z Z Z Z Z Z Z Z ?_);refine gA Z ?_;refine Oz (fun b=>?_) (fun b=>?_)<;>(try(exfalso;revert b;simp;omega))
  refine gA Z (bJ [2,3] (zY pX 17 m3) Z Z Z Z Z Z Z Z ?_);refine gA Z ?_;refine Oz (fun b=>?_) (fun b=>?_)<;>(try(exact absurd b (by decide)))
  refine gA Z (aB (oC 65536) Z Z Z Z Z Z ?_);refine gA Z (bJ [2,3] (s1) Z Z Z Z Z Z Z Z ?_);refine gA Z ?_;refine Oz (fun b=>?_) (fun b=>?_)<;>(try(exact absurd b (by decide)))
  refine gA Z (aB (oC 0) Z Z Z Z Z Z ?_);refine gA Z (bJ [2,3] (s2) Z Z Z Z Z Z Z Z ?_);refine gA Z (aT (by first|exact .inr Z|exact .inl Z) Z (.of_eq ?_));rfl
end Go.Proofs.YtllkaddcplhklaaGreatDoor
