/-
  What the proofs of the claims need: part 5 of 5.
-/
import Derived.Test.YtbhphmfbligliaaGreatDoorPart4
open And renaming intro→Tq
open Bool renaming and_eq_true→TZ,and_false→Vy,eq_iff_iff→UN,false_and→Vc,not_eq_false'→Vl,or_eq_true→Vr,true_and→Vo
open ByteArray renaming data→Xi,empty→Tx
open Classical renaming not_not→VO
open Int renaming fdiv_eq_ediv_of_nonneg→UT,le_refl→Vb,ofNat_lt→VL,toNat→VB,toNat_natCast→Tt
open Int.ofNat renaming inj→Xj
open List renaming all_append→Xh,all_eq_true→T7,append_assoc→Tz,append_eq_nil_iff→VN,append_nil→T1,concat_eq_append→Wb,cons_append→TV,countP_le_length→WM,drop_eq_getElem_cons→Vz,drop_of_length_le→WH,drop_zero→Wq,ext_getElem?→VD,flatMap_append→U8,flatMap_cons→T9,flatMap_nil→WB,foldl_cons→Uc,fst_mem_of_mem_zipIdx→VT,getD→Wf,getD_cons_succ→UK,getD_eq_getElem?_getD→Tr,getElem?_append_left→TG,getElem?_append_right→TI,getElem?_drop→Uz,getElem?_eq_getElem→Ts,getElem?_eq_some_iff→Tp,getElem?_map→Tu,getElem?_of_mem→UB,getElem?_take→T4,getElem?_zipIdx→WR,length→Vp,length_append→Tn,length_cons→TO,length_drop→U5,length_eq_zero_iff→UC,length_map→T2,length_nil→UJ,length_pos_iff→UE,length_reverse→Vt,length_singleton→Ui,length_take→TY,map_append→TA,map_congr_left→UX,map_cons→TD,map_map→Ve,map_nil→TX,mem_append→TP,mem_append_left→Ue,mem_append_right→UQ,mem_cons→TQ,mem_cons_of_mem→TH,mem_cons_self→TJ,mem_iff_getElem→Vi,mem_map→UG,mem_of_getElem?→Uv,mem_of_mem_take→UP,mem_range→Vx,mem_singleton→TF,nil_append→T3,nodup_nil→Us,range→Uk,reverse_append→Wj,singleton_append→WN,take_append_drop→Um,take_append_of_le_length→VJ,take_length→Uj,take_of_length_le→TE,take_zero→VI,zipIdx_append→W0
open Nat renaming add_assoc→Ux,add_comm→V6,add_mul→Ug,add_zero→Vd,beq→TR,blt→TU,le_of_ble_eq_true→Tk,le_of_not_lt→UR,le_refl→Tv,le_trans→Uh,lt_succ_iff_lt_or_eq→VE,lt_succ_self→US,mul_le_mul_right→TN,not_lt_zero→Vs,pow_succ→V9,zero_add→TL,zero_le→TB
open Option renaming map_map→Wo,map_some→Ut
open Prod renaming fst→Ur
set_option maxRecDepth 100000
open Bool renaming false→jp,true→is
open Decidable renaming decide→kw
open Inhabited renaming default→co
open Option renaming none→io,some→dl
open Array renaming getD_eq_getD_getElem?→Tl
open Option.some renaming injEq→Tm
open Nat renaming le_succ→Vg
open Array renaming range→Wu
open Array renaming getElem?_map→Vw
open Option renaming getD_some→UI
open Array renaming getElem?_eq_getElem→Uq
open Array renaming append_assoc→V1
open Array renaming getElem?_append_left→T6
open Nat renaming sub_mul→WO
open Array renaming getElem?_append_right→Vu
open Array renaming getElem?_toList→T5
open Nat renaming mod_eq_of_lt→VU
open List renaming getElem?_cons_succ→VH
open Option renaming map_eq_some_iff→Tw
open Array renaming toList_append→VG
namespace Go.Proofs.YtbhphmfbligliaaGreatDoor
open Go Go.Al Go.Proofs.Tryz Go.En
def RQ(p:Prog):List IV:=[bp 4 p.aw Decl.c,bp 5 p.rules ar.c,.v (.int .u32 (bn p)),wM (sT p),bp 1 (bW p) eO]
abbrev jq(p:Prog):IV:= .i7 (RQ p)
theorem CN(p:Prog): ∀n,(yd p n).length<=n
 |0=>Tv _
 |n+1=>Uh (qh _ _ _) (Nat.succ_le_succ (CN p n))
def rO(l:List Lit):Nat:=l.countP fun x=>kw (x.kind=1)
theorem B1{l:List Lit}{i:Nat}(h:i<l.length):rO (l.take (i+1))=rO (l.take i)+if(l.getD i co).kind=1 then 1 else 0:=by
 unfold rO;rw[bc h,List.countP_append,List.countP_singleton];by_cases g:(l.getD i co).kind=1<;>simp[g]
theorem CD(Z:dE)(p:Prog)(hf:p.fit)(hs:p.size<=10000000)(ht:p.ts<=800000000)(hc:(b7 p).1=0):Al.Pure prog 57 [ag p.c] (.aZ [.iv (jq p),pI 0]):=by
 have hm:oy p=(bn p,0):=by rw[oy,am hc]
 have d0:p.aw.length+(p.aw.map fun d=>d.types.length).sum+p.rules.length+(p.rules.map ar.size).sum<=10000000:=hs;have D:=FI Z p hf hs ht;rw[hm]at D;refine ai ab func57 I (by decide) ntmps57 I (by simp) I ?_;refine gA I (aP (D) I I I I I I ?_);refine gA I (Tq (fun g=>absurd (show(!kw ((0:Int)=0))=is from g) (by decide)) (fun g=>?_));refine gA I ?_;refine aG 0 p.aw.length (TB _) (fun i=>⟨[(1,.ptr 0 0),(6,.ptr 3 0),(29,.iv (bp 4 p.aw Decl.c)),(30,pI p.aw.length),(31,pI i)],[(0,dl (az p.c)),(1,dl (cO (yd p i))),(2,dl (aX 1 [0] eO)),(3,dl (.cells [.iv (bp 4 p.aw Decl.c),.iv (bp 5 p.rules ar.c),pV (bn p),.mp 1,.sl 2 0 1 1]))],4⟩) (fun _=>True) [] ac
  (wk I I I (bi (bi (bi (bi (bi trivial))))) (hC I I I (O4 I eJ I (hR I I I ⟨⟨_,rfl,.of_eq I⟩,Tk I,rfl,ac⟩))) I) fun i hi _=>?_
 refine gA I ?_;refine Tq (fun C=>?_) (fun C=>?_)
 .have C:i<p.aw.length:=by simpa using C
  have Y:=CN p i;refine gA I ⟨C,ac,[],wk I I I (bi (bi (bi (bi (bi ac))))) (hC I I I (hM I I I (hR I I I ⟨⟨_,rfl,.of_eq I⟩,Tk I,rfl,ac⟩))) I⟩
 .have C:p.aw.length<=i:=by simpa using C
  have B:i=p.aw.length:=by omega
  subst B;refine gA I ?_;refine aG 0 p.rules.length (TB _) (fun i=>⟨[(6,.ptr 3 0),(45,.iv (bp 5 p.rules ar.c)),(46,pI p.rules.length),(47,pI i)],[(1,dl (cO (sT p))),(3,dl (.cells [.iv (bp 4 p.aw Decl.c),.iv (bp 5 p.rules ar.c),pV (bn p),.mp 1,.sl 4 0 (i+1) 1])),(4,dl (aX 1 (0::(p.rules.take i).map tF) eO))],5⟩) (fun _=>True) [2] ac
   (wk I I I (bi (bi (bi (bi trivial)))) (hM I I I ⟨⟨_,rfl,.of_eq I⟩,Tk I,rfl,hR I I I trivial⟩) I) fun i hi _=>?_
  refine gA I ?_;refine Tq (fun y=>?_) (fun y=>?_)
  .have y:i<p.rules.length:=by simpa using y
   have c0:((p.rules.take i).map tF).length=i:=by rw[T2,TY];omega
   have G:=bc (l:=p.rules) y;have a0:(p.rules.getD i co).body.length<=1000000000:=by
    have u:=kr ar.size p.rules i y;have A:=Lit.aA (p.rules.getD i co).body;have h5:(p.rules.getD i co).size=(p.rules.getD i co).head.ak.length+Lit.an (p.rules.getD i co).body:=rfl;omega
   refine gA I ?_;refine aG 0 (p.rules.getD i co).body.length (TB _) (fun j=>⟨[(6,.ptr 3 0),(11,pI (rO ((p.rules.getD i co).body.take j))),(45,.iv (bp 5 p.rules ar.c)),(46,pI p.rules.length),(47,pI i),(52,.iv (lits (p.rules.getD i co).body)),(53,pI (p.rules.getD i co).body.length),(54,pI j)],[(1,dl (cO (sT p))),(3,dl (.cells [.iv (bp 4 p.aw Decl.c),.iv (bp 5 p.rules ar.c),pV (bn p),.mp 1,.sl 4 0 (i+1) 1])),(4,dl (aX 1 (0::(p.rules.take i).map tF) eO))],6⟩) (fun _=>True) [] ac
    (wk I I I (bi (bi (bi (bi (bi (bi (bi (bi trivial)))))))) (hM I I I ⟨⟨_,rfl,.of_eq I⟩,Tk I,rfl,hR I I I trivial⟩) I) fun j hj _=>?_
   have b0:rO ((p.rules.getD i co).body.take j)<=j:=Uh WM (by rw[TY];omega);refine gA I ?_;refine Tq (fun u=>?_) (fun u=>?_)
   .have u:j<(p.rules.getD i co).body.length:=by simpa using u
    have x:=B1 u;refine gA I ?_;refine Tq (fun A=>?_) (fun A=>?_)
    .have A:((p.rules.getD i co).body.getD j co).kind=1:=of_decide_eq_true A;rw[am A]at x;refine gA I ⟨u,ac,[],wk I I I (bi ⟨.of_eq (by rw[x];rfl),rfl,bi (bi (bi (bi (bi (bi ac)))))⟩) (hM I I I ⟨⟨_,rfl,.of_eq I⟩,Tk I,rfl,hR I I I ac⟩) I⟩
    .have A: ¬((p.rules.getD i co).body.getD j co).kind=1:=of_decide_eq_false A;rw[be A]at x;refine gA I ⟨u,ac,[],wk I I I (bi ⟨.of_eq (by rw[x];rfl),rfl,bi (bi (bi (bi (bi (bi ac)))))⟩) (hM I I I ⟨⟨_,rfl,.of_eq I⟩,Tk I,rfl,hR I I I ac⟩) I⟩
   .have u:(p.rules.getD i co).body.length<=j:=by simpa using u
    have F:j=(p.rules.getD i co).body.length:=by omega
    subst F;have hw:(rO ((p.rules.getD i co).body.take (p.rules.getD i co).body.length):Int)=tF (p.rules.getD i co):=by rw[Uj];rfl
    rw[hw];refine gA I ⟨y,ac,[7],wk I I I (bi (bi (bi (bi ac)))) (hM I I I ⟨⟨_,rfl,.of_eq I⟩,Tk I,rfl,hR I (by rw[G,TA,<-TV,TA];rfl) I ac⟩) I⟩
  .have y:p.rules.length<=i:=by simpa using y
   have B:i=p.rules.length:=by omega
   subst B;rw[Uj];have J:p.rules.length+1=(0::p.rules.map tF).length:=by simp
   rw[J];refine eW 4 (fun k=>eO ((0::p.rules.map tF).getD k co)) I (dq I) (by repeat(first|exact ac|refine⟨ac,?_⟩)) ⟨ac,(by simp[AO.iw,bg,PV.bh]),cX _ _ _ _ _ _,ac⟩ ?_;refine iq I ac (iP (r:= .aZ [.iv (jq p),pI 0]) (.inr I) I (.map 1 I (.cells 3 (RQ p) I (by simp only[PV.ey,qD,TL];rfl) (.done (.of_eq I)))))
theorem zo(j:dE)(p:Prog)(hf:p.fit)(hs:p.size<=10000000)(x:p.ts<=800000000)(hc:(b7 p).1≠0):Al.Pure prog 57 [ag p.c] (.aZ [.iv (.v (.pointer io)),pI 4]):=by
 have u:oy p=(0,4):=by rw[oy,be hc]
 have d:=FI j p hf hs x;rw[u]at d;refine ai ab func57 I (by decide) ntmps57 I (by simp) I ?_;refine gA I (aP (d) I I I I I I ?_);refine gA I ?_;refine Tq (fun zz=>?_) (fun zz=>?_)<;>(try(exact absurd zz (by decide)))
 refine gA I (aN (by first|exact .inr I|exact .inl I) I (.of_eq ?_));rfl
theorem E8{l:List Int}{i:Nat}{f:Int->Bool}(h1:i<l.length)(d:(l.take (i+1)).all f=f (l.getD i co))(j:f (l.getD i co)=jp):l.all f=jp:=by
 rw[<-Um (i+1) l,Xh,d,j];rfl
theorem Q5(p:Prog)(n:cM)(a:Nat)(ha:a<=1000000000)(hp:p.size<=10000000)(hf:n.fact.args.length<=1000000000)(hu:n.up.length<=1000000000):Al.Pure prog 59 [.iv (jq p),ag n.c,pI a] (pB (j3 p n a)):=by
 have B:p.aw.length+(p.aw.map fun d=>d.types.length).sum+p.rules.length+(p.rules.map ar.size).sum<=10000000:=hp;have C:(bW p).length=p.rules.length+1:=by simp[bW]
 have A:=c16 p n.fact (by omega) hf;refine ai ab func59 I (by decide) ntmps59 I (by simp) I ?_;unfold j3;refine gA I ?_;refine Tq (fun g1=>?_) (fun g1=>?_)
 .have g1:n.c8<0:=of_decide_eq_true g1;refine gA I (aN (by first|exact .inr I|exact .inl I) I (.of_eq ?_));rw[decide_eq_false (show¬0<=n.c8 by omega)];rfl
 have g1: ¬n.c8<0:=of_decide_eq_false g1;rw[decide_eq_true (show 0<=n.c8 by omega),Vo];refine gA I ?_;refine Tq (fun g2=>?_) (fun g2=>?_)
 .have g2:n.c8>=(bW p).length:=of_decide_eq_true g2;refine gA I (aN (by first|exact .inr I|exact .inl I) I (.of_eq ?_));rw[decide_eq_false (show¬n.c8<(bW p).length by omega)];rfl
 have g2: ¬n.c8>=(bW p).length:=of_decide_eq_false g2;rw[decide_eq_true (show n.c8<(bW p).length by omega),Vo];refine gA I ?_;refine Tq (fun g3=>?_) (fun g3=>?_)
 .have g3: ¬n.kids=(bW p).getD n.c8.toNat 0:=by simpa using g3
  refine gA I (aN (by first|exact .inr I|exact .inl I) I (.of_eq ?_));rw[decide_eq_false g3];rfl
 have g3:n.kids=(bW p).getD n.c8.toNat 0:=by simpa using g3
 rw[decide_eq_true g3,Vo];refine gA I (ck ab [] (Pure.A6 (A)) I I I I I I I I I I I I (by(repeat' (first|exact ac|exact rfl|exact aj.refl _|exact aj.bk (by assumption)|apply Tq))<;>first|omega|(simp only[Tt];omega)|(simp;done)|(simp;omega)) I (by(repeat' (first|exact ac|exact rfl|exact aj.refl _|exact aj.bk (by assumption)|apply Tq))<;>first|omega|(simp only[Tt];omega)|(simp;done)|(simp;omega)) ?_);refine gA I ?_;refine Tq (fun g4=>?_) (fun g4=>?_)
 .have g4: ¬oF p n.fact=0:=by simpa using g4
  refine gA I (aN (by first|exact .inr I|exact .inl I) I (.of_eq ?_));rw[decide_eq_false g4];rfl
 have g4:oF p n.fact=0:=by simpa using g4
 rw[decide_eq_true g4,Vo];refine gA I ?_;refine aG 0 n.up.length (TB _) (fun i=>⟨[(2,pI a),(46,.iv (bp 1 n.up eO)),(47,pI n.up.length),(48,pI i)],[],1⟩) (fun i=>(n.up.take i).all (kT a)=is) [] I
  (wk I I I (bi (bi (bi (bi trivial)))) trivial I) fun i D hI=>?_
 refine gA I ?_;refine Tq (fun j=>?_) (fun j=>?_)
 .have j:i<n.up.length:=by simpa using j
  have u:(n.up.take (i+1)).all (kT a)=kT a (n.up.getD i co):=by rw[bc j,Xh,hI];simp
  refine gA I ?_;refine Tq (fun x=>?_) (fun x=>?_)
  .have x: ¬n.up.getD i co<1:=of_decide_eq_false x;refine gA I ?_;refine Tq (fun y=>?_) (fun y=>?_)
   .have y:n.up.getD i co>a:=of_decide_eq_true y;refine gA I (aN (by first|exact .inr I|exact .inl I) I (.of_eq ?_));rw[E8 j u (by unfold kT;rw[decide_eq_false (show¬n.up.getD i co<=a by omega),Vy])]
   have y: ¬n.up.getD i co>a:=of_decide_eq_false y;refine gA I ⟨j,u.trans (by unfold kT;rw[decide_eq_true (show 1<=n.up.getD i co by omega),decide_eq_true (show n.up.getD i co<=a by omega)];rfl),[],wk I I I (bi (bi (bi (bi ac)))) ac I⟩
  .have x:n.up.getD i co<1:=of_decide_eq_true (x.trans I);refine gA I (aN (by first|exact .inr I|exact .inl I) I (.of_eq ?_));rw[E8 j u (by unfold kT;rw[decide_eq_false (show¬1<=n.up.getD i co by omega)];rfl)]
 .have j:n.up.length<=i:=by simpa using j
  rw[TE j]at hI;refine gA I (aN (by first|exact .inr I|exact .inl I) I (.of_eq ?_));rw[hI]
def pU8(n:Int):PV:= .iv (.v (.int .u8 n))
theorem Oq(c:List IV):Al.Pure prog 64 [.iv (.oj 68 (.agg c))] (pU8 1):=by
 refine ai ab func64 I (by decide) ntmps64 I (by simp) I ?_;refine gA I (bF I (eR (xz I I (by intro d h;cases h) I) I) ?_);rintro t rfl;refine gA I (aN (by first|exact .inr I|exact .inl I) I (.of_eq ?_));rfl
theorem Ot(c:List IV):Al.Pure prog 64 [.iv (.oj 79 (.agg c))] (pU8 2):=by
 refine ai ab func64 I (by decide) ntmps64 I (by simp) I ?_;refine gA I (bF I (eR (El I I (by intro d h;cases h) (by decide) (fun _=>rfl) I) I) ?_);rintro t rfl;refine gA I (bF I (eR (xz I I (by intro d h;cases h) I) I) ?_);rintro t rfl;refine gA I (aN (by first|exact .inr I|exact .inl I) I (.of_eq ?_));rfl
def dF(l:List cM):IV:=bp 5 l cM.c
theorem uX{α:Type}[Inhabited α]{l:List α}{i:Nat}(h:i<l.length):l.getD i co∈l:=by
 simp[Wf,Ts h]
theorem nU(l:List du):(cE l).length=l.length:=by simp[cE]
theorem BD{l:List du}{i:Nat}(h:i<l.length):cE (l.take (i+1))=cE (l.take i)++ [(l.getD i co).vP i]:=by
 have d:(l.take i).length=i:=by rw[TY];omega
 rw[bc h,cE,W0,TA,d,TL];rfl
theorem JN(L:List du)(m:Nat)(hm:m<=1000000000)(hL:L.length<=1000000000)(G: ∀x∈L,x.kids.length<=1000000000):Al.Pure prog 367 [ag [bp 4 L du.c],pI m] (.iv (dF (cE (L.take (m+1))))):=by
 refine ai ab func367 I (by decide) ntmps367 I (by simp) I ?_;refine gA I (bF I (eR (qK ab I I I I I I (m:=(L.take (m+1)).length) (by rw[TY];omega) (by rw[TY];omega)) I) ?_);rintro t rfl;have hK: ∀k,k<(L.take (m+1)).length->du.c (L.getD k co)=du.c ((L.take (m+1)).getD k co):=by
  intro k G;congr 1;rw[TY]at G;simp[Wf,T4,show k<m+1 by omega]
 have J: ∀x∈L.take (m+1),x.kids.length<=1000000000:=fun x hx=>G x (UP hx);have c0:(L.take (m+1)).length<=1000000000:=by rw[TY];omega
 generalize b0:L.take (m+1)=K at*
 refine gA I ?_;refine jC 5 5 I ?_;refine aG 0 K.length (TB _) (fun i=>⟨[(5,.sl 2 0 i 5),(20,.iv (bp 4 K du.c)),(21,pI K.length),(22,pI i)],[(2,dl (aX 5 (cE (K.take i)) cM.c))],3⟩) (fun _=>True) [1] ac
  (wk I I I (bi ⟨.bU I hK,rfl,bi (bi trivial)⟩) (hR I I I trivial) I) fun i hi _=>?_
 refine gA I ?_;refine Tq (fun y=>?_) (fun y=>?_)
 .have y:i<K.length:=by simpa using y
  have Y:(K.take i).length=i:=by rw[TY];omega
  have f0:(cE (K.take i)).length=i:=by rw[nU,Y]
  have Z:=BD y;have e0:(K.getD i co).kids.length<=1000000000:=J _ (uX y);refine gA I ?_;refine fm 4 4 1 I I ?_;refine aG 0 (K.getD i co).kids.length (TB _) (fun j=>⟨[(5,.sl 2 0 i 5),(6,pI i),(8,.ptr 4 0),(20,.iv (bp 4 K du.c)),(21,pI K.length),(22,pI i),(36,.iv (bp 1 (K.getD i co).kids eO)),(37,pI (K.getD i co).kids.length),(38,pI j)],[(2,dl (aX 5 (cE (K.take i)) cM.c)),(4,dl (.cells [pS (K.getD i co).fact.rel,.iv (bp 3 (K.getD i co).fact.args ei.c),pI (K.getD i co).c8,pI (K.getD i co).kids.length,.sl 6 0 j 1])),(6,dl (aX 1 (((K.getD i co).kids.take j).map (qU i)) eO))],7⟩) (fun _=>True) [5] ac
   (wk I I I (bi (bi (bi (bi (bi (bi (bi (bi (bi trivial))))))))) (hR I I I ⟨⟨_,rfl,.of_eq I⟩,Tk I,rfl,hR I I I trivial⟩) I) fun j hj _=>?_
  refine gA I ?_;refine Tq (fun d=>?_) (fun d=>?_)
  .have d:j<(K.getD i co).kids.length:=by simpa using d
   have d0:(((K.getD i co).kids.take j).map (qU i)).length=j:=by rw[T2,TY];omega
   have a0:=bc (l:=(K.getD i co).kids) d;have C: ∀u,qU i ((K.getD i co).kids.getD j co)=u->(((K.getD i co).kids.take (j+1)).map (qU i))=((K.getD i co).kids.take j).map (qU i)++ [u]:=fun u hu=>by rw[a0,TA,<-hu];rfl
   generalize((K.getD i co).kids.take j).map (qU i)=R at*
   refine gA I ?_;refine Tq (fun A=>?_) (fun A=>?_)
   .have A:(K.getD i co).kids.getD j co>=0:=of_decide_eq_true A;refine gA I ?_;refine Tq (fun B=>?_) (fun B=>?_)
    .have B:(K.getD i co).kids.getD j co<i:=of_decide_eq_true B;have e:=C (i-(K.getD i co).kids.getD j co) (am ⟨A,B⟩);refine gA I ⟨d,ac,[8],wk I I I (bi (bi (bi (bi (bi (bi (bi (bi (bi ac))))))))) (hR I I I ⟨⟨_,rfl,.of_eq I⟩,Tk I,rfl,hR I (by rw[e,TA];rfl) I ac⟩) I⟩
    .have B: ¬(K.getD i co).kids.getD j co<i:=of_decide_eq_false B;have e:=C 0 (be fun h=>B h.2);refine gA I ⟨d,ac,[8],wk I I I (bi (bi (bi (bi (bi (bi (bi (bi (bi ac))))))))) (hR I I I ⟨⟨_,rfl,.of_eq I⟩,Tk I,rfl,hR I (by rw[e,TA];rfl) I ac⟩) I⟩
   .have A: ¬(K.getD i co).kids.getD j co>=0:=of_decide_eq_false (A.trans I);have e:=C 0 (be fun h=>A h.1);refine gA I ⟨d,ac,[8],wk I I I (bi (bi (bi (bi (bi (bi (bi (bi (bi ac))))))))) (hR I I I ⟨⟨_,rfl,.of_eq I⟩,Tk I,rfl,hR I (by rw[e,TA];rfl) I ac⟩) I⟩
  .have d:(K.getD i co).kids.length<=j:=by simpa using d
   have F:j=(K.getD i co).kids.length:=by omega
   subst F;rw[Uj];refine eW 6 (fun k=>eO (((K.getD i co).kids.map (qU i)).getD k co)) I (dq I) (by repeat(first|exact ac|refine⟨ac,?_⟩)) ⟨cX _ _ _ _ _ _,(by simp[AO.iw,bg,PV.bh]),cX _ _ _ _ _ _,ac⟩ ?_;refine gA I ⟨y,ac,[8],wk I I I (bi (bi (bi (bi ac)))) (hR I (by rw[Z,TA];refine congrArg _ ?_;simp only[List.drop,List.take,TL,TD,TX,cM.c,du.vP,bp,T2]) I ac) I⟩
 .have y:K.length<=i:=by simpa using y
  have D:i=K.length:=by omega
  subst D;rw[Uj];refine gA I (eA (by first|exact .inr I|exact .inl I) I I (rfl) (by rw[nU]))
def HX(i:Nat)(S:List Tree):PV:=match S with
 | []=> .sl i 1 0 4
 |x::r=> .sl i 0 (r.length+1) 4
def EW(g:Tree)(S:List Tree):AO:=match S with
 | []=> .row 4 [g.c.map .iv]
 |x::r=>aX 4 (x::r) Tree.c
theorem pW(σ:Nat->Nat)(i:Nat)(S:List Tree):(HX i S).bZ σ=HX (σ i) S:=by cases S<;>rfl
theorem JB(σ:Nat->Nat)(g:Tree)(S:List Tree):(EW g S).bZ σ=EW g S:=by
 cases S with
 |nil=>exact bL (l:=[g]) (f:=Tree.c) σ
 |cons x r=>exact bL σ
theorem nN{n i:Nat}(h:TU i n=is)(S:List Tree):(HX i S).low n=is:=by cases S<;>exact h
theorem JC(n:Nat)(g:Tree)(S:List Tree):(EW g S).low n:=by
 cases S with
 |nil=>exact cQ (l:=[g]) (f:=Tree.c) n
 |cons x r=>exact cQ n
theorem xR{i:Nat}{S:List Tree}(h:S≠ []):HX i S= .sl i 0 S.length 4:=by
 cases S with
 |nil=>exact absurd I h
 |cons=>rfl
theorem xS{g:Tree}{S:List Tree}(h:S≠ []):EW g S=aX 4 S Tree.c:=by
 cases S with
 |nil=>exact absurd I h
 |cons=>rfl
theorem FA(u:List Tree)(b:Tree):((u++ [b]).map fun x=>(Tree.c x).map PV.iv)[0+((((u.length+1:Nat):Int)-1).toNat)]? =dl (b.c.map .iv):=by
 rw[TL,show(((u.length+1:Nat):Int)-1).toNat=u.length by omega];simp
theorem JA(i:Nat)(u:List Tree):(u.length=0∧HX i u= .sl i 1 0 4)∨(0<u.length∧HX i u= .sl i 0 u.length 4):=by
 cases u with
 |nil=>exact .inl ⟨rfl,rfl⟩
 |cons x r=>exact .inr ⟨by simp,rfl⟩
theorem Cu(u:List Tree)(b:Tree):dK (aX 4 (u++ [b]) Tree.c) (EW b u):=by
 cases u with
 |nil=>exact .of_eq I
 |cons x r=>
  have e:EW b (x::r)= .row 4 (((x::r++ [b]).map fun y=>(Tree.c y).map PV.iv).take (x::r).length):=by
   rw[<-List.map_take,List.take_left];rfl
  rw[e];exact .take
theorem O3{h r:AH}{σ:Nat->Nat}{i n:Nat}{o:AO}{g:Tree}{S:List Tree}(ho:h.get (σ i)=dl o)(he:dK o (EW g S))(hi:TU i n=is)(hr:mH n σ h r):mH n σ h ((i,dl (EW g S))::r):=
 ⟨⟨_,ho,by rw[JB];exact he⟩,Tk hi,JC n g S,hr⟩
theorem r6{sz:Nat}{es:List (List PV)}{e j:List PV}(h:fR e j):dK (.row sz (es++ [e])) (.row sz (es++ [j])):=by
 refine dK.MP (by simp) fun k a b d hb=>?_;by_cases u:k<es.length
 .rw[TG u]at d hb;rw[d]at hb;cases hb;exact .refl _
 .rw[TI (by omega)]at d hb;cases hj:k-es.length with
  |zero=>rw[hj]at d hb;cases d;cases hb;exact h
  |succ n=>rw[hj]at d;simp at d
theorem Rw{n i:Nat}{σ:Nat->Nat}{h r:AH}{cs:List PV}{d:Option TypeId}{c:List IV}(ho:h.get (σ i)=dl (.cells cs d))(he:fR cs (c.map .iv))(hi:TU i n=is)(hr:mH n σ h r):mH n σ h ((i,dl (az c))::r):=
 ⟨⟨_,ho,by rw[vc];exact .trans (.Ln cs d) (.cells he)⟩,Tk hi,n8 n c,hr⟩
theorem F1{α:Type}[Inhabited α](l:List α)(k c:Nat)(hc:c<(l.take k).length):(l.take k).reverse.take (c+1)=(l.take k).reverse.take c++ [l.getD ((l.take k).length-1-c) co]:=by
 have d:c<(l.take k).reverse.length:=by simpa using hc
 rw[bc d];congr 2;have j:(l.take k).length<=k:=by rw[TY];omega
 simp only[Wf];rw[List.getElem?_reverse hc,T4,am (by omega)]
theorem Tree.Rp(x:Tree):fR (x.c.map .iv) (x.c1.map .iv):=⟨.refl _,.refl _,.refl _,.iv (Ff _),ac⟩
structure HP (t:Tree) (m:Nat) (O:List cM) (S:List Tree):Prop where
 eq:(O++Tree.fw S.reverse).take (m+1)=t.pre.take (m+1)
 len:O.length<=m+1
 sz:O.length+Tree.an S<=t.size
theorem qX: ∀l:List Tree,Tree.an l.reverse=Tree.an l
 | []=>rfl
 |e::r=>by rw[List.reverse_cons,Tree.fu,qX r,Tree.an,Tree.an,Tree.an];omega
theorem HP.start(t:Tree)(m:Nat):HP t m [] [t]:=⟨by simp[Tree.fw],by simp,by simp[Tree.an]⟩
theorem HP.SE{t:Tree}{m:Nat}{O:List cM}(h:HP t m O []):O=t.pre.take (m+1):=by
 have d:=h.eq;rw[List.reverse_nil,Tree.fw,T1,TE h.len]at d;exact d
theorem HP.SD{t:Tree}{m:Nat}{O:List cM}{S:List Tree}(h:HP t m O S)(hm: ¬O.length<=m):O=t.pre.take (m+1):=by
 have d:=h.eq;rw[VJ (by omega),TE h.len]at d;exact d
theorem HP.step{t:Tree}{m:Nat}{O:List cM}{u:List Tree}{x:Tree}(h:HP t m O (u++ [x]))(hm:O.length<=m):HP t m (O++ [x.vP]) (u++(x.kids.take (m+1)).reverse):=by
 refine⟨?_,by rw[Tn,Ui];omega,?_⟩
 .have j:=h.eq;rw[Wj,List.reverse_singleton,WN,Tree.fw,Tree.OJ,TV]at j;rw[<-j,Wj,List.reverse_reverse,Tree.mP,Tz,WN];by_cases B:x.kids.length<=m+1
  .rw[TE B]
  .have e:Tree.fw x.kids=Tree.fw (x.kids.take (m+1))++Tree.fw (x.kids.drop (m+1)):=by rw[<-Tree.mP,Um]
   have C:m+1<=(Tree.fw (x.kids.take (m+1))).length:=by
    have:=Tree.aA (x.kids.take (m+1));rw[Tree.qj];rw[TY]at this;omega
   have key: ∀a b c:List cM,m+1<=a.length->(O++x.vP::(a++b)).take (m+1)=(O++x.vP::(a++c)).take (m+1):=by
    intro a b c F;have d: ∀z,O++x.vP::(a++z)=(O++x.vP::a)++z:=fun z=>by simp
    have y:m+1<=(O++x.vP::a).length:=by simp;omega
    rw[d,d,VJ y,VJ y]
   rw[e,Tz];exact key _ _ _ C
 .have A:=h.sz;rw[Tree.fu] at*
  have e:Tree.an x.kids=Tree.an (x.kids.take (m+1))+Tree.an (x.kids.drop (m+1)):=by rw[<-Tree.fu,Um]
  have D:=x.size_eq;rw[Tree.an,Tree.an]at A;rw[qX,Tn,Ui];omega
theorem JH(t:Tree)(m:Nat)(hm:m<=1000000000)(ht:t.size<=1000000000):Al.Pure prog 366 [ag t.c,pI m] (.iv (dF (t.pre.take (m+1)))):=by
 refine ai ab func366 I (by decide) ntmps366 I (by simp) I ?_;refine gA I ?_;refine jC 5 5 I ?_;refine lA (σ:={v:List cM×List Tree×Tree//HP t m v.1 v.2.1})
  (fun v=>⟨[(1,pI m),(5,.sl 3 0 v.1.1.length 5),(6,HX 4 v.1.2.1)],[(3,dl (aX 5 v.1.1 cM.c)),(4,dl (EW v.1.2.2 v.1.2.1))],5⟩) (fun v=>Tree.an v.1.2.1) ⟨([],[t],t),HP.start t m⟩ [2,1]
  (wk I I I (bi (bi (bi trivial))) (hR I I I (O3 I (.of_eq I) I trivial)) I) fun v=>?_
 obtain⟨⟨O,S,g⟩,F⟩:=v;have a0:=F.sz;have Z:=F.len;have b0:=Tree.aA S;dsimp only at F a0 Z b0 ⊢;rcases S.eq_nil_or_concat with rfl|⟨u,x,rfl⟩
 .have hf:=F.SE;show GO prog _ _ _ ⟨[(1,pI m),(5,.sl 3 0 O.length 5),(6,.sl 4 1 0 4)],[(3,dl (aX 5 O cM.c)),(4,dl (.row 4 [g.c.map .iv]))],5⟩;rw[<-hf];refine gA I ?_;refine Tq (fun zz=>?_) (fun zz=>?_)<;>(try(exact absurd zz (by decide)))
  refine gA I (eA (by first|exact .inr I|exact .inl I) I I (rfl) (rfl))
 rw[Wb] at*
 have Y:u++ [x]≠ []:=by simp
 have i0:O.length<=1000000000:=by omega
 have D:=fun h=>F.step (u:=u) (x:=x) h;have d0:=fun h=>F.SD h;rw[xR Y,xS Y,Tn,Ui] at*
 refine gA I ?_;refine Tq (fun zz=>?_) (fun zz=>?_)<;>(try(have h9:=of_decide_eq_false (zz.trans I);omega))
 refine gA I ?_;refine Tq (fun g2=>?_) (fun g2=>?_);rotate_left
 .have g2: ¬O.length<=m:=by have:=of_decide_eq_false g2;omega
  rw[<-d0 g2];refine gA I (eA (by first|exact .inr I|exact .inl I) I I (rfl) (rfl))
 have g2:O.length<=m:=by have:=of_decide_eq_true g2;omega
 have l0:x.kids.length<=1000000000:=by
  have h1:=x.size_eq;have h2:=Tree.aA x.kids;have h3:Tree.an (u++ [x])=Tree.an u+(x.size+0):=by rw[Tree.fu];rfl
  omega
 obtain⟨d,e0⟩: ∃d:Nat,d=min x.kids.length (m+1):=⟨_,rfl⟩
 have J:(min (x.kids.length:Int) ((m:Int)+1))=(d:Int):=by omega
 refine gM 2 I (go_cut 4 (fun(_:Unit)=>⟨[(1,pI m),(5,.sl 6 0 (O.length+1) 5),(6,HX 7 u),(7,.ptr 5 0),(8,pI ((d:Int)-1))],[(5,dl (az x.c1)),(6,dl (aX 5 (O++ [x.vP]) cM.c)),(7,dl (EW x u))],8⟩) I ?_ ?_)
 .refine gM 6 I (ma ab I I I I I (FA u x) I I ?_);rcases JA 4 u with hc|hc
  .refine gA I (tk ab u.length I I I I I I I (by omega) (by omega) (by omega) (.inl ⟨hc.1,rfl⟩) I ?_);refine gA I (kR () [5,7,4] ?_);exact wk I I I ⟨.refl _,rfl,.refl _,rfl,.of_eq (by rw[pW];exact hc.2.symm),nN I u,.refl _,rfl,.of_eq (by rw[J];rfl),rfl,ac⟩
    (Rw I x.Rp I ⟨⟨_,rfl,by rw[bL,aX,TA];exact r6 ⟨.refl _,.refl _,.refl _,.refl _,.nil _ _,ac⟩⟩,Tk I,cQ _,O3 I (Cu u x) I trivial⟩) I
  .refine gA I (tk ab u.length I I I I I I I (by omega) (by omega) (by omega) (.inr ⟨hc.1,rfl⟩) I ?_);refine gA I (kR () [5,7,4] ?_);exact wk I I I ⟨.refl _,rfl,.refl _,rfl,.of_eq (by rw[pW];exact hc.2.symm),nN I u,.refl _,rfl,.of_eq (by rw[J];rfl),rfl,ac⟩
    (Rw I x.Rp I ⟨⟨_,rfl,by rw[bL,aX,TA];exact r6 ⟨.refl _,.refl _,.refl _,.refl _,.nil _ _,ac⟩⟩,Tk I,cQ _,O3 I (Cu u x) I trivial⟩) I
 intro _;have C:(x.kids.take (m+1)).length=d:=by rw[TY,e0,Nat.min_comm]
 have y:=F1 x.kids (m+1);rw[C]at y;have D:=D g2;have f0:(x.kids.take (m+1)).reverse.take d=(x.kids.take (m+1)).reverse:=TE (by rw[Vt,C];exact Tv _);have g0: ∀c,((x.kids.take (m+1)).reverse.take c).length<=d:=fun c=>by rw[TY,Vt,C];omega
 have k0:Tree.an (x.kids.take (m+1)).reverse<=Tree.an x.kids:=by
  rw[qX];have e:Tree.an x.kids=Tree.an (x.kids.take (m+1))+Tree.an (x.kids.drop (m+1)):=by rw[<-Tree.fu,Um]
  omega
 generalize(x.kids.take (m+1)).reverse=W at*
 refine gA I ?_;refine aG 0 d (TB _) (fun c=>⟨[(1,pI m),(5,.sl 6 0 (O.length+1) 5),(6,HX 8 (u++W.take c)),(7,.ptr 5 0),(8,pI ((d:Int)-1-c))],[(5,dl (az x.c1)),(6,dl (aX 5 (O++ [x.vP]) cM.c)),(8,dl (EW x (u++W.take c)))],9⟩) (fun _=>True) [7] ac
  (wk I I I ⟨.refl _,rfl,.refl _,rfl,.of_eq (by rw[VI,T1,pW];rfl),nN I _,.refl _,rfl,.of_eq (congrArg pI (by omega)),rfl,ac⟩
   (Rw I (.refl _) I (hR I I I (O3 I (.of_eq (by rw[VI,T1])) I trivial))) I) fun c hc _=>?_
 refine gA I ?_;refine Tq (fun g3=>?_) (fun g3=>?_)
 .have g3:c<d:=by have:=of_decide_eq_true g3;omega
  have y:=y c g3;have m0:=g0 c;have G:((d:Int)-1-(c:Int)).toNat=d-1-c:=by omega
  obtain⟨V,hV⟩: ∃V,V=u++W.take c:=⟨_,rfl⟩
  have j:u++W.take (c+1)=V++ [x.kids.getD (d-1-c) co]:=by rw[y,hV,Tz]
  have j0:V.length<=2000000000:=by rw[hV,Tn];omega
  rw[<-hV];have A:V++ [x.kids.getD (d-1-c) co]≠ []:=by simp
  by_cases B:V=[]
  .subst B;simp only[HX,EW];refine gA I (tm ab I I I I I I I I I (by simp) (by simp) (fe I) I ?_);refine gA I ?_
   exact⟨g3,ac,[10],wk I I I ⟨.refl _,rfl,.refl _,rfl,.of_eq (by rw[j];rfl),nN I _,.refl _,rfl,.of_eq (congrArg pI (by omega)),rfl,ac⟩
    (Rw I (.refl _) I (hR I I I (O3 I (.of_eq (by rw[j,G];rfl)) I ac))) I⟩
  .rw[xR B,xS B];refine gA I ?_
   exact⟨g3,ac,[10],wk I I I ⟨.refl _,rfl,.refl _,rfl,.of_eq (by rw[j,pW,xR A,Tn];rfl),nN I _,.refl _,rfl,.of_eq (congrArg pI (by omega)),rfl,ac⟩
    (Rw I (.refl _) I (hR I I I (O3 I (.of_eq (by rw[j,xS A,aX,TA,G];rfl)) I ac))) I⟩
 .have g3: ¬c<d:=by have:=of_decide_eq_false g3;omega
  have c0:c=d:=by omega
  subst c0;rw[f0];refine gA I ?_;refine⟨⟨(O++ [x.vP],u++W,x),D⟩,[6,8],?_,wk I I I ⟨.refl _,rfl,.of_eq (by rw[Tn];rfl),rfl,.of_eq (by rw[pW];rfl),nN I _,ac⟩ (hR I I I (O3 I (.refl _) I ac)) I⟩;show Tree.an (u++W)<Tree.an (u++ [x]);have h3:=x.size_eq;rw[Tree.fu,Tree.fu,Tree.an,Tree.an];omega
end Go.Proofs.YtbhphmfbligliaaGreatDoor
namespace Go.Proofs.YtbhphmfbligliaaGreatDoor
open Go Go.Al Go.En
theorem uN{V:Type}{m:List ((KC.str).K×V)}{s t:ae}{v:V}:cZ .str (cJ .str m s v) t=(kw (s=t)||cZ .str m t):=by
 rw[UN,Vr,nj,nj,decide_eq_true_eq];by_cases h:s∈m.map Ur
 .rw[l5 h];exact⟨.inr,fun g=>g.elim (fun e=>e▸h) id⟩
 .rw[cV h,TP,TF];exact⟨fun g=>g.elim .inr (fun e=> .inl e.symm),fun g=>g.elim (fun e=> .inr e.symm) .inl⟩
theorem z8{p:Prog}(h:(p.aw.map Decl.name).Nodup): ∀(n:Nat),n<=p.aw.length-> ∀i,i<n->cK .str (yd p n) (p.aw.getD i co).name 0=(i:Int)
 |0,_,i,hi=>absurd hi (Vs _)
 |n+1,hn,i,hi=>by
  show cK .str (cJ .str (yd p n) _ (n:Int)) _ 0=_;rw[eI];by_cases e:i=n
  .subst e;rw[am I]
  .have d:i<n:=by omega
   have j: ¬(p.aw.getD n co).name=(p.aw.getD i co).name:=fun y=>by
    have u:(p.aw.map Decl.name)[n]? =dl (p.aw.getD n co).name:=by rw[Tu,Tr,Ts (by omega)];rfl
    have x:(p.aw.map Decl.name)[i]? =dl (p.aw.getD i co).name:=by rw[Tu,Tr,Ts (by omega)];rfl
    rw[y,<-x]at u;have:=(List.getElem?_inj (by simp;omega) h).1 u;omega
   rw[be j];exact z8 h n (by omega) i d
theorem Dq: ∀(l:List Decl) (m:DM) (s:ae),cZ .str (l.foldl c9 m) s=is->cZ .str m s=jp-> ∃i,i<l.length∧(l.getD i co).name=s∧cK .str (l.foldl c9 m) s Decl.z=l.getD i co
 | [],m,s,h,h2=>by rw[List.foldl_nil]at h;rw[h]at h2;cases h2
 |d::l,m,s,h,h2=>by
  rw[Uc]at h ⊢;by_cases e:d.name=s
  .refine⟨0,by simp,e,?_⟩;have j:c9 m d=cJ .str m d.name d:=by unfold c9;rw[e,h2];rfl
   have key: ∀(l:List Decl) (m:DM),cZ .str m s=is->cK .str (l.foldl c9 m) s Decl.z=cK .str m s Decl.z:=by
    intro l
    induction l with
    |nil=>exact fun _ _=>rfl
    |cons x l ih=>
     intro m j;rw[Uc];by_cases y:cZ .str m x.name=is
     .rw[show c9 m x=m by unfold c9;rw[am y]];exact ih m j
     .have u: ¬x.name=s:=fun e=>y (e▸j)
      rw[show c9 m x=cJ .str m x.name x by unfold c9;rw[be y]];rw[ih _ (by rw[uN];simp[u,j]),eI,be u]
   rw[key l _ (by rw[j,e,uN];simp),j,e,eI,am I];rfl
  .have A:cZ .str (c9 m d) s=jp:=by
    unfold c9;split
    .exact h2
    .rw[uN];simp[e,h2]
   obtain⟨i,g1,g2,g3⟩:=Dq l _ s h A;exact⟨i+1,by simpa using g1,by simpa using g2,by simpa using g3⟩
theorem PG{n:Int}(h1: -2147483647<=n)(d:n<=2147483647):zz n<2 ^ 64:=by
 unfold zz;split<;>omega
theorem xA{b:By}{S:List ae}(F:S.Nodup)(Z:S.length<=4194304): ∀(l:List ei) (ks:List Int) {s:RS} {r:By},l.length=ks.length->(∀i,i<l.length->(l.getD i co).kind=ks.getD i co)->(∀v∈l,ch v=0)->(∀v∈l,v.kind=2->v.sym∈S)->At b s (l.flatMap (j7 S)++r)->fp b S ks s=(dl l,⟨s.p+(l.flatMap (j7 S)).length,0⟩)
 | [],[],s,r,_,_,_,_,h=>by
  have:=h.f;cases s
  simp_all [fp]
 | [],_::_,_,_,h,_,_,_,_=>by simp at h
 |_::_,[],_,_,h,_,_,_,_=>by simp at h
 |v::l,k::ks,s,r,hlen,hk,hv,hs,h=>by
  rw[T9,Tz]at h;have x:v.kind=k:=hk 0 (by simp);have j:=hv v (TJ ..);have J:=fun(s:RS) (h:At b s (l.flatMap (j7 S)++r))=>xA F Z l ks (s:=s) (r:=r) (by simpa using hlen) (fun i u=>by simpa using hk (i+1) (by simpa using u)) (fun v d=>hv v (TH _ d)) (fun v d=>hs v (TH _ d)) h;rw[fp];by_cases y:k=1
  .have d:v.kind=1:=x.trans y;rw[am y];unfold j7 at h;rw[am d]at h;unfold ch at j;rw[am d]at j;split at j;rotate_left
   .cases j
   rename_i hb;rw[GD h hb.2.1 hb.2.2 (PG hb.2.1 hb.2.2)];have A:=h.go;rw[J _ A];have B:j7 S v=enc (zz v.num):=by unfold j7;rw[am d]
   have:v=⟨k,v.num,Tx⟩:=by cases v;simp_all
   simp only[T9,Tn,B,<-this,Ux]
  .have d: ¬v.kind=1:=by rw[x];exact y
   rw[be y];unfold j7 at h;rw[be d]at h;unfold ch at j;rw[be d]at j;split at j;rotate_left
   .cases j
   rename_i D;split at j;rotate_left
   .cases j
   rename_i hb;have hm:=hs v (TJ ..) D;obtain⟨i,u⟩:=UB hm;have C:=(Tp.1 u).1;have G:=NU F u;rw[G]at h;rw[jH h (by simp only[Tt];omega) (by simp only[Tt];omega)];simp only[Tt];rw[am C];have A:=h.go;simp only[Tt]at A;rw[J _ A];have B:j7 S v=enc i:=by unfold j7;rw[be d,G];rfl
   have Y:S.getD i co=v.sym:=by rw[Tr,u];rfl
   have:v=⟨k,0,S.getD i co⟩:=by rw[Y];cases v;simp_all
   simp only[T9,Tn,B,<-this,Ux]
theorem yZ{b:By}: ∀(l:List Int) {s:RS} {r:By},(∀u∈l,0<=u∧u<=65536)->At b s (l.flatMap sQ++r)->jM b l.length s=(l,⟨s.p+(l.flatMap sQ).length,0⟩)
 | [],s,r,_,h=>by
  have:=h.f;cases s
  simp_all [jM]
 |u::l,s,r,hu,h=>by
  rw[T9,Tz]at h;have x:=hu u (TJ ..);have d:jM b l.length ⟨s.p+(enc u.toNat).length,0⟩=_:=yZ l (fun v j=>hu v (TH _ j)) h.go;rw[TO,jM,jH (n:=u.toNat) h (by omega) (by omega)];have:((u.toNat:Nat):Int)=u:=by omega
  simp only[d,this,T9,Tn,sQ,Ux]
structure PF (p:Prog):Prop where
 nodup:(p.aw.map Decl.name).Nodup
 aw:p.aw.length<=64
 rules:p.rules.length<=256
def xH(lines:Bool)(n:cM):Prop:=n.up.length=if lines=is then n.kids.toNat else 0
theorem Dl{p:Prog}{f:Fact}(h:oF p f=0):cZ .str (p9 p) f.rel=is∧f.args.length<=8∧(∀v∈f.args,ch v=0)∧f.args.length=(eK p f.rel).types.length∧ ∀i,i<f.args.length->(f.args.getD i co).kind=(eK p f.rel).types.getD i co:=by
 unfold oF at h;split at h
 .cases h
 rename_i d;split at h;rotate_left
 .cases h
 rename_i j;simp only[not_or,Bool.not_eq_false,VO]at d;obtain⟨g1,g2,g3⟩:=d;unfold mg at g2;simp only[TZ,decide_eq_true_eq,T7]at g2;refine⟨g1,g2.2.1,g2.2.2,by omega,fun i u=>?_⟩;have:=T7.1 j i (Vx.2 u);exact of_decide_eq_true this
theorem Gk{p:Prog}(hc:PF p){b:By}{S:List ae}(Y:S.Nodup)(Z:S.length<=4194304){lines:Bool}{n:cM}{a:Nat}(ha:a<=65536)(hf:j3 p n a=is)(hu:xH lines n)(hs: ∀v∈n.fact.args,v.kind=2->v.sym∈S){s:RS}{r:By}(h:At b s (lU p S n++r)):
  qp p b S lines s=(dl n,⟨s.p+(lU p S n).length,0⟩):=by
 unfold j3 at hf;simp only[TZ,decide_eq_true_eq,T7]at hf;obtain⟨f1,f2,f3,f4,f5⟩:=hf;obtain⟨g1,g2,g3,g4,g5⟩:=Dl f4;obtain⟨i,B,C,hd⟩:=Dq p.aw [] n.fact.rel g1 I;have hd:eK p n.fact.rel=p.aw.getD i co:=hd;have x:cK .str (sT p) n.fact.rel 0=(i:Int):=by rw[<-C];exact z8 hc.nodup _ (Tv _) i B
 have hr:=hc.aw;have a0:=hc.rules;have b0:(bW p).length=p.rules.length+1:=by simp[bW]
 have h0:=h;unfold lU at h;rw[x]at h;simp only[Tt,Tz]at h;have D:=jH (most:=64) h (by omega) (by omega);have A:=h.go;have F:=xA Y Z n.fact.args (eK p n.fact.rel).types g4 g5 g3 hs A;have a2:=A.go;have G:=jH (most:=256) a2 (by omega) (by omega);have a3:=a2.go;have y:((n.c8.toNat:Nat):Int)=n.c8:=by omega
 have J:(if lines=is then jM b ((bW p).getD n.c8.toNat 0).toNat ⟨s.p+(enc i).length+(n.fact.args.flatMap (j7 S)).length+(enc n.c8.toNat).length,0⟩ else([],⟨s.p+(enc i).length+(n.fact.args.flatMap (j7 S)).length+(enc n.c8.toNat).length,0⟩))=(n.up,⟨s.p+(enc i).length+(n.fact.args.flatMap (j7 S)).length+(enc n.c8.toNat).length+(n.up.flatMap sQ).length,0⟩):=by
  unfold xH at hu;cases lines with
  |true=>
   rw[am I]at hu ⊢;rw[<-f3,<-hu];refine yZ n.up (fun u hu=>?_) a3;have:=f5 u hu;unfold kT at this;simp only[TZ,decide_eq_true_eq]at this;omega
  |false=>
   rw[be (by simp)]at hu ⊢;have:n.up=[]:=UC.1 hu;rw[this];rfl
 unfold qp;simp only[D];rw[am ⟨ac,B⟩,<-hd,F];simp only[G];rw[am ⟨ac,by omega⟩,J];simp only[if_true];have j:(lU p S n).length=(enc i).length+((n.fact.args.flatMap (j7 S)).length+((enc n.c8.toNat).length+(n.up.flatMap sQ).length)):=by
  unfold lU;rw[x];simp
 have d:(eK p n.fact.rel).name=n.fact.rel:=by rw[hd,C]
 rw[j,d,y,<-f3];simp only[Ux]
theorem wL{p:Prog}(hc:PF p){b:By}{S:List ae}(j:S.Nodup)(u:S.length<=4194304){lines:Bool}: ∀(l:List cM) (a:Nat),a+l.length<=65536->bz p a l=is->(∀n∈l,xH lines n)->(∀n∈l,∀v∈n.fact.args,v.kind=2->v.sym∈S)-> ∀{s:RS} {r:By},At b s (l.flatMap (lU p S)++r)->gd p b S lines l.length s=(dl l,⟨s.p+(l.flatMap (lU p S)).length,0⟩)
 | [],a,_,_,_,_,s,r,h=>by
  have:=h.f;cases s
  simp_all [gd]
 |n::l,a,ha,hf,hu,hs,s,r,h=>by
  rw[T9,Tz]at h;rw[bz,TZ]at hf;rw[TO]at ha;rw[TO,gd,am h.f,Gk hc j u (by omega) hf.1 (hu n (TJ ..)) (hs n (TJ ..)) h];have y:=wL hc j u l (a+1) (by omega) hf.2 (fun x d=>hu x (TH _ d)) (fun x d=>hs x (TH _ d)) h.go;simp only[y,T9,Tn,Ux]
theorem fX{p:Prog}: ∀(l:List cM) (a:Nat),bz p a l=is-> ∀n∈l,n.fact.args.length<=8∧ ∀v∈n.fact.args,ch v=0
 | [],_,_,_,hn=>nomatch hn
 |x::l,a,h,n,hn=>by
  rw[bz,TZ]at h;rcases TQ.1 hn with rfl|hn
  .have d:=h.1;unfold j3 at d;simp only[TZ,decide_eq_true_eq]at d;obtain⟨g1,g2,g3,_⟩:=Dl d.2.2.2.1;exact⟨g2,g3⟩
  .exact fX l _ h.2 n hn
theorem y4{v:ei}(h:ch v=0)(j:v.kind=2):v.sym.size<=64:=by
 unfold ch at h;rw[be (by omega),am j]at h;split at h
 .rename_i d;exact d.2
 .cases h
theorem vp{p:Prog}(hc:PF p){m:Nat}{kd:UInt8}{lines:Bool}{l:List cM}(hl:l.length<=65536)(hf:bz p 0 l=is)(hu: ∀n∈l,xH lines n)(r:By):
  B5 p (bj p m kd l++r) lines=(dl l,⟨(bj p m kd l).length,0⟩):=by
 obtain⟨q1,q2,q3⟩:(bm l).Nodup∧(∀t∈([]:List ae),t∈bm l)∧ ∀n∈l,∀v∈n.fact.args,v.kind=2->v.sym∈bm l:=pO l (S:=[]) Us;have j:=fX l 0 hf;obtain⟨q4,q5⟩:(∀t∈bm l,t.size<=64)∧(bm l).length<=([]:List ae).length+8*l.length:=kY (G:=fun s=>s.size<=64) l (S:=[]) (by simp) fun n Z=>⟨(j n Z).1,fun v hv hk=>y4 ((j n Z).2 v hv) hk⟩
 have a0:(bm l).length<=524288:=by
  simp only[UJ]at q5;omega
 obtain⟨b,hb⟩: ∃b,b=bj p m kd l++r:=⟨_,rfl⟩
 have h0:At b ⟨0,0⟩ (ja kd m++(lM (bm l)++(gv p (bm l) l++r))):=⟨rfl,TB _,by
  show b.drop 0=_
  rw[Wq,hb,bj,Tz,Tz]⟩
 have hh:(ja kd m).length=9:=rfl;have A:=h0.go;rw[hh]at A;have y:vM b 9 ⟨0,0⟩=⟨9,0⟩:=by
  have:9<=b.length:=A.le;simp[vM,this]
 have Y:At b ⟨0+9,0⟩ (enc (bm l).length++((bm l).flatMap (fun s=>mj (pQ s))++(gv p (bm l) l++r))):=by
  rw[lM,Tz]at A;exact A
 have J:=jH (most:=4194304) Y (by omega) (by omega);have C:=Y.go;have u: ∀L:List ae,L.flatMap (fun s=>mj (pQ s))=(L.map pQ).flatMap mj:=fun L=>by rw[List.flatMap_map]
 rw[u]at C
 have B:=tP (most:=64) (by omega) ((bm l).map pQ) C (fun t ht=>by
  obtain⟨s,hs,rfl⟩:=UG.1 ht;have:=q4 s hs
  simpa[pQ]using this)
 rw[T2]at B;have D:=C.go;have d:((bm l).map pQ).map y8=bm l:=by
  rw[Ve]
  conv=>rhs;rw[<-List.map_id (bm l)]
  refine UX fun s _=>?_;cases s;simp[pQ,y8]
 have F:kq b=(bm l,⟨0+9+(enc (bm l).length).length+(((bm l).map pQ).flatMap mj).length,0⟩):=by
  unfold kq;rw[y];simp only[TL]at J B ⊢;simp only[J,B,d]
 rw[gv,Tz]at D;have e3:=jH (most:=65536) D hl (by omega);have h5:=D.go;have e4:=wL hc q1 (by omega) l 0 (by omega) hf hu q3 h5;rw[<-hb];unfold B5;rw[F];simp only[e3,e4];have x:(bj p m kd l).length=9+((enc (bm l).length).length+(((bm l).map pQ).flatMap mj).length+((enc l.length).length+(l.flatMap (lU p (bm l))).length)):=by
  rw[bj,lM,gv,u];simp only[Tn,hh]
 rw[x];congr 2;omega
theorem xu{p:Prog}(hc:PF p){m:Nat}{kd:UInt8}{lines:Bool}{l d:List cM}(D:l.length<=65536)(hf:bz p 0 l=is)(hu: ∀n∈l,xH lines n)(u:d.length<=65536)(j:bz p 0 d=is)(x: ∀n∈d,xH lines n){r:By}(h:bj p m kd l++r=bj p m kd d):r=[]:=by
 have y:=vp hc (m:=m) (kd:=kd) (lines:=lines) D hf hu r;have A:=vp hc (m:=m) (kd:=kd) (lines:=lines) u j x [];rw[h]at y;rw[T1,y]at A;have B:=congrArg RS.p (Prod.mk.inj A).2;have C:=congrArg Vp h;rw[Tn]at C;have B:(bj p m kd l).length=(bj p m kd d).length:=B;exact UC.1 (by omega)
theorem BL(p:Prog)(m:Nat)(kd:UInt8)(l:List cM)(r:By)(h:kd=1∨kd=2):i6 (bj p m kd l++r)=kd.toNat:=by
 have e:bj p m kd l++r=[80,68,71,49]++(kd::([UInt8.ofNat (m/16777216),UInt8.ofNat (m/65536),UInt8.ofNat (m/256),UInt8.ofNat m]++(lM (bm l)++gv p (bm l) l)++r)):=by
  simp[bj,ja]
 rw[e];have d:([80,68,71,49]++(kd::([UInt8.ofNat (m/16777216),UInt8.ofNat (m/65536),UInt8.ofNat (m/256),UInt8.ofNat m]++(lM (bm l)++gv p (bm l) l)++r)):By).getD 4 0=kd:=by simp
 unfold i6;rw[d,am ⟨by simp,by simp,h⟩]
theorem ui{p:Prog}(hc:PF p){m:Nat}{kd:UInt8}(u:kd=1∨kd=2){l:List cM}(x:l.length<=65536)(hf:bz p 0 l=is)(hu: ∀n∈l,xH (kd.toNat==2) n):kz p (bj p m kd l) kd.toNat=dl l:=by
 have d:=BL p m kd l [] u;have j:=vp hc (m:=m) (kd:=kd) x hf hu [];rw[T1]at d j;unfold kz;rw[am d,j];simp
end Go.Proofs.YtbhphmfbligliaaGreatDoor
namespace Go.Proofs.YtbhphmfbligliaaGreatDoor
open Go Go.Al Go.Proofs.Tryz Go.En
noncomputable abbrev wrT:Code:=HV.2.2.2.2.2.2.2
structure NOk (p:Prog) (x:cM):Prop where
 num: ∀a∈x.fact.args,a.kind=1-> -2147483647<=a.num∧a.num<=2147483647
 c8:0<=x.c8∧x.c8<=1000000000
 up: ∀u∈x.up,0<=u∧u<=1000000000
 plc:0<=cK .str (sT p) x.fact.rel 0∧cK .str (sT p) x.fact.rel 0<=1000000000
 args:x.fact.args.length<=1000000000
 Sd:x.up.length<=1000000000
theorem uOf{v:Int}(h:0<=v∧v<=1000000000):PV.iv (.v (.int .u64 (IntKind.u64.wrap v)))=pU v.toNat:=by
 have d:=wrU v.toNat (by omega);have j:((v.toNat:Nat):Int)=v:=by omega
 rw[j]at d;show _=PV.iv (.v (.int .u64 ((v.toNat:Nat):Int)));rw[j,d]
theorem qZ(l:By)(v:Int)(h:0<=v∧v<=1000000000)(hb:l.length<=70000000000000):bC prog 65 [.ptr 0 0,.iv (.v (.int .u64 (IntKind.u64.wrap v)))] (wO l) (.aZ []) (wH (l++enc v.toNat)) 3:=by
 rw[uOf h];exact Qv l v.toNat hb
abbrev wrS(p:Prog)(S:List ae)(l:List cM)(b:By):AS:=⟨[(6,.iv (dF l)),(7,.iv (jq p)),(9,.iv (kW S)),(14,.ptr 6 0)],[(6,dl (.cells [.ptr 5 0])),(5,dl (iJ 16 b)),(16,dl (n6 b))],17⟩
def kJ(b:By):PV:=if b.length>4194304 then .aZ [.iv (.v (.slice io 0 0)),pI 2] else .aZ [.iv (bp 1 b bb),pI 0]
theorem JG(p:Prog)(S:List ae)(l:List cM)(b:By)(D:Nat)(hl:l.length<=65536)(hx: ∀x∈l,NOk p x)(hS: ∀s,0<=cK .str (jO S) s 0∧cK .str (jO S) s 0<=1000000000)
  (hT:(b++gv p S l).length<=50000000000000):GO prog ⟨187,pd D⟩ [.code wrT] (pH mB f30.results.toList (kJ (b++gv p S l))) (wrS p S l b):=by
 have t0:b.length+((enc l.length).length+(l.flatMap (lU p S)).length)<=50000000000000:=by rw[gv,Tn,Tn]at hT;exact hT
 refine gA I (aE [5,16] (qZ b l.length ⟨by omega,by omega⟩ (by omega)) I I I I I (by simp only[TD,TX,TV,T3,b4,cP];rfl) I I ?_);refine gA I ?_;obtain⟨B,hB⟩: ∃B:Nat->By,∀i,B i=b++enc l.length++(l.take i).flatMap (lU p S):=⟨_,fun _=>rfl⟩
 have e0:b++enc ((l.length:Int)).toNat=B 0:=by rw[hB,VI,WB,T1];rfl
 have g0:B l.length=b++gv p S l:=by rw[hB,Uj,gv,Tz]
 have b0: ∀i,i<l.length->(B i).length+(lU p S (l.getD i co)).length<=50000000000000:=fun i hi=>by
  have C:=congrArg Vp (bx (f:=lU p S) hi);have d:((l.take (i+1)).flatMap (lU p S)).length<=(l.flatMap (lU p S)).length:=by
   conv=>rhs;rw[<-Um (i+1) l,U8,Tn]
   omega
  rw[Tn]at C;rw[hB,Tn,Tn];omega
 rw[e0];refine aG 0 l.length (TB _) (fun i=>⟨[(7,.iv (jq p)),(9,.iv (kW S)),(14,.ptr 6 0),(120,.iv (dF l)),(121,pI l.length),(122,pI i)],[(6,dl (.cells [.ptr 5 0])),(5,dl (iJ 18 (B i))),(18,dl (n6 (B i)))],19⟩) (fun _=>True) [17] ac
  (wk I I I (bi (bi (bi (bi (bi (bi trivial)))))) ⟨⟨_,rfl,.of_eq I⟩,Tk I,rfl,⟨_,rfl,.of_eq I⟩,Tk I,rfl,hR I (by first|rfl|exact bS _ _) I trivial⟩ I) fun i hi _=>?_
 refine gA I ?_;refine Tq (fun C=>?_) (fun C=>?_)
 .have C:i<l.length:=by simpa using C
  have y:=hx _ (uX C);have b0:=b0 i C;have w0:=y.args;have x0:=y.Sd;have f0:B (i+1)=B i++lU p S (l.getD i co):=by rw[hB,hB,bx C,Tz,Tz,Tz]
  refine gA I (ck ab [5,18] (qZ (B i) (cK .str (sT p) (l.getD i co).fact.rel 0) y.plc (by omega)) I I I I I (by simp only[TD,TX,TV,T3,b4,cP];rfl) I I I I I I (by(repeat' (first|exact ac|exact rfl|exact aj.refl _|exact aj.bk (by assumption)|apply Tq))<;>first|omega|(simp only[Tt];omega)|(simp;done)|(simp;omega)) I (by(repeat' (first|exact ac|exact rfl|exact aj.refl _|exact aj.bk (by assumption)|apply Tq))<;>first|omega|(simp only[Tt];omega)|(simp;done)|(simp;omega)) ?_);refine gA I ?_;have c0:lU p S (l.getD i co)=enc (cK .str (sT p) (l.getD i co).fact.rel 0).toNat++((l.getD i co).fact.args.flatMap (j7 S)++(enc (l.getD i co).c8.toNat++(l.getD i co).up.flatMap sQ)):=rfl;have n0:=congrArg Vp c0;rw[Tn,Tn,Tn]at n0;obtain⟨A,Z⟩: ∃A:Nat->By,∀j,A j=B i++enc (cK .str (sT p) (l.getD i co).fact.rel 0).toNat++((l.getD i co).fact.args.take j).flatMap (j7 S):=⟨_,fun _=>rfl⟩
  have d0:B i++enc (cK .str (sT p) (l.getD i co).fact.rel 0).toNat=A 0:=by rw[Z,VI,WB,T1]
  have J: ∀j,(A j).length+(enc (l.getD i co).c8.toNat).length+((l.getD i co).up.flatMap sQ).length<=50000000000000:=fun j=>by
   have d:(((l.getD i co).fact.args.take j).flatMap (j7 S)).length<=((l.getD i co).fact.args.flatMap (j7 S)).length:=by
    conv=>rhs;rw[<-Um j (l.getD i co).fact.args,U8,Tn]
    omega
   rw[Z,Tn,Tn];omega
  obtain⟨U,hU⟩: ∃U:Nat->By,∀j,U j=A (l.getD i co).fact.args.length++enc (l.getD i co).c8.toNat++((l.getD i co).up.take j).flatMap sQ:=⟨_,fun _=>rfl⟩
  have i0:A (l.getD i co).fact.args.length++enc (l.getD i co).c8.toNat=U 0:=by rw[hU,VI,WB,T1]
  have l0:U (l.getD i co).up.length=B (i+1):=by rw[hU,Z,Uj,Uj,f0,c0];simp only[Tz]
  have k0: ∀j,(U j).length<=50000000000000:=fun j=>by
   have d:(((l.getD i co).up.take j).flatMap sQ).length<=((l.getD i co).up.flatMap sQ).length:=by
    conv=>rhs;rw[<-Um j (l.getD i co).up,U8,Tn]
    omega
   have u:=J (l.getD i co).fact.args.length;rw[hU,Tn,Tn];omega
  rw[d0];refine aG 0 (l.getD i co).fact.args.length (TB _) (fun j=>⟨[(7,.iv (jq p)),(9,.iv (kW S)),(14,.ptr 6 0),(18,.ptr 19 0),(120,.iv (dF l)),(121,pI l.length),(122,pI i),(139,.iv (bp 3 (l.getD i co).fact.args ei.c)),(140,pI (l.getD i co).fact.args.length),(141,pI j)],[(6,dl (.cells [.ptr 5 0])),(5,dl (iJ 21 (A j))),(19,dl (az (l.getD i co).c)),(21,dl (n6 (A j)))],22⟩) (fun _=>True) [20] ac
   (wk I I I (bi (bi (bi (bi (bi (bi (bi (bi (bi (bi trivial)))))))))) ⟨⟨_,rfl,.of_eq I⟩,Tk I,rfl,⟨_,rfl,.of_eq I⟩,Tk I,rfl,⟨_,rfl,.of_eq I⟩,Tk I,rfl,hR I (by first|rfl|exact bS _ _) I trivial⟩ I) fun j hj _=>?_
  refine gA I ?_;refine Tq (fun d=>?_) (fun d=>?_)
  .have d:j<(l.getD i co).fact.args.length:=by simpa using d
   have p0:=uX d;have a0:A (j+1)=A j++j7 S ((l.getD i co).fact.args.getD j co):=by rw[Z,Z,bx d];simp only[Tz]
   have q0:=J j;refine gA I ?_;refine Tq (fun u=>?_) (fun u=>?_)
   .have u:((l.getD i co).fact.args.getD j co).kind=1:=of_decide_eq_true u;have F:=y.num _ p0 u;have G:A j++enc (zz ((l.getD i co).fact.args.getD j co).num)=A (j+1):=by rw[a0,j7,am u]
    refine gA I (aE [5,21] (Sn (A j) ((l.getD i co).fact.args.getD j co).num F.1 F.2 (by omega)) I I I I I (by simp only[TD,TX,TV,T3,b4,cP];rfl) I I ?_);rw[G];refine gA I ⟨d,ac,[23],wk I I I (bi (bi (bi (bi (bi (bi (bi (bi (bi (bi ac)))))))))) ⟨⟨_,rfl,.of_eq I⟩,Tk I,rfl,⟨_,rfl,.of_eq I⟩,Tk I,rfl,⟨_,rfl,.of_eq I⟩,Tk I,rfl,hR I (by first|rfl|exact bS _ _) I ac⟩ I⟩
   .have u: ¬((l.getD i co).fact.args.getD j co).kind=1:=of_decide_eq_false u;have F:=hS ((l.getD i co).fact.args.getD j co).sym;have G:A j++enc (cK .str (jO S) ((l.getD i co).fact.args.getD j co).sym 0).toNat=A (j+1):=by rw[a0,j7,be u]
    refine gA I (aP (Q6 S ((l.getD i co).fact.args.getD j co).sym) I I I I I I ?_);refine gA I (aE [5,21] (qZ (A j) (cK .str (jO S) ((l.getD i co).fact.args.getD j co).sym 0) F (by omega)) I I I I I (by simp only[TD,TX,TV,T3,b4,cP];rfl) I I ?_);rw[G];refine gA I ⟨d,ac,[23],wk I I I (bi (bi (bi (bi (bi (bi (bi (bi (bi (bi ac)))))))))) ⟨⟨_,rfl,.of_eq I⟩,Tk I,rfl,⟨_,rfl,.of_eq I⟩,Tk I,rfl,⟨_,rfl,.of_eq I⟩,Tk I,rfl,hR I (by first|rfl|exact bS _ _) I ac⟩ I⟩
  .have d:(l.getD i co).fact.args.length<=j:=by simpa using d
   have Y:j=(l.getD i co).fact.args.length:=by omega
   subst Y;have s0:=J (l.getD i co).fact.args.length;refine gA I (aE [5,21] (qZ (A (l.getD i co).fact.args.length) (l.getD i co).c8 y.c8 (by omega)) I I I I I (by simp only[TD,TX,TV,T3,b4,cP];rfl) I I ?_);rw[i0];refine gA I ?_;refine aG 0 (l.getD i co).up.length (TB _) (fun j=>⟨[(7,.iv (jq p)),(9,.iv (kW S)),(14,.ptr 6 0),(120,.iv (dF l)),(121,pI l.length),(122,pI i),(170,.iv (bp 1 (l.getD i co).up eO)),(171,pI (l.getD i co).up.length),(172,pI j)],[(6,dl (.cells [.ptr 5 0])),(5,dl (iJ 23 (U j))),(23,dl (n6 (U j)))],24⟩) (fun _=>True) [22] ac
    (wk I I I (bi (bi (bi (bi (bi (bi (bi (bi (bi trivial))))))))) ⟨⟨_,rfl,.of_eq I⟩,Tk I,rfl,⟨_,rfl,.of_eq I⟩,Tk I,rfl,hR I (by first|rfl|exact bS _ _) I trivial⟩ I) fun j hj _=>?_
   refine gA I ?_;refine Tq (fun u=>?_) (fun u=>?_)
   .have u:j<(l.getD i co).up.length:=by simpa using u
    have o0:=y.up _ (uX u);have j0:U j++enc ((l.getD i co).up.getD j co).toNat=U (j+1):=by rw[hU,hU,bx u];simp only[Tz];rfl
    have v0:=k0 j;refine gA I (aE [5,23] (qZ (U j) ((l.getD i co).up.getD j co) o0 (by omega)) I I I I I (by simp only[TD,TX,TV,T3,b4,cP];rfl) I I ?_);rw[j0];refine gA I ⟨u,ac,[24],wk I I I (bi (bi (bi (bi (bi (bi (bi (bi (bi ac))))))))) ⟨⟨_,rfl,.of_eq I⟩,Tk I,rfl,⟨_,rfl,.of_eq I⟩,Tk I,rfl,hR I (by first|rfl|exact bS _ _) I ac⟩ I⟩
   .have u:(l.getD i co).up.length<=j:=by simpa using u
    have Y:j=(l.getD i co).up.length:=by omega
    subst Y;rw[l0];refine gA I ⟨C,ac,[23],wk I I I (bi (bi (bi (bi (bi (bi ac)))))) ⟨⟨_,rfl,.of_eq I⟩,Tk I,rfl,⟨_,rfl,.of_eq I⟩,Tk I,rfl,hR I (by first|rfl|exact bS _ _) I ac⟩ I⟩
 .have C:l.length<=i:=by simpa using C
  have m0:i=l.length:=by omega
  subst m0;rw[g0];refine gA I (aE [5,18] (Qu (b++gv p S l)) I I I I I (by simp only[TD,TX,TV,T3,b4,cP];rfl) I I ?_);refine gA I ?_;refine Tq (fun d=>?_) (fun d=>?_)
  .have d:(b++gv p S l).length>4194304:=by have:=of_decide_eq_true d;omega
   refine gA I (aN (by first|exact .inr I|exact .inl I) I (.of_eq ?_));rw[kJ,am d];rfl
  .have d: ¬(b++gv p S l).length>4194304:=by have:=of_decide_eq_false d;omega
   refine gA I (aE [5,18] (Sm (b++gv p S l) (by omega)) I I I I I (by simp only[TD,TX,b4];exact congrArg (fun z=> [_,dl z]) (b4 _ _)) I I ?_);rw[kJ,be d];refine gA I (iP (r0:= .aZ [.sl 19 0 (b++gv p S l).length 1,pI 0]) (.inr I) I (fD.gG 19 (b++gv p S l) bb I (bS _ _) (by simp[PV.bh,bg]) (.done (.aZ ⟨.bU I (fun k _=>by rw[TL]),.refl _,ac⟩))))
theorem o5(xs:By):(Uk xs.length).map (fun k=>(bb (xs.getD k co)).map PV.iv)=eL xs:=by
 apply List.ext_getElem
 .simp
 .intro i d u;have j:i<xs.length:=by simpa using d
  simp[Wf,Ts j]
theorem QO(l xs:By)(hb:l.length+xs.length<=100000000000000):bC prog 111 [.ptr 0 0,.iv (bp 1 xs bb)] (wO l) (.aZ []) (wH (l++xs)) 3:=by
 refine aq ab func111 I (by decide) ntmps111 I (by simp) ?_;refine iq I ?_ (aD [2] (by first|exact .inr I|exact .inl I) I (wk I I I (bi ac) ⟨⟨_,rfl,.of_eq ?_⟩,Tk I,rfl,hR I ?_ I ac⟩ I))
 .refine⟨ac,by simp,ac,?_,by omega,by omega⟩;rw[show(List.map (fun k=>List.map PV.iv ((fun k=>bb (xs.getD k co)) k)) (Uk xs.length))=eL xs from o5 xs];exact fQ (fun _=>rfl) xs
 .rw[<-Tn];rfl
 .rw[TA];exact congrArg _ (o5 xs)
theorem QK(l xs:By)(hb:l.length+xs.length<=80000000000000):bC prog 62 [.ptr 0 0,.iv (bp 1 xs bb)] (wO l) (.aZ []) (wH (l++xs)) 3:=by
 refine aq ab func62 I (by decide) ntmps62 I (by simp) ?_;refine gA I ?_;refine Tq (fun zz=>?_) (fun zz=>?_)<;>(try(exact absurd zz (by decide)))
 refine gA I (aE [0,1] (QO l xs (by omega)) I I I I I (by simp only[TD,TX,TV,T3,b4,cP];rfl) I I ?_);refine gA I (aD [2] (by first|exact .inr I|exact .inl I) I (wk I I I (bi ac) ⟨⟨_,rfl,.of_eq I⟩,Tk I,rfl,hR I (by first|rfl|exact bS _ _) I ac⟩ I))
abbrev ME(j:Nat)(S:List ae):AO:= .cells [.mp 1,.sl j 0 S.length 1]
structure DD (tid:TypeId) (v:IV) (kd:UInt8) (l:List cM):Prop where
 bZ: ∀σ,v.pv.bZ σ=v.pv
 OV: ∃k,B7 prog tid "pedigree/cert.nodes" k∧Al.Pure prog k [v.pv,pI 65536] (.iv (dF l))
 kind:Al.Pure prog 64 [.iv (.oj tid v)] (pY (kd.toNat:Int))
def km:PV:= .iv (.v (.slice io 0 0))
def dG(p:Prog)(kd:UInt8)(l:List cM):PV:=
 if l.length>65536 then .aZ [km,pI 2] else if(b7 p).1≠0 then .aZ [km,pI 4] else if bz p 0 l=jp then .aZ [km,pI 161] else kJ (bj p (bn p).toNat kd l)
noncomputable abbrev Na(p:Prog)(l:List cM)(b:By):AS:=⟨[(14,.ptr 6 0),(109,.cN (.func 113) [] [.ptr 14 0]),(6,.iv (dF l)),(7,.iv (jq p)),(9,.iv (kW (bm l)))],[(6,dl (.cells [.ptr 5 0])),(5,dl (iJ 13 b)),(13,dl (n6 b)),(14,dl (.cells [.iv (kW (bm l))]))],15⟩
theorem Gv(p:Prog):bn p=((bn p).toNat:Int):=by
 have h:0<=bn p:=Int.emod_nonneg _ (by decide);omega
theorem Si(m:Nat):(IntKind.u8.wrap (((m:Int)).fdiv (2 ^ min (VB 24) IntKind.u32.bits))=((UInt8.ofNat (m/16777216)).toNat:Int)∧IntKind.u8.wrap (((m:Int)).fdiv (2 ^ min (VB 16) IntKind.u32.bits))=((UInt8.ofNat (m/65536)).toNat:Int))∧IntKind.u8.wrap (((m:Int)).fdiv (2 ^ min (VB 8) IntKind.u32.bits))=((UInt8.ofNat (m/256)).toNat:Int):=by
 have d:(2:Int) ^ min (VB 24) IntKind.u32.bits=16777216:=by decide
 have j:(2:Int) ^ min (VB 16) IntKind.u32.bits=65536:=by decide
 have u:(2:Int) ^ min (VB 8) IntKind.u32.bits=256:=by decide
 rw[d,j,u,UT _ (by decide),UT _ (by decide),UT _ (by decide)];exact⟨⟨BC (m/16777216),BC (m/65536)⟩,BC (m/256)⟩
abbrev Ss(m:Int):List (List PV):=[[pY (IntKind.u8.wrap (m.fdiv (2 ^ min (VB 24) IntKind.u32.bits)))],[pY (IntKind.u8.wrap (m.fdiv (2 ^ min (VB 16) IntKind.u32.bits)))],[pY (IntKind.u8.wrap (m.fdiv (2 ^ min (VB 8) IntKind.u32.bits)))],[pY (IntKind.u8.wrap m)]]
abbrev mkB(m:Nat):By:=[UInt8.ofNat (m/16777216),UInt8.ofNat (m/65536),UInt8.ofNat (m/256),UInt8.ofNat m]
theorem Gs(p:Prog):Ss (bn p)=eL (mkB (bn p).toNat):=by
 have h:=Gv p;generalize(bn p).toNat=m at*
 rw[h];obtain⟨⟨d,j⟩,u⟩:=Si m;unfold Ss;rw[d,j,u,BC];rfl
theorem rL(p:Prog): ∀(a b:List cM) (k:Nat),bz p k (a++b)=(bz p k a&&bz p (k+a.length) b)
 | [],b,k=>by simp[bz]
 |x::a,b,k=>by
  rw[TV,bz,bz,rL p a b (k+1),Bool.and_assoc,TO,Ux,V6 1]
theorem xh{p:Prog}{l:List cM}{i:Nat}(h:i<l.length):bz p 0 (l.take (i+1))=(bz p 0 (l.take i)&&j3 p (l.getD i co) i):=by
 have d:(l.take i).length=i:=by rw[TY];omega
 rw[bc h,rL,d,TL,bz,bz,Bool.and_true]
theorem Ha{p:Prog}{l:List cM}{i:Nat}(h:i<l.length)(hn:j3 p (l.getD i co) i=jp):bz p 0 l=jp:=by
 have d:=rL p (l.take (i+1)) (l.drop (i+1)) 0;rw[Um,xh h,hn,Vy,Vc]at d;exact d
theorem u0{α β:Type}[Inhabited α]{g:β->α->β}{z:β}{l:List α}{i:Nat}(h:i<l.length):(l.take (i+1)).foldl g z=g ((l.take i).foldl g z) (l.getD i co):=by
 rw[bc h,List.foldl_append];rfl
theorem Cx(hS:dE)(p:Prog)(hf:p.fit)(hs:p.size<=10000000)(ht:p.ts<=800000000){a0:TypeId}{v:IV}{kd:UInt8}{l:List cM}(hT:DD a0 v kd l)(hN: ∀x∈l,x.fact.args.length<=1000000000∧x.up.length<=1000000000)(Q:AQ)
  (D:l.length<=65536->(b7 p).1=0->bz p 0 l=is-> ∀t,(∃L0,Wk t.nx L0 t (Na p l (ja kd (bn p).toNat++enc (bm l).length)))->Q .normal t) (d: ∀t,pH mB f30.results.toList (dG p kd l) .ret t->Q .ret t):
  GO prog ⟨187,[]⟩ ((HV.1++ [HV.2.1]).map .code) Q ⟨kS 0 [ag p.c,.iv (.oj a0 v)],[],0⟩:=by
 obtain⟨k,hm,Z⟩:=hT.OV;unfold dG at d;refine gA I (bF I (GI I I hm Z I (congrArg (fun z=> [z,pI 65536]) (hT.bZ _)) I) ?_);rintro t rfl;refine gA I ?_;refine Tq (fun g1=>?_) (fun g1=>?_)
 .have g1:l.length>65536:=by have:=of_decide_eq_true g1;omega
  rw[am g1]at d;exact gA I (d _ (aN (.inr I) I (.of_eq I)))
 have g1: ¬l.length>65536:=by have:=of_decide_eq_false g1;omega
 rw[be g1]at d;by_cases J:(b7 p).1=0;rotate_left
 .rw[am J]at d;refine gA I (aP (zo hS p hf hs ht J) I I I I I I ?_);refine gA I ?_;refine Tq (fun zz=>?_) (fun zz=>?_)<;>(try(exact absurd zz (by decide)))
  exact gA I (d _ (aN (.inr I) I (.of_eq I)))
 rw[be fun h=>h J]at d;refine gA I (aP (CD hS p hf hs ht J) I I I I I I ?_);refine gA I ?_;refine Tq (fun zz=>?_) (fun zz=>?_)<;>(try(exact absurd zz (by decide)))
 refine gA I (aE [] (QY) I I I I I I I I ?_);refine gA I ?_;refine fm 2 1 1 I I ?_;refine aG 0 l.length (TB _) (fun i=>⟨[(1,.iv (.oj a0 v)),(6,.iv (dF l)),(7,.iv (jq p)),(9,.ptr 2 0),(39,.iv (dF l)),(40,pI l.length),(41,pI i)],[(1,dl (cO (jO (bm (l.take i))))),(2,dl (ME 4 (bm (l.take i)))),(4,dl (aX 1 (bm (l.take i)) cB))],5⟩) (fun i=>bz p 0 (l.take i)=is) [3] I
  (wk I I I (bi (bi (bi (bi (bi (bi (bi trivial))))))) (O4 I eJ I ⟨⟨_,rfl,.of_eq I⟩,Tk I,rfl,hR I I I trivial⟩) I) fun i hi hJ=>?_
 refine gA I ?_;refine Tq (fun u=>?_) (fun u=>?_)
 .have u:i<l.length:=by simpa using u
  have j0:(l.take i).length=i:=by rw[TY];omega
  have c0:=hN _ (uX u);have m0:=c0.1;have l0:=xh (p:=p) u;have e0:bm (l.take (i+1))=(l.getD i co).fact.args.foldl iQ (bm (l.take i)):=u0 u;have b0:(bm (l.take i)).Nodup:=(pO (l.take i) Us).1;have i0:(bm (l.take i)).length<=8*i:=by
   have:=(kY (G:=fun _=>True) (l.take i) (S:=[]) (by simp) fun n Z=>⟨(fX _ _ hJ n Z).1,fun _ _ _=>trivial⟩).2;rw[j0]at this;simpa using this
  generalize bm (l.take i)=S at*
  refine gA I (aP (Q5 p (l.getD i co) i (by omega) hs m0 c0.2) I I I I I I ?_);refine gA I ?_;refine Tq (fun g3=>?_) (fun g3=>?_)
  .have g3:j3 p (l.getD i co) i=jp:=by simpa using g3
   rw[am (Ha u g3)]at d;exact gA I (d _ (aN (.inr I) I (.of_eq I)))
  have g3:j3 p (l.getD i co) i=is:=by simpa using g3
  have F:bz p 0 (l.take (i+1))=is:=by rw[l0,hJ,g3];rfl
  have o0:(l.getD i co).fact.args.length<=8:=(fX _ _ F (l.getD i co) (by rw[bc u];simp)).1;refine gA I ?_;refine aG 0 (l.getD i co).fact.args.length (TB _) (fun j=>⟨[(1,.iv (.oj a0 v)),(6,.iv (dF l)),(7,.iv (jq p)),(9,.ptr 2 0),(39,.iv (dF l)),(40,pI l.length),(41,pI i),(53,.iv (bp 3 (l.getD i co).fact.args ei.c)),(54,pI (l.getD i co).fact.args.length),(55,pI j)],[(1,dl (cO (jO (((l.getD i co).fact.args.take j).foldl iQ S)))),(2,dl (ME 6 (((l.getD i co).fact.args.take j).foldl iQ S))),(6,dl (aX 1 (((l.getD i co).fact.args.take j).foldl iQ S) cB))],7⟩) (fun _=>True) [4] ac
   (wk I I I (bi (bi (bi (bi (bi (bi (bi (bi (bi (bi trivial)))))))))) (hM I I I ⟨⟨_,rfl,.of_eq I⟩,Tk I,rfl,hR I I I trivial⟩) I) fun j hj _=>?_
  refine gA I ?_;refine Tq (fun B=>?_) (fun B=>?_)
  .have B:j<(l.getD i co).fact.args.length:=by simpa using B
   have Y:((l.getD i co).fact.args.take (j+1)).foldl iQ S=iQ (((l.getD i co).fact.args.take j).foldl iQ S) ((l.getD i co).fact.args.getD j co):=u0 B;have k0:(((l.getD i co).fact.args.take j).foldl iQ S).Nodup:=(xN ((l.getD i co).fact.args.take j) b0).1;have n0:(((l.getD i co).fact.args.take j).foldl iQ S).length<=8*i+8:=by
    have:=(tT (G:=fun _=>True) ((l.getD i co).fact.args.take j) (S:=S) (fun _ _=>trivial) fun _ _ _=>trivial).2;have C:((l.getD i co).fact.args.take j).length<=j:=by rw[TY];omega
    omega
   generalize((l.getD i co).fact.args.take j).foldl iQ S=A at*
   refine gA I ?_;refine Tq (fun C=>?_) (fun C=>?_)
   .have C:((l.getD i co).fact.args.getD j co).kind=2:=of_decide_eq_true C;have e:iQ A ((l.getD i co).fact.args.getD j co)=pG A ((l.getD i co).fact.args.getD j co).sym:=am C;refine gA I (aE [2,1,6] (Qx A k0 ((l.getD i co).fact.args.getD j co).sym (by omega)) I I I I I (by show[_,_,_]=[_,_,dl (AO.bZ _ (aX 1 A cB))];rw[bL];rfl) I I ?_);rw[<-e,<-Y];refine gA I ⟨B,ac,[8],wk I I I (bi (bi (bi (bi (bi (bi (bi (bi (bi (bi ac)))))))))) (hM I I I ⟨⟨_,rfl,.of_eq I⟩,Tk I,rfl,hR I (by first|rfl|exact p7 _ _) I ac⟩) I⟩
   .have C: ¬((l.getD i co).fact.args.getD j co).kind=2:=of_decide_eq_false C;have e:iQ A ((l.getD i co).fact.args.getD j co)=A:=be C;refine gA I ?_;rw[Y,e];exact⟨B,ac,[6],wk I I I (bi (bi (bi (bi (bi (bi (bi (bi (bi (bi ac)))))))))) (hM I I I ⟨⟨_,rfl,.of_eq I⟩,Tk I,rfl,hR I I I ac⟩) I⟩
  .have B:(l.getD i co).fact.args.length<=j:=by simpa using B
   have g0:j=(l.getD i co).fact.args.length:=by omega
   subst g0;rw[Uj,<-e0];refine gA I ⟨u,F,[6],wk I I I (bi (bi (bi (bi (bi (bi (bi ac))))))) (hM I I I ⟨⟨_,rfl,.of_eq I⟩,Tk I,rfl,hR I I I ac⟩) I⟩
 .have u:l.length<=i:=by simpa using u
  have f0:i=l.length:=by omega
  subst f0;rw[Uj] at*
  have b0:(bm l).Nodup:=(pO l Us).1;have i0:(bm l).length<=8*l.length:=by
   have:=(kY (G:=fun _=>True) l (S:=[]) (by simp) fun n Z=>⟨(fX _ _ hJ n Z).1,fun _ _ _=>trivial⟩).2;simpa using this
  have D:=D (by omega) J hJ;clear d;generalize d0:bm l=S at*
  refine eW 4 (fun k=>cB (S.getD k co)) I (dq I) (by repeat(first|exact ac|refine⟨ac,?_⟩)) ⟨ac,(by simp[AO.iw,bg,PV.bh]),cX _ _ _ _ _ _,ac⟩ ?_;refine Dg 1 I ?_;refine Kz 2 [wM (jO S),strs S] I (by simp only[PV.ey,qD,TL];rfl) ?_;refine ep (L:=[]) (t:=⟨[(1,.iv (.oj a0 v)),(6,.iv (dF l)),(7,.iv (jq p)),(9,.iv (kW S))],[],5⟩) (wk I I I (bi (bi (bi (bi ac)))) ac I) ?_;refine gA I (aE [] (QX) I I I I I I I I ?_);refine gM 3 I (fm 5 0 1 I I ?_);refine ep (L:=[]) (t:=⟨[(1,.iv (.oj a0 v)),(6,.iv (dF l)),(7,.iv (jq p)),(9,.iv (kW S)),(14,.ptr 6 0)],[(6,dl (.cells [.ptr 5 0])),(5,dl (iJ 7 [])),(7,dl (n6 []))],8⟩) (wk I I I (bi (bi (bi (bi (bi ac))))) ⟨⟨_,rfl,.of_eq I⟩,Tk I,rfl,⟨_,rfl,.of_eq I⟩,Tk I,rfl,hR I I I ac⟩ I) ?_;refine gA I (bF I (KO (es:=[[pY 80],[pY 68],[pY 71],[pY 49]]) ab I I I I I (fun k=>bb (([80,68,71,49]:By).getD k co)) I I ?_ I (by decide) I) ?_)
  .intro k e y
   match k,y with
   |0,y=>cases y;rfl
   |1,y=>cases y;rfl
   |2,y=>cases y;rfl
   |3,y=>cases y;rfl
  rintro t rfl;refine gA I (aE [5,7] (bC.le (aa:=[.ptr 0 0,.iv (.bU 1 4 fun k=>(fun k=>bb (([80,68,71,49]:By).getD k co)) (0+k))]) (QK [] [80,68,71,49] (by decide)) ⟨.refl _,.iv (.bU I (fun k _=>by rw[TL])),ac⟩) I I I I I (by simp only[TD,TX,TV,T3,b4,cP];rfl) I I ?_);refine gM 1 I (ep [] (t:=⟨[(1,.iv (.oj a0 v)),(6,.iv (dF l)),(7,.iv (jq p)),(9,.iv (kW S)),(14,.ptr 6 0)],[(6,dl (.cells [.ptr 5 0])),(5,dl (iJ 9 ([80,68,71,49]:By))),(9,dl (n6 ([80,68,71,49]:By)))],10⟩) (wk I I I (bi (bi (bi (bi (bi ac))))) ⟨⟨_,rfl,.of_eq I⟩,Tk I,rfl,⟨_,rfl,.of_eq I⟩,Tk I,rfl,hR I (bS _ _) I ac⟩ I) ?_);refine gA I (ck ab [] (Pure.A6 (hT.kind)) I I I I I I I I I I I I (by(repeat' (first|exact ac|exact rfl|exact aj.refl _|exact aj.bk (by assumption)|apply Tq))<;>first|omega|(simp only[Tt];omega)|(simp;done)|(simp;omega)) I (by(repeat' (first|exact ac|exact rfl|exact aj.refl _|exact aj.bk (by assumption)|apply Tq))<;>first|omega|(simp only[Tt];omega)|(simp;done)|(simp;omega)) ?_);refine gA I (ck ab [5,9] (Q8 [80,68,71,49] kd (by decide)) I I I I I (by simp only[TD,TX,TV,T3,b4,cP];rfl) I I I I I I (by(repeat' (first|exact ac|exact rfl|exact aj.refl _|exact aj.bk (by assumption)|apply Tq))<;>first|omega|(simp only[Tt];omega)|(simp;done)|(simp;omega)) I (by(repeat' (first|exact ac|exact rfl|exact aj.refl _|exact aj.bk (by assumption)|apply Tq))<;>first|omega|(simp only[Tt];omega)|(simp;done)|(simp;omega)) ?_);refine gM 1 I (ep [] (t:=⟨[(1,.iv (.oj a0 v)),(6,.iv (dF l)),(7,.iv (jq p)),(9,.iv (kW S)),(14,.ptr 6 0)],[(6,dl (.cells [.ptr 5 0])),(5,dl (iJ 10 ([80,68,71,49]++ [kd]:By))),(10,dl (n6 ([80,68,71,49]++ [kd]:By)))],11⟩) (wk I I I (bi (bi (bi (bi (bi ac))))) ⟨⟨_,rfl,.of_eq I⟩,Tk I,rfl,⟨_,rfl,.of_eq I⟩,Tk I,rfl,hR I (bS _ _) I ac⟩ I) ?_);refine gA I (ck ab [5,10,11] (Sl ([80,68,71,49]++ [kd]:By) (mkB (bn p).toNat) (es:=Ss (bn p)) (Gs p) I (by show 5+4<=_;decide)) I I I I I (by simp only[TD,TX,TV,T3,b4,cP];rfl) I I I I I I (by(repeat' (first|exact ac|exact rfl|exact aj.refl _|exact aj.bk (by assumption)|apply Tq))<;>first|omega|(simp only[Tt];omega)|(simp;done)|(simp;omega)) I (by(repeat' (first|exact ac|exact rfl|exact aj.refl _|exact aj.bk (by assumption)|apply Tq))<;>first|omega|(simp only[Tt];omega)|(simp;done)|(simp;omega)) ?_);refine gM 1 I (ep [] (t:=⟨[(1,.iv (.oj a0 v)),(6,.iv (dF l)),(7,.iv (jq p)),(9,.iv (kW S)),(14,.ptr 6 0)],[(6,dl (.cells [.ptr 5 0])),(5,dl (iJ 12 (ja kd (bn p).toNat))),(12,dl (n6 (ja kd (bn p).toNat)))],13⟩) (wk I I I (bi (bi (bi (bi (bi ac))))) ⟨⟨_,rfl,.of_eq I⟩,Tk I,rfl,⟨_,rfl,.of_eq I⟩,Tk I,rfl,hR I (bS _ _) I ac⟩ I) ?_);refine gA I (ck ab [] (Pure.A6 (Qy S)) I I I I I I I I I I I I (by(repeat' (first|exact ac|exact rfl|exact aj.refl _|exact aj.bk (by assumption)|apply Tq))<;>first|omega|(simp only[Tt];omega)|(simp;done)|(simp;omega)) I (by(repeat' (first|exact ac|exact rfl|exact aj.refl _|exact aj.bk (by assumption)|apply Tq))<;>first|omega|(simp only[Tt];omega)|(simp;done)|(simp;omega)) ?_);refine gA I (ck ab [5,12] (qZ (ja kd (bn p).toNat) S.length ⟨by omega,by omega⟩ (by show 9<=_;decide)) I I I I I (by simp only[TD,TX,TV,T3,b4,cP];rfl) I I I I I I (by(repeat' (first|exact ac|exact rfl|exact aj.refl _|exact aj.bk (by assumption)|apply Tq))<;>first|omega|(simp only[Tt];omega)|(simp;done)|(simp;omega)) I (by(repeat' (first|exact ac|exact rfl|exact aj.refl _|exact aj.bk (by assumption)|apply Tq))<;>first|omega|(simp only[Tt];omega)|(simp;done)|(simp;omega)) ?_);refine gM 1 I (ep [] (t:=⟨[(1,.iv (.oj a0 v)),(6,.iv (dF l)),(7,.iv (jq p)),(9,.iv (kW S)),(14,.ptr 6 0)],[(6,dl (.cells [.ptr 5 0])),(5,dl (iJ 13 (ja kd (bn p).toNat++enc S.length))),(13,dl (n6 (ja kd (bn p).toNat++enc S.length)))],14⟩) (wk I I I (bi (bi (bi (bi (bi ac))))) ⟨⟨_,rfl,.of_eq I⟩,Tk I,rfl,⟨_,rfl,.of_eq I⟩,Tk I,rfl,hR I (bS _ _) I ac⟩ I) ?_);refine gA I (aE [] (Sp S) I I I I I I I I ?_);refine gA I (D _ ⟨[],?_⟩);unfold Na;rw[d0];exact wk I I I (bi (bi (bi (bi (bi ac))))) ⟨⟨_,rfl,.of_eq I⟩,Tk I,rfl,⟨_,rfl,.of_eq I⟩,Tk I,rfl,⟨⟨_,rfl,.of_eq (b4 _ _).symm⟩,Tk I,cQ _,⟨_,rfl,.of_eq I⟩,Tk I,rfl,ac⟩⟩ I
theorem CO(p:Prog)(s:ae): ∀n,0<=cK .str (yd p n) s 0∧cK .str (yd p n) s 0<=n
 |0=>⟨Vb _,Vb _⟩
 |n+1=>by
  have d:=CO p s n;rw[yd,eI];split
  .omega
  .omega
theorem Cp(s:ae): ∀r:List ae,0<=cK .str (pN r) s 0∧cK .str (pN r) s 0<=r.length
 | []=>⟨Vb _,Vb _⟩
 |x::r=>by
  have d:=Cp s r;rw[pN,eI,TO];split
  .omega
  .omega
theorem Li{p:Prog}{l:List cM}{r0:PV}(S:List ae)(b:By)(G:AF)(C:EU 17 (sg 17 []) ((14,.ptr 6 0)::(109,.cN (.func 113) [] [.ptr 14 0])::G) G)(j:List PV)(A:j.length<=187)(hlow:r0.low 0=is)(F:S.length<=1000000)(hs: ∀s∈S,s.size<=1000)(hb:b.length<=1000000)
  (x:GO prog ⟨187,[]⟩ ((HV.1++ [HV.2.1]).map .code) (fun e t=>(e= .normal∧ ∃B,Wk t.nx B t ⟨(14,.ptr 6 0)::(109,.cN (.func 113) [] [.ptr 14 0])::G,[(6,dl (.cells [.ptr 5 0])),(5,dl (iJ 13 b)),(13,dl (n6 b)),(14,dl (.cells [.iv (kW S)]))],15⟩)∨(e= .ret∧pH mB f30.results.toList r0 e t)) ⟨kS 0 j,[],0⟩)
  (y: ∀D,GO prog ⟨187,pd D⟩ [.code wrT] (pH mB f30.results.toList r0) ⟨(14,.ptr 6 0)::G,[(6,dl (.cells [.ptr 5 0])),(5,dl (iJ 16 (b++S.flatMap xJ))),(16,dl (n6 (b++S.flatMap xJ)))],17⟩):Al.Pure prog 30 j r0:=by
 refine F7 ab func30 (cs:=HV.1) (show _=dl (O0 HV) from rfl) (by decide) ntmps30 I A hlow _ x (asv:=fun u=> [M9 u,.ptr 14 0]) [(14,.ptr 6 0)] [15,14,6,5,13] (fun d=>?_) (fun u=>Rb u S b F hs hb) (fun u=>?_) I I (fun u=>?_) (fun u=>rfl) (fun u=>⟨_,rfl⟩) (fun u D=>?_)
 .by_cases h:d=14
  .subst h;exact .inr I
  .refine .inl ?_;rw[AF.ax,be (by omega)];rfl
 .rfl
 .simp only[TD,TX,b4];rfl
 .refine ep (L:=[]) (t:=⟨(14,.ptr 6 0)::G,[(6,dl (.cells [.ptr 5 0])),(5,dl (iJ 16 (b++S.flatMap xJ))),(16,dl (n6 (b++S.flatMap xJ)))],17⟩) (wk I I I ⟨.refl _,rfl,C⟩ ⟨⟨_,rfl,.of_eq I⟩,Tk I,rfl,⟨_,rfl,.of_eq I⟩,Tk I,rfl,hR I (bS _ _) I ac⟩ I) (y D)
theorem Cr{p:Prog}{l:List cM}(x:l.length<=65536)(hf:bz p 0 l=is):(bm l).length<=1000000∧ ∀s∈bm l,s.size<=1000:=by
 have:=kY (G:=fun s=>s.size<=1000) l (S:=[]) (by simp) fun n d=>⟨(fX _ _ hf n d).1,fun v u j=>Uh (y4 ((fX _ _ hf n d).2 v u) j) (by decide)⟩
 exact⟨by have:=this.2;simp at this;show(l.foldl xO []).length<=_;omega,this.1⟩
theorem xi{p:Prog}: ∀(l:List cM) (a:Nat),bz p a l=is->a+l.length<=65536-> ∀n∈l,∃i,i<=65536∧j3 p n i=is
 | [],_,_,_,_,hn=>nomatch hn
 |x::l,a,h,ha,n,hn=>by
  rw[bz,TZ]at h;rw[TO]at ha;rcases TQ.1 hn with rfl|hn
  .exact⟨a,by omega,h.1⟩
  .exact xi l _ h.2 (by omega) n hn
theorem OQ{p:Prog}(hs:p.size<=10000000){l:List cM}(hl:l.length<=65536)(hf:bz p 0 l=is)(J: ∀x∈l,x.fact.args.length<=1000000000∧x.up.length<=10000000): ∀x∈l,NOk p x:=by
 intro x C;obtain⟨i,hi,y⟩:=xi l 0 hf (by omega) x C;have hv:=(fX l 0 hf x C).2;have a0:p.aw.length+(p.aw.map fun d=>d.types.length).sum+p.rules.length+(p.rules.map ar.size).sum<=10000000:=hs;have b0:(bW p).length=p.rules.length+1:=by simp[bW]
 have A:=CO p x.fact.rel p.aw.length;have B:=J x C;unfold j3 at y;simp only[TZ,decide_eq_true_eq]at y;obtain⟨D,h2,h3,h4,F⟩:=y;refine⟨fun a Y Z=>?_,⟨D,by omega⟩,fun u hu=>?_,⟨A.1,Int.le_trans A.2 (by omega)⟩,B.1,by omega⟩
 .have j:=hv a Y;unfold ch at j;rw[am Z]at j;split at j
  .rename_i G;exact G.2
  .cases j
 .have j:=T7.1 F u hu;unfold kT at j;simp only[TZ,decide_eq_true_eq]at j;omega
theorem xU(hS:dE)(p:Prog)(hf:p.fit)(hs:p.size<=10000000)(ht:p.ts<=800000000){a0:TypeId}{v:IV}{kd:UInt8}{l:List cM}(hT:DD a0 v kd l)(Z: ∀x∈l,x.fact.args.length<=1000000000∧x.up.length<=10000000)
  (G:l.length<=65536->(b7 p).1=0->bz p 0 l=is->(bj p (bn p).toNat kd l).length<=50000000000000):Al.Pure prog 30 [ag p.c,.iv (.oj a0 v)] (dG p kd l):=by
 have d:(dG p kd l).low 0=is:=by
  unfold dG kJ
  repeat' split
  all_goals rfl
 have B: ∀x∈l,x.fact.args.length<=1000000000∧x.up.length<=1000000000:=fun x hx=>⟨(Z x hx).1,by have:=(Z x hx).2;omega⟩
 by_cases hg:l.length<=65536∧(b7 p).1=0∧bz p 0 l=is
 .obtain⟨y,F,A⟩:=hg;have u:=Cr y A;have hW:dG p kd l=kJ (bj p (bn p).toNat kd l):=by rw[dG,be (by omega),be (fun h=>h F),be (by rw[A];decide)]
  have he:bj p (bn p).toNat kd l=ja kd (bn p).toNat++enc (bm l).length++(bm l).flatMap xJ++gv p (bm l) l:=by rw[bj,lM];simp only[Tz];rfl
  have G:=G y F A;have j:=Cx hS p hf hs ht hT B (fun e t=>(e= .normal∧ ∃J,Wk t.nx J t (Na p l (ja kd (bn p).toNat++enc (bm l).length)))∨(e= .ret∧pH mB f30.results.toList (dG p kd l) e t)) (fun _ _ _ t h=> .inl ⟨rfl,h⟩) (fun t h=> .inr ⟨rfl,h⟩);have b0:=nv 10 (bm l).length;refine Li (l:=l) (p:=p) (bm l) (ja kd (bn p).toNat++enc (bm l).length) [(6,.iv (dF l)),(7,.iv (jq p)),(9,.iv (kW (bm l)))] (bi (bi (bi ac))) _ (by simp) d u.1 u.2 (by rw[Tn];show 9+_<=_;unfold enc;omega) j fun D=>?_;rw[hW,he];rw[he]at G;refine ep (L:=[]) (t:=wrS p (bm l) l (ja kd (bn p).toNat++enc (bm l).length++(bm l).flatMap xJ)) (wk I I I (bi (bi (bi (bi ac)))) ⟨⟨_,rfl,.of_eq I⟩,Tk I,rfl,⟨_,rfl,.of_eq I⟩,Tk I,rfl,hR I I I ac⟩ I) (JG p (bm l) l (ja kd (bn p).toNat++enc (bm l).length++(bm l).flatMap xJ) D y (OQ hs y A Z) (fun s=>?_) G);have Y:=Cp s (bm l).reverse;rw[Vt]at Y;exact⟨Y.1,Int.le_trans Y.2 (by have:=u.1;omega)⟩
 .have j:=Cx hS p hf hs ht hT B (fun e t=>(e= .normal∧ ∃J,Wk t.nx J t ⟨(14,.ptr 6 0)::(109,.cN (.func 113) [] [.ptr 14 0])::[(0,.sl 0 5 0 1)],[(6,dl (.cells [.ptr 5 0])),(5,dl (iJ 13 [])),(13,dl (n6 [])),(14,dl (.cells [.iv (kW [])]))],15⟩)∨(e= .ret∧pH mB f30.results.toList (dG p kd l) e t)) (fun y F A _ _=>absurd ⟨y,F,A⟩ hg) (fun t h=> .inr ⟨rfl,h⟩);refine Li (l:=l) (p:=p) [] [] [(0,.sl 0 5 0 1)] (bi ac) _ (by simp) d (by simp) (by simp) (by simp) j fun D=>?_;intro M N a w C;have h6:VR M N (· <17) (.sl 0 5 0 1) _:=C.2.1 0;generalize Array.getD _ _ _=z at h6
  cases h6 with
  |sl _ _ _ _ _ _ h0=>omega
theorem Fi(t:Tree)(d:t.size<=1000000000):DD 68 (.agg t.c) 1 (t.pre.take 65537) where
 bZ:=fun σ=>rfl
 OV:=⟨366,⟨⟨_,rfl,_,rfl,rfl,rfl⟩,⟨_,rfl,fun e h=>by cases h⟩⟩,JH t 65536 (by decide) d⟩
 kind:=Oq t.c
theorem Cn(L:List du)(d:L.length<=1000000000)(j: ∀x∈L,x.kids.length<=1000000000):DD 79 (.agg [bp 4 L du.c]) 2 (cE (L.take 65537)) where
 bZ:=fun σ=>rfl
 OV:=⟨367,⟨⟨_,rfl,_,rfl,rfl,rfl⟩,⟨_,rfl,fun e h=>by cases h⟩⟩,JN L 65536 (by decide) d j⟩
 kind:=Ot _
theorem Ov(a b:By):Al.Pure prog 80 [.iv (bp 1 a bb),.iv (bp 1 b bb)] (pB (kw ((⟨a.toArray⟩:ae)=⟨b.toArray⟩))):=by
 refine ai ab func80 I (by decide) ntmps80 I (by simp) I ?_;refine gA I (bF I (eR (ny ab a I I I I I I I I I (fun j d=>rfl)) I) ?_);rintro t rfl;refine gA I (bF I (eR (ny ab b I I I I I I I I I (fun j d=>rfl)) I) ?_);rintro t rfl;refine gA I (aN (by first|exact .inr I|exact .inl I) I (.of_eq ?_));rfl
theorem Ob{p:Prog}{t:Tree}{r:PV}(hw:Al.Pure prog 30 [ag p.c,.iv (.oj 68 (.agg t.c))] r){a:PV}{e:Int}(hr:r= .aZ [a,pI e])(ha: ∃x,a= .iv x):Al.Pure prog 11 [ag p.c,ag t.c] r:=by
 subst hr;obtain⟨x,rfl⟩:=ha;refine ai ab func11 I (by decide) ntmps11 I (by simp) I ?_;refine gA I (bF I (eR (nT I I (by intro d h;cases h) (cs:=t.c) I) I) ?_);rintro s rfl;refine gA I (aP (hw) I I I I I I ?_);refine gA I (aN (by first|exact .inr I|exact .inl I) I (.of_eq ?_));rfl
theorem JM{p:Prog}{L:List du}{r:PV}(hw:Al.Pure prog 30 [ag p.c,.iv (.oj 79 (.agg [bp 4 L du.c]))] r){a:PV}{e:Int}(hr:r= .aZ [a,pI e])(ha: ∃x,a= .iv x):Al.Pure prog 17 [ag p.c,.iv (bp 4 L du.c)] r:=by
 subst hr;obtain⟨x,rfl⟩:=ha;refine ai ab func17 I (by decide) ntmps17 I (by simp) I ?_;refine gA I (bF I (eR (nT I I (by intro d h;cases h) (cs:=[bp 4 L du.c]) I) I) ?_);rintro s rfl;refine gA I (aP (hw) I I I I I I ?_);refine gA I (aN (by first|exact .inr I|exact .inl I) I (.of_eq ?_));rfl
theorem QR{p:Prog}{x:IV}(d: ∀σ,(PV.iv x).bZ σ= .iv x){w b:By}(hw:Al.Pure prog 30 [ag p.c,.iv x] (.aZ [.iv (bp 1 w bb),pI 0])):Al.Pure prog 33 [ag p.c,.iv x,.iv (bp 1 b bb)] (pB (kw ((⟨w.toArray⟩:ae)=⟨b.toArray⟩))):=by
 refine ai ab func33 I (by decide) ntmps33 I (by simp) I ?_;refine gA I (aP (hw) I I I I I I ?_);refine gA I ?_;refine Tq (fun zz=>?_) (fun zz=>?_)<;>(try(exact absurd zz (by decide)))
 refine gA I (aP (Ov w b) I I I I I I ?_);refine gA I (aN (by first|exact .inr I|exact .inl I) I (.of_eq ?_));rfl
theorem MK{p:Prog}{x:IV}{e:Int}(he:e≠0){a:IV}{b:By}(hw:Al.Pure prog 30 [ag p.c,.iv x] (.aZ [.iv a,pI e])):Al.Pure prog 33 [ag p.c,.iv x,.iv (bp 1 b bb)] (pB jp):=by
 refine ai ab func33 I (by decide) ntmps33 I (by simp) I ?_;refine gA I (aP (hw) I I I I I I ?_);refine gA I ?_;refine Tq (fun zz=>?_) (fun zz=>?_)<;>(try(exact absurd (of_decide_eq_true zz) he))
 refine gA I (aN (by first|exact .inr I|exact .inl I) I (.of_eq ?_));rfl
theorem MM(b:By)(hb:b.length<=1000000000):Al.Pure prog 15 [.iv (bp 1 b bb)] (pI (i6 b)):=by
 refine ai ab func15 I (by decide) ntmps15 I (by simp) I ?_;refine gA I ?_;refine Tq (fun g1=>?_) (fun g1=>?_);rotate_left
 .have g1: ¬4<b.length:=by have:=of_decide_eq_false (g1.trans I);omega
  refine gA I (aN (by first|exact .inr I|exact .inl I) I (.of_eq ?_));rw[i6,be fun h=>g1 h.1];rfl
 have g1:4<b.length:=by have:=of_decide_eq_true g1;omega
 have x:(b.take 4).length=4:=by rw[TY];omega
 refine gA I (bF I (eR (qK ab I I I I I I (m:=4) I (by omega)) I) ?_);rintro t rfl;refine gA I (bF I (eR (ny ab (b.take 4) I I I I I I I I x.symm (fun j A=>?_)) I) ?_)
 .rw[x]at A;show bb (b.getD j co)=bb ((b.take 4).getD j 0);congr 1;simp[Wf,T4,A];rfl
 rintro t rfl;have G:b.getD 4 co=b.getD 4 0:=rfl;have u:(b.getD 4 0).toNat<256:=(b.getD 4 0).toNat_lt;have B: ∀r,(b.getD 4 0=1∨b.getD 4 0=2)->b.take 4=[80,68,71,49]->r=((b.getD 4 0).toNat:Int)->r=(i6 b:Int):=fun r C D F=>by rw[i6,am ⟨g1,D,C⟩];exact F
 have y: ∀k:UInt8,((b.getD 4 0).toNat:Int)=(k.toNat:Int)->b.getD 4 0=k:=fun k h=>UInt8.toNat_inj.1 (Xj h)
 have d:IntKind.i64.wrap ((b.getD 4 0).toNat:Int)=((b.getD 4 0).toNat:Int):=by
  generalize(b.getD 4 0).toNat=n at u;show(if(is&&kw ((n:Int) % 18446744073709551616>=9223372036854775808))=is then(n:Int) % 18446744073709551616-18446744073709551616 else(n:Int) % 18446744073709551616)=(n:Int)
  rw[be (by simp;omega)];omega
 refine gA I ?_;refine Tq (fun g2=>?_) (fun g2=>?_)
 .have g2:b.take 4=[80,68,71,49]:=by
   have h:=congrArg Xi (of_decide_eq_true g2);exact congrArg Array.toList h
  refine gA I ?_;refine Tq (fun g3=>?_) (fun g3=>?_)
  .have g3: ¬b.getD 4 0=1:=fun h=>absurd (of_decide_eq_false g3) (by rw[show b.getD (VB 4) co=b.getD 4 0 from rfl,h];decide)
   refine gA I ?_;refine Tq (fun g4=>?_) (fun g4=>?_)
   .have g4:b.getD 4 0=2:=y 2 (of_decide_eq_true g4);refine gA I (aN (by first|exact .inr I|exact .inl I) I (.of_eq ?_));exact congrArg pI (B _ (.inr g4) g2 d)
   .have g4: ¬b.getD 4 0=2:=fun h=>absurd (of_decide_eq_false g4) (by rw[show b.getD (VB 4) co=b.getD 4 0 from rfl,h];decide)
    refine gA I (aN (by first|exact .inr I|exact .inl I) I (.of_eq ?_));rw[i6,be fun h=>h.2.2.elim g3 g4];rfl
  .have g3:b.getD 4 0=1:=y 1 (of_decide_eq_true (g3.trans I));refine gA I (aN (by first|exact .inr I|exact .inl I) I (.of_eq ?_));exact congrArg pI (B _ (.inl g3) g2 d)
 .have g2: ¬b.take 4=[80,68,71,49]:=fun h=>absurd (of_decide_eq_false (g2.trans I)) (by rw[h];decide)
  refine gA I (aN (by first|exact .inr I|exact .inl I) I (.of_eq ?_));rw[i6,be fun h=>g2 h.2.1];rfl
abbrev oh(b:By)(s:RS):AO:= .cells [.iv (bp 1 b bb),pI s.p,pI s.f]
abbrev CJ(b:By)(s:RS):AH:=[(0,dl (oh b s))]
def gh(s:RS)(e:Int):RS:=if s.f=0 then⟨s.p,e⟩ else s
theorem p5(b:By)(s:RS)(e:Int):bC prog 116 [.ptr 0 0,pI e] [oh b s] (.aZ []) (CJ b (gh s e)) 1:=by
 refine aq ab func116 I (by decide) ntmps116 I (by simp) ?_;refine gA I ?_;refine Tq (fun g1=>?_) (fun g1=>?_)
 .have g1:s.f=0:=of_decide_eq_true g1;rw[gh,am g1];refine gA I (aD [] (by first|exact .inr I|exact .inl I) I (wk I I I (bi ac) ⟨⟨_,rfl,.of_eq I⟩,Tk I,rfl,ac⟩ I))
 .have g1: ¬s.f=0:=of_decide_eq_false g1;rw[gh,be g1];refine gA I (aD [] (by first|exact .inr I|exact .inl I) I (wk I I I (bi ac) ⟨⟨_,rfl,.of_eq I⟩,Tk I,rfl,ac⟩ I))
theorem wq(b:By)(s:RS):bC prog 115 [.ptr 0 0] [oh b s] (pB (kw (s.f=0))) (CJ b s) 1:=by
 refine aq ab func115 I (by decide) ntmps115 I (by simp) ?_;refine gA I ?_;refine Tq (fun zz=>?_) (fun zz=>?_)<;>(try(exact absurd zz (by decide)))
 refine gA I (aD [] (by first|exact .inr I|exact .inl I) I (wk I I I (bi ac) ⟨⟨_,rfl,.of_eq I⟩,Tk I,rfl,ac⟩ I))
theorem ua(b:By)(s:RS):bC prog 76 [.ptr 0 0] [oh b s] (pI s.f) (CJ b s) 1:=by
 refine aq ab func76 I (by decide) ntmps76 I (by simp) ?_;refine gA I ?_;refine Tq (fun zz=>?_) (fun zz=>?_)<;>(try(exact absurd zz (by decide)))
 refine gA I (aD [] (by first|exact .inr I|exact .inl I) I (wk I I I (bi ac) ⟨⟨_,rfl,.of_eq I⟩,Tk I,rfl,ac⟩ I))
def AM(b:By)(s:RS):Int:=if s.f=0∧s.p<b.length then 13 else s.f
theorem QN(b:By)(s:RS):bC prog 79 [.ptr 0 0] [oh b s] (pI (AM b s)) (CJ b s) 1:=by
 refine aq ab func79 I (by decide) ntmps79 I (by simp) ?_;refine gA I ?_;refine Tq (fun zz=>?_) (fun zz=>?_)<;>(try(exact absurd zz (by decide)))
 refine gA I ?_;refine Tq (fun g1=>?_) (fun g1=>?_)
 .have g1:s.f=0:=of_decide_eq_true g1;refine gA I ?_;refine Tq (fun g2=>?_) (fun g2=>?_)
  .have g2:s.p<b.length:=by have:=of_decide_eq_true g2;omega
   rw[AM,am ⟨g1,g2⟩];refine gA I (aD [] (by first|exact .inr I|exact .inl I) I (wk I I I (bi ac) ⟨⟨_,rfl,.of_eq I⟩,Tk I,rfl,ac⟩ I))
  .have g2: ¬s.p<b.length:=by have:=of_decide_eq_false g2;omega
   rw[AM,be fun h=>g2 h.2];refine gA I (aD [] (by first|exact .inr I|exact .inl I) I (wk I I I (bi ac) ⟨⟨_,rfl,.of_eq I⟩,Tk I,rfl,ac⟩ I))
 .have g1: ¬s.f=0:=of_decide_eq_false (g1.trans I);rw[AM,be fun h=>g1 h.1];refine gA I (aD [] (by first|exact .inr I|exact .inl I) I (wk I I I (bi ac) ⟨⟨_,rfl,.of_eq I⟩,Tk I,rfl,ac⟩ I))
theorem Pq: ∀c:Nat,c<256->(BitVec.ofInt IntKind.u8.bits (c:Int)&&&BitVec.ofInt IntKind.u8.bits 127).toNat=c % 128:=by
 intro c h;have d: ∀c:Fin 256,(BitVec.ofInt IntKind.u8.bits ((c.val:Nat):Int)&&&BitVec.ofInt IntKind.u8.bits 127).toNat=c.val % 128:=by decide+kernel
 exact d ⟨c,h⟩
theorem Ll(n:Nat)(h:n<18446744073709551616):IntKind.u64.wrap (n:Int)=(n:Int):=by
 have e:IntKind.u64.wrap (n:Int)=(n:Int) % 18446744073709551616:=rfl;rw[e];omega
theorem w8(n:Nat)(h:n<256):IntKind.u8.wrap (n:Int)=(n:Int):=by
 have e:IntKind.u8.wrap (n:Int)=(n:Int) % 256:=rfl;rw[e];omega
theorem ON(n:Nat)(h:n<18446744073709551616):(BitVec.ofInt 64 (n:Int)).toNat=n:=by
 rw[BitVec.toNat_ofInt];have:((n:Int) % ((2 ^ 64:Nat):Int))=(n:Int):=by
  show(n:Int) % 18446744073709551616=_;omega
 rw[this];rfl
theorem PA(x c i:Nat)(hi:i<=9)(C:x<128 ^ i)(hc:c<256)(G:i=9->c<=1):
  IntKind.u64.wrap ((BitVec.ofInt IntKind.u64.bits (x:Int)|||BitVec.ofInt IntKind.u64.bits (IntKind.u64.wrap (IntKind.u64.wrap (IntKind.u8.wrap ((BitVec.ofInt IntKind.u8.bits (c:Int)&&&BitVec.ofInt IntKind.u8.bits 127).toNat:Int))*2 ^ min ((7*(i:Int))).toNat IntKind.u64.bits))).toNat:Int)=((x+c % 128*128 ^ i:Nat):Int):=by
 rw[Pq c hc,w8 _ (by omega),Ll (c % 128) (by omega)];have A:(128:Nat) ^ i=2 ^ (7*i):=by rw[show(128:Nat)=2 ^ 7 from rfl,<-Nat.pow_mul]
 have J:min ((7*(i:Int))).toNat IntKind.u64.bits=7*i:=by
  show min _ 64=_;omega
 have j:c % 128*2 ^ (7*i)<18446744073709551616∧x+c % 128*2 ^ (7*i)<18446744073709551616:=by
  rw[A]at C;by_cases h:i=9
  .subst h;have:=G I;have u:c % 128<=1:=by omega
   have D:c % 128*2 ^ (7*9)<=1*2 ^ (7*9):=TN _ u;have F:(2:Nat) ^ (7*9)=9223372036854775808:=by decide
   omega
  .have u:2 ^ (7*i)<=2 ^ 56:=Nat.pow_le_pow_right (by decide) (by omega);have D:c % 128*2 ^ (7*i)<=127*2 ^ 56:=Nat.mul_le_mul (by omega) u;have F:(2:Nat) ^ 56=72057594037927936:=by decide
   omega
 rw[J];have d:(((c % 128:Nat):Int))*2 ^ (7*i)=((c % 128*2 ^ (7*i):Nat):Int):=by push_cast;rfl
 rw[d,Ll _ j.1];have B:x<2 ^ (7*i):=A▸C;have y:(BitVec.ofInt IntKind.u64.bits (x:Int)|||BitVec.ofInt IntKind.u64.bits ((c % 128*2 ^ (7*i):Nat):Int)).toNat=x+c % 128*2 ^ (7*i):=by
  show(BitVec.ofInt 64 (x:Int)|||BitVec.ofInt 64 ((c % 128*2 ^ (7*i):Nat):Int)).toNat=_;rw[BitVec.toNat_or,ON x (by omega),ON _ j.1,Nat.or_comm,Nat.mul_comm,<-Nat.two_pow_add_eq_or_of_lt B,V6]
 rw[y,Ll _ j.2,A]
def jR(b:By)(s:RS):Nat×Nat×RS:=match dec 0 0 (b.drop s.p) with
 | .ok n k=>(n,k,s)
 | .short=>(0,0,gh s 10)
 | .form=>(0,0,gh s 11)
structure NxJ (b:By) (s:RS) (i x:Nat):Prop where
 le:i<=9
 eq:dec 0 0 (b.drop s.p)=dec i x (b.drop (s.p+i))
 lt:x<128 ^ i
theorem FG(b:By)(s:RS)(hb:b.length<=1000000000)(hp:s.p<=1000000000):bC prog 118 [.ptr 0 0] [oh b s] (.aZ [pU (jR b s).1,pI (jR b s).2.1]) (CJ b (jR b s).2.2) 1:=by
 refine aq ab func118 I (by decide) ntmps118 I (by simp) ?_;refine gA I ?_;refine jD 0 10 (by decide) (fun i x=>⟨[(0,.ptr 0 0),(4,pU x),(7,pI i)],[(0,dl (oh b s))],1⟩) (NxJ b s) 0 [] ⟨by decide,rfl,by decide⟩
  (wk I I I (bi (bi (bi trivial))) ⟨⟨_,rfl,.of_eq I⟩,Tk I,rfl,ac⟩ I) fun i x hi D=>?_
 have A:=D.le;refine gA I ?_;refine Tq (fun zz=>?_) (fun zz=>?_)<;>(try(have h9:=of_decide_eq_false zz;omega))
 refine gA I ?_;refine Tq (fun g1=>?_) (fun g1=>?_)
 .have g1:b.length<=s.p+i:=by have:=of_decide_eq_true g1;omega
  have e:jR b s=(0,0,gh s 10):=by rw[jR,D.eq,WH g1];cases i<;>rfl
  rw[e];refine gA I (aE [0] (p5 b s 10) I I I I I I I I ?_);refine gA I (aD [] (by first|exact .inr I|exact .inl I) I (wk I I I (bi ac) ⟨⟨_,rfl,.of_eq I⟩,Tk I,rfl,ac⟩ I))
 have g1:s.p+i<b.length:=by have:=of_decide_eq_false g1;omega
 obtain⟨c,F⟩: ∃c,c=(b.getD (s.p+i) co).toNat:=⟨_,rfl⟩
 have j:c<256:=by rw[F];exact(b.getD (s.p+i) co).toNat_lt
 have d:((s.p:Int)+(i:Int)).toNat=s.p+i:=by omega
 have a0:b.drop (s.p+i)=b.getD (s.p+i) co::b.drop (s.p+i+1):=by
  rw[Vz g1];simp[Wf,Ts g1]
 have C:=D.eq;rw[a0,dec,<-F]at C;have y:(i=9∧1<c)∨(0<i∧c=0)->jR b s=(0,0,gh s 11):=fun h=>by rw[jR,C,am h]
 have J:c<128-> ¬((i=9∧1<c)∨(0<i∧c=0))->jR b s=(x+c % 128*128 ^ i,i+1,s):=fun Z h2=>by rw[jR,C,be h2,am Z]
 have Y: ¬c<128-> ¬((i=9∧1<c)∨(0<i∧c=0))->NxJ b s (i+1) (x+c % 128*128 ^ i):=fun Z h2=>by
  rw[be h2,be Z]at C;refine⟨by omega,C,?_⟩;have h3:=D.lt;have h4:c % 128*128 ^ i<=127*128 ^ i:=TN _ (by omega);rw[V9];omega
 refine gA I ?_;refine Tq (fun G=>?_) (fun G=>?_)
 .have G:i=9:=by have:=of_decide_eq_true G;omega
  refine gA I ?_;refine Tq (fun a2=>?_) (fun a2=>?_)
  .have a2: ¬c>1:=by have:=of_decide_eq_false a2;rw[d]at this;omega
   refine gA I ?_;refine Tq (fun a3=>?_) (fun a3=>?_)
   .refine gA I ?_;refine Tq (fun a4=>?_) (fun a4=>?_)
    .have a4:c=0:=by have:=of_decide_eq_true a4;rw[d]at this;omega
     have e:jR b s=(0,0,gh s 11):=y (by omega);rw[e];refine gA I (aE [0] (p5 b s 11) I I I I I I I I ?_);refine gA I (aD [] (by first|exact .inr I|exact .inl I) I (wk I I I (bi ac) ⟨⟨_,rfl,.of_eq I⟩,Tk I,rfl,ac⟩ I))
    .have a4: ¬c=0:=by have:=of_decide_eq_false a4;rw[d]at this;omega
     have u: ¬((i=9∧1<c)∨(0<i∧c=0)):=by omega
     refine gA I ?_;refine Tq (fun g3=>?_) (fun g3=>?_)
     .have g3:c<128:=by have:=of_decide_eq_true g3;rw[d]at this;omega
      rw[J g3 u];refine gA I (aD [] (by first|exact .inr I|exact .inl I) I (wk I I I ⟨.of_eq (congrArg (fun z=>PV.aZ [PV.iv (.v (.int .u64 z)),pI ((i:Int)+1)]) (by rw[d,<-F];exact PA x c i A D.lt j (by omega))),rfl,ac⟩ ⟨⟨_,rfl,.of_eq I⟩,Tk I,rfl,ac⟩ I))
     .have g3: ¬c<128:=by have:=of_decide_eq_false g3;rw[d]at this;omega
      have B:=Y g3 u;refine gA I ⟨by omega,_,[],B,wk I I I (bi ⟨.of_eq (congrArg (fun z=>PV.iv (.v (.int .u64 z))) (by rw[d,<-F];exact PA x c i A D.lt j (by omega))),rfl,bi ac⟩) ⟨⟨_,rfl,.of_eq I⟩,Tk I,rfl,ac⟩ I⟩
   .exact absurd (of_decide_eq_false (a3.trans I)) (by omega)
  .have a2:c>1:=by have:=of_decide_eq_true (a2.trans I);rw[d]at this;omega
   have e:jR b s=(0,0,gh s 11):=y (by omega);rw[e];refine gA I (aE [0] (p5 b s 11) I I I I I I I I ?_);refine gA I (aD [] (by first|exact .inr I|exact .inl I) I (wk I I I (bi ac) ⟨⟨_,rfl,.of_eq I⟩,Tk I,rfl,ac⟩ I))
 .have G: ¬i=9:=by have:=of_decide_eq_false (G.trans I);omega
  refine gA I ?_;refine Tq (fun a3=>?_) (fun a3=>?_)
  .have a3:0<i:=by have:=of_decide_eq_true a3;omega
   refine gA I ?_;refine Tq (fun a4=>?_) (fun a4=>?_)
   .have a4:c=0:=by have:=of_decide_eq_true a4;rw[d]at this;omega
    have e:jR b s=(0,0,gh s 11):=y (by omega);rw[e];refine gA I (aE [0] (p5 b s 11) I I I I I I I I ?_);refine gA I (aD [] (by first|exact .inr I|exact .inl I) I (wk I I I (bi ac) ⟨⟨_,rfl,.of_eq I⟩,Tk I,rfl,ac⟩ I))
   .have a4: ¬c=0:=by have:=of_decide_eq_false a4;rw[d]at this;omega
    have u: ¬((i=9∧1<c)∨(0<i∧c=0)):=by omega
    refine gA I ?_;refine Tq (fun g3=>?_) (fun g3=>?_)
    .have g3:c<128:=by have:=of_decide_eq_true g3;rw[d]at this;omega
     rw[J g3 u];refine gA I (aD [] (by first|exact .inr I|exact .inl I) I (wk I I I ⟨.of_eq (congrArg (fun z=>PV.aZ [PV.iv (.v (.int .u64 z)),pI ((i:Int)+1)]) (by rw[d,<-F];exact PA x c i A D.lt j (by omega))),rfl,ac⟩ ⟨⟨_,rfl,.of_eq I⟩,Tk I,rfl,ac⟩ I))
    .have g3: ¬c<128:=by have:=of_decide_eq_false g3;rw[d]at this;omega
     have B:=Y g3 u;refine gA I ⟨by omega,_,[],B,wk I I I (bi ⟨.of_eq (congrArg (fun z=>PV.iv (.v (.int .u64 z))) (by rw[d,<-F];exact PA x c i A D.lt j (by omega))),rfl,bi ac⟩) ⟨⟨_,rfl,.of_eq I⟩,Tk I,rfl,ac⟩ I⟩
  .have a3: ¬0<i:=by have:=of_decide_eq_false (a3.trans I);omega
   have u: ¬((i=9∧1<c)∨(0<i∧c=0)):=by omega
   refine gA I ?_;refine Tq (fun g3=>?_) (fun g3=>?_)
   .have g3:c<128:=by have:=of_decide_eq_true g3;rw[d]at this;omega
    rw[J g3 u];refine gA I (aD [] (by first|exact .inr I|exact .inl I) I (wk I I I ⟨.of_eq (congrArg (fun z=>PV.aZ [PV.iv (.v (.int .u64 z)),pI ((i:Int)+1)]) (by rw[d,<-F];exact PA x c i A D.lt j (by omega))),rfl,ac⟩ ⟨⟨_,rfl,.of_eq I⟩,Tk I,rfl,ac⟩ I))
   .have g3: ¬c<128:=by have:=of_decide_eq_false g3;rw[d]at this;omega
    have B:=Y g3 u;refine gA I ⟨by omega,_,[],B,wk I I I (bi ⟨.of_eq (congrArg (fun z=>PV.iv (.v (.int .u64 z))) (by rw[d,<-F];exact PA x c i A D.lt j (by omega))),rfl,bi ac⟩) ⟨⟨_,rfl,.of_eq I⟩,Tk I,rfl,ac⟩ I⟩
theorem qJ: ∀(l:By) (i a n k:Nat),dec i a l= .ok n k->i+1<=k∧k<=i+l.length
 | [],_,_,_,_,h=>by rw[dec]at h;cases h
 |c::r,i,a,n,k,h=>by
  rw[dec]at h;split at h
  .cases h
  .split at h
   .cases h;rw[TO];omega
   .have:=qJ r _ _ _ _ h;rw[TO];omega
theorem mU(b:By)(s:RS)(hf:s.f=0)(hp:s.p<=b.length):(∃n k,dec 0 0 (b.drop s.p)= .ok n k∧jR b s=(n,k,s)∧1<=k∧s.p+k<=b.length)∨(∃e:Int,(e=10∨e=11)∧jR b s=(0,0,⟨s.p,e⟩)∧(∀n k,dec 0 0 (b.drop s.p)≠ .ok n k)∧(dec 0 0 (b.drop s.p)= .short->e=10)∧(dec 0 0 (b.drop s.p)= .form->e=11)):=by
 unfold jR;cases h:dec 0 0 (b.drop s.p) with
 |ok n k=>
  have:=qJ _ _ _ _ _ h;rw[U5]at this;exact .inl ⟨n,k,rfl,rfl,by omega,by omega⟩
 |short=>exact .inr ⟨10,.inl I,(by show(0,0,gh s 10)=_;rw[gh,am hf]),(fun _ _ h=>nomatch h),(fun _=>rfl),(fun h=>nomatch h)⟩
 |form=>exact .inr ⟨11,.inr I,(by show(0,0,gh s 11)=_;rw[gh,am hf]),(fun _ _ h=>nomatch h),(fun h=>nomatch h),(fun _=>rfl)⟩
theorem qY(b:By)(s:RS)(most:Nat)(hb:b.length<=1000000000)(hp:s.p<=b.length):bC prog 75 [.ptr 0 0,pU most] [oh b s] (pU (bt b most s).1) (CJ b (bt b most s).2) 1:=by
 have u:=FG b s hb (by omega);refine aq ab func75 I (by decide) ntmps75 I (by simp) ?_;refine gA I (aE [0] (wq b s) I I I I I I I I ?_);refine gA I ?_;refine Tq (fun g1=>?_) (fun g1=>?_)
 .have g1: ¬s.f=0:=by simpa using g1
  rw[bt,be g1];refine gA I (aD [] (by first|exact .inr I|exact .inl I) I (wk I I I (bi ac) ⟨⟨_,rfl,.of_eq I⟩,Tk I,rfl,ac⟩ I))
 have g1:s.f=0:=by simpa using g1
 rcases mU b s g1 hp with⟨n,k,hd,y,A,B⟩|⟨e,C,y,hd,d,j⟩
 .rw[y]at u;refine gA I (aE [0] (u) I I I I I I I I ?_);refine gA I ?_;refine Tq (fun zz=>?_) (fun zz=>?_)<;>(try(simp at zz;omega))
  refine gA I ?_;refine Tq (fun g2=>?_) (fun g2=>?_)
  .have g2: ¬n<=most:=by have:=of_decide_eq_true g2;omega
   rw[bt,am g1,hd];simp only[be g2];refine gA I (aE [0] (p5 b s 12) I I I I I I I I ?_);rw[show gh s 12=⟨s.p,12⟩ from am g1];refine gA I ?_;refine Tq (fun zz=>?_) (fun zz=>?_)<;>(try(simp at zz;done))
   refine gA I (aD [] (by first|exact .inr I|exact .inl I) I (wk I I I (bi ac) ⟨⟨_,rfl,.of_eq I⟩,Tk I,rfl,ac⟩ I))
  .have g2:n<=most:=by have:=of_decide_eq_false g2;omega
   rw[bt,am g1,hd];simp only[am g2];refine gA I ?_;refine Tq (fun zz=>?_) (fun zz=>?_)<;>(try(exact absurd g1 (by simpa using zz)))
   refine gA I (aD [] (by first|exact .inr I|exact .inl I) I (wk I I I (bi ac) ⟨⟨_,rfl,.of_eq (by simp only[g1];rfl)⟩,Tk I,rfl,ac⟩ I))
 .rw[y]at u;refine gA I (aE [0] (u) I I I I I I I I ?_);have hu:bt b most s=(0,⟨s.p,e⟩):=by
   rw[bt,am g1];cases h:dec 0 0 (b.drop s.p) with
   |ok n k=>exact absurd h (hd n k)
   |short=>rw[d h]
   |form=>rw[j h]
  rw[hu];have x:e≠0:=by omega
  refine gA I ?_;refine Tq (fun zz=>?_) (fun zz=>?_)<;>(try(simp at zz;done))
  refine gA I ?_;refine Tq (fun zz=>?_) (fun zz=>?_)<;>(try(simp at zz;exact absurd zz x))
  refine gA I (aD [] (by first|exact .inr I|exact .inl I) I (wk I I I (bi ac) ⟨⟨_,rfl,.of_eq I⟩,Tk I,rfl,ac⟩ I))
theorem Sh{h:AH}(l:By):zg h 1 (.iv (bp 1 l bb))=dl (eL l):=by
 unfold zg;have e:TR 1 1=is:=rfl;simp only[e];exact congrArg dl (o5 l)
theorem D3(b:By)(hb:b.length<=1000000000):bC prog 73 [.iv (bp 1 b bb)] [] (.ptr 1 0) [(0,dl (n6 b)),(1,dl (.cells [.sl 0 0 b.length 1,pI 0,pI 0]))] 2:=by
 refine aq ab func73 I (by decide) ntmps73 I (by simp) ?_;refine gA I (bF I (tw (news:=eL b) (eu:=Px) (sz:=1) ab I I I I I I I (by decide) (by exact Sh b) (fe (fQ (fun _=>rfl) b)) (by show(eL b).length*1<=_;simp;omega) (by simp;omega) I) ?_);rintro t rfl;have d:(eL b).length=b.length:=T2 ..;rw[d];refine gA I (aD [1,2] (by first|exact .inr I|exact .inl I) I (wk I I I (bi ac) (hR I I I ⟨⟨_,rfl,.of_eq I⟩,Tk I,rfl,ac⟩) I))
theorem Q7(b:By)(s:RS)(n:Nat)(hb:b.length<=1000000000)(hp:s.p<=b.length)(hn:n<=b.length-s.p):bC prog 117 [.ptr 0 0,pI n] [oh b s] (.iv (.bU 1 n fun k=>bb (b.getD (s.p+k) co))) (CJ b ⟨s.p+n,s.f⟩) 1:=by
 refine aq ab func117 I (by decide) ntmps117 I (by simp) ?_;refine gA I ?_;refine Tq (fun g1=>?_) (fun g1=>?_)
 .exact absurd (of_decide_eq_true g1) (by omega)
 have d:((s.p:Int)+(n:Int)).toNat=s.p+n:=by omega
 have j:((s.p:Int)+(n:Int)-(n:Int)).toNat=s.p:=by omega
 have e:s.p+n-s.p=n:=by omega
 refine gA I (aD [] (by first|exact .inr I|exact .inl I) I (wk I I I ⟨.of_eq (by show PV.iv (.bU 1 (((s.p:Int)+(n:Int)).toNat-((s.p:Int)+(n:Int)-(n:Int)).toNat) fun k=>bb (b.getD (((s.p:Int)+(n:Int)-(n:Int)).toNat+k) co))=_;rw[d,j,e];rfl),rfl,ac⟩ ⟨⟨_,rfl,.of_eq I⟩,Tk I,rfl,ac⟩ I))
theorem QI(b:By)(s:RS)(n:Nat)(hb:b.length<=1000000000)(hp:s.p<=b.length)(hf:s.f=0)(hn:n<=b.length-s.p):bC prog 74 [.ptr 0 0,pI n] [oh b s] .any (CJ b ⟨s.p+n,s.f⟩) 1:=by
 refine aq ab func74 I (by decide) ntmps74 I (by simp) ?_;refine gA I (aE [0] (wq b s) I I I I I I I I ?_);refine gA I ?_;refine Tq (fun zz=>?_) (fun zz=>?_)<;>(try(simp[hf]at zz;done))
 refine gA I ?_;refine Tq (fun zz=>?_) (fun zz=>?_)<;>(try(have d:=of_decide_eq_true zz;omega))
 refine gA I (aE [0] (Q7 b s n hb hp hn) I I I I I I I I ?_);refine gA I (bF I (tw (news:=(Uk n).map fun k=>(bb (b.getD (s.p+k) co)).map PV.iv) (eu:=Px) (sz:=1) ab I I I I I I I (by decide) I (fe (fQ (fun _=>rfl) _)) (by show((Uk n).map _).length*1<=_;simp;omega) (by simp;omega) I) ?_);rintro t rfl;refine gA I (aD [] (by first|exact .inr I|exact .inl I) I (wk I I I ⟨(fun M N U x h=> .any _),rfl,ac⟩ ⟨⟨_,rfl,.of_eq I⟩,Tk I,rfl,ac⟩ I))
theorem QJ(b:By)(s:RS)(n:Nat)(hf:s.f≠0):bC prog 74 [.ptr 0 0,pI n] [oh b s] .any (CJ b s) 1:=by
 refine aq ab func74 I (by decide) ntmps74 I (by simp) ?_;refine gA I (aE [0] (wq b s) I I I I I I I I ?_);refine gA I ?_;refine Tq (fun zz=>?_) (fun zz=>?_)<;>(try(simp[hf]at zz;done))
 refine gA I (aD [] (by first|exact .inr I|exact .inl I) I (wk I I I ⟨(fun M N U x h=> .any _),rfl,ac⟩ ⟨⟨_,rfl,.of_eq I⟩,Tk I,rfl,ac⟩ I))
theorem DG(n:Int)(h1: -9223372036854775808<=n)(d:n<9223372036854775808):IntKind.i64.wrap n=n:=by
 show(if(is&&kw (n % 18446744073709551616>=9223372036854775808))=is then n % 18446744073709551616-18446744073709551616 else n % 18446744073709551616)=n;by_cases h:n % 18446744073709551616>=9223372036854775808
 .rw[am (by simpa using h)];omega
 .rw[be (by simpa using h)];omega
theorem Sb(n:Int)(h1:9223372036854775808<=n)(d:n<18446744073709551616):IntKind.i64.wrap n=n-18446744073709551616:=by
 show(if(is&&kw (n % 18446744073709551616>=9223372036854775808))=is then n % 18446744073709551616-18446744073709551616 else n % 18446744073709551616)=_;rw[am (by simp;omega)];omega
theorem Rn(n:Nat)(h:n<18446744073709551616):IntKind.i64.wrap (IntKind.u64.wrap ((BitVec.ofInt IntKind.u64.bits (n:Int)&&&BitVec.ofInt IntKind.u64.bits 1).toNat:Int))=((n % 2:Nat):Int):=by
 have e:(BitVec.ofInt IntKind.u64.bits (n:Int)&&&BitVec.ofInt IntKind.u64.bits 1).toNat=n % 2:=by
  show(BitVec.ofInt 64 (n:Int)&&&BitVec.ofInt 64 1).toNat=_;rw[BitVec.toNat_and,ON n h,show(BitVec.ofInt 64 1).toNat=1 from rfl,Nat.and_one_is_mod]
 rw[e,Ll _ (by omega),DG _ (by omega) (by omega)]
theorem Rv(n:Nat):((n:Int).fdiv (2 ^ min (1:Int).toNat IntKind.u64.bits))=((n/2:Nat):Int):=by
 rw[show(2:Int) ^ min (1:Int).toNat IntKind.u64.bits=2 from by decide,UT _ (by decide)];omega
theorem Sa(n:Nat)(h:n<18446744073709551616):IntKind.i64.wrap ((BitVec.ofInt IntKind.i64.bits (IntKind.i64.wrap ((n:Int).fdiv (2 ^ min (1:Int).toNat IntKind.u64.bits))) ^^^ BitVec.ofInt IntKind.i64.bits (-((n % 2:Nat):Int))).toNat:Int)=yR n:=by
 rw[Rv,DG ((n/2:Nat):Int) (by omega) (by omega)];show IntKind.i64.wrap ((BitVec.ofInt 64 ((n/2:Nat):Int) ^^^ BitVec.ofInt 64 (-((n % 2:Nat):Int))).toNat:Int)=yR n;unfold yR;by_cases d:n % 2=0
 .rw[am d,d,show(-((0:Nat):Int))=0 from rfl,Ca _ (by omega),DG _ (by omega) (by omega)]
 .rw[be d,show n % 2=1 by omega,show BitVec.ofInt 64 (-((1:Nat):Int))=BitVec.ofInt 64 18446744073709551615 from by decide,Cb _ (by omega),Sb _ (by omega) (by omega)];omega
theorem Q3(b:By)(s:RS)(lo hi:Int)(hb:b.length<=1000000000)(hp:s.p<=b.length):bC prog 119 [.ptr 0 0,pI lo,pI hi] [oh b s] (pI (kP b lo hi s).1) (CJ b (kP b lo hi s).2) 1:=by
 have y:=FG b s hb (by omega);refine aq ab func119 I (by decide) ntmps119 I (by simp) ?_;refine gA I (aE [0] (wq b s) I I I I I I I I ?_);refine gA I ?_;refine Tq (fun g1=>?_) (fun g1=>?_)
 .have g1: ¬s.f=0:=by simpa using g1
  rw[kP,be g1];refine gA I (aD [] (by first|exact .inr I|exact .inl I) I (wk I I I (bi ac) ⟨⟨_,rfl,.of_eq I⟩,Tk I,rfl,ac⟩ I))
 have g1:s.f=0:=by simpa using g1
 rcases mU b s g1 hp with⟨n,k,hd,B,C,D⟩|⟨e,F,B,hd,j,u⟩
 .rw[B]at y;have d:n<18446744073709551616:=(AR hd).1;refine gA I (aE [0] (y) I I I I I I I I ?_);refine gA I (GS 25 (p:=pI ((n % 2:Nat):Int)) (.of_eq (congrArg pI (Rn n d))) (go_neg I I I (by omega) (by omega) I ?_));have x:=Sa n d;refine gA I ?_;refine Tq (fun zz=>?_) (fun zz=>?_)<;>(try(simp at zz;omega))
  refine gA I ?_;refine Tq (fun g2=>?_) (fun g2=>?_)
  .have g2: ¬yR n<lo:=by have h:=of_decide_eq_false g2;rw[<-x];exact h
   refine gA I ?_;refine Tq (fun g3=>?_) (fun g3=>?_)
   .have g3:yR n>hi:=by have h:=of_decide_eq_true g3;rw[<-x];exact h
    rw[kP,am g1,hd];simp only[be (show¬(lo<=yR n∧yR n<=hi) by omega)];refine gA I (aE [0] (p5 b s 12) I I I I I I I I ?_);rw[show gh s 12=⟨s.p,12⟩ from am g1];refine gA I ?_;refine Tq (fun zz=>?_) (fun zz=>?_)<;>(try(simp at zz;done))
    refine gA I (aD [] (by first|exact .inr I|exact .inl I) I (wk I I I (bi ac) ⟨⟨_,rfl,.of_eq I⟩,Tk I,rfl,ac⟩ I))
   .have g3: ¬yR n>hi:=by have h:=of_decide_eq_false g3;rw[<-x];exact h
    rw[kP,am g1,hd];simp only[am (show lo<=yR n∧yR n<=hi by omega)];refine gA I ?_;refine Tq (fun zz=>?_) (fun zz=>?_)<;>(try(exact absurd g1 (by simpa using zz)))
    refine gA I (aD [] (by first|exact .inr I|exact .inl I) I (wk I I I ⟨.of_eq (congrArg pI x),rfl,ac⟩ ⟨⟨_,rfl,.of_eq (by simp only[g1];rfl)⟩,Tk I,rfl,ac⟩ I))
  .have g2:yR n<lo:=by have h:=of_decide_eq_true (g2.trans I);rw[<-x];exact h
   rw[kP,am g1,hd];simp only[be (show¬(lo<=yR n∧yR n<=hi) by omega)];refine gA I (aE [0] (p5 b s 12) I I I I I I I I ?_);rw[show gh s 12=⟨s.p,12⟩ from am g1];refine gA I ?_;refine Tq (fun zz=>?_) (fun zz=>?_)<;>(try(simp at zz;done))
   refine gA I (aD [] (by first|exact .inr I|exact .inl I) I (wk I I I (bi ac) ⟨⟨_,rfl,.of_eq I⟩,Tk I,rfl,ac⟩ I))
 .rw[B]at y;refine gA I (aE [0] (y) I I I I I I I I ?_);refine gA I (GS 25 (p:=pI ((0 % 2:Nat):Int)) (.of_eq (congrArg pI (Rn 0 (by decide)))) (go_neg I I I (by decide) (by decide) I ?_));have hu:kP b lo hi s=(0,⟨s.p,e⟩):=by
   rw[kP,am g1];cases h:dec 0 0 (b.drop s.p) with
   |ok n k=>exact absurd h (hd n k)
   |short=>rw[j h]
   |form=>rw[u h]
  rw[hu];have A:e≠0:=by omega
  refine gA I ?_;refine Tq (fun zz=>?_) (fun zz=>?_)<;>(try(simp at zz;done))
  refine gA I ?_;refine Tq (fun zz=>?_) (fun zz=>?_)<;>(try(simp at zz;exact absurd zz A))
  refine gA I (aD [] (by first|exact .inr I|exact .inl I) I (wk I I I (bi ac) ⟨⟨_,rfl,.of_eq I⟩,Tk I,rfl,ac⟩ I))
theorem MO(b:By)(s:RS)(n:Nat)(hb:b.length<=1000000000)(hp:s.p<=b.length)(hn:b.length-s.p<n):bC prog 117 [.ptr 0 0,pI n] [oh b s] (.iv (bp 1 ([]:By) bb)) (CJ b (gh s 10)) 1:=by
 refine aq ab func117 I (by decide) ntmps117 I (by simp) ?_;refine gA I ?_;refine Tq (fun g1=>?_) (fun g1=>?_)
 .refine gA I (aE [0] (p5 b s 10) I I I I I I I I ?_);refine gA I (aD [] (by first|exact .inr I|exact .inl I) I (wk I I I ⟨.nil _ _,rfl,ac⟩ ⟨⟨_,rfl,.of_eq I⟩,Tk I,rfl,ac⟩ I))
 .exact absurd (of_decide_eq_false g1) (by omega)
theorem QH(b:By)(s:RS)(n:Nat)(hb:b.length<=1000000000)(hp:s.p<=b.length)(hf:s.f=0)(hn:b.length-s.p<n):bC prog 74 [.ptr 0 0,pI n] [oh b s] .any (CJ b (gh s 10)) 1:=by
 refine aq ab func74 I (by decide) ntmps74 I (by simp) ?_;refine gA I (aE [0] (wq b s) I I I I I I I I ?_);refine gA I ?_;refine Tq (fun zz=>?_) (fun zz=>?_)<;>(try(simp[hf]at zz;done))
 refine gA I ?_;refine Tq (fun zz=>?_) (fun zz=>?_)<;>(try(have d:=of_decide_eq_true zz;omega))
 refine gA I (aE [0] (MO b s n hb hp hn) I I I I I I I I ?_);refine gA I (bF I (tw (news:=[]) (eu:=Px) (sz:=1) ab I I I I I I I (by decide) I (by simp) (by decide) (by decide) I) ?_);rintro t rfl;refine gA I (aD [] (by first|exact .inr I|exact .inl I) I (wk I I I ⟨(fun M N U x h=> .any _),rfl,ac⟩ ⟨⟨_,rfl,.of_eq I⟩,Tk I,rfl,ac⟩ I))
theorem QM(b:By)(s:RS)(n:Nat)(hb:b.length<=1000000000)(hp:s.p<=b.length):bC prog 74 [.ptr 0 0,pI n] [oh b s] .any (CJ b (vM b n s)) 1:=by
 unfold vM;split
 .rename_i d;split
  .rename_i j;have h:=QI b s n hb hp d j;rw[d]at h;exact h
  .rename_i j;have h:=QH b s n hb hp d (by omega);rw[gh,am d]at h;exact h
 .rename_i d;exact QJ b s n d
theorem Fl(b:By)(q n k:Nat)(h:k<n):b.getD (q+k) co=((b.drop q).take n).getD k 0:=by
 simp[Wf,T4,h,Uz];rfl
theorem Oc(b:By)(s:RS)(most:Nat)(hm:most<=1000000000)(hb:b.length<=1000000000)(hp:s.p<=b.length):bC prog 77 [.ptr 0 0,pI most] [oh b s] (pS (y8 (fG b most s).1)) (CJ b (fG b most s).2) 1:=by
 have A:=FG b s hb (by omega);refine aq ab func77 I (by decide) ntmps77 I (by simp) ?_;refine gA I (aE [0] (wq b s) I I I I I I I I ?_);refine gA I ?_;refine Tq (fun g1=>?_) (fun g1=>?_)
 .have g1: ¬s.f=0:=by simpa using g1
  rw[fG,be g1];refine gA I (aD [] (by first|exact .inr I|exact .inl I) I (wk I I I (bi ac) ⟨⟨_,rfl,.of_eq I⟩,Tk I,rfl,ac⟩ I))
 have g1:s.f=0:=by simpa using g1
 rcases mU b s g1 hp with⟨n,k,hd,C,G,J⟩|⟨e,Z,C,hd,d,u⟩
 .rw[C]at A;have x:=Ll most (by omega);refine gA I (aE [0] (A) I I I I I I I I ?_);refine gA I ?_;refine Tq (fun zz=>?_) (fun zz=>?_)<;>(try(simp at zz;omega))
  refine gA I ?_;refine Tq (fun zz=>?_) (fun zz=>?_)<;>(try(simp at zz;omega))
  refine gA I ?_;refine Tq (fun g2=>?_) (fun g2=>?_)
  .have g2:n<=most:=by have h:=of_decide_eq_false g2;rw[x]at h;omega
   refine gA I ?_;refine Tq (fun zz=>?_) (fun zz=>?_)<;>(try(have h:=of_decide_eq_true zz;omega))
   refine gA I ?_;refine Tq (fun zz=>?_) (fun zz=>?_)<;>(try(exact absurd g1 (by simpa using zz)))
   have y:=DG n (by omega) (by omega);by_cases g3:n<=b.length-(s.p+k)
   .have D:fG b most s=((b.drop (s.p+k)).take n,⟨s.p+k+n,0⟩):=by
     rw[fG,am g1,hd];simp only[am g2,am g3]
    rw[D];refine gA I (aE [0] (bC.le (aa:=[.ptr 0 0,pI (IntKind.i64.wrap (n:Int))]) (Q7 b ⟨s.p+k,s.f⟩ n hb (by show s.p+k<=_;omega) g3) ⟨.refl _,.of_eq (congrArg pI y),ac⟩) I I I I I I I I ?_);have Y:n=((b.drop (s.p+k)).take n).length:=by rw[TY,U5];omega
    refine gA I (bF I (eR (ny ab ((b.drop (s.p+k)).take n) I I I I I I I I Y (fun j F=>?_)) I) ?_)
    .exact congrArg bb (Fl b (s.p+k) n j (by omega))
    rintro t rfl;refine gA I ?_;refine Tq (fun zz=>?_) (fun zz=>?_)<;>(try(exact absurd g1 (by simpa using zz)))
    refine gA I (aD [] (by first|exact .inr I|exact .inl I) I (wk I I I (bi ac) ⟨⟨_,rfl,.of_eq (by simp only[g1];rfl)⟩,Tk I,rfl,ac⟩ I))
   .have D:fG b most s=([],⟨s.p,10⟩):=by
     rw[fG,am g1,hd];simp only[am g2,be g3]
    rw[D];refine gA I (aE [0] (bC.le (aa:=[.ptr 0 0,pI (IntKind.i64.wrap (n:Int))]) (MO b ⟨s.p+k,s.f⟩ n hb (by show s.p+k<=_;omega) (by show b.length-(s.p+k)<_;omega)) ⟨.refl _,.of_eq (congrArg pI y),ac⟩) I I I I I I I I ?_);rw[show gh ⟨s.p+k,s.f⟩ 10=⟨s.p+k,10⟩ from am g1];refine gA I (bF I (eR (ny ab ([]:By) I I I I I I I I I (fun j F=>absurd F (by simp))) I) ?_);rintro t rfl;refine gA I ?_;refine Tq (fun zz=>?_) (fun zz=>?_)<;>(try(simp at zz;done))
    refine gA I (aD [] (by first|exact .inr I|exact .inl I) I (wk I I I (bi ac) ⟨⟨_,rfl,.of_eq I⟩,Tk I,rfl,ac⟩ I))
  .have g2: ¬n<=most:=by have h:=of_decide_eq_true (g2.trans I);rw[x]at h;omega
   rw[fG,am g1,hd];simp only[be g2];refine gA I (aE [0] (p5 b s 12) I I I I I I I I ?_);rw[show gh s 12=⟨s.p,12⟩ from am g1];refine gA I ?_;refine Tq (fun zz=>?_) (fun zz=>?_)<;>(try(simp at zz;done))
   refine gA I (aD [] (by first|exact .inr I|exact .inl I) I (wk I I I (bi ac) ⟨⟨_,rfl,.of_eq I⟩,Tk I,rfl,ac⟩ I))
 .rw[C]at A;refine gA I (aE [0] (A) I I I I I I I I ?_);have hu:fG b most s=([],⟨s.p,e⟩):=by
   rw[fG,am g1];cases h:dec 0 0 (b.drop s.p) with
   |ok n k=>exact absurd h (hd n k)
   |short=>rw[d h]
   |form=>rw[u h]
  rw[hu];have B:e≠0:=by omega
  refine gA I ?_;refine Tq (fun zz=>?_) (fun zz=>?_)<;>(try(simp at zz;done))
  refine gA I ?_;refine Tq (fun zz=>?_) (fun zz=>?_)<;>(try(simp at zz;exact absurd zz B))
  refine gA I (aD [] (by first|exact .inr I|exact .inl I) I (wk I I I (bi ac) ⟨⟨_,rfl,.of_eq I⟩,Tk I,rfl,ac⟩ I))
end Go.Proofs.YtbhphmfbligliaaGreatDoor
namespace Go.Proofs.YtbhphmfbligliaaGreatDoor
open Go Go.Al Go.En
section
section
variable {b:By} {s:RS}
theorem eD{most:Nat}(h:s.p<=b.length):(bt b most s).2.p<=b.length:=by
 unfold bt;split
 .cases hd:dec 0 0 (b.drop s.p) with
  |ok n k=>
   have d:=qJ _ _ _ _ _ hd;rw[U5]at d;dsimp only;split
   .show s.p+k<=_;omega
   .exact h
  |short=>exact h
  |form=>exact h
 .exact h
theorem fF{most:Nat}:(bt b most s).1<=most:=by
 unfold bt;split
 .cases hd:dec 0 0 (b.drop s.p) with
  |ok n k=>
   dsimp only;split
   .assumption
   .exact TB _
  |short=>exact TB _
  |form=>exact TB _
 .exact TB _
theorem C7{lo hi:Int}(h:s.p<=b.length):(kP b lo hi s).2.p<=b.length:=by
 unfold kP;split
 .cases hd:dec 0 0 (b.drop s.p) with
  |ok n k=>
   have d:=qJ _ _ _ _ _ hd;rw[U5]at d;dsimp only;split
   .show s.p+k<=_;omega
   .exact h
  |short=>exact h
  |form=>exact h
 .exact h
theorem y1{most:Nat}(h:s.p<=b.length):(fG b most s).2.p<=b.length:=by
 unfold fG;split
 .cases hd:dec 0 0 (b.drop s.p) with
  |ok n k=>
   have d:=qJ _ _ _ _ _ hd;rw[U5]at d;dsimp only;split
   .split
    .rename_i j;show s.p+k+n<=_;omega
    .exact h
   .exact h
  |short=>exact h
  |form=>exact h
 .exact h
theorem CK{n:Nat}(h:s.p<=b.length):(vM b n s).p<=b.length:=by
 unfold vM;split
 .split
  .show s.p+n<=_;omega
  .exact h
 .exact h
end
theorem wg{b:By}{most:Nat}: ∀(n:Nat) {s:RS},s.p<=b.length->(dH b most n s).2.p<=b.length∧(dH b most n s).1.length<=n
 |0,s,h=>⟨h,Tv _⟩
 |n+1,s,h=>by
  rw[dH];split
  .have:=wg (most:=most) n (y1 (most:=most) h);exact⟨this.1,by simp only[TO];omega⟩
  .exact⟨h,TB _⟩
theorem vm{b:By}{S:List ae}: ∀(ks:List Int) {s:RS},s.p<=b.length->(fp b S ks s).2.p<=b.length∧ ∀l,(fp b S ks s).1=dl l->l.length=ks.length
 | [],s,h=>⟨h,fun l d=>by cases d;rfl⟩
 |k::ks,s,h=>by
  rw[fp];split
  .have j:=vm (S:=S) ks (C7 (lo:= -2147483647) (hi:=2147483647) h);cases hx:fp b S ks (kP b (-2147483647) 2147483647 s).2 with
   |mk o s2=>
    rw[hx]at j;cases o with
    |none=>exact⟨j.1,fun l d=>nomatch d⟩
    |some l0=>exact⟨j.1,fun l d=>by cases d;rw[TO,TO,j.2 l0 I]⟩
  .split
   .have j:=vm (S:=S) ks (eD (most:=4194304) h);cases hx:fp b S ks (bt b 4194304 s).2 with
    |mk o s2=>
     rw[hx]at j;cases o with
     |none=>exact⟨j.1,fun l d=>nomatch d⟩
     |some l0=>exact⟨j.1,fun l d=>by cases d;rw[TO,TO,j.2 l0 I]⟩
   .exact⟨eD h,fun l d=>nomatch d⟩
theorem Ci{b:By}: ∀(n:Nat) {s:RS},s.p<=b.length->(jM b n s).2.p<=b.length∧(jM b n s).1.length=n∧ ∀u∈(jM b n s).1,0<=u∧u<=65536
 |0,s,h=>⟨h,rfl,fun u hu=>nomatch hu⟩
 |n+1,s,h=>by
  have d:=Ci n (eD (most:=65536) h);have j:=fF (b:=b) (s:=s) (most:=65536);rw[jM];refine⟨d.1,by rw[TO,d.2.1],fun u hu=>?_⟩;rcases TQ.1 hu with rfl|hu
  .omega
  .exact d.2.2 u hu
structure Th (p:Prog) (lines:Bool) (n:cM):Prop where
 args:n.fact.args.length<=(p.aw.map fun d=>d.types.length).sum
 kids:0<=n.kids
 want:n.kids=(bW p).getD n.c8.toNat 0
 up:xH lines n
 Sd: ∀u∈n.up,0<=u∧u<=65536
theorem wa{p:Prog}(i:Nat):0<=(bW p).getD i 0:=by
 unfold bW;cases i with
 |zero=>exact Vb _
 |succ i=>
  rw[UK,Tr,Tu];cases p.rules[i]? with
  |none=>exact Vb _
  |some r=>exact Int.natCast_nonneg _
theorem yV{p:Prog}(hs:p.size<=10000000)(i:Nat):((bW p).getD i 0).toNat<=10000000:=by
 unfold bW;cases i with
 |zero=>exact TB _
 |succ i=>
  rw[UK,Tr,Tu];cases h:p.rules[i]? with
  |none=>exact TB _
  |some r=>
   have x:r∈p.rules:=Uv h;have A:r.size<=(p.rules.map ar.size).sum:=by
    obtain⟨j,u,rfl⟩:=Vi.1 x;have:=kr ar.size p.rules j u;simpa[Tr,u]using this
   have B:r.size=r.head.ak.length+Lit.an r.body:=rfl;have C:=Lit.aA r.body;have D:r.body.countP (fun l=>kw (l.kind=1))<=r.body.length:=WM;have y:p.aw.length+(p.aw.map fun d=>d.types.length).sum+p.rules.length+(p.rules.map ar.size).sum<=10000000:=hs;show((r.body.countP (fun l=>kw (l.kind=1)):Nat):Int).toNat<=_;omega
theorem CV{p:Prog}{b:By}{S:List ae}{lines:Bool}{s:RS}(h:s.p<=b.length):(qp p b S lines s).2.p<=b.length∧ ∀n,(qp p b S lines s).1=dl n->Th p lines n:=by
 have D:=eD (most:=64) h;unfold qp;dsimp only;split
 .rename_i J;have B:=vm (S:=S) (p.aw.getD (bt b 64 s).1 co).types D;cases hx:fp b S (p.aw.getD (bt b 64 s).1 co).types (bt b 64 s).2 with
  |mk o s2=>
   rw[hx]at B;cases o with
   |none=>exact⟨B.1,fun n j=>nomatch j⟩
   |some l=>
    have A:=eD (most:=256) B.1;dsimp only at A ⊢;split
    .have hu:=Ci ((bW p).getD (bt b 256 s2).1 0).toNat A;have Y:=wa (p:=p) (bt b 256 s2).1;have y:l.length<=(p.aw.map fun d=>d.types.length).sum:=by
      rw[B.2 l I];exact kr (fun d:Decl=>d.types.length) p.aw _ J.2
     have key: ∀x:List Int×RS,x=(if lines=is then jM b ((bW p).getD (bt b 256 s2).1 0).toNat (bt b 256 s2).2 else([],(bt b 256 s2).2))->x.2.p<=b.length∧xH lines ⟨⟨(p.aw.getD (bt b 64 s).1 co).name,l⟩,(bt b 256 s2).1,(bW p).getD (bt b 256 s2).1 0,x.1⟩∧ ∀u∈x.1,0<=u∧u<=65536:=by
      rintro x rfl;cases lines with
      |true=>exact⟨hu.1,hu.2.1,hu.2.2⟩
      |false=>exact⟨A,rfl,fun u hu=>nomatch hu⟩
     obtain⟨C,F,G⟩:=key _ I;generalize(if lines=is then jM b ((bW p).getD (bt b 256 s2).1 0).toNat (bt b 256 s2).2 else([],(bt b 256 s2).2))=x at C F G ⊢;split
     .exact⟨C,fun n j=>by
       cases j
       exact⟨y,Y,rfl,F,G⟩⟩
     .exact⟨C,fun n j=>nomatch j⟩
    .exact⟨A,fun n j=>nomatch j⟩
 .exact⟨D,fun n j=>nomatch j⟩
theorem Aj{p:Prog}{b:By}{S:List ae}{lines:Bool}: ∀(n:Nat) {s:RS},s.p<=b.length->(gd p b S lines n s).2.p<=b.length∧ ∀l,(gd p b S lines n s).1=dl l->l.length<=n∧ ∀x∈l,Th p lines x
 |0,s,h=>⟨h,fun l d=>by cases d;exact⟨Tv _,fun x j=>nomatch j⟩⟩
 |n+1,s,h=>by
  rw[gd];split
  .have A:=CV (p:=p) (S:=S) (lines:=lines) h;cases j:qp p b S lines s with
   |mk o s1=>
    rw[j]at A;cases o with
    |none=>exact⟨A.1,fun l d=>nomatch d⟩
    |some x=>
     have u:=Aj (p:=p) (S:=S) (lines:=lines) n A.1;dsimp only at u ⊢;cases hy:gd p b S lines n s1 with
     |mk o2 s2=>
      rw[hy]at u;cases o2 with
      |none=>exact⟨u.1,fun l d=>nomatch d⟩
      |some l0=>
       refine⟨u.1,fun l d=>?_⟩;cases d;have:=u.2 l0 I;refine⟨by rw[TO];omega,fun y hy=>?_⟩;rcases TQ.1 hy with rfl|hy
       .exact A.2 _ I
       .exact this.2 y hy
  .exact⟨h,fun l d=>by cases d;exact⟨TB _,fun x j=>nomatch j⟩⟩
theorem Fp(b:By):(kq b).2.p<=b.length:=by
 unfold kq;exact(wg _ (eD (CK (TB _)))).1
theorem uj{p:Prog}{b:By}{kd:Nat}{l:List cM}(h:kz p b kd=dl l):i6 b=kd∧l.length<=65536∧ ∀x∈l,Th p (kd==2) x:=by
 unfold kz at h;split at h
 .rename_i j;have d:=Aj (p:=p) (b:=b) (S:=(kq b).1) (lines:=kd==2) (bt b 65536 (kq b).2).1 (eD (most:=65536) (Fp b));have u:=fF (b:=b) (s:=(kq b).2) (most:=65536);unfold B5 at h;dsimp only at h;cases hx:gd p b (kq b).1 (kd==2) (bt b 65536 (kq b).2).1 (bt b 65536 (kq b).2).2 with
  |mk o s2=>
   rw[hx]at h d;cases o with
   |none=>cases h
   |some l0=>
    dsimp only at h;split at h
    .cases h;have:=d.2 l I;exact⟨j,by omega,this.2⟩
    .cases h
 .cases h
mutual
theorem Tree.CM: ∀(t u:Tree) {l r:List cM},t.pre++l=u.pre++r->t=u∧l=r
 | .mk f q ks,.mk f' q' ks',l,r,h=>by
  rw[Tree.pre,Tree.pre,TV,TV]at h;injection h with h1 h2
  injection h1 with e1 e2 e3 e4
  obtain⟨d,j⟩:=Tree.uk ks ks' (Xj e3) h2;subst e1 e2 d;exact⟨rfl,j⟩
theorem Tree.uk: ∀(ks d:List Tree) {l r:List cM},ks.length=d.length->Tree.fw ks++l=Tree.fw d++r->ks=d∧l=r
 | [],[],_,_,_,h=>⟨rfl,h⟩
 | [],_::_,_,_,h,_=>nomatch h
 |_::_,[],_,_,h,_=>nomatch h
 |t::ks,u::d,l,r,hl,h=>by
  rw[Tree.fw,Tree.fw,Tz,Tz]at h;obtain⟨j,y⟩:=Tree.CM t u h;obtain⟨x,A⟩:=Tree.uk ks d (by simpa using hl) y;exact⟨by rw[j,x],A⟩
end
noncomputable def ie(l:List cM):Option (Tree×List cM):=
 open Classical in if h: ∃x:Tree×List cM,l=x.1.pre++x.2 then dl h.choose else io
theorem po{l r:List cM}{t:Tree}(h:l=t.pre++r):ie l=dl (t,r):=by
 have d: ∃x:Tree×List cM,l=x.1.pre++x.2:=⟨(t,r),h⟩
 unfold ie;rw[dif_pos d];obtain⟨j,u⟩:=Tree.CM _ _ (d.choose_spec.symm.trans h);congr 1;exact Prod.ext j u
theorem uQ{l:List cM}(h: ∀t r,l≠Tree.pre t++r):ie l=io:=by
 unfold ie;rw[dif_neg];rintro⟨x,hx⟩;exact h _ _ hx
theorem uR{l r:List cM}{t:Tree}(h:ie l=dl (t,r)):l=t.pre++r:=by
 unfold ie at h;split at h
 .rename_i d;injection h with h
  have:=d.choose_spec;rw[h]at this;exact this
 .cases h
end
abbrev Pl(p:Prog)(S:List ae)(ln:Bool):AO:= .cells [.ptr 1 0,.iv (jq p),.iv (strs S),.kb ln]
def Sr(o:Option cM)(q:PV):Prop:=match o with
 |some n=>q= .aZ [ag n.c,pB is]
 |none=> ∃n:cM,q= .aZ [ag n.c,pB jp]
def cM.z:cM:=⟨⟨Tx,[]⟩,0,0,[]⟩
theorem nzr:aj (.agg [pS Tx,km,pI 0,pI 0,km]) (ag cM.z.c):= .agg ⟨.refl _,.nil _ _,.refl _,.refl _,.nil _ _,ac⟩
theorem Fz{α:Type}[Inhabited α](i sz:Nat)(f:α->List IV):aj (.sl i 0 0 sz) (.iv (bp sz ([]:List α) f)):=fun M N U x h=>by
 cases h with
 |sl _ _ _ _ _ _ h0=>omega
 |lK=>exact .iv _ _ (.fN _ _ _ _)
abbrev H0(p:Prog)(S:List ae)(ln:Bool)(b:By)(s:RS):AH:=[(0,dl (Pl p S ln)),(1,dl (oh b s))]
def qM(A:List ei):Option (List ei)×RS->Option (List ei)×RS
 |(dl l,s)=>(dl (A++l),s)
 |(io,s)=>(io,s)
theorem u7(A:List ei)(v:ei)(x:Option (List ei)×RS):qM A (qM [v] x)=qM (A++ [v]) x:=by
 obtain⟨o,s⟩:=x;cases o with
 |none=>rfl
 |some l=>simp[qM]
theorem EI(x:Option (List ei)×RS):qM [] x=x:=by
 obtain⟨o,s⟩:=x;cases o<;>rfl
theorem ER{b:By}{S:List ae}{k:Int}{ks:List Int}{s:RS}(h:k=1):fp b S (k::ks) s=qM [⟨k,(kP b (-2147483647) 2147483647 s).1,Tx⟩] (fp b S ks (kP b (-2147483647) 2147483647 s).2):=by
 rw[fp,am h];cases hx:fp b S ks (kP b (-2147483647) 2147483647 s).2 with
 |mk o s2=>cases o<;>rfl
theorem EP{b:By}{S:List ae}{k:Int}{ks:List Int}{s:RS}(h: ¬k=1)(d:(bt b 4194304 s).1<S.length):fp b S (k::ks) s=qM [⟨k,0,S.getD (bt b 4194304 s).1 co⟩] (fp b S ks (bt b 4194304 s).2):=by
 rw[fp,be h,am d];cases hx:fp b S ks (bt b 4194304 s).2 with
 |mk o s2=>cases o<;>rfl
theorem Hz{b:By}{S:List ae}{k:Int}{ks:List Int}{s:RS}(h: ¬k=1)(d: ¬(bt b 4194304 s).1<S.length):fp b S (k::ks) s=(io,(bt b 4194304 s).2):=by
 rw[fp,be h,be d]
theorem KL{α:Type}[Inhabited α]{l:List α}{i:Nat}(h:i<l.length):l.drop i=l.getD i co::l.drop (i+1):=by
 rw[Vz h,Tr,Ts h];rfl
structure Tg (b:By) (S:List ae) (T:List Int) (s1:RS) (i:Nat) (x:List ei×RS):Prop where
 le:x.2.p<=b.length
 len:x.1.length=i
 eq:fp b S T s1=qM x.1 (fp b S (T.drop i) x.2)
structure R7 (b:By) (ln:Bool) (K:Nat) (s3:RS) (i:Nat) (x:List Int×RS):Prop where
 le:x.2.p<=b.length
 len:x.1.length=i
 eq:jM b K s3=(x.1++(jM b (K-i) x.2).1,(jM b (K-i) x.2).2)
 off:ln=jp->x=([],s3)
theorem R7.step{b:By}{K:Nat}{u s:RS}{i:Nat}{U:List Int}(h:R7 b is K u i (U,s))(hi:i<K):R7 b is K u (i+1) (U++ [((bt b 65536 s).1:Int)],(bt b 65536 s).2):=by
 have d:=h.eq;have j:=h.len;dsimp only at d j;refine⟨eD h.le,by simp[j],?_,fun h=>nomatch h⟩;rw[d,show K-i=(K-(i+1))+1 by omega,jM];simp
set_option maxHeartbeats 1000000 in
theorem QW(p:Prog)(S:List ae)(ln:Bool)(b:By)(s:RS)(hS:S.length<=1000000000)(hb:b.length<=1000000000)(hp:s.p<=b.length)(hs:p.size<=10000000):Al.Fn Tryz.prog 78 [.ptr 0 0] [Pl p S ln,oh b s] (fun q h n=>Sr (qp p b S ln s).1 q∧h=H0 p S ln b (qp p b S ln s).2∧n=2):=by
 have l1:p.aw.length+(p.aw.map fun d=>d.types.length).sum+p.rules.length+(p.rules.map ar.size).sum<=10000000:=hs;have n1:(bW p).length=p.rules.length+1:=by simp[bW]
 have hU:=qY b s 64 hb hp;have i0:=eD (most:=64) hp;have n0:=fF (b:=b) (s:=s) (most:=64);unfold qp;rcases hx:bt b 64 s with⟨a,s1⟩;rw[hx]at hU i0 n0;dsimp only at hU i0 n0 ⊢;have t0:=ua b s1;refine mc ab Tryz.func78 I (by decide) Tryz.ntmps78 I (by simp) ?_;refine gA I (aE [1] (hU) I I I I I I I I ?_);refine gA I (aE [1] (t0) I I I I I I I I ?_);refine gA I ?_;refine Tq (fun g1=>?_) (fun g1=>?_);rotate_left
 .have g1: ¬s1.f=0:=by simpa using(g1.trans I)
  rw[be fun h=>g1 h.1];refine gA I (iO (r:= .aZ [ag cM.z.c,pB jp]) (h:=H0 p S ln b s1) (n:=2) [] (.inr I) I ⟨⟨cM.z,rfl⟩,rfl,rfl⟩ (wk I I I ⟨.aZ ⟨nzr,.refl _,ac⟩,rfl,ac⟩ ⟨⟨_,rfl,.of_eq I⟩,Tk I,rfl,⟨_,rfl,.of_eq I⟩,Tk I,rfl,ac⟩ I))
 have g1:s1.f=0:=by simpa using g1
 have s0:=Ll p.aw.length (by omega);refine gA I ?_;refine Tq (fun g2=>?_) (fun g2=>?_)
 .have g2: ¬a<p.aw.length:=by have h:=of_decide_eq_true g2;rw[s0]at h;omega
  rw[be fun h=>g2 h.2];refine gA I (iO (r:= .aZ [ag cM.z.c,pB jp]) (h:=H0 p S ln b s1) (n:=2) [] (.inr I) I ⟨⟨cM.z,rfl⟩,rfl,rfl⟩ (wk I I I ⟨.aZ ⟨nzr,.refl _,ac⟩,rfl,ac⟩ ⟨⟨_,rfl,.of_eq I⟩,Tk I,rfl,⟨_,rfl,.of_eq I⟩,Tk I,rfl,ac⟩ I))
 have g2:a<p.aw.length:=by have h:=of_decide_eq_false g2;rw[s0]at h;omega
 rw[am ⟨g1,g2⟩];have f1:=kr (fun d:Decl=>d.types.length) p.aw a g2;refine gA I ?_;refine ep (L:=[]) (t:=⟨[(0,.ptr 0 0),(2,.ptr 2 0),(4,.ptr 3 0),(54,.iv (bp 1 (p.aw.getD a co).types eO)),(55,pI (p.aw.getD a co).types.length),(56,pI 0)],[(0,dl (Pl p S ln)),(1,dl (oh b s1)),(2,dl (.cells [pS Tx,.iv (.v (.slice io 0 0)),pI 0,pI 0,.iv (.v (.slice io 0 0))])),(3,dl (.cells [pS (p.aw.getD a co).name,.iv (.v (.slice io 0 0)),pI 0,pI 0,.iv (.v (.slice io 0 0))]))],5⟩)
  (wk I I I (bi (bi (bi (bi (bi (bi trivial)))))) ⟨⟨_,rfl,.of_eq I⟩,Tk I,rfl,⟨_,rfl,.of_eq I⟩,Tk I,rfl,⟨_,rfl,.of_eq I⟩,Tk I,rfl,⟨_,rfl,.of_eq I⟩,Tk I,rfl,ac⟩ I) ?_
 refine fm 3 1 3 I I ?_;refine fm 3 4 1 I I ?_;refine jD 0 (p.aw.getD a co).types.length (TB _) (fun i x=>⟨[(0,.ptr 0 0),(2,.ptr 2 0),(4,.ptr 3 0),(54,.iv (bp 1 (p.aw.getD a co).types eO)),(55,pI (p.aw.getD a co).types.length),(56,pI i)],[(0,dl (Pl p S ln)),(1,dl (oh b x.2)),(2,dl (.cells [pS Tx,.iv (.v (.slice io 0 0)),pI 0,pI 0,.iv (.v (.slice io 0 0))])),(3,dl (.cells [pS (p.aw.getD a co).name,.sl 7 0 i 3,pI 0,pI 0,.sl 6 0 0 1])),(6,dl (.row 1 [])),(7,dl (aX 3 x.1 ei.c))],8⟩) (Tg b S (p.aw.getD a co).types s1) ([],s1) [5] ⟨i0,rfl,(EI _).symm⟩
  (wk I I I (bi (bi (bi (bi (bi (bi trivial)))))) ⟨⟨_,rfl,.of_eq I⟩,Tk I,rfl,⟨_,rfl,.of_eq I⟩,Tk I,rfl,⟨_,rfl,.of_eq I⟩,Tk I,rfl,⟨_,rfl,.of_eq I⟩,Tk I,rfl,⟨_,rfl,.of_eq I⟩,Tk I,(by intro k e he;simp at he),hR I I I trivial⟩ I) fun i x hi hJ=>?_
 obtain⟨A,Z⟩:=x;have C:=hJ.len;have J:=hJ.le;have B:=hJ.eq;dsimp only at C J B;refine gA I ?_;refine Tq (fun h1=>?_) (fun h1=>?_)
 .have h1:i<(p.aw.getD a co).types.length:=by simpa using h1
  rw[KL h1]at B;obtain⟨kd,d0⟩: ∃kd,kd=(p.aw.getD a co).types.getD i co:=⟨_,rfl⟩
  rw[<-d0]at B;refine gA I ?_;refine Tq (fun k1=>?_) (fun k1=>?_)
  .have k1:kd=1:=d0.trans (of_decide_eq_true k1);rw[ER k1,u7]at B;have hI:=Q3 b Z (-2147483647) 2147483647 hb J;have f0:Tg b S (p.aw.getD a co).types s1 (i+1) (A++ [⟨kd,(kP b (-2147483647) 2147483647 Z).1,Tx⟩],(kP b (-2147483647) 2147483647 Z).2):=⟨C7 J,by simp[C],B⟩
   generalize kP b (-2147483647) 2147483647 Z=y at*
   refine gA I (aE [1] (hI) I I I I I I I I ?_);refine gA I ⟨h1,_,[10],f0,wk I I I (bi (bi (bi (bi (bi (bi ac)))))) ⟨⟨_,rfl,.of_eq I⟩,Tk I,rfl,⟨_,rfl,.of_eq I⟩,Tk I,rfl,⟨_,rfl,.of_eq I⟩,Tk I,rfl,⟨_,rfl,.of_eq I⟩,Tk I,rfl,⟨_,rfl,.of_eq I⟩,Tk I,(by intro k e he;simp at he),hR I (by rw[TA,d0];rfl) I ac⟩ I⟩
  have k1: ¬kd=1:=fun h=>of_decide_eq_false k1 (d0.symm.trans h);have l0:=qY b Z 4194304 hb J;have m0:=eD (most:=4194304) J;have a1:=fF (b:=b) (s:=Z) (most:=4194304);have o0:=Hz (b:=b) (S:=S) (ks:=(p.aw.getD a co).types.drop (i+1)) (s:=Z) k1;have p0:=EP (b:=b) (S:=S) (ks:=(p.aw.getD a co).types.drop (i+1)) (s:=Z) k1;generalize bt b 4194304 Z=y at*
  obtain⟨u,su⟩:=y;dsimp only at l0 m0 a1 o0 p0;have r0:=Ll S.length (by omega);refine gA I (aE [1] (l0) I I I I I I I I ?_);refine gA I ?_;refine Tq (fun k2=>?_) (fun k2=>?_)
  .have k2: ¬u<S.length:=by have h:=of_decide_eq_true k2;rw[r0]at h;omega
   rw[o0 k2]at B;rw[B];refine ep (L:=[]) (t:=⟨[(0,.ptr 0 0),(2,.ptr 2 0),(4,.ptr 3 0)],[(0,dl (Pl p S ln)),(1,dl (oh b su)),(2,dl (.cells [pS Tx,.iv (.v (.slice io 0 0)),pI 0,pI 0,.iv (.v (.slice io 0 0))])),(3,dl (.cells [pS (p.aw.getD a co).name,.sl 7 0 i 3,pI 0,pI 0,.sl 6 0 0 1])),(6,dl (.row 1 [])),(7,dl (aX 3 A ei.c))],9⟩) (wk I I I (bi (bi (bi ac))) ⟨⟨_,rfl,.of_eq I⟩,Tk I,rfl,⟨⟨_,rfl,.of_eq I⟩,Tk I,rfl,⟨⟨_,rfl,.of_eq I⟩,Tk I,rfl,⟨⟨_,rfl,.of_eq I⟩,Tk I,rfl,⟨_,rfl,.of_eq I⟩,Tk I,(by intro k e he;simp at he),hR I I I ac⟩⟩⟩⟩ I) ?_;refine eW 7 (fun k=>ei.c (A.getD k co)) I (dq I) (by simp[AF.iw,PV.bh]) ⟨(by simp[AO.iw,bg,PV.bh]),(by simp[AO.iw,bg,PV.bh]),(by simp[AO.iw,bg,PV.bh]),(by simp[AO.iw,bg,PV.bh,C]),(by simp[AO.iw]),cX _ _ _ _ _ _,ac⟩ ?_;refine gA I (iO (r:= .aZ [ag (⟨⟨(p.aw.getD a co).name,A⟩,0,0,[]⟩:cM).c,pB jp]) (h:=H0 p S ln b su) (n:=2) [] (.inr I) I ⟨⟨_,rfl⟩,rfl,rfl⟩ ?_);refine wk I I I ⟨?_,rfl,ac⟩ ⟨⟨_,rfl,.of_eq I⟩,Tk I,rfl,⟨_,rfl,.of_eq I⟩,Tk I,rfl,ac⟩ I;refine aj.aZ ⟨aj.agg ⟨.refl _,.bU C.symm (fun k _=>by rw[TL]),.refl _,.refl _,Fz _ _ _,ac⟩,.refl _,ac⟩
  have k2:u<S.length:=by have h:=of_decide_eq_false k2;rw[r0]at h;omega
  rw[p0 k2,u7]at B;have f0:Tg b S (p.aw.getD a co).types s1 (i+1) (A++ [⟨kd,0,S.getD u co⟩],su):=⟨m0,by simp[C],B⟩
  refine gA I ⟨h1,_,[10],f0,wk I I I (bi (bi (bi (bi (bi (bi ac)))))) ⟨⟨_,rfl,.of_eq I⟩,Tk I,rfl,⟨_,rfl,.of_eq I⟩,Tk I,rfl,⟨_,rfl,.of_eq I⟩,Tk I,rfl,⟨_,rfl,.of_eq I⟩,Tk I,rfl,⟨_,rfl,.of_eq I⟩,Tk I,(by intro k e he;simp at he),hR I (by rw[TA,d0];rfl) I ac⟩ I⟩
 have h1:(p.aw.getD a co).types.length<=i:=by simpa using h1
 have i1:i=(p.aw.getD a co).types.length:=by omega
 rw[WH h1,fp,qM,T1]at B;rw[B];dsimp only;have g0:=qY b Z 256 hb J;have a0:=eD (most:=256) J;have c0:=fF (b:=b) (s:=Z) (most:=256);rcases hy:bt b 256 Z with⟨F,G⟩;rw[hy]at g0 a0 c0;dsimp only at g0 a0 c0 ⊢;have v0:=ua b G;have k0:=DG (F:Int) (by omega) (by omega);refine gA I (aE [1] (g0) I I I I I I I I ?_);refine gM 1 I (GS 106 (p:=pI F) (.of_eq (congrArg pI k0)) ?_);refine gA I (ck ab [1] (v0) I I I I I I I I I I I I (by(repeat' (first|exact ac|exact rfl|exact aj.refl _|exact aj.bk (by assumption)|apply Tq))<;>first|omega|(simp only[Tt];omega)|(simp;done)|(simp;omega)) I (by(repeat' (first|exact ac|exact rfl|exact aj.refl _|exact aj.bk (by assumption)|apply Tq))<;>first|omega|(simp only[Tt];omega)|(simp;done)|(simp;omega)) ?_);refine gA I ?_;refine Tq (fun g3=>?_) (fun g3=>?_)
 .have g3: ¬G.f=0:=by simpa using g3
  rw[be fun h=>g3 h.1];refine gA I ?_;refine⟨.inr I,_,rfl,?_⟩;refine fD.gG 7 A ei.c I I ?_ (.done ⟨.aZ [ag (⟨⟨(p.aw.getD a co).name,A⟩,F,0,[]⟩:cM).c,pB jp],H0 p S ln b G,2,[],⟨⟨_,rfl⟩,rfl,rfl⟩,?_⟩)
  .simp[PV.bh,bg,C]
  refine wk I I I ⟨?_,rfl,ac⟩ ⟨⟨_,rfl,.of_eq I⟩,Tk I,rfl,⟨_,rfl,.of_eq I⟩,Tk I,rfl,ac⟩ I;refine aj.aZ ⟨aj.agg ⟨.refl _,.bU C.symm (fun k _=>by rw[TL]),.refl _,.refl _,Fz _ _ _,ac⟩,.refl _,ac⟩
 have g3:G.f=0:=by simpa using g3
 refine gA I ?_;refine Tq (fun g4=>?_) (fun g4=>?_)
 .have g4: ¬F<(bW p).length:=by have h:=of_decide_eq_true g4;omega
  rw[be fun h=>g4 h.2];refine gA I ?_;refine⟨.inr I,_,rfl,?_⟩;refine fD.gG 7 A ei.c I I ?_ (.done ⟨.aZ [ag (⟨⟨(p.aw.getD a co).name,A⟩,F,0,[]⟩:cM).c,pB jp],H0 p S ln b G,2,[],⟨⟨_,rfl⟩,rfl,rfl⟩,?_⟩)
  .simp[PV.bh,bg,C]
  refine wk I I I ⟨?_,rfl,ac⟩ ⟨⟨_,rfl,.of_eq I⟩,Tk I,rfl,⟨_,rfl,.of_eq I⟩,Tk I,rfl,ac⟩ I;refine aj.aZ ⟨aj.agg ⟨.refl _,.bU C.symm (fun k _=>by rw[TL]),.refl _,.refl _,Fz _ _ _,ac⟩,.refl _,ac⟩
 have g4:F<(bW p).length:=by have h:=of_decide_eq_false g4;omega
 rw[am ⟨g3,g4⟩];obtain⟨K,hK⟩: ∃K,K=(bW p).getD F 0:=⟨_,rfl⟩
 have x0:=wa (p:=p) F;have w0:=yV hs F;have e1:(bW p).getD ((F:Int).toNat) co=(bW p).getD F 0:=rfl;rw[<-hK]at x0 w0 ⊢;refine gA I ?_;refine ep (L:=[]) (t:=⟨[(0,.ptr 0 0),(2,.ptr 2 0),(4,.ptr 3 0),(11,pI 0)],[(0,dl (Pl p S ln)),(1,dl (oh b G)),(2,dl (.cells [pS Tx,.iv (.v (.slice io 0 0)),pI 0,pI 0,.iv (.v (.slice io 0 0))])),(3,dl (.cells [pS (p.aw.getD a co).name,.sl 7 0 i 3,pI F,pI K,.sl 6 0 0 1])),(6,dl (.row 1 [])),(7,dl (aX 3 A ei.c))],8⟩)
  (wk I I I (bi (bi (bi (bi trivial)))) ⟨⟨_,rfl,.of_eq I⟩,Tk I,rfl,⟨⟨_,rfl,.of_eq I⟩,Tk I,rfl,⟨⟨_,rfl,.of_eq I⟩,Tk I,rfl,⟨⟨_,rfl,.of_eq (by rw[hK];rfl)⟩,Tk I,rfl,⟨_,rfl,.of_eq I⟩,Tk I,(by intro k e he;simp at he),hR I I I trivial⟩⟩⟩⟩ I) ?_
 refine eW 7 (fun k=>ei.c (A.getD k co)) I (dq I) (by simp[AF.iw,PV.bh]) ⟨(by simp[AO.iw,bg,PV.bh]),(by simp[AO.iw,bg,PV.bh]),(by simp[AO.iw,bg,PV.bh]),(by simp[AO.iw,bg,PV.bh,C]),(by simp[AO.iw]),cX _ _ _ _ _ _,ac⟩ ?_;refine jD 0 K.toNat (TB _) (fun j x=>⟨[(0,.ptr 0 0),(2,.ptr 2 0),(4,.ptr 3 0),(11,pI j)],[(0,dl (Pl p S ln)),(1,dl (oh b x.2)),(2,dl (.cells [pS Tx,.iv (.v (.slice io 0 0)),pI 0,pI 0,.iv (.v (.slice io 0 0))])),(3,dl (.cells [pS (p.aw.getD a co).name,.iv (bp 3 A ei.c),pI F,pI K,.sl 8 0 j 1])),(8,dl (aX 1 x.1 eO))],9⟩) (R7 b ln K.toNat G) ([],G) [6] ⟨a0,rfl,by simp,fun _=>rfl⟩
  (wk I I I (bi (bi (bi (bi trivial)))) ⟨⟨_,rfl,.of_eq I⟩,Tk I,rfl,⟨⟨_,rfl,.of_eq I⟩,Tk I,rfl,⟨⟨_,rfl,.of_eq I⟩,Tk I,rfl,⟨⟨_,rfl,.cells ⟨.refl _,.bU C.symm (fun k _=>by rw[TL]),.refl _,.refl _,.refl _,ac⟩⟩,Tk I,rfl,hR I I I trivial⟩⟩⟩⟩ I) fun j x hj b0=>?_
 obtain⟨U,Y⟩:=x;have D:=b0.len;have q0:=b0.le;have j0:=b0.eq;dsimp only at D q0 j0;have e0:=ua b Y;have j1: ∀c,(if ln=is then jM b K.toNat G else([],G))=c->(if ln=is then jM b K.toNat G else([],G))=c:=fun c h=>h
 cases ln with
 |false=>
  have hx:(U,Y)=([],G):=b0.off I;rw[show(if jp=is then jM b K.toNat G else([],G))=(U,Y) from hx.symm];dsimp only;by_cases hf:Y.f=0
  .rw[am hf];refine gA I (ck ab [1] (e0) I I I I I I I I I I I I (by(repeat' (first|exact ac|exact rfl|exact aj.refl _|exact aj.bk (by assumption)|apply Tq))<;>first|omega|(simp only[Tt];omega)|(simp;done)|(simp;omega)) I (by(repeat' (first|exact ac|exact rfl|exact aj.refl _|exact aj.bk (by assumption)|apply Tq))<;>first|omega|(simp only[Tt];omega)|(simp;done)|(simp;omega)) ?_);refine gA I ?_;refine⟨.inr I,_,rfl,?_⟩;refine fD.gG 8 U eO I I ?_ (.done ⟨.aZ [ag (⟨⟨(p.aw.getD a co).name,A⟩,F,K,U⟩:cM).c,pB is],H0 p S jp b Y,2,[],⟨rfl,rfl,rfl⟩,?_⟩)
   .simp[PV.bh,bg,D];exact ac
   refine wk I I I ⟨?_,rfl,ac⟩ ⟨⟨_,rfl,.of_eq I⟩,Tk I,rfl,⟨_,rfl,.of_eq I⟩,Tk I,rfl,ac⟩ I;refine aj.aZ ⟨aj.agg ⟨.refl _,.refl _,.refl _,.refl _,.bU D.symm (fun k _=>by rw[TL]),ac⟩,.of_eq (congrArg pB (decide_eq_true hf)),ac⟩
  .rw[be hf];refine gA I (ck ab [1] (e0) I I I I I I I I I I I I (by(repeat' (first|exact ac|exact rfl|exact aj.refl _|exact aj.bk (by assumption)|apply Tq))<;>first|omega|(simp only[Tt];omega)|(simp;done)|(simp;omega)) I (by(repeat' (first|exact ac|exact rfl|exact aj.refl _|exact aj.bk (by assumption)|apply Tq))<;>first|omega|(simp only[Tt];omega)|(simp;done)|(simp;omega)) ?_);refine gA I ?_;refine⟨.inr I,_,rfl,?_⟩;refine fD.gG 8 U eO I I ?_ (.done ⟨.aZ [ag (⟨⟨(p.aw.getD a co).name,A⟩,F,K,U⟩:cM).c,pB jp],H0 p S jp b Y,2,[],⟨⟨_,rfl⟩,rfl,rfl⟩,?_⟩)
   .simp[PV.bh,bg,D];exact ac
   refine wk I I I ⟨?_,rfl,ac⟩ ⟨⟨_,rfl,.of_eq I⟩,Tk I,rfl,⟨_,rfl,.of_eq I⟩,Tk I,rfl,ac⟩ I;refine aj.aZ ⟨aj.agg ⟨.refl _,.refl _,.refl _,.refl _,.bU D.symm (fun k _=>by rw[TL]),ac⟩,.of_eq (congrArg pB (decide_eq_false hf)),ac⟩
 |true=>
  refine gA I ?_;refine Tq (fun m1=>?_) (fun m1=>?_)
  .have m1:j<K.toNat:=by have h:=of_decide_eq_true m1;omega
   have z0:=qY b Y 65536 hb q0;have b1:=fF (b:=b) (s:=Y) (most:=65536);have d1:=b0.step m1;generalize bt b 65536 Y=y at*
   have hw:=DG (y.1:Int) (by omega) (by omega);refine gA I (ck ab [1] (z0) I I I I I I I I I I I I (by(repeat' (first|exact ac|exact rfl|exact aj.refl _|exact aj.bk (by assumption)|apply Tq))<;>first|omega|(simp only[Tt];omega)|(simp;done)|(simp;omega)) I (by(repeat' (first|exact ac|exact rfl|exact aj.refl _|exact aj.bk (by assumption)|apply Tq))<;>first|omega|(simp only[Tt];omega)|(simp;done)|(simp;omega)) ?_);refine gA I ⟨m1,_,[10],d1,wk I I I (bi (bi (bi (bi ac)))) ⟨⟨_,rfl,.of_eq I⟩,Tk I,rfl,⟨⟨_,rfl,.of_eq I⟩,Tk I,rfl,⟨⟨_,rfl,.of_eq I⟩,Tk I,rfl,⟨⟨_,rfl,.of_eq I⟩,Tk I,rfl,hR I (by rw[TA];exact congrArg (fun z=>_++ [[pI z]]) hw) I ac⟩⟩⟩⟩ I⟩
  .have m1:j=K.toNat:=by have h:=of_decide_eq_false (m1.trans I);omega
   subst m1;rw[Nat.sub_self,jM,T1]at j0;rw[show(if is=is then jM b K.toNat G else([],G))=(U,Y) from(am I).trans j0];dsimp only;by_cases hf:Y.f=0
   .rw[am hf];refine gA I (ck ab [1] (e0) I I I I I I I I I I I I (by(repeat' (first|exact ac|exact rfl|exact aj.refl _|exact aj.bk (by assumption)|apply Tq))<;>first|omega|(simp only[Tt];omega)|(simp;done)|(simp;omega)) I (by(repeat' (first|exact ac|exact rfl|exact aj.refl _|exact aj.bk (by assumption)|apply Tq))<;>first|omega|(simp only[Tt];omega)|(simp;done)|(simp;omega)) ?_);refine gA I ?_;refine⟨.inr I,_,rfl,?_⟩;refine fD.gG 8 U eO I I ?_ (.done ⟨.aZ [ag (⟨⟨(p.aw.getD a co).name,A⟩,F,K,U⟩:cM).c,pB is],H0 p S is b Y,2,[],⟨rfl,rfl,rfl⟩,?_⟩)
    .simp[PV.bh,bg,D];exact ac
    refine wk I I I ⟨?_,rfl,ac⟩ ⟨⟨_,rfl,.of_eq I⟩,Tk I,rfl,⟨_,rfl,.of_eq I⟩,Tk I,rfl,ac⟩ I;refine aj.aZ ⟨aj.agg ⟨.refl _,.refl _,.refl _,.refl _,.bU D.symm (fun k _=>by rw[TL]),ac⟩,.of_eq (congrArg pB (decide_eq_true hf)),ac⟩
   .rw[be hf];refine gA I (ck ab [1] (e0) I I I I I I I I I I I I (by(repeat' (first|exact ac|exact rfl|exact aj.refl _|exact aj.bk (by assumption)|apply Tq))<;>first|omega|(simp only[Tt];omega)|(simp;done)|(simp;omega)) I (by(repeat' (first|exact ac|exact rfl|exact aj.refl _|exact aj.bk (by assumption)|apply Tq))<;>first|omega|(simp only[Tt];omega)|(simp;done)|(simp;omega)) ?_);refine gA I ?_;refine⟨.inr I,_,rfl,?_⟩;refine fD.gG 8 U eO I I ?_ (.done ⟨.aZ [ag (⟨⟨(p.aw.getD a co).name,A⟩,F,K,U⟩:cM).c,pB jp],H0 p S is b Y,2,[],⟨⟨_,rfl⟩,rfl,rfl⟩,?_⟩)
    .simp[PV.bh,bg,D];exact ac
    refine wk I I I ⟨?_,rfl,ac⟩ ⟨⟨_,rfl,.of_eq I⟩,Tk I,rfl,⟨_,rfl,.of_eq I⟩,Tk I,rfl,ac⟩ I;refine aj.aZ ⟨aj.agg ⟨.refl _,.refl _,.refl _,.refl _,.bU D.symm (fun k _=>by rw[TL]),ac⟩,.of_eq (congrArg pB (decide_eq_false hf)),ac⟩
section
def wA(p:Prog)(b:By)(kd:Nat):PV:=
 if 4194304<b.length then .aZ [km,pI 2] else if(b7 p).1≠0 then .aZ [km,pI 4] else match kz p b kd with
  |some l=> .aZ [.iv (dF l),pI 0]
  |none=> .aZ [km,pI 160]
structure Ld (b:By) (N:Nat) (s0:RS) (x:List ae×RS×Nat):Prop where
 le:x.2.1.p<=b.length
 len:x.1.length+x.2.2<=N
 eq:((dH b 64 N s0).1.map y8,(dH b 64 N s0).2)=(x.1++(dH b 64 x.2.2 x.2.1).1.map y8,(dH b 64 x.2.2 x.2.1).2)
theorem Ld.stop{b:By}{N:Nat}{s0 s:RS}{S:List ae}{n:Nat}(h:Ld b N s0 (S,s,n))(hn:n=0∨s.f≠0):((dH b 64 N s0).1.map y8,(dH b 64 N s0).2)=(S,s):=by
 have e:dH b 64 n s=([],s):=by
  cases n with
  |zero=>rfl
  |succ n=>rw[dH,be (by omega)]
 have:=h.eq;dsimp only at this;rw[this,e];simp
theorem Ld.step{b:By}{N:Nat}{s0 s:RS}{S:List ae}{n:Nat}(h:Ld b N s0 (S,s,n+1))(hf:s.f=0):Ld b N s0 (S++ [y8 (fG b 64 s).1],(fG b 64 s).2,n):=by
 have e:dH b 64 (n+1) s=((fG b 64 s).1::(dH b 64 n (fG b 64 s).2).1,(dH b 64 n (fG b 64 s).2).2):=by rw[dH,am hf]
 have d:=h.eq;have j:=h.len;dsimp only at d j;refine⟨y1 h.le,by simp only[Tn,Ui];omega,?_⟩;rw[d,e];simp
def Dt(L:List cM):Option (List cM)×RS->Option (List cM)×RS
 |(dl l,s)=>(dl (L++l),s)
 |(io,s)=>(io,s)
structure HQ (p:Prog) (b:By) (S:List ae) (ln:Bool) (N:Nat) (s0:RS) (x:List cM×RS×Nat):Prop where
 le:x.2.1.p<=b.length
 len:x.1.length+x.2.2<=N
 eq:gd p b S ln N s0=Dt x.1 (gd p b S ln x.2.2 x.2.1)
section
variable {p:Prog} {b:By} {S:List ae} {ln:Bool} {N:Nat} {s0 s:RS} {L:List cM} {n:Nat}
theorem HQ.stop(h:HQ p b S ln N s0 (L,s,n))(hn:n=0∨s.f≠0):gd p b S ln N s0=(dl L,s):=by
 have e:gd p b S ln n s=(dl [],s):=by
  cases n with
  |zero=>rfl
  |succ n=>rw[gd,be (by omega)]
 have:=h.eq;dsimp only at this;rw[this,e,Dt,T1]
theorem HQ.step(h:HQ p b S ln N s0 (L,s,n+1))(hf:s.f=0){x:cM}{s1:RS}(u:qp p b S ln s=(dl x,s1)):HQ p b S ln N s0 (L++ [x],s1,n):=by
 have d:=h.eq;have y:=h.len;dsimp only at d y;have j:=(CV (p:=p) (S:=S) (lines:=ln) h.le).1;rw[show qp p b S ln (L,s,n+1).2.1=(dl x,s1) from u]at j;refine⟨j,by simp only[Tn,Ui];omega,?_⟩;rw[d,gd,am hf,u];dsimp only;cases hy:gd p b S ln n s1 with
 |mk o s2=>cases o<;>simp[Dt]
theorem HQ.none(h:HQ p b S ln N s0 (L,s,n+1))(hf:s.f=0){s1:RS}(j:qp p b S ln s=(io,s1)):gd p b S ln N s0=(io,s1):=by
 have d:=h.eq;dsimp only at d;rw[d,gd,am hf,j];rfl
end
theorem xk(b:By)(s:RS):AM b s=0↔s.f=0∧b.length<=s.p:=by
 unfold AM;by_cases h:s.f=0∧s.p<b.length
 .rw[am h];exact⟨fun h=>absurd h (by decide),fun d=>by omega⟩
 .rw[be h];exact⟨fun d=>⟨d,by omega⟩,fun d=>d.1⟩
abbrev RP(p:Prog)(S:List ae)(ln:Bool):AO:= .cells [.ptr 2 0,.iv (jq p),.iv (strs S),.kb ln]
theorem Qq(m:Nat)(h:m<18446744073709551616):IntKind.u64.wrap (((m+1:Nat):Int)-1)=(m:Int):=by
 rw[show(((m+1:Nat):Int)-1)=(m:Int) by omega];exact Ll m h
theorem D7(p:Prog)(b:By)(kd:Nat):(wA p b kd).low 0=is:=by
 unfold wA
 repeat' split
 all_goals rfl
theorem Ld.start{b:By}{N:Nat}{s0:RS}(h:s0.p<=b.length):Ld b N s0 ([],s0,N):=⟨h,by simp,by simp⟩
theorem HQ.start{p:Prog}{b:By}{S:List ae}{ln:Bool}{N:Nat}{s0:RS}(h:s0.p<=b.length):HQ p b S ln N s0 ([],s0,N):=⟨h,by simp,by
 show _=Dt [] (gd p b S ln N s0);cases hy:gd p b S ln N s0 with
 |mk o s2=>cases o<;>rfl⟩
set_option maxHeartbeats 1000000 in
theorem FF(hS:dE)(p:Prog)(hf:p.fit)(hs:p.size<=10000000)(ht:p.ts<=800000000)(b:By)(kd:Nat)(hb:b.length<=1000000000)(hk:kd=1∨kd=2):Al.Pure Tryz.prog 31 [ag p.c,.iv (bp 1 b bb),pI kd] (wA p b kd):=by
 refine ai ab Tryz.func31 I (by decide) Tryz.ntmps31 I (by simp) (D7 p b kd) ?_;unfold wA;refine gA I ?_;refine Tq (fun g1=>?_) (fun g1=>?_)
 .have g1:4194304<b.length:=by have:=of_decide_eq_true g1;omega
  rw[am g1];refine gA I (aN (by first|exact .inr I|exact .inl I) I (.of_eq ?_));rfl
 have g1: ¬4194304<b.length:=by have:=of_decide_eq_false g1;omega
 rw[be g1];by_cases hc:(b7 p).1=0;rotate_left
 .rw[am hc];refine gA I (aP (zo hS p hf hs ht hc) I I I I I I ?_);refine gA I ?_;refine Tq (fun zz=>?_) (fun zz=>?_)<;>(try(exact absurd zz (by decide)))
  refine gA I (aN (by first|exact .inr I|exact .inl I) I (.of_eq ?_));rfl
 rw[be (fun h=>h hc)];refine gA I (aP (CD hS p hf hs ht hc) I I I I I I ?_);refine gA I ?_;refine Tq (fun zz=>?_) (fun zz=>?_)<;>(try(exact absurd zz (by decide)))
 refine gA I (aP (MM b hb) I I I I I I ?_);refine gA I ?_;refine Tq (fun g2=>?_) (fun g2=>?_)
 .have g2: ¬i6 b=kd:=fun h=>by rw[h]at g2;simp at g2
  have e:kz p b kd=io:=by rw[kz,be g2]
  rw[e];refine gA I (aN (by first|exact .inr I|exact .inl I) I (.of_eq ?_));rfl
 have g2:i6 b=kd:=by
  have h:(!kw ((i6 b:Int)=(kd:Int)))=jp:=g2;simp only[Vl,decide_eq_true_eq]at h;omega
 obtain⟨ln,f0⟩: ∃ln,ln=(kd==2):=⟨_,rfl⟩
 have k0:kw ((kd:Int)=2)=ln:=by rw[f0];rcases hk with rfl|rfl<;>rfl
 have p0:kz p b kd=match B5 p b ln with
   |(dl l,s)=>if s.f=0∧b.length<=s.p then dl l else io
   |(io,_)=>io:=by rw[kz,am g2,f0];rfl
 rw[p0];refine gA I (aE [] (D3 b hb) I I I I I I I I ?_);refine gM 7 I (ep [] (t:=⟨[(10,.ptr 3 0)],[(1,dl (n6 b)),(2,dl (.cells [.sl 1 0 b.length 1,pI 0,pI 0])),(3,dl (.cells [.ptr 2 0,.iv (jq p),.iv (.v (.slice io 0 0)),.kb ln]))],4⟩) (wk I I I (bi ac) (hR I (bS _ _) I ⟨⟨_,rfl,.of_eq I⟩,Tk I,rfl,⟨_,rfl,.cells ⟨.refl _,.refl _,.refl _,.bk k0,ac⟩⟩,Tk I,rfl,ac⟩) I) ?_);refine eW 1 (fun k=>bb (b.getD k co)) I (dq I) (by simp[AF.iw,PV.bh]) ⟨cX _ _ _ _ _ _,(by simp[AO.iw,bg,PV.bh]),(by simp[AO.iw,bg,PV.bh]),ac⟩ ?_;refine ep (L:=[]) (t:=⟨[(10,.ptr 3 0)],[(2,dl (oh b ⟨0,0⟩)),(3,dl (.cells [.ptr 2 0,.iv (jq p),.iv (.v (.slice io 0 0)),.kb ln]))],4⟩) (wk I I I (bi ac) ⟨⟨_,rfl,.cells ⟨.bU I (fun k _=>by rw[TL]),.refl _,.refl _,ac⟩⟩,Tk I,rfl,⟨_,rfl,.of_eq I⟩,Tk I,rfl,ac⟩ I) ?_;have d0:=CK (n:=9) (s:=⟨0,0⟩) (b:=b) (TB _);have j0:=QM b ⟨0,0⟩ 9 hb (TB _);have Z:=qY b (vM b 9 ⟨0,0⟩) 4194304 hb d0;have B:=eD (most:=4194304) d0;have F:=fF (b:=b) (s:=vM b 9 ⟨0,0⟩) (most:=4194304);rcases hx1:bt b 4194304 (vM b 9 ⟨0,0⟩) with⟨n0,s0⟩;rw[hx1]at Z B F;dsimp only at Z B F;refine gA I (aE [2] (j0) I I I I I I I I ?_);refine gA I (aE [2] (Z) I I I I I I I I ?_);refine gA I ?_;refine ep (L:=[]) (t:=⟨[(10,.ptr 3 0),(11,pU n0)],[(2,dl (oh b s0)),(3,dl (.cells [.ptr 2 0,.iv (jq p),.iv (.v (.slice io 0 0)),.kb ln]))],4⟩) (wk I I I (bi (bi ac)) ⟨⟨_,rfl,.of_eq I⟩,Tk I,rfl,⟨_,rfl,.of_eq I⟩,Tk I,rfl,ac⟩ I) ?_;refine fm 3 2 1 I I ?_
 refine lA (σ:={v:List ae×RS×Nat//Ld b n0 s0 v}) (fun v=>⟨[(10,.ptr 3 0),(11,pU v.1.2.2)],[(2,dl (oh b v.1.2.1)),(3,dl (.cells [.ptr 2 0,.iv (jq p),.sl 5 0 v.1.1.length 1,.kb ln])),(5,dl (aX 1 v.1.1 cB))],6⟩) (fun v=>v.1.2.2) ⟨([],s0,n0),Ld.start B⟩ [4]
  (wk I I I (bi (bi trivial)) ⟨⟨_,rfl,.of_eq I⟩,Tk I,rfl,⟨_,rfl,.of_eq I⟩,Tk I,rfl,hR I I I trivial⟩ I) fun v=>?_
 obtain⟨⟨S,j,n⟩,hJ⟩:=v;have D:=hJ.le;have l0:=hJ.len;dsimp only at D l0 ⊢;have hF:=ua b j;refine gM 1 I (go_cut 1 (fun(_:Unit)=>⟨[(10,.ptr 3 0),(11,pU n),(57,pB (kw (0<n∧j.f=0)))],[(2,dl (oh b j)),(3,dl (.cells [.ptr 2 0,.iv (jq p),.sl 5 0 S.length 1,.kb ln])),(5,dl (aX 1 S cB))],6⟩) I ?_ ?_)
 .refine gA I ?_;refine Tq (fun d=>?_) (fun d=>?_)
  .have d:0<n:=by have h:=of_decide_eq_true d;omega
   refine gA I (aE [2] (hF) I I I I I I I I ?_);refine gA I (kR () [] ?_);exact wk I I I (bi (bi ⟨.of_eq (congrArg pB (by simp[d])),rfl,ac⟩)) ⟨⟨_,rfl,.of_eq I⟩,Tk I,rfl,⟨_,rfl,.of_eq I⟩,Tk I,rfl,hR I I I ac⟩ I
  .have d: ¬0<n:=by have h:=of_decide_eq_false (d.trans I);omega
   refine gA I (kR () [] ?_);exact wk I I I (bi (bi ⟨.Sw (by simp[d]),rfl,ac⟩)) ⟨⟨_,rfl,.of_eq I⟩,Tk I,rfl,⟨_,rfl,.of_eq I⟩,Tk I,rfl,hR I I I ac⟩ I
 intro _;refine gA I ?_;refine Tq (fun g3=>?_) (fun g3=>?_)
 .have g3:0<n∧j.f=0:=of_decide_eq_true g3;obtain⟨m,rfl⟩: ∃m,n=m+1:=⟨n-1,by omega⟩
  have hT:=Oc b j 64 (by decide) hb D;have c0:=hJ.step g3.2;generalize fG b 64 j=y at*
  refine gA I (ck ab [2] (hT) I I I I I I I I I I I I (by(repeat' (first|exact ac|exact rfl|exact aj.refl _|exact aj.bk (by assumption)|apply Tq))<;>first|omega|(simp only[Tt];omega)|(simp;done)|(simp;omega)) I (by(repeat' (first|exact ac|exact rfl|exact aj.refl _|exact aj.bk (by assumption)|apply Tq))<;>first|omega|(simp only[Tt];omega)|(simp;done)|(simp;omega)) ?_);refine gA I ⟨⟨_,c0⟩,[7],US m,wk I I I (bi ⟨.of_eq (congrArg (fun z:Int=>PV.iv (.v (.int .u64 z))) (Qq m (by omega))),rfl,ac⟩) ⟨⟨_,rfl,.of_eq I⟩,Tk I,rfl,⟨_,rfl,.cells ⟨.refl _,.refl _,.row (by simp),.refl _,ac⟩⟩,Tk I,rfl,hR I (by rw[TA];rfl) I ac⟩ I⟩
 have g3:n=0∨j.f≠0:=by
  have h:=of_decide_eq_false g3;omega
 have q0:kq b=(S,j):=by
  unfold kq;rw[hx1];exact hJ.stop g3
 have b0:B5 p b ln=gd p b S ln (bt b 65536 j).1 (bt b 65536 j).2:=by
  unfold B5;rw[q0]
 rw[b0];refine ep (L:=[]) (t:=⟨[(10,.ptr 3 0)],[(2,dl (oh b j)),(3,dl (.cells [.ptr 2 0,.iv (jq p),.sl 5 0 S.length 1,.kb ln])),(5,dl (aX 1 S cB))],6⟩) (wk I I I (bi ac) ⟨⟨_,rfl,.of_eq I⟩,Tk I,rfl,⟨_,rfl,.of_eq I⟩,Tk I,rfl,hR I I I ac⟩ I) ?_;refine eW 5 (fun k=>cB (S.getD k co)) I (dq I) (by simp[AF.iw,PV.bh]) ⟨(by simp[AO.iw,bg,PV.bh]),(by simp[AO.iw,bg,PV.bh]),cX _ _ _ _ _ _,ac⟩ ?_;refine ep (L:=[]) (t:=⟨[(10,.ptr 3 0)],[(2,dl (oh b j)),(3,dl (RP p S ln))],6⟩) (wk I I I (bi ac) ⟨⟨_,rfl,.of_eq I⟩,Tk I,rfl,⟨_,rfl,.cells ⟨.refl _,.refl _,.bU I (fun k _=>by rw[TL]),.refl _,ac⟩⟩,Tk I,rfl,ac⟩ I) ?_;have a0:=qY b j 65536 hb D;have C:=eD (most:=65536) D;have G:=fF (b:=b) (s:=j) (most:=65536);rcases hx2:bt b 65536 j with⟨m0,t0⟩;rw[hx2]at a0 C G;dsimp only at a0 C G ⊢;refine gA I (aE [2] (a0) I I I I I I I I ?_);refine gA I ?_;refine ep (L:=[]) (t:=⟨[(10,.ptr 3 0),(12,.iv (.v (.slice io 0 0))),(13,pU m0)],[(2,dl (oh b t0)),(3,dl (RP p S ln))],6⟩) (wk I I I (bi (bi (bi ac))) ⟨⟨_,rfl,.of_eq I⟩,Tk I,rfl,⟨_,rfl,.of_eq I⟩,Tk I,rfl,ac⟩ I) ?_;refine jC 12 5 I ?_;have r0:S.length<=4194304:=by omega
 refine lA (σ:={v:List cM×RS×Nat//HQ p b S ln m0 t0 v}) (fun v=>⟨[(10,.ptr 3 0),(12,.sl 7 0 v.1.1.length 5),(13,pU v.1.2.2)],[(2,dl (oh b v.1.2.1)),(3,dl (RP p S ln)),(7,dl (aX 5 v.1.1 cM.c))],8⟩) (fun v=>v.1.2.2) ⟨([],t0,m0),HQ.start C⟩ [6]
  (wk I I I (bi (bi (bi trivial))) ⟨⟨_,rfl,.of_eq I⟩,Tk I,rfl,⟨_,rfl,.of_eq I⟩,Tk I,rfl,hR I I I trivial⟩ I) fun v=>?_
 obtain⟨⟨L,u,J⟩,A⟩:=v;have e0:=A.le;have o0:=A.len;dsimp only at e0 o0 ⊢;have i0:=ua b u;refine gM 1 I (go_cut 1 (fun(_:Unit)=>⟨[(10,.ptr 3 0),(12,.sl 7 0 L.length 5),(13,pU J),(88,pB (kw (0<J∧u.f=0)))],[(2,dl (oh b u)),(3,dl (RP p S ln)),(7,dl (aX 5 L cM.c))],8⟩) I ?_ ?_)
 .refine gA I ?_;refine Tq (fun d=>?_) (fun d=>?_)
  .have d:0<J:=by have h:=of_decide_eq_true d;omega
   refine gA I (aE [2] (i0) I I I I I I I I ?_);refine gA I (kR () [] ?_);exact wk I I I (bi (bi (bi ⟨.of_eq (congrArg pB (by simp[d])),rfl,ac⟩))) ⟨⟨_,rfl,.of_eq I⟩,Tk I,rfl,⟨_,rfl,.of_eq I⟩,Tk I,rfl,hR I I I ac⟩ I
  .have d: ¬0<J:=by have h:=of_decide_eq_false (d.trans I);omega
   refine gA I (kR () [] ?_);exact wk I I I (bi (bi (bi ⟨.Sw (by simp[d]),rfl,ac⟩))) ⟨⟨_,rfl,.of_eq I⟩,Tk I,rfl,⟨_,rfl,.of_eq I⟩,Tk I,rfl,hR I I I ac⟩ I
 intro _;refine gA I ?_;refine Tq (fun g4=>?_) (fun g4=>?_)
 .have g4:0<J∧u.f=0:=of_decide_eq_true g4;obtain⟨m,rfl⟩: ∃m,J=m+1:=⟨J-1,by omega⟩
  have hN:=QW p S ln b u (by omega) hb e0 hs;rcases hx3:qp p b S ln u with⟨o,s3⟩;rw[hx3]at hN;refine gA I (oC [3,2] hN I I I I I I I ?_)
  rintro q h' n' ⟨hq,rfl,rfl⟩;cases o with
  |none=>
   obtain⟨x,rfl⟩:=hq;refine⟨_,rfl,?_⟩;rw[A.none g4.2 hx3];refine gA I ?_;refine Tq (fun zz=>?_) (fun zz=>?_)<;>(try(exact absurd zz (by decide)))
   refine gA I (aN (by first|exact .inr I|exact .inl I) I (.of_eq ?_));rfl
  |some x=>
   have hq:q= .aZ [ag x.c,pB is]:=hq;subst hq;have c0:=A.step g4.2 hx3;refine⟨_,rfl,?_⟩;refine gA I ?_;refine Tq (fun zz=>?_) (fun zz=>?_)<;>(try(exact absurd zz (by decide)))
   refine gA I ⟨⟨_,c0⟩,[10],US m,wk I I I (bi ⟨.row (by simp),rfl,.of_eq (congrArg (fun z:Int=>PV.iv (.v (.int .u64 z))) (Qq m (by omega))),rfl,ac⟩) ⟨⟨_,rfl,.of_eq I⟩,Tk I,rfl,⟨_,rfl,.of_eq I⟩,Tk I,rfl,hR I (by rw[TA];rfl) I ac⟩ I⟩
 have g4:J=0∨u.f≠0:=by
  have h:=of_decide_eq_false g4;omega
 rw[A.stop g4];dsimp only;refine ep (L:=[]) (t:=⟨[(10,.ptr 3 0),(12,.sl 7 0 L.length 5)],[(2,dl (oh b u)),(3,dl (RP p S ln)),(7,dl (aX 5 L cM.c))],8⟩) (wk I I I (bi (bi ac)) ⟨⟨_,rfl,.of_eq I⟩,Tk I,rfl,⟨_,rfl,.of_eq I⟩,Tk I,rfl,hR I I I ac⟩ I) ?_;refine eW 7 (fun k=>cM.c (L.getD k co)) I (dq I) (by simp[AF.iw,PV.bh]) ⟨(by simp[AO.iw,bg,PV.bh]),(by simp[AO.iw,bg,PV.bh]),cX _ _ _ _ _ _,ac⟩ ?_;have g0:=QN b u;refine gA I (aE [2] (g0) I I I I I I I I ?_);refine gA I ?_;refine Tq (fun Y=>?_) (fun Y=>?_)
 .have Y: ¬AM b u=0:=by simpa using Y
  rw[be fun h=>Y ((xk b u).2 h)];refine gA I (aN (by first|exact .inr I|exact .inl I) I (.of_eq ?_));rfl
 .have Y:AM b u=0:=by simpa using Y
  rw[am ((xk b u).1 Y)];refine gA I (aN (by first|exact .inr I|exact .inl I) I ?_);exact .aZ ⟨.bU I (fun k _=>by rw[TL]),.refl _,ac⟩
end
end Go.Proofs.YtbhphmfbligliaaGreatDoor
namespace Go.Proofs.YtbhphmfbligliaaGreatDoor
open Go Go.Al Go.Proofs.Tryz Go.En
def GK(o:Option (Tree×List cM))(q:PV):Prop:=match o with
 |some (t,r)=>q= .aZ [ag t.c,.iv (dF r),pB is]
 |none=> ∃t:Tree,q= .aZ [ag t.c,km,pB jp]
def Tree.z:Tree:= .mk ⟨Tx,[]⟩ 0 []
theorem Nk:aj (.agg [pS Tx,km,pI 0,km]) (ag Tree.z.c):= .agg ⟨.refl _,.nil _ _,.refl _,.nil _ _,ac⟩
structure R1 (l:List cM) (i:Nat) (x:List Tree×List cM):Prop where
 eq:l=Tree.fw x.1++x.2
 len:x.1.length=i
theorem Tree.wC(ks:List Tree)(i:Nat)(h:i<ks.length):Tree.fw ks=Tree.fw (ks.take i)++((ks.getD i co).pre++Tree.fw (ks.drop (i+1))):=by
 have e:ks=ks.take i++(ks.getD i co::ks.drop (i+1)):=by
  have d:ks.drop i=ks.getD i co::ks.drop (i+1):=by
   rw[Vz h,Tr,Ts h];rfl
  rw[<-d,Um]
 conv=>lhs;rw[e]
 rw[Tree.mP];rfl
theorem Ey{n:cM}{l r:List cM}{T:List Tree}{i:Nat}(y:R1 l i (T,r))(hi:(i:Int)<n.kids)(h:ie r=io):ie (n::l)=io:=by
 refine uQ fun t q A=>?_;obtain⟨f,C,j⟩:=t;rw[Tree.pre,TV]at A;injection A with h1 h2
 have B:n.kids=j.length:=by rw[h1]
 have u:i<j.length:=by omega
 have d:=y.eq;dsimp only at d;rw[h2,Tree.wC j i u,Tz]at d;obtain⟨_,x⟩:=Tree.uk (j.take i) T (by rw[TY,show T.length=i from y.len];omega) d;rw[Tz]at x;rw[po x.symm]at h;cases h
theorem Ez{n:cM}{l r:List cM}{T:List Tree}{i:Nat}(d:R1 l i (T,r))(hi:n.kids=i)(hu:n.up=[]):ie (n::l)=dl (.mk n.fact n.c8 T,r):=by
 refine po ?_;rw[Tree.pre,TV];have j:n=⟨n.fact,n.c8,(T.length:Int),[]⟩:=by
  have:T.length=i:=d.len;cases n
  simp_all
 have u:l=Tree.fw T++r:=d.eq;rw[<-j,<-u]
theorem grow_step{l r q:List cM}{T:List Tree}{t:Tree}{i:Nat}(d:R1 l i (T,r))(h:ie r=dl (t,q)):R1 l (i+1) (T++ [t],q):=by
 refine⟨?_,by rw[Tn,show T.length=i from d.len];rfl⟩;have j:l=Tree.fw T++r:=d.eq;show l=Tree.fw (T++ [t])++q;rw[Tree.mP,Tree.fw,Tree.fw,T1,j,uR h,Tz]
theorem Q4(N:Nat): ∀l:List cM,l.length<=N->l.length<=1000000000->(∀n∈l,n.up=[]∧0<=n.kids)->Al.Fn prog 32 [.iv (dF l)] [] (fun q h n=>GK (ie l) q∧h=[]∧n=0):=by
 have C:ie []=io:=uQ fun t q B=>by
  have d:=congrArg Vp B;have Z:=t.size_pos;rw[Tn,Tree.fV]at d;simp only[UJ]at d;omega
 have J:Al.Fn prog 32 [.iv (dF [])] [] (fun q h n=>GK (ie []) q∧h=[]∧n=0):=by
  rw[C];refine mc ab func32 I (by decide) ntmps32 I (by simp) ?_;refine gA I ?_;refine Tq (fun zz=>?_) (fun zz=>?_)<;>(try(exact absurd zz (by decide)))
  refine gA I (iO (r:= .aZ [ag Tree.z.c,km,pB jp]) (h:=[]) (n:=0) [] (.inr I) I ⟨⟨_,rfl⟩,rfl,rfl⟩ (wk I I I ⟨.aZ ⟨Nk,.refl _,.refl _,ac⟩,rfl,ac⟩ ac I))
 induction N with
 |zero=>
  intro l Y u F;obtain rfl:l=[]:=UC.1 (by omega);exact J
 |succ N ih=>
  intro l Y u F;cases l with
  |nil=>exact J
  |cons n l=>
   have G: ∀r:List cM,(∃T,l=Tree.fw T++r)->Al.Fn prog 32 [.iv (dF r)] [] (fun q h n=>GK (ie r) q∧h=[]∧n=0):=fun r ⟨T,hr⟩=>by
    have b0:r.length<=l.length:=by rw[hr,Tn];omega
    rw[TO]at Y u;exact ih r (by omega) (by omega) fun x hx=>F x (TH _ (by rw[hr];exact UQ _ hx))
   obtain⟨hu,hk⟩:=F n (TJ ..);rw[TO]at u;refine mc ab func32 I (by decide) ntmps32 I (by simp) ?_;refine gA I ?_;refine Tq (fun zz=>?_) (fun zz=>?_)<;>(try(simp at zz;omega))
   refine gA I ?_;refine fm 1 3 4 I I ?_;refine jD 0 n.kids.toNat (TB _) (fun i x=>⟨[(2,.ptr 0 0),(5,.ptr 1 0),(6,.iv (dF x.2)),(28,pI n.kids),(29,pI i)],[(0,dl (.cells [pS Tx,.iv (.v (.slice io 0 0)),pI 0,.iv (.v (.slice io 0 0))])),(1,dl (.cells [pS n.fact.rel,.iv (bp 3 n.fact.args ei.c),pI n.c8,.sl 3 0 i 4])),(3,dl (aX 4 x.1 Tree.c))],4⟩) (R1 l) ([],l) [2] ⟨rfl,rfl⟩
    (wk I I I (bi (bi ⟨.bU (by simp) (fun k hk=>by rw[V6];rfl),rfl,bi (bi trivial)⟩)) ⟨⟨_,rfl,.of_eq I⟩,Tk I,rfl,⟨_,rfl,.of_eq I⟩,Tk I,rfl,hR I I I trivial⟩ I) fun i x hi A=>?_
   obtain⟨T,r⟩:=x;have j:T.length=i:=A.len;have a0:i<=l.length:=by
    have d:=congrArg Vp A.eq;have Z:=Tree.aA T;rw[Tn,Tree.qj]at d;dsimp only at d;omega
   refine gA I ?_;refine Tq (fun d=>?_) (fun d=>?_)
   .have d:(i:Int)<n.kids:=of_decide_eq_true d;have hc:=G r ⟨T,A.eq⟩;refine gA I (oC [] hc I I I I I I I ?_);rintro q' h' n' ⟨B,rfl,rfl⟩;cases hg:ie r with
    |none=>
     rw[hg]at B;obtain⟨t,rfl⟩:=B;rw[Ey A d hg];refine⟨_,rfl,?_⟩;refine gA I ?_;refine Tq (fun zz=>?_) (fun zz=>?_)<;>(try(exact absurd zz (by decide)))
     refine ep (L:=[]) (t:=⟨[(2,.ptr 0 0),(5,.ptr 1 0)],[(0,dl (.cells [pS Tx,.iv (.v (.slice io 0 0)),pI 0,.iv (.v (.slice io 0 0))])),(1,dl (.cells [pS n.fact.rel,.iv (bp 3 n.fact.args ei.c),pI n.c8,.sl 3 0 i 4])),(3,dl (aX 4 T Tree.c))],5⟩) (wk I I I (bi (bi ac)) ⟨⟨_,rfl,.of_eq I⟩,Tk I,rfl,⟨_,rfl,.of_eq I⟩,Tk I,rfl,hR I I I ac⟩ I) ?_;refine eW 3 (fun k=>Tree.c (T.getD k co)) I (dq I) (by simp[AF.iw,PV.bh]) ⟨(by simp[AO.iw,bg,PV.bh]),(by simp[AO.iw,bg,PV.bh,j]),cX _ _ _ _ _ _,ac⟩ ?_;subst j;refine gA I (iO (r:= .aZ [ag (Tree.mk n.fact n.c8 T).c,km,pB jp]) (h:=[]) (n:=0) [] (.inr I) I ⟨⟨_,rfl⟩,rfl,rfl⟩ (wk I I I ⟨.aZ ⟨.trans (.of_eq ?_) (Tree.BJ (.mk n.fact n.c8 T)),.refl _,.refl _,ac⟩,rfl,ac⟩ ac I));simp only[TL];rfl
    |some y=>
     obtain⟨t,q⟩:=y;rw[hg]at B;have D:=grow_step A hg;subst B;refine⟨_,rfl,?_⟩;refine gA I ?_;refine Tq (fun zz=>?_) (fun zz=>?_)<;>(try(exact absurd zz (by decide)))
     refine gA I ⟨by omega,(T++ [t],q),[6],D,wk I I I (bi (bi (bi (bi (bi ac))))) ⟨⟨_,rfl,.of_eq I⟩,Tk I,rfl,⟨_,rfl,.of_eq I⟩,Tk I,rfl,hR I (by rw[TA];rfl) I ac⟩ I⟩
   .have d: ¬(i:Int)<n.kids:=of_decide_eq_false d;rw[Ez A (by omega) hu];refine eW 3 (fun k=>Tree.c (T.getD k co)) I (dq I) (by repeat(first|exact ac|refine⟨ac,?_⟩)) ⟨(by simp[AO.iw,bg,PV.bh]),(by simp[AO.iw,bg,PV.bh,j]),cX _ _ _ _ _ _,ac⟩ ?_;subst j;refine gA I (iO (r:= .aZ [ag (Tree.mk n.fact n.c8 T).c,.iv (dF r),pB is]) (h:=[]) (n:=0) [] (.inr I) I ⟨rfl,rfl,rfl⟩ (wk I I I ⟨.aZ ⟨.trans (.of_eq ?_) (Tree.BJ (.mk n.fact n.c8 T)),.refl _,.refl _,ac⟩,rfl,ac⟩ ac I));simp only[TL];rfl
end Go.Proofs.YtbhphmfbligliaaGreatDoor
namespace Go.Proofs.YtbhphmfbligliaaGreatDoor
open Go Go.Al Go.En
theorem di{α:Type}{f:α->By}{c:Nat}: ∀l:List α,(∀x∈l,(f x).length<=c)->(l.flatMap f).length<=l.length*c
 | [],_=>by simp
 |x::l,h=>by
  have j:=h x (TJ ..);have u:=di l fun y d=>h y (TH _ d);rw[T9,Tn,TO,Ug];omega
theorem px(n:Nat):(enc n).length<=11:=(nv 10 n).2
theorem n5{p:Prog}{l:List cM}(j:l.length<=65536)(hf:bz p 0 l=is)(hu: ∀x∈l,x.up.length<=10000000)(m:Nat)(kd:UInt8):(bj p m kd l).length<=50000000000000:=by
 have d:=Cr j hf;have G:((bm l).flatMap fun s=>mj (pQ s)).length<=(bm l).length*1011:=di _ fun s D=>by
  have A:=d.2 s D;have B:=px (pQ s).length;have C:(pQ s).length=s.size:=by simp[pQ]
  rw[mj,Tn];omega
 have A:(l.flatMap (lU p (bm l))).length<=l.length*110000200:=di _ fun x y=>by
  have ha:=(fX l 0 hf x y).1;have F:=hu x y;have g1:(x.fact.args.flatMap (j7 (bm l))).length<=x.fact.args.length*11:=di _ fun v _=>by
   unfold j7;split<;>exact px _
  have g2:(x.up.flatMap sQ).length<=x.up.length*11:=di _ fun u _=>px _;have g3:=px (cK .str (sT p) x.fact.rel 0).toNat;have g4:=px x.c8.toNat;rw[lU,Tn,Tn,Tn];omega
 have B:=px (bm l).length;have C:=px l.length;have J:(ja kd m).length=9:=rfl;have Y:(bm l).length*1011<=1000000*1011:=TN _ d.1;have Z:l.length*110000200<=65536*110000200:=TN _ j;rw[bj,lM,gv,Tn,Tn,Tn,Tn];omega
theorem tB(p:Prog)(kd:UInt8)(l:List cM): ∃x e,dG p kd l= .aZ [.iv x,pI e]:=by
 unfold dG kJ
 repeat' split
 all_goals exact⟨_,_,rfl⟩
mutual
theorem Tree.mQ: ∀t:Tree,∀x∈t.pre,x.up=[]
 | .mk f r ks,x,hx=>by
  rw[Tree.pre]at hx;rcases TQ.1 hx with rfl|hx
  .rfl
  .exact Tree.CL ks x hx
theorem Tree.CL: ∀l:List Tree,∀x∈Tree.fw l,x.up=[]
 | [],_,hx=>nomatch hx
 |e::r,x,hx=>by
  rw[Tree.fw]at hx;rcases TP.1 hx with hx|hx
  .exact Tree.mQ e x hx
  .exact Tree.CL r x hx
end
theorem MI(y:dE)(p:Prog)(hf:p.fit)(hs:p.size<=10000000)(B:p.ts<=800000000)(t:Tree)(C:t.size<=1000000000)(ha: ∀x∈t.pre,x.fact.args.length<=1000000000):Al.Pure Tryz.prog 11 [ag p.c,ag t.c] (dG p 1 (t.pre.take 65537)):=by
 obtain⟨x,e,A⟩:=tB p 1 (t.pre.take 65537);have hu: ∀x∈t.pre.take 65537,x.up.length<=10000000:=fun x d=>by rw[Tree.mQ t x (UP d)];simp
 exact Ob (xU y p hf hs B (Fi t C) (fun x d=>⟨ha x (UP d),hu x d⟩) (fun j _ u=>n5 j u hu _ _)) A ⟨x,rfl⟩
theorem Oo(D:dE)(p:Prog)(hf:p.fit)(hs:p.size<=10000000)(G:p.ts<=800000000)(L:List du)(C:L.length<=1000000000)(ha: ∀x∈L,x.fact.args.length<=1000000000∧x.kids.length<=10000000):Al.Pure Tryz.prog 17 [ag p.c,.iv (bp 4 L du.c)] (dG p 2 (cE (L.take 65537))):=by
 obtain⟨x,e,F⟩:=tB p 2 (cE (L.take 65537));have u: ∀x∈cE (L.take 65537),x.fact.args.length<=1000000000∧x.up.length<=10000000:=fun x d=>by
  obtain⟨⟨y,i⟩,J,rfl⟩:=UG.1 d;have A:y∈L:=UP (VT J);have j:=ha y A;exact⟨j.1,by simpa[du.vP]using j.2⟩
 exact JM (xU D p hf hs G (Cn L C fun x d=>by have:=(ha x d).2;omega) u (fun j _ B=>n5 j B (fun x d=>(u x d).2) _ _)) F ⟨x,rfl⟩
end Go.Proofs.YtbhphmfbligliaaGreatDoor
namespace Go.Proofs.YtbhphmfbligliaaGreatDoor
open Go Go.Al Go.Proofs.Tryz Go.En
theorem str_inj{a b:By}(h:(⟨a.toArray⟩:ae)=⟨b.toArray⟩):a=b:=by
 have d:=congrArg Xi h;exact congrArg Array.toList d
theorem QS{p:Prog}(hc:(b7 p).1=0){x:IV}(y: ∀σ,(PV.iv x).bZ σ= .iv x){kd:UInt8}{l:List cM}(A:l.length<=65536)(hw:Al.Pure prog 30 [ag p.c,.iv x] (dG p kd l))(b:By)(hb:b.length<=4194304):
  Al.Pure prog 33 [ag p.c,.iv x,.iv (bp 1 b bb)] (pB (kw (bz p 0 l=is∧bj p (bn p).toNat kd l=b))):=by
 unfold dG at hw;rw[be (by omega),be (fun h=>h hc)]at hw;by_cases d:bz p 0 l=jp
 .rw[am d]at hw;rw[decide_eq_false (fun h=>by rw[d]at h;cases h.1)];exact MK (e:=161) (by decide) hw
 .rw[be d]at hw;have d:bz p 0 l=is:=by simpa using d
  unfold kJ at hw;by_cases j:(bj p (bn p).toNat kd l).length>4194304
  .rw[am j]at hw;rw[decide_eq_false (fun h=>by rw[h.2]at j;omega)];exact MK (e:=2) (by decide) hw
  .rw[be j]at hw;have u:=QR y (b:=b) hw;rw[show kw (bz p 0 l=is∧bj p (bn p).toNat kd l=b)=kw ((⟨(bj p (bn p).toNat kd l).toArray⟩:ae)=⟨b.toArray⟩) from decide_eq_decide.2 ⟨fun h=>by rw[h.2],fun h=>⟨d,str_inj h⟩⟩];exact u
theorem PJ(y:dE)(p:Prog)(hf:p.fit)(hs:p.size<=10000000)(B:p.ts<=800000000)(t:Tree)(C:t.size<=65536)(ha: ∀x∈t.pre,x.fact.args.length<=1000000000):Al.Pure prog 30 [ag p.c,.iv (.oj 68 (.agg t.c))] (dG p 1 t.pre):=by
 have A:t.pre.take 65537=t.pre:=TE (by rw[t.fV];omega);have hu: ∀x∈t.pre.take 65537,x.up.length<=10000000:=fun x d=>by rw[Tree.mQ t x (UP d)];simp
 have h:=xU y p hf hs B (Fi t (by omega)) (fun x d=>⟨ha x (UP d),hu x d⟩) (fun j _ u=>n5 j u hu _ _);rw[A]at h;exact h
theorem Nf(C:dE)(p:Prog)(hf:p.fit)(hs:p.size<=10000000)(F:p.ts<=800000000)(L:List du)(J:L.length<=65536)(ha: ∀x∈L,x.fact.args.length<=1000000000∧x.kids.length<=10000000):Al.Pure prog 30 [ag p.c,.iv (.oj 79 (.agg [bp 4 L du.c]))] (dG p 2 (cE L)):=by
 have D:L.take 65537=L:=TE (by omega);have u: ∀x∈cE (L.take 65537),x.fact.args.length<=1000000000∧x.up.length<=10000000:=fun x d=>by
  obtain⟨⟨y,i⟩,G,rfl⟩:=UG.1 d;have A:y∈L:=UP (VT G);have j:=ha y A;exact⟨j.1,by simpa[du.vP]using j.2⟩
 have h:=xU C p hf hs F (Cn L (by omega) fun x d=>by have:=(ha x d).2;omega) u (fun j _ B=>n5 j B (fun x d=>(u x d).2) _ _);rw[D]at h;exact h
theorem JS{p:Prog}{r:ar}{n:Int}(h:(r5 p r n).1=0):n<=256:=by
 unfold r5 at h;split at h
 .cases h
 .split at h
  .cases h
  .split at h
   .cases h
   .omega
theorem yJ{p:Prog}(h:(b7 p).1=0):PF p:=by
 have u:(ef p).1=0:=by
  unfold b7 at h;split at h
  .exact h
  .rename_i x;exact VO.1 x
 have d:=yF u;refine⟨d.nodup,d.len,?_⟩;have d:=(vb p).1 u;unfold jE at d;obtain⟨_,j⟩:=VN.1 d;have j:=(ub p _).1 j;refine UR fun y=>?_;have A:=JS (j 256 y);omega
theorem Rl{P:Prop}[Decidable P](h:(!decide P)=is): ¬P:=by simpa using h
theorem isd{P:Prop}[Decidable P](h:(!decide P)=jp):P:=by simpa using h
noncomputable def wv(p:Prog)(b:By):Option Tree:=match kz p b 1 with
 |none=>io
 |some l=>match ie l with
  |some (t,[])=>if bz p 0 t.pre=is∧bj p (bn p).toNat 1 t.pre=b then dl t else io
  |_=>io
noncomputable def jP(p:Prog)(b:By):PV:=
 if 4194304<b.length then .aZ [ag Tree.z.c,pI 2] else if(b7 p).1≠0 then .aZ [ag Tree.z.c,pI 4] else match wv p b with
  |some t=> .aZ [ag t.c,pI 0]
  |none=> .aZ [ag Tree.z.c,pI 160]
theorem nP(Z:dE)(p:Prog)(hf:p.fit)(hs:p.size<=10000000)(ht:p.ts<=800000000)(b:By)(hb:b.length<=1000000000):Al.Pure prog 13 [ag p.c,.iv (bp 1 b bb)] (jP p b):=by
 have a0:p.aw.length+(p.aw.map fun d=>d.types.length).sum+p.rules.length+(p.rules.map ar.size).sum<=10000000:=hs;have hR:=FF Z p hf hs ht b 1 hb (.inl I);unfold wA at hR;unfold jP;by_cases Y:4194304<b.length
 .rw[am Y]at hR ⊢;refine ai ab func13 I (by decide) ntmps13 I (by simp) I ?_;refine gA I (aP (hR) I I I I I I ?_);refine gA I ?_;refine Tq (fun zz=>?_) (fun zz=>?_)<;>(try(exact absurd zz (by decide)))
  refine gA I (aN (by first|exact .inr I|exact .inl I) I ?_);exact .aZ ⟨Nk,.refl _,ac⟩
 rw[be Y]at hR ⊢;by_cases D:(b7 p).1≠0
 .rw[am D]at hR ⊢;refine ai ab func13 I (by decide) ntmps13 I (by simp) I ?_;refine gA I (aP (hR) I I I I I I ?_);refine gA I ?_;refine Tq (fun zz=>?_) (fun zz=>?_)<;>(try(exact absurd zz (by decide)))
  refine gA I (aN (by first|exact .inr I|exact .inl I) I ?_);exact .aZ ⟨Nk,.refl _,ac⟩
 rw[be D]at hR ⊢;have hc:(b7 p).1=0:=VO.1 D;cases hr:kz p b 1 with
 |none=>
  have e:wv p b=io:=by rw[wv,hr]
  rw[hr]at hR;rw[e];refine ai ab func13 I (by decide) ntmps13 I (by simp) I ?_;refine gA I (aP (hR) I I I I I I ?_);refine gA I ?_;refine Tq (fun zz=>?_) (fun zz=>?_)<;>(try(exact absurd zz (by decide)))
  refine gA I (aN (by first|exact .inr I|exact .inl I) I ?_);exact .aZ ⟨Nk,.refl _,ac⟩
 |some l=>
  obtain⟨hk,hl,F⟩:=uj hr;rw[hr]at hR;have A:=Q4 l.length l (Tv _) (by omega) fun n C=>⟨UC.1 (F n C).up,(F n C).kids⟩
  cases hg:ie l with
  |none=>
   have e:wv p b=io:=by simp only[wv,hr,hg]
   rw[hg]at A;rw[e];refine ai ab func13 I (by decide) ntmps13 I (by simp) I ?_;refine gA I (aP (hR) I I I I I I ?_);refine gA I ?_;refine Tq (fun zz=>?_) (fun zz=>?_)<;>(try(exact absurd zz (by decide)))
   refine gA I (oC [] A I I I I I I I ?_);rintro q J n' ⟨⟨t,rfl⟩,rfl,rfl⟩;refine⟨_,rfl,?_⟩;refine gA I ?_;refine Tq (fun zz=>?_) (fun zz=>?_)<;>(try(exact absurd zz (by decide)))
   refine gA I (aN (by first|exact .inr I|exact .inl I) I ?_);exact .aZ ⟨Nk,.refl _,ac⟩
  |some x=>
   obtain⟨t,q⟩:=x;have j:=uR hg;rw[hg]at A;cases q with
   |cons y q=>
    have e:wv p b=io:=by simp only[wv,hr,hg]
    rw[e];refine ai ab func13 I (by decide) ntmps13 I (by simp) I ?_;refine gA I (aP (hR) I I I I I I ?_);refine gA I ?_;refine Tq (fun zz=>?_) (fun zz=>?_)<;>(try(exact absurd zz (by decide)))
    refine gA I (oC [] A I I I I I I I ?_);rintro G J n' ⟨u,rfl,rfl⟩;have u:G= .aZ [ag t.c,.iv (dF (y::q)),pB is]:=u;subst u;refine⟨_,rfl,?_⟩;refine gA I ?_;refine Tq (fun zz=>?_) (fun zz=>?_)<;>(try(exact absurd zz (by decide)))
    refine gA I ?_;refine Tq (fun zz=>?_) (fun zz=>?_)<;>(try(simp at zz;done))
    refine gA I (aN (by first|exact .inr I|exact .inl I) I ?_);exact .aZ ⟨Nk,.refl _,ac⟩
   |nil=>
    rw[T1]at j;have B:t.size<=65536:=by rw[<-t.fV,<-j];exact hl
    have hO:=QS hc (x:= .oj 68 (.agg t.c)) (fun σ=>rfl) (kd:=1) (l:=t.pre) (by rw[t.fV];exact B) (PJ Z p hf hs ht t B fun x C=>by have:=(F x (j▸C)).args;omega) b (by omega);have e1: ∀h: ¬(bz p 0 t.pre=is∧bj p (bn p).toNat 1 t.pre=b),wv p b=io:=fun h=>by simp only[wv,hr,hg,be h]
    have e2: ∀h:bz p 0 t.pre=is∧bj p (bn p).toNat 1 t.pre=b,wv p b=dl t:=fun h=>by simp only[wv,hr,hg];exact am h
    generalize wv p b=R at*
    refine ai ab func13 I (by decide) ntmps13 I (by simp) (by cases R<;>rfl) ?_;refine gA I (aP (hR) I I I I I I ?_);refine gA I ?_;refine Tq (fun zz=>?_) (fun zz=>?_)<;>(try(exact absurd zz (by decide)))
    refine gA I (oC [] A I I I I I I I ?_);rintro G J n' ⟨u,rfl,rfl⟩;have u:G= .aZ [ag t.c,.iv (dF []),pB is]:=u;subst u;refine⟨_,rfl,?_⟩;refine gA I ?_;refine Tq (fun zz=>?_) (fun zz=>?_)<;>(try(exact absurd zz (by decide)))
    refine gA I ?_;refine Tq (fun zz=>?_) (fun zz=>?_)<;>(try(exact absurd zz (by decide)))
    refine gA I (bF I (eR (nT I I (by intro ms h;cases h) (cs:=t.c) I) I) ?_);rintro s rfl;refine gA I (aP (hO) I I I I I I ?_);refine gA I ?_;refine Tq (fun g=>?_) (fun g=>?_)
    .have g: ¬(bz p 0 t.pre=is∧bj p (bn p).toNat 1 t.pre=b):=Rl g;rw[e1 g];refine gA I (aN (by first|exact .inr I|exact .inl I) I ?_);exact .aZ ⟨Nk,.refl _,ac⟩
    .have g:bz p 0 t.pre=is∧bj p (bn p).toNat 1 t.pre=b:=isd g;rw[e2 g];refine gA I (aN (by first|exact .inr I|exact .inl I) I (.of_eq ?_));rfl
def Ej(i:Nat)(n:cM):du:=⟨n.fact,n.c8,n.up.map fun u=>(i:Int)-u⟩
def ct(l:List cM):List du:=l.zipIdx.map fun x=>Ej x.2 x.1
theorem pf(l:List cM):(ct l).length=l.length:=by simp[ct]
theorem Ao{l:List cM}{i:Nat}(h:i<l.length):ct (l.take (i+1))=ct (l.take i)++ [Ej i (l.getD i co)]:=by
 have d:(l.take i).length=i:=by rw[TY];omega
 rw[bc h,ct,W0,TA,d,TL];rfl
def HY(p:Prog)(b:By):Option (List du):=match kz p b 2 with
 |none=>io
 |some l=>if bz p 0 (cE (ct l))=is∧bj p (bn p).toNat 2 (cE (ct l))=b then dl (ct l) else io
def x8(p:Prog)(b:By):PV:=
 if 4194304<b.length then .aZ [km,pI 2] else if(b7 p).1≠0 then .aZ [km,pI 4] else match HY p b with
  |some L=> .aZ [.iv (bp 4 L du.c),pI 0]
  |none=> .aZ [km,pI 160]
theorem Bj(hS:dE)(p:Prog)(hf:p.fit)(hs:p.size<=10000000)(ht:p.ts<=800000000)(b:By)(hb:b.length<=1000000000):Al.Pure prog 18 [ag p.c,.iv (bp 1 b bb)] (x8 p b):=by
 have i0:p.aw.length+(p.aw.map fun d=>d.types.length).sum+p.rules.length+(p.rules.map ar.size).sum<=10000000:=hs;have A:=FF hS p hf hs ht b 2 hb (.inr I);unfold wA at A;unfold x8;by_cases h1:4194304<b.length
 .rw[am h1]at A ⊢;refine ai ab func18 I (by decide) ntmps18 I (by simp) I ?_;refine gA I (aP (A) I I I I I I ?_);refine gA I ?_;refine Tq (fun zz=>?_) (fun zz=>?_)<;>(try(exact absurd zz (by decide)))
  refine gA I (aN (by first|exact .inr I|exact .inl I) I (.of_eq ?_));rfl
 rw[be h1]at A ⊢;by_cases h2:(b7 p).1≠0
 .rw[am h2]at A ⊢;refine ai ab func18 I (by decide) ntmps18 I (by simp) I ?_;refine gA I (aP (A) I I I I I I ?_);refine gA I ?_;refine Tq (fun zz=>?_) (fun zz=>?_)<;>(try(exact absurd zz (by decide)))
  refine gA I (aN (by first|exact .inr I|exact .inl I) I (.of_eq ?_));rfl
 rw[be h2]at A ⊢;have hc:(b7 p).1=0:=VO.1 h2;cases hr:kz p b 2 with
 |none=>
  have e:HY p b=io:=by rw[HY,hr]
  rw[hr]at A;rw[e];refine ai ab func18 I (by decide) ntmps18 I (by simp) I ?_;refine gA I (aP (A) I I I I I I ?_);refine gA I ?_;refine Tq (fun zz=>?_) (fun zz=>?_)<;>(try(exact absurd zz (by decide)))
  refine gA I (aN (by first|exact .inr I|exact .inl I) I (.of_eq ?_));rfl
 |some l=>
  obtain⟨hk,hl,hn⟩:=uj hr;rw[hr]at A;have F: ∀i,i<l.length->l.getD i co∈l:=fun i hi=>uX hi
  have G: ∀n∈l,n.up.length<=10000000:=fun n Y=>by
   have B:=hn n Y;have C:n.up.length=n.kids.toNat:=B.up;have h5:=B.want;rw[C,h5];exact yV hs _
  have e1: ∀h: ¬(bz p 0 (cE (ct l))=is∧bj p (bn p).toNat 2 (cE (ct l))=b),HY p b=io:=fun h=>by simp only[HY,hr,be h]
  have e2: ∀h:bz p 0 (cE (ct l))=is∧bj p (bn p).toNat 2 (cE (ct l))=b,HY p b=dl (ct l):=fun h=>by simp only[HY,hr];exact am h
  generalize HY p b=RL at*
  refine ai ab func18 I (by decide) ntmps18 I (by simp) (by cases RL<;>rfl) ?_;refine gA I (aP (A) I I I I I I ?_);refine gA I ?_;refine Tq (fun zz=>?_) (fun zz=>?_)<;>(try(exact absurd zz (by decide)))
  refine gA I ?_;refine jC 8 4 I ?_;refine aG 0 l.length (TB _) (fun i=>⟨[(1,.iv (bp 1 b bb)),(2,.ptr 0 0),(8,.sl 2 0 i 4),(23,.iv (dF l)),(24,pI l.length),(25,pI i)],[(0,dl (az p.c)),(2,dl (aX 4 (ct (l.take i)) du.c))],3⟩) (fun _=>True) [1] ac
   (wk I I I (bi (bi (bi (bi (bi (bi trivial)))))) ⟨⟨_,rfl,.of_eq I⟩,Tk I,rfl,hR I I I trivial⟩ I) fun i hi _=>?_
  refine gA I ?_;refine Tq (fun B=>?_) (fun B=>?_)
  .have B:i<l.length:=by simpa using B
   have c0:(l.take i).length=i:=by rw[TY];omega
   have g0:(ct (l.take i)).length=i:=by rw[pf,c0]
   have d0:=Ao B;have Y:=hn _ (F i B);have k0:=G _ (F i B);refine gA I ?_;refine fm 4 3 1 I I ?_;refine aG 0 (l.getD i co).up.length (TB _) (fun j=>⟨[(1,.iv (bp 1 b bb)),(2,.ptr 0 0),(8,.sl 2 0 i 4),(9,pI i),(11,.ptr 4 0),(23,.iv (dF l)),(24,pI l.length),(25,pI i),(36,.iv (bp 1 (l.getD i co).up eO)),(37,pI (l.getD i co).up.length),(38,pI j)],[(0,dl (az p.c)),(2,dl (aX 4 (ct (l.take i)) du.c)),(4,dl (.cells [pS (l.getD i co).fact.rel,.iv (bp 3 (l.getD i co).fact.args ei.c),pI (l.getD i co).c8,.sl 6 0 j 1])),(6,dl (aX 1 (((l.getD i co).up.take j).map fun u=>(i:Int)-u) eO))],7⟩) (fun _=>True) [5] ac
    (wk I I I (bi (bi (bi (bi (bi (bi (bi (bi (bi (bi (bi trivial))))))))))) ⟨⟨_,rfl,.of_eq I⟩,Tk I,rfl,hR I I I ⟨⟨_,rfl,.of_eq I⟩,Tk I,rfl,hR I I I trivial⟩⟩ I) fun j hj _=>?_
   refine gA I ?_;refine Tq (fun C=>?_) (fun C=>?_)
   .have C:j<(l.getD i co).up.length:=by simpa using C
    have f0:(((l.getD i co).up.take j).map fun u=>(i:Int)-u).length=j:=by rw[T2,TY];omega
    have j0:=Y.Sd _ (uX C);have e0:(((l.getD i co).up.take (j+1)).map fun u=>(i:Int)-u)=(((l.getD i co).up.take j).map fun u=>(i:Int)-u)++ [(i:Int)-(l.getD i co).up.getD j co]:=by rw[bc C,TA];rfl
    generalize(((l.getD i co).up.take j).map fun u=>(i:Int)-u)=R at*
    refine gA I ⟨C,ac,[8],wk I I I (bi (bi (bi (bi (bi (bi (bi (bi (bi (bi (bi ac))))))))))) ⟨⟨_,rfl,.of_eq I⟩,Tk I,rfl,hR I I I ⟨⟨_,rfl,.of_eq I⟩,Tk I,rfl,hR I (by rw[e0,TA];rfl) I ac⟩⟩ I⟩
   .have C:(l.getD i co).up.length<=j:=by simpa using C
    have b0:j=(l.getD i co).up.length:=by omega
    subst b0;rw[Uj];refine eW 6 (fun k=>eO (((l.getD i co).up.map fun u=>(i:Int)-u).getD k co)) I (dq I) (by repeat(first|exact ac|refine⟨ac,?_⟩)) ⟨(by simp[AO.iw,az,Prog.c,bg,PV.bh]),cX _ _ _ _ _ _,(by simp[AO.iw,bg,PV.bh]),cX _ _ _ _ _ _,ac⟩ ?_;refine gA I ⟨B,ac,[8],wk I I I (bi (bi (bi (bi (bi (bi ac)))))) ⟨⟨_,rfl,.of_eq I⟩,Tk I,rfl,hR I (by rw[d0,TA];refine congrArg _ ?_;simp only[List.drop,List.take,TL,TD,TX,du.c,Ej,bp,T2]) I ac⟩ I⟩
  .have B:l.length<=i:=by simpa using B
   have a0:i=l.length:=by omega
   subst a0;rw[Uj];have D:(ct l).length<=65536:=by rw[pf];exact hl
   have hO:=QS hc (x:= .oj 79 (.agg [bp 4 (ct l) du.c])) (fun σ=>rfl) (kd:=2) (l:=cE (ct l)) (by rw[nU];exact D) (Nf hS p hf hs ht (ct l) D fun y hy=>by
    obtain⟨⟨x,j⟩,Y,rfl⟩:=UG.1 hy;have Z:=VT Y
    exact⟨by have:=(hn x Z).args;show x.fact.args.length<=_;omega,by simpa[Ej]using G x Z⟩) b (by omega)
   have J:=pf l;refine ep (L:=[]) (t:=⟨[(1,.iv (bp 1 b bb)),(2,.ptr 0 0),(8,.sl 2 0 l.length 4)],[(0,dl (az p.c)),(2,dl (aX 4 (ct l) du.c))],3⟩) (wk I I I (bi (bi (bi ac))) ⟨⟨_,rfl,.of_eq I⟩,Tk I,rfl,hR I I I ac⟩ I) ?_;refine eW 2 (fun k=>du.c ((ct l).getD k co)) I (dq I) (by simp[AF.iw,PV.bh,J]) ⟨(by simp[AO.iw,az,bg,PV.bh,Prog.c]),cX _ _ _ _ _ _,ac⟩ ?_;refine ep (L:=[]) (t:=⟨[(1,.iv (bp 1 b bb)),(2,.ptr 0 0),(8,.iv (bp 4 (ct l) du.c))],[(0,dl (az p.c))],3⟩) (wk I I I (bi (bi ⟨.bU J.symm (fun k _=>by rw[TL]),rfl,ac⟩)) ⟨⟨_,rfl,.of_eq I⟩,Tk I,rfl,ac⟩ I) ?_;refine gA I (bF I (eR (nT I I (by intro ms h;cases h) (cs:=[bp 4 (ct l) du.c]) I) I) ?_);rintro s rfl;refine gA I (aP (hO) I I I I I I ?_);refine gA I ?_;refine Tq (fun g=>?_) (fun g=>?_)
   .have g: ¬(bz p 0 (cE (ct l))=is∧bj p (bn p).toNat 2 (cE (ct l))=b):=Rl g;rw[e1 g];refine gA I (aN (by first|exact .inr I|exact .inl I) I (.of_eq ?_));rfl
   .have g:bz p 0 (cE (ct l))=is∧bj p (bn p).toNat 2 (cE (ct l))=b:=isd g;rw[e2 g];refine gA I (aN (by first|exact .inr I|exact .inl I) I (.of_eq ?_));rfl
theorem Dj{p:Prog}: ∀{l:List cM} {a i:Nat} {n:cM},bz p a l=is->l[i]? =dl n->j3 p n (a+i)=is
 | [],a,i,n,_,h=>by simp at h
 |x::l,a,0,n,hf,h=>by
  rw[bz,TZ]at hf;simp at h;subst h;exact hf.1
 |x::l,a,i+1,n,hf,h=>by
  rw[bz,TZ]at hf;have:=Dj hf.2 (by simpa using h);rw[show a+1+i=a+(i+1) by omega]at this;exact this
theorem Et{p:Prog}{y:du}{i:Nat}(h:j3 p (y.vP i) i=is):Ej i (y.vP i)=y:=by
 unfold j3 at h;simp only[TZ,decide_eq_true_eq]at h;have x:=T7.1 h.2.2.2.2;obtain⟨f,r,j⟩:=y;show(⟨f,r,(j.map (qU i)).map fun u=>(i:Int)-u⟩:du)=⟨f,r,j⟩
 congr 1;rw[Ve]
 conv=>rhs;rw[<-List.map_id j]
 refine UX fun k B=>?_;have d:=x (qU i k) (UG.2 ⟨k,B,rfl⟩);unfold kT at d;simp only[TZ,decide_eq_true_eq]at d;show(i:Int)-qU i k=k;unfold qU at d ⊢;split at d
 .rename_i A;rw[am A];omega
 .omega
theorem uG{p:Prog}{L:List du}(h:bz p 0 (cE L)=is):ct (cE L)=L:=by
 refine VD fun i=>?_
 have e:(ct (cE L))[i]? =L[i]?.map fun y=>Ej i (y.vP i):=by
  simp only[ct,cE,Tu,WR,Wo];cases L[i]? with
  |none=>rfl
  |some y=>simp
 rw[e];cases hy:L[i]? with
 |none=>rfl
 |some y=>
  have j:(cE L)[i]? =dl (y.vP i):=by
   simp only[cE,Tu,WR,hy];simp
  have d:=Dj h j;rw[TL]at d;rw[Ut,Et d]
theorem zs{p:Prog}(hc:(b7 p).1=0){t:Tree}(j:t.size<=65536)(hf:bz p 0 t.pre=is):wv p (bj p (bn p).toNat 1 t.pre)=dl t:=by
 have h:=ui (yJ hc) (m:=(bn p).toNat) (kd:=1) (.inl I) (l:=t.pre) (by rw[t.fV];exact j) hf (fun n u=>by
  show n.up.length=0
  rw[Tree.mQ t n u];rfl)
 have d:ie t.pre=dl (t,[]):=po (by rw[T1]);unfold wv;rw[show(1:UInt8).toNat=1 from rfl]at h;rw[h];simp only[d];exact am ⟨hf,ac⟩
theorem FY{p:Prog}(hc:(b7 p).1=0){L:List du}(d:L.length<=65536)(hf:bz p 0 (cE L)=is):HY p (bj p (bn p).toNat 2 (cE L))=dl L:=by
 have h:=ui (yJ hc) (m:=(bn p).toNat) (kd:=2) (.inr I) (l:=cE L) (by rw[nU];exact d) hf (fun n j=>by
  obtain⟨⟨y,i⟩,u,rfl⟩:=UG.1 j;show(y.kids.map (qU i)).length=((y.kids.length:Nat):Int).toNat
  simp)
 unfold HY;rw[show(2:UInt8).toNat=2 from rfl]at h;rw[h];simp only;rw[am (by rw[uG hf];exact⟨hf,rfl⟩),uG hf]
def Kg:ae:=⟨#[97]⟩
def pX:Prog:=⟨[⟨Kg,[1],⟨0,0⟩⟩],[]⟩
def OZ:ei:=⟨1,3,Tx⟩
def Ro:Fact:=⟨Kg,[OZ]⟩
def wV:Tree:= .mk Ro 0 []
def E0:du:=⟨Ro,0,[]⟩
theorem uq:pX.fit:=⟨by decide,by decide,fun r h=>nomatch h⟩
theorem lg:(b7 pX).1=0:=by decide+kernel
theorem ql:pX.size<=10000000:=by decide
theorem Ac:pX.ts<=800000000:=by decide
theorem uH:cE [E0]=wV.pre:=rfl
theorem rK:bz pX 0 wV.pre=is:=by decide+kernel
def aB(k:UInt8)(m:Nat):By:=[80,68,71,49,k,UInt8.ofNat (m/16777216),UInt8.ofNat (m/65536),UInt8.ofNat (m/256),UInt8.ofNat m,0,1,0,6,0]
theorem DN:lM (bm wV.pre)++gv pX (bm wV.pre) wV.pre=[0,1,0,6,0]:=by decide+kernel
theorem HO(k:UInt8)(m:Nat):bj pX m k wV.pre=aB k m:=by
 unfold bj;rw[DN];rfl
theorem mu(k:UInt8)(m:Nat):(aB k m).length=14:=rfl
theorem aW(k:UInt8):dG pX k wV.pre= .aZ [.iv (bp 1 (aB k (bn pX).toNat) bb),pI 0]:=by
 rw[dG,be (by decide),be (fun h=>h lg),be (by rw[rK];decide),kJ,HO,be (by rw[mu];decide)]
theorem aT:jP pX (aB 1 (bn pX).toNat)= .aZ [ag wV.c,pI 0]:=by
 rw[jP,be (by rw[mu];decide),be (fun h=>h lg),<-HO,zs lg (by decide) rK]
theorem aL:x8 pX (aB 2 (bn pX).toNat)= .aZ [.iv (bp 4 [E0] du.c),pI 0]:=by
 rw[x8,be (by rw[mu];decide),be (fun h=>h lg),<-HO,<-uH,FY (L:=[E0]) lg (by decide) (show bz pX 0 (cE [E0])=is from rK)]
theorem aM:oy pX=(bn pX,0):=by rw[oy,am lg]
theorem aK(m:Nat):i6 (aB 1 m)=1:=by
 rw[i6,am ⟨by rw[mu];decide,rfl,.inl I⟩];rfl
theorem Od:Al.Pure prog 26 [] (ag pX.c):=by
 refine ai ab func26 I (by decide) ntmps26 I (by simp) I ?_;refine gM 12 I (ep [] (t:=⟨[(0,.ptr 0 0)],[(0,dl (.cells [.sl 2 0 1 4,.iv (.v (.slice io 0 0))])),(1,dl (aX 1 [(1:Int)] eO)),(2,dl (.row 4 [[pS Kg,.sl 1 0 1 1,pI 0,pI 0]]))],3⟩) (wk I I I (bi ac) ⟨⟨_,rfl,.of_eq I⟩,Tk I,rfl,(hR I I I ⟨⟨_,rfl,.of_eq I⟩,Tk I,JT I,ac⟩)⟩ I) ?_);refine GW 1 (fun k=>eO ([(1:Int)].getD k co)) I (dq I) (by simp[AF.iw,PV.bh]) (qo I) ?_
 refine ep (L:=[]) (t:=⟨[(0,.ptr 0 0)],[(0,dl (.cells [.sl 2 0 1 4,.iv (.v (.slice io 0 0))])),(2,dl (aX 4 pX.aw Decl.c))],3⟩) (wk I I I (bi ac) ⟨⟨_,rfl,.of_eq I⟩,Tk I,rfl,(hR I (by
  show[[pS Kg,.iv (.bU 1 1 fun k=>eO ([(1:Int)].getD (0+k) co)),pI 0,pI 0]]=_
  simp only[TL];rfl) I ac)⟩ I) ?_
 refine gA I (iP (.inr I) I (fD.gG 2 pX.aw Decl.c I I ?_ (.done ?_)))
 .simp[PV.bh,bg,pX]
 .exact .agg ⟨.bU I (fun k _=>by rw[TL]),.nil _ _,ac⟩
theorem ML:Al.Pure prog 27 [] (ag wV.c):=by
 refine ai ab func27 I (by decide) ntmps27 I (by simp) I ?_;refine gA I (iP (.inr I) I (fD.gG 1 [OZ] ei.c I I (by simp[PV.bh,bg]) (.done ?_)));exact .agg ⟨.refl _,.bU I (fun k _=>by rw[TL];rfl),.refl _,.nil _ _,ac⟩
set_option maxHeartbeats 1000000 in
theorem Ox(u:dE):Al.Pure prog 9 [] (pB is):=by
 have hT:=MI u pX uq ql Ac wV (by decide) (fun x y=>by
  have y:x∈ [wV.vP]:=y
  rw[TF.1 y];decide)
 rw[show wV.pre.take 65537=wV.pre from rfl,aW]at hT;have d:=nP u pX uq ql Ac (aB 1 (bn pX).toNat) (by rw[mu];decide);rw[aT]at d;have B:=Oo u pX uq ql Ac [E0] (by decide) (fun x y=>by rw[TF.1 y];decide);rw[show[E0].take 65537=[E0] from rfl,uH,aW]at B;have j:=Bj u pX uq ql Ac (aB 2 (bn pX).toNat) (by rw[mu];decide);rw[aL]at j;have hM:=FI u pX uq ql Ac;rw[aM]at hM;have A:=MM (aB 1 (bn pX).toNat) (by rw[mu];decide);rw[aK]at A;generalize(bn pX).toNat=m at*
 have C:(aB 1 m).length=14:=mu 1 m;refine ai ab func9 I (by decide) ntmps9 I (by simp) I ?_;refine gA I (aP (Od) I I I I I I ?_);refine gA I (ck ab [] (Pure.A6 (ML)) I I I I I I I I I I I I (by(repeat' (first|exact ac|exact rfl|exact aj.refl _|exact aj.bk (by assumption)|apply Tq))<;>first|omega|(simp only[Tt];omega)|(simp;done)|(simp;omega)) I (by(repeat' (first|exact ac|exact rfl|exact aj.refl _|exact aj.bk (by assumption)|apply Tq))<;>first|omega|(simp only[Tt];omega)|(simp;done)|(simp;omega)) ?_);refine gA I (ck ab [] (Pure.A6 (hT)) I I I I I I I I I I I I (by(repeat' (first|exact ac|exact rfl|exact aj.refl _|exact aj.bk (by assumption)|apply Tq))<;>first|omega|(simp only[Tt];omega)|(simp;done)|(simp;omega)) I (by(repeat' (first|exact ac|exact rfl|exact aj.refl _|exact aj.bk (by assumption)|apply Tq))<;>first|omega|(simp only[Tt];omega)|(simp;done)|(simp;omega)) ?_);refine gA I ?_;refine Tq (fun zz=>?_) (fun zz=>?_)<;>(try(exact absurd zz (by decide)))
 refine gA I ?_;refine Tq (fun zz=>?_) (fun zz=>?_)<;>(try(simp[mu]at zz;done))
 refine gA I ?_;refine Tq (fun zz=>?_) (fun zz=>?_)<;>(try(simp[aB]at zz;done))
 refine gA I (aP (A) I I I I I I ?_);refine gA I ?_;refine Tq (fun zz=>?_) (fun zz=>?_)<;>(try(exact absurd zz (by decide)))
 refine gA I (aP (d) I I I I I I ?_);refine gA I (ck ab [] (Pure.A6 (ML)) I I I I I I I I I I I I (by(repeat' (first|exact ac|exact rfl|exact aj.refl _|exact aj.bk (by assumption)|apply Tq))<;>first|omega|(simp only[Tt];omega)|(simp;done)|(simp;omega)) I (by(repeat' (first|exact ac|exact rfl|exact aj.refl _|exact aj.bk (by assumption)|apply Tq))<;>first|omega|(simp only[Tt];omega)|(simp;done)|(simp;omega)) ?_)
 refine gA I (mb ab I I I I I (by(repeat' (first|exact ac|exact rfl|exact aj.refl _|exact aj.bk (by assumption)|apply Tq))<;>first|omega|(simp only[Tt];omega)|(simp;done)|(simp;omega)) (Qk (t0:=⟨[(1,.ptr 0 0),(4,.ptr 1 0),(5,pI 0),(44,ag pX.c),(45,ag wV.c),(46,ag Ro.c),(47,.agg [pS Kg,.iv (bp 3 [OZ] ei.c),pI 0,km]),(48,.iv (bp 4 [E0] du.c))],[(0,dl (az pX.c)),(1,dl (az wV.c))],3⟩) (((To.wk (L:=[]) (t:=⟨[(1,.ptr 0 0),(4,.ptr 1 0),(5,pI 0),(44,ag pX.c),(45,ag wV.c),(46,ag Ro.c),(47,.agg [pS Kg,.iv (bp 3 [OZ] ei.c),pI 0,km]),(48,.sl 2 0 1 4)],[(0,dl (az pX.c)),(1,dl (az wV.c)),(2,dl (aX 4 [E0] du.c))],3⟩)
   (wk I I I (bi (bi (bi (bi (bi (bi (bi (bi ac)))))))) ⟨⟨_,rfl,.of_eq I⟩,Tk I,rfl,⟨⟨_,rfl,.of_eq I⟩,Tk I,rfl,hRl I (show jr [[pS Kg,.iv (bp 3 [OZ] ei.c),pI 0,km]] [[pS Kg,.iv (bp 3 [OZ] ei.c),pI 0,.iv (bp 1 ([]:List Int) eO)]] from⟨⟨.refl _,.refl _,.refl _,.nil _ _,ac⟩,ac⟩) I ac⟩⟩ I)).trans
   (To.row (s:=⟨[(1,.ptr 0 0),(4,.ptr 1 0),(5,pI 0),(44,ag pX.c),(45,ag wV.c),(46,ag Ro.c),(47,.agg [pS Kg,.iv (bp 3 [OZ] ei.c),pI 0,km]),(48,.sl 2 0 1 4)],[(0,dl (az pX.c)),(1,dl (az wV.c)),(2,dl (aX 4 [E0] du.c))],3⟩) 2 (fun k=>du.c ([E0].getD k co)) I (dq I) (by simp[AF.iw,PV.bh,bg,Prog.c,Tree.c,Fact.c,km]) (qo I))).trans
   (To.wk (L:=[]) (wk I I I (bi (bi (bi (bi (bi (bi (bi ⟨.bU I (fun k _=>by rw[TL]),rfl,ac⟩))))))) ⟨⟨_,rfl,.of_eq I⟩,Tk I,rfl,⟨_,rfl,.of_eq I⟩,Tk I,rfl,ac⟩ I)))
  (u6 [] (Pure.A6 B) I I I I I I I)) I (by(repeat' (first|exact ac|exact rfl|exact aj.refl _|exact aj.bk (by assumption)|apply Tq))<;>first|omega|(simp only[Tt];omega)|(simp;done)|(simp;omega)) ?_)
 have D:wV.fact.args.length=1:=rfl;have F:E0.fact.args.length=1:=rfl;refine gA I (aP (j) I I I I I I ?_);refine gA I (aP (hM) I I I I I I ?_);refine gA I ?_;refine Tq (fun zz=>?_) (fun zz=>?_)<;>(try(exact absurd zz (by decide)))
 refine gA I ?_;refine Tq (fun zz=>?_) (fun zz=>?_)<;>(try(exact absurd zz (by decide)))
 refine gA I ?_;refine Tq (fun zz=>?_) (fun zz=>?_)<;>(try(exact absurd zz (by decide)))
 refine gA I ?_;refine Tq (fun zz=>?_) (fun zz=>?_)<;>(try(exact absurd zz (by decide)))
 refine gA I ?_;refine Tq (fun zz=>?_) (fun zz=>?_)<;>(try(exact absurd zz (by decide)))
 refine gA I ?_;refine Tq (fun zz=>?_) (fun zz=>?_)<;>(try(exact absurd zz (by decide)))
 refine gA I ?_;refine Tq (fun zz=>?_) (fun zz=>?_)<;>(try(exact absurd zz (by decide)))
 refine gA I (aN (by first|exact .inr I|exact .inl I) I (.of_eq ?_));rfl
structure Tf (p:Prog) (b:By) (t:Tree):Prop where
 kind:i6 b=1
 len:t.size<=65536
 args: ∀x∈t.pre,x.fact.args.length<=(p.aw.map fun d=>d.types.length).sum
 fits:bz p 0 t.pre=is
 eq:bj p (bn p).toNat 1 t.pre=b
theorem FP{p:Prog}{b:By}{t:Tree}(h:wv p b=dl t):Tf p b t:=by
 unfold wv at h;cases hr:kz p b 1 with
 |none=>rw[hr]at h;cases h
 |some l=>
  rw[hr]at h;obtain⟨A,B,C⟩:=uj hr;cases hg:ie l with
  |none=>simp only[hg]at h;cases h
  |some x=>
   obtain⟨u,q⟩:=x;have d:=uR hg;cases q with
   |cons y q=>simp only[hg]at h;cases h
   |nil=>
    simp only[hg]at h;split at h
    .rename_i j;cases h;rw[T1]at d;subst d;exact⟨A,by rw[<-t.fV];exact B,fun x D=>(C x D).args,j.1,j.2⟩
    .cases h
structure RlOk (p:Prog) (b:By) (L:List du):Prop where
 kind:i6 b=2
 len:L.length<=65536
 args: ∀x∈L,x.fact.args.length<=(p.aw.map fun d=>d.types.length).sum∧ ∃i,x.kids.length<=((bW p).getD i 0).toNat
 fits:bz p 0 (cE L)=is
 eq:bj p (bn p).toNat 2 (cE L)=b
theorem Fm{α:Type}[Inhabited α]{a b:List α}(x:a.length=b.length)(h: ∀j,j<a.length->a.getD j co=b.getD j co):a=b:=by
 refine List.ext_getElem x fun i d u=>?_;have:=h i d;rwa[Tr,Tr,Ts d,Ts u]at this
theorem Gj{α:Type}[Inhabited α]{a b:List α}{i:Nat}(h: ¬a.getD i co=b.getD i co):a≠b:=fun e=>h (by rw[e])
theorem Bi(a b:List ei)(ha:a.length<=1000000000):Al.Pure prog 120 [.iv (bp 3 a ei.c),.iv (bp 3 b ei.c)] (pB (kw (a=b))):=by
 refine ai ab func120 I (by decide) ntmps120 I (by simp) I ?_;refine gA I ?_;refine Tq (fun d=>?_) (fun d=>?_)
 .have d: ¬a.length=b.length:=by
   intro e;have g:(!kw ((a.length:Int)=(b.length:Int)))=is:=d;rw[e]at g;simp at g
  rw[decide_eq_false fun e=>d (by rw[e])];refine gA I (aN (by first|exact .inr I|exact .inl I) I (.of_eq ?_));rfl
 have d:a.length=b.length:=by
  have g:(!kw ((a.length:Int)=(b.length:Int)))=jp:=d;rw[Vl,decide_eq_true_eq]at g;exact Int.ofNat_inj.1 g
 refine gA I ?_;refine aG 0 a.length (TB _) (fun i=>⟨[(0,.iv (bp 3 a ei.c)),(1,.iv (bp 3 b ei.c)),(5,pI i)],[],0⟩) (fun i=> ∀j,j<i->a.getD j co=b.getD j co) [] (fun j A=>absurd A (Vs j))
  (wk I I I (bi (bi (bi trivial))) trivial I) fun i F C=>?_
 refine gA I ?_;refine Tq (fun u=>?_) (fun u=>?_)
 .have u:i<a.length:=by simpa using u
  have D:(kw ((a.getD i co).kind=(b.getD i co).kind)&&(kw ((a.getD i co).num=(b.getD i co).num)&&(kw ((a.getD i co).sym=(b.getD i co).sym)&&is)))=kw (a.getD i co=b.getD i co):=by
   generalize a.getD i co=x;generalize b.getD i co=y;cases x;cases y;simp[ei.mk.injEq]
  refine gA I ?_;refine Tq (fun B=>?_) (fun B=>?_)
  .have g:(!(kw ((a.getD i co).kind=(b.getD i co).kind)&&(kw ((a.getD i co).num=(b.getD i co).num)&&(kw ((a.getD i co).sym=(b.getD i co).sym)&&is))))=is:=B;rw[D]at g;have g: ¬a.getD i co=b.getD i co:=by simpa using g
   rw[decide_eq_false (Gj g)];refine gA I (aN (by first|exact .inr I|exact .inl I) I (.of_eq ?_));rfl
  .have g:(!(kw ((a.getD i co).kind=(b.getD i co).kind)&&(kw ((a.getD i co).num=(b.getD i co).num)&&(kw ((a.getD i co).sym=(b.getD i co).sym)&&is))))=jp:=B;rw[D]at g;have g:a.getD i co=b.getD i co:=by simpa using g
   refine gA I ⟨u,fun j A=>by rcases VE.1 A with h|h;exact C j h;exact h▸g,[],wk I I I (bi (bi (bi ac))) ac I⟩
 .have u:a.length<=i:=by simpa using u
  rw[decide_eq_true (Fm d fun j A=>C j (by omega))];refine gA I (aN (by first|exact .inr I|exact .inl I) I (.of_eq ?_));rfl
instance:DecidableEq Fact:=fun a b=>decidable_of_iff (a.rel=b.rel∧a.args=b.args) (by cases a;cases b;simp)
theorem D0(a b:Fact)(ha:a.args.length<=1000000000):Al.Pure prog 81 [ag a.c,ag b.c] (pB (kw (a=b))):=by
 have j:kw (a=b)=(kw (a.rel=b.rel)&&kw (a.args=b.args)):=by
  cases a;cases b;simp[Fact.mk.injEq]
 rw[j];refine ai ab func81 I (by decide) ntmps81 I (by simp) I ?_;refine gA I ?_;refine Tq (fun d=>?_) (fun d=>?_)
 .have d:a.rel=b.rel:=of_decide_eq_true d;refine gA I (aP (Bi a.args b.args ha) I I I I I I ?_);refine gA I (aN (by first|exact .inr I|exact .inl I) I (.of_eq ?_));rw[decide_eq_true d,Vo];rfl
 .have d: ¬a.rel=b.rel:=of_decide_eq_false d;refine gA I (aN (by first|exact .inr I|exact .inl I) I ?_);rw[decide_eq_false d,Vc];exact .of_eq I
theorem Tree.kid{f:Fact}{r:Int}{ks:List Tree}{i:Nat}(h:i<ks.length): ∀x∈(ks.getD i co).pre,x∈(Tree.mk f r ks).pre:=fun x d=>by
 rw[Tree.pre,Tree.wC ks i h];exact TH _ (UQ _ (Ue _ d))
theorem Tree.lP(ks:List Tree)(i:Nat)(h:i<ks.length):Tree.an (ks.take (i+1))=Tree.an (ks.take i)+(ks.getD i co).size∧Tree.an (ks.take (i+1))<=Tree.an ks:=by
 have e:Tree.an ks=Tree.an (ks.take (i+1))+Tree.an (ks.drop (i+1)):=by rw[<-Tree.fu,Um]
 have d:Tree.an (ks.take (i+1))=Tree.an (ks.take i)+(ks.getD i co).size:=by
  rw[bc h,Tree.fu,Tree.an,Tree.an,Vd]
 omega
theorem Of(N:Nat): ∀(t:Tree) (z:Int),t.size<=N->t.size<=1000000000->(∀x∈t.pre,x.fact.args.length<=1000000000)-> -9000000000+(t.size:Int)<=z->z<=9000000000->
  Al.Fn prog 34 [ag t.c1,ag t.c1,.ptr 0 0] [.cells [pI z]] (fun q h n=>q=pB is∧(∃u:Int,h=[(0,dl (.cells [pI u]))]∧z-t.size<=u∧u<=z)∧n=1):=by
 induction N with
 |zero=>intro t z h;have:=t.size_pos;omega
 |succ N ih=>
  intro t z hN G A b0 c0;obtain⟨f,r,d⟩:=t;have a0:(Tree.mk f r d).size=1+Tree.an d:=by rw[Tree.size]
  have B:=D0 f f (A _ (by rw[Tree.pre];exact TJ ..));have Z:=Tree.aA d;rw[decide_eq_true (rfl:f=f)]at B;refine mc ab func34 I (by decide) ntmps34 I (by simp) ?_;refine gA I ?_;refine Tq (fun g1=>?_) (fun g1=>?_)
  .refine gA I (iO (r:=pB is) (h:=[(0,dl (.cells [pI (z-1)]))]) (n:=1) [] (by first|exact .inr I|exact .inl I) I ⟨rfl,⟨z-1,rfl,by omega,by omega⟩,rfl⟩ (wk I I I (bi ac) ⟨⟨_,rfl,.of_eq I⟩,Tk I,rfl,ac⟩ I))
  have g1: ¬z-1<0:=of_decide_eq_false g1;refine gA I ?_;refine Tq (fun zz=>?_) (fun zz=>?_)<;>(try(simp at zz;done))
  refine gA I ?_;refine Tq (fun zz=>?_) (fun zz=>?_)<;>(try(simp at zz;done))
  refine gA I (aP (B) I I I I I I ?_);refine gA I ?_;refine Tq (fun zz=>?_) (fun zz=>?_)<;>(try(exact absurd zz (by decide)))
  refine gA I ?_;refine jD 0 d.length (TB _) (fun i (v:Int)=>⟨[(2,.ptr 0 0),(3,.ptr 1 0),(4,.ptr 2 0),(7,pI i)],[(0,dl (.cells [pI v])),(1,dl (az (Tree.mk f r d).c1)),(2,dl (az (Tree.mk f r d).c1))],3⟩) (fun i v=>z-1-(Tree.an (d.take i):Int)<=v∧v<=z) (z-1) [] ⟨by rw[VI];show z-1-((0:Nat):Int)<=_;omega,by omega⟩
   (wk I I I (bi (bi (bi (bi trivial)))) ⟨⟨_,rfl,.of_eq I⟩,Tk I,rfl,⟨_,rfl,.of_eq I⟩,Tk I,rfl,⟨_,rfl,.of_eq I⟩,Tk I,rfl,ac⟩ I) fun i v hi F=>?_
  obtain⟨j1,j2⟩:=F;refine gA I ?_;refine Tq (fun j=>?_) (fun j=>?_)
  .have j:i<d.length:=VL.1 (of_decide_eq_true j);have Y:(Tree.mk f r d).kids.length=d.length:=rfl;obtain⟨C,D⟩:=Tree.lP d i j;have J:=ih (d.getD i co) v (by omega) (by omega) (fun x hx=>A x (Tree.kid j x hx)) (by omega) (by omega);refine gA I (O9 ab [0] (Fn.le (aa:=[ag (d.getD i co).c,ag (d.getD i co).c,.ptr 0 0]) J ⟨(d.getD i co).wY,(d.getD i co).wY,.refl _,ac⟩) I I I I I I I I I I I (by(repeat' (first|exact ac|exact rfl|exact aj.refl _|exact aj.bk (by assumption)|apply Tq))<;>first|omega|(simp only[Tt];omega)|(simp;done)|(simp;omega)) ?_);rintro q h' n' ⟨rfl,⟨u,rfl,k1,k2⟩,rfl⟩;refine⟨_,rfl,_,rfl,(by(repeat' (first|exact ac|exact rfl|exact aj.refl _|exact aj.bk (by assumption)|apply Tq))<;>first|omega|(simp only[Tt];omega)|(simp;done)|(simp;omega)),?_⟩;refine gA I ?_;refine Tq (fun zz=>?_) (fun zz=>?_)<;>(try(exact absurd zz (by decide)))
   refine gA I ⟨j,u,[],⟨by show z-1-(Tree.an (d.take (i+1)):Int)<=u;omega,by show u<=z;omega⟩,wk I I I (bi (bi (bi (bi ac)))) ⟨⟨_,rfl,.of_eq I⟩,Tk I,rfl,⟨_,rfl,.of_eq I⟩,Tk I,rfl,⟨_,rfl,.of_eq I⟩,Tk I,rfl,ac⟩ I⟩
  .have j:d.length<=i:=UR fun hh=>absurd (VL.2 hh) (of_decide_eq_false j)
   have y:i=d.length:=by omega
   subst y;rw[Uj]at j1;refine gA I (iO (r:=pB is) (h:=[(0,dl (.cells [pI v]))]) (n:=1) [] (by first|exact .inr I|exact .inl I) I ⟨rfl,⟨v,rfl,by omega,by omega⟩,rfl⟩ (wk I I I (bi ac) ⟨⟨_,rfl,.of_eq I⟩,Tk I,rfl,ac⟩ I))
theorem Oe(t:Tree)(h1:t.size<=1000000000)(ha: ∀x∈t.pre,x.fact.args.length<=1000000000):Al.Pure prog 14 [ag t.c,ag t.c] (pB is):=by
 have d:=Of t.size t 65537 (Tv _) h1 ha (by omega) (by omega);refine ai ab func14 I (by decide) ntmps14 I (by simp) I ?_;refine gA I (oC [2] (Fn.le (aa:=[ag t.c,ag t.c,.ptr 0 0]) d ⟨t.wY,t.wY,.refl _,ac⟩) I I I I I I I ?_);rintro q j u ⟨rfl,⟨z',rfl,k1,k2⟩,rfl⟩;refine⟨_,rfl,?_⟩;refine gA I (aN (by first|exact .inr I|exact .inl I) I (.of_eq ?_));rfl
section
theorem KP{p:Prog}(hc:(b7 p).1=0){t:Tree}(A:t.size<=65536)(hf:bz p 0 t.pre=is){a:By}(ha:bj p (bn p).toNat 1 t.pre=a)(B:a.length<=4194304){i:Nat}(hi:i<a.length):jP p (a.take i)= .aZ [ag Tree.z.c,pI 160]:=by
 rw[jP,be (by rw[TY];omega),be (fun h=>h hc)];have j:wv p (a.take i)=io:=by
  cases h:wv p (a.take i) with
  |none=>rfl
  |some u=>
   have d:=FP h;have e:bj p (bn p).toNat 1 u.pre++a.drop i=bj p (bn p).toNat 1 t.pre:=by rw[d.eq,Um,ha]
   have y:=xu (yJ hc) (lines:=jp) (by rw[u.fV];exact d.len) d.fits (fun n j=>by show n.up.length=0;rw[Tree.mQ u n j];rfl) (by rw[t.fV];exact A) hf (fun n j=>by show n.up.length=0;rw[Tree.mQ t n j];rfl) e;have x:=congrArg Vp y;rw[U5]at x;simp only[UJ]at x;omega
 rw[j]
theorem Gp{p:Prog}(hc:(b7 p).1=0){t:Tree}(x:t.size<=65536)(hf:bz p 0 t.pre=is){a:By}(ha:bj p (bn p).toNat 1 t.pre=a){more:By}(hm:more≠ []):jP p (a++more)= .aZ [ag Tree.z.c,pI 160]∨jP p (a++more)= .aZ [ag Tree.z.c,pI 2]:=by
 rw[jP];split
 .exact .inr I
 .rw[be (fun h=>h hc)];have j:wv p (a++more)=io:=by
   cases h:wv p (a++more) with
   |none=>rfl
   |some u=>
    have d:=FP h;have e:bj p (bn p).toNat 1 t.pre++more=bj p (bn p).toNat 1 u.pre:=by rw[d.eq,ha]
    exact absurd (xu (yJ hc) (lines:=jp) (by rw[t.fV];exact x) hf (fun n j=>by show n.up.length=0;rw[Tree.mQ t n j];rfl) (by rw[u.fV];exact d.len) d.fits (fun n j=>by show n.up.length=0;rw[Tree.mQ u n j];rfl) e) hm
  rw[j];exact .inl I
theorem DF{p:Prog}(hc:(b7 p).1=0){t:Tree}(d:t.size<=65536)(hf:bz p 0 t.pre=is){a:By}(ha:bj p (bn p).toNat 1 t.pre=a)(j:a.length<=4194304):jP p a= .aZ [ag t.c,pI 0]:=by
 rw[jP,be (by omega),be (fun h=>h hc),<-ha,zs hc d hf]
theorem xF(p:Prog)(t:Tree):(∃e:Int,e≠0∧dG p 1 (t.pre.take 65537)= .aZ [km,pI e])∨(∃a:By,dG p 1 (t.pre.take 65537)= .aZ [.iv (bp 1 a bb),pI 0]∧(b7 p).1=0∧t.size<=65536∧bz p 0 t.pre=is∧bj p (bn p).toNat 1 t.pre=a∧a.length<=4194304∧0<a.length):=by
 unfold dG;split
 .exact .inl ⟨2,by decide,rfl⟩
 .rename_i d;have x:t.size<=65536:=by
   rw[TY,t.fV]at d;omega
  have y:t.pre.take 65537=t.pre:=TE (by rw[t.fV];omega);rw[y];split
  .exact .inl ⟨4,by decide,rfl⟩
  .rename_i j;split
   .exact .inl ⟨161,by decide,rfl⟩
   .rename_i u;unfold kJ;split
    .exact .inl ⟨2,by decide,rfl⟩
    .rename_i A;refine .inr ⟨_,rfl,VO.1 j,x,by simpa using u,rfl,by omega,?_⟩;rw[bj,Tn];have:(ja 1 (bn p).toNat).length=9:=rfl;omega
section
variable {P:Program} {ty:Ty} {nt:NT} {s:AS}
theorem Hn{α:Type}[Inhabited α]{l:List α}{f:α->List IV}{m sz:Nat}{p:IV}(hp:p= .bU sz m fun k=>f (l.getD k co))(hm:m<=l.length):aj (.iv p) (.iv (bp sz (l.take m) f)):=by
 subst hp;refine .bU (by rw[TY];omega) fun k d=>?_;simp[Wf,T4,d]
theorem AU(j:bE P ty){o:Oper}{t u:TypeId}{x hi:Operand}(ho:o.op= .slice t x io (dl hi) io){e eu:bJ}(C:ty t=dl e)(B:e.k= .aR (.slice u))(hu:ty u=dl eu)
  {α:Type} [Inhabited α] {l:List α} {f:α->List IV} {m sz:Nat} {kc:IntKind} {y:Int} (D:ev s.f x= .iv (bp sz l f)) (hh:ev s.f hi= .iv (.v (.int kc y))) (d:y=(m:Int)) (hm:m<=l.length):
  ∀M N a w,Fits M N s nt a w-> ∃x,(execOp a.eval o).run P w= .ok (.value x) w∧VR M N (· <s.nx) (.iv (bp sz (l.take m) f)) x:=by
 intro M N a w A;obtain⟨x,g1,g2⟩:=qK j ho C B hu D hh d hm M N a w A;exact⟨x,g1,Hn I hm M N _ x g2⟩
end
set_option maxHeartbeats 1000000 in
theorem FN(D:dE)(p:Prog)(t:Tree)(more:By)(hf:p.fit)(hs:p.size<=10000000)(ht:p.ts<=800000000)(Z:t.size<=1000000000)(Y: ∀x∈t.pre,x.fact.args.length<=1000000000)(hm:more.length<=10000000):Al.Pure prog 8 [ag p.c,ag t.c,.iv (bp 1 more bb)] (pB is):=by
 have hA:=Ox D;have hW:=MI D p hf hs ht t Z Y;rcases xF p t with⟨e,he,h1⟩|⟨a,h1,hc,B,y,u,F,b0⟩
 .rw[h1]at hW;refine ai ab func8 I (by decide) ntmps8 I (by simp) I ?_;refine gA I (aP (hA) I I I I I I ?_);refine gA I (aP (hW) I I I I I I ?_);refine gA I ?_;refine Tq (fun zz=>?_) (fun zz=>?_)<;>(try(exact absurd zz (by decide)))
  refine gA I ?_;refine Tq (fun zz=>?_) (fun zz=>?_)<;>(try(simp[he]at zz;done))
  refine gA I (aN (by first|exact .inr I|exact .inl I) I (.of_eq ?_));rfl
 rw[h1]at hW;have G: ∀i,i<a.length->Al.Pure prog 13 [ag p.c,.iv (bp 1 (a.take i) bb)] (.aZ [ag Tree.z.c,pI 160]):=fun i hi=>by
  have d:=nP D p hf hs ht (a.take i) (by rw[TY];omega);rw[KP hc B y u F hi]at d;exact d
 have j:Al.Pure prog 13 [ag p.c,.iv (bp 1 a bb)] (.aZ [ag t.c,pI 0]):=by
  have d:=nP D p hf hs ht a (by omega);rw[DF hc B y u F]at d;exact d
 have hmore:more≠ []-> ∃e:Int,(e=160∨e=2)∧Al.Pure prog 13 [ag p.c,.iv (bp 1 (a++more) bb)] (.aZ [ag Tree.z.c,pI e]):=fun e0=>by
  have d:=nP D p hf hs ht (a++more) (by rw[Tn];omega);rcases Gp hc B y u e0 with h3|h3
  .rw[h3]at d;exact⟨160,.inl I,d⟩
  .rw[h3]at d;exact⟨2,.inr I,d⟩
 have a0:=Oe t Z Y;refine ai ab func8 I (by decide) ntmps8 I (by simp) I ?_;refine gA I (aP (hA) I I I I I I ?_);refine gA I (aP (hW) I I I I I I ?_);refine gA I ?_;refine Tq (fun zz=>?_) (fun zz=>?_)<;>(try(exact absurd zz (by decide)))
 refine gA I ?_;refine Tq (fun zz=>?_) (fun zz=>?_)<;>(try(exact absurd zz (by decide)))
 refine gA I ?_;refine jD 0 a.length (TB _) (fun i (k:Nat)=>⟨[(2,.iv (bp 1 more bb)),(3,.ptr 0 0),(4,.ptr 1 0),(8,.iv (bp 1 a bb)),(10,pI k),(11,pI i)],[(0,dl (az p.c)),(1,dl (az t.c))],2⟩) (fun i k=>k<=i∧(0<i->0<k)) 0 [] ⟨Tv _,fun h=>h⟩
  (wk I I I (bi (bi (bi (bi (bi (bi trivial)))))) ⟨⟨_,rfl,.of_eq I⟩,Tk I,rfl,⟨_,rfl,.of_eq I⟩,Tk I,rfl,ac⟩ I) fun i k hi hJ=>?_
 obtain⟨g0,J⟩:=hJ;refine gA I ?_;refine Tq (fun c1=>?_) (fun c1=>?_)
 .have c1:i<a.length:=VL.1 (of_decide_eq_true c1);refine gM 4 I (go_cut 1 (fun(_:Unit)=>⟨[(2,.iv (bp 1 more bb)),(3,.ptr 0 0),(4,.ptr 1 0),(8,.iv (bp 1 a bb)),(10,pI k),(11,pI i),(46,pB (kw (100<i∧(i:Int)<(a.length:Int)-100)))],[(0,dl (az p.c)),(1,dl (az t.c))],2⟩) I ?_ ?_)
  .refine gA I ?_;refine Tq (fun C=>?_) (fun C=>?_)
   .have C:100<i:=by have h:=of_decide_eq_true C;omega
    refine gA I (kR () [] ?_);exact wk I I I (bi (bi (bi (bi (bi (bi ⟨.of_eq (congrArg pB (decide_eq_decide.2 ⟨fun h=>⟨C,h⟩,fun h=>h.2⟩)),rfl,ac⟩)))))) ⟨⟨_,rfl,.of_eq I⟩,Tk I,rfl,⟨_,rfl,.of_eq I⟩,Tk I,rfl,ac⟩ I
   .have C: ¬100<i:=by have h:=of_decide_eq_false (C.trans I);omega
    refine gA I (kR () [] ?_);exact wk I I I (bi (bi (bi (bi (bi (bi ⟨.Sw (decide_eq_false (fun h=>C h.1)).symm,rfl,ac⟩)))))) ⟨⟨_,rfl,.of_eq I⟩,Tk I,rfl,⟨_,rfl,.of_eq I⟩,Tk I,rfl,ac⟩ I
  intro _;refine gA I ?_;refine Tq (fun c2=>?_) (fun c2=>?_)
  .have c2:100<i∧(i:Int)<(a.length:Int)-100:=of_decide_eq_true c2;refine gA I ⟨c1,k,[],⟨by omega,fun _=>J (by omega)⟩,wk I I I (bi (bi (bi (bi (bi (bi ac)))))) ⟨⟨_,rfl,.of_eq I⟩,Tk I,rfl,⟨_,rfl,.of_eq I⟩,Tk I,rfl,ac⟩ I⟩
  .refine gA I (rE (p:= .iv (bp 1 (a.take i) bb)) 3 I I I I I I (AU ab I I I I (l:=a) (f:=bb) I I (m:=i) I hi) ?_);refine G0 ab [3] [] (Pure.A6 (G i c1)) I I I I I I I I I I I I (by(repeat' (first|exact ac|exact rfl|exact aj.refl _|exact aj.bk (by assumption)|apply Tq))<;>first|omega|(simp only[Tt];omega)|(simp;done)|(simp;omega)) ?_ I (by(repeat' (first|exact ac|exact rfl|exact aj.refl _|exact aj.bk (by assumption)|apply Tq))<;>first|omega|(simp only[Tt];omega)|(simp;done)|(simp;omega)) ?_ ?_
   .exact⟨HK I I I (AU ab I I I I (l:=a) (f:=bb) I I (m:=i) I hi) (.refl _),ac⟩
   .exact ac
   refine gA I ?_;refine Tq (fun zz=>?_) (fun zz=>?_)<;>(try(exact absurd zz (by decide)))
   refine gA I ⟨c1,k+1,[],⟨by omega,fun _=>by omega⟩,wk I I I (bi (bi (bi (bi (bi (bi ac)))))) ⟨⟨_,rfl,.of_eq I⟩,Tk I,rfl,⟨_,rfl,.of_eq I⟩,Tk I,rfl,ac⟩ I⟩
 have c1:a.length<=i:=UR fun hh=>absurd (VL.2 hh) (of_decide_eq_false c1);have d0:i=a.length:=by omega
 subst d0;have f0:=J b0;refine gM 5 I (ep [] (t:=⟨[(2,.iv (bp 1 more bb)),(3,.ptr 0 0),(4,.ptr 1 0),(8,.iv (bp 1 a bb)),(10,pI k),(14,.iv (.v (.slice io 0 0)))],[(0,dl (az p.c)),(1,dl (az t.c))],2⟩) (wk I I I (bi (bi (bi (bi (bi (bi ac)))))) ⟨⟨_,rfl,.of_eq I⟩,Tk I,rfl,⟨_,rfl,.of_eq I⟩,Tk I,rfl,ac⟩ I) ?_);refine jC 14 1 I ?_;refine gM 14 I (ep [] (t:=⟨[(2,.iv (bp 1 more bb)),(3,.ptr 0 0),(4,.ptr 1 0),(10,pI k),(14,.sl 4 0 (0+a.length+more.length) 1)],[(0,dl (az p.c)),(1,dl (az t.c)),(4,dl (aX 1 (a++more) bb))],5⟩) (wk I I I (bi (bi (bi (bi (bi ac))))) ⟨⟨_,rfl,.of_eq I⟩,Tk I,rfl,⟨_,rfl,.of_eq I⟩,Tk I,rfl,(hR I (by rw[TA,<-pR a bb,<-pR more bb];rfl) I ac)⟩ I) ?_);have c0:0+a.length+more.length=(a++more).length:=by rw[Tn,TL]
 rw[c0];refine eW 4 (fun k=>bb ((a++more).getD k co)) I (dq I) (by simp[AF.iw,PV.bh]) ⟨(by simp[AO.iw,az,bg,PV.bh,Prog.c]),(by simp[AO.iw,az,bg,PV.bh,Tree.c]),cX _ _ _ _ _ _,ac⟩ ?_;refine ep (L:=[]) (t:=⟨[(2,.iv (bp 1 more bb)),(3,.ptr 0 0),(4,.ptr 1 0),(10,pI k),(14,.iv (bp 1 (a++more) bb))],[(0,dl (az p.c)),(1,dl (az t.c))],5⟩) (wk I I I (bi (bi (bi (bi ⟨.bU I (fun k _=>by rw[TL]),rfl,ac⟩)))) ⟨⟨_,rfl,.of_eq I⟩,Tk I,rfl,⟨_,rfl,.of_eq I⟩,Tk I,rfl,ac⟩ I) ?_;by_cases A:more=[]
 .subst A;rw[T1];refine gA I (aP (j) I I I I I I ?_);refine gA I ?_;refine Tq (fun zz=>?_) (fun zz=>?_)<;>(try(exact absurd zz (by decide)))
  refine gA I (aP (a0) I I I I I I ?_);refine gA I ?_;refine Tq (fun zz=>?_) (fun zz=>?_)<;>(try(have h:=of_decide_eq_false zz;omega))
  refine gA I ?_;refine Tq (fun zz=>?_) (fun zz=>?_)<;>(try(exact absurd zz (by decide)))
  refine gA I (aN (by first|exact .inr I|exact .inl I) I (.of_eq ?_));rfl
 .obtain⟨e,he,hB⟩:=hmore A;have i0:0<more.length:=UE.2 A;refine gA I (aP (hB) I I I I I I ?_);refine gA I ?_;refine Tq (fun zz=>?_) (fun zz=>?_)<;>(try(have h:=of_decide_eq_true zz;omega))
  refine gA I ?_;refine Tq (fun zz=>?_) (fun zz=>?_)<;>(try(have h:=of_decide_eq_false zz;omega))
  rcases he with rfl|rfl
  .refine gA I ?_;refine Tq (fun zz=>?_) (fun zz=>?_)<;>(try(exact absurd zz (by decide)))
   refine gA I (aN (by first|exact .inr I|exact .inl I) I (.of_eq ?_));rfl
  .refine gA I ?_;refine Tq (fun zz=>?_) (fun zz=>?_)<;>(try(exact absurd zz (by decide)))
   refine gA I (aN (by first|exact .inr I|exact .inl I) I (.of_eq ?_));rfl
end
end Go.Proofs.YtbhphmfbligliaaGreatDoor
