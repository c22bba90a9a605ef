/-
  What the proofs of the claims need: part 6 of 7.
-/
import Derived.Test.YtflegjieadkonaaGreatDoorPart5
open Bool renaming and_eq_true→Zo,and_false→Z5,eq_iff_iff→ZN,false_and→Z9,not_eq_false'→aaS,not_eq_true→aav,not_true→abq,or_eq_false_iff→Zz,true_and→ZR
open ByteArray renaming empty→Y5
open Decidable renaming not_not→abr
open Int renaming toNat_natCast→Zs
open List renaming all_eq_true→Zr,append_eq_nil_iff→abo,drop_eq_getElem_cons→abF,eq_nil_of_length_eq_zero→ZW,flatMap_cons→ZO,getD_eq_getElem?_getD→YZ,getElem?_eq_getElem→Y3,length_append→Y1,length_cons→ZA,length_filter_le→aae,length_map→Zx,length_take→ZP,mem_cons→Zj,mem_cons_of_mem→Zg,mem_cons_self→Zh,mem_filter→ZF,mem_iff_getElem→aaa,nil_append→aaF,range→Zp
open Nat renaming add_mul→aaf,blt→Zk,le_of_ble_eq_true→YY,le_refl→Y7,le_trans→ZS,lt_succ_iff_lt_or_eq→ZH,not_lt_zero→Z6,zero_add→Zq,zero_le→Y8
open Option.some renaming inj→Z0
set_option maxRecDepth 100000
open Bool renaming false→lc,true→kw
open Decidable renaming decide→li
open Inhabited renaming default→em
open Option renaming none→jp,some→io
open Array renaming getD_eq_getD_getElem?→Y0
open Option.some renaming injEq→Y2
open List renaming getElem?_eq_some_iff→Y4
open Array renaming range→abR
open Array renaming getElem?_map→abn
open Option renaming map_some→ZZ
open Option renaming getD_some→aaq
open Array renaming getElem?_eq_getElem→ZV
open Nat renaming mul_le_mul_right→Zy
open Array renaming getElem?_append_left→Z4
open List renaming getElem?_append_right→Zn
open List renaming getElem?_take→ZX
open Array renaming getElem?_toList→aac
open And renaming intro→ZL
open List renaming map_append→Y6
open List renaming append_assoc→Zc
open List renaming range_succ_eq_map→abp
namespace Go.Proofs.YtflegjieadkonaaGreatDoor
open Go Go.Al
theorem EJ{α β:Type}{f g:α->List β}: ∀{l:List α},(∀x∈l,f x=g x)->l.flatMap f=l.flatMap g
 | [],_=>rfl
 |x::l,h=>by
  rw[ZO,ZO,h x Zh,EJ fun y b=>h y (Zg _ b)]
theorem OZ{α:Type}[Inhabited α]{l:List α}(h:l.length=2):l=[l.getD 0 em,l.getD 1 em]:=by
 match l,h with
 | [a,b],_=>rfl
theorem P0{α:Type}[Inhabited α]{l:List α}(h:l.length=1):l=[l.getD 0 em]:=by
 match l,h with
 | [a],_=>rfl
theorem oB: ∀(n:Nat) (e:Expr),(bP n e).2=lc->bw e=bC e:=by
 intro n
 induction n using Nat.strongRecOn with
 |ind n ih=>
  intro e h;rw[tv,yB];have u: ∀(b:Bool) (k:nZ),(gE e b k).2=lc->((e.kind=1∨e.kind=2)∧e.args=[])∨(e.kind=4∧k.2=lc):=fun b k hh=>by
   unfold gE at hh;split at hh
   .rename_i hk;refine .inl ⟨hk,?_⟩;unfold yf at hh;simp only[Zz,decide_eq_false_iff_not]at hh;exact ZW (by omega)
   .split at hh
    .cases hh
    .rename_i d;exact .inr ⟨abr.1 fun g=>d (.inl g),hh⟩
  have x:(e.kind=1∨e.kind=2)∧e.args=[]->((if e.kind=1 then[e.var] else[])++e.args.flatMap bw)=if e.kind=1 then[e.var] else if e.kind=4 then e.args.flatMap bC else[]:=by
   rintro⟨hk,ha⟩;rw[ha];rcases hk with hk|hk
   .rw[am hk,am hk];rfl
   .rw[be (by omega),be (by omega),be (by omega)];rfl
  match n,h with
  |0,h=>
   rcases u _ _ h with y|⟨_,d⟩
   .exact x y
   .cases d
  |1,h=>
   rcases u _ _ h with y|⟨_,d⟩
   .exact x y
   .cases d
  |m+2,h=>
   rw[vH]at h;rcases u _ _ h with y|⟨F,d⟩
   .exact x y
   .rw[be (by omega),be (by omega),am F,aaF];have j: ∀b a,(ke m b a).2=lc->bw a=bC a:=fun b a hh=>by
     unfold ke at hh;split at hh
     .simp only[Zz]at hh;exact ih m (by omega) a hh.1
     .exact ih (m+1) (by omega) a hh
    unfold nu at d;split at d
    .split at d
     .rename_i B;have A:=j _ _ d;rw[P0 B];simp only[ZO,List.flatMap_nil];rw[show bw (e.args.getD 0 em)=bC (e.args.getD 0 em) from A]
     .cases d
    .split at d
     .rename_i B;simp only[Zz]at d;have A:=j _ _ d.1;have D:=j _ _ d.2;rw[OZ B];simp only[ZO,List.flatMap_nil];rw[show bw (e.args.getD 0 em)=bC (e.args.getD 0 em) from A,show bw (e.args.getD 1 em)=bC (e.args.getD 1 em) from D]
     .cases d
theorem rD{e:Expr}(h:cX e=kw):bw e=[]:=by
 unfold cX at h;simp only[Zo,decide_eq_true_eq]at h;obtain⟨b,_,_,_,d⟩:=h;rw[tv,be (by omega),ZW (l:=e.args) (by omega)];rfl
theorem Bl{a:Atom}(h:eQ a=kw):cJ a=[]:=by
 unfold eQ at h;simp only[Zo,decide_eq_true_eq]at h;have:a.ad=[]:=ZW (by omega);unfold cJ;rw[this];rfl
theorem Eh: ∀(n:Nat) (br:Int) (l:Lit),(ew n br l).2=lc->dy l=cf l∧(l.kind=4->ig l=bc l.agg)∧(l.kind=3->bw l.left=bC l.left∧bw l.right=bC l.right)
 |0,_,_,h=>by cases h
 |n+1,br,l,h=>by
  rw[ew]at h;unfold jK at h;unfold dy cf;split at h
  .rename_i F;simp only[Zz,aaS]at h;have d:=h.2.1;unfold gY at d;simp only[Zo]at d;refine⟨by rw[am F,rD d.1,rD d.2.1];simp,fun g=>by omega,fun g=>by omega⟩
  .rename_i F;rw[be F];split at h
   .rename_i A;simp only[Zz,aaS]at h;refine⟨by rw[am A,Bl h.2.2.1,oB _ _ h.1,oB _ _ h.2.1];rfl,fun g=>by omega,fun _=>⟨oB _ _ h.1,oB _ _ h.2.1⟩⟩
   .rename_i A;split at h
    .rename_i J;simp only[Zz,aaS]at h;have d:=h.2.2;unfold gY at d;simp only[Zo]at d;refine⟨by rw[be A,Bl h.2.1,rD d.1,rD d.2.1];rfl,fun _=>?_,fun g=>absurd g A⟩;have j:=h.1;unfold oJ at j;split at j
     .cases j
     .simp only[Zz]at j;unfold ig bc;congr 1
      .show(if l.c7=1 then[] else bw l.jR)=if l.c7=1 then[] else bC l.jR;by_cases u:l.c7=1
       .rw[am u,am u]
       .rw[be u,be u];have D:=j.1;unfold Hl at D;rw[be (show¬l.agg.func=1 from u)]at D;simp only[Zz]at D;exact oB _ _ D.2
      .refine EJ fun x I=>?_
       have hb: ∀i,i<=l.ar.length->(b5 (ew n (br-1)) l.ar i).2=lc:=by
        have G: ∀k i,i+k=l.ar.length->(b5 (ew n (br-1)) l.ar i).2=lc:=by
         intro k
         induction k with
         |zero=>intro i B;rw[show i=l.ar.length by omega];exact j.2
         |succ k ih=>
          intro i B;have b:=ih (i+1) (by omega);rw[b5]at b;split at b
          .cases b
          .rename_i y;simpa using y
        exact fun i B=>G (l.ar.length-i) i (by omega)
       obtain⟨i,B,rfl⟩:=aaa.1 I;have b:=hb (i+1) (by omega);rw[b5]at b;split at b
       .cases b
       .split at b
        .cases b
        .rename_i y;rw[aav,YZ,Y3 B]at y;exact(Eh n (br-1) _ y).1
    .cases h
theorem uN{K:aj->Bool}{a b:List aj}(h: ∀x,x∈a↔x∈b):a.all K=b.all K:=by
 rw[ZN,Zr,Zr];exact⟨fun g x d=>g x ((h x).2 d),fun g x d=>g x ((h x).1 d)⟩
theorem Mu:Xp:=by
 intro p r h hr hb;have h0:=(MM h).1;have Y:=(yG p).1 h0;unfold jk at Y;have h2:=(xG p _).1 (abo.1 Y).2;obtain⟨j,hj,rfl⟩:=aaa.1 hr;have S:=h2 j hj;have h4:(pF p p.rules[j] ((j:Int)+1)).1=0:=by
  rw[p6,YZ,Y3 hj]at S;exact S
 generalize p.rules[j]=r at*
 have b: ∀i,i<r.body.length->dy (r.body.getD i em)=cf (r.body.getD i em)∧((r.body.getD i em).kind=4->ig (r.body.getD i em)=bc (r.body.getD i em).agg)∧((r.body.getD i em).kind=3->bw (r.body.getD i em).left=bC (r.body.getD i em).left∧bw (r.body.getD i em).right=bC (r.body.getD i em).right):=fun i y=>by
  have u:=IK h4 _ (cT y);unfold iR at u;rw[Ca _ _ _ (Y7 _),Zz]at u;exact Eh _ _ _ u.2
 refine⟨fun K i y=>?_,fun i y hk x=>?_,fun i=>ZS (Q3 r i) (by omega)⟩
 .obtain⟨f1,f2,f3⟩:=b i y;have F:=U8 r y;unfold iy;generalize r.body.getD i em=l at*
  unfold lF uJ;by_cases k1:l.kind=1
  .rw[am k1,am k1]
  rw[be k1,be k1];by_cases D:l.kind=2
  .rw[am D,am D];unfold uW;have:(dy l).all K=(bg l.atom).all K:=uN fun x=>by
    rw[f1,fQ];unfold cf;rw[am (.inr D)]
   rw[this]
  rw[be D,be D];have d:cf l=if l.kind=3 then bC l.left++bC l.right else[]:=by unfold cf;rw[be (by omega)]
  by_cases A:l.kind=3
  .rw[am A,am A];rw[am A]at d;obtain⟨e1,e2⟩:=f3 A;have a1:(dy l).all K=((aH l.left).all K&&(aH l.right).all K):=by
    rw[f1,d,List.all_append,uN fun x=>(dq (x:=x) (e:=l.left)).symm,uN fun x=>(dq (x:=x) (e:=l.right)).symm]
   have a2:fE K l.left l.right=fD K l.left l.right:=by
    unfold fE fD;rw[e2,uN fun x=>(dq (x:=x) (e:=l.right)).symm,Bool.and_assoc]
   have a3:fE K l.right l.left=fD K l.right l.left:=by
    unfold fE fD;rw[e1,uN fun x=>(dq (x:=x) (e:=l.left)).symm,Bool.and_assoc]
   unfold yF vJ;rw[a1,a2,a3]
  rw[be A,be A];by_cases B:l.kind=4
  .rw[am B,am B,F];unfold Bu Gz;have:(Nu r l).all K=(aF l.agg).all fun v=>!aE (outer r) v||K v:=by
    unfold Nu;rw[am B,f2 B,ZN,Zr,Zr];constructor
    .intro g x G;cases ho:aE (outer r) x with
     |false=>rfl
     |true=>
      show K x=kw;exact g x (ZF.2 ⟨aM.1 ho,aM.2 (ft.1 G)⟩)
    .intro g x G;obtain⟨I,J⟩:=ZF.1 G;have:=g x (ft.2 (aM.1 J));rw[aM.2 I]at this;exact this
   rw[this]
  .rw[be B,be B]
 .obtain⟨f1,_⟩:=b i y;rw[f1];refine rB (fun x=>?_) x;rw[fQ];unfold cf;rw[am (.inl hk)]
end Go.Proofs.YtflegjieadkonaaGreatDoor
namespace Go.Proofs.YtflegjieadkonaaGreatDoor
open Go Go.Al Go.Proofs.Tryz
theorem IP{α:Type}[Inhabited α](l:List α)(f:α->List IV):((Zp l.length).map fun k=>(f (l.getD k em)).map PV.iv)=l.map fun x=>(f x).map PV.iv:=by
 refine List.ext_getElem (by simp) fun i d b=>?_;simp only[Zx]at b;simp[Y3 b]
theorem Pr(l:List aj)(hb:l.length<=1000000000):Pure prog 79 [.iv (strs l)] (.iv (strs l)):=by
 refine ae ab func79 Z (by decide) ntmps79 Z (by simp) Z ?_;refine nV Z ac (L9 Z Z Z Z underlying53 Z fun b j=>?_);refine zJ Z Z (fun k1=>?_) fun k1=>?_
 .have d:l=[]:=ZW (j k1);subst d;refine gA Z (zL ?_);exact .nil _ _
 refine nV Z ac (Qu ab Z Z Z Z Z Z Z fun x=>?_);by_cases d:l=[]
 .subst d;refine nV Z ac (Mi ab Z Z Z Z Z Z Z Z (el2:=fun k=>cM (([]:List aj).getD k em)) Z ?_);refine gA Z (zL ?_);exact .refl _
 .have u:0<l.length:=List.length_pos_iff.2 d;refine nV Z ac (Qv ab Z Z Z Z Z Z Z Z (by decide) Z (GU Z) (by simp;omega) (by show((Zp l.length).map _).length*16<=_;simp;omega) (by simp;omega) Z ?_);refine gA Z (cx (by first|exact .inr Z|exact .inl Z) Z Z ((IP l cM)) ((by simp)))
theorem G3(r:ah)(l:List aj)(hb:r.size<=10000000)(I:l.length<=1000000000):Pure prog 78 [ag r.c,.iv (strs l)] (pB (kJ r l)):=by
 refine ae ab func78 Z (by decide) ntmps78 Z (by simp) Z ?_;refine gA Z (zp (U3 r hb) ?_);refine gA Z ?_;refine az 0 l.length (Y8 _) (fun i=>⟨[(5,.iv (strs (outer r))),(6,.mp 1),(12,.iv (strs l)),(13,pI l.length),(14,pI i)],[(1,io (ct (aC (l.take i))))],2⟩) (fun i=> ∀j,j<i->LV r l j=kw) [] (fun j hj=>absurd hj (Z6 j))
  (zW (Ji Z (fun _=> .v _) Z trivial)) fun i G D=>?_
 refine zE Z Z (fun b=>?_) fun b=>?_
 .have b:=co b;rw[CY fun j hj=>D j (by omega)];exact zU Z
 have b:=ci b;have y:=bB (l.take i) (l.getD i em);have B:=eW (l.take i) (l.getD i em);simp only[ZP]at B;have F:aC (l.take (i+1))=bump (aC (l.take i)) (l.getD i em):=by rw[bz b,cS]
 have A:bU .str (bump (aC (l.take i)) (l.getD i em)) (l.getD i em) 0=(rS (l.take i) (l.getD i em):Int)+1:=by
  unfold bump;rw[kR,am Z,y]
 have x:aE (l.take i) (l.getD i em)=li (bU .str (bump (aC (l.take i)) (l.getD i em)) (l.getD i em) 0>1):=by
  rw[A,cG,y,<-decide_not,decide_eq_decide];omega
 refine zJ Z Z (fun d=>?_) fun d=>?_
 .have d:aE (l.take i) (l.getD i em)=lc:=by rw[x];exact d
  refine gA Z (zp (Af (outer r) (l.getD i em)) ?_);refine zJ Z Z (fun u=>?_) fun u=>?_
  .have u:aE (outer r) (l.getD i em)=lc:=zA u;rw[wP b (by unfold LV;rw[u];rfl)];exact zU Z
  .have u:aE (outer r) (l.getD i em)=kw:=zB u;refine gA Z ?_
   exact⟨b,fun j hj=>by
    rcases ZH.1 hj with hj|hj
    .exact D j hj
    .subst hj;unfold LV;rw[d,u];rfl,[],zW (hM Z F.symm Z trivial)⟩
 .have d:aE (l.take i) (l.getD i em)=kw:=by rw[x];exact d
  rw[wP b (by unfold LV;rw[d,abq,Z5])];exact zU Z
set_option maxHeartbeats 1000000 in
theorem G5(p:Prog)(n:Int)(l:List aj)(hb:p.fit)(hs:p.size<=2000000)(j:l.length<=1000000000):Pure prog 40 [ag p.c,pI n,.iv (strs l)] (Ao (fW p n l)):=by
 have B:p.rules.length<=1000000000:=hb.2.1;refine ae ab func40 Z (by decide) ntmps40 Z (by simp) Z ?_;refine gA Z (zp (BO p n hb (by omega)) ?_);refine zE Z Z (fun k1=>?_) fun k1=>?_
 .have k1:dF p n≠0:=zF k1;rw[show fW p n l=(px.z,dF p n) by unfold fW;rw[am k1]];refine zJ Z Z (fun b=>?_) fun b=>?_
  .refine gA Z (zL ?_);exact zP _
  .exfalso;have b:(!li (dF p n=0))=lc:=b;simp at b;exact k1 b
 have k1:dF p n=0:=zT k1;have u:=sX k1;have D:=kK k1;have y:fW p n l=if kJ (bX p n) l=lc then(px.z,90) else(⟨n, -1,l,tV (bX p n) (-1) l⟩,0):=by unfold fW;rw[be (by simpa using k1)]
 have A:=Mu p (bX p n) u.2.2 (BP k1) (by omega);have x:kL p n=bX p n:=by unfold kL;rw[am k1]
 rw[x];generalize bX p n=r at*
 refine gA Z (zp (G3 r l (by omega) j) ?_);refine zJ Z Z (fun b=>?_) fun b=>?_
 .have b:kJ r l=lc:=zA b;rw[y,am b];refine zJ Z Z (fun d=>?_) fun d=>?_
  .refine gA Z (zL ?_);exact zP _
  .cases d
 have b: ¬kJ r l=lc:=by
  have b:(!kJ r l)=lc:=b;simpa using b
 rw[y,be b];refine zJ Z Z (fun d=>?_) fun d=>?_
 .exfalso;rw[k1]at d;cases d
 refine gA Z (n7 (Pr l j) ?_);refine gA Z (zd [] (FF r l (by omega) j) ?_);refine gA Z (zd [3,4,5] (BL r (H9 r) l (-1) A (.inl Z) (by omega) (by omega) j) ?_);refine gA Z (zL ?_);exact .refl _
theorem FO(a:Atom):outer ⟨a,[],⟨0,0⟩⟩=bg a:=rfl
set_option maxHeartbeats 1000000 in
theorem KH(p:Prog)(n:Int)(hb:p.fit)(hs:p.size<=2000000):Pure prog 41 [ag p.c,pI n] (Ao (ik p n)):=by
 have A:p.rules.length<=1000000000:=hb.2.1;refine ae ab func41 Z (by decide) ntmps41 Z (by simp) Z ?_;refine gA Z (zp (BO p n hb (by omega)) ?_);refine zJ Z Z (fun k1=>?_) fun k1=>?_
 .have k1:dF p n≠0:=by
   have k1:(!li (dF p n=0))=kw:=k1;simpa using k1
  rw[show ik p n=(px.z,dF p n) by unfold ik;rw[am k1]];refine gA Z (zL ?_);exact zP _
 have k1:dF p n=0:=zY k1;have y:=sX k1;have d:=kK k1;have b:kL p n=bX p n:=by unfold kL;rw[am k1]
 have j:=cY (bX p n).head;have u:(bX p n).head.ad.length<=2000000:=by unfold ah.size at d;omega
 rw[b,show ik p n=fW p n (bg (bX p n).head) by unfold ik;rw[be (by simpa using k1)]];have x:Pure prog 80 [.agg [.iv (iS (bX p n).head.rel),.iv (cZ 5 (bX p n).head.ad Term.c),.iv (.v (.slice jp 0 0)),pI 0,pI 0]] (.iv (strs (bg (bX p n).head))):=by
  have h:=U3 ⟨(bX p n).head,[],⟨0,0⟩⟩ (by unfold ah.size;simp only[Lit.aA];omega);rw[FO]at h;exact h.le ⟨.agg ⟨.refl _,.refl _,.nil _ _,.refl _,.refl _,ac⟩,ac⟩
 refine gA Z (zp (x) ?_);refine gA Z (zp (G5 p n (bg (bX p n).head) hb hs (by omega)) ?_);refine gA Z (zL ?_);exact .refl _
theorem Pq(a b:List Int)(hb:a.length<=1000000000000):Pure prog 82 [.iv (cZ 1 a ba),.iv (cZ 1 b ba)] (pB (li (a=b))):=by
 refine ae ab func82 Z (by decide) ntmps82 Z (by simp) Z ?_;refine zJ Z Z (fun g1=>?_) fun g1=>?_
 .have g1: ¬a.length=b.length:=by
   have g1:(!li ((a.length:Int)=b.length))=kw:=g1;simp at g1;omega
  rw[show li (a=b)=lc from decide_eq_false fun h=>g1 (by rw[h])];exact zU Z
 have g1:a.length=b.length:=by
  have g1:(!li ((a.length:Int)=b.length))=lc:=g1;simp at g1;omega
 refine gA Z ?_;refine az 0 a.length (Y8 _) (fun i=>⟨[(0,.iv (cZ 1 a ba)),(1,.iv (cZ 1 b ba)),(12,pI a.length),(13,pI i)],[],0⟩) (fun i=> ∀j,j<i->a.getD j em=b.getD j em) [] (fun j hj=>absurd hj (Z6 j))
  (zW trivial) fun i D x=>?_
 refine zE Z Z (fun u=>?_) fun u=>?_
 .have u:=co u;have B:a=b:=by
   refine List.ext_getElem g1 fun j y A=>?_;have:=x j (by omega);rw[YZ,YZ,Y3 y,Y3 A]at this;exact this
  rw[decide_eq_true B];exact zU Z
 have u:=ci u;refine zJ Z Z (fun d=>?_) fun d=>?_
 .have d: ¬a.getD i em=b.getD i em:=zX d;rw[show li (a=b)=lc from decide_eq_false fun h=>d (by rw[h])];exact zU Z
 .have d:a.getD i em=b.getD i em:=zY d;refine gA Z ?_
  exact⟨u,fun j hj=>by
   rcases ZH.1 hj with hj|hj
   .exact x j hj
   .subst hj;exact d,[],zW ac⟩
def tW(r:ah)(dn:Nat->Bool)(K:aj->Bool)(s:dC):Bool:=li (0<=s.lit∧s.lit<r.body.length)&&(!dn s.lit.toNat&&li (iy K r s.lit.toNat=io s))
def P2(r:ah):List dC->(Nat->Bool)->(aj->Bool)->Bool
 | [],_,_=>kw
 |s::L,dn,K=>tW r dn K s&&P2 r L (zk dn s.lit) (fun x=>K x||aE (tF r s) x)
def mc(p:Prog)(pl:px):Bool:=li (dF p pl.mq=0)&&(kJ (bX p pl.mq) pl.given&&(li (pl.steps.length=(bX p pl.mq).body.length)&&P2 (bX p pl.mq) pl.steps (fun _=>lc) (aE pl.given)))
theorem Bb{α:Type}[Inhabited α]{l:List α}{i:Nat}(h:i<l.length):l.drop i=l.getD i em::l.drop (i+1):=by
 rw[abF h,YZ,Y3 h];rfl
structure VJ (r:ah) (pl:px) (i:Nat) (ks:List aj) (dm:WD):Prop where
 rest:P2 r pl.steps (fun _=>lc) (aE pl.given)=P2 r (pl.steps.drop i) (oD dm) (aE ks)
 kl:ks.length<=1000000000+i*10000000
 pos: ∀i:Int,0<=bU (.int .i64) dm i 0∧bU (.int .i64) dm i 0<=1
theorem Vv{r:ah}{pl:px}{i:Nat}{b:List aj}{dm:WD}(h:VJ r pl i b dm)(hi:i<pl.steps.length)(hs:tW r (oD dm) (aE b) (pl.steps.getD i em)=lc):P2 r pl.steps (fun _=>lc) (aE pl.given)=lc:=by
 rw[h.rest,Bb hi,P2,hs];rfl
theorem NB{r:ah}{x:BM}(y:Bw r x)(hb:r.size<=10000000){pl:px}{i:Nat}{d:List aj}{dm:WD}(h:VJ r pl i d dm)(hi:i<pl.steps.length){s:dC}(he:pl.steps.getD i em=s){j:Nat}(hj:s.lit=j)(b:j<r.body.length)(hd:oD dm j=lc)(hc:iy (aE d) r j=io s):
  VJ r pl (i+1) (d++jU r s) (Jw dm j):=by
 have A:=h.pos j;refine⟨?_,?_,fun c=>?_⟩
 .rw[h.rest,Bb hi,P2,he];have u:tW r (oD dm) (aE d) s=kw:=by
   unfold tW;rw[hj,Zs,hd,hc,decide_eq_true Z,decide_eq_true (by omega)];rfl
  rw[u,ZR,CG A.1,Cm,y.take b hj hc,hj]
 .have B:=Dd r s hj b hb;have D:=h.kl;rw[Y1,aaf];omega
 .unfold Jw;rw[um];split
  .have:=zF hd;omega
  .exact h.pos c
theorem MK(K:aj->Bool)(a:Atom):(jh K a).length<=a.ad.length:=by
 unfold jh;rw[Zx];exact ZS (aae _ _) (by simp)
theorem E2{K:aj->Bool}{r:ah}{l:Lit}{i:Int}{s:dC}(h:uJ K r l i=io s):s.eV.length<=l.atom.ad.length:=by
 unfold uJ vJ Gz at h
 repeat' split at h
 all_goals first
  |(cases h;exact MK K _)
  |(cases h;exact Y8 _)
  |cases h
abbrev vW(r:ah):AO:= .cells [.iv (iS r.head.rel),.iv (cZ 5 r.head.ad Term.c),.iv (lits r.body),.iv (iI r.at_.line),.iv (iI r.at_.zu),.mp 4,.iv (zh (H9 r)),.mp 5]
theorem hV{n:Nat}{σ:Nat->Nat}{h:AH}{r:ah}{m:NM}{d:List aj}{dm b:WD}{rest:AH}(h0:h.get (σ 3)=io (.cells [.iv (iS r.head.rel),.iv (cZ 5 r.head.ad Term.c),.iv (lits r.body),.iv (iI r.at_.line),.iv (iI r.at_.zu),.mp (σ 4),.iv (zh (H9 r)),.mp (σ 5)]))
  (h1:h.get (σ 4)=io (ct m)) (h2:h.get (σ 5)=io (xd dm)) (e1:m=aC d) (e2:dm=b) (j:(vW r).low n) (hb:Zk 5 n=kw) (hr:n6 n σ h rest):n6 n σ h ((3,io (vW r))::(4,io (ct (aC d)))::(5,io (xd b))::rest):=by
 subst e1 e2;have u:5<n:=YY hb;exact⟨⟨_,h0,.of_eq Z⟩,by omega,j,⟨_,h1,.of_eq Z⟩,by omega,ac,⟨_,h2,.of_eq Z⟩,u,ac,hr⟩
set_option maxHeartbeats 1000000 in
theorem Pf(p:Prog)(pl:px)(hb:p.fit)(hs:p.size<=2000000)(a0:pl.given.length<=1000000000):Pure prog 43 [ag p.c,ag pl.c] (pB (mc p pl)):=by
 have k0:p.rules.length<=1000000000:=hb.2.1;refine ae ab func43 Z (by decide) ntmps43 Z (by simp) Z ?_;refine gA Z (zp (BO p pl.mq hb (by omega)) ?_);refine zE Z Z (fun k1=>?_) fun k1=>?_
 .have k1: ¬dF p pl.mq=0:=zX k1;rw[show mc p pl=lc by unfold mc;rw[decide_eq_false k1];rfl];exact zU Z
 have k1:dF p pl.mq=0:=zY k1;have c0:=sX k1;have b0:=kK k1;have hA:=Mu p (bX p pl.mq) c0.2.2 (BP k1) (by omega);have d0:kL p pl.mq=bX p pl.mq:=by unfold kL;rw[am k1]
 have hv:mc p pl=(kJ (bX p pl.mq) pl.given&&(li (pl.steps.length=(bX p pl.mq).body.length)&&P2 (bX p pl.mq) pl.steps (fun _=>lc) (aE pl.given))):=by unfold mc;rw[decide_eq_true k1,ZR]
 rw[d0];generalize bX p pl.mq=r at*
 have g0:r.body.length<=2000000:=by have:=Lit.au r.body;unfold ah.size at b0;omega
 refine gA Z (zp (G3 r pl.given (by omega) a0) ?_);refine zE Z Z (fun S=>?_) fun S=>?_
 .have S:kJ r pl.given=lc:=zA S;rw[show mc p pl=lc by rw[hv,S];rfl];exact zU Z
 have S:kJ r pl.given=kw:=zB S;refine zJ Z Z (fun A=>?_) fun A=>?_
 .have A: ¬pl.steps.length=r.body.length:=by
   have A:(!li ((pl.steps.length:Int)=r.body.length))=kw:=A;simp at A;omega
  rw[show mc p pl=lc by rw[hv,decide_eq_false A,Z9,Z5]];exact zU Z
 have A:pl.steps.length=r.body.length:=by
  have A:(!li ((pl.steps.length:Int)=r.body.length))=lc:=A;simp at A;omega
 rw[S,decide_eq_true A,ZR,ZR]at hv;refine gA Z (bI [] (FF r pl.given (by omega) a0) Z Z Z Z Z Z Z Z ?_);refine gA Z ?_;refine ux 0 pl.steps.length (Y8 _) (fun i (x:List aj×WD)=>⟨[(5,.ptr 2 0),(7,.ptr 3 0),(42,.iv (cZ 4 pl.steps dC.c)),(43,pI pl.steps.length),(44,pI i)],[(2,io (an r.c)),(3,io (vW r)),(4,io (ct (aC x.1))),(5,io (xd x.2))],6⟩) (fun i x=>VJ r pl i x.1 x.2) (pl.given,[]) []
  ⟨rfl,by omega,fun _=>by simp[bU]⟩
  (zW (zK (hV Z Z Z Z Z Z Z trivial))) fun i x hi F=>?_
 obtain⟨d,dm⟩:=x;have F:VJ r pl i d dm:=F;show GO prog _ _ _ ⟨[(5,.ptr 2 0),(7,.ptr 3 0),(42,.iv (cZ 4 pl.steps dC.c)),(43,pI pl.steps.length),(44,pI i)],[(2,io (an r.c)),(3,io (vW r)),(4,io (ct (aC d))),(5,io (xd dm))],6⟩;have j0:=F.kl;refine zE Z Z (fun B=>?_) fun B=>?_
 .have B:=co B;rw[hv,F.rest,List.drop_eq_nil_of_le B,P2];exact zU Z
 have B:i<pl.steps.length:=by have:=zT B;omega
 have y:tW r (oD dm) (aE d) (pl.steps.getD i em)=lc->mc p pl=lc:=fun h=>hv.trans (Vv F B h);have b: ∀j:Nat,(pl.steps.getD i em).lit=j->j<r.body.length->oD dm j=lc->iy (aE d) r j=io (pl.steps.getD i em)->VJ r pl (i+1) (d++jU r (pl.steps.getD i em)) (Jw dm j):=fun j h2 h3 h4 h5=>NB hA (by omega) F B Z h2 h3 h4 h5;refine zJ Z Z (fun g1=>?_) fun g1=>?_
 .have g1:(pl.steps.getD i em).lit<0:=zT g1;rw[y (by unfold tW;rw[decide_eq_false (by omega)];rfl)];exact zU Z
 have g1: ¬(pl.steps.getD i em).lit<0:=zF g1;refine zJ Z Z (fun g2=>?_) fun g2=>?_
 .have g2:(pl.steps.getD i em).lit>=r.body.length:=zT g2;rw[y (by unfold tW;rw[decide_eq_false (by omega)];rfl)];exact zU Z
 have g2: ¬(pl.steps.getD i em).lit>=r.body.length:=zF g2;obtain⟨j,G⟩: ∃j:Nat,(pl.steps.getD i em).lit=j:=⟨(pl.steps.getD i em).lit.toNat,by omega⟩
 have u:j<r.body.length:=by omega
 have D:tW r (oD dm) (aE d) (pl.steps.getD i em)=(!oD dm j&&li (iy (aE d) r j=io (pl.steps.getD i em))):=by
  unfold tW;rw[decide_eq_true (by omega),ZR,G];rfl
 refine zJ Z Z (fun g3=>?_) fun g3=>?_
 .have g3:oD dm j=kw:=by unfold oD;rw[<-G];exact g3
  rw[y (by rw[D,g3];rfl)];exact zU Z
 have g3:oD dm j=lc:=by unfold oD;rw[<-G];exact g3
 have I:=SI r (H9 r) d dm j u (by omega) (hA.br j);rw[hA.can (aE d) j u]at I;have b:=b j G u g3;cases hk:iy (aE d) r j with
 |none=>
  rw[hk]at I;rw[<-G]at I;rw[y (by rw[D,hk,decide_eq_false (fun h=>nomatch h),Z5])];refine gA Z (bI [3,4,5] I Z Z Z Z Z Z Z Z ?_);refine zJ Z Z (fun q1=>?_) fun q1=>?_
  .exact absurd q1 (show¬((!lc)=lc) by decide)
  .exact zU Z
 |some w=>
  rw[hk]at I b D;rw[<-G]at I;have e0:=uI hk;have J: ∀{α:Type} {f:dC->α},¬f w=f (pl.steps.getD i em)->mc p pl=lc:=fun h=>y (by rw[D,decide_eq_false (fun g=>h (by rw[Z0 g])),Z5])
  have i0:w.eV.length<=2000000:=by
   have h:=E2 hk;have h2:=Lit.aI r.body j u;have h3:=(r.body.getD j em).size_eq;unfold ah.size at b0;omega
  refine gA Z (bI [3,4,5] I Z Z Z Z Z Z Z Z ?_);refine zE Z Z (fun q1=>?_) fun q1=>?_
  .exact absurd q1 (show¬((!kw)=kw) by decide)
  refine zE Z Z (fun Y=>?_) fun Y=>?_
  .have Y: ¬w.kind=(pl.steps.getD i em).kind:=zX Y;rw[J (f:=dC.kind) Y];exact zU Z
  have Y:w.kind=(pl.steps.getD i em).kind:=zY Y;refine zE Z Z (fun q3=>?_) fun q3=>?_
  .have q3: ¬w.var=(pl.steps.getD i em).var:=zX q3;rw[J (f:=dC.var) q3];exact zU Z
  have q3:w.var=(pl.steps.getD i em).var:=zY q3;refine gA Z (zp (Pq w.eV (pl.steps.getD i em).eV (by omega)) ?_);refine zJ Z Z (fun q4=>?_) fun q4=>?_
  .have q4: ¬w.eV=(pl.steps.getD i em).eV:=zX q4;rw[J (f:=dC.eV) q4];exact zU Z
  have q4:w.eV=(pl.steps.getD i em).eV:=zY q4;have f0:w=pl.steps.getD i em:=Fy Y (e0.trans G.symm) q3 q4;have b:=b (by rw[f0]);have ht:=KB r (zh (H9 r)) d dm (pl.steps.getD i em).kind j (pl.steps.getD i em).eV (pl.steps.getD i em).var u (by omega) (by omega) ⟨(F.pos j).1,by have:=(F.pos j).2;omega⟩;rw[show dC.mk (pl.steps.getD i em).kind (j:Int) (pl.steps.getD i em).eV (pl.steps.getD i em).var=pl.steps.getD i em from Fy Z G.symm Z Z]at ht;refine gA Z (bI [3,4,5] ht Z Z Z Z Z Z Z Z ?_);refine gA Z ⟨B,(d++jU r (pl.steps.getD i em),Jw dm j),[],b,zW (zK (hV Z Z Z Z Z Z Z ac))⟩
def Mr:Expr:= .mk 0 Y5 ⟨0,0,Y5⟩ 0 []
def Uz:aj:=⟨#[88]⟩
def Vn:aj:=⟨#[89]⟩
def Uy:aj:=⟨#[90]⟩
def vn:aj:=⟨#[101,100,103,101]⟩
def nR:aj:=⟨#[112,97,116,104]⟩
def uV(s:aj):Term:=⟨1,s,⟨0,0,Y5⟩⟩
def Ly(a:Atom):Lit:= .mk 1 a 0 Mr Mr 0 Y5 Mr [] ⟨0,0⟩
def BV:List Lit:=[Ly ⟨nR,[uV Uz,uV Vn]⟩,Ly ⟨vn,[uV Vn,uV Uy]⟩]
def nP:Prog:=⟨[⟨vn,[1,1],⟨0,0⟩⟩,⟨nR,[1,1],⟨0,0⟩⟩],[⟨⟨nR,[uV Uz,uV Uy]⟩,BV,⟨0,0⟩⟩]⟩
theorem IG(s:aj):Pure prog 105 [pS s] (ag (uV s).c):=by
 refine ae ab func105 Z (by decide) ntmps105 Z (by simp) Z ?_;refine gA Z (zL ?_);exact .refl _
def q8:List (List PV)->List (List PV)->Prop
 | [],[]=>True
 |e::r,f::q=>lf e f∧q8 r q
 |_,_=>False
theorem q8.length: ∀{a b:List (List PV)},q8 a b->a.length=b.length
 | [],[],_=>rfl
 |_::_,_::_,h=>congrArg (· +1) (q8.length h.2)
 | [],_::_,h=>h.elim
 |_::_,[],h=>h.elim
theorem q8.get: ∀{a b:List (List PV)},q8 a b-> ∀(k:Nat) (e:List PV),b[k]? =io e-> ∃d,a[k]? =io d∧lf d e
 | [],[],_,k,e,h=>by simp at h
 |x::r,y::q,hh,k,e,h=>by
  cases k with
  |zero=>cases h;exact⟨x,rfl,hh.1⟩
  |succ k=>exact q8.get hh.2 k e h
 | [],_::_,hh,_,_,_=>hh.elim
 |_::_,[],hh,_,_,_=>hh.elim
theorem Ud{sz:Nat}{es b:List (List PV)}(h:q8 es b):gi (.row sz es) (.row sz b):=by
 have d:=h.length;refine⟨fun hr=>?_,fun M N U w i D=>?_⟩
 .cases es with
  |nil=>cases b with
   |nil=>exact hr
   |cons a r=>cases d
  |cons a r=>rfl
 .rcases D with D|⟨F,c,T,G,I,J,S,Y⟩
  .refine .inl ?_;rw[D]at d;exact ZW d.symm
  .refine .inr ⟨F,c,T,G,I,by rw[<-d];exact J,fun k e A=>?_,fun k e j x A hx=>?_⟩
   .obtain⟨u,y,hb⟩:=h.get k e A;rw[<-hb.length];exact S k u y
   .obtain⟨u,y,hb⟩:=h.get k e A;obtain⟨x0,hd,B⟩:=hb.get j x hx;exact B M N U _ (Y k u j x0 y hd)
abbrev Gq:AO:= .cells [.iv (.v (.slice jp 0 0)),.iv (.v (.slice jp 0 0))]
abbrev Ht(rel:aj)(x:PV):List PV:=((Ly ⟨rel,[]⟩).c.map PV.iv).set 2 x
abbrev XE:List Term:=[uV Uz,uV Vn]
abbrev XD:List Term:=[uV Vn,uV Uy]
abbrev Xs:List Term:=[uV Uz,uV Uy]
set_option maxHeartbeats 4000000 in
theorem V9:Pure prog 68 [] (ag nP.c):=by
 refine ae ab func68 Z (by decide) ntmps68 Z (by simp) Z ?_;refine gM 9 Z (kn [] (t:=⟨[(0,.ptr 0 0),(1,.sl 1 0 2 1)],[(0,io Gq),(1,io (aG 1 [(1:Int),1] ba))],2⟩) (zW (zO (zS ac))) ?_);refine qy 1 (fun k=>ba ([(1:Int),1].getD k em)) Z (fN Z) (by simp[AF.xS,PV.dc]) (nv Z) ?_
 refine kn (L:=[]) (t:=⟨[(0,.ptr 0 0),(1,.iv (cZ 1 [(1:Int),1] ba))],[(0,io Gq)],2⟩) (zM (bv ⟨(by
  show aL (.iv (.dh 1 2 fun k=>ba ([(1:Int),1].getD (0+k) em))) (.iv (cZ 1 [(1:Int),1] ba));simp only[Zq]
  exact .refl _),rfl,ac⟩) (zO ac)) ?_
 refine gA Z (zp (IG Uz) ?_);refine gA Z (zp (IG Vn) ?_);refine gA Z (zp (IG Vn) ?_);refine gA Z (zp (IG Uy) ?_);refine gM 6 Z (kn [] (t:=⟨[(0,.ptr 0 0),(1,.iv (cZ 1 [(1:Int),1] ba)),(2,.sl 4 0 2 30)],[(0,io Gq),(2,io (aG 5 XE Term.c)),(3,io (aG 5 XD Term.c)),(4,io (.row 30 [Ht nR (.sl 2 0 2 5),Ht vn (.sl 3 0 2 5)]))],5⟩) (zW (zO (zS (zS ⟨⟨_,rfl,Ud ⟨⟨.refl _,.refl _,.refl _,.refl _,.refl _,.refl _,.refl _,.refl _,.refl _,.refl _,.nil _ _,.refl _,.refl _,.refl _,.refl _,.refl _,.refl _,.nil _ _,.refl _,.refl _,.refl _,.refl _,.refl _,.refl _,.refl _,.refl _,.nil _ _,.nil _ _,.refl _,.refl _,ac⟩,⟨.refl _,.refl _,.refl _,.refl _,.refl _,.refl _,.refl _,.refl _,.refl _,.refl _,.nil _ _,.refl _,.refl _,.refl _,.refl _,.refl _,.refl _,.nil _ _,.refl _,.refl _,.refl _,.refl _,.refl _,.refl _,.refl _,.refl _,.nil _ _,.nil _ _,.refl _,.refl _,ac⟩,ac⟩⟩,YY Z,Pv Z,ac⟩)))) ?_);refine qy 2 (fun k=>Term.c (XE.getD k em)) Z (fN Z) (by simp[AF.xS,PV.dc]) (nv Z) ?_
 refine qy 3 (fun k=>Term.c (XD.getD k em)) Z (fN Z) (by
  simp[AF.xS,AF.lQ,PV.fi,PV.dc];show PV.dc 3 5 2 (.sl 4 0 2 30)
  simp[PV.dc]) (nv Z) ?_
 refine kn (L:=[]) (t:=⟨[(0,.ptr 0 0),(1,.iv (cZ 1 [(1:Int),1] ba)),(2,.sl 4 0 2 30)],[(0,io Gq),(4,io (aG 30 BV Lit.c))],5⟩) (zW (zO (hR Z (by
  show[Ht nR (.iv (.dh 5 2 fun k=>Term.c (XE.getD (0+k) em))),Ht vn (.iv (.dh 5 2 fun k=>Term.c (XD.getD (0+k) em)))]=_
  simp only[Zq];rfl) Z ac))) ?_
 refine qy 4 (fun k=>Lit.c (BV.getD k em)) Z (fN Z) (by simp[AF.xS,PV.dc,BV]) (nv Z) ?_
 refine kn (L:=[]) (t:=⟨[(0,.ptr 0 0),(1,.iv (cZ 1 [(1:Int),1] ba)),(2,.iv (lits BV))],[(0,io Gq)],5⟩) (zM (bv (bv ⟨(by
  show aL (.iv (.dh 30 2 fun k=>Lit.c (BV.getD (0+k) em))) (.iv (lits BV));simp only[Zq]
  exact .refl _),rfl,ac⟩)) (zO ac)) ?_
 refine gA Z (zp (IG Uz) ?_);refine gA Z (zp (IG Uy) ?_);refine gM 5 Z (kn [] (t:=⟨[(0,.ptr 0 0),(1,.iv (cZ 1 [(1:Int),1] ba)),(2,.iv (lits BV)),(3,.ptr 6 0)],[(0,io Gq),(5,io (aG 5 Xs Term.c)),(6,io (.cells [pS nR,.sl 5 0 2 5]))],7⟩) (zW (zO (zS (zO ac)))) ?_);refine qy 5 (fun k=>Term.c (Xs.getD k em)) Z (fN Z) (by simp[AF.xS,PV.dc]) (nv Z) ?_
 refine kn (L:=[]) (t:=⟨[(0,.ptr 0 0),(1,.iv (cZ 1 [(1:Int),1] ba)),(2,.iv (lits BV)),(3,.ptr 6 0)],[(0,io Gq),(6,io (an (Atom.c ⟨nR,Xs⟩)))],7⟩) (zW ⟨⟨_,rfl,.of_eq Z⟩,YY Z,rfl,⟨_,rfl,.of_eq (by
  show AO.cells [pS nR,.iv (.dh 5 2 fun k=>Term.c (Xs.getD (0+k) em))]=_
  simp only[Zq];rfl)⟩,YY Z,rfl,ac⟩) ?_
 refine gA Z (rE (.inr Z) Z (lB.KP 7 nP.aD Decl.c Z Z ?_ (lB.KP 8 nP.rules ah.c Z Z ?_ (.done ?_))))
 .simp[PV.dc,iU,nP]
 .simp[PV.fi,uA,PV.dc,iU,nP];show PV.dc 8 5 1 (.sl 8 0 1 5);simp[PV.dc]
 .show aL (.agg [.iv (.dh 4 2 fun k=>Decl.c (nP.aD.getD (0+k) em)),.iv (.dh 5 1 fun k=>ah.c (nP.rules.getD (0+k) em))]) (ag nP.c);simp only[Zq];exact .refl _
instance (a b:aj):Decidable (JR a b):=inferInstanceAs (Decidable (pM a<pM b))
theorem Uw:ns nP=[vn,nR]:=
 mo (fM (show[vn,nR].Nodup by decide)) (by unfold pW;decide+kernel) fun x=>by rw[ns,gq];rfl
theorem Gp:dU nP=aY.z:=by
 delta dU gL rf nO ringEq jQ
 rw[Uw];decide+kernel
theorem BT:dF nP 1=0:=by
 unfold dF;rw[Gp];decide
theorem Cz:nP.fit:=by
 have h: ∀r∈nP.rules,r.size<=10000000∧r.head.ts<=900000000∧ ∀l∈r.body,l.ts<=900000000:=by decide+kernel
 exact⟨by decide+kernel,by decide+kernel,h⟩
theorem xy:nP.size<=2000000:=by decide+kernel
def plA:px:=⟨1,1,[],[⟨1,1,[],Y5⟩,⟨1,0,[1],Y5⟩]⟩
def Wj:px:=⟨1, -1,[Uz,Uy],[⟨1,0,[0],Y5⟩,⟨1,1,[0,1],Y5⟩]⟩
theorem Lp:uk nP 1 1=(plA,0):=by
 unfold uk;rw[BT];decide+kernel
theorem LQ:ik nP 1=(Wj,0):=by
 unfold ik fW;rw[BT];decide+kernel
theorem Ij:mc nP Wj=kw:=by
 unfold mc;rw[show dF nP Wj.mq=0 from BT];decide+kernel
theorem Po:Pure prog 34 [] (pB kw):=by
 have b:=T6 Mu nP 1 1 Cz xy;have d:=KH nP 1 Cz xy;have j:=Pf nP Wj Cz xy (by decide);rw[Lp]at b;rw[LQ]at d;rw[Ij]at j;unfold plA at b;unfold Wj at d j;refine ae ab func34 Z (by decide) ntmps34 Z (by simp) Z ?_;refine gA Z (zp (V9) ?_);refine gA Z (zp (b) ?_);refine gA Z (zp (d) ?_)
 repeat(refine gA Z (zI (fun q=>?_) (fun q=>?_))<;>try(exact absurd q (by decide)))
 refine gA Z (zp (j) ?_)
 repeat(refine gA Z (zI (fun q=>?_) (fun q=>?_))<;>try(exact absurd q (by decide)))
 refine gA Z (zL ?_);exact .of_eq (fP (by decide+kernel))
theorem xx(r:ah)(fstv:Int): ∀(n:Nat) (dn:Nat->Bool) (K:aj->Bool),(fo r fstv n dn K).length<=n
 |0,_,_=>Y7 _
 |n+1,dn,K=>by
  rw[fo];split
  .exact Y8 _
  .rw[ZA];exact Nat.succ_le_succ (xx r fstv n _ _)
theorem vM{r:ah}{fstv:Int}(hf:fstv<r.body.length): ∀(n:Nat) (dn:Nat->Bool) (K:aj->Bool),∀s∈fo r fstv n dn K,s.eV.length<=r.size
 |0,_,_,s,h=>by cases h
 |n+1,dn,K,s,h=>by
  rw[fo]at h;split at h
  .cases h
  .rename_i s0 b;rcases Zj.1 h with rfl|h
   .obtain⟨i,_,j,_,d⟩:=Ea hf b;have u:=E2 d;have x:=Lit.aI r.body i j;have y:=(r.body.getD i em).size_eq;unfold ah.size;omega
   .exact vM hf n _ _ s h
theorem B2:px.z.fit:=⟨Y8 _,Y8 _,fun s b=>by cases b⟩
theorem Kh{r:ah}{fstv:Int}{k:List aj}(hf:fstv<r.body.length)(hb:r.size<=2000000)(g:List aj)(hg:g.length<=1000000000)(n f:Int):(px.mk n f g (tV r fstv k)).fit:=by
 have b:r.body.length<=2000000:=by have:=Lit.au r.body;unfold ah.size at hb;omega
 refine⟨hg,?_,fun s d=>?_⟩
 .have:=xx r fstv r.body.length (fun _=>lc) (aE k);show(tV r fstv k).length<=_;unfold tV;omega
 .have:=vM hf _ _ _ s d;omega
theorem A0(p:Prog)(n:Int)(l:List aj)(hs:p.size<=2000000)(d:l.length<=1000000000):(fW p n l).1.fit:=by
 unfold fW;split
 .exact B2
 .rename_i b;split
  .exact B2
  .have j:=kK (abr.1 b);exact Kh (by omega) (by omega) l d n (-1)
theorem LR(p:Prog)(n:Int)(hs:p.size<=2000000):(ik p n).1.fit:=by
 unfold ik;split
 .exact B2
 .rename_i d;have b:=kK (abr.1 d);have j:=cY (bX p n).head;exact A0 p n _ hs (by unfold ah.size at b;omega)
theorem Dw(p:Prog)(n:Int)(l:List aj)(hb:p.fit)(hs:p.size<=2000000)(A:l.length<=1000000000):Pure prog 8 [ag p.c,pI n,.iv (strs l)] (pB kw):=by
 have B:=G6 p n l hb hs A;have D:=T8 p n hb hs;have F:=G5 p n l hb hs A;have G:=KH p n hb hs;have j:=Ae (fW p n l).1 (fW p n l).1 (A0 p n l hs A);have u:=Ae (ik p n).1 (ik p n).1 (LR p n hs);rw[decide_eq_true Z]at j u;generalize fW p n l=x at B F j;generalize ik p n=y at D G u;refine ae ab func8 Z (by decide) ntmps8 Z (by simp) Z ?_;refine gA Z (zp (Po) ?_);refine gA Z (zp (B) ?_);refine gA Z (zp (D) ?_);refine gA Z (zp (F) ?_);refine gA Z (zp (G) ?_);refine gA Z (zp (j) ?_);refine gA Z (zp (u) ?_);refine zE Z Z (fun I=>?_) fun I=>?_
 .exact absurd I (by decide)
 refine zE Z Z (fun b=>?_) fun b=>?_
 .have b:li (x.2=x.2)=lc:=b;simp at b
 refine zE Z Z (fun d=>?_) fun d=>?_
 .have d:li (y.2=y.2)=lc:=d;simp at d
 refine zE Z Z (fun J=>?_) fun J=>?_
 .exact absurd J (by decide)
 refine gA Z (zL ?_);exact .of_eq (fP Z)
end Go.Proofs.YtflegjieadkonaaGreatDoor
