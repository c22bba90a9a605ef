/-
  What the proofs of the claims need: part 6 of 7.
-/
import Derived.Test.YtflegjieadkonaaGreatDoorPart5
open Bool renaming and_false→aaa,false_and→aad,not_eq_false'→aaM,not_true→abA,true_and→ZR
open ByteArray renaming empty→Zd
open Int renaming toNat_natCast→Zx
open List renaming drop_eq_getElem_cons→abN,drop_eq_nil_of_le→abx,eq_nil_of_length_eq_zero→ZY,getD_eq_getElem?_getD→Y6,getElem?_eq_getElem→Za,length_append→Y8,length_filter_le→aak,length_map→ZE,length_set→aaO,length_take→ZP,map_append→Ze,map_set→aaR,range→Zy,replicate→aa5,take_of_length_le→Zh
open Nat renaming add_mul→aal,blt→Zs,le_of_ble_eq_true→Y5,le_refl→Zc,le_trans→Z1,lt_succ_iff_lt_or_eq→ZS,not_lt_zero→aaj,zero_add→Zu,zero_le→Zf
open Option.some renaming inj→Z5
set_option maxRecDepth 100000
open Bool renaming false→lc,true→kw
open Decidable renaming decide→li
open Inhabited renaming default→em
open Option renaming none→jp,some→io
open Array renaming getD_eq_getD_getElem?→Y7
open Option.some renaming injEq→Y9
open List renaming getElem?_eq_some_iff→Zb
open Array renaming range→ab0
open Array renaming getElem?_map→abw
open Option renaming map_some→Z8
open Option renaming getD_some→aaw
open Array renaming getElem?_eq_getElem→Z4
open Nat renaming mul_le_mul_right→ZF
open Array renaming getElem?_append_left→aac
open List renaming getElem?_append_right→Zv
open List renaming getElem?_take→Z6
open Array renaming getElem?_toList→aah
open And renaming intro→ZU
open List renaming append_assoc→Zj
open List renaming range_succ_eq_map→abz
namespace Go.Proofs.YtflegjieadkonaaGreatDoor
open Go Go.Al Go.Proofs.Tryz
theorem vi{α:Type}[Inhabited α](l:List α)(f:α->List IV):((Zy l.length).map fun k=>(f (l.getD k em)).map PV.iv)=l.map fun x=>(f x).map PV.iv:=by
 refine List.ext_getElem (by simp) fun i d b=>?_;simp only[ZE]at b;simp[Za b]
theorem Pm(l:List ak)(hb:l.length<=1000000000):Pure prog 79 [.iv (strs l)] (.iv (strs l)):=by
 refine ae ab func79 Z (by decide) ntmps79 Z (by simp) Z ?_;refine nV Z ac (LY Z Z Z Z underlying53 Z fun b j=>?_);refine zJ Z Z (fun k1=>?_) fun k1=>?_
 .have d:l=[]:=ZY (j k1);subst d;refine gA Z (zL ?_);exact .nil _ _
 refine nV Z ac (Qo ab Z Z Z Z Z Z Z fun x=>?_);by_cases d:l=[]
 .subst d;refine nV Z ac (L9 ab Z Z Z Z Z Z Z Z (el2:=fun k=>cz (([]:List ak).getD k em)) Z ?_);refine gA Z (zL ?_);exact .refl _
 .have u:0<l.length:=List.length_pos_iff.2 d;refine nV Z ac (Qp ab Z Z Z Z Z Z Z Z (by decide) Z (GJ Z) (by simp;omega) (by show((Zy l.length).map _).length*16<=_;simp;omega) (by simp;omega) Z ?_);refine gA Z (cS (by first|exact .inr Z|exact .inl Z) Z Z ((vi l cz)) ((by simp)))
theorem GW(r:ah)(l:List ak)(hb:r.size<=10000000)(I:l.length<=1000000000):Pure prog 78 [ag r.c,.iv (strs l)] (pB (lD r l)):=by
 refine ae ab func78 Z (by decide) ntmps78 Z (by simp) Z ?_;refine gA Z (zp (UW r hb) ?_);refine gA Z ?_;refine aw 0 l.length (Zf _) (fun i=>⟨[(5,.iv (strs (outer r))),(6,.mp 1),(12,.iv (strs l)),(13,pI l.length),(14,pI i)],[(1,io (cx (aC (l.take i))))],2⟩) (fun i=> ∀j,j<i->LL r l j=kw) [] (fun j hj=>absurd hj (aaj j))
  (zW (Jf Z (fun _=> .v _) Z trivial)) fun i G D=>?_
 refine zE Z Z (fun b=>?_) fun b=>?_
 .have b:=co b;rw[CU fun j hj=>D j (by omega)];exact zU Z
 have b:=ci b;have y:=bz (l.take i) (l.getD i em);have B:=fa (l.take i) (l.getD i em);simp only[ZP]at B;have F:aC (l.take (i+1))=bump (aC (l.take i)) (l.getD i em):=by rw[ba b,cU]
 have A:bU .str (bump (aC (l.take i)) (l.getD i em)) (l.getD i em) 0=(rW (l.take i) (l.getD i em):Int)+1:=by
  unfold bump;rw[kV,am Z,y]
 have x:aH (l.take i) (l.getD i em)=li (bU .str (bump (aC (l.take i)) (l.getD i em)) (l.getD i em) 0>1):=by
  rw[A,cI,y,<-decide_not,decide_eq_decide];omega
 refine zJ Z Z (fun d=>?_) fun d=>?_
 .have d:aH (l.take i) (l.getD i em)=lc:=by rw[x];exact d
  refine gA Z (zp (Ag (outer r) (l.getD i em)) ?_);refine zJ Z Z (fun u=>?_) fun u=>?_
  .have u:aH (outer r) (l.getD i em)=lc:=zA u;rw[wW b (by unfold LL;rw[u];rfl)];exact zU Z
  .have u:aH (outer r) (l.getD i em)=kw:=zB u;refine gA Z ?_
   exact⟨b,fun j hj=>by
    rcases ZS.1 hj with hj|hj
    .exact D j hj
    .subst hj;unfold LL;rw[d,u];rfl,[],zW (hM Z F.symm Z trivial)⟩
 .have d:aH (l.take i) (l.getD i em)=kw:=by rw[x];exact d
  rw[wW b (by unfold LL;rw[d,abA,aaa])];exact zU Z
set_option maxHeartbeats 1000000 in
theorem Pj(p:Prog)(n:Int)(l:List ak)(hb:p.fit)(hs:p.size<=2000000)(j:l.length<=1000000000):Pure prog 40 [ag p.c,pI n,.iv (strs l)] (Ha (qC p n l)):=by
 have B:p.rules.length<=1000000000:=hb.2.1;refine ae ab func40 Z (by decide) ntmps40 Z (by simp) Z ?_;refine gA Z (zp (BL p n hb (by omega)) ?_);refine zE Z Z (fun k1=>?_) fun k1=>?_
 .have k1:eH p n≠0:=zF k1;rw[show qC p n l=(nh.z,eH p n) by unfold qC;rw[am k1]];refine zJ Z Z (fun b=>?_) fun b=>?_
  .refine gA Z (zL ?_);exact zP _
  .exfalso;have b:(!li (eH p n=0))=lc:=b;simp at b;exact k1 b
 have k1:eH p n=0:=zT k1;have u:=vh k1;have D:=p7 k1;have y:qC p n l=if lD (bT p n) l=lc then(nh.z,90) else(⟨n, -1,l,Dg (bT p n) (-1) l⟩,0):=by unfold qC;rw[be (by simpa using k1)]
 have A:=Mm p (bT p n) u.2.2 (BN k1) (by omega);have x:kP p n=bT p n:=by unfold kP;rw[am k1]
 rw[x];generalize bT p n=r at*
 refine gA Z (zp (GW r l (by omega) j) ?_);refine zJ Z Z (fun b=>?_) fun b=>?_
 .have b:lD r l=lc:=zA b;rw[y,am b];refine zJ Z Z (fun d=>?_) fun d=>?_
  .refine gA Z (zL ?_);exact zP _
  .cases d
 have b: ¬lD r l=lc:=by
  have b:(!lD r l)=lc:=b;simpa using b
 rw[y,be b];refine zJ Z Z (fun d=>?_) fun d=>?_
 .exfalso;rw[k1]at d;cases d
 refine gA Z (n9 (Pm l j) ?_);refine gA Z (zd [] (Fy r l (by omega) j) ?_);refine gA Z (zd [3,4,5] (BJ r (H4 r) l (-1) A (.inl Z) (by omega) (by omega) j) ?_);refine gA Z (zL ?_);exact .refl _
theorem FH(a:Atom):outer ⟨a,[],⟨0,0⟩⟩=bn a:=rfl
set_option maxHeartbeats 1000000 in
theorem TZ(p:Prog)(n:Int)(hb:p.fit)(hs:p.size<=2000000):Pure prog 41 [ag p.c,pI n] (Ha (tv p n)):=by
 have A:p.rules.length<=1000000000:=hb.2.1;refine ae ab func41 Z (by decide) ntmps41 Z (by simp) Z ?_;refine gA Z (zp (BL p n hb (by omega)) ?_);refine zJ Z Z (fun k1=>?_) fun k1=>?_
 .have k1:eH p n≠0:=by
   have k1:(!li (eH p n=0))=kw:=k1;simpa using k1
  rw[show tv p n=(nh.z,eH p n) by unfold tv;rw[am k1]];refine gA Z (zL ?_);exact zP _
 have k1:eH p n=0:=zY k1;have y:=vh k1;have d:=p7 k1;have b:kP p n=bT p n:=by unfold kP;rw[am k1]
 have j:=dw (bT p n).head;have u:(bT p n).head.ad.length<=2000000:=by unfold ah.size at d;omega
 rw[b,show tv p n=qC p n (bn (bT p n).head) by unfold tv;rw[be (by simpa using k1)]];have x:Pure prog 80 [.agg [.iv (iS (bT p n).head.rel),.iv (cZ 5 (bT p n).head.ad Term.c),.iv (.v (.slice jp 0 0)),pI 0,pI 0]] (.iv (strs (bn (bT p n).head))):=by
  have h:=UW ⟨(bT p n).head,[],⟨0,0⟩⟩ (by unfold ah.size;simp only[Lit.az];omega);rw[FH]at h;exact h.le ⟨.agg ⟨.refl _,.refl _,.nil _ _,.refl _,.refl _,ac⟩,ac⟩
 refine gA Z (zp (x) ?_);refine gA Z (zp (Pj p n (bn (bT p n).head) hb hs (by omega)) ?_);refine gA Z (zL ?_);exact .refl _
theorem Pk(a b:List Int)(hb:a.length<=1000000000000):Pure prog 82 [.iv (cZ 1 a aY),.iv (cZ 1 b aY)] (pB (li (a=b))):=by
 refine ae ab func82 Z (by decide) ntmps82 Z (by simp) Z ?_;refine zJ Z Z (fun g1=>?_) fun g1=>?_
 .have g1: ¬a.length=b.length:=by
   have g1:(!li ((a.length:Int)=b.length))=kw:=g1;simp at g1;omega
  rw[show li (a=b)=lc from decide_eq_false fun h=>g1 (by rw[h])];exact zU Z
 have g1:a.length=b.length:=by
  have g1:(!li ((a.length:Int)=b.length))=lc:=g1;simp at g1;omega
 refine gA Z ?_;refine aw 0 a.length (Zf _) (fun i=>⟨[(0,.iv (cZ 1 a aY)),(1,.iv (cZ 1 b aY)),(12,pI a.length),(13,pI i)],[],0⟩) (fun i=> ∀j,j<i->a.getD j em=b.getD j em) [] (fun j hj=>absurd hj (aaj j))
  (zW trivial) fun i D x=>?_
 refine zE Z Z (fun u=>?_) fun u=>?_
 .have u:=co u;have B:a=b:=by
   refine List.ext_getElem g1 fun j y A=>?_;have:=x j (by omega);rw[Y6,Y6,Za y,Za A]at this;exact this
  rw[decide_eq_true B];exact zU Z
 have u:=ci u;refine zJ Z Z (fun d=>?_) fun d=>?_
 .have d: ¬a.getD i em=b.getD i em:=zX d;rw[show li (a=b)=lc from decide_eq_false fun h=>d (by rw[h])];exact zU Z
 .have d:a.getD i em=b.getD i em:=zY d;refine gA Z ?_
  exact⟨u,fun j hj=>by
   rcases ZS.1 hj with hj|hj
   .exact x j hj
   .subst hj;exact d,[],zW ac⟩
def kO(r:ah)(dn:Nat->Bool)(K:ak->Bool)(s:dI):Bool:=li (0<=s.lit∧s.lit<r.body.length)&&(!dn s.lit.toNat&&li (iz K r s.lit.toNat=io s))
def DU(r:ah):List dI->(Nat->Bool)->(ak->Bool)->Bool
 | [],_,_=>kw
 |s::L,dn,K=>kO r dn K s&&DU r L (zo dn s.lit) (fun x=>K x||aH (rX r s) x)
def fu(p:Prog)(pl:nh):Bool:=li (eH p pl.dY=0)&&(lD (bT p pl.dY) pl.given&&(li (pl.steps.length=(bT p pl.dY).body.length)&&DU (bT p pl.dY) pl.steps (fun _=>lc) (aH pl.given)))
theorem rG{α:Type}[Inhabited α]{l:List α}{i:Nat}(h:i<l.length):l.drop i=l.getD i em::l.drop (i+1):=by
 rw[abN h,Y6,Za h];rfl
structure VJ (r:ah) (pl:nh) (i:Nat) (ks:List ak) (dm:WD):Prop where
 rest:DU r pl.steps (fun _=>lc) (aH pl.given)=DU r (pl.steps.drop i) (oF dm) (aH ks)
 kl:ks.length<=1000000000+i*10000000
 pos: ∀i:Int,0<=bU (.int .i64) dm i 0∧bU (.int .i64) dm i 0<=1
theorem Vr{r:ah}{pl:nh}{i:Nat}{b:List ak}{dm:WD}(h:VJ r pl i b dm)(hi:i<pl.steps.length)(hs:kO r (oF dm) (aH b) (pl.steps.getD i em)=lc):DU r pl.steps (fun _=>lc) (aH pl.given)=lc:=by
 rw[h.rest,rG hi,DU,hs];rfl
theorem Nu{r:ah}{x:BM}(y:Bt r x)(hb:r.size<=10000000){pl:nh}{i:Nat}{d:List ak}{dm:WD}(h:VJ r pl i d dm)(hi:i<pl.steps.length){s:dI}(he:pl.steps.getD i em=s){j:Nat}(hj:s.lit=j)(b:j<r.body.length)(hd:oF dm j=lc)(hc:iz (aH d) r j=io s):
  VJ r pl (i+1) (d++jX r s) (Jt dm j):=by
 have A:=h.pos j;refine⟨?_,?_,fun c=>?_⟩
 .rw[h.rest,rG hi,DU,he];have u:kO r (oF dm) (aH d) s=kw:=by
   unfold kO;rw[hj,Zx,hd,hc,decide_eq_true Z,decide_eq_true (by omega)];rfl
  rw[u,ZR,CB A.1,Cj,y.take b hj hc,hj]
 .have B:=C9 r s hj b hb;have D:=h.kl;rw[Y8,aal];omega
 .unfold Jt;rw[uq];split
  .have:=zF hd;omega
  .exact h.pos c
theorem MC(K:ak->Bool)(a:Atom):(ki K a).length<=a.ad.length:=by
 unfold ki;rw[ZE];exact Z1 (aak _ _) (by simp)
theorem MJ{K:ak->Bool}{r:ah}{l:Lit}{i:Int}{s:dI}(h:uK K r l i=io s):s.dh.length<=l.atom.ad.length:=by
 unfold uK vO Gt at h
 repeat' split at h
 all_goals first
  |(cases h;exact MC K _)
  |(cases h;exact Zf _)
  |cases h
abbrev vW(r:ah):AO:= .cells [.iv (iS r.head.rel),.iv (cZ 5 r.head.ad Term.c),.iv (lits r.body),.iv (iI r.at_.line),.iv (iI r.at_.zy),.mp 4,.iv (zl (H4 r)),.mp 5]
theorem hV{n:Nat}{σ:Nat->Nat}{h:AH}{r:ah}{m:NM}{d:List ak}{dm b:WD}{rest:AH}(h0:h.get (σ 3)=io (.cells [.iv (iS r.head.rel),.iv (cZ 5 r.head.ad Term.c),.iv (lits r.body),.iv (iI r.at_.line),.iv (iI r.at_.zy),.mp (σ 4),.iv (zl (H4 r)),.mp (σ 5)]))
  (h1:h.get (σ 4)=io (cx m)) (h2:h.get (σ 5)=io (xk dm)) (e1:m=aC d) (e2:dm=b) (j:(vW r).low n) (hb:Zs 5 n=kw) (hr:n7 n σ h rest):n7 n σ h ((3,io (vW r))::(4,io (cx (aC d)))::(5,io (xk b))::rest):=by
 subst e1 e2;have u:5<n:=Y5 hb;exact⟨⟨_,h0,.of_eq Z⟩,by omega,j,⟨_,h1,.of_eq Z⟩,by omega,ac,⟨_,h2,.of_eq Z⟩,u,ac,hr⟩
set_option maxHeartbeats 1000000 in
theorem GS(p:Prog)(pl:nh)(hb:p.fit)(hs:p.size<=2000000)(a0:pl.given.length<=1000000000):Pure prog 43 [ag p.c,ag pl.c] (pB (fu p pl)):=by
 have k0:p.rules.length<=1000000000:=hb.2.1;refine ae ab func43 Z (by decide) ntmps43 Z (by simp) Z ?_;refine gA Z (zp (BL p pl.dY hb (by omega)) ?_);refine zE Z Z (fun k1=>?_) fun k1=>?_
 .have k1: ¬eH p pl.dY=0:=zX k1;rw[show fu p pl=lc by unfold fu;rw[decide_eq_false k1];rfl];exact zU Z
 have k1:eH p pl.dY=0:=zY k1;have c0:=vh k1;have b0:=p7 k1;have hA:=Mm p (bT p pl.dY) c0.2.2 (BN k1) (by omega);have d0:kP p pl.dY=bT p pl.dY:=by unfold kP;rw[am k1]
 have hv:fu p pl=(lD (bT p pl.dY) pl.given&&(li (pl.steps.length=(bT p pl.dY).body.length)&&DU (bT p pl.dY) pl.steps (fun _=>lc) (aH pl.given))):=by unfold fu;rw[decide_eq_true k1,ZR]
 rw[d0];generalize bT p pl.dY=r at*
 have g0:r.body.length<=2000000:=by have:=Lit.au r.body;unfold ah.size at b0;omega
 refine gA Z (zp (GW r pl.given (by omega) a0) ?_);refine zE Z Z (fun S=>?_) fun S=>?_
 .have S:lD r pl.given=lc:=zA S;rw[show fu p pl=lc by rw[hv,S];rfl];exact zU Z
 have S:lD r pl.given=kw:=zB S;refine zJ Z Z (fun A=>?_) fun A=>?_
 .have A: ¬pl.steps.length=r.body.length:=by
   have A:(!li ((pl.steps.length:Int)=r.body.length))=kw:=A;simp at A;omega
  rw[show fu p pl=lc by rw[hv,decide_eq_false A,aad,aaa]];exact zU Z
 have A:pl.steps.length=r.body.length:=by
  have A:(!li ((pl.steps.length:Int)=r.body.length))=lc:=A;simp at A;omega
 rw[S,decide_eq_true A,ZR,ZR]at hv;refine gA Z (bM [] (Fy r pl.given (by omega) a0) Z Z Z Z Z Z Z Z ?_);refine gA Z ?_;refine uz 0 pl.steps.length (Zf _) (fun i (x:List ak×WD)=>⟨[(5,.ptr 2 0),(7,.ptr 3 0),(42,.iv (cZ 4 pl.steps dI.c)),(43,pI pl.steps.length),(44,pI i)],[(2,io (aj r.c)),(3,io (vW r)),(4,io (cx (aC x.1))),(5,io (xk x.2))],6⟩) (fun i x=>VJ r pl i x.1 x.2) (pl.given,[]) []
  ⟨rfl,by omega,fun _=>by simp[bU]⟩
  (zW (zK (hV Z Z Z Z Z Z Z trivial))) fun i x hi F=>?_
 obtain⟨d,dm⟩:=x;have F:VJ r pl i d dm:=F;show GO prog _ _ _ ⟨[(5,.ptr 2 0),(7,.ptr 3 0),(42,.iv (cZ 4 pl.steps dI.c)),(43,pI pl.steps.length),(44,pI i)],[(2,io (aj r.c)),(3,io (vW r)),(4,io (cx (aC d))),(5,io (xk dm))],6⟩;have j0:=F.kl;refine zE Z Z (fun B=>?_) fun B=>?_
 .have B:=co B;rw[hv,F.rest,abx B,DU];exact zU Z
 have B:i<pl.steps.length:=by have:=zT B;omega
 have y:kO r (oF dm) (aH d) (pl.steps.getD i em)=lc->fu p pl=lc:=fun h=>hv.trans (Vr F B h);have b: ∀j:Nat,(pl.steps.getD i em).lit=j->j<r.body.length->oF dm j=lc->iz (aH d) r j=io (pl.steps.getD i em)->VJ r pl (i+1) (d++jX r (pl.steps.getD i em)) (Jt dm j):=fun j h2 h3 h4 h5=>Nu hA (by omega) F B Z h2 h3 h4 h5;refine zJ Z Z (fun g1=>?_) fun g1=>?_
 .have g1:(pl.steps.getD i em).lit<0:=zT g1;rw[y (by unfold kO;rw[decide_eq_false (by omega)];rfl)];exact zU Z
 have g1: ¬(pl.steps.getD i em).lit<0:=zF g1;refine zJ Z Z (fun g2=>?_) fun g2=>?_
 .have g2:(pl.steps.getD i em).lit>=r.body.length:=zT g2;rw[y (by unfold kO;rw[decide_eq_false (by omega)];rfl)];exact zU Z
 have g2: ¬(pl.steps.getD i em).lit>=r.body.length:=zF g2;obtain⟨j,G⟩: ∃j:Nat,(pl.steps.getD i em).lit=j:=⟨(pl.steps.getD i em).lit.toNat,by omega⟩
 have u:j<r.body.length:=by omega
 have D:kO r (oF dm) (aH d) (pl.steps.getD i em)=(!oF dm j&&li (iz (aH d) r j=io (pl.steps.getD i em))):=by
  unfold kO;rw[decide_eq_true (by omega),ZR,G];rfl
 refine zJ Z Z (fun g3=>?_) fun g3=>?_
 .have g3:oF dm j=kw:=by unfold oF;rw[<-G];exact g3
  rw[y (by rw[D,g3];rfl)];exact zU Z
 have g3:oF dm j=lc:=by unfold oF;rw[<-G];exact g3
 have I:=Sy r (H4 r) d dm j u (by omega) (hA.br j);rw[hA.can (aH d) j u]at I;have b:=b j G u g3;cases hk:iz (aH d) r j with
 |none=>
  rw[hk]at I;rw[<-G]at I;rw[y (by rw[D,hk,decide_eq_false (fun h=>nomatch h),aaa])];refine gA Z (bM [3,4,5] I Z Z Z Z Z Z Z Z ?_);refine zJ Z Z (fun q1=>?_) fun q1=>?_
  .exact absurd q1 (show¬((!lc)=lc) by decide)
  .exact zU Z
 |some w=>
  rw[hk]at I b D;rw[<-G]at I;have e0:=uJ hk;have J: ∀{α:Type} {f:dI->α},¬f w=f (pl.steps.getD i em)->fu p pl=lc:=fun h=>y (by rw[D,decide_eq_false (fun g=>h (by rw[Z5 g])),aaa])
  have i0:w.dh.length<=2000000:=by
   have h:=MJ hk;have h2:=Lit.aF r.body j u;have h3:=(r.body.getD j em).size_eq;unfold ah.size at b0;omega
  refine gA Z (bM [3,4,5] I Z Z Z Z Z Z Z Z ?_);refine zE Z Z (fun q1=>?_) fun q1=>?_
  .exact absurd q1 (show¬((!kw)=kw) by decide)
  refine zE Z Z (fun Y=>?_) fun Y=>?_
  .have Y: ¬w.kind=(pl.steps.getD i em).kind:=zX Y;rw[J (f:=dI.kind) Y];exact zU Z
  have Y:w.kind=(pl.steps.getD i em).kind:=zY Y;refine zE Z Z (fun q3=>?_) fun q3=>?_
  .have q3: ¬w.var=(pl.steps.getD i em).var:=zX q3;rw[J (f:=dI.var) q3];exact zU Z
  have q3:w.var=(pl.steps.getD i em).var:=zY q3;refine gA Z (zp (Pk w.dh (pl.steps.getD i em).dh (by omega)) ?_);refine zJ Z Z (fun q4=>?_) fun q4=>?_
  .have q4: ¬w.dh=(pl.steps.getD i em).dh:=zX q4;rw[J (f:=dI.dh) q4];exact zU Z
  have q4:w.dh=(pl.steps.getD i em).dh:=zY q4;have f0:w=pl.steps.getD i em:=BF Y (e0.trans G.symm) q3 q4;have b:=b (by rw[f0]);have ht:=Kx r (zl (H4 r)) d dm (pl.steps.getD i em).kind j (pl.steps.getD i em).dh (pl.steps.getD i em).var u (by omega) (by omega) ⟨(F.pos j).1,by have:=(F.pos j).2;omega⟩;rw[show dI.mk (pl.steps.getD i em).kind (j:Int) (pl.steps.getD i em).dh (pl.steps.getD i em).var=pl.steps.getD i em from BF Z G.symm Z Z]at ht;refine gA Z (bM [3,4,5] ht Z Z Z Z Z Z Z Z ?_);refine gA Z ⟨B,(d++jX r (pl.steps.getD i em),Jt dm j),[],b,zW (zK (hV Z Z Z Z Z Z Z ac))⟩
def Mj:Expr:= .mk 0 Zd ⟨0,0,Zd⟩ 0 []
def Ut:ak:=⟨#[88]⟩
def Vk:ak:=⟨#[89]⟩
def Us:ak:=⟨#[90]⟩
def vu:ak:=⟨#[101,100,103,101]⟩
def nS:ak:=⟨#[112,97,116,104]⟩
def uX(s:ak):Term:=⟨1,s,⟨0,0,Zd⟩⟩
def Lq(a:Atom):Lit:= .mk 1 a 0 Mj Mj 0 Zd Mj [] ⟨0,0⟩
def BT:List Lit:=[Lq ⟨nS,[uX Ut,uX Vk]⟩,Lq ⟨vu,[uX Vk,uX Us]⟩]
def nQ:Prog:=⟨[⟨vu,[1,1],⟨0,0⟩⟩,⟨nS,[1,1],⟨0,0⟩⟩],[⟨⟨nS,[uX Ut,uX Us]⟩,BT,⟨0,0⟩⟩]⟩
theorem IC(s:ak):Pure prog 105 [pS s] (ag (uX s).c):=by
 refine ae ab func105 Z (by decide) ntmps105 Z (by simp) Z ?_;refine gA Z (zL ?_);exact .refl _
def rb:List (List PV)->List (List PV)->Prop
 | [],[]=>True
 |e::r,f::q=>lh e f∧rb r q
 |_,_=>False
theorem rb.length: ∀{a b:List (List PV)},rb a b->a.length=b.length
 | [],[],_=>rfl
 |_::_,_::_,h=>congrArg (· +1) (rb.length h.2)
 | [],_::_,h=>h.elim
 |_::_,[],h=>h.elim
theorem rb.get: ∀{a b:List (List PV)},rb a b-> ∀(k:Nat) (e:List PV),b[k]? =io e-> ∃d,a[k]? =io d∧lh d e
 | [],[],_,k,e,h=>by simp at h
 |x::r,y::q,hh,k,e,h=>by
  cases k with
  |zero=>cases h;exact⟨x,rfl,hh.1⟩
  |succ k=>exact rb.get hh.2 k e h
 | [],_::_,hh,_,_,_=>hh.elim
 |_::_,[],hh,_,_,_=>hh.elim
theorem T6{sz:Nat}{es b:List (List PV)}(h:rb es b):fb (.row sz es) (.row sz b):=by
 have d:=h.length;refine⟨fun hr=>?_,fun M N U w i D=>?_⟩
 .cases es with
  |nil=>cases b with
   |nil=>exact hr
   |cons a r=>cases d
  |cons a r=>rfl
 .rcases D with D|⟨F,c,T,G,I,J,S,Y⟩
  .refine .inl ?_;rw[D]at d;exact ZY d.symm
  .refine .inr ⟨F,c,T,G,I,by rw[<-d];exact J,fun k e A=>?_,fun k e j x A hx=>?_⟩
   .obtain⟨u,y,hb⟩:=h.get k e A;rw[<-hb.length];exact S k u y
   .obtain⟨u,y,hb⟩:=h.get k e A;obtain⟨x0,hd,B⟩:=hb.get j x hx;exact B M N U _ (Y k u j x0 y hd)
abbrev Gi:AO:= .cells [.iv (.v (.slice jp 0 0)),.iv (.v (.slice jp 0 0))]
abbrev Hm(rel:ak)(x:PV):List PV:=((Lq ⟨rel,[]⟩).c.map PV.iv).set 2 x
abbrev XF:List Term:=[uX Ut,uX Vk]
abbrev XE:List Term:=[uX Vk,uX Us]
abbrev Xt:List Term:=[uX Ut,uX Us]
set_option maxHeartbeats 4000000 in
theorem V6:Pure prog 68 [] (ag nQ.c):=by
 refine ae ab func68 Z (by decide) ntmps68 Z (by simp) Z ?_;refine gM 9 Z (fO [] (t:=⟨[(0,.ptr 0 0),(1,.sl 1 0 2 1)],[(0,io Gi),(1,io (aE 1 [(1:Int),1] aY))],2⟩) (zW (zO (zS ac))) ?_);refine qA 1 (fun k=>aY ([(1:Int),1].getD k em)) Z (eE Z) (by simp[AF.rR,PV.bX]) (ny Z) ?_
 refine fO (L:=[]) (t:=⟨[(0,.ptr 0 0),(1,.iv (cZ 1 [(1:Int),1] aY))],[(0,io Gi)],2⟩) (zM (bv ⟨(by
  show aK (.iv (.de 1 2 fun k=>aY ([(1:Int),1].getD (0+k) em))) (.iv (cZ 1 [(1:Int),1] aY));simp only[Zu]
  exact .refl _),rfl,ac⟩) (zO ac)) ?_
 refine gA Z (zp (IC Ut) ?_);refine gA Z (zp (IC Vk) ?_);refine gA Z (zp (IC Vk) ?_);refine gA Z (zp (IC Us) ?_);refine gM 6 Z (fO [] (t:=⟨[(0,.ptr 0 0),(1,.iv (cZ 1 [(1:Int),1] aY)),(2,.sl 4 0 2 30)],[(0,io Gi),(2,io (aE 5 XF Term.c)),(3,io (aE 5 XE Term.c)),(4,io (.row 30 [Hm nS (.sl 2 0 2 5),Hm vu (.sl 3 0 2 5)]))],5⟩) (zW (zO (zS (zS ⟨⟨_,rfl,T6 ⟨⟨.refl _,.refl _,.refl _,.refl _,.refl _,.refl _,.refl _,.refl _,.refl _,.refl _,.nil _ _,.refl _,.refl _,.refl _,.refl _,.refl _,.refl _,.nil _ _,.refl _,.refl _,.refl _,.refl _,.refl _,.refl _,.refl _,.refl _,.nil _ _,.nil _ _,.refl _,.refl _,ac⟩,⟨.refl _,.refl _,.refl _,.refl _,.refl _,.refl _,.refl _,.refl _,.refl _,.refl _,.nil _ _,.refl _,.refl _,.refl _,.refl _,.refl _,.refl _,.nil _ _,.refl _,.refl _,.refl _,.refl _,.refl _,.refl _,.refl _,.refl _,.nil _ _,.nil _ _,.refl _,.refl _,ac⟩,ac⟩⟩,Y5 Z,Pq Z,ac⟩)))) ?_);refine qA 2 (fun k=>Term.c (XF.getD k em)) Z (eE Z) (by simp[AF.rR,PV.bX]) (ny Z) ?_
 refine qA 3 (fun k=>Term.c (XE.getD k em)) Z (eE Z) (by
  simp[AF.rR,AF.lU,PV.eW,PV.bX];show PV.bX 3 5 2 (.sl 4 0 2 30)
  simp[PV.bX]) (ny Z) ?_
 refine fO (L:=[]) (t:=⟨[(0,.ptr 0 0),(1,.iv (cZ 1 [(1:Int),1] aY)),(2,.sl 4 0 2 30)],[(0,io Gi),(4,io (aE 30 BT Lit.c))],5⟩) (zW (zO (hR Z (by
  show[Hm nS (.iv (.de 5 2 fun k=>Term.c (XF.getD (0+k) em))),Hm vu (.iv (.de 5 2 fun k=>Term.c (XE.getD (0+k) em)))]=_
  simp only[Zu];rfl) Z ac))) ?_
 refine qA 4 (fun k=>Lit.c (BT.getD k em)) Z (eE Z) (by simp[AF.rR,PV.bX,BT]) (ny Z) ?_
 refine fO (L:=[]) (t:=⟨[(0,.ptr 0 0),(1,.iv (cZ 1 [(1:Int),1] aY)),(2,.iv (lits BT))],[(0,io Gi)],5⟩) (zM (bv (bv ⟨(by
  show aK (.iv (.de 30 2 fun k=>Lit.c (BT.getD (0+k) em))) (.iv (lits BT));simp only[Zu]
  exact .refl _),rfl,ac⟩)) (zO ac)) ?_
 refine gA Z (zp (IC Ut) ?_);refine gA Z (zp (IC Us) ?_);refine gM 5 Z (fO [] (t:=⟨[(0,.ptr 0 0),(1,.iv (cZ 1 [(1:Int),1] aY)),(2,.iv (lits BT)),(3,.ptr 6 0)],[(0,io Gi),(5,io (aE 5 Xt Term.c)),(6,io (.cells [pS nS,.sl 5 0 2 5]))],7⟩) (zW (zO (zS (zO ac)))) ?_);refine qA 5 (fun k=>Term.c (Xt.getD k em)) Z (eE Z) (by simp[AF.rR,PV.bX]) (ny Z) ?_
 refine fO (L:=[]) (t:=⟨[(0,.ptr 0 0),(1,.iv (cZ 1 [(1:Int),1] aY)),(2,.iv (lits BT)),(3,.ptr 6 0)],[(0,io Gi),(6,io (aj (Atom.c ⟨nS,Xt⟩)))],7⟩) (zW ⟨⟨_,rfl,.of_eq Z⟩,Y5 Z,rfl,⟨_,rfl,.of_eq (by
  show AO.cells [pS nS,.iv (.de 5 2 fun k=>Term.c (Xt.getD (0+k) em))]=_
  simp only[Zu];rfl)⟩,Y5 Z,rfl,ac⟩) ?_
 refine gA Z (kh (.inr Z) Z (jC.xQ 7 nQ.aD Decl.c Z Z ?_ (jC.xQ 8 nQ.rules ah.c Z Z ?_ (.done ?_))))
 .simp[PV.bX,da,nQ]
 .simp[PV.eW,pe,PV.bX,da,nQ];show PV.bX 8 5 1 (.sl 8 0 1 5);simp[PV.bX]
 .show aK (.agg [.iv (.de 4 2 fun k=>Decl.c (nQ.aD.getD (0+k) em)),.iv (.de 5 1 fun k=>ah.c (nQ.rules.getD (0+k) em))]) (ag nQ.c);simp only[Zu];exact .refl _
instance (a b:ak):Decidable (JO a b):=inferInstanceAs (Decidable (pO a<pO b))
theorem Uq:ns nQ=[vu,nS]:=
 mv (fS (show[vu,nS].Nodup by decide)) (by unfold pX;decide+kernel) fun x=>by rw[ns,gu];rfl
theorem Gh:dU nQ=aZ.z:=by
 delta dU gQ rm nP ringEq jV
 rw[Uq];decide+kernel
theorem BR:eH nQ 1=0:=by
 unfold eH;rw[Gh];decide
theorem Cu:nQ.fit:=by
 have h: ∀r∈nQ.rules,r.size<=10000000∧r.head.ts<=900000000∧ ∀l∈r.body,l.ts<=900000000:=by decide+kernel
 exact⟨by decide+kernel,by decide+kernel,h⟩
theorem xE:nQ.size<=2000000:=by decide+kernel
def plA:nh:=⟨1,1,[],[⟨1,1,[],Zd⟩,⟨1,0,[1],Zd⟩]⟩
def Wi:nh:=⟨1, -1,[Ut,Us],[⟨1,0,[0],Zd⟩,⟨1,1,[0,1],Zd⟩]⟩
theorem Lj:uo nQ 1 1=(plA,0):=by
 unfold uo;rw[BR];decide+kernel
theorem LI:tv nQ 1=(Wi,0):=by
 unfold tv qC;rw[BR];decide+kernel
theorem Ie:fu nQ Wi=kw:=by
 unfold fu;rw[show eH nQ Wi.dY=0 from BR];decide+kernel
theorem Pg:Pure prog 34 [] (pB kw):=by
 have b:=TX Mm nQ 1 1 Cu xE;have d:=TZ nQ 1 Cu xE;have j:=GS nQ Wi Cu xE (by decide);rw[Lj]at b;rw[LI]at d;rw[Ie]at j;unfold plA at b;unfold Wi at d j;refine ae ab func34 Z (by decide) ntmps34 Z (by simp) Z ?_;refine gA Z (zp (V6) ?_);refine gA Z (zp (b) ?_);refine gA Z (zp (d) ?_)
 repeat(refine gA Z (zI (fun q=>?_) (fun q=>?_))<;>try(exact absurd q (by decide)))
 refine gA Z (zp (j) ?_)
 repeat(refine gA Z (zI (fun q=>?_) (fun q=>?_))<;>try(exact absurd q (by decide)))
 refine gA Z (zL ?_);exact .of_eq (fV (by decide+kernel))
structure V9 (r:ah) (pl:nh) (i:Nat) (D:List Bool) (ks:List ak):Prop where
 dl:D.length=r.body.length
 rest:DU r pl.steps (fun _=>lc) (aH pl.given)=DU r (pl.steps.drop i) (CP D) (aH ks)
 kl:ks.length<=1000000000+i*2000000
theorem Vu{r:ah}{pl:nh}{i:Nat}{D:List Bool}{b:List ak}(h:V9 r pl i D b)(hi:i<pl.steps.length)(hs:kO r (CP D) (aH b) (pl.steps.getD i em)=lc):DU r pl.steps (fun _=>lc) (aH pl.given)=lc:=by
 rw[h.rest,rG hi,DU,hs];rfl
theorem NB{r:ah}(hb:r.size<=2000000){pl:nh}{i:Nat}{D:List Bool}{d:List ak}(h:V9 r pl i D d)(hi:i<pl.steps.length){j:Nat}(hj:(pl.steps.getD i em).lit=j)(b:j<r.body.length)(hd:CP D j=lc)(hc:iz (aH d) r j=io (pl.steps.getD i em)):
  V9 r pl (i+1) (D.set j kw) (d++rX r (pl.steps.getD i em)):=by
 refine⟨by rw[aaO,h.dl],?_,?_⟩
 .rw[h.rest,rG hi,DU];have u:kO r (CP D) (aH d) (pl.steps.getD i em)=kw:=by
   unfold kO;rw[hj,Zx,hd,hc,decide_eq_true Z,decide_eq_true (by omega)];rfl
  rw[u,ZR,UK (by rw[h.dl];exact b),Cj,hj];rfl
 .have x:=Q6 r (pl.steps.getD i em) hj b hb;have y:=h.kl;rw[Y8,aal];omega
abbrev v9F(pl:nh)(n i:Nat)(b:List ak):AF:=[(3,.ptr 1 0),(6,.ptr 2 0),(8,.sl 3 0 n 1),(9,.iv (strs b)),(10,pI i)]
abbrev v9H(pl:nh)(r:ah)(D:List Bool):AH:=[(1,io (aj pl.c)),(2,io (aj r.c)),(3,io (aE 1 D cj))]
set_option maxHeartbeats 1000000 in
theorem O8(p:Prog)(pl:nh)(hb:p.fit)(hs:p.size<=2000000)(a0:pl.fit):Pure prog 44 [ag p.c,ag pl.c] (pB (fu p pl)):=by
 have k0:p.rules.length<=1000000000:=hb.2.1;have b0:=a0.g;refine ae ab func44 Z (by decide) ntmps44 Z (by simp) Z ?_;refine gA Z (zp (KA p pl.dY hb (by omega)) ?_);refine zJ Z Z (fun k1=>?_) fun k1=>?_
 .have k1: ¬eH p pl.dY=0:=zX k1;rw[show fu p pl=lc by unfold fu;rw[decide_eq_false k1];rfl];exact zU Z
 have k1:eH p pl.dY=0:=zY k1;have j0:=vh k1;have c0:=p7 k1;have hi:(pl.dY-1).toNat<p.rules.length:=by omega
 have Y:fu p pl=(lD (bT p pl.dY) pl.given&&(li (pl.steps.length=(bT p pl.dY).body.length)&&DU (bT p pl.dY) pl.steps (fun _=>lc) (aH pl.given))):=by unfold fu;rw[decide_eq_true k1,ZR]
 have f0:(bT p pl.dY).body.length<=2000000:=by have:=Lit.au (bT p pl.dY).body;unfold ah.size at c0;omega
 refine gA Z (zp (TN (bT p pl.dY) pl.given (by omega) b0) ?_);refine zE Z Z (fun J=>?_) fun J=>?_
 .have J:lD (bT p pl.dY) pl.given=lc:=zA J;rw[show fu p pl=lc by rw[Y,J];rfl];exact zU Z
 have J:lD (bT p pl.dY) pl.given=kw:=zB J;refine zJ Z Z (fun d=>?_) fun d=>?_
 .have d: ¬pl.steps.length=(bT p pl.dY).body.length:=by
   have d:(!li ((pl.steps.length:Int)=(bT p pl.dY).body.length))=kw:=d;intro h;rw[h,decide_eq_true Z]at d;cases d
  rw[show fu p pl=lc by rw[Y,decide_eq_false d,aad,aaa]];exact zU Z
 have d:pl.steps.length=(bT p pl.dY).body.length:=by
  have d:(!li ((pl.steps.length:Int)=(bT p pl.dY).body.length))=lc:=d;rw[aaM]at d;have:=zT d;omega
 rw[J,decide_eq_true d,ZR,ZR]at Y;refine fO (L:=[]) (t:=⟨[(3,.ptr 1 0),(6,.ptr 2 0)],[(1,io (aj pl.c)),(2,io (aj (bT p pl.dY).c))],3⟩) (zW (zK (zK ac))) ?_;generalize bT p pl.dY=r at*
 rcases Nat.eq_zero_or_pos r.body.length with h0|h0
 .have d0:pl.steps=[]:=ZY (by omega);refine gA Z (F9 ab 1 (fun _=> []) Z Z Z Z Z Z Z (by omega) (by omega) Z ?_);refine gA Z (zp (KE pl.given (by omega)) ?_);refine gA Z ?_;refine aw 0 0 (Zf _) (fun i=>⟨[(3,.ptr 1 0),(10,pI i)],[(1,io (aj pl.c))],4⟩) (fun _=>True) [] ac
   (zW (zK trivial)) fun i hi _=>?_
  refine zJ Z Z (fun h2=>?_) fun h2=>?_
  .have h2:=ci h2;omega
  .rw[Y,d0,DU];exact zU Z
 refine gA Z (Eu ab r.body.length r.body.length Z Z Z Z Z Z Z Z Z h0 (by omega) (by show 1*r.body.length<=_;omega) Z (by decide) (z:=[pB lc]) Z (.inr ⟨rfl,rfl⟩) Z ?_);refine gA Z (zp (KE pl.given (by omega)) ?_);refine gA Z ?_;refine uz 0 pl.steps.length (Zf _) (fun i (x:List Bool×List ak)=>⟨v9F pl r.body.length i x.2,v9H pl r x.1,4⟩) (fun i x=>V9 r pl i x.1 x.2) (aa5 r.body.length lc,pl.given) []
  ⟨by simp,by rw[UL];rfl,by omega⟩
  (zW (zK (zK (hR Z (by rw[List.map_replicate];rfl) Z trivial)))) fun i x hi F=>?_
 obtain⟨D,y⟩:=x;have F:V9 r pl i D y:=F;show GO prog _ _ _ ⟨v9F pl r.body.length i y,v9H pl r D,4⟩;have i0:=F.kl;have g0:=F.dl;refine zE Z Z (fun A=>?_) fun A=>?_
 .have A:=co A;rw[Y,F.rest,abx A,DU];exact zU Z
 have A:i<pl.steps.length:=by have:=zT A;omega
 have u:kO r (CP D) (aH y) (pl.steps.getD i em)=lc->fu p pl=lc:=fun h=>Y.trans (Vu F A h);have b: ∀j:Nat,(pl.steps.getD i em).lit=j->j<r.body.length->CP D j=lc->iz (aH y) r j=io (pl.steps.getD i em)->V9 r pl (i+1) (D.set j kw) (y++rX r (pl.steps.getD i em)):=fun j h2 h3 h4 h5=>NB (by omega) F A h2 h3 h4 h5;refine zE Z Z (fun g1=>?_) fun g1=>?_
 .have g1:(pl.steps.getD i em).lit<0:=zT g1;rw[u (by unfold kO;rw[decide_eq_false (by omega)];rfl)];exact zU Z
 have g1: ¬(pl.steps.getD i em).lit<0:=zF g1;refine zE Z Z (fun g2=>?_) fun g2=>?_
 .have g2:(pl.steps.getD i em).lit>=r.body.length:=zT g2;rw[u (by unfold kO;rw[decide_eq_false (by omega)];rfl)];exact zU Z
 have g2: ¬(pl.steps.getD i em).lit>=r.body.length:=zF g2;obtain⟨j,G⟩: ∃j:Nat,(pl.steps.getD i em).lit=j:=⟨(pl.steps.getD i em).lit.toNat,by omega⟩
 have I:j<r.body.length:=by omega
 have B:kO r (CP D) (aH y) (pl.steps.getD i em)=(!CP D j&&li (iz (aH y) r j=io (pl.steps.getD i em))):=by
  unfold kO;rw[decide_eq_true (by omega),ZR,G];rfl
 refine gM 8 Z (bB ab Z Z Z Z Z (jj (l:=D) (f:=cj) (i:=(pl.steps.getD i em).lit.toNat) (by omega)) Z Z ?_);refine zJ Z Z (fun g3=>?_) fun g3=>?_
 .have g3:CP D j=kw:=by unfold CP;rw[G,Zx]at g3;exact g3
  rw[u (by rw[B,g3];rfl)];exact zU Z
 have g3:CP D j=lc:=by unfold CP;rw[G,Zx]at g3;exact g3
 have hc:=Wd r j y I (by omega);have b:=b j G I g3;have e0:(pl.steps.getD i em).dh.length<=1000000000:=a0.c _ (cv A);rw[<-G]at hc;cases hk:iz (aH y) r j with
 |none=>
  rw[hk]at hc;rw[u (by rw[B,hk,decide_eq_false (fun h=>nomatch h),aaa])];refine gA Z (zp (hc) ?_);refine gA Z (zp (u5 (pl.steps.getD i em) dI.z (by omega)) ?_);refine zJ Z Z (fun q1=>?_) fun q1=>?_
  .exact absurd q1 (show¬((!lc)=lc) by decide)
  .exact zU Z
 |some w=>
  rw[hk]at hc b B;refine gA Z (zp (hc) ?_);refine gA Z (zp (u5 (pl.steps.getD i em) w (by omega)) ?_);refine zE Z Z (fun q1=>?_) fun q1=>?_
  .exact absurd q1 (show¬((!kw)=kw) by decide)
  refine zJ Z Z (fun S=>?_) fun S=>?_
  .have S: ¬pl.steps.getD i em=w:=zX S;rw[u (by rw[B,decide_eq_false (fun g=>S (Z5 g).symm),aaa])];exact zU Z
  have S:pl.steps.getD i em=w:=zY S;have b:=b (by rw[S]);have ha:=Po r (pl.steps.getD i em).kind j (pl.steps.getD i em).dh (pl.steps.getD i em).var y I (by omega) (by omega);rw[show dI.mk (pl.steps.getD i em).kind (j:Int) (pl.steps.getD i em).dh (pl.steps.getD i em).var=pl.steps.getD i em from BF Z G.symm Z Z]at ha;refine gA Z ?_;refine kJ ab Z Z Z (i:=3) (sz:=1) (q:=0+(pl.steps.getD i em).lit.toNat) Z Z Z Z (by simp only[ZE];omega) Z Z Z Z ?_;refine gA Z (zp (ha) ?_)
  refine gA Z ⟨A,(D.set j kw,y++rX r (pl.steps.getD i em)),[],b,zW (zK (zK ⟨⟨_,rfl,(Ah (.kb kw)).trans (.of_eq (by
   rw[bG];show AO.row 1 ((D.map fun x=>(cj x).map PV.iv).set (0+(pl.steps.getD i em).lit.toNat) ((cj kw).map PV.iv))=AO.row 1 ((D.set j kw).map fun x=>(cj x).map PV.iv)
   rw[Zu,G,Zx,aaR]))⟩,Y5 Z,cM _,ac⟩))⟩
abbrev Vg:AO:= .cells [pI 0,pI 0,.iv (.v (.slice jp 0 0)),.iv (.v (.slice jp 0 0))]
set_option maxHeartbeats 1000000 in
theorem Pl(pl:nh)(d:pl.fit):Pure prog 42 [ag pl.c] (ag pl.c):=by
 have A:=d.g;have D:=d.s;refine ae ab func42 Z (by decide) ntmps42 Z (by simp) Z ?_;refine gM 25 Z (fO [] (t:=⟨[(1,.ptr 0 0),(2,.ptr 1 0),(3,.ptr 2 0)],[(0,io (aj pl.c)),(1,io Vg),(2,io (.cells [pI pl.dY,pI pl.first,.sl 4 0 pl.given.length 1,.iv (.v (.slice jp 0 0))])),(4,io (aE 1 pl.given cz))],5⟩) (zW (zK (zO ⟨⟨_,rfl,fb.cells ⟨.refl _,.refl _,.row (by simp),.refl _,ac⟩⟩,Y5 Z,rfl,hR Z (vi pl.given cz) Z ac⟩))) ?_);refine rE 4 (fun k=>cz (pl.given.getD k em)) Z (eE Z) (by simp[AF.rR,PV.bX]) ⟨ma _ _ _ _,(by simp[AO.rR,da,PV.bX]),(by simp[AO.rR,da,PV.bX]),jZ _ _ _ _ _ _,ac⟩ ?_
 refine fO (L:=[]) (t:=⟨[(1,.ptr 0 0),(2,.ptr 1 0),(3,.ptr 2 0)],[(0,io (aj pl.c)),(1,io Vg),(2,io (.cells [pI pl.dY,pI pl.first,.iv (strs pl.given),.iv (.v (.slice jp 0 0))]))],5⟩) (zW (zK ⟨⟨_,rfl,.of_eq Z⟩,Y5 Z,rfl,⟨_,rfl,fb.cells ⟨.refl _,.refl _,(by
  show aK (.iv (.de 1 pl.given.length fun k=>cz (pl.given.getD (0+k) em))) (.iv (strs pl.given));simp only[Zu]
  exact .refl _),.refl _,ac⟩⟩,Y5 Z,rfl,ac⟩)) ?_
 refine jg (i:=2) (j:=3) 4 Z Z ?_;refine gA Z ?_;refine aw 0 pl.steps.length (Zf _) (fun i=>⟨[(1,.ptr 0 0),(2,.ptr 1 0),(3,.ptr 2 0),(4,pI i)],[(0,io (aj pl.c)),(1,io Vg),(2,io (.cells [pI pl.dY,pI pl.first,.iv (strs pl.given),.sl 6 0 i 4])),(6,io (aE 4 (pl.steps.take i) dI.c))],7⟩) (fun _=>True) [5] ac
  (zW (zK ⟨⟨_,rfl,.of_eq Z⟩,Y5 Z,rfl,⟨_,rfl,.of_eq Z⟩,Y5 Z,rfl,hR Z (by simp) Z trivial⟩)) fun i B _=>?_
 refine zJ Z Z (fun b=>?_) fun b=>?_
 .have b:i<pl.steps.length:=by have:=zT b;omega
  have x:=ba b;have y:=d.c _ (cv b);refine gM 18 Z (fO [] (t:=⟨[(1,.ptr 0 0),(2,.ptr 1 0),(3,.ptr 2 0),(4,pI i),(5,.ptr 7 0)],[(0,io (aj pl.c)),(1,io Vg),(2,io (.cells [pI pl.dY,pI pl.first,.iv (strs pl.given),.sl 6 0 i 4])),(6,io (aE 4 (pl.steps.take i) dI.c)),(7,io (aj [iI (pl.steps.getD i em).kind,iI (pl.steps.getD i em).lit,.v (.slice jp 0 0),iS (pl.steps.getD i em).var]))],8⟩) (zW (zK ⟨⟨_,rfl,.of_eq Z⟩,Y5 Z,rfl,⟨_,rfl,.of_eq Z⟩,Y5 Z,rfl,zS (zK ac)⟩)) ?_);refine gM 14 Z (fO [] (t:=⟨[(1,.ptr 0 0),(2,.ptr 1 0),(3,.ptr 2 0),(4,pI i),(5,.ptr 7 0)],[(0,io (aj pl.c)),(1,io Vg),(2,io (.cells [pI pl.dY,pI pl.first,.iv (strs pl.given),.sl 6 0 i 4])),(6,io (aE 4 (pl.steps.take i) dI.c)),(7,io (.cells [pI (pl.steps.getD i em).kind,pI (pl.steps.getD i em).lit,.sl 9 0 (pl.steps.getD i em).dh.length 1,pS (pl.steps.getD i em).var])),(9,io (aE 1 (pl.steps.getD i em).dh aY))],10⟩) (zW (zK ⟨⟨_,rfl,.of_eq Z⟩,Y5 Z,rfl,⟨_,rfl,.of_eq Z⟩,Y5 Z,rfl,zS ⟨⟨_,rfl,fb.cells (by exact⟨.refl _,.refl _,.row (by simp),.refl _,ac⟩)⟩,Y5 Z,rfl,hR Z (by exact vi (pl.steps.getD i em).dh aY) Z ac⟩⟩)) ?_);refine rE 9 (fun k=>aY ((pl.steps.getD i em).dh.getD k em)) Z (eE Z) (by simp[AF.rR,PV.bX]) ⟨ma _ _ _ _,(by simp[AO.rR,da,PV.bX]),(by simp[AO.rR,da,PV.bX]),jZ _ _ _ _ _ _,(by simp[AO.rR,da,PV.bX]),jZ _ _ _ _ _ _,ac⟩ ?_
  refine fO (L:=[]) (t:=⟨[(1,.ptr 0 0),(2,.ptr 1 0),(3,.ptr 2 0),(4,pI i),(5,.ptr 7 0)],[(0,io (aj pl.c)),(1,io Vg),(2,io (.cells [pI pl.dY,pI pl.first,.iv (strs pl.given),.sl 6 0 i 4])),(6,io (aE 4 (pl.steps.take i) dI.c)),(7,io (aj (pl.steps.getD i em).c))],10⟩) (zW (zK ⟨⟨_,rfl,.of_eq Z⟩,Y5 Z,rfl,⟨_,rfl,.of_eq Z⟩,Y5 Z,rfl,zS ⟨⟨_,rfl,fb.cells (by exact⟨.refl _,.refl _,(by
   show aK (.iv (.de 1 (pl.steps.getD i em).dh.length fun k=>aY ((pl.steps.getD i em).dh.getD (0+k) em))) (.iv (cZ 1 (pl.steps.getD i em).dh aY));simp only[Zu]
   exact .refl _),.refl _,ac⟩)⟩,Y5 Z,rfl,ac⟩⟩)) ?_
  refine gA Z ⟨b,ac,[11],zW (zK ⟨⟨_,rfl,.of_eq Z⟩,Y5 Z,rfl,⟨_,rfl,fb.cells (by exact⟨.refl _,.refl _,.refl _,.row (by simp),ac⟩)⟩,Y5 Z,rfl,hR Z (by rw[x,Ze];rfl) Z ac⟩)⟩
 .have b:pl.steps.length<=i:=by have:=zF b;omega
  have u:i=pl.steps.length:=by omega
  subst u;rw[Zh (Zc _)];refine gA Z (kh (.inr Z) Z (jC.xQ 6 pl.steps dI.c Z Z ?_ (.done ?_)))
  .simp[PV.bX,da]
  .show aK (.agg [pI pl.dY,pI pl.first,.iv (strs pl.given),.iv (.de 4 pl.steps.length fun k=>dI.c (pl.steps.getD (0+k) em))]) (ag pl.c);simp only[Zu];exact .refl _
theorem O9(p:Prog)(hb:p.size<=100000000000):Pure prog 19 [ag p.c,ag p.c] (pB kw):=Yu p hb
theorem Ds(p:Prog)(pl:nh)(hb:p.fit)(hs:p.size<=2000000)(b:pl.fit):Pure prog 9 [ag p.c,ag pl.c] (pB kw):=by
 have B:Pure prog 12 [ag p.c] (ag p.c):=c14 p (by omega);have D:=Pl pl b;have d:=GS p pl hb hs b.g;have F:=O9 p (by omega);have j:=IE pl pl b;have u:=O8 p pl hb hs b;rw[decide_eq_true Z]at j;generalize fu p pl=v at d u;refine ae ab func9 Z (by decide) ntmps9 Z (by simp) Z ?_;refine gA Z (zp (Pg) ?_);refine gA Z (zp (B) ?_);refine gA Z (zp (D) ?_);refine gA Z (zp (d) ?_);refine gA Z (zp (F) ?_);refine gA Z (zp (j) ?_);refine zE Z Z (fun x=>?_) fun x=>?_
 .exact absurd x (by decide)
 refine zE Z Z (fun y=>?_) fun y=>?_
 .exact absurd y (by decide)
 refine zE Z Z (fun A=>?_) fun A=>?_
 .exact absurd A (by decide)
 refine gA Z (zp (u) ?_);refine gA Z (zL ?_);exact .of_eq (fV (by simp))
end Go.Proofs.YtflegjieadkonaaGreatDoor
