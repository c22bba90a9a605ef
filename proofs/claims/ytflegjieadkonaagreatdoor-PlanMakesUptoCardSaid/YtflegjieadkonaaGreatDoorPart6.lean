/-
  What the proofs of the claims need: part 6 of 7.
-/
import Derived.Test.YtflegjieadkonaaGreatDoorPart5
open Bool renaming and_false→ZV,false_and→ZZ,true_and→ZH
open ByteArray renaming empty→YW
open Decidable renaming not_not→abB
open Int renaming toNat_natCast→Zi
open List renaming drop_eq_getElem_cons→abu,eq_nil_of_length_eq_zero→ZN,getD_eq_getElem?_getD→YR,getElem?_eq_getElem→YU,length_append→YS,length_cons→Zr,length_filter_le→Z4,length_map→Zo,mem_cons→Za
open Nat renaming add_mul→Z5,blt→Zb,le_of_ble_eq_true→YP,le_refl→YY,le_trans→ZI,lt_succ_iff_lt_or_eq→ZA,not_lt_zero→Z3,zero_add→Zh,zero_le→YZ
open Option.some renaming inj→ZP
set_option maxRecDepth 100000
open Bool renaming false→lc,true→kw
open Decidable renaming decide→li
open Inhabited renaming default→em
open Option renaming none→jp,some→io
open Array renaming getD_eq_getD_getElem?→YQ
open Option.some renaming injEq→YT
open List renaming getElem?_eq_some_iff→YV
open Array renaming range→abK
open Array renaming getElem?_map→abe
open Option renaming map_some→ZW
open Option renaming getD_some→aah
open Array renaming getElem?_eq_getElem→ZM
open Nat renaming mul_le_mul_right→Zp
open Array renaming getElem?_append_left→ZU
open List renaming getElem?_append_right→Ze
open List renaming getElem?_take→ZS
open Array renaming getElem?_toList→Z2
open And renaming intro→ZC
open List renaming map_append→YX
open List renaming append_assoc→Y3
open List renaming range_succ_eq_map→abg
namespace Go.Proofs.YtflegjieadkonaaGreatDoor
open Go Go.Al Go.Proofs.Tryz
theorem Fp{a b:dz}(h1:a.kind=b.kind)(h2:a.lit=b.lit)(h3:a.var=b.var)(d:a.eW=b.eW):a=b:=by
 cases a;cases b;simp only at h1 h2 h3 d;subst h1 h2 h3 d;rfl
theorem IE(a b:dz)(hb:a.eW.length<=1000000000000):Pure prog 74 [ag a.c,ag b.c] (pB (li (a=b))):=by
 have no: ∀{α:Type} {f:dz->α},¬f a=f b->li (a=b)=lc:=fun h=>decide_eq_false fun g=>h (by rw[g]);refine ah ab func74 Z (by decide) ntmps74 Z (by simp) Z ?_;refine zE Z Z (fun g1=>?_) fun g1=>?_
 .have g1: ¬a.kind=b.kind:=zX g1;rw[no (f:=dz.kind) g1];exact zU Z
 have g1:a.kind=b.kind:=zY g1;refine zE Z Z (fun g2=>?_) fun g2=>?_
 .have g2: ¬a.lit=b.lit:=zX g2;rw[no (f:=dz.lit) g2];exact zU Z
 have g2:a.lit=b.lit:=zY g2;refine zE Z Z (fun g3=>?_) fun g3=>?_
 .have g3: ¬a.var=b.var:=zX g3;rw[no (f:=dz.var) g3];exact zU Z
 have g3:a.var=b.var:=zY g3;refine zJ Z Z (fun g4=>?_) fun g4=>?_
 .have g4: ¬a.eW.length=b.eW.length:=by
   have g4:(!li ((a.eW.length:Int)=b.eW.length))=kw:=g4;simp at g4;omega
  rw[no (f:=fun x=>x.eW.length) g4];exact zU Z
 have g4:a.eW.length=b.eW.length:=by
  have g4:(!li ((a.eW.length:Int)=b.eW.length))=lc:=g4;simp at g4;omega
 refine gA Z ?_;refine az 0 a.eW.length (YZ _) (fun i=>⟨[(2,.ptr 0 0),(3,.ptr 1 0),(5,pI i)],[(0,io (an a.c)),(1,io (an b.c))],2⟩) (fun i=> ∀j,j<i->a.eW.getD j em=b.eW.getD j em) [] (fun j y=>absurd y (Z3 j))
  (zW (zK (zK trivial))) fun i B A=>?_
 refine zJ Z Z (fun u=>?_) fun u=>?_
 .have u:=ci u;refine zJ Z Z (fun d=>?_) fun d=>?_
  .have d: ¬a.eW.getD i em=b.eW.getD i em:=zX d;rw[no (f:=fun x=>x.eW.getD i em) d];exact zU Z
  .have d:a.eW.getD i em=b.eW.getD i em:=zY d;refine gA Z ⟨u,fun j y=>(ZA.1 y).elim (A j) (fun e=>e▸d),[],zW (zK (zK ac))⟩
 .have u:=co u;rw[decide_eq_true (Fp g1 g2 g3 (xB g4 fun j y=>A j (by omega)))];exact zU Z
theorem Uc{a b:po}(h1:a.mf=b.mf)(h2:a.first=b.first)(h3:a.given=b.given)(d:a.steps=b.steps):a=b:=by
 cases a;cases b;simp only at h1 h2 h3 d;subst h1 h2 h3 d;rfl
structure po.fit (a:po):Prop where
 g:a.given.length<=1000000000
 s:a.steps.length<=1000000000
 c: ∀s∈a.steps,s.eW.length<=1000000000
theorem IF(a b:po)(hb:a.fit):Pure prog 37 [ag a.c,ag b.c] (pB (li (a=b))):=by
 have no: ∀{α:Type} {f:po->α},¬f a=f b->li (a=b)=lc:=fun h=>decide_eq_false fun g=>h (by rw[g]);have D:=hb.g;have F:=hb.s;refine ah ab func37 Z (by decide) ntmps37 Z (by simp) Z ?_;refine zE Z Z (fun g1=>?_) fun g1=>?_
 .have g1: ¬a.mf=b.mf:=zX g1;rw[no (f:=po.mf) g1];exact zU Z
 have g1:a.mf=b.mf:=zY g1;refine zE Z Z (fun g2=>?_) fun g2=>?_
 .have g2: ¬a.first=b.first:=zX g2;rw[no (f:=po.first) g2];exact zU Z
 have g2:a.first=b.first:=zY g2;refine zE Z Z (fun g3=>?_) fun g3=>?_
 .have g3: ¬a.given.length=b.given.length:=by
   have g3:(!li ((a.given.length:Int)=b.given.length))=kw:=g3;simp at g3;omega
  rw[no (f:=fun x=>x.given.length) g3];exact zU Z
 have g3:a.given.length=b.given.length:=by
  have g3:(!li ((a.given.length:Int)=b.given.length))=lc:=g3;simp at g3;omega
 refine zJ Z Z (fun g4=>?_) fun g4=>?_
 .have g4: ¬a.steps.length=b.steps.length:=by
   have g4:(!li ((a.steps.length:Int)=b.steps.length))=kw:=g4;simp at g4;omega
  rw[no (f:=fun x=>x.steps.length) g4];exact zU Z
 have g4:a.steps.length=b.steps.length:=by
  have g4:(!li ((a.steps.length:Int)=b.steps.length))=lc:=g4;simp at g4;omega
 refine gA Z ?_;refine az 0 a.given.length (YZ _) (fun i=>⟨[(2,.ptr 0 0),(3,.ptr 1 0),(5,pI i)],[(0,io (an a.c)),(1,io (an b.c))],2⟩) (fun i=> ∀j,j<i->a.given.getD j em=b.given.getD j em) [] (fun j u=>absurd u (Z3 j))
  (zW (zK (zK trivial))) fun i J B=>?_
 refine zJ Z Z (fun A=>?_) fun A=>?_
 .have A:=ci A;refine zJ Z Z (fun d=>?_) fun d=>?_
  .have d: ¬a.given.getD i em=b.given.getD i em:=zX d;rw[no (f:=fun x=>x.given.getD i em) d];exact zU Z
  .have d:a.given.getD i em=b.given.getD i em:=zY d;refine gA Z ⟨A,fun j u=>(ZA.1 u).elim (B j) (fun e=>e▸d),[],zW (zK (zK ac))⟩
 have A:=co A;have I:=xB g3 fun j u=>B j (by omega);refine gA Z ?_
 refine az 0 a.steps.length (YZ _) (fun i=>⟨[(2,.ptr 0 0),(3,.ptr 1 0),(6,pI i)],[(0,io (an a.c)),(1,io (an b.c))],2⟩) (fun i=> ∀j,j<i->a.steps.getD j em=b.steps.getD j em) [] (fun j u=>absurd u (Z3 j))
  (zW (zK (zK trivial))) fun i J B=>?_
 refine zJ Z Z (fun y=>?_) fun y=>?_
 .have y:=ci y;have G:=hb.c _ (cS y);refine gA Z (pP (IE (a.steps.getD i em) (b.steps.getD i em) (by omega)) ?_);refine zJ Z Z (fun d=>?_) fun d=>?_
  .have d: ¬a.steps.getD i em=b.steps.getD i em:=zX d;rw[no (f:=fun x=>x.steps.getD i em) d];exact zU Z
  .have d:a.steps.getD i em=b.steps.getD i em:=zY d;refine gA Z ⟨y,fun j u=>(ZA.1 u).elim (B j) (fun e=>e▸d),[],zW (zK (zK ac))⟩
 .have y:=co y;rw[decide_eq_true (Uc g1 g2 I (xB g4 fun j u=>B j (by omega)))];exact zU Z
theorem Pm(a b:List Int)(hb:a.length<=1000000000000):Pure prog 82 [.iv (cW 1 a ba),.iv (cW 1 b ba)] (pB (li (a=b))):=by
 refine ah ab func82 Z (by decide) ntmps82 Z (by simp) Z ?_;refine zJ Z Z (fun g1=>?_) fun g1=>?_
 .have g1: ¬a.length=b.length:=by
   have g1:(!li ((a.length:Int)=b.length))=kw:=g1;simp at g1;omega
  rw[show li (a=b)=lc from decide_eq_false fun h=>g1 (by rw[h])];exact zU Z
 have g1:a.length=b.length:=by
  have g1:(!li ((a.length:Int)=b.length))=lc:=g1;simp at g1;omega
 refine gA Z ?_;refine az 0 a.length (YZ _) (fun i=>⟨[(0,.iv (cW 1 a ba)),(1,.iv (cW 1 b ba)),(12,pI a.length),(13,pI i)],[],0⟩) (fun i=> ∀j,j<i->a.getD j em=b.getD j em) [] (fun j hj=>absurd hj (Z3 j))
  (zW trivial) fun i D x=>?_
 refine zE Z Z (fun u=>?_) fun u=>?_
 .have u:=co u;have B:a=b:=by
   refine List.ext_getElem g1 fun j y A=>?_;have:=x j (by omega);rw[YR,YR,YU y,YU A]at this;exact this
  rw[decide_eq_true B];exact zU Z
 have u:=ci u;refine zJ Z Z (fun d=>?_) fun d=>?_
 .have d: ¬a.getD i em=b.getD i em:=zX d;rw[show li (a=b)=lc from decide_eq_false fun h=>d (by rw[h])];exact zU Z
 .have d:a.getD i em=b.getD i em:=zY d;refine gA Z ?_
  exact⟨u,fun j hj=>by
   rcases ZA.1 hj with hj|hj
   .exact x j hj
   .subst hj;exact d,[],zW ac⟩
def tT(r:ae)(dn:Nat->Bool)(K:aj->Bool)(s:dz):Bool:=li (0<=s.lit∧s.lit<r.body.length)&&(!dn s.lit.toNat&&li (iu K r s.lit.toNat=io s))
def PX(r:ae):List dz->(Nat->Bool)->(aj->Bool)->Bool
 | [],_,_=>kw
 |s::L,dn,K=>tT r dn K s&&PX r L (zg dn s.lit) (fun x=>K x||aE (tD r s) x)
def l4(p:Prog)(pl:po):Bool:=li (ej p pl.mf=0)&&(pt (bO p pl.mf) pl.given&&(li (pl.steps.length=(bO p pl.mf).body.length)&&PX (bO p pl.mf) pl.steps (fun _=>lc) (aE pl.given)))
theorem A6{α:Type}[Inhabited α]{l:List α}{i:Nat}(h:i<l.length):l.drop i=l.getD i em::l.drop (i+1):=by
 rw[abu h,YR,YU h];rfl
structure VJ (r:ae) (pl:po) (i:Nat) (ks:List aj) (dm:WD):Prop where
 rest:PX r pl.steps (fun _=>lc) (aE pl.given)=PX r (pl.steps.drop i) (oA dm) (aE ks)
 kl:ks.length<=1000000000+i*10000000
 pos: ∀i:Int,0<=bU (.int .i64) dm i 0∧bU (.int .i64) dm i 0<=1
theorem Vk{r:ae}{pl:po}{i:Nat}{b:List aj}{dm:WD}(h:VJ r pl i b dm)(hi:i<pl.steps.length)(hs:tT r (oA dm) (aE b) (pl.steps.getD i em)=lc):PX r pl.steps (fun _=>lc) (aE pl.given)=lc:=by
 rw[h.rest,A6 hi,PX,hs];rfl
theorem Nv{r:ae}{x:BM}(y:Bq r x)(hb:r.size<=10000000){pl:po}{i:Nat}{d:List aj}{dm:WD}(h:VJ r pl i d dm)(hi:i<pl.steps.length){s:dz}(he:pl.steps.getD i em=s){j:Nat}(hj:s.lit=j)(b:j<r.body.length)(hd:oA dm j=lc)(hc:iu (aE d) r j=io s):
  VJ r pl (i+1) (d++jT r s) (Ju dm j):=by
 have A:=h.pos j;refine⟨?_,?_,fun c=>?_⟩
 .rw[h.rest,A6 hi,PX,he];have u:tT r (oA dm) (aE d) s=kw:=by
   unfold tT;rw[hj,Zi,hd,hc,decide_eq_true Z,decide_eq_true (by omega)];rfl
  rw[u,ZH,Cz A.1,Cg,y.take b hj hc,hj]
 .have B:=C6 r s hj b hb;have D:=h.kl;rw[YS,Z5];omega
 .unfold Ju;rw[uh];split
  .have:=zF hd;omega
  .exact h.pos c
theorem MG(K:aj->Bool)(a:Atom):(jg K a).length<=a.ad.length:=by
 unfold jg;rw[Zo];exact ZI (Z4 _ _) (by simp)
theorem EU{K:aj->Bool}{r:ae}{l:Lit}{i:Int}{s:dz}(h:uF K r l i=io s):s.eW.length<=l.atom.ad.length:=by
 unfold uF vH Gs at h
 repeat' split at h
 all_goals first
  |(cases h;exact MG K _)
  |(cases h;exact YZ _)
  |cases h
abbrev vW(r:ae):AO:= .cells [.iv (iS r.head.rel),.iv (cW 5 r.head.ad Term.c),.iv (lits r.body),.iv (iI r.at_.line),.iv (iI r.at_.zr),.mp 4,.iv (zc (H4 r)),.mp 5]
theorem hV{n:Nat}{σ:Nat->Nat}{h:AH}{r:ae}{m:NM}{d:List aj}{dm b:WD}{rest:AH}(h0:h.get (σ 3)=io (.cells [.iv (iS r.head.rel),.iv (cW 5 r.head.ad Term.c),.iv (lits r.body),.iv (iI r.at_.line),.iv (iI r.at_.zr),.mp (σ 4),.iv (zc (H4 r)),.mp (σ 5)]))
  (h1:h.get (σ 4)=io (ct m)) (h2:h.get (σ 5)=io (xb dm)) (e1:m=aC d) (e2:dm=b) (j:(vW r).low n) (hb:Zb 5 n=kw) (hr:nX n σ h rest):nX n σ h ((3,io (vW r))::(4,io (ct (aC d)))::(5,io (xb b))::rest):=by
 subst e1 e2;have u:5<n:=YP hb;exact⟨⟨_,h0,.of_eq Z⟩,by omega,j,⟨_,h1,.of_eq Z⟩,by omega,ac,⟨_,h2,.of_eq Z⟩,u,ac,hr⟩
set_option maxHeartbeats 1000000 in
theorem Pa(p:Prog)(pl:po)(hb:p.fit)(hs:p.size<=2000000)(a0:pl.given.length<=1000000000):Pure prog 43 [ag p.c,ag pl.c] (pB (l4 p pl)):=by
 have k0:p.rules.length<=1000000000:=hb.2.1;refine ah ab func43 Z (by decide) ntmps43 Z (by simp) Z ?_;refine gA Z (zp (BI p pl.mf hb (by omega)) ?_);refine zE Z Z (fun k1=>?_) fun k1=>?_
 .have k1: ¬ej p pl.mf=0:=zX k1;rw[show l4 p pl=lc by unfold l4;rw[decide_eq_false k1];rfl];exact zU Z
 have k1:ej p pl.mf=0:=zY k1;have c0:=va k1;have b0:=oe k1;have hA:=HQ p (bO p pl.mf) c0.2.2 (BJ k1) (by omega);have d0:kG p pl.mf=bO p pl.mf:=by unfold kG;rw[am k1]
 have hv:l4 p pl=(pt (bO p pl.mf) pl.given&&(li (pl.steps.length=(bO p pl.mf).body.length)&&PX (bO p pl.mf) pl.steps (fun _=>lc) (aE pl.given))):=by unfold l4;rw[decide_eq_true k1,ZH]
 rw[d0];generalize bO p pl.mf=r at*
 have g0:r.body.length<=2000000:=by have:=Lit.au r.body;unfold ae.size at b0;omega
 refine gA Z (zp (GY r pl.given (by omega) a0) ?_);refine zE Z Z (fun S=>?_) fun S=>?_
 .have S:pt r pl.given=lc:=zA S;rw[show l4 p pl=lc by rw[hv,S];rfl];exact zU Z
 have S:pt r pl.given=kw:=zB S;refine zJ Z Z (fun A=>?_) fun A=>?_
 .have A: ¬pl.steps.length=r.body.length:=by
   have A:(!li ((pl.steps.length:Int)=r.body.length))=kw:=A;simp at A;omega
  rw[show l4 p pl=lc by rw[hv,decide_eq_false A,ZZ,ZV]];exact zU Z
 have A:pl.steps.length=r.body.length:=by
  have A:(!li ((pl.steps.length:Int)=r.body.length))=lc:=A;simp at A;omega
 rw[S,decide_eq_true A,ZH,ZH]at hv;refine gA Z (bI [] (Fy r pl.given (by omega) a0) Z Z Z Z Z Z Z Z ?_);refine gA Z ?_;refine uq 0 pl.steps.length (YZ _) (fun i (x:List aj×WD)=>⟨[(5,.ptr 2 0),(7,.ptr 3 0),(42,.iv (cW 4 pl.steps dz.c)),(43,pI pl.steps.length),(44,pI i)],[(2,io (an r.c)),(3,io (vW r)),(4,io (ct (aC x.1))),(5,io (xb x.2))],6⟩) (fun i x=>VJ r pl i x.1 x.2) (pl.given,[]) []
  ⟨rfl,by omega,fun _=>by simp[bU]⟩
  (zW (zK (hV Z Z Z Z Z Z Z trivial))) fun i x hi F=>?_
 obtain⟨d,dm⟩:=x;have F:VJ r pl i d dm:=F;show GO prog _ _ _ ⟨[(5,.ptr 2 0),(7,.ptr 3 0),(42,.iv (cW 4 pl.steps dz.c)),(43,pI pl.steps.length),(44,pI i)],[(2,io (an r.c)),(3,io (vW r)),(4,io (ct (aC d))),(5,io (xb dm))],6⟩;have j0:=F.kl;refine zE Z Z (fun B=>?_) fun B=>?_
 .have B:=co B;rw[hv,F.rest,List.drop_eq_nil_of_le B,PX];exact zU Z
 have B:i<pl.steps.length:=by have:=zT B;omega
 have y:tT r (oA dm) (aE d) (pl.steps.getD i em)=lc->l4 p pl=lc:=fun h=>hv.trans (Vk F B h);have b: ∀j:Nat,(pl.steps.getD i em).lit=j->j<r.body.length->oA dm j=lc->iu (aE d) r j=io (pl.steps.getD i em)->VJ r pl (i+1) (d++jT r (pl.steps.getD i em)) (Ju dm j):=fun j h2 h3 h4 h5=>Nv hA (by omega) F B Z h2 h3 h4 h5;refine zJ Z Z (fun g1=>?_) fun g1=>?_
 .have g1:(pl.steps.getD i em).lit<0:=zT g1;rw[y (by unfold tT;rw[decide_eq_false (by omega)];rfl)];exact zU Z
 have g1: ¬(pl.steps.getD i em).lit<0:=zF g1;refine zJ Z Z (fun g2=>?_) fun g2=>?_
 .have g2:(pl.steps.getD i em).lit>=r.body.length:=zT g2;rw[y (by unfold tT;rw[decide_eq_false (by omega)];rfl)];exact zU Z
 have g2: ¬(pl.steps.getD i em).lit>=r.body.length:=zF g2;obtain⟨j,G⟩: ∃j:Nat,(pl.steps.getD i em).lit=j:=⟨(pl.steps.getD i em).lit.toNat,by omega⟩
 have u:j<r.body.length:=by omega
 have D:tT r (oA dm) (aE d) (pl.steps.getD i em)=(!oA dm j&&li (iu (aE d) r j=io (pl.steps.getD i em))):=by
  unfold tT;rw[decide_eq_true (by omega),ZH,G];rfl
 refine zJ Z Z (fun g3=>?_) fun g3=>?_
 .have g3:oA dm j=kw:=by unfold oA;rw[<-G];exact g3
  rw[y (by rw[D,g3];rfl)];exact zU Z
 have g3:oA dm j=lc:=by unfold oA;rw[<-G];exact g3
 have I:=Sz r (H4 r) d dm j u (by omega) (hA.br j);rw[hA.can (aE d) j u]at I;have b:=b j G u g3;cases hk:iu (aE d) r j with
 |none=>
  rw[hk]at I;rw[<-G]at I;rw[y (by rw[D,hk,decide_eq_false (fun h=>nomatch h),ZV])];refine gA Z (bI [3,4,5] I Z Z Z Z Z Z Z Z ?_);refine zJ Z Z (fun q1=>?_) fun q1=>?_
  .exact absurd q1 (show¬((!lc)=lc) by decide)
  .exact zU Z
 |some w=>
  rw[hk]at I b D;rw[<-G]at I;have e0:=uE hk;have J: ∀{α:Type} {f:dz->α},¬f w=f (pl.steps.getD i em)->l4 p pl=lc:=fun h=>y (by rw[D,decide_eq_false (fun g=>h (by rw[ZP g])),ZV])
  have i0:w.eW.length<=2000000:=by
   have h:=EU hk;have h2:=Lit.aI r.body j u;have h3:=(r.body.getD j em).size_eq;unfold ae.size at b0;omega
  refine gA Z (bI [3,4,5] I Z Z Z Z Z Z Z Z ?_);refine zE Z Z (fun q1=>?_) fun q1=>?_
  .exact absurd q1 (show¬((!kw)=kw) by decide)
  refine zE Z Z (fun Y=>?_) fun Y=>?_
  .have Y: ¬w.kind=(pl.steps.getD i em).kind:=zX Y;rw[J (f:=dz.kind) Y];exact zU Z
  have Y:w.kind=(pl.steps.getD i em).kind:=zY Y;refine zE Z Z (fun q3=>?_) fun q3=>?_
  .have q3: ¬w.var=(pl.steps.getD i em).var:=zX q3;rw[J (f:=dz.var) q3];exact zU Z
  have q3:w.var=(pl.steps.getD i em).var:=zY q3;refine gA Z (zp (Pm w.eW (pl.steps.getD i em).eW (by omega)) ?_);refine zJ Z Z (fun q4=>?_) fun q4=>?_
  .have q4: ¬w.eW=(pl.steps.getD i em).eW:=zX q4;rw[J (f:=dz.eW) q4];exact zU Z
  have q4:w.eW=(pl.steps.getD i em).eW:=zY q4;have f0:w=pl.steps.getD i em:=Fp Y (e0.trans G.symm) q3 q4;have b:=b (by rw[f0]);have ht:=Kz r (zc (H4 r)) d dm (pl.steps.getD i em).kind j (pl.steps.getD i em).eW (pl.steps.getD i em).var u (by omega) (by omega) ⟨(F.pos j).1,by have:=(F.pos j).2;omega⟩;rw[show dz.mk (pl.steps.getD i em).kind (j:Int) (pl.steps.getD i em).eW (pl.steps.getD i em).var=pl.steps.getD i em from Fp Z G.symm Z Z]at ht;refine gA Z (bI [3,4,5] ht Z Z Z Z Z Z Z Z ?_);refine gA Z ⟨B,(d++jT r (pl.steps.getD i em),Ju dm j),[],b,zW (zK (hV Z Z Z Z Z Z Z ac))⟩
def Mp:Expr:= .mk 0 YW ⟨0,0,YW⟩ 0 []
def Un:aj:=⟨#[88]⟩
def Vd:aj:=⟨#[89]⟩
def Um:aj:=⟨#[90]⟩
def vk:aj:=⟨#[101,100,103,101]⟩
def nO:aj:=⟨#[112,97,116,104]⟩
def uR(s:aj):Term:=⟨1,s,⟨0,0,YW⟩⟩
def Ly(a:Atom):Lit:= .mk 1 a 0 Mp Mp 0 YW Mp [] ⟨0,0⟩
def BQ:List Lit:=[Ly ⟨nO,[uR Un,uR Vd]⟩,Ly ⟨vk,[uR Vd,uR Um]⟩]
def nM:Prog:=⟨[⟨vk,[1,1],⟨0,0⟩⟩,⟨nO,[1,1],⟨0,0⟩⟩],[⟨⟨nO,[uR Un,uR Um]⟩,BQ,⟨0,0⟩⟩]⟩
theorem IC(s:aj):Pure prog 105 [pS s] (ag (uR s).c):=by
 refine ah ab func105 Z (by decide) ntmps105 Z (by simp) Z ?_;refine gA Z (zL ?_);exact .refl _
def q8:List (List PV)->List (List PV)->Prop
 | [],[]=>True
 |e::r,f::q=>kX e f∧q8 r q
 |_,_=>False
theorem q8.length: ∀{a b:List (List PV)},q8 a b->a.length=b.length
 | [],[],_=>rfl
 |_::_,_::_,h=>congrArg (· +1) (q8.length h.2)
 | [],_::_,h=>h.elim
 |_::_,[],h=>h.elim
theorem q8.get: ∀{a b:List (List PV)},q8 a b-> ∀(k:Nat) (e:List PV),b[k]? =io e-> ∃d,a[k]? =io d∧kX d e
 | [],[],_,k,e,h=>by simp at h
 |x::r,y::q,hh,k,e,h=>by
  cases k with
  |zero=>cases h;exact⟨x,rfl,hh.1⟩
  |succ k=>exact q8.get hh.2 k e h
 | [],_::_,hh,_,_,_=>hh.elim
 |_::_,[],hh,_,_,_=>hh.elim
theorem T1{sz:Nat}{es b:List (List PV)}(h:q8 es b):gf (.row sz es) (.row sz b):=by
 have d:=h.length;refine⟨fun hr=>?_,fun M N U w i D=>?_⟩
 .cases es with
  |nil=>cases b with
   |nil=>exact hr
   |cons a r=>cases d
  |cons a r=>rfl
 .rcases D with D|⟨F,c,T,G,I,J,S,Y⟩
  .refine .inl ?_;rw[D]at d;exact ZN d.symm
  .refine .inr ⟨F,c,T,G,I,by rw[<-d];exact J,fun k e A=>?_,fun k e j x A hx=>?_⟩
   .obtain⟨u,y,hb⟩:=h.get k e A;rw[<-hb.length];exact S k u y
   .obtain⟨u,y,hb⟩:=h.get k e A;obtain⟨x0,hd,B⟩:=hb.get j x hx;exact B M N U _ (Y k u j x0 y hd)
abbrev Gi:AO:= .cells [.iv (.v (.slice jp 0 0)),.iv (.v (.slice jp 0 0))]
abbrev Hn(rel:aj)(x:PV):List PV:=((Ly ⟨rel,[]⟩).c.map PV.iv).set 2 x
abbrev Xv:List Term:=[uR Un,uR Vd]
abbrev Xu:List Term:=[uR Vd,uR Um]
abbrev Xj:List Term:=[uR Un,uR Um]
set_option maxHeartbeats 4000000 in
theorem VY:Pure prog 68 [] (ag nM.c):=by
 refine ah ab func68 Z (by decide) ntmps68 Z (by simp) Z ?_;refine gM 9 Z (ki [] (t:=⟨[(0,.ptr 0 0),(1,.sl 1 0 2 1)],[(0,io Gi),(1,io (aG 1 [(1:Int),1] ba))],2⟩) (zW (zO (zS ac))) ?_);refine qw 1 (fun k=>ba ([(1:Int),1].getD k em)) Z (fM Z) (by simp[AF.xQ,PV.db]) (nq Z) ?_
 refine ki (L:=[]) (t:=⟨[(0,.ptr 0 0),(1,.iv (cW 1 [(1:Int),1] ba))],[(0,io Gi)],2⟩) (zM (bv ⟨(by
  show aL (.iv (.dG 1 2 fun k=>ba ([(1:Int),1].getD (0+k) em))) (.iv (cW 1 [(1:Int),1] ba));simp only[Zh]
  exact .refl _),rfl,ac⟩) (zO ac)) ?_
 refine gA Z (zp (IC Un) ?_);refine gA Z (zp (IC Vd) ?_);refine gA Z (zp (IC Vd) ?_);refine gA Z (zp (IC Um) ?_);refine gM 6 Z (ki [] (t:=⟨[(0,.ptr 0 0),(1,.iv (cW 1 [(1:Int),1] ba)),(2,.sl 4 0 2 30)],[(0,io Gi),(2,io (aG 5 Xv Term.c)),(3,io (aG 5 Xu Term.c)),(4,io (.row 30 [Hn nO (.sl 2 0 2 5),Hn vk (.sl 3 0 2 5)]))],5⟩) (zW (zO (zS (zS ⟨⟨_,rfl,T1 ⟨⟨.refl _,.refl _,.refl _,.refl _,.refl _,.refl _,.refl _,.refl _,.refl _,.refl _,.nil _ _,.refl _,.refl _,.refl _,.refl _,.refl _,.refl _,.nil _ _,.refl _,.refl _,.refl _,.refl _,.refl _,.refl _,.refl _,.refl _,.nil _ _,.nil _ _,.refl _,.refl _,ac⟩,⟨.refl _,.refl _,.refl _,.refl _,.refl _,.refl _,.refl _,.refl _,.refl _,.refl _,.nil _ _,.refl _,.refl _,.refl _,.refl _,.refl _,.refl _,.nil _ _,.refl _,.refl _,.refl _,.refl _,.refl _,.refl _,.refl _,.refl _,.nil _ _,.nil _ _,.refl _,.refl _,ac⟩,ac⟩⟩,YP Z,Pr Z,ac⟩)))) ?_);refine qw 2 (fun k=>Term.c (Xv.getD k em)) Z (fM Z) (by simp[AF.xQ,PV.db]) (nq Z) ?_
 refine qw 3 (fun k=>Term.c (Xu.getD k em)) Z (fM Z) (by
  simp[AF.xQ,AF.lK,PV.fj,PV.db];show PV.db 3 5 2 (.sl 4 0 2 30)
  simp[PV.db]) (nq Z) ?_
 refine ki (L:=[]) (t:=⟨[(0,.ptr 0 0),(1,.iv (cW 1 [(1:Int),1] ba)),(2,.sl 4 0 2 30)],[(0,io Gi),(4,io (aG 30 BQ Lit.c))],5⟩) (zW (zO (hR Z (by
  show[Hn nO (.iv (.dG 5 2 fun k=>Term.c (Xv.getD (0+k) em))),Hn vk (.iv (.dG 5 2 fun k=>Term.c (Xu.getD (0+k) em)))]=_
  simp only[Zh];rfl) Z ac))) ?_
 refine qw 4 (fun k=>Lit.c (BQ.getD k em)) Z (fM Z) (by simp[AF.xQ,PV.db,BQ]) (nq Z) ?_
 refine ki (L:=[]) (t:=⟨[(0,.ptr 0 0),(1,.iv (cW 1 [(1:Int),1] ba)),(2,.iv (lits BQ))],[(0,io Gi)],5⟩) (zM (bv (bv ⟨(by
  show aL (.iv (.dG 30 2 fun k=>Lit.c (BQ.getD (0+k) em))) (.iv (lits BQ));simp only[Zh]
  exact .refl _),rfl,ac⟩)) (zO ac)) ?_
 refine gA Z (zp (IC Un) ?_);refine gA Z (zp (IC Um) ?_);refine gM 5 Z (ki [] (t:=⟨[(0,.ptr 0 0),(1,.iv (cW 1 [(1:Int),1] ba)),(2,.iv (lits BQ)),(3,.ptr 6 0)],[(0,io Gi),(5,io (aG 5 Xj Term.c)),(6,io (.cells [pS nO,.sl 5 0 2 5]))],7⟩) (zW (zO (zS (zO ac)))) ?_);refine qw 5 (fun k=>Term.c (Xj.getD k em)) Z (fM Z) (by simp[AF.xQ,PV.db]) (nq Z) ?_
 refine ki (L:=[]) (t:=⟨[(0,.ptr 0 0),(1,.iv (cW 1 [(1:Int),1] ba)),(2,.iv (lits BQ)),(3,.ptr 6 0)],[(0,io Gi),(6,io (an (Atom.c ⟨nO,Xj⟩)))],7⟩) (zW ⟨⟨_,rfl,.of_eq Z⟩,YP Z,rfl,⟨_,rfl,.of_eq (by
  show AO.cells [pS nO,.iv (.dG 5 2 fun k=>Term.c (Xj.getD (0+k) em))]=_
  simp only[Zh];rfl)⟩,YP Z,rfl,ac⟩) ?_
 refine gA Z (rD (.inr Z) Z (lu.KO 7 nM.aD Decl.c Z Z ?_ (lu.KO 8 nM.rules ae.c Z Z ?_ (.done ?_))))
 .simp[PV.db,iR,nM]
 .simp[PV.fj,uv,PV.db,iR,nM];show PV.db 8 5 1 (.sl 8 0 1 5);simp[PV.db]
 .show aL (.agg [.iv (.dG 4 2 fun k=>Decl.c (nM.aD.getD (0+k) em)),.iv (.dG 5 1 fun k=>ae.c (nM.rules.getD (0+k) em))]) (ag nM.c);simp only[Zh];exact .refl _
instance (a b:aj):Decidable (JP a b):=inferInstanceAs (Decidable (pJ a<pJ b))
theorem Uk:ns nM=[vk,nO]:=
 me (fL (show[vk,nO].Nodup by decide)) (by unfold pR;decide+kernel) fun x=>by rw[ns,gn];rfl
theorem Gh:dT nM=aY.z:=by
 delta dT gJ rf nL ringEq jP
 rw[Uk];decide+kernel
theorem BO:ej nM 1=0:=by
 unfold ej;rw[Gh];decide
theorem Ct:nM.fit:=by
 have h: ∀r∈nM.rules,r.size<=10000000∧r.head.ts<=900000000∧ ∀l∈r.body,l.ts<=900000000:=by decide+kernel
 exact⟨by decide+kernel,by decide+kernel,h⟩
theorem xw:nM.size<=2000000:=by decide+kernel
def plA:po:=⟨1,1,[],[⟨1,1,[],YW⟩,⟨1,0,[1],YW⟩]⟩
def V8:po:=⟨1, -1,[Un,Um],[⟨1,0,[0],YW⟩,⟨1,1,[0,1],YW⟩]⟩
theorem Lo:jb nM 1 1=(plA,0):=by
 unfold jb;rw[BO];decide+kernel
theorem LQ:tn nM 1=(V8,0):=by
 unfold tn qx;rw[BO];decide+kernel
theorem Ie:l4 nM V8=kw:=by
 unfold l4;rw[show ej nM V8.mf=0 from BO];decide+kernel
theorem Pj:Pure prog 34 [] (pB kw):=by
 have b:=KG HQ nM 1 1 Ct xw;have d:=TV nM 1 Ct xw;have j:=Pa nM V8 Ct xw (by decide);rw[Lo]at b;rw[LQ]at d;rw[Ie]at j;unfold plA at b;unfold V8 at d j;refine ah ab func34 Z (by decide) ntmps34 Z (by simp) Z ?_;refine gA Z (zp (VY) ?_);refine gA Z (zp (b) ?_);refine gA Z (zp (d) ?_)
 repeat(refine gA Z (zI (fun q=>?_) (fun q=>?_))<;>try(exact absurd q (by decide)))
 refine gA Z (zp (j) ?_)
 repeat(refine gA Z (zI (fun q=>?_) (fun q=>?_))<;>try(exact absurd q (by decide)))
 refine gA Z (zL ?_);exact .of_eq (fO (by decide+kernel))
theorem xv(r:ae)(fstv:Int): ∀(n:Nat) (dn:Nat->Bool) (K:aj->Bool),(fp r fstv n dn K).length<=n
 |0,_,_=>YY _
 |n+1,dn,K=>by
  rw[fp];split
  .exact YZ _
  .rw[Zr];exact Nat.succ_le_succ (xv r fstv n _ _)
theorem vK{r:ae}{fstv:Int}(hf:fstv<r.body.length): ∀(n:Nat) (dn:Nat->Bool) (K:aj->Bool),∀s∈fp r fstv n dn K,s.eW.length<=r.size
 |0,_,_,s,h=>by cases h
 |n+1,dn,K,s,h=>by
  rw[fp]at h;split at h
  .cases h
  .rename_i s0 b;rcases Za.1 h with rfl|h
   .obtain⟨i,_,j,_,d⟩:=DU hf b;have u:=EU d;have x:=Lit.aI r.body i j;have y:=(r.body.getD i em).size_eq;unfold ae.size;omega
   .exact vK hf n _ _ s h
theorem Ha:po.z.fit:=⟨YZ _,YZ _,fun s b=>by cases b⟩
theorem Kg{r:ae}{fstv:Int}{k:List aj}(hf:fstv<r.body.length)(hb:r.size<=2000000)(g:List aj)(hg:g.length<=1000000000)(n f:Int):(po.mk n f g (pW r fstv k)).fit:=by
 have b:r.body.length<=2000000:=by have:=Lit.au r.body;unfold ae.size at hb;omega
 refine⟨hg,?_,fun s d=>?_⟩
 .have:=xv r fstv r.body.length (fun _=>lc) (aE k);show(pW r fstv k).length<=_;unfold pW;omega
 .have:=vK hf _ _ _ s d;omega
theorem Lp(p:Prog)(n fstv:Int)(hs:p.size<=2000000):(jb p n fstv).1.fit:=by
 unfold jb;split
 .exact Ha
 .rename_i b;split
  .exact Ha
  .rename_i d;have j:=oe (abB.1 b);exact Kg (by unfold eA at d;omega) (by omega) [] (by simp) n fstv
theorem Fx(p:Prog)(n fstv:Int)(hb:p.fit)(hs:p.size<=2000000):Pure prog 7 [ag p.c,pI n,pI fstv] (pB kw):=by
 have j:=TR p n fstv hb hs;have u:=KG HQ p n fstv hb hs;have d:=IF (jb p n fstv).1 (jb p n fstv).1 (Lp p n fstv hs);rw[decide_eq_true Z]at d;generalize jb p n fstv=x at j u d;refine ah ab func7 Z (by decide) ntmps7 Z (by simp) Z ?_;refine gA Z (zp (Pj) ?_);refine gA Z (zp (j) ?_);refine gA Z (zp (u) ?_);refine gA Z (zp (d) ?_);refine zE Z Z (fun y=>?_) fun y=>?_
 .exact absurd y (by decide)
 refine zE Z Z (fun b=>?_) fun b=>?_
 .have b:li (x.2=x.2)=lc:=b;simp at b
 refine gA Z (zL ?_);exact .of_eq (fO Z)
end Go.Proofs.YtflegjieadkonaaGreatDoor
