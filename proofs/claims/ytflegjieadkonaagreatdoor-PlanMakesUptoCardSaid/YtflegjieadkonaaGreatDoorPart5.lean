/-
  What the proofs of the claims need: part 5 of 7.
-/
import Derived.Test.YtflegjieadkonaaGreatDoorPart4
open And renaming intro→ZC
open Bool renaming and_assoc→ab4,and_eq_true→Zf,and_false→ZV,eq_false_iff→aaB,eq_iff_iff→ZE,false_and→ZZ,false_eq_true→aaq,false_ne_true→Zx,false_or→Z7,not_eq_false'→aaJ,not_eq_true→aam,not_eq_true'→ZX,not_false→abj,not_true→abh,or_assoc→abQ,or_eq_false_iff→Zq,or_eq_true→aac,or_false→aau,or_true→aa2,true_and→ZH,true_or→abm
open ByteArray renaming empty→YW,ext→acg,size→abG,size_append→ZQ
open Classical renaming byContradiction→Z8
open Decidable renaming not_not→abB
open Int renaming le_refl→aa3,toNat_natCast→Zi
open List renaming all_eq_false→aaE,all_eq_true→Zj,any_cons→abP,any_eq_false→ZL,any_eq_true→ZG,append_assoc→Y3,append_eq_nil_iff→abf,append_nil→Zv,cons_append→aat,drop_eq_getElem_cons→abu,eq_nil_of_length_eq_zero→ZN,ext_getElem?→aaD,filter_append→aa4,find?_append→abA,find?_cons→aaI,find?_eq_none→aak,find?_eq_some_iff_getElem→abd,findIdx?_eq_none_iff→abq,findIdx?_eq_some_iff_getElem→aa6,findSome?_append→abC,findSome?_eq_none_iff→abH,flatMap_cons→ZF,flatMap_nil→abE,foldl_append→aao,foldl_cons→Zn,getD_cons_succ→aag,getD_eq_getElem?_getD→YR,getElem?_append_left→Y9,getElem?_append_right→Ze,getElem?_cons_succ→aaW,getElem?_drop→Z9,getElem?_eq_getElem→YU,getElem?_eq_some_iff→YV,getElem?_map→Y0,getElem?_replicate→aaX,getElem?_set→ZD,getElem?_take→ZS,getElem_mem→Zz,length_append→YS,length_cons→Zr,length_filter_le→Z4,length_map→Zo,length_nil→Z6,length_pos_iff→aaY,length_set→aax,length_singleton→Zs,length_take→ZJ,map_append→YX,map_congr_left→aaf,map_cons→Zd,map_map→aaH,map_nil→ZR,map_set→aaA,mem_append→Y6,mem_append_left→Zt,mem_append_right→aal,mem_cons→Za,mem_cons_of_mem→Y7,mem_cons_self→Y8,mem_filter→Zw,mem_flatMap→aaK,mem_iff_getElem→Z0,mem_map→Zu,mem_of_find?_eq_some→abJ,mem_of_getElem?→Zm,mem_or_eq_of_mem_set→abr,mem_range→ZY,mem_singleton→Y4,mem_take_iff_getElem→abt,nil_append→aaw,nodup_cons→aad,nodup_nil→ZT,not_mem_nil→abn,pairwise_append→aaV,pairwise_cons→aaj,range→Zg,range_succ→aa7,range_succ_eq_map→abg,replicate→aaO,sum_cons→aaF,take_length→aaz,take_of_length_le→Y1,take_succ_cons→aae
open Nat renaming add_assoc→aas,add_mul→Z5,add_zero→aa0,beq→Zk,ble→aaM,ble_eq_true_of_le→Zy,blt→Zb,eq_of_beq_eq_true→Zc,le_add_left→aar,le_of_ble_eq_true→YP,le_refl→YY,le_trans→ZI,lt_succ_iff_lt_or_eq→ZA,lt_succ_of_lt→aav,lt_succ_self→aai,not_lt_zero→Z3,strongRecOn→abx,sub_self→abT,succ_mul→aaN,zero_add→Zh,zero_le→YZ
open Option renaming getD_some→aah,map_eq_some_iff→Y2,map_some→ZW
open Option.some renaming injEq→YT
open Prod renaming fst→Zl
open Prod.mk renaming injEq→Y5
set_option maxRecDepth 100000
open Bool renaming false→lc,true→kw
open Decidable renaming decide→li
open Inhabited renaming default→em
open Option renaming none→jp,some→io
open Array renaming getD_eq_getD_getElem?→YQ
open Array renaming range→abK
open Array renaming getElem?_map→abe
open Array renaming getElem?_eq_getElem→ZM
open Nat renaming mul_le_mul_right→Zp
open Array renaming getElem?_append_left→ZU
open Array renaming getElem?_toList→Z2
namespace Go.Proofs.YtflegjieadkonaaGreatDoor
open Go Go.Al
section
theorem Cr{α:Type}{f:Nat->Option α}{n:Nat}(h: ∀j,j<n->f j=jp):(Zg n).findSome? f=jp:=by
 rw[abH];exact fun x b=>h x (ZY.1 b)
theorem Ga{α:Type}{f:Nat->Option α}{i:Nat}{s:α}(h: ∀j,j<i->f j=jp)(hs:f i=io s): ∀{n:Nat},i<n->(Zg n).findSome? f=io s
 |n+1,hi=>by
  rw[aa7,abC];rcases ZA.1 hi with hi|hi
  .rw[Ga h hs hi];rfl
  .subst hi;rw[Cr h];simp[hs]
section
variable (K:aj->Bool) (r:ae) (dn:Nat->Bool)
def kU(i:Nat):Int×Int:=(Zg i).foldl (su K r dn) (-1, -1)
theorem yM(i:Nat):kU K r dn (i+1)=su K r dn (kU K r dn i) i:=by
 unfold kU;rw[aa7,aao];rfl
end
set_option maxHeartbeats 1000000 in
theorem KJ(r:ae)(D:List Bool)(fstv:Int)(k:List aj)(hD:D.length=r.body.length)(hf:fstv<r.body.length)(hb:r.size<=10000000):
  bV Tryz.prog 106 [ag r.c,.sl 0 0 r.body.length 1,pI fstv,.iv (strs k)] [aG 1 D bD] (zt (iY (aE k) r (pM D) fstv)) [(0,io (aG 1 D bD))] 1:=by
 have f0:r.body.length<=10000000:=by have:=Lit.au r.body;unfold ae.size at hb;omega
 have b0: ∀i,i<r.body.length->(r.body.getD i em).size<=10000000:=fun i hi=>by have:=Lit.aI r.body i hi;unfold ae.size at hb;omega
 refine aB ab Tryz.func106 Z (by decide) Tryz.ntmps106 Z (by simp) ?_;refine gA Z ?_;refine az 0 r.body.length (YZ _) (fun i=>⟨[(1,.sl 0 0 r.body.length 1),(2,pI fstv),(3,.iv (strs k)),(4,.ptr 1 0),(8,.ptr 2 0),(10,pI i)],[(0,io (aG 1 D bD)),(1,io (an r.c)),(2,io (an Lh))],3⟩) (fun i=> ∀j,j<i->jS (aE k) r (pM D) j=jp) [] (fun j hj=>absurd hj (Z3 j))
  (zW (zS (zK (zK trivial)))) fun i hi hJ=>?_
 refine zJ Z Z (fun I=>?_) fun I=>?_
 .have I:=ci I;have A:jS (aE k) r (pM D) i=jp-> ∀j,j<i+1->jS (aE k) r (pM D) j=jp:=fun h j hj=>by
   rcases ZA.1 hj with hj|hj
   .exact hJ j hj
   .subst hj;exact h
  refine gM 8 Z (bp ab Z Z Z Z Z (gy (l:=D) (f:=bD) (i:=i) (by omega)) Z Z ?_);refine zE Z Z (fun x=>?_) fun x=>?_
  .have x:pM D i=kw:=by
    have x:(!D.getD i em)=lc:=x;simpa using x
   refine gA Z ⟨I,A (by unfold jS;rw[x];rfl),[],zW (zS (zK (zK ac)))⟩
  have x:pM D i=lc:=by
   have x:(!D.getD i em)=kw:=x;simpa using x
  refine zE Z Z (fun B=>?_) fun B=>?_
  .have B:(r.body.getD i em).kind=1:=zY B;refine gA Z ⟨I,A (by unfold jS;exact be (by rw[decide_eq_false (not_not_intro B),ZV];exact Zx)),[],zW (zS (zK (zK ac)))⟩
  have B: ¬(r.body.getD i em).kind=1:=zX B;have ht:jS (aE k) r (pM D) i=iu (aE k) r i:=by unfold jS;exact am (by rw[x,decide_eq_true B];rfl)
  have S:=KK r i k I hb;cases hk:iu (aE k) r i with
  |none=>
   rw[hk]at S ht;refine gA Z (zp (S) ?_);refine zJ Z Z (fun F=>?_) fun F=>?_
   .exact absurd F (by decide)
   refine gA Z ?_;exact⟨I,A ht,[],zW (zS (zK (zK ac)))⟩
  |some s=>
   rw[hk]at S ht;refine gA Z (zp (S) ?_);refine zE Z Z (fun F=>?_) fun F=>?_
   .exact absurd F (show¬(kw=lc) by decide)
   have hn:iY (aE k) r (pM D) fstv=io s:=by unfold iY;rw[Ga hJ ht I]
   rw[hn];refine gA Z (zD [] Z (zW (zS ac)))
 have I:=co I;have y:iY (aE k) r (pM D) fstv=if 0<=fstv∧pM D fstv.toNat=lc then iu (aE k) r fstv.toNat
   else if(qS (aE k) r (pM D)).1<0 then jp else iu (aE k) r (qS (aE k) r (pM D)).1.toNat:=by
  unfold iY;rw[Cr fun j hj=>hJ j (by omega)]
 refine gM 1 Z (go_cut 1 (fun(_:{u:Unit// ¬(0<=fstv∧pM D fstv.toNat=lc)})=>⟨[(1,.sl 0 0 r.body.length 1),(3,.iv (strs k)),(4,.ptr 1 0),(8,.ptr 2 0)],[(0,io (aG 1 D bD)),(1,io (an r.c)),(2,io (an Lh))],3⟩) Z ?_ ?_)
 .refine zE Z Z (fun Y=>?_) fun Y=>?_
  .have Y: ¬0<=fstv:=by have:=zF Y;omega
   refine gA Z (fy ⟨(),fun g=>Y g.1⟩ [] ?_);exact zW (zS (zK (zK ac)))
  have Y:0<=fstv:=by have:=zT Y;omega
  refine gM 6 Z (bp ab Z Z Z Z Z (gy (l:=D) (f:=bD) (i:=fstv.toNat) (by omega)) Z Z ?_);refine zE Z Z (fun G=>?_) fun G=>?_
  .have G:pM D fstv.toNat=kw:=by
    have G:(!D.getD fstv.toNat em)=lc:=G;simpa using G
   refine gA Z (fy ⟨(),fun g=>by rw[G]at g;exact nomatch g.2⟩ [] ?_);exact zW (zS (zK (zK ac)))
  have G:pM D fstv.toNat=lc:=by
   have G:(!D.getD fstv.toNat em)=kw:=G;simpa using G
  rw[am ⟨Y,G⟩]at y;have S:=KK r fstv.toNat k (by omega) hb;rw[Int.toNat_of_nonneg Y]at S;rw[y];refine gA Z (zp (S) ?_);refine gA Z (Qy (fun h=>nomatch h) (eV [] (.inr Z) Z (zW (zS ac))))
 rintro⟨_,hno⟩;rw[be hno]at y;refine gA Z ?_;refine az 0 r.body.length (YZ _) (fun i=>⟨[(1,.sl 0 0 r.body.length 1),(3,.iv (strs k)),(4,.ptr 1 0),(8,.ptr 2 0),(13,pI (kU (aE k) r (pM D) i).1),(14,pI (kU (aE k) r (pM D) i).2),(15,pI i)],[(0,io (aG 1 D bD)),(1,io (an r.c)),(2,io (an Lh))],3⟩) (fun _=>True) [] ac
  (zW (zS (zK (zK trivial)))) fun i hi _=>?_
 refine zJ Z Z (fun J=>?_) fun J=>?_
 .have J:=ci J;have i0:=b0 i J;have g0:=(r.body.getD i em).size_eq;have d:=yM (aE k) r (pM D) i;unfold su at d;refine gM 8 Z (bp ab Z Z Z Z Z (gy (l:=D) (f:=bD) (i:=i) (by omega)) Z Z ?_);refine zE Z Z (fun x=>?_) fun x=>?_
  .have x:pM D i=kw:=by
    have x:(!D.getD i em)=lc:=x;simpa using x
   rw[be (fun g=>by rw[x]at g;exact nomatch g.1)]at d;refine gA Z ⟨J,ac,[],zM (bv (bv (bv (bv ⟨.of_eq (by rw[d];rfl),rfl,.of_eq (by rw[d];rfl),rfl,bv ac⟩)))) (zS (zK (zK ac)))⟩
  have x:pM D i=lc:=by
   have x:(!D.getD i em)=kw:=x;simpa using x
  refine zE Z Z (fun B=>?_) fun B=>?_
  .have B: ¬(r.body.getD i em).kind=1:=zF B;rw[be (fun g=>by rw[decide_eq_false B,ZV]at g;exact nomatch g.1)]at d;refine gA Z ⟨J,ac,[],zM (bv (bv (bv (bv ⟨.of_eq (by rw[d];rfl),rfl,.of_eq (by rw[d];rfl),rfl,bv ac⟩)))) (zS (zK (zK ac)))⟩
  have B:(r.body.getD i em).kind=1:=zT B;refine gA Z (zp (KH (r.body.getD i em).atom k (by omega)) ?_);refine zJ Z Z (fun F=>?_) fun F=>?_
  .have F:((jg (aE k) (r.body.getD i em).atom).length:Int)>(kU (aE k) r (pM D) i).2:=zT F;rw[am ⟨by rw[x,decide_eq_true B];rfl,F⟩]at d;refine gA Z ⟨J,ac,[],zM (bv (bv (bv (bv ⟨.of_eq (by rw[d];rfl),rfl,.of_eq (by rw[d];rfl),rfl,bv ac⟩)))) (zS (zK (zK ac)))⟩
  .have F: ¬((jg (aE k) (r.body.getD i em).atom).length:Int)>(kU (aE k) r (pM D) i).2:=zF F;rw[be (fun g=>F g.2)]at d;refine gA Z ⟨J,ac,[],zM (bv (bv (bv (bv ⟨.of_eq (by rw[d];rfl),rfl,.of_eq (by rw[d];rfl),rfl,bv ac⟩)))) (zS (zK (zK ac)))⟩
 have J:=co J;have e0:i=r.body.length:=by omega
 subst e0;have c0:qS (aE k) r (pM D)=kU (aE k) r (pM D) r.body.length:=rfl;have a0:=CH (aE k) r (pM D) (Zg r.body.length) (-1, -1);rw[show(Zg r.body.length).foldl (su (aE k) r (pM D)) (-1, -1)=kU (aE k) r (pM D) r.body.length from rfl]at a0;rw[c0]at y;generalize kU (aE k) r (pM D) r.body.length=best at y a0 ⊢;refine zJ Z Z (fun g1=>?_) fun g1=>?_
 .have g1:best.1<0:=zT g1;rw[am g1]at y;rw[y];refine gA Z (zD [] Z (zM ⟨Hg,rfl,ac⟩ (zS ac)))
 .have g1: ¬best.1<0:=zF g1;rw[be g1]at y;rcases a0 with h|⟨b,d0,h,_⟩
  .exact absurd (show best.1<0 by rw[h];decide) g1
  have S:=KK r b k (ZY.1 d0) hb;rw[<-h]at S;rw[h,Zi]at y;rw[y];refine gA Z (zp (S) ?_);refine gA Z (zD [] Z (zW (zS ac)))
end
section
def oA(dm:WD)(i:Nat):Bool:=li (bU (.int .i64) dm (i:Int) 0>0)
def rY(fstv:Int)(b:Option dz)(i:Nat)(s:dz):Bool:=match b with
 |none=>kw
 |some t=>li ((i:Int)=fstv)||(!li (t.lit=fstv)&&li ((s.eW.length:Int)>t.eW.length))
section
variable (C:Nat->Option dz) (r:ae) (dn:Nat->Bool) (fstv:Int)
def tB(b:Option dz)(i:Nat):Option dz:=if dn i=kw then b else match C i with
 |none=>b
 |some s=>if rY fstv b i s=kw then io s else b
def testW(i:Nat):Option dz:=if !dn i&&li ((r.body.getD i em).kind≠1) then C i else jp
def iw(i:Nat):Option dz:=(Zg i).foldl (tB C dn fstv) jp
def xX:Option dz:=match(Zg r.body.length).findSome? (testW C r dn) with
 |some s=>io s
 |none=>iw C dn fstv r.body.length
theorem qT(i:Nat):iw C dn fstv (i+1)=tB C dn fstv (iw C dn fstv i) i:=by
 unfold iw;rw[aa7,aao];rfl
end
def W7(b:Option dz):List IV:=match b with
 |none=>Lh
 |some t=>t.c
abbrev nxF(r:ae)(fstv:Int)(b:Option dz)(i:Nat):AF:=[(0,.ptr 0 0),(1,pI fstv),(4,.ptr 3 0),(6,.ptr 4 0),(7,pB b.isSome),(16,.iv (lits r.body)),(17,pI r.body.length),(18,pI i)]
abbrev nxH(r:ae)(b:BM)(d:List aj)(dm:WD)(c:List IV):AH:=[(0,io (wO r (zc b))),(1,io (ct (aC d))),(2,io (xb dm)),(3,io (an Lh)),(4,io (an c))]
set_option maxHeartbeats 2000000 in
theorem TQ(r:ae)(B:BM)(G:List aj)(dm:WD)(fstv:Int)(hb:r.size<=10000000)(b0: ∀i:Int,(bU (.int .i64) B i []).length<=1000000000):
  bV Tryz.prog 109 [.ptr 0 0,pI fstv] (Nk r (zc B) G dm) (zt (xX (fun i=>lz (aE G) B (r.body.getD i em) i) r (oA dm) fstv)) (wH r (zc B) G dm) 3:=by
 have d0:r.body.length<=10000000:=by have:=Lit.au r.body;unfold ae.size at hb;omega
 generalize Y:(fun i:Nat=>lz (aE G) B (r.body.getD i em) i)=C;have a0: ∀i,C i=lz (aE G) B (r.body.getD i em) i:=fun i=>by rw[<-Y]
 refine aB ab Tryz.func109 Z (by decide) Tryz.ntmps109 Z (by simp) ?_;refine gA Z ?_;refine uq 0 r.body.length (YZ _) (fun i (b:Option dz)=>⟨nxF r fstv b i,nxH r B G dm (W7 b),5⟩) (fun i b=>b=iw C (oA dm) fstv i∧ ∀j,j<i->testW C r (oA dm) j=jp) jp [] ⟨rfl,fun j hj=>absurd hj (Z3 j)⟩
  (zM (bv (bv (bv (bv ⟨.rz Z,rfl,bv (bv (bv trivial))⟩)))) (zH (zK (zK trivial)))) fun i b hi hJ=>?_
 obtain⟨I,D⟩:=hJ;refine zE Z Z (fun x=>?_) fun x=>?_
 .have x:r.body.length<=i:=by have:=zF x;omega
  have c0:i=r.body.length:=by omega
  subst c0;have hn:xX C r (oA dm) fstv=b:=by unfold xX;rw[Cr D,I]
  rw[hn];cases b with
  |none=>
   refine gA Z (zD [] Z (zM ⟨Hg,rfl,ac⟩ (zH ac)))
  |some t=>
   refine gA Z (zD [] Z (zW (zH ac)))
 have x:i<r.body.length:=by have:=zT x;omega
 have u:testW C r (oA dm) i=jp-> ∀j,j<i+1->testW C r (oA dm) j=jp:=fun h j hj=>by
  rcases ZA.1 hj with hj|hj
  .exact D j hj
  .subst hj;exact h
 have d:=qT C (oA dm) fstv i;rw[<-I]at d;refine zJ Z Z (fun y=>?_) fun y=>?_
 .have y:oA dm i=kw:=y;refine gA Z ⟨x,b,[],⟨by rw[d];unfold tB;rw[am y],u (by unfold testW;rw[y];rfl)⟩,zW (zH (zK (zK ac)))⟩
 have y:oA dm i=lc:=y;have d:iw C (oA dm) fstv (i+1)=match C i with
   |none=>b
   |some s=>if rY fstv b i s=kw then io s else b:=by rw[d];unfold tB;rw[be (by rw[y];exact Zx)]
 have J:=Sz r B G dm i x hb (b0 i);rw[<-a0 i]at J;cases hk:C i with
 |none=>
  rw[hk]at J d;refine gA Z (bI [0,1,2] J Z Z Z Z Z Z Z Z ?_);refine zJ Z Z (fun S=>?_) fun S=>?_
  .refine gA Z ?_;exact⟨x,b,[],⟨d.symm,u (by unfold testW;rw[hk];split<;>rfl)⟩,zW (zH (zK (zK ac)))⟩
  .exact absurd S (show¬((!lc)=lc) by decide)
 |some s=>
  rw[hk]at J d;refine gA Z (bI [0,1,2] J Z Z Z Z Z Z Z Z ?_);refine zJ Z Z (fun S=>?_) fun S=>?_
  .exact absurd S (show¬((!kw)=kw) by decide)
  refine zJ Z Z (fun A=>?_) fun A=>?_
  .have A:(r.body.getD i em).kind≠1:=by
    have A:(!li ((r.body.getD i em).kind=1))=kw:=A;simpa using A
   have F:testW C r (oA dm) i=io s:=by unfold testW;rw[y,decide_eq_true A,hk];rfl
   have hn:xX C r (oA dm) fstv=io s:=by unfold xX;rw[Ga D F x]
   rw[hn];refine gA Z (zD [] Z (zW (zH ac)))
  have A:(r.body.getD i em).kind=1:=zY A;have F:testW C r (oA dm) i=jp:=by unfold testW;rw[decide_eq_false (not_not_intro A),ZV];rfl
  have d:iw C (oA dm) fstv (i+1)=if rY fstv b i s=kw then io s else b:=d;cases b with
  |none=>
   have d:iw C (oA dm) fstv (i+1)=io s:=d;refine zJ Z Z (fun g1=>?_) fun g1=>?_
   .exact absurd g1 (show¬((!lc)=lc) by decide)
   refine gA Z ?_;exact⟨x,io s,[],⟨d.symm,u F⟩,zM (bv (bv (bv (bv ⟨.rz Z,rfl,bv (bv (bv ac))⟩)))) (zH (zK (zK ac)))⟩
  |some t=>
   have d:iw C (oA dm) fstv (i+1)=if(li ((i:Int)=fstv)||(!li (t.lit=fstv)&&li ((s.eW.length:Int)>t.eW.length)))=kw then io s else io t:=d;refine zE Z Z (fun g1=>?_) fun g1=>?_
   .exact absurd g1 (show¬((!kw)=kw) by decide)
   refine zE Z Z (fun g2=>?_) fun g2=>?_
   .have g2:li ((i:Int)=fstv)=kw:=g2;rw[am (by rw[g2];rfl)]at d;refine gA Z ⟨x,io s,[],⟨d.symm,u F⟩,zM (bv (bv (bv (bv ⟨.rz Z,rfl,bv (bv (bv ac))⟩)))) (zH (zK (zK ac)))⟩
   have g2:li ((i:Int)=fstv)=lc:=g2;refine zE Z Z (fun g3=>?_) fun g3=>?_
   .have g3:(!li (t.lit=fstv))=lc:=g3;rw[be (by rw[g2,g3];exact Zx)]at d;refine gA Z ⟨x,io t,[],⟨d.symm,u F⟩,zW (zH (zK (zK ac)))⟩
   have g3:(!li (t.lit=fstv))=kw:=g3;refine zJ Z Z (fun g4=>?_) fun g4=>?_
   .have g4:li ((s.eW.length:Int)>t.eW.length)=kw:=g4;rw[am (by rw[g2,g3,g4];rfl)]at d;refine gA Z ⟨x,io s,[],⟨d.symm,u F⟩,zM (bv (bv (bv (bv ⟨.rz Z,rfl,bv (bv (bv ac))⟩)))) (zH (zK (zK ac)))⟩
   .have g4:li ((s.eW.length:Int)>t.eW.length)=lc:=g4;rw[be (by rw[g2,g3,g4];exact Zx)]at d;refine gA Z ⟨x,io t,[],⟨d.symm,u F⟩,zW (zH (zK (zK ac)))⟩
end
section
theorem Ex{α:Type}{f g:Nat->Option α}: ∀{n:Nat},(∀i,i<n->f i=g i)->(Zg n).findSome? f=(Zg n).findSome? g
 |0,_=>rfl
 |n+1,h=>by
  rw[aa7,abC,abC,Ex fun i b=>h i (by omega)];simp[h n (aai n)]
def Cu(r:ae)(fstv:Int):Prop:=fstv= -1∨ ∃f:Nat,fstv=f∧f<r.body.length∧(r.body.getD f em).kind=1
section
variable {K:aj->Bool} {r:ae} {dn:Nat->Bool} {fstv:Int} {C:Nat->Option dz}
def GS(K:aj->Bool)(r:ae)(i:Nat):dz:=⟨1,i,jg K (r.body.getD i em).atom,YW⟩
theorem uD{i:Nat}(h:(r.body.getD i em).kind=1):iu K r i=io (GS K r i):=by
 unfold iu uF;rw[am h];rfl
theorem MM{i:Nat}(b:jS K r dn i=jp)(hd:dn i=lc)(h: ¬(r.body.getD i em).kind=1):iu K r i=jp:=by
 unfold jS at b;rwa[am (by rw[hd,decide_eq_true h];rfl)]at b
theorem MQ(hC: ∀i,i<r.body.length->C i=iu K r i)(hn: ∀i,i<r.body.length->jS K r dn i=jp)(D: ¬(0<=fstv∧dn fstv.toNat=lc)): ∀m,m<=r.body.length->
  (iw C dn fstv m=jp∧kU K r dn m=(-1, -1))∨ ∃j:Nat,j<m∧dn j=lc∧(r.body.getD j em).kind=1∧iw C dn fstv m=io (GS K r j)∧kU K r dn m=((j:Int),((jg K (r.body.getD j em).atom).length:Int))
 |0,_=> .inl ⟨rfl,rfl⟩
 |m+1,hm=>by
  have y: ∀j:Nat,dn j=lc-> ¬(j:Int)=fstv:=fun j hd e=>D ⟨by omega,by rw[<-e,Zi];exact hd⟩;have d:=qT C dn fstv m;have u:=yM K r dn m;unfold tB at d;unfold su at u;have G:=MQ hC hn D m (by omega);have F:iw C dn fstv (m+1)=iw C dn fstv m->kU K r dn (m+1)=kU K r dn m->((iw C dn fstv (m+1)=jp∧kU K r dn (m+1)=(-1, -1))∨ ∃j:Nat,j<m+1∧dn j=lc∧(r.body.getD j em).kind=1∧iw C dn fstv (m+1)=io (GS K r j)∧kU K r dn (m+1)=((j:Int),((jg K (r.body.getD j em).atom).length:Int))):=fun a b=>G.imp (fun h=>⟨a.trans h.1,b.trans h.2⟩) (fun⟨j,h0,h3,h4,h5,h6⟩=>⟨j,aav h0,h3,h4,a.trans h5,b.trans h6⟩);by_cases hd:dn m=kw
  .rw[am hd]at d;rw[be (by rw[hd];exact fun h=>nomatch h.1)]at u;exact F d u
  have hd:dn m=lc:=by simpa using hd
  rw[be (by rw[hd];exact Zx),hC m (by omega)]at d;by_cases x:(r.body.getD m em).kind=1
  .rw[uD x]at d;have B:=y m hd;right;rcases G with⟨i1,i2⟩|⟨j,i0,i1,i2,i3,i4⟩
   .rw[i1]at d;rw[i2,am ⟨by rw[hd,decide_eq_true x];rfl,show((jg K (r.body.getD m em).atom).length:Int)> -1 by omega⟩]at u;exact⟨m,aai m,hd,x,d,u⟩
   .have I:rY fstv (io (GS K r j)) m (GS K r m)=li (((jg K (r.body.getD m em).atom).length:Int)>(jg K (r.body.getD j em).atom).length):=by
     unfold rY;show(li ((m:Int)=fstv)||(!li ((j:Int)=fstv)&&decide _))=_;rw[decide_eq_false B,decide_eq_false (y j i1)];rfl
    rw[i3]at d;have d:iw C dn fstv (m+1)=if rY fstv (io (GS K r j)) m (GS K r m)=kw then io (GS K r m) else io (GS K r j):=d;rw[I]at d;rw[i4]at u;by_cases A:((jg K (r.body.getD m em).atom).length:Int)>(jg K (r.body.getD j em).atom).length
    .rw[am (decide_eq_true A)]at d;rw[am ⟨by rw[hd,decide_eq_true x];rfl,A⟩]at u;exact⟨m,aai m,hd,x,d,u⟩
    .rw[be (by rw[decide_eq_false A];exact Zx)]at d;rw[be (fun g=>A g.2)]at u;exact⟨j,aav i0,i1,i2,d,u⟩
  .rw[MM (hn m (by omega)) hd x]at d;rw[be (by rw[decide_eq_false x,ZV];exact fun h=>nomatch h.1)]at u;exact F d u
theorem MR(hC: ∀i,i<r.body.length->C i=iu K r i){f:Nat}(b:fstv=f)(hd:dn f=lc)(d:(r.body.getD f em).kind=1): ∀m,m<=r.body.length->f<m->iw C dn fstv m=io (GS K r f)
 |0,_,h=>absurd h (Z3 f)
 |m+1,hm,hfm=>by
  rw[qT];rcases ZA.1 hfm with h|h
  .rw[MR hC b hd d m (by omega) h];unfold tB;split
   .rfl
   .cases C m with
    |none=>rfl
    |some s=>
     show(if rY fstv (io (GS K r f)) m s=kw then io s else io (GS K r f))=_;rw[be];unfold rY;show¬(li ((m:Int)=fstv)||(!li ((f:Int)=fstv)&&_))=kw;rw[decide_eq_false (by omega),decide_eq_true b.symm];exact Zx
  .subst h;unfold tB;rw[be (by rw[hd];exact Zx),hC f (by omega),uD d];show(if rY fstv _ f (GS K r f)=kw then io (GS K r f) else _)=_;rw[am];unfold rY;split
   .rfl
   .rw[decide_eq_true b.symm];rfl
theorem Li(hC: ∀i,i<r.body.length->C i=iu K r i)(hf:Cu r fstv):xX C r dn fstv=iY K r dn fstv:=by
 have B:(Zg r.body.length).findSome? (testW C r dn)=(Zg r.body.length).findSome? (jS K r dn):=Ex fun i y=>by
  unfold testW jS;rw[hC i y]
 unfold xX iY;rw[B];cases hs:(Zg r.body.length).findSome? (jS K r dn) with
 |some s=>rfl
 |none=>
  have A: ∀i,i<r.body.length->jS K r dn i=jp:=fun i y=>abH.1 hs i (ZY.2 y);dsimp only;by_cases b:0<=fstv∧dn fstv.toNat=lc
  .rw[am b];rcases hf with rfl|⟨f,rfl,hfl,d⟩
   .exact absurd b.1 (by decide)
   .have hd:dn f=lc:=b.2;rw[MR hC Z hd d _ (YY _) hfl];exact(uD d).symm
  .rw[be b];have hb:qS K r dn=kU K r dn r.body.length:=rfl;rw[hb];rcases MQ hC A b r.body.length (YY _) with⟨u,x⟩|⟨j,_,_,d,u,x⟩
   .rw[u,x];rfl
   .rw[u,x,be (by show¬(j:Int)<0;omega)];exact(uD d).symm
end
end
end Go.Proofs.YtflegjieadkonaaGreatDoor
namespace Go.Proofs.YtflegjieadkonaaGreatDoor
open Go Go.Al Go.Proofs.Tryz
abbrev pU(n:Int):PV:= .iv (.v (.int .u8 n))
def gT(c:Int):Bool:=li (c>=97)&&li (c<=122)
def tA(c:Int):Bool:=li (c>=65)&&li (c<=90)
def Gf(c:Int):Bool:=(li (c>=48)&&li (c<=57))||decide (c=95)
theorem W4(c:Int):Pure prog 206 [pU c] (pB (gT c)):=by
 refine ah ab func206 Z (by decide) ntmps206 Z (by simp) Z ?_
 repeat' (first|(refine gA Z (zI (fun _=>?_) (fun _=>?_)))|(refine gA Z (zL (.of_eq ?_))))
 all_goals(refine(fO ?_:pB _=pB _);simp_all [gT];try omega)
theorem Yq(c:Int):Pure prog 231 [pU c] (pB (tA c)):=by
 refine ah ab func231 Z (by decide) ntmps231 Z (by simp) Z ?_
 repeat' (first|(refine gA Z (zI (fun _=>?_) (fun _=>?_)))|(refine gA Z (zL (.of_eq ?_))))
 all_goals(refine(fO ?_:pB _=pB _);simp_all [tA];try omega)
theorem Yr(c:Int):Pure prog 230 [pU c] (pB (Gf c)):=by
 refine ah ab func230 Z (by decide) ntmps230 Z (by simp) Z ?_
 repeat' (first|(refine gA Z (zI (fun _=>?_) (fun _=>?_)))|(refine gA Z (zL (.of_eq ?_))))
 all_goals(refine(fO ?_:pB _=pB _);simp_all [Gf];try omega)
theorem Hc(b:UInt8):okB b=(Gf (b.toNat:Int)||(gT (b.toNat:Int)||tA (b.toNat:Int))):=by
 unfold okB Nn Gf gT tA;rw[ZE];simp only[aac,Zf,decide_eq_true_iff];omega
def cA(s:aj)(i:Nat):UInt8:=s.data.toList.getD i 0
def fG(s:aj):Bool:=li (1<=s.size)&&(li (s.size<=32)&&(Zg s.size).all fun i=>li (i=0)||okB (cA s i))
theorem G3{s:aj}(h0: ¬s.size<1)(h1: ¬s.size>32)(h: ∀j,1<=j->j<s.size->okB (cA s j)=kw):fG s=kw:=by
 unfold fG;rw[decide_eq_true (show 1<=s.size by omega),decide_eq_true (show s.size<=32 by omega),ZH,ZH,Zj];intro j b;by_cases d:j=0
 .simp[d]
 .rw[h j (by omega) (ZY.1 b)];simp
theorem G4{s:aj}{j:Nat}(hj:1<=j)(h1:j<s.size)(h:okB (cA s j)=lc):fG s=lc:=by
 rw[<-aam];intro b;unfold fG at b;simp only[Zf,Zj]at b;have:=b.2.2 j (ZY.2 h1);rw[h,decide_eq_false (by omega)]at this;cases this
theorem c99(s:aj):Pure prog 204 [pS s] (pB (fG s)):=by
 refine ah ab func204 Z (by decide) ntmps204 Z (by simp) Z ?_;refine zE Z Z (fun g1=>?_) fun g1=>?_
 .have g1:s.size<1:=by
   have:=zT (show li ((s.size:Int)<1)=kw from g1);omega
  refine gA Z (zL (.of_eq ?_));refine(fO ?_:pB lc=_);unfold fG;rw[decide_eq_false (show¬1<=s.size by omega)];rfl
 have g1: ¬s.size<1:=by
  have:=zF (show li ((s.size:Int)<1)=lc from g1);omega
 refine zJ Z Z (fun g2=>?_) fun g2=>?_
 .have g2:s.size>32:=by
   have:=zT (show li ((s.size:Int)>32)=kw from g2);omega
  refine gA Z (zL (.of_eq ?_));refine(fO ?_:pB lc=_);unfold fG;rw[decide_eq_false (show¬s.size<=32 by omega)];simp
 have g2: ¬s.size>32:=by
  have:=zF (show li ((s.size:Int)>32)=lc from g2);omega
 refine gA Z ?_;refine az 1 s.size (by omega) (fun i=>⟨[(0,pS s),(3,pI i)],[],0⟩) (fun i=>1<=i∧ ∀j,1<=j->j<i->okB (cA s j)=kw) [] ⟨YY _,fun j d J=>by omega⟩ (mW Z Z (bv (bv ac)) Z) fun i S D=>?_;obtain⟨F,D⟩:=D;refine zJ Z Z (fun d=>?_) fun d=>?_
 .have d:=ci d;have u:=Hc (cA s i);have x:okB (cA s i)=kw-> ∀j,1<=j->j<i+1->okB (cA s j)=kw:=fun h j a b=>by
   by_cases I:j=i
   .subst I;exact h
   .exact D j a (by omega)
  refine gA Z (zp (Yr ((cA s i).toNat:Int)) ?_);refine gA Z (zp (W4 ((cA s i).toNat:Int)) ?_);refine gA Z (zp (Yq ((cA s i).toNat:Int)) ?_);refine zJ Z Z (fun y=>?_) fun y=>?_
  .have y:Gf ((cA s i).toNat:Int)=lc:=by simpa using y
   refine zJ Z Z (fun A=>?_) fun A=>?_
   .have A:gT ((cA s i).toNat:Int)=lc:=by simpa using A
    refine zJ Z Z (fun B=>?_) fun B=>?_
    .have B:tA ((cA s i).toNat:Int)=lc:=by simpa using B
     rw[y,A,B]at u;rw[G4 F d u];exact zU Z
    .have B:tA ((cA s i).toNat:Int)=kw:=by simpa using B
     rw[B]at u;refine gA Z ⟨d,⟨by omega,x (by rw[u];simp)⟩,[],mW Z Z (bv (bv ac)) Z⟩
   .have A:gT ((cA s i).toNat:Int)=kw:=by simpa using A
    rw[A]at u
    repeat(refine gA Z (zI (fun q=>?_) (fun q=>?_));all_goals(try(simp at q;done)))
    refine gA Z ⟨d,⟨by omega,x (by rw[u];simp)⟩,[],mW Z Z (bv (bv ac)) Z⟩
  .have y:Gf ((cA s i).toNat:Int)=kw:=by simpa using y
   rw[y]at u
   repeat(refine gA Z (zI (fun q=>?_) (fun q=>?_));all_goals(try(simp at q;done)))
   refine gA Z ⟨d,⟨by omega,x (by rw[u];simp)⟩,[],mW Z Z (bv (bv ac)) Z⟩
 .have d:=co d;have G:i=s.size:=by omega
  subst G;rw[G3 g1 g2 D];exact zU Z
theorem YE(s:aj):Pure prog 205 [pS s] (pB (Du s)):=by
 refine ah ab func205 Z (by decide) ntmps205 Z (by simp) Z ?_
 repeat' (first|(refine gA Z (zI (fun _=>?_) (fun _=>?_)))|(refine gA Z (zL (.of_eq ?_))))
 all_goals(refine(fO ?_:pB _=pB _))
 all_goals(simp only[Du,Px,abP,List.any_nil, *];rfl)
theorem u5(s:aj)(h:fG s=kw):pq s 97 122=gT (hd s):=by
 unfold fG at h;simp only[Zf,Zj,decide_eq_true_iff]at h;obtain⟨y,B,D⟩:=h;have u: ¬s=⟨#[]⟩:=fun e=>by rw[e]at y;exact absurd y (by decide)
 unfold pq gT;rw[decide_eq_false u,decide_eq_true B,abj,ZH,ZH];rw[ZE];simp only[Zf,decide_eq_true_iff,Zj];constructor
 .rintro⟨a,b,_⟩;exact⟨a,b⟩
 .rintro⟨a,b⟩;refine⟨a,b,fun x F=>?_⟩;obtain⟨j,A,rfl⟩:=Z0.1 F;have d:j<s.size:=by simpa using A
  have:=D j (ZY.2 d);rw[aac,decide_eq_true_iff]at this;have hb:cA s j=s.data.toList[j]:=by
   unfold cA;rw[YR,YU A];rfl
  rcases this with rfl|this
  .rw[<-hb,Hc];have:hd s=((cA s 0).toNat:Int):=rfl;rw[<-this];have:gT (hd s)=kw:=by unfold gT;simp[a,b]
   rw[this];simp
  .rw[<-hb];exact this
theorem u4(s:aj)(A hi:Int)(h:fG s=lc):pq s A hi=lc:=by
 rw[<-aam];intro u;rw[<-aam]at h;apply h;unfold pq at u;simp only[Zf,Zj,decide_eq_true_iff]at u;obtain⟨x,B,_,_,y⟩:=u;have F:1<=s.size:=GN (by simpa using x);refine G3 (by omega) (by omega) fun j D d=>?_;have b:j<s.data.toList.length:=by simpa using d
 have:cA s j=s.data.toList[j]:=by
  unfold cA;rw[YR,YU b];rfl
 rw[this];exact y _ (Zz b)
theorem c56(s:aj):Pure prog 173 [pS s] (pB (ep s)):=by
 refine ah ab func173 Z (by decide) ntmps173 Z (by simp) Z ?_;refine gA Z (zp (c99 s) ?_);refine gA Z (zp (YE s) ?_);refine zJ Z Z (fun g1=>?_) fun g1=>?_
 .have g1:fG s=kw:=g1;have b:0<s.size:=by
   unfold fG at g1;simp only[Zf,decide_eq_true_iff]at g1;omega
  refine zJ Z Z (fun g2=>?_) fun g2=>?_
  .have g2:Du s=lc:=by simpa using g2
   refine gA Z (zp (W4 (hd s)) ?_);refine gA Z (zL (.of_eq ?_));refine(fO ?_:pB _=pB _);rw[ep,g2,u5 s g1];rfl
  .have g2:Du s=kw:=by simpa using g2
   refine gA Z (zL (.of_eq ?_));refine(fO ?_:pB _=pB _);rw[ep,g2];rfl
 .have g1:fG s=lc:=by simpa using g1
  repeat(refine gA Z (zI (fun q=>?_) (fun q=>?_));all_goals(try(simp at q;done)))
  refine gA Z (zL (.of_eq ?_));refine(fO ?_:pB _=pB _);rw[ep,u4 s 97 122 g1];simp
def findD(l:List Decl)(s:aj):Option Decl:=l.find? fun d=>li (d.name=s)
theorem Je{V:Type}{m:List ((KC.str).K×V)}{k s:aj}{v:V}:dZ .str (cF .str m k v) s=(li (k=s)||dZ .str m s):=by
 rw[ZE,aac,decide_eq_true_iff,qv,qv];by_cases h:k∈m.map Zl
 .rw[o8 h];constructor
  .exact .inr
  .rintro(rfl|h2)
   .exact h
   .exact h2
 .rw[dV h,Y6,Y4];constructor
  .rintro(h2|h2)
   .exact .inr h2
   .exact .inl h2.symm
  .rintro(h2|h2)
   .exact .inr h2.symm
   .exact .inl h2
theorem u7(s:aj): ∀(l:List Decl) (m:DM),dZ .str (l.foldl iF m) s=(dZ .str m s||(findD l s).isSome)∧bU .str (l.foldl iF m) s Decl.z=if dZ .str m s=kw then bU .str m s Decl.z else(findD l s).getD Decl.z
 | [],m=>by
  refine⟨by simp[findD],?_⟩;simp only[List.foldl_nil,findD,List.find?_nil,Option.getD_none];cases h:dZ .str m s with
  |true=>rfl
  |false=>
   rw[be (by simp)];refine yb fun b=>?_
   rw[qv.2 b]at h;cases h
 |d::l,m=>by
  rw[Zn];obtain⟨j,b⟩:=u7 s l (iF m d);rw[j,b];have u:findD (d::l) s=if d.name=s then io d else findD l s:=by
   unfold findD;rw[aaI];by_cases h:d.name=s
   .rw[decide_eq_true h,am h]
   .rw[decide_eq_false h,be h]
  rw[u];unfold iF;cases hk:dZ .str m d.name with
  |true=>
   simp only[if_true];by_cases h:d.name=s
   .subst h;simp[hk]
   .rw[be h];exact⟨rfl,rfl⟩
  |false=>
   simp only[aaq,if_false];rw[Je,kL];by_cases h:d.name=s
   .subst h;simp[hk]
   .rw[be h,be h,decide_eq_false h];exact⟨rfl,rfl⟩
theorem Pz(p:Prog)(s:aj):dZ .str (Ah p) s=(findD p.aD s).isSome:=by
 have:=(u7 s p.aD []).1;rw[show dZ .str ([]:DM) s=lc from rfl,Z7]at this;exact this
theorem KU(p:Prog)(s:aj):ir p s=(findD p.aD s).getD Decl.z:=by
 have:=(u7 s p.aD []).2;rw[show dZ .str ([]:DM) s=lc from rfl,be (by simp)]at this;exact this
theorem Jn{l:List Decl}{s:aj}{i:Nat}(b:findD (l.take i) s=jp)(hi:i<l.length)(h: ¬(l.getD i em).name=s):findD (l.take (i+1)) s=jp:=by
 unfold findD at*
 rw[bz hi,abA,b,aaI,decide_eq_false h];rfl
theorem Mo{l:List Decl}{s:aj}{i:Nat}(b:findD (l.take i) s=jp)(hi:i<l.length)(h:(l.getD i em).name=s):findD l s=io (l.getD i em):=by
 unfold findD at*
 have e:l=l.take i++(l.getD i em::l.drop (i+1)):=by
  rw[YR,YU hi,aah,List.getElem_cons_drop,List.take_append_drop]
 have key:(l.take i++(l.getD i em::l.drop (i+1))).find? (fun d=>li (d.name=s))=io (l.getD i em):=by
  rw[abA,b,aaI,decide_eq_true h];rfl
 rwa[<-e]at key
theorem XT(p:Prog)(s:aj)(hb:p.aD.length<=1000000000000):Pure prog 235 [ag p.c,pS s] (.bM [ag (ir p s).c,pB (dZ .str (Ah p) s)]):=by
 rw[Pz,KU];refine ah ab func235 Z (by decide) ntmps235 Z (by simp) Z ?_;refine gA Z ?_;refine az 0 p.aD.length (YZ _) (fun i=>⟨[(1,pS s),(2,.ptr 0 0),(4,.ptr 1 0),(6,pI i)],[(0,io (an p.c)),(1,io (.cells [pS YW,.iv (.v (.slice jp 0 0)),pI 0,pI 0]))],2⟩) (fun i=>findD (p.aD.take i) s=jp) [] Z
  (zW (zK (zO trivial))) fun i x j=>?_
 refine zJ Z Z (fun b=>?_) fun b=>?_
 .have b:=ci b;refine zJ Z Z (fun d=>?_) fun d=>?_
  .have d:(p.aD.getD i em).name=s:=by simpa using d
   refine gA Z (zL ?_);rw[Mo j b d];exact .refl _
  .have d: ¬(p.aD.getD i em).name=s:=by simpa using d
   refine gA Z ⟨b,Jn j b d,[],zW (zK (zO ac))⟩
 .have b:=co b;have u:i=p.aD.length:=by omega
  subst u;rw[Y1 (YY _)]at j;rw[j];refine gA Z (zL ?_);exact .bM ⟨.agg ⟨.refl _,.nil _ _,.refl _,.refl _,ac⟩,.refl _,ac⟩
theorem WT(c:Int):Pure prog 287 [pU c] (pB (gT c)):=by
 refine ah ab func287 Z (by decide) ntmps287 Z (by simp) Z ?_
 repeat' (first|(refine gA Z (zI (fun _=>?_) (fun _=>?_)))|(refine gA Z (zL (.of_eq ?_))))
 all_goals(refine(fO ?_:pB _=pB _);simp_all [gT];try omega)
theorem WN(c:Int):Pure prog 298 [pU c] (pB (tA c)):=by
 refine ah ab func298 Z (by decide) ntmps298 Z (by simp) Z ?_
 repeat' (first|(refine gA Z (zI (fun _=>?_) (fun _=>?_)))|(refine gA Z (zL (.of_eq ?_))))
 all_goals(refine(fO ?_:pB _=pB _);simp_all [tA];try omega)
def Jv(c:Int):Bool:=li (c>=48)&&li (c<=57)
theorem X9(c:Int):Pure prog 299 [pU c] (pB (Jv c)):=by
 refine ah ab func299 Z (by decide) ntmps299 Z (by simp) Z ?_
 repeat' (first|(refine gA Z (zI (fun _=>?_) (fun _=>?_)))|(refine gA Z (zL (.of_eq ?_))))
 all_goals(refine(fO ?_:pB _=pB _);simp_all [Jv];try omega)
theorem Yc(s:aj):Pure prog 288 [pS s] (pB (Du s)):=by
 refine ah ab func288 Z (by decide) ntmps288 Z (by simp) Z ?_
 repeat' (first|(refine gA Z (zI (fun _=>?_) (fun _=>?_)))|(refine gA Z (zL (.of_eq ?_))))
 all_goals(refine(fO ?_:pB _=pB _))
 all_goals(simp only[Du,Px,abP,List.any_nil, *];rfl)
theorem Pw{s:aj}(h: ∀j,1<=j->j<s.size->okB (cA s j)=kw):fG s=(li (1<=s.size)&&li (s.size<=32)):=by
 unfold fG;have:((Zg s.size).all fun i=>li (i=0)||okB (cA s i))=kw:=by
  rw[Zj];intro j b;by_cases d:j=0
  .simp[d]
  .rw[h j (by omega) (ZY.1 b)];simp
 rw[this,Bool.and_true]
theorem WU(s:aj)(hs:s.size<=1000000000000):Pure prog 286 [pS s] (pB (fG s)):=by
 refine ah ab func286 Z (by decide) ntmps286 Z (by simp) Z ?_;refine gA Z ?_;by_cases a0:s.size=0
 .have S:fG s=lc:=by unfold fG;rw[decide_eq_false (by omega)];rfl
  rw[S];refine az 1 1 (by omega) (fun i=>⟨[(0,pS s),(3,pI i)],[],0⟩) (fun i=>i=1) [] Z (mW Z Z (bv (bv ac)) Z) fun i Y F=>?_;subst F;refine zJ Z Z (fun d=>?_) fun d=>?_
  .have d:(1:Int)<s.size:=zT d;omega
  .refine zJ Z Z (fun G=>?_) fun G=>?_
   .have:=zT (show li ((s.size:Int)>=1)=kw from G);omega
   .exact zU Z
 refine az 1 s.size (by omega) (fun i=>⟨[(0,pS s),(3,pI i)],[],0⟩) (fun i=>1<=i∧ ∀j,1<=j->j<i->okB (cA s j)=kw) [] ⟨YY _,fun j d G=>by omega⟩ (mW Z Z (bv (bv ac)) Z) fun i Y F=>?_;obtain⟨I,F⟩:=F;refine zJ Z Z (fun d=>?_) fun d=>?_
 .have d:=ci d;have u:okB (cA s i)=(gT ((cA s i).toNat:Int)||(tA ((cA s i).toNat:Int)||(Jv ((cA s i).toNat:Int)||decide (((cA s i).toNat:Int)=95)))):=by
   rw[Hc];unfold Gf;rw[ZE];simp only[Jv,aac,Zf,decide_eq_true_iff];constructor
   .rintro((h|h)|(h|h))
    .exact .inr (.inr (.inl h))
    .exact .inr (.inr (.inr h))
    .exact .inl h
    .exact .inr (.inl h)
   .rintro(h|(h|(h|h)))
    .exact .inr (.inl h)
    .exact .inr (.inr h)
    .exact .inl (.inl h)
    .exact .inl (.inr h)
  have x:okB (cA s i)=kw-> ∀j,1<=j->j<i+1->okB (cA s j)=kw:=fun h j a b=>by
   by_cases J:j=i
   .subst J;exact h
   .exact F j a (by omega)
  refine gA Z (zp (WT ((cA s i).toNat:Int)) ?_);refine zJ Z Z (fun y=>?_) fun y=>?_
  .have y:gT ((cA s i).toNat:Int)=lc:=by simpa using y
   refine gA Z (zp (WN ((cA s i).toNat:Int)) ?_);refine zJ Z Z (fun A=>?_) fun A=>?_
   .have A:tA ((cA s i).toNat:Int)=lc:=by simpa using A
    refine gA Z (zp (X9 ((cA s i).toNat:Int)) ?_);refine zJ Z Z (fun B=>?_) fun B=>?_
    .have B:Jv ((cA s i).toNat:Int)=lc:=by simpa using B
     refine zJ Z Z (fun D=>?_) fun D=>?_
     .have D: ¬((cA s i).toNat:Int)=95:=by
       have g:(!li (((cA s i).toNat:Int)=95))=kw:=D;simpa only[ZX,decide_eq_false_iff_not]using g
      rw[y,A,B,decide_eq_false D]at u;rw[G4 I d u];exact zU Z
     .have D:((cA s i).toNat:Int)=95:=by
       have g:(!li (((cA s i).toNat:Int)=95))=lc:=D;simpa only[aaJ,decide_eq_true_eq]using g
      rw[decide_eq_true D]at u;refine gA Z ⟨d,⟨by omega,x (by rw[u];simp)⟩,[],mW Z Z (bv (bv ac)) Z⟩
    .have B:Jv ((cA s i).toNat:Int)=kw:=by simpa using B
     rw[B]at u
     repeat(refine gA Z (zI (fun q=>?_) (fun q=>?_));all_goals(try(simp at q;done)))
     refine gA Z ⟨d,⟨by omega,x (by rw[u];simp)⟩,[],mW Z Z (bv (bv ac)) Z⟩
   .have A:tA ((cA s i).toNat:Int)=kw:=by simpa using A
    rw[A]at u
    repeat(refine gA Z (zI (fun q=>?_) (fun q=>?_));all_goals(try(simp at q;done)))
    refine gA Z ⟨d,⟨by omega,x (by rw[u];simp)⟩,[],mW Z Z (bv (bv ac)) Z⟩
  .have y:gT ((cA s i).toNat:Int)=kw:=by simpa using y
   rw[y]at u
   repeat(refine gA Z (zI (fun q=>?_) (fun q=>?_));all_goals(try(simp at q;done)))
   refine gA Z ⟨d,⟨by omega,x (by rw[u];simp)⟩,[],mW Z Z (bv (bv ac)) Z⟩
 .have d:=co d;have S:=Pw (s:=s) fun j a b=>F j a (by omega);have e1:((s.size:Int)>=1)=(1<=s.size):=propext ⟨fun h=>by omega,fun h=>by omega⟩;have e2:((s.size:Int)<=32)=(s.size<=32):=propext ⟨fun h=>by omega,fun h=>by omega⟩
  repeat' (first|(refine gA Z (zI (fun _=>?_) (fun _=>?_)))|(refine gA Z (zL (.of_eq ?_))))
  all_goals(refine(fO ?_:pB _=pB _);simp_all;try omega)
theorem KT(s:aj)(h:fG s=kw):eh s=tA (hd s):=by
 unfold fG at h;simp only[Zf,Zj,decide_eq_true_iff]at h;obtain⟨y,B,D⟩:=h;have u: ¬s=⟨#[]⟩:=fun e=>by rw[e]at y;exact absurd y (by decide)
 unfold eh pq tA;rw[decide_eq_false u,decide_eq_true B,abj,ZH,ZH];rw[ZE];simp only[Zf,decide_eq_true_iff,Zj];constructor
 .rintro⟨a,b,_⟩;exact⟨a,b⟩
 .rintro⟨a,b⟩;refine⟨a,b,fun x F=>?_⟩;obtain⟨j,A,rfl⟩:=Z0.1 F;have d:j<s.size:=by simpa using A
  have:=D j (ZY.2 d);rw[aac,decide_eq_true_iff]at this;have hb:cA s j=s.data.toList[j]:=by
   unfold cA;rw[YR,YU A];rfl
  rcases this with rfl|this
  .rw[<-hb,Hc];have:hd s=((cA s 0).toNat:Int):=rfl;rw[<-this];have:tA (hd s)=kw:=by unfold tA;simp[a,b]
   rw[this];simp
  .rw[<-hb];exact this
theorem Dt{s:aj}(h:fG s=kw):0<s.size:=by
 unfold fG at h;simp only[Zf,decide_eq_true_iff]at h;omega
theorem WX(s:aj)(hs:s.size<=1000000000000):Pure prog 275 [pS s] (pB (ep s)):=by
 refine ah ab func275 Z (by decide) ntmps275 Z (by simp) Z ?_;refine gA Z (zp (WU s hs) ?_);refine zJ Z Z (fun g1=>?_) fun g1=>?_
 .have g1:fG s=kw:=g1;have b:=Dt g1;refine gA Z (zp (WT (hd s)) ?_);refine zJ Z Z (fun g2=>?_) fun g2=>?_
  .have g2:gT (hd s)=kw:=g2;refine gA Z (zp (Yc s) ?_);refine gA Z (zL (.of_eq ?_));refine(fO ?_:pB _=pB _);rw[ep,u5 s g1,g2,Bool.and_true]
  .have g2:gT (hd s)=lc:=by simpa using g2
   repeat(refine gA Z (zI (fun q=>?_) (fun q=>?_));all_goals(try(simp at q;done)))
   refine gA Z (zL (.of_eq ?_));refine(fO ?_:pB _=pB _);rw[ep,u5 s g1,g2,ZV]
 .have g1:fG s=lc:=by simpa using g1
  repeat(refine gA Z (zI (fun q=>?_) (fun q=>?_));all_goals(try(simp at q;done)))
  refine gA Z (zL (.of_eq ?_));refine(fO ?_:pB _=pB _);rw[ep,u4 s 97 122 g1];simp
theorem WR(s:aj)(hs:s.size<=1000000000000):Pure prog 289 [pS s] (pB (eh s)):=by
 refine ah ab func289 Z (by decide) ntmps289 Z (by simp) Z ?_;refine gA Z (zp (WU s hs) ?_);refine zJ Z Z (fun g1=>?_) fun g1=>?_
 .have g1:fG s=kw:=g1;have b:=Dt g1;refine gA Z (zp (WN (hd s)) ?_);refine gA Z (zL (.of_eq ?_));refine(fO ?_:pB _=pB _);rw[KT s g1]
 .have g1:fG s=lc:=by simpa using g1
  repeat(refine gA Z (zI (fun q=>?_) (fun q=>?_));all_goals(try(simp at q;done)))
  refine gA Z (zL (.of_eq ?_));refine(fO ?_:pB _=pB _);rw[eh,u4 s 65 90 g1]
theorem X8(v:tE):Pure prog 300 [ag v.c] (pI (dt v)):=by
 refine ah ab func300 Z (by decide) ntmps300 Z (by simp) Z ?_
 repeat' (first|(refine gA Z (zI (fun _=>?_) (fun _=>?_)))|(refine gA Z (zL (.of_eq ?_))))
 all_goals(have hE:(⟨#[]⟩:ByteArray)=YW:=rfl;refine congrArg pI ?_;simp_all [dt];try omega)
theorem yN(a b:List UInt8):(⟨a.toArray⟩:ByteArray)++⟨b.toArray⟩=⟨(a++b).toArray⟩:=by
 apply acg;rw[ByteArray.data_append];simp
theorem bsize(a:List UInt8):(⟨a.toArray⟩:ByteArray).size=a.length:=by simp[abG]
theorem S1{s:aj}{i:Nat}(h:i<s.data.toList.length):s.extract i (i+1)=⟨[s.data.toList.getD i em].toArray⟩:=by
 apply acg;rw[ByteArray.data_extract];apply Array.ext';simp only[Array.toList_extract];rw[List.extract_eq_take_drop,YR,YU h];have e:s.data.toList.drop i=s.data.toList[i]::s.data.toList.drop (i+1):=abu h;rw[e,show i+1-i=1 by omega];simp
theorem XA: ∀k:Nat,k<16->Qh.extract k (k+1)=⟨[Ch (k:Int)].toArray⟩:=fun k h=>S1 (by
 have:Qh.data.toList.length=16:=rfl
 omega)
theorem WM(n:Int)(h0:0<=n)(h1:n<16):Pure prog 306 [pU n] (pS ⟨[Ch n].toArray⟩):=by
 have b:IntKind.u8.wrap (n+1)=n+1:=IntWalk.u8_in _ (by omega);obtain⟨k,rfl⟩: ∃k:Nat,n=(k:Int):=⟨n.toNat,by omega⟩
 have d:=XA k (by omega);have j:Qh.size=16:=rfl;refine ah ab func306 Z (by decide) ntmps306 Z (by simp) Z ?_;refine nS Z (by simp only[b];refine⟨?_,?_⟩<;>first|trivial|omega|(refine⟨?_,?_⟩<;>first|trivial|omega|(refine⟨?_,?_⟩<;>first|trivial|omega))) (zL (.of_eq ?_));rw[b,<-d];rfl
theorem X7(s:aj)(hs:s.size<=1000):Pure prog 301 [pS s] (pS (p7 s)):=by
 have hl:s.data.toList.length=s.size:=by simp
 refine ah ab func301 Z (by decide) ntmps301 Z (by simp) Z ?_;refine gA Z ?_;refine az 0 s.data.toList.length (YZ _) (fun i=>⟨[(0,pS s),(3,pS ⟨(mY s i).toArray⟩),(4,pI i)],[],0⟩) (fun _=>True) [] ac
  (mW Z Z (bv (bv (bv trivial))) Z) fun i hi _=>?_
 have hq:=ud s i;have hz:=bsize (mY s i);have z1:(⟨#[34]⟩:ByteArray).size=1:=rfl;have z2:(⟨#[92,34]⟩:ByteArray).size=2:=rfl;have z3:(⟨#[92,92]⟩:ByteArray).size=2:=rfl;have z4:(⟨#[92,110]⟩:ByteArray).size=2:=rfl;have z5:(⟨#[92,120]⟩:ByteArray).size=2:=rfl;refine zE Z Z (fun j=>?_) fun j=>?_
 .have j:s.data.toList.length<=i:=by
   have:=zF (show li ((i:Int)<(s.size:Int))=lc from j);omega
  refine gA Z (zL (.of_eq ?_));rw[show(⟨#[34]⟩:ByteArray)=⟨[34].toArray⟩ from rfl,yN];simp only[mY,p7,Y1 j];rfl
 have j:i<s.data.toList.length:=by
  have:=zT (show li ((i:Int)<(s.size:Int))=kw from j);omega
 have b:=Ao j;have d:s.data.toList.getD (i:Int).toNat 0=s.data.toList.getD i em:=rfl;have u:=S1 j;generalize hc:s.data.toList.getD i em=c at b d u;refine zJ Z Z (fun y=>?_) fun y=>?_
 .have y:c.toNat=34:=by have:=zT y;rw[d]at this;omega
  rw[qB,am (.inl y)]at b;have Y:c=34:=UInt8.toNat_inj.1 y;refine gA Z ⟨j,ac,[],mW Z Z (bv ⟨.of_eq (by rw[b,Y,show(⟨#[92,34]⟩:ByteArray)=⟨[92,34].toArray⟩ from rfl,yN];rfl),rfl,bv ac⟩) Z⟩
 have y: ¬c.toNat=34:=by have:=zF y;rw[d]at this;omega
 refine zJ Z Z (fun A=>?_) fun A=>?_
 .have A:c.toNat=92:=by have:=zT A;rw[d]at this;omega
  rw[qB,am (.inr A)]at b;have a0:c=92:=UInt8.toNat_inj.1 A;refine gA Z ⟨j,ac,[],mW Z Z (bv ⟨.of_eq (by rw[b,a0,show(⟨#[92,92]⟩:ByteArray)=⟨[92,92].toArray⟩ from rfl,yN];rfl),rfl,bv ac⟩) Z⟩
 have A: ¬c.toNat=92:=by have:=zF A;rw[d]at this;omega
 rw[qB,be (by omega)]at b;refine zJ Z Z (fun B=>?_) fun B=>?_
 .have B:c.toNat=10:=by have:=zT B;rw[d]at this;omega
  rw[am B]at b;refine gA Z ⟨j,ac,[],mW Z Z (bv ⟨.of_eq (by rw[b,show(⟨#[92,110]⟩:ByteArray)=⟨[92,110].toArray⟩ from rfl,yN];rfl),rfl,bv ac⟩) Z⟩
 have B: ¬c.toNat=10:=by have:=zF B;rw[d]at this;omega
 rw[be B]at b;have b0:=LP c;have c0:=Ls c;have D:=WM (Qg c) b0.1 b0.2;have F:=WM (SG c) c0.1 c0.2;rw[<-hc]at D F;have d0:c.toNat<32∨126<c.toNat-> ∀x:ByteArray,x=((⟨(mY s i).toArray⟩++(⟨#[92,120]⟩:ByteArray))++⟨[Ch (Qg c)].toArray⟩)++⟨[Ch (SG c)].toArray⟩->pS x=pS ⟨(mY s (i+1)).toArray⟩:=fun h x e=>by
  rw[am h]at b;rw[e,b,show(⟨#[92,120]⟩:ByteArray)=⟨[92,120].toArray⟩ from rfl,yN,yN,yN];simp
 have J:((⟨(mY s i).toArray⟩:ByteArray)++(⟨#[92,120]⟩:ByteArray)).size=(mY s i).length+2:=by
  rw[show(⟨#[92,120]⟩:ByteArray)=⟨[92,120].toArray⟩ from rfl,yN,bsize,YS];rfl
 have S: ∀z,((⟨(mY s i).toArray⟩:ByteArray)++(⟨#[92,120]⟩:ByteArray)++⟨[Ch z].toArray⟩).size=(mY s i).length+3:=fun z=>by
  rw[show(⟨#[92,120]⟩:ByteArray)=⟨[92,120].toArray⟩ from rfl,yN,yN,bsize,YS,YS];rfl
 have e1: ∀z,(⟨[Ch z].toArray⟩:ByteArray).size=1:=fun z=>rfl;have e2:(⟨[Ch (Qg (s.data.toList.getD i em))].toArray⟩:ByteArray).size=1:=rfl;refine zJ Z Z (fun G=>?_) fun G=>?_
 .have G: ¬c.toNat<32:=by have:=zF G;rw[d]at this;omega
  refine zJ Z Z (fun I=>?_) fun I=>?_
  .have I:126<c.toNat:=by have:=zT I;rw[d]at this;omega
   refine gA Z (zp (D) ?_);refine gA Z (zp (F) ?_);refine nS Z (by(repeat' (first|exact ac|exact rfl|apply ZC))<;>first|omega|(rw[J,e1];omega)|(rw[S,e1];omega)) ?_;exact⟨j,ac,[],mW Z Z (bv ⟨.of_eq (d0 (.inr I) _ (by rw[<-hc])),rfl,bv ac⟩) Z⟩
  have I: ¬126<c.toNat:=by have:=zF I;rw[d]at this;omega
  rw[be (by omega)]at b;have e0:(s.extract i (i+1)).size=1:=by rw[u];rfl
  refine nS Z (by(repeat' (first|exact ac|exact rfl|apply ZC))<;>first|omega|(rw[show((i:Int)+1).toNat=i+1 by omega,show(i:Int).toNat=i by omega,e0];omega)) ?_;exact⟨j,ac,[],mW Z Z (bv ⟨.of_eq (by show pS _=pS _;rw[show((i:Int)+1).toNat=i+1 by omega,show(i:Int).toNat=i by omega,u,b,yN]),rfl,bv ac⟩) Z⟩
 .have G:c.toNat<32:=by have:=zT G;rw[d]at this;omega
  refine gA Z (zp (D) ?_);refine gA Z (zp (F) ?_);refine nS Z (by(repeat' (first|exact ac|exact rfl|apply ZC))<;>first|omega|(rw[J,e1];omega)|(rw[S,e1];omega)) ?_;exact⟨j,ac,[],mW Z Z (bv ⟨.of_eq (d0 (.inl G) _ (by rw[<-hc])),rfl,bv ac⟩) Z⟩
theorem Yb(v:tE):Pure prog 290 [ag v.c] (.bM [pS (nZ v),pI (dt v)]):=by
 refine ah ab func290 Z (by decide) ntmps290 Z (by simp) Z ?_;refine gA Z (zp (X8 v) ?_);refine zJ Z Z (fun b=>?_) fun b=>?_
 .have b: ¬dt v=0:=by simpa using b
  refine gA Z (zL (.of_eq ?_));rw[nZ,be b];rfl
 have b:dt v=0:=by simpa using b
 rw[nZ,am b,b];refine zJ Z Z (fun d=>?_) fun d=>?_
 .have d:v.kind=1:=by simpa using d
  have:=sG b d;refine gA Z (zp (WO v.num (by omega) (by omega)) ?_);refine gA Z (zL (.of_eq ?_));rw[tM,am d];rfl
 have d: ¬v.kind=1:=by simpa using d
 have u:=sF b d;refine gA Z (zp (WX v.sym (by omega)) ?_);refine zJ Z Z (fun j=>?_) fun j=>?_
 .have j:ep v.sym=kw:=j;refine gA Z (zL (.of_eq ?_));rw[tM,be d,am j];rfl
 .have j: ¬ep v.sym=kw:=by simpa using j
  refine gA Z (zp (X7 v.sym (by omega)) ?_);refine gA Z (zL (.of_eq ?_));rw[tM,be d,be j];rfl
abbrev nW:=aj×Bool
def nW.c(t:nW):List IV:=[iS t.1,.v (.bool t.2)]
def fa(kind:Int)(b:aj)(v:tE):nW:=if kind=1 then(b,!eh b||!cT v) else(nZ v,!li (dt v=0)||!li (b=YW))
theorem WW(kind:Int)(b:aj)(v:tE)(hs:b.size<=1000000000000):Pure prog 276 [pI kind,pS b,ag v.c] (ag (fa kind b v).c):=by
 refine ah ab func276 Z (by decide) ntmps276 Z (by simp) Z ?_;refine zJ Z Z (fun d=>?_) fun d=>?_
 .have d:kind=1:=by simpa using d
  refine gA Z (zp (WR b hs) ?_);unfold fa;rw[am d];refine zJ Z Z (fun g=>?_) fun g=>?_
  .have g:eh b=kw:=by simpa using g
   refine gA Z (zL ?_);exact .agg ⟨.refl _,.of_eq (fO (by rw[g];simp[cT])),ac⟩
  .have g:eh b=lc:=by simpa using g
   refine gA Z (zL ?_);exact .agg ⟨.refl _,.rz (by rw[g];rfl),ac⟩
 .have d: ¬kind=1:=by simpa using d
  refine gA Z (zp (Yb v) ?_);unfold fa;rw[be d];refine zJ Z Z (fun g=>?_) fun g=>?_
  .have g:dt v=0:=by simpa using g
   refine gA Z (zL ?_);exact .agg ⟨.refl _,.of_eq (fO (by rw[g];rfl)),ac⟩
  .have g: ¬dt v=0:=by simpa using g
   refine gA Z (zL ?_);exact .agg ⟨.refl _,.rz (by simp[g]),ac⟩
def M7(x:Term):nW:=(Kx,!li (x.var=YW)||!cT x.val)
def pz(x:Term):nW:=if x.kind=3 then M7 x else((fa x.kind x.var x.val).1,(fa x.kind x.var x.val).2||(!li (x.kind=1)&&!li (x.kind=2)))
def eH(a:Atom):Nat->nW
 |0=>(a.rel++sO,!ep a.rel)
 |i+1=>((if(i:Int)>0 then(eH a i).1++wC else(eH a i).1)++(pz (a.ad.getD i em)).1,(eH a i).2||(pz (a.ad.getD i em)).2)
def fh(a:Atom):nW:=((eH a a.ad.length).1++sC,(eH a a.ad.length).2)
theorem s8(k:Int)(s:aj)(v:tE):(fa k s v).1.size<=s.size+300:=by
 have:=nY v;unfold fa;split
 .show s.size<=_;omega
 .show(nZ v).size<=_;omega
theorem Im(x:Term):(pz x).1.size<=x.var.size+300:=by
 have:=s8 x.kind x.var x.val;unfold pz;split
 .show Kx.size<=_;have:Kx.size=1:=rfl;omega
 .exact this
theorem pn(a:Atom): ∀i,i<=a.ad.length->(eH a i).1.size<=a.rel.size+1+((a.ad.take i).map Term.ts).sum
 |0,_=>by
  show(a.rel++sO).size<=_;rw[ZQ];have:sO.size=1:=rfl;omega
 |i+1,h=>by
  have b:=pn a i (by omega);have d:=Im (a.ad.getD i em);have j:wC.size=2:=rfl;have u:(a.ad.getD i em).ts=(a.ad.getD i em).var.size+310:=rfl;have x:((a.ad.take (i+1)).map Term.ts).sum=((a.ad.take i).map Term.ts).sum+(a.ad.getD i em).ts:=by
   rw[bz (by omega),YX,List.sum_append];simp
  show((if(i:Int)>0 then(eH a i).1++wC else(eH a i).1)++(pz (a.ad.getD i em)).1).size<=_;rw[ZQ];split
  .rw[ZQ];omega
  .omega
theorem hP: ∀(b:List aj) (w:WS),(a8 w b).bad=w.bad
 | [],w=>rfl
 |s::r,w=>hP r (BP w s)
theorem xm(w:WS)(v:tE):(nG w v).bad=(w.bad||!li (dt v=0)):=by
 rw[nG,hP];rfl
theorem dd(w:WS)(b:Bool):(aS w b).bad=(w.bad||!b):=rfl
theorem z8(w:WS)(t:Term):(lv w t).bad=(w.bad||(pz t).2):=by
 have hE:(⟨#[]⟩:ByteArray)=YW:=rfl;unfold lv pz fa M7;by_cases b:t.kind=1
 .rw[am b,hP,dd,be (by omega),am b,zj];simp[b]
 rw[be b];by_cases d:t.kind=2
 .rw[am d,xm,dd,be (by omega),be b];simp[d,hE];cases w.bad<;>cases li (t.var=YW)<;>cases li (dt t.val=0)<;>rfl
 rw[be d];by_cases j:t.kind=3
 .rw[am j,hP,dd,am j,zk];simp[hE]
 .rw[be j,be j,be b];simp[b,d,oE]
theorem tx(i:Nat)(w:WS):(iT i w).bad=w.bad:=by
 unfold iT;split
 .rfl
 .exact hP _ _
theorem xq(a:Atom): ∀i,(eE a.ad (a8 (aS WS.o (ep a.rel)) [a.rel,sO]) i).bad=(eH a i).2
 |0=>by rw[eE,hP];rfl
 |i+1=>by rw[eE,z8,tx,xq a i];rfl
theorem E3(a:Atom):lN a=(fh a).2:=by
 unfold lN kj fh;rw[hP,xq]
abbrev Xi(a:Atom)(i:Nat):Term:=a.ad.getD i em
structure GInv (p:Prog) (a:Atom) (n:Nat) (m:NM):Prop where
 is:SI p a n=io m
 has: ∀s,dZ .str m s=kw↔ ∃k,k<n∧(Xi a k).kind=1∧(Xi a k).var=s
 val: ∀k,k<n->(Xi a k).kind=1->bU .str m (Xi a k).var 0=HB p a k
abbrev nV:nW:=(⟨#[]⟩,kw)
def bx(e:Expr):Int:=if e.kind=4 then(if e.op=1∨e.op=2 then 1 else if e.op=3∨e.op=4∨e.op=5 then 2 else 3) else 4
def xz(op:Int):aj:=if op=1 then⟨#[32,43,32]⟩ else if op=2 then⟨#[32,45,32]⟩ else if op=3 then⟨#[32,42,32]⟩ else if op=4 then⟨#[32,47,32]⟩ else⟨#[32,109,111,100,32]⟩
def yd(e:Expr)(b:Bool):nW:=((fa e.kind e.var e.val).1,(fa e.kind e.var e.val).2||(b||(!li (e.op=0)||decide ((e.args.length:Int)>0))))
def Ld(a:Expr):Bool:=pK a&&li (a.val.num>0)
def qp(a:Expr):Bool:=li (bx a<3)||Ld a
def FM(a:Expr):Bool:=pK a&&li (a.val.num=0)
def np(a0:Bool->Expr->nW)(e:Expr):nW:=
 if e.op=6 then
  (if e.args.length=1 then(sM++(if FM (aP e)=kw then(⟨#[45,48]⟩:ByteArray) else(a0 (qp (aP e)) (aP e)).1),(a0 (qp (aP e)) (aP e)).2) else nV)
 else if e.args.length=2 then((a0 (li (bx (aP e)<bx e)) (aP e)).1++xz e.op++(a0 (li (bx (kV e)<=bx e)) (kV e)).1,(a0 (li (bx (aP e)<bx e)) (aP e)).2||(a0 (li (bx (kV e)<=bx e)) (kV e)).2) else nV
def gB(e:Expr)(b:Bool)(k:nW):nW:=
 if e.kind=1∨e.kind=2 then yd e b
 else if¬e.kind=4∨b=kw∨ ¬e.var=⟨#[]⟩∨cT e.val=lc∨e.op<1∨e.op>6 then nV else k
def bP:Nat->Expr->nW
 |0,e=>gB e kw nV
 |1,e=>gB e lc nV
 |m+2,e=>gB e lc (np (fun b a=>if b=kw then(sO++(bP m a).1++sC,(bP m a).2||decide (m<1)) else bP (m+1) a) e)
def j8(m:Nat)(b:Bool)(a:Expr):nW:=if b=kw then(sO++(bP m a).1++sC,(bP m a).2||decide (m<1)) else bP (m+1) a
theorem vE(m:Nat)(e:Expr):bP (m+2) e=gB e lc (np (j8 m) e):=rfl
theorem Jp(m:Nat)(w:WS)(e:Expr):cO (m+2) w e=jK w e (kh (qU m) (aS w (mw e)) e):=rfl
theorem Jc(e:Expr)(b:Bool):(yd e b).1.size<=e.var.size+300:=s8 _ _ _
theorem Ab(op:Int):(xz op).size<=5:=by
 unfold xz
 repeat' split
 all_goals decide
theorem IX(a0:Bool->Expr->nW)(d: ∀b a,(a0 b a).1.size<=2+a.ts)(e:Expr):(np a0 e).1.size<=e.ts:=by
 have D:=e.l9;have J:(⟨#[]⟩:ByteArray).size=0:=rfl;unfold np;split
 .split
  .rename_i j;have y:=Expr.tL e.args 0 (by omega);have u:=d (qp (aP e)) (aP e);have A:sM.size=1:=rfl;have B:(⟨#[45,48]⟩:ByteArray).size=2:=rfl;show(sM++_).size<=_;rw[ZQ];have I:(if FM (aP e)=kw then(⟨#[45,48]⟩:ByteArray) else(a0 (qp (aP e)) (aP e)).1).size<=2+(aP e).ts:=by
    by_cases x:FM (aP e)=kw
    .rw[am x];omega
    .rw[be x];exact u
   simp only[aP] at*;omega
  .show(⟨#[]⟩:ByteArray).size<=_;omega
 .split
  .rename_i j;have y:=Expr.wP e.args j;have u:=d (li (bx (aP e)<bx e)) (aP e);have F:=d (li (bx (kV e)<=bx e)) (kV e);have G:=Ab e.op;show((_++_)++_:ByteArray).size<=_;rw[ZQ,ZQ];simp only[aP,kV] at*;omega
  .show(⟨#[]⟩:ByteArray).size<=_;omega
theorem vv(e:Expr)(b:Bool)(k:nW)(h:k.1.size<=e.ts):(gB e b k).1.size<=e.ts:=by
 have d:=e.l9;have j:(⟨#[]⟩:ByteArray).size=0:=rfl;unfold gB;split
 .have:=Jc e b;omega
 split
 .show(⟨#[]⟩:ByteArray).size<=_;omega
 .exact h
theorem fx: ∀(n:Nat) (e:Expr),(bP n e).1.size<=e.ts
 |0,e=>vv _ _ _ (by show(⟨#[]⟩:ByteArray).size<=_;exact YZ _)
 |1,e=>vv _ _ _ (by show(⟨#[]⟩:ByteArray).size<=_;exact YZ _)
 |m+2,e=>by
  refine vv _ _ _ (IX _ (fun b a=>?_) e);have d:sO.size=1:=rfl;have j:sC.size=1:=rfl;split
  .have:=fx m a;show((sO++(bP m a).1)++sC).size<=_;rw[ZQ,ZQ];omega
  .have:=fx (m+1) a;omega
theorem qV(m:Nat)(b:Bool)(a:Expr):(j8 m b a).1.size<=2+a.ts:=by
 have d:sO.size=1:=rfl;have j:sC.size=1:=rfl;unfold j8;split
 .have:=fx m a;show((sO++(bP m a).1)++sC).size<=_;rw[ZQ,ZQ];omega
 .have:=fx (m+1) a;omega
theorem rh{op:Int}:bg op=0↔op<1∨op>6:=by
 unfold bg
 repeat' split
 all_goals omega
theorem BB(op:Int):0<=bg op:=by
 unfold bg
 repeat' split
 all_goals decide
theorem BZ{e:Expr}(h:bg e.op=0):mw e=lc:=by
 unfold mw;rw[h];simp
theorem A4{e:Expr}(j:e.kind=4)(h:bg e.op=0): ∀n,(bP n e).2=kw:=by
 have d: ∀b k,(gB e b k).2=kw:=fun b k=>by
  unfold gB;rw[be (by omega),am];have:=rh.1 h;rcases this with h|h
  .exact .inr (.inr (.inr (.inr (.inl h))))
  .exact .inr (.inr (.inr (.inr (.inr h))))
 intro n
 match n with
 |0=>exact d _ _
 |1=>exact d _ _
 |m+2=>exact d _ _
theorem AI(w:WS)(e:Expr)(k:WS)(b:(aS w (mw e)).bad=kw->k.bad=kw)(ho:mw e=lc)(d:e.kind=4):(jK w e k).bad=kw:=by
 unfold jK;split
 .rfl
 rw[be (show¬e.kind=1 by omega),be (show¬e.kind=2 by omega)];exact b (by rw[dd,ho];simp)
theorem Ar(a0:Bool->WS->Expr->WS)(w:WS)(e:Expr)(h:w.bad=kw):kh a0 w e=oE w:=by
 unfold kh;rw[am h]
theorem A3{e:Expr}(b:e.kind=4)(h:bg e.op=0): ∀n w,(cO n w e).bad=kw:=by
 intro n w
 match n with
 |0=>rfl
 |1=>exact AI _ _ _ (fun _=>rfl) (BZ h) b
 |m+2=>exact AI _ _ _ (fun g=>by rw[Ar _ _ _ g];rfl) (BZ h) b
theorem rK{e:Expr}(h: ¬(e.kind=4∧bg e.op=0)):bx e=eB e:=by
 unfold bx eB;split
 .rename_i b;have:=mt rh.2 fun g=>h ⟨b,g⟩;unfold bg;split
  .rfl
  split
  .rfl
  rw[am (by omega)]
 .rfl
theorem iG(w:WS)(s:aj):(a8 w [s]).bad=w.bad:=rfl
theorem E5(e:Expr):li ((e.args.length:Int)>0)=!li ((e.args.length:Int)=0):=by
 by_cases h:e.args.length=0
 .rw[h];rfl
 .rw[decide_eq_true (by omega),decide_eq_false (by omega)];rfl
theorem Ei{w:WS}{e:Expr}{k:WS}{t:nW}(h:w.bad=lc->mw e=kw->e.kind=4->k.bad=t.2)(hb:(aS w (mw e)).bad=kw->k.bad=kw):(jK w e k).bad=(w.bad||(gB e lc t).2):=by
 unfold jK gB;cases hw:w.bad with
 |true=>rfl
 |false=>
  rw[be (by decide),Z7];by_cases b:e.kind=1
  .rw[am b,am (.inl b),iG,dd,hw];unfold yd fa qj;rw[am b,E5];cases eh e.var<;>cases cT e.val<;>cases li (e.op=0)<;>cases li ((e.args.length:Int)=0)<;>rfl
  by_cases u:e.kind=2
  .rw[be b,am u,am (.inr u),xm,dd,hw];unfold yd fa rZ;rw[be b,E5];show(lc||!(li (e.var=YW)&&_)||_)=_;cases li (dt e.val=0)<;>cases li (e.var=YW)<;>cases li (e.op=0)<;>cases li ((e.args.length:Int)=0)<;>rfl
  have j: ¬(e.kind=1∨e.kind=2):=by omega
  rw[be b,be u,be j];by_cases d:e.kind=4
  .rw[am d];cases ho:mw e with
   |true=>
    rw[h hw ho d,be];unfold mw at ho;rw[Zf,Zf,decide_eq_true_iff,decide_eq_true_iff]at ho;rintro(g|g|g|g|g)
    .exact g d
    .cases g
    .exact g ho.1
    .rw[g]at ho;cases ho.2.1
    .have:=rh.2 g;omega
   |false=>
    rw[hb (by rw[dd,ho];simp),am];unfold mw at ho;by_cases g1:e.var=⟨#[]⟩
    .by_cases g2:cT e.val=kw
     .rw[decide_eq_true g1,g2,ZH,ZH,decide_eq_false_iff_not]at ho;have:=BB e.op;have:=rh.1 (show bg e.op=0 by omega);exact .inr (.inr (.inr (.inr this)))
     .exact .inr (.inr (.inr (.inl (by simpa using g2))))
    .exact .inr (.inr (.inl g1))
  .rw[be d,am (.inl d)];rfl
theorem MX{m:Nat}(i0: ∀w e,(cO m w e).bad=(w.bad||(bP m e).2))(i1: ∀w e,(cO (m+1) w e).bad=(w.bad||(bP (m+1) e).2))(b:Bool)(w:WS)(a:Expr):(qU m b w a).bad=(w.bad||(j8 m b a).2):=by
 unfold qU j8;split
 .rw[iG,i0,iG];show _=(w.bad||((bP m a).2||_))
  cases m with
  |zero=>
   have:(bP 0 a).2=kw:=by
    have:=i0 ⟨lc,[],lc,0⟩ a;exact this.symm
   rw[this];rfl
  |succ m=>rw[decide_eq_false (by omega),aau]
 .exact i1 w a
theorem CI{m:Nat}(i0: ∀w e,(cO m w e).bad=(w.bad||(bP m e).2))(i1: ∀w e,(cO (m+1) w e).bad=(w.bad||(bP (m+1) e).2)){b b':Bool}(w:WS)(a:Expr)(h: ¬(a.kind=4∧bg a.op=0)->b=b'):(qU m b w a).bad=(w.bad||(j8 m b' a).2):=by
 by_cases g:a.kind=4∧bg a.op=0
 .have d:(qU m b w a).bad=kw:=by
   unfold qU;split
   .rw[iG];exact A3 g.1 g.2 _ _
   .exact A3 g.1 g.2 _ _
  have j:(j8 m b' a).2=kw:=by
   unfold j8;split
   .show((bP m a).2||_)=kw;rw[A4 g.1 g.2];rfl
   .exact A4 g.1 g.2 _
  rw[d,j,aa2]
 .rw[h g];exact MX i0 i1 _ _ _
theorem K6{m:Nat}(i0: ∀w e,(cO m w e).bad=(w.bad||(bP m e).2))(i1: ∀w e,(cO (m+1) w e).bad=(w.bad||(bP (m+1) e).2))(w:WS)(e:Expr)(hw:w.bad=lc)(d:e.kind=4)(ho:mw e=kw):(kh (qU m) w e).bad=(np (j8 m) e).2:=by
 have j: ¬(e.kind=4∧bg e.op=0):=fun g=>by rw[BZ g.2]at ho;cases ho
 have b:bx e=bg e.op:=by rw[rK j];exact am d
 unfold kh np;rw[be (by rw[hw];decide)];split
 .split
  .rw[CI i0 i1 (b':=qp (aP e)) _ _ fun g=>by unfold oi qp Ld;rw[rK g]];have:(if(pK (aP e)&&li ((aP e).val.num=0))=kw then a8 (a8 w [sM]) [sM] else a8 w [sM]).bad=lc:=by
    split
    .exact hw
    .exact hw
   rw[this];rfl
  .rfl
 .split
  .rw[CI i0 i1 (b':=li (bx (kV e)<=bx e)) _ _ fun g=>by rw[b,rK g]];rw[hP,CI i0 i1 (b':=li (bx (aP e)<bx e)) _ _ fun g=>by rw[b,rK g],hw];rfl
  .rfl
theorem qJ: ∀(n:Nat) (w:WS) (e:Expr),(cO n w e).bad=(w.bad||(bP n e).2)
 |0,w,e=>by
  have:(bP 0 e).2=kw:=by
   show(gB e kw nV).2=kw;unfold gB;split
   .unfold yd;simp
   split<;>rfl
  rw[this,aa2];rfl
 |1,w,e=>Ei (fun _ _ _=>rfl) (fun _=>rfl)
 |m+2,w,e=>by
  rw[vE,Jp];exact Ei (fun d b j=>K6 (qJ m) (qJ (m+1)) _ _ (by rw[dd,d,b];rfl) j b) (fun g=>by rw[Ar _ _ _ g];rfl)
def eR(a:Atom):Bool:=li (a.rel=⟨#[]⟩)&&li ((a.ad.length:Int)=0)
def jr(a:eL):Bool:=li (a.func=0)&&(li (a.var=⟨#[]⟩)&&(cV a.dX&&li ((a.body.length:Int)=0)))
def gW(l:Lit):Bool:=cV l.left&&(cV l.right&&li (l.op=0))
def b5(f:Lit->nW)(l:List Lit):Nat->nW
 |0=>(⟨#[]⟩,lc)
 |i+1=>if(b5 f l i).2=kw then nV else if(f (l.getD i em)).2=kw then nV else((if(i:Int)>0 then(b5 f l i).1++wC else(b5 f l i).1)++(f (l.getD i em)).1,lc)
def Hf(a:eL):nW:=
 if a.func=1 then(((a.var++pZ)++fC a.func)++p3,!eh a.var||!cV a.dX) else(((((a.var++pZ)++fC a.func)++p3)++(bP 17 a.dX).1)++Fe,!eh a.var||(bP 17 a.dX).2)
def oG(f:Lit->nW)(a:eL)(br:Int):nW:=
 if a.func<1∨a.func>4∨br<1∨(a.body.length:Int)=0 then nV
 else(((Hf a).1++(b5 f a.body a.body.length).1)++wB,(Hf a).2||(b5 f a.body a.body.length).2)
def jJ(f:Int->Lit->nW)(br:Int)(l:Lit):nW:=
 if l.kind=1∨l.kind=2 then(if l.kind=2 then xC++(fh l.atom).1 else(fh l.atom).1,(fh l.atom).2||(!gW l||!jr l.agg))
 else if l.kind=3 then(((bP 17 l.left).1++qM l.op)++(bP 17 l.right).1,(bP 17 l.left).2||((bP 17 l.right).2||(!eR l.atom||(!jr l.agg||(li (l.op<1)||decide (l.op>6))))))
 else if l.kind=4 then((oG (f (br-1)) l.agg br).1,(oG (f (br-1)) l.agg br).2||(!eR l.atom||!gW l)) else nV
def ew:Nat->Int->Lit->nW
 |0,_,_=>nV
 |n+1,br,l=>jJ (ew n) br l
theorem yI{f:Lit->WS->WS}{l:List Lit}{w:WS}(h:w.bad=kw): ∀i,df f l w i=w
 |0=>rfl
 |i+1=>by rw[df,yI h i,am h]
theorem EY{f:Lit->WS->WS}{g:Lit->nW}{l:List Lit}{br:Int}(b: ∀l w,(f l w).br=w.br)(h: ∀i,i<l.length-> ∀w:WS,w.br=br->(f (l.getD i em) w).bad=(w.bad||(g (l.getD i em)).2))(w:WS)(hw:w.br=br): ∀i,i<=l.length->(df f l w i).bad=(w.bad||(b5 g l i).2)
 |0,_=>by show w.bad=(w.bad||false);rw[aau]
 |i+1,hi=>by
  have d:=EY b h w hw i (by omega);cases hb:w.bad with
  |true=>rw[yI hb,hb];rfl
  |false=>
   rw[hb,Z7]at d;rw[df,d,b5,Z7];split
   .rw[d];assumption
   .rename_i u;rw[h i (by omega) _ (by rw[rE,oD f b];exact hw),tx,d];rw[aam]at u;rw[u,Z7];split
    .assumption
    .rename_i j;rw[aam]at j;rw[j]
theorem H3(w:WS)(n:Int):(xd w n).bad=w.bad:=rfl
theorem Ug(w:WS)(a:eL):(rN (a8 (aS w (eh a.var)) [a.var,pZ,fC a.func,p3]) a).bad=(w.bad||(Hf a).2):=by
 unfold rN Hf;split
 .rw[dd,hP,dd,abQ]
 .rw[iG,qJ,hP,dd,abQ]
theorem Q4{f:Lit->WS->WS}{g:Int->Lit->nW}(b: ∀l w,(f l w).br=w.br)(w:WS)(a:eL)(h: ∀i,i<a.body.length-> ∀v:WS,(f (a.body.getD i em) v).bad=(v.bad||(g (16-v.br) (a.body.getD i em)).2)):(yZ f w a).bad=(w.bad||(oG (g (16-w.br-1)) a (16-w.br)).2):=by
 unfold yZ oG;split
 .rw[am (by omega),aa2];rfl
 .rw[be (by omega),iG,H3,EY (g:=g (16-w.br-1)) b (br:=w.br+1) (fun i d v j=>by rw[h i d v,j,show(16:Int)-(w.br+1)=16-w.br-1 by omega]) _ (by show(xd _ 1).br=_;show(rN _ _).br+1=_;rw[FL,dh,qo]) _ (YY _),H3,Ug,abQ]
theorem Lm(n:Nat):li ((n:Int)>0)=!li ((n:Int)=0):=by
 by_cases h:n=0
 .rw[h];rfl
 .rw[decide_eq_true (by omega),decide_eq_false (by omega)];rfl
theorem Bi(w:WS)(a:Atom):(kj w a).bad=(w.bad||(fh a).2):=by
 unfold kj fh;rw[iG];have: ∀i,(eE a.ad (a8 (aS w (ep a.rel)) [a.rel,sO]) i).bad=(w.bad||(eH a i).2):=by
  intro i
  induction i with
  |zero=>rw[eE,hP];rfl
  |succ i ih=>rw[eE,z8,tx,ih,eH,abQ]
 exact this _
theorem B4: ∀(n:Nat) (l:Lit) (w:WS),l.size<=n->(eD n l w).bad=(w.bad||(ew n (16-w.br) l).2)
 |0,l,w,h=>by have:=l.size_pos;omega
 |n+1,l,w,h=>by
  have hs:=l.size_eq;have b:=Q4 (f:=eD n) (g:=ew n) (w4 n) (aS w (kz l)) l.agg fun i x v=>by
   have x:i<l.ar.length:=x;have:=Lit.aI l.ar i x;have:=l.left.size_pos;exact B4 n (l.ar.getD i em) v (by omega)
  rw[qo]at b;rw[eD,ew];have I:eR l.atom=(li (l.atom.rel=⟨#[]⟩)&&li ((l.atom.ad.length:Int)=0)):=rfl;have J:jr l.agg=(li (l.c6=0)&&(li (l.a7=⟨#[]⟩)&&(cV l.jQ&&li ((l.ar.length:Int)=0)))):=rfl;have Y:gW l=(cV l.left&&(cV l.right&&li (l.op=0))):=rfl;have n4:(!(!li (l.atom.rel=⟨#[]⟩)||!li ((l.atom.ad.length:Int)=0)))=eR l.atom:=by rw[I];simp
  have n5:(!(!li (l.op=0)||(!cV l.left||!cV l.right)))=gW l:=by
   rw[Y];cases li (l.op=0)<;>cases cV l.left<;>cases cV l.right<;>rfl
  have B:kz l=((li (l.kind=1)||decide (l.kind=2)||eR l.atom)&&((!!li (l.kind=3)||gW l)&&(li (l.kind=4)||jr l.agg))):=by
   unfold kz;rw[Lm,n4,n5,J]
  unfold D9 jJ;rw[B]at b ⊢;generalize eR l.atom=A at*
  generalize jr l.agg=G at*
  generalize gW l=S at*
  by_cases d:l.kind=2
  .rw[am d,am (.inr d),Bi,iG,dd];simp only[d];cases w.bad<;>cases(fh l.atom).2<;>cases A<;>cases G<;>cases S<;>rfl
  by_cases k1:l.kind=1
  .rw[be d,am k1,am (.inl k1),Bi,dd];simp only[k1];cases w.bad<;>cases(fh l.atom).2<;>cases A<;>cases G<;>cases S<;>rfl
  have y: ¬(l.kind=1∨l.kind=2):=by omega
  rw[be d,be k1,be y];by_cases j:l.kind=3
  .rw[am j,am j];have F:li (l.op<1)=kw∨li (l.op>6)=kw∨ ¬(l.op<1∨7<=l.op):=by
    simp only[decide_eq_true_eq];omega
   split
   .rename_i D;have:(li (l.op<1)||decide (l.op>6))=kw:=by simp;omega
    rw[this];simp[oE]
   .rename_i D;have:(li (l.op<1)||decide (l.op>6))=lc:=by simp;omega
    rw[this,qJ,iG,qJ,dd];simp only[j];cases w.bad<;>cases(bP 17 l.left).2<;>cases(bP 17 l.right).2<;>cases A<;>cases G<;>rfl
  rw[be j,be j];by_cases u:l.kind=4
  .rw[am u,am u,b,dd];simp only[u];cases w.bad<;>cases(oG (ew n (16-w.br-1)) l.agg (16-w.br)).2<;>cases A<;>cases G<;>cases S<;>rfl
  .rw[be u,be u];show kw=(_||true)
   rw[aa2]
def pE(l:Lit):nW:=ew l.size 16 l
theorem AD(l:Lit):iP l=(pE l).2:=by
 unfold iP pE;rw[B4 l.size l WS.o (YY _)];show(lc||(ew l.size (16-0) l).2)=_;rw[Z7];rfl
end Go.Proofs.YtflegjieadkonaaGreatDoor
namespace Go.Proofs.YtflegjieadkonaaGreatDoor
open Go Go.Al
section
structure Ask where
 place:Int
 item:Int
 type:Int
 qu:Int
 deriving Inhabited
def Ask.c(a:Ask):List IV:=[iI a.place,iI a.item,iI a.type,iI a.qu]
structure AK where
 items:List aN
 root:List Int
 l:List Ask
def zn:List aN->aN->Nat
 | [],_=>0
 |a::r,u=>if a=u then 0 else zn r u+1
def AK.ix(A:AK)(u:aN):Int:=((zn A.items u:Nat):Int)
def AK.item(A:AK)(u:aN):AK:=if zn A.items u<A.items.length then A else⟨A.items++ [u],A.root++ [(A.root.length:Int)],A.l⟩
def AK.ask(A:AK)(k:Ask):AK:=if k.type=1∨k.type=2 then⟨A.items,A.root,A.l++ [k]⟩ else A
def AK.want(A:AK)(b:Int)(u:aN)(d:Int):AK:=(A.item u).ask ⟨b,A.ix u,d,0⟩
def AK.rt(A:AK)(i:Int):Int:=A.root.getD i.toNat 0
def AK.tie(A:AK)(x y:Int):AK:=⟨A.items,A.root.map fun z=>if z=A.rt x then A.rt y else z,A.l⟩
section
variable (r:ae) (lit w:Int)
def mC(e:Expr)(A:AK):AK:=if e.kind=1 then A.want lit (bf r e.var w) 1 else if e.kind=2 then A.ask ⟨lit, -1,1,e.val.kind⟩ else A
mutual
def gG:Expr->AK->AK
 | .mk k v val op args=>fun A=>if k=4 then xT args (mC r lit w (.mk k v val op args) A) else mC r lit w (.mk k v val op args) A
def xT:List Expr->AK->AK
 | []=>fun A=>A
 |e::s=>fun A=>xT s (gG e A)
end
theorem DR: ∀(l:List Expr) (A:AK),xT r lit w l A=l.foldl (fun A e=>gG r lit w e A) A
 | [],A=>by rw[xT];rfl
 |e::s,A=>by
  rw[xT];show xT r lit w s (gG r lit w e A)=_;rw[DR s];rfl
def lI(e:Expr)(A:AK):AK:=if e.kind=4 then e.args.foldl (fun A x=>gG r lit w x A) A else A
theorem wX(e:Expr)(A:AK):gG r lit w e A=lI r lit w e (mC r lit w e A):=by
 cases e;rw[gG];show(if _ then xT r lit w _ _ else _)=_;rw[DR];rfl
end
def cj(e:Expr):Int:=if e.kind=2 then e.val.kind else if e.kind=4 then 1 else 0
def j7(p:Prog)(r:ae)(a:Atom)(lit w:Int)(i:Nat)(A:AK):AK:=
 if i<(ir p a.rel).types.length then
  (if(a.ad.getD i em).kind=1 then A.want lit (bf r (a.ad.getD i em).var w) (typeAt p a i)
  else if(a.ad.getD i em).kind=2 then A.ask ⟨lit, -1,typeAt p a i,(a.ad.getD i em).val.kind⟩ else A) else A
def fJ(p:Prog)(r:ae)(a:Atom)(lit w:Int)(A:AK):Nat->AK
 |0=>A
 |i+1=>j7 p r a lit w i (fJ p r a lit w A i)
def lr(r:ae)(lit w:Int)(x y:Expr)(A:AK):AK:=
 if cj x=0 then(if cj y=0 then((A.item (bf r x.var w)).item (bf r y.var w)).tie (A.ix (bf r x.var w)) ((A.item (bf r x.var w)).ix (bf r y.var w)) else A.want lit (bf r x.var w) (cj y))
 else if cj y=0 then A.want lit (bf r y.var w) (cj x) else A.ask ⟨lit, -1,cj x,cj y⟩
def ly(p:Prog)(r:ae)(lit w:Int)(l:Lit)(A:AK):AK:=
 if l.kind=1∨l.kind=2 then fJ p r l.atom lit w A l.atom.ad.length
 else if l.kind=3 then(if l.op=1∨l.op=2 then lr r lit w l.left l.right (lI r lit w l.right (lI r lit w l.left A)) else gG r lit w l.right (gG r lit w l.left A)) else A
def Fg(p:Prog)(r:ae)(i:Int)(A:AK)(b:List Lit):Nat->AK
 |0=>A
 |k+1=>ly p r i i (b.getD k em) (Fg p r i A b k)
def uQ(r:ae)(i:Int)(f:Int)(v:aj)(o:Expr)(A:AK):AK:=
 if f=1 then gG r i i (jk v) A else if f=2 then gG r i i o (gG r i i (jk v) A) else lr r i i (jk v) o (lI r i i o A)
def rW(p:Prog)(r:ae)(i:Int)(l:Lit)(A:AK):AK:=
 if l.kind=4 then Fg p r i (uQ r i l.c6 l.a7 l.jQ A) l.ar l.ar.length else ly p r i (-1) l A
def AK.o:AK:=⟨[],[],[]⟩
def lA(p:Prog)(r:ae):Nat->AK
 |0=>fJ p r r.head (-1) (-1) AK.o r.head.ad.length
 |k+1=>rW p r k (r.body.getD k em) (lA p r k)
def nC(p:Prog)(r:ae):AK:=lA p r r.body.length
inductive F2 {α β:Type} (R:α->β->Prop):List α->List β->Prop
 |nil:F2 R [] []
 |cons {a b l m}:R a b->F2 R l m->F2 R (a::l) (b::m)
theorem F2.snoc{α β:Type}{R:α->β->Prop}{l:List α}{m:List β}{a:α}{b:β}(h:F2 R l m)(hr:R a b):F2 R (l++ [a]) (m++ [b]):=by
 induction h with
 |nil=>exact .cons hr .nil
 |cons h1 _ ih=>exact .cons h1 ih
theorem F2.imp{α β:Type}{R S:α->β->Prop}(f: ∀a b,R a b->S a b){l:List α}{m:List β}(h:F2 R l m):F2 S l m:=by
 induction h with
 |nil=>exact .nil
 |cons h1 _ ih=>exact .cons (f _ _ h1) ih
theorem F2.find{α β γ:Type}{R:α->β->Prop}{p:α->Bool}{q:β->Bool}{f:α->γ}{g:β->γ}(h1: ∀a b,R a b->p a=q b)(h2: ∀a b,R a b->p a=kw->f a=g b){l:List α}{m:List β}(h:F2 R l m):(l.find? p).map f=(m.find? q).map g:=by
 induction h with
 |nil=>rfl
 | @cons a b l m hr _ ih=>
  rw[aaI,aaI,<-h1 a b hr];cases hp:p a with
  |true=>exact congrArg io (h2 a b hr hp)
  |false=>exact ih
theorem F2.mem{α β:Type}{R:α->β->Prop}{l:List α}{m:List β}(h:F2 R l m): ∀a∈l,∃b∈m,R a b:=by
 induction h with
 |nil=>intro a d;cases d
 |cons h1 _ ih=>
  intro x u;rcases Za.1 u with e|e
  .subst e;exact⟨_,Y8,h1⟩
  .obtain⟨b,hb,j⟩:=ih x e;exact⟨b,Y7 _ hb,j⟩
theorem F2.Wg{α β:Type}{R:α->β->Prop}{l:List α}{m:List β}(h:F2 R l m): ∀b∈m,∃a∈l,R a b:=by
 induction h with
 |nil=>intro a d;cases d
 |cons h1 _ ih=>
  intro x u;rcases Za.1 u with e|e
  .subst e;exact⟨_,Y8,h1⟩
  .obtain⟨b,hb,j⟩:=ih x e;exact⟨b,Y7 _ hb,j⟩
def CK(b:List aN)(k:Ask)(x:Want):Prop:=k.place=x.lit∧((∃i:Nat,k.item=i∧b[i]? =io x.at_∧x.has=0∧k.type=x.kind∧(x.kind=1∨x.kind=2))∨(k.item= -1∧ ¬x.has=0∧(k.qu=k.type↔x.has=x.kind)))
theorem CK.mono{b more:List aN}{k:Ask}{x:Want}(h:CK b k x):CK (b++more) k x:=by
 obtain⟨d,j⟩:=h;refine⟨d,j.imp (fun⟨i,g1,g2,g3⟩=>⟨i,g1,?_,g3⟩) id⟩;have u:i<b.length:=by
  rcases YV.1 g2 with⟨h,_⟩;exact h
 rw[Y9 u];exact g2
structure zx (up:UM) (W:List Want) (A:AK):Prop where
 len:A.root.length=A.items.length
 lt: ∀z∈A.root,0<=z∧z<A.items.length
 cls: ∀(i j:Nat) (u v:aN),A.items[i]? =io u->A.items[j]? =io v->(A.root.getD i 0=A.root.getD j 0↔aQ up u=aQ up v)
 up: ∀q∈up,q.1∈A.items∧q.2∈A.items
 ws:F2 (CK A.items) A.l W
theorem ua{b:List aN}: ∀{j:UM} {v:aN},(∀q∈j,q.1∈b∧q.2∈b)->v∈b->aQ j v∈b
 | [],v,_,h=>h
 |(x,y)::r,v,hu,h=>by
  rw[aQ];split
  .exact ua (fun q d=>hu q (Y7 _ d)) (hu _ Y8).2
  .exact ua (fun q d=>hu q (Y7 _ d)) h
theorem AU{l:List Int}{i:Nat}(h:i<l.length):l.getD i 0∈l:=by
 rw[YR,YU h];exact Zz h
theorem Hs: ∀{l:List aN} {u:aN},zn l u<l.length->l[zn l u]? =io u
 | [],u,h=>by cases h
 |a::r,u,h=>by
  rw[zn]at h ⊢;split
  .rename_i e;rw[e];rfl
  .rename_i e;rw[be e,Zr]at h;rw[aaW];exact Hs (by omega)
theorem Ca: ∀{l:List aN} {u:aN},¬zn l u<l.length->u∉l∧zn l u=l.length
 | [],u,_=>⟨fun h=>(nomatch h),rfl⟩
 |a::r,u,h=>by
  rw[zn]at h ⊢;split
  .rename_i e;rw[am e]at h;exact absurd (Nat.succ_pos _) h
  .rename_i e;rw[be e,Zr]at h;obtain⟨b,d⟩:=Ca (l:=r) (u:=u) (by omega)
   exact⟨fun j=>by
    rcases Za.1 j with g|g
    .exact e g.symm
    .exact b g,by rw[d,Zr]⟩
theorem F1(A:AK)(u:aN): ∃i:Nat,A.ix u=i∧(A.item u).items[i]? =io u:=by
 refine⟨zn A.items u,rfl,?_⟩;unfold AK.item;split
 .rename_i h;exact Hs h
 .rename_i h;rw[(Ca h).2];simp
theorem zx.item{J:UM}{W:List Want}{A:AK}(h:zx J W A)(u:aN):zx J W (A.item u):=by
 unfold AK.item;split
 .exact h
 rename_i hu;have hu:=(Ca hu).1;obtain⟨Y,h2,h3,D,h5⟩:=h;have hn:aQ J u=u:=Pt fun q G e=>hu (e▸(D q G).1)
 have x: ∀(i:Nat) (v:aN),(A.items++ [u])[i]? =io v->(i<A.items.length∧A.items[i]? =io v)∨(i=A.items.length∧v=u):=fun i v d=>by
  by_cases F:i<A.items.length
  .rw[Y9 F]at d;exact .inl ⟨F,d⟩
  .rw[Ze (by omega)]at d;rcases YV.1 d with⟨g1,g2⟩;simp only[Zs]at g1;have:i-A.items.length=0:=by omega
   have S:([u]:List aN)[0]? =io v:=this▸d;exact .inr ⟨by omega,by simpa using S.symm⟩
 have I: ∀i,i<A.items.length->(A.root++ [(A.root.length:Int)]).getD i 0=A.root.getD i 0:=fun i F=>by
  rw[YR,YR,Y9 (by omega)]
 have y:(A.root++ [(A.root.length:Int)]).getD A.items.length 0=A.items.length:=by
  rw[<-Y,YR];simp
 have hnew: ∀(i:Nat) (v:aN),i<A.items.length->A.items[i]? =io v-> ¬A.root.getD i 0=A.items.length∧ ¬aQ J v=u:=fun i v F d=>by
  have:=h2 _ (AU (l:=A.root) (i:=i) (by omega));refine⟨by omega,fun e=>hu ?_⟩;rw[<-e];exact ua D (Zm d)
 refine⟨by simp[Y],fun z hz=>?_,fun i j v w d hw=>?_,fun q G=>⟨Zt _ (D q G).1,Zt _ (D q G).2⟩,h5.imp fun a b=>CK.mono⟩
 .simp only[YS,Zs];rcases Y6.1 hz with g|g
  .have:=h2 z g;omega
  .simp only[Y4]at g;omega
 .rcases x i v d with⟨g1,g2⟩|⟨g1,g2⟩<;>rcases x j w hw with⟨k1,B⟩|⟨k1,B⟩
  .rw[I i g1,I j k1];exact h3 i j v w g2 B
  .have:=hnew i v g1 g2;subst k1;subst B;rw[I i g1,y,hn];exact⟨fun e=>absurd e this.1,fun e=>absurd e this.2⟩
  .have:=hnew j w k1 B;subst g1;subst g2;rw[I j k1,y,hn];exact⟨fun e=>absurd e.symm this.1,fun e=>absurd e.symm this.2⟩
  .subst g1;subst g2;subst k1;subst B;exact⟨fun _=>rfl,fun _=>rfl⟩
theorem zx.ask{b:UM}{W:List Want}{A:AK}(h:zx b W A){k:Ask}{x:Want}(d:k.type=1∨k.type=2)(j:CK A.items k x):zx b (W++ [x]) (A.ask k):=by
 unfold AK.ask;rw[am d];exact⟨h.len,h.lt,h.cls,h.up,h.ws.snoc j⟩
theorem zx.want{d:UM}{W:List Want}{A:AK}(h:zx d W A)(lit:Int)(u:aN){t:Int}(b:t=1∨t=2):zx d (W++ [⟨lit,u,t,0⟩]) (A.want lit u t):=by
 obtain⟨i,j,x⟩:=F1 A u;exact(h.item u).ask b ⟨rfl,.inl ⟨i,j,x,rfl,rfl,b⟩⟩
theorem zx.val{u:UM}{W:List Want}{A:AK}(h:zx u W A)(lit:Int){t d j b:Int}(x:t=1∨t=2)(hh: ¬b=0)(he:d=t↔b=j):zx u (W++ [⟨lit,aN.z,j,b⟩]) (A.ask ⟨lit, -1,t,d⟩):=
 h.ask x ⟨rfl,.inr ⟨rfl,hh,he⟩⟩
theorem uZ: ∀(m:UM) (p q v:aN),aQ (m++ [(p,q)]) v=if aQ m v=p then q else aQ m v
 | [],p,q,v=>by
  show(if p=v then q else v)=if v=p then q else v;by_cases h:p=v
  .rw[am h,am h.symm]
  .rw[be h,be fun e=>h e.symm]
 |(x,y)::r,p,q,v=>by
  rw[aat,aQ,aQ];split
  .exact uZ r p q y
  .exact uZ r p q v
theorem C3{t:TS}(ok:iV t.up)(a b v:aN):aQ (sI t (aQ t.up a) (aQ t.up b)).up v=if aQ t.up v=aQ t.up a then aQ t.up b else aQ t.up v:=by
 unfold sI;split
 .rename_i h;by_cases g:aQ t.up v=aQ t.up a
  .rw[am g,<-h,g]
  .rw[be g]
 .show aQ (cF (.si .i64) t.up (aQ t.up a) (aQ t.up b)) v=_;rw[ub _ _ _ (mg _ t.up a ok (YY _)),uZ]
theorem TB{t:TS}(ok:iV t.up)(a b:aN): ∀q∈(sI t (aQ t.up a) (aQ t.up b)).up,q∈t.up∨q=(aQ t.up a,aQ t.up b):=by
 unfold sI;split
 .exact fun q d=> .inl d
 .intro q d;have d:q∈cF (.si .i64) t.up (aQ t.up a) (aQ t.up b):=d;rw[ub _ _ _ (mg _ t.up a ok (YY _))]at d;rcases Y6.1 d with g|g
  .exact .inl g
  .exact .inr (by simpa using g)
theorem mrg{α:Type}[DecidableEq α](x y p q:α):((if x=p then q else x)=(if y=p then q else y))↔(x=y∨(x=p∧y=q)∨(x=q∧y=p)):=by
 by_cases b:x=p<;>by_cases d:y=p
 .rw[am b,am d,b,d];exact⟨fun _=> .inl Z,fun _=>rfl⟩
 .rw[am b,be d,b]
  exact⟨fun e=> .inr (.inl ⟨rfl,e.symm⟩),fun e=>by
   rcases e with e|⟨_,e⟩|⟨_,e⟩
   .exact absurd e.symm d
   .exact e.symm
   .exact absurd e d⟩
 .rw[be b,am d,d]
  exact⟨fun e=> .inr (.inr ⟨e,rfl⟩),fun e=>by
   rcases e with e|⟨e,_⟩|⟨e,_⟩
   .exact absurd e b
   .exact absurd e b
   .exact e⟩
 .rw[be b,be d]
  exact⟨fun e=> .inl e,fun e=>by
   rcases e with e|⟨e,_⟩|⟨_,e⟩
   .exact e
   .exact absurd e b
   .exact absurd e d⟩
theorem zx.tie{t:TS}{W:List Want}{A:AK}(h:zx t.up W A)(ok:iV t.up){x y:Nat}{u v:aN}(Y:A.items[x]? =io u)(S:A.items[y]? =io v){a b:aN}(I:(a=u∧b=v)∨(a=v∧b=u)):zx (sI t (aQ t.up a) (aQ t.up b)).up W (A.tie x y):=by
 have F: ∀{i:Nat} {w:aN},A.items[i]? =io w->i<A.root.length:=fun g=>by
  rcases YV.1 g with⟨h',_⟩;rw[h.len];exact h'
 have J: ∀n:Nat,A.rt n=A.root.getD n 0:=fun n=>rfl
 have D: ∀i:Nat,i<A.root.length->(A.tie x y).root.getD i 0=if A.root.getD i 0=A.rt x then A.rt y else A.root.getD i 0:=fun i hi=>by
  show(A.root.map _).getD i 0=_;rw[YR,Y0,YU hi,YR,YU hi];rfl
 have B: ∀c,c=u∨c=v->aQ t.up c∈A.items:=fun c G=>ua h.up (by
  rcases G with e|e
  .rw[e];exact Zm Y
  .rw[e];exact Zm S)
 refine⟨by show(A.root.map _).length=_;rw[Zo];exact h.len,fun z hz=>?_,fun i j c d G hd=>?_,fun q hq=>?_,h.ws⟩
 .have hz:z∈A.root.map _:=hz;rcases Zu.1 hz with⟨z0,g1,g2⟩;have:=h.lt z0 g1;have h2:=h.lt _ (AU (F S));subst g2;show 0<=_∧_<(A.items.length:Int)
  split
  .exact h2
  .exact this
 .rw[D i (F G),D j (F hd),J,J,mrg,C3 ok,C3 ok,mrg];have e1:=h.cls i j c d G hd;have e2:=h.cls i x c u G Y;have e3:=h.cls i y c v G S;have e4:=h.cls j x d u hd Y;have e5:=h.cls j y d v hd S;rw[e1,e2,e3,e4,e5];rcases I with⟨rfl,rfl⟩|⟨rfl,rfl⟩
  .exact Iff.rfl
  .exact⟨fun e=>e.imp id Or.symm,fun e=>e.imp id Or.symm⟩
 .rcases TB ok a b q hq with g|g
  .exact h.up q g
  .subst g;rcases I with⟨rfl,rfl⟩|⟨rfl,rfl⟩
   .exact⟨B _ (.inl Z),B _ (.inr Z)⟩
   .exact⟨B _ (.inr Z),B _ (.inl Z)⟩
def uu(l:List Want)(q:aN->Bool):Option Int:=(l.find? fun x=>li (x.has=0)&&q x.at_).map Want.kind
theorem ny(l m:List Want)(q:aN->Bool):uu (l++m) q=(uu l q).or (uu m q):=by
 unfold uu;rw[abA,Option.map_or]
def Sw(l m:List Want):Prop:=(∀q,uu l q=uu m q)∧ ∀x,x∈l↔x∈m
theorem Sw.refl(l:List Want):Sw l l:=⟨fun _=>rfl,fun _=>Iff.rfl⟩
theorem Sw.app{l m b d:List Want}(h:Sw l b)(g:Sw m d):Sw (l++m) (b++d):=
 ⟨fun q=>by rw[ny,ny,h.1,g.1],fun x=>by rw[Y6,Y6,h.2,g.2]⟩
theorem Ew{l:List Want}(h: ∀x∈l,x.kind=1)(q:aN->Bool):uu l q=jp∨uu l q=io 1:=by
 unfold uu;cases hf:l.find? fun x=>li (x.has=0)&&q x.at_ with
 |none=>exact .inl Z
 |some x=>exact .inr (congrArg io (h x (abJ hf)))
theorem Sw.swap{l m:List Want}(h1: ∀x∈l,x.kind=1)(h2: ∀x∈m,x.kind=1):Sw (l++m) (m++l):=by
 refine⟨fun q=>?_,fun x=>by rw[Y6,Y6,or_comm]⟩;rw[ny,ny];rcases Ew h1 q with a|a<;>rcases Ew h2 q with b|b<;>rw[a,b]<;>rfl
theorem FZ(r:ae)(lit w:Int)(e:Expr): ∀x∈ky r lit w e,x.kind=1:=by
 unfold ky;split
 .intro x b;rw[Y4.1 b]
 split
 .intro x b;rw[Y4.1 b]
 .intro x b;cases b
theorem xS(r:ae)(lit w:Int): ∀(n:Nat) (e:Expr),e.size<=n-> ∀x∈gr r lit w e,x.kind=1
 |0,e,h=>by have:=e.size_pos;omega
 |n+1,e,h=>by
  intro x j;rw[wW]at j;rcases Y6.1 j with g|g
  .exact FZ r lit w e x g
  .unfold jd at g;split at g
   .rcases aaK.1 g with⟨y,A,u⟩;obtain⟨k,d,rfl⟩:=Z0.1 A;have b:=Expr.aI e.args k d;rw[YR,YU d]at b;have b:(e.args[k]).size<=Expr.aA e.args:=b;have:=e.size_eq;exact xS r lit w n _ (by omega) x u
   .cases g
def Bp(t:TS)(A:AK):Prop:=iV t.up∧ ∃W,Sw t.ws W∧zx t.up W A
def y8(X:List Want)(A B:AK):Prop:= ∀b W,zx b W A->zx b (W++X) B
theorem y8.nil(A:AK):y8 [] A A:=fun b W h=>by rw[Zv];exact h
theorem y8.app{X Y:List Want}{A B C:AK}(h:y8 X A B)(g:y8 Y B C):y8 (X++Y) A C:=fun d W b=>by
 rw[<-Y3];exact g _ _ (h _ _ b)
theorem Bp.add{t:TS}{A B:AK}(h:Bp t A){X:List Want}(g:y8 X A B):Bp (t.add X) B:=by
 obtain⟨ok,W,b,d⟩:=h;exact⟨ok,_,b.app (Sw.refl X),g _ _ d⟩
theorem Bp.swap{t:TS}{A B:AK}(h:Bp t A){X Y:List Want}(h1: ∀x∈X,x.kind=1)(h2: ∀x∈Y,x.kind=1)(g:y8 (Y++X) A B):Bp (t.add (X++Y)) B:=by
 obtain⟨ok,W,k1,b⟩:=h;exact⟨ok,_,k1.app (Sw.swap h1 h2),g _ _ b⟩
mutual
def As:Expr->Prop
 | .mk k _ val _ args=>k=1∨(k=2∧(val.kind=1∨val.kind=2))∨(k=4∧Lb args)
def Lb:List Expr->Prop
 | []=>True
 |e::s=>As e∧Lb s
end
theorem DP: ∀{l:List Expr},Lb l↔ ∀e∈l,As e
 | []=>by rw[Lb];exact⟨fun _ e d=>(nomatch d),fun _=>trivial⟩
 |e::s=>by
  rw[Lb,DP]
  exact⟨fun h x b=>by
   rcases Za.1 b with g|g
   .rw[g];exact h.1
   .exact h.2 x g,fun h=>⟨h e Y8,fun x b=>h x (Y7 _ b)⟩⟩
theorem s9(e:Expr):As e↔(e.kind=1∨(e.kind=2∧(e.val.kind=1∨e.val.kind=2))∨(e.kind=4∧ ∀x∈e.args,As x)):=by
 cases e;rw[As,DP];rfl
theorem vJ{v:tE}(h:dt v=0):v.kind=1∨v.kind=2:=by
 unfold dt at h
 repeat' split at h
 all_goals first|omega|(simp at h;done)|(simp_all;done)|(simp_all;omega)
theorem Wj{l:List Expr}(h:l.length=1):l=[l.getD 0 em]:=by
 match l,h with
 | [a],_=>rfl
theorem Wi{l:List Expr}(h:l.length=2):l=[l.getD 0 em,l.getD 1 em]:=by
 match l,h with
 | [a,b],_=>rfl
theorem yx: ∀(n:Nat) (e:Expr),(bP n e).2=lc->As e:=by
 intro n
 induction n using abx with
 |_ n ih=>
 intro e h;have hh: ∀b k,(gB e b k).2=lc->(k.2=lc->e.kind=4->As e)->As e:=fun b k g1 g2=>by
  unfold gB at g1;split at g1
  .rename_i B;rw[s9];by_cases k1:e.kind=1
   .exact .inl k1
   have y:e.kind=2:=by omega
   refine .inr (.inl ⟨y,?_⟩);unfold yd fa at g1;rw[be k1]at g1;simp only[Zq]at g1;exact vJ (by simpa using g1.1.1)
  split at g1
  .cases g1
  .rename_i k1 y;exact g2 g1 (Z8 fun g=>y (.inl g))
 match n,ih,h with
 |0,ih,h=>exact hh _ _ h fun g _=>by cases g
 |1,ih,h=>exact hh _ _ h fun g _=>by cases g
 |m+2,ih,h=>
  have d: ∀b a,(j8 m b a).2=lc->As a:=fun b a g=>by
   unfold j8 at g;split at g
   .have g:((bP m a).2||decide (m<1))=lc:=g;rw[Zq]at g;exact ih m (by omega) a g.1
   .exact ih (m+1) (by omega) a g
  refine hh _ _ h fun g A=>?_;rw[s9];refine .inr (.inr ⟨A,?_⟩);have g:(np (j8 m) e).2=lc:=g;unfold np at g;split at g
  .split at g
   .rename_i j;rw[Wj j];intro x u;rw[Y4.1 u];exact d _ _ g
   .cases g
  .split at g
   .rename_i j;have g:((j8 m _ (aP e)).2||(j8 m _ (kV e)).2)=lc:=g;rw[Zq]at g;rw[Wi j];intro x u;rcases Za.1 u with q|q
    .rw[q];exact d _ _ g.1
    .rw[Y4.1 q];exact d _ _ g.2
   .cases g
theorem Lz(r:ae)(lit w:Int){e:Expr}(h:As e)(A:AK):y8 (ky r lit w e) A (mC r lit w e A):=by
 rw[s9]at h;unfold ky mC;by_cases k1:e.kind=1
 .rw[am k1,am k1];exact fun j W d=>d.want lit _ (.inl Z)
 rw[be k1,be k1];by_cases b:e.kind=2
 .rw[am b,am b];refine fun j W d=>d.val lit (.inl Z) ?_ Iff.rfl;omega
 .rw[be b,be b];exact y8.nil A
theorem yS(r:ae)(lit w:Int): ∀(l:List Expr),(∀x∈l,∀A,y8 (gr r lit w x) A (gG r lit w x A))-> ∀A,y8 (l.flatMap (gr r lit w)) A (l.foldl (fun A x=>gG r lit w x A) A)
 | [],_,A=>y8.nil A
 |e::s,h,A=>by
  rw[ZF,Zn];exact(h e Y8 A).app (yS r lit w s (fun x b=>h x (Y7 _ b)) _)
theorem oS(r:ae)(lit w:Int): ∀(n:Nat) (e:Expr),e.size<=n->As e-> ∀A,y8 (gr r lit w e) A (gG r lit w e A)
 |0,e,h,_=>by have:=e.size_pos;omega
 |n+1,e,h,ok=>by
  intro A;rw[wW,wX];refine(Lz r lit w ok A).app ?_;rw[s9]at ok;unfold jd lI;split
  .rename_i u;refine yS r lit w _ (fun x j=>?_) _;obtain⟨k,d,rfl⟩:=Z0.1 j;have b:=Expr.aI e.args k d;rw[YR,YU d]at b;have b:(e.args[k]).size<=Expr.aA e.args:=b;have:=e.size_eq;refine oS r lit w n _ (by omega) ?_;rcases ok with g|g|g
   .omega
   .omega
   .exact g.2 _ j
  .exact y8.nil _
theorem Cd(r:ae)(lit w:Int)(e:Expr)(ok:As e)(A:AK):y8 (jd r lit w e) A (lI r lit w e A):=by
 rw[s9]at ok;unfold jd lI;split
 .refine yS r lit w _ (fun x b=>oS r lit w _ x (YY _) ?_) _;rcases ok with g|g|g
  .omega
  .omega
  .exact g.2 _ b
 .exact y8.nil _
def K9(x:Term):Prop:=x.kind=2->(x.val.kind=1∨x.val.kind=2)
def Vc(a:Atom):Prop:= ∀i,i<a.ad.length->K9 (a.ad.getD i em)
theorem yP(p:Prog)(r:ae)(a:Atom)(lit w:Int)(ok:Vc a)(A:AK): ∀i,i<=a.ad.length->y8 (gv p r a lit w i) A (fJ p r a lit w A i)
 |0,_=>y8.nil A
 |i+1,hi=>by
  rw[gv,fJ];refine(yP p r a lit w ok A i (by omega)).app ?_;have ok:=ok i (by omega);generalize fJ p r a lit w A i=B;unfold ma j7 nI;by_cases x:i<(ir p a.rel).types.length
  .rw[am x,decide_eq_true x,ZH];by_cases b:typeAt p a i=1∨typeAt p a i=2
   .have:(li (typeAt p a i=1)||decide (typeAt p a i=2))=kw:=by simpa using b
    rw[this,be (by decide)];by_cases k1:(a.ad.getD i em).kind=1
    .rw[am k1,am k1];exact fun y W d=>d.want lit _ b
    rw[be k1,be k1];by_cases u:(a.ad.getD i em).kind=2
    .rw[am u,am u];refine fun y W d=>d.val lit b ?_ Iff.rfl;have:=ok u;omega
    .rw[be u,be u];exact y8.nil B
   .have:(li (typeAt p a i=1)||decide (typeAt p a i=2))=lc:=by simpa using b
    rw[this,am Z];have j: ∀(C:AK) (k:Ask),k.type=typeAt p a i->C.ask k=C:=fun C k D=>by unfold AK.ask;rw[be (by rw[D];exact b)]
    split
    .intro y W d;unfold AK.want;rw[j _ _ Z,Zv];exact d.item _
    split
    .rw[j _ _ Z];exact y8.nil B
    .exact y8.nil B
  .rw[be x,decide_eq_false x,ZZ,am Z];exact y8.nil B
theorem Ci{e:Expr}(ok:As e)(h: ¬e.kind=1):cj e=lJ e∧(lJ e=1∨lJ e=2):=by
 rw[s9]at ok;unfold cj lJ;by_cases b:e.kind=2
 .rw[am b,am b];exact⟨rfl,by omega⟩
 .rw[be b,be b];have:e.kind=4:=by omega
  rw[am this];exact⟨rfl,.inl Z⟩
theorem sH{e:Expr}(h:e.kind=1):cj e=0:=by
 unfold cj;rw[be (by omega),be (by omega)]
theorem Jd{A:AK}{i:Nat}{u v:aN}(h:A.items[i]? =io v):(A.item u).items[i]? =io v:=by
 unfold AK.item;split
 .exact h
 .show(_++_)[i]? =_;rcases YV.1 h with⟨g,_⟩;rw[Y9 g];exact h
theorem Bk{r:ae}{lit w:Int}{t:TS}{A:AK}{a b:Expr}(B:As a)(ob:As b)(h:Bp t A):Bp (if b.kind=1 then gd r lit w t b a else gd r lit w t a b) (lr r lit w a b A):=by
 unfold gd lr;by_cases kb:b.kind=1
 .rw[am kb,sH kb];by_cases d:a.kind=1
  .rw[am d,sH d,am Z,am Z];obtain⟨ok,W,I,J⟩:=h;obtain⟨i,i1,i2⟩:=F1 A (bf r a.var w);obtain⟨j,S,Y⟩:=F1 (A.item (bf r a.var w)) (bf r b.var w);have u:=(J.item (bf r a.var w)).item (bf r b.var w);rw[i1,S];refine⟨J7 ok _ _,W,by rw[J6];exact I,u.tie ok (x:=i) (y:=j) ?_ Y (.inr ⟨rfl,rfl⟩)⟩;exact Jd i2
  .obtain⟨g1,g2⟩:=Ci B d;have g0: ¬lJ a=0:=by omega
   rw[be d,g1,be g0,am Z,am kb];exact h.add fun D W u=>u.want lit _ g2
 .rw[be kb];obtain⟨g1,g2⟩:=Ci ob kb;have g0: ¬lJ b=0:=by omega
  rw[be kb,g1];by_cases d:a.kind=1
  .rw[am d,sH d,am Z,be g0];exact h.add fun D W u=>u.want lit _ g2
  .obtain⟨k1,k2⟩:=Ci B d;have k0: ¬lJ a=0:=by omega
   rw[be d,k1,be k0,be g0];have G:(if a.kind=2 then[⟨lit,aN.z,lJ b,a.val.kind⟩] else[⟨lit,aN.z,lJ b,1⟩]:List Want)=[⟨lit,aN.z,lJ b,lJ a⟩]:=by
    have F:lJ a=if a.kind=2 then a.val.kind else 1:=rfl;rw[F];split<;>rfl
   rw[G];exact h.add fun D W u=>u.val lit k2 (by omega) ⟨fun e=>e.symm,fun e=>e.symm⟩
def I0(l:Lit):Prop:=((l.kind=1∨l.kind=2)->Vc l.atom)∧(l.kind=3->As l.left∧As l.right)
theorem Hk{p:Prog}{r:ae}{lit w:Int}{t:TS}{A:AK}{l:Lit}(ok:I0 l)(h:Bp t A):Bp (pL p r lit w t l) (ly p r lit w l A):=by
 unfold pL ly;split
 .rename_i k;exact h.add (yP p r l.atom lit w (ok.1 k) A _ (YY _))
 split
 .rename_i k;obtain⟨b,d⟩:=ok.2 k;split
  .unfold jy;exact Bk b d ((h.add (Cd r lit w l.left b A)).add (Cd r lit w l.right d _))
  .exact(h.add (oS r lit w _ l.left (YY _) b A)).add (oS r lit w _ l.right (YY _) d _)
 .exact h
theorem LM{p:Prog}{r:ae}{i:Int}{t:TS}{A:AK}{b:List Lit}(ok: ∀k,k<b.length->I0 (b.getD k em))(h:Bp t A): ∀k,k<=b.length->Bp (sc p r i t b k) (Fg p r i A b k)
 |0,_=>h
 |k+1,hk=>Hk (ok k hk) (LM ok h k (by omega))
theorem Bv(v:aj):As (jk v):=by rw[s9];exact .inl Z
theorem LK(r:ae)(i w:Int)(v:aj):jd r i w (jk v)=[]:=rfl
theorem Ny{r:ae}{i f:Int}{v:aj}{o:Expr}{t:TS}{A:AK}(ok: ¬f=1->As o)(h:Bp t A):Bp (wx r i t f v o) (uQ r i f v o A):=by
 unfold wx uQ;by_cases f1:f=1
 .rw[be (by omega),am f1,am f1];exact h.add (oS r i i _ _ (YY _) (Bv v) A)
 have ok:=ok f1;by_cases f2:f=2
 .simp only[be f1,am f2];rw[TS.add_add];exact h.swap (xS r i i _ _ (YY _)) (xS r i i _ _ (YY _)) ((oS r i i _ _ (YY _) (Bv v) A).app (oS r i i _ _ (YY _) ok _))
 .simp only[be f1,be f2];unfold jy;rw[LK,TS.add_nil];exact Bk (Bv v) ok (h.add (Cd r i i o ok A))
def Wc(l:Lit):Prop:=I0 l∧(l.kind=4->(¬l.c6=1->As l.jQ)∧ ∀k,k<l.ar.length->I0 (l.ar.getD k em))
theorem Kj{p:Prog}{r:ae}{i:Int}{t:TS}{A:AK}{l:Lit}(ok:Wc l)(h:Bp t A):Bp (stepT p r i t l) (rW p r i l A):=by
 unfold stepT rW;split
 .rename_i b;exact LM (ok.2 b).2 (Ny (ok.2 b).1 h) _ (YY _)
 .exact Hk ok.1 h
theorem Wd:Bp TS.o AK.o:=⟨ac,[],Sw.refl _,rfl,fun z d=>(nomatch d),fun i j u v hu=>by simp[AK.o]at hu,fun q b=>(nomatch b),.nil⟩
theorem EX{p:Prog}{r:ae}(b:Vc r.head)(ok: ∀k,k<r.body.length->Wc (r.body.getD k em)): ∀k,k<=r.body.length->Bp (fg p r k) (lA p r k)
 |0,_=>Wd.add (yP p r r.head _ _ b _ _ (YY _))
 |k+1,hk=>Kj (ok k hk) (EX b ok k (by omega))
end
def nh(lit:Int)(A B:AK):Prop:= ∃m,B.l=A.l++m∧ ∀k∈m,k.place=lit
theorem nh.refl(lit:Int)(A:AK):nh lit A A:=⟨[],by simp,fun k b=>(nomatch b)⟩
theorem nh.trans{lit:Int}{A B C:AK}(h:nh lit A B)(g:nh lit B C):nh lit A C:=by
 obtain⟨m,b,d⟩:=h;obtain⟨n,g1,g2⟩:=g;exact⟨m++n,by rw[g1,b,Y3],fun k j=>(Y6.1 j).elim (d k) (g2 k)⟩
theorem yg(lit:Int)(A:AK)(u:aN):nh lit A (A.item u):=by
 unfold AK.item;split
 .exact .refl _ _
 .exact⟨[],by simp,fun k b=>(nomatch b)⟩
theorem xf{lit:Int}(A:AK){k:Ask}(h:k.place=lit):nh lit A (A.ask k):=by
 unfold AK.ask;split
 .exact⟨[k],rfl,fun x b=>by rw[Y4.1 b];exact h⟩
 .exact .refl _ _
theorem tG(lit:Int)(A:AK)(u:aN)(t:Int):nh lit A (A.want lit u t):=(yg lit A u).trans (xf _ Z)
theorem OX(lit:Int)(A:AK)(x y:Int):nh lit A (A.tie x y):=⟨[],by simp[AK.tie],fun k b=>(nomatch b)⟩
theorem LA(r:ae)(lit w:Int)(e:Expr)(A:AK):nh lit A (mC r lit w e A):=by
 unfold mC;split
 .exact tG _ _ _ _
 split
 .exact xf _ Z
 .exact .refl _ _
theorem yT(r:ae)(lit w:Int): ∀(l:List Expr),(∀x∈l,∀A,nh lit A (gG r lit w x A))-> ∀A,nh lit A (l.foldl (fun A x=>gG r lit w x A) A)
 | [],_,A=> .refl _ _
 |e::s,h,A=>(h e Y8 A).trans (yT r lit w s (fun x b=>h x (Y7 _ b)) _)
theorem oT(r:ae)(lit w:Int): ∀(n:Nat) (e:Expr),e.size<=n-> ∀A,nh lit A (gG r lit w e A)
 |0,e,h=>by have:=e.size_pos;omega
 |n+1,e,h=>by
  intro A;rw[wX];refine(LA r lit w e A).trans ?_;unfold lI;split
  .refine yT r lit w _ (fun x j=>?_) _;obtain⟨k,d,rfl⟩:=Z0.1 j;have b:=Expr.aI e.args k d;rw[YR,YU d]at b;have b:(e.args[k]).size<=Expr.aA e.args:=b;have:=e.size_eq;exact oT r lit w n _ (by omega)
  .exact .refl _ _
theorem Ce(r:ae)(lit w:Int)(e:Expr)(A:AK):nh lit A (lI r lit w e A):=by
 unfold lI;split
 .exact yT r lit w _ (fun x _=>oT r lit w _ x (YY _)) _
 .exact .refl _ _
theorem JF(p:Prog)(r:ae)(a:Atom)(lit w:Int)(i:Nat)(A:AK):nh lit A (j7 p r a lit w i A):=by
 unfold j7;split
 .split
  .exact tG _ _ _ _
  split
  .exact xf _ Z
  .exact .refl _ _
 .exact .refl _ _
theorem yQ(p:Prog)(r:ae)(a:Atom)(lit w:Int)(A:AK): ∀i,nh lit A (fJ p r a lit w A i)
 |0=> .refl _ _
 |i+1=>(yQ p r a lit w A i).trans (JF _ _ _ _ _ _ _)
theorem Bm(r:ae)(lit w:Int)(x y:Expr)(A:AK):nh lit A (lr r lit w x y A):=by
 unfold lr;split
 .split
  .exact((yg _ _ _).trans (yg _ _ _)).trans (OX _ _ _ _)
  .exact tG _ _ _ _
 split
 .exact tG _ _ _ _
 .exact xf _ Z
theorem Hm(p:Prog)(r:ae)(lit w:Int)(l:Lit)(A:AK):nh lit A (ly p r lit w l A):=by
 unfold ly;split
 .exact yQ _ _ _ _ _ _ _
 split
 .split
  .exact((Ce _ _ _ _ _).trans (Ce _ _ _ _ _)).trans (Bm _ _ _ _ _ _)
  .exact(oT _ _ _ _ _ (YY _) _).trans (oT _ _ _ _ _ (YY _) _)
 .exact .refl _ _
theorem LN(p:Prog)(r:ae)(i:Int)(A:AK)(b:List Lit): ∀k,nh i A (Fg p r i A b k)
 |0=> .refl _ _
 |k+1=>(LN p r i A b k).trans (Hm _ _ _ _ _ _)
theorem Nz(r:ae)(i f:Int)(v:aj)(o:Expr)(A:AK):nh i A (uQ r i f v o A):=by
 unfold uQ;split
 .exact oT _ _ _ _ _ (YY _) _
 split
 .exact(oT _ _ _ _ _ (YY _) _).trans (oT _ _ _ _ _ (YY _) _)
 .exact(Ce _ _ _ _ _).trans (Bm _ _ _ _ _ _)
theorem Kl(p:Prog)(r:ae)(i:Int)(l:Lit)(A:AK):nh i A (rW p r i l A):=by
 unfold rW;split
 .exact(Nz _ _ _ _ _ _).trans (LN _ _ _ _ _ _)
 .exact Hm _ _ _ _ _ _
theorem KY{l:List Ask}{i:Int}(h: ∀a∈l,a.place=i):l.Pairwise fun a b=>a.place<=b.place:=by
 induction l with
 |nil=>exact .nil
 |cons a r ih=>
  refine .cons (fun b hb=>?_) (ih fun b hb=>h b (Y7 _ hb));rw[h a Y8,h b (Y7 _ hb)];exact aa3 _
theorem nB(p:Prog)(r:ae): ∀k:Nat,((lA p r k).l.Pairwise fun a b=>a.place<=b.place)∧ ∀a∈(lA p r k).l, -1<=a.place∧a.place<k
 |0=>by
  obtain⟨m,d,j⟩:=yQ p r r.head (-1) (-1) AK.o r.head.ad.length;have d:(lA p r 0).l=m:=by show(fJ _ _ _ _ _ _ _).l=m;rw[d];rfl
  rw[d];exact⟨KY j,fun a u=>by rw[j a u];omega⟩
 |k+1=>by
  obtain⟨i1,i2⟩:=nB p r k;obtain⟨m,d,j⟩:=Kl p r k (r.body.getD k em) (lA p r k);have d:(lA p r (k+1)).l=(lA p r k).l++m:=d;rw[d];refine⟨aaV.2 ⟨i1,KY j,fun a u b hb=>?_⟩,fun a u=>?_⟩
  .have:=i2 a u;rw[j b hb];omega
  .rcases Y6.1 u with g|g
   .have:=i2 a g;omega
   .rw[j a g];omega
def AK.kind(A:AK)(i:Int):Int:=((A.l.find? fun k=>li (k.item>=0)&&li (A.rt k.item=A.rt i)).map Ask.type).getD 0
theorem Qe{b:UM}{W:List Want}{A:AK}(h:zx b W A){i:Nat}{u:aN}(hi:A.items[i]? =io u):A.kind i=(uu W fun s=>li (aQ b s=aQ b u)).getD 0:=by
 unfold AK.kind uu;refine congrArg (fun o:Option Int=>o.getD 0) (F2.find ?_ ?_ h.ws)
 .rintro k x ⟨_,⟨j,g1,g2,g3,_⟩|⟨g1,g2,_⟩⟩
  .rw[g1,decide_eq_true (by omega:(j:Int)>=0),ZH,g3,decide_eq_true Z,ZH];exact decide_eq_decide.2 (h.cls j i _ _ g2 hi)
  .rw[g1,decide_eq_false (by omega),decide_eq_false g2];rfl
 .rintro k x ⟨_,⟨j,g1,g2,g3,g4,_⟩|⟨g1,g2,_⟩⟩ hp
  .exact g4
  .rw[g1]at hp;simp at hp
theorem P8{m:KM}{a c:aN}{v:Int}:bU (.si .i64) (cF (.si .i64) m a v) c 0=if a=c then v else bU (.si .i64) m c 0:=by
 induction m with
 |nil=>simp only[cF,bU]
 |cons x r ih=>
  obtain⟨y,b⟩:=x;simp only[cF];by_cases h:y=a
  .rw[am h];simp only[bU];by_cases d:a=c
   .simp[d]
   .have: ¬y=c:=fun e=>d (h▸e)
    rw[be d,be d,be this]
  .rw[be h];simp only[bU,ih];by_cases d:y=c
   .have: ¬a=c:=fun e=>h (d.trans e.symm)
    rw[am d,be this,am d]
   .rw[be d,be d]
theorem AJ(b:UM)(c:aN): ∀(d:List Want) (m:KM),(∀x∈d,x.has=0-> ¬x.kind=0)->bU (.si .i64) (d.foldl (cK b) m) c 0=if bU (.si .i64) m c 0=0 then(uu d fun s=>li (aQ b s=c)).getD 0 else bU (.si .i64) m c 0
 | [],m,_=>by
  show bU (.si .i64) m c 0=if bU (.si .i64) m c 0=0 then 0 else _;split<;>first|assumption|rfl
 |x::s,m,h=>by
  have j:=h x Y8;rw[Zn,AJ b c s _ fun y u=>h y (Y7 _ u)];unfold uu;rw[aaI];unfold cK;by_cases g:x.has=0∧bU (.si .i64) m (aQ b x.at_) 0=0
  .obtain⟨g1,g2⟩:=g;rw[am (show x.has=0∧bU (.si .i64) m (aQ b x.at_) 0=0 from⟨g1,g2⟩),P8,decide_eq_true g1,ZH];by_cases e:aQ b x.at_=c
   .rw[am e,be (j g1),show(fun s=>li (aQ b s=c)) x.at_=kw from decide_eq_true e,am (e▸g2)];rfl
   .rw[be e,show(fun s=>li (aQ b s=c)) x.at_=lc from decide_eq_false e]
  .rw[be g];by_cases k:bU (.si .i64) m c 0=0
   .rw[am k,am k];have:(li (x.has=0)&&li (aQ b x.at_=c))=lc:=by
     cases hd:li (x.has=0) with
     |false=>rfl
     |true=>
      rw[ZH,decide_eq_false];intro e;exact g ⟨zT hd,e▸k⟩
    rw[this]
   .rw[be k,be k]
abbrev B7(t:TS):TS:=⟨t.up,t.ws,t.ws.foldl (cK t.up) []⟩
theorem LG{t:TS}{W:List Want}{A:AK}(h1:Sw t.ws W)(h:zx t.up W A)(u:aN):bU (.si .i64) (B7 t).kind (aQ t.up u) 0=(uu W fun s=>li (aQ t.up s=aQ t.up u)).getD 0:=by
 show bU (.si .i64) (t.ws.foldl (cK t.up) []) (aQ t.up u) 0=_;rw[AJ,<-h1.1]
 .exact am Z
 .intro x d b;obtain⟨k,_,_,⟨j,_,_,_,_,g⟩|⟨_,g,_⟩⟩:=h.ws.Wg x ((h1.2 x).1 d)
  .omega
  .exact absurd b g
def AK.bad(A:AK)(k:Ask):Bool:=!li ((if k.item>=0 then A.kind k.item else k.qu)=k.type)
def jl(r:ae)(A:AK):aY:=match A.l.find? A.bad with
 |some k=>(63,ft r k.place)
 |none=>aY.z
theorem MV{t:TS}{W:List Want}{A:AK}(h1:Sw t.ws W)(h:zx t.up W A){k:Ask}{x:Want}(b:CK A.items k x):A.bad k=!li (tI (B7 t) x=x.kind):=by
 unfold AK.bad tI;obtain⟨_,⟨j,g1,g2,g3,g4,_⟩|⟨g1,g2,g3⟩⟩:=b
 .rw[g1,am (by omega),am g3,g4,LG h1 h,Qe h g2]
 .rw[be (by omega),be g2];exact congrArg _ (decide_eq_decide.2 g3)
theorem uN{t:TS}{A:AK}(h:Bp t A)(lit:Int):nF (B7 t) lit=kw↔ ∃k∈A.l,k.place=lit∧A.bad k=kw:=by
 obtain⟨_,W,d,j⟩:=h;unfold nF;rw[ZG];constructor
 .rintro⟨x,y,hb⟩;obtain⟨k,u,b⟩:=j.ws.Wg x ((d.2 x).1 y);unfold rT at hb;rw[Zf,decide_eq_true_iff]at hb;exact⟨k,u,b.1.trans hb.1,by rw[MV d j b];exact hb.2⟩
 .rintro⟨k,u,hp,hb⟩;obtain⟨x,y,b⟩:=j.ws.mem k u;refine⟨x,(d.2 x).2 y,?_⟩;unfold rT;rw[Zf,decide_eq_true_iff];exact⟨b.1.symm.trans hp,by rw[<-MV d j b];exact hb⟩
theorem P6{r:ae}{e:Int}{f:Int->Bool}{k:aY}(h: ∀lit,f lit=lc):bK r e f k=k:=by
 rw[bK,vC,eK];exact ZL.2 fun x _=>by rw[h x];decide
theorem Ii{r:ae}{t:TS}{A:AK}(h:Bp t A)(h1:A.l.Pairwise fun a b=>a.place<=b.place)(h2: ∀a∈A.l, -1<=a.place∧a.place<r.body.length):jl r A=bK r 63 (nF (B7 t)) aY.z:=by
 unfold jl;cases hf:A.l.find? A.bad with
 |none=>
  rw[P6];intro lit;rw[<-aam,uN h];rintro⟨k,B,_,hb⟩;rw[aak]at hf;exact hf k B hb
 |some k=>
  obtain⟨hb,l1,l2,S,a0⟩:=List.find?_eq_some_iff_append.1 hf;have B:k∈A.l:=abJ hf;have hr:=h2 k B;obtain⟨n,J⟩: ∃n:Nat,k.place=(n:Int)-1:=⟨(k.place+1).toNat,by omega⟩
  have u: ∀y∈A.l,A.bad y=kw->k.place<=y.place:=fun y D d=>by
   rw[S]at D h1;rcases Y6.1 D with g|g
   .have:=a0 y g;rw[d]at this;cases this
   .rcases Za.1 g with e|e
    .rw[e];exact aa3 _
    .exact(aaj.1 (aaV.1 h1).2.1).1 y e
  show(63,ft r k.place)=_;rw[J,mz (i:=n) ?_ (by omega) ?_]
  .refine ZL.2 fun x Y=>?_
   rw[uN h];rintro⟨y,D,hp,d⟩;have:=u y D d;obtain⟨j,G⟩:=List.mem_iff_getElem?.1 Y;have I:j<n:=by
    rcases YV.1 G with⟨g,_⟩;rw[ZJ]at g;omega
   rw[ZS,am I]at G;have F:=ry r.body.length j (by omega);rw[YR,G]at F;have F:x=(j:Int)-1:=F;omega
  .rw[uN h];exact⟨k,B,J,hb⟩
theorem J2{p:Prog}{r:ae}(b:Vc r.head)(ok: ∀k,k<r.body.length->Wc (r.body.getD k em)):jl r (nC p r)=bK r 63 (nF (oK p r)) aY.z:=
 Ii (t:=fg p r r.body.length) (EX b ok _ (YY _)) (nB p r _).1 (nB p r _).2
theorem E2{a:Atom}(h:(fh a).2=lc):Vc a:=by
 have u: ∀i,i<=a.ad.length->(eH a i).2=lc-> ∀k,k<i->K9 (a.ad.getD k em):=by
  intro i
  induction i with
  |zero=>intro _ _ k j;omega
  |succ i ih=>
   intro d hb k j;have hb:((eH a i).2||(pz (a.ad.getD i em)).2)=lc:=hb;rw[Zq]at hb;rcases ZA.1 j with g|g
   .exact ih (by omega) hb.1 k g
   .subst g;intro x;have b:=hb.2;unfold pz fa at b;rw[be (by omega),be (by omega)]at b;simp only[Zq]at b;exact vJ (by simpa using b.1.1)
 exact fun i d=>u a.ad.length (YY _) h i d
theorem DY{f:Lit->nW}{l:List Lit}: ∀i,(b5 f l i).2=lc-> ∀k,k<i->(f (l.getD k em)).2=lc
 |0,_,k,hk=>by omega
 |i+1,h,k,hk=>by
  rw[b5]at h;split at h
  .cases h
  rename_i b;split at h
  .cases h
  rename_i d;rcases ZA.1 hk with g|g
  .exact DY i (by simpa using b) k g
  .subst g;simpa using d
theorem Lw{f:Int->Lit->nW}{br:Int}{l:Lit}(h:(jJ f br l).2=lc):I0 l:=by
 unfold jJ at h;refine⟨fun k=>?_,fun k=>?_⟩
 .rw[am k]at h;have h:((fh l.atom).2||_)=lc:=h;rw[Zq]at h;exact E2 h.1
 .rw[be (by omega),am k]at h;have h:((bP 17 l.left).2||((bP 17 l.right).2||_))=lc:=h;rw[Zq,Zq]at h;exact⟨yx _ _ h.1,yx _ _ h.2.1⟩
theorem AA{n:Nat}{br:Int}{l:Lit}(h:(ew n br l).2=lc):I0 l:=by
 match n,h with
 |0,h=>cases h
 |n+1,h=>exact Lw h
theorem Qb{l:Lit}(h:iP l=lc):Wc l:=by
 rw[AD]at h;unfold pE at h;refine⟨AA h,fun j=>?_⟩;have u:=l.size_pos;obtain⟨n,d⟩: ∃n,l.size=n+1:=⟨l.size-1,by omega⟩
 rw[d]at h;have h:(jJ (ew n) 16 l).2=lc:=h;unfold jJ at h;rw[be (by omega),be (by omega),am j]at h;have h:((oG (ew n (16-1)) l.agg 16).2||_)=lc:=h;rw[Zq]at h;have h:=h.1;unfold oG at h;split at h
 .cases h
 have h:((Hf l.agg).2||(b5 (ew n (16-1)) l.agg.body l.agg.body.length).2)=lc:=h;rw[Zq]at h;refine⟨fun f1=>?_,fun k b=>?_⟩
 .have h:=h.1;unfold Hf at h;rw[be (show¬l.agg.func=1 from f1)]at h;have h:(_||(bP 17 l.jQ).2)=lc:=h;rw[Zq]at h;exact yx _ _ h.2
 .exact AA (DY _ h.2 k b)
section
abbrev AK.cell(o:List aj)(a b c na nb d:Nat):AO:= .cells [.sl a 0 na 2,.sl b 0 nb 1,.sl c 0 d 4,.iv (strs o)]
abbrev AK.O(A:AK)(o:List aj):List AO:=[AK.cell o 1 2 3 A.items.length A.root.length A.l.length,aG 2 A.items aN.c,aG 1 A.root ba,aG 4 A.l Ask.c]
abbrev AK.K(A:AK)(o:List aj):AH:=[(0,io (AK.cell o 1 2 3 A.items.length A.root.length A.l.length)),(1,io (aG 2 A.items aN.c)),(2,io (aG 1 A.root ba)),(3,io (aG 4 A.l Ask.c))]
abbrev AK.H(A:AK)(o:List aj):AH:=[(0,io (AK.cell o 4 5 6 A.items.length A.root.length A.l.length)),(4,io (aG 2 A.items aN.c)),(5,io (aG 1 A.root ba)),(6,io (aG 4 A.l Ask.c))]
abbrev AK.st(A:AK)(o:List aj)(i n0:Nat)(X:AH):AH:=(i,io (AK.cell o n0 (n0+1) (n0+2) A.items.length A.root.length A.l.length))::(n0,io (aG 2 A.items aN.c))::(n0+1,io (aG 1 A.root ba))::(n0+2,io (aG 4 A.l Ask.c))::X
section
variable {P:Program} {nt:Nat} {Q:AQ} {k:List KI} {s:AS}
def kS(s:AS)(o:List aj)(A:AK)(i a b c:Nat):AS:=match s with|⟨f,h,n⟩=>⟨f,(i,io (AK.cell o n (n+1) (n+2) A.items.length A.root.length A.l.length))::(n,io (aG 2 A.items aN.c))::(n+1,io (aG 1 A.root ba))::(n+2,io (aG 4 A.l Ask.c))::(i,jp)::(a,jp)::(b,jp)::(c,jp)::h,n+3⟩
theorem Wn(s:AS)(o:List aj)(A:AK)(i a b c:Nat):kS s o A i a b c=⟨s.f,(i,io (AK.cell o s.nx (s.nx+1) (s.nx+2) A.items.length A.root.length A.l.length))::(s.nx,io (aG 2 A.items aN.c))::(s.nx+1,io (aG 1 A.root ba))::(s.nx+2,io (aG 4 A.l Ask.c))::(i,jp)::(a,jp)::(b,jp)::(c,jp)::s.h,s.nx+3⟩:=by cases s;rfl
theorem Ed{op:Oper}{B:Call}{g:FuncId}{args y:List PV}{o:List aj}{A A':AK}{u:PV}{i a b c na nb I:Nat}{D F G:List (List PV)}{s':AS}(hc:bV P g (.ptr 0 0::args) (A.O o) u (A'.H o) 7)(ho:op.op= .call B)(ha:bX s.f B=io (g,.ptr i 0::y))
  (hi:s.h.get i=io (AK.cell o a b c na nb I)) (h1:s.h.get a=io (.row 2 D)) (h2:s.h.get b=io (.row 1 F)) (h3:s.h.get c=io (.row 4 G)) (n1:na=A.items.length) (n2:nb=A.root.length) (n3:I=A.l.length)
  (e1:D=A.items.map fun x=>(aN.c x).map .iv) (e2:F=A.root.map fun x=>(ba x).map .iv) (e3:G=A.l.map fun x=>(Ask.c x).map .iv)
  (hlt:[i,a,b,c].all (fun x=>Zb x s.nx)=kw) (hnd:b4 [i,a,b,c]=kw) (has:y=args) (hlow:bq 0 args=kw) (hr:u.low 0=kw)
  (hp:putDst nt op u (kS s o A' i a b c)=io s'):OT P nt op s (fun t=>t=s'):=by
 subst has;subst n1;subst n2;subst n3;subst e1;subst e2;subst e3;have d: ∀σ,dK σ y=y:=fun σ=>iW σ y hlow;refine nA ho ha hc (dA hnd) (fun j J=>YP (Zj.1 hlt j J)) ?_ ?_ ?_
 .simp only[Zd,ZR,hi,h1,h2,h3,bA];rfl
 .simp only[dK,d];rfl
 .rintro q S n0 ⟨rfl,rfl,rfl⟩;rw[PV.jV _ _ hr];rw[Wn]at hp;refine⟨s',?_,rfl⟩;rw[<-hp];simp only[AK.H,aO,sV,ZW,bA];rfl
theorem XB{all rest:List Oper}{op:Oper}{u:Call}{g:FuncId}{args j:List PV}{o:List aj}{A A':AK}{d:PV}{i a b c na nb F:Nat}{y B D:List (List PV)}{s':AS}(hc:bV P g (.ptr 0 0::args) (A.O o) d (A'.H o) 7)(ho:op.op= .call u)(hg:op.guard=jp)(ha:bX s.f u=io (g,.ptr i 0::j))
  (hi:s.h.get i=io (AK.cell o a b c na nb F)) (h1:s.h.get a=io (.row 2 y)) (h2:s.h.get b=io (.row 1 B)) (h3:s.h.get c=io (.row 4 D)) (n1:na=A.items.length) (n2:nb=A.root.length) (n3:F=A.l.length)
  (e1:y=A.items.map fun x=>(aN.c x).map .iv) (e2:B=A.root.map fun x=>(ba x).map .iv) (e3:D=A.l.map fun x=>(Ask.c x).map .iv)
  (hlt:[i,a,b,c].all (fun x=>Zb x s.nx)=kw) (hnd:b4 [i,a,b,c]=kw) (has:j=args) (hlow:bq 0 args=kw) (hr:d.low 0=kw)
  (hp:putDst nt op d (kS s o A' i a b c)=io s') (h:GO P nt (.ops all rest::k) Q s'):GO P nt (.ops all (op::rest)::k) Q s:=
 dI hg (Ed hc ho ha hi h1 h2 h3 n1 n2 n3 e1 e2 e3 hlt hnd has hlow hr hp) fun t G=>by subst G;exact h
theorem rQ{all rest:List Oper}{op:Oper}{u:Call}{g:FuncId}{args j:List PV}{o:List aj}{A A':AK}{d:PV}{i a b c na nb F:Nat}{y B D:List (List PV)}{s':AS}(hc:bV P g (.ptr 0 0::args) (A.O o) d (A'.H o) 7)(h:GO P nt (.ops all rest::k) Q s')(ho:op.op= .call u:=by exact rfl)(hg:op.guard=jp:=by exact rfl)(ha:bX s.f u=io (g,.ptr i 0::j):=by exact rfl)(hi:s.h.get i=io (AK.cell o a b c na nb F):=by exact rfl)(h1:s.h.get a=io (.row 2 y):=by exact rfl)(h2:s.h.get b=io (.row 1 B):=by exact rfl)(h3:s.h.get c=io (.row 4 D):=by exact rfl)(n1:na=A.items.length:=by first|rfl|(rw[YS];rfl)|simp)(n2:nb=A.root.length:=by first|rfl|(rw[YS];rfl)|simp)(n3:F=A.l.length:=by first|rfl|(rw[YS];rfl)|simp)(e1:y=A.items.map fun x=>(aN.c x).map .iv:=by first|rfl|(rw[YX];rfl)|(simp only[YX,Y3];rfl))(e2:B=A.root.map fun x=>(ba x).map .iv:=by first|rfl|(rw[YX];rfl)|(simp only[YX,Y3];rfl))(e3:D=A.l.map fun x=>(Ask.c x).map .iv:=by first|rfl|(rw[YX];rfl)|(simp only[YX,Y3];rfl))(hlt:[i,a,b,c].all (fun x=>Zb x s.nx)=kw:=by exact rfl)(hnd:b4 [i,a,b,c]=kw:=by exact rfl)(has:j=args:=by exact rfl)(hlow:bq 0 args=kw:=by exact rfl)(hr:d.low 0=kw:=by exact rfl)(hp:putDst nt op d (kS s o A' i a b c)=io s':=by exact rfl):GO P nt (.ops all (op::rest)::k) Q s:=XB (hc:=hc) (ho:=ho) (hg:=hg) (ha:=ha) (hi:=hi) (h1:=h1) (h2:=h2) (h3:=h3) (n1:=n1) (n2:=n2) (n3:=n3) (e1:=e1) (e2:=e2) (e3:=e3) (hlt:=hlt) (hnd:=hnd) (has:=has) (hlow:=hlow) (hr:=hr) (hp:=hp) (h:=h)
theorem Wv{ty:Ty}(j:cB P ty){all:List Oper}{todo pend:List (Nat×Oper)}{u:Nat}{B y:Prop}{op:Oper}{F:Call}{g:FuncId}{args D:List PV}{o:List aj}{A A':AK}{d:PV}{i a b c na nb S:Nat}{G I J:List (List PV)}{s':AS}(hc:bV P g (.ptr 0 0::args) (A.O o) d (A'.H o) 7)
  (hrd:fq todo=[(u,op)]) (ho:op.op= .call F) (ha:bX s.f F=io (g,.ptr i 0::D))
  (hi:s.h.get i=io (AK.cell o a b c na nb S)) (h1:s.h.get a=io (.row 2 G)) (h2:s.h.get b=io (.row 1 I)) (h3:s.h.get c=io (.row 4 J)) (n1:na=A.items.length) (n2:nb=A.root.length) (n3:S=A.l.length)
  (e1:G=A.items.map fun x=>(aN.c x).map .iv) (e2:I=A.root.map fun x=>(ba x).map .iv) (e3:J=A.l.map fun x=>(Ask.c x).map .iv)
  (hlt:[i,a,b,c].all (fun x=>Zb x s.nx)=kw) (hnd:b4 [i,a,b,c]=kw) (has:D=args) (hlow:bq 0 args=kw) (hr:d.low 0=kw)
  (hp:putDst nt op d (kS s o A' i a b c)=io s')
  (hg:cN nt all s.f op=io kw) (hpb:jH all pend op=kw) (hE:pd todo [u]=kw)
  (hag:tC ty nt all s todo pend=io B) (hCA:B) (hag2:eC ty nt all s' (bn pend op)=io y) (hC2:y)
  (h:GO P nt (.cZ all (todo.filter fun x=>!Zk x.1 u) (bn pend op)::k) Q s'):GO P nt (.cZ all todo pend::k) Q s:=
 yp j hrd hg hpb hE hag hCA (Ed hc ho ha hi h1 h2 h3 n1 n2 n3 e1 e2 e3 hlt hnd has hlow hr hp) hag2 hC2 h
theorem Jk{all:List Oper}{todo pend:List (Nat×Oper)}{j:Nat}{y u:Prop}{op:Oper}{D:Call}{g:FuncId}{args B:List PV}{o:List aj}{A A':AK}{d:PV}{i a b c na nb J:Nat}{F G I:List (List PV)}{s':AS}(hc:bV Tryz.prog g (.ptr 0 0::args) (A.O o) d (A'.H o) 7)(h:GO Tryz.prog nt (.cZ all (todo.filter fun x=>!Zk x.1 j) (bn pend op)::k) Q s')(hrd:fq todo=[(j,op)]:=by exact rfl)(ho:op.op= .call D:=by exact rfl)(ha:bX s.f D=io (g,.ptr i 0::B):=by exact rfl)(hi:s.h.get i=io (AK.cell o a b c na nb J):=by exact rfl)(h1:s.h.get a=io (.row 2 F):=by exact rfl)(h2:s.h.get b=io (.row 1 G):=by exact rfl)(h3:s.h.get c=io (.row 4 I):=by exact rfl)(n1:na=A.items.length:=by first|rfl|(rw[YS];rfl)|simp)(n2:nb=A.root.length:=by first|rfl|(rw[YS];rfl)|simp)(n3:J=A.l.length:=by first|rfl|(rw[YS];rfl)|simp)(e1:F=A.items.map fun x=>(aN.c x).map .iv:=by first|rfl|(rw[YX];rfl)|(simp only[YX,Y3];rfl))(e2:G=A.root.map fun x=>(ba x).map .iv:=by first|rfl|(rw[YX];rfl)|(simp only[YX,Y3];rfl))(e3:I=A.l.map fun x=>(Ask.c x).map .iv:=by first|rfl|(rw[YX];rfl)|(simp only[YX,Y3];rfl))(hlt:[i,a,b,c].all (fun x=>Zb x s.nx)=kw:=by exact rfl)(hnd:b4 [i,a,b,c]=kw:=by exact rfl)(has:B=args:=by exact rfl)(hlow:bq 0 args=kw:=by exact rfl)(hr:d.low 0=kw:=by exact rfl)(hp:putDst nt op d (kS s o A' i a b c)=io s':=by exact rfl)(hg:cN nt all s.f op=io kw:=by exact rfl)(hpb:jH all pend op=kw:=by exact rfl)(hE:pd todo [j]=kw:=by exact rfl)(hag:tC px nt all s todo pend=io y:=by exact rfl)(hCA:y:=by(repeat' (first|exact ac|exact rfl|exact aL.refl _|exact aL.bk (by assumption)|apply ZC))<;>first|omega|(simp only[Zi];omega)|(simp;done)|(simp;omega))(hag2:eC px nt all s' (bn pend op)=io u:=by exact rfl)(hC2:u:=by(repeat' (first|exact ac|exact rfl|exact aL.refl _|exact aL.bk (by assumption)|apply ZC))<;>first|omega|(simp only[Zi];omega)|(simp;done)|(simp;omega)):GO Tryz.prog nt (.cZ all todo pend::k) Q s:=Wv ab (hc:=hc) (hrd:=hrd) (ho:=ho) (ha:=ha) (hi:=hi) (h1:=h1) (h2:=h2) (h3:=h3) (n1:=n1) (n2:=n2) (n3:=n3) (e1:=e1) (e2:=e2) (e3:=e3) (hlt:=hlt) (hnd:=hnd) (has:=has) (hlow:=hlow) (hr:=hr) (hp:=hp) (hg:=hg) (hpb:=hpb) (hE:=hE) (hag:=hag) (hCA:=hCA) (hag2:=hag2) (hC2:=hC2) (h:=h)
theorem Wz{ty:TypeId->Option cD}{l:List ResultVar}{D:PV}{e:Exit}{o:List aj}{A:AK}{d:PV}{a b c na nb B:Nat}{j u y:List (List PV)}(he:e= .normal∨e= .ret)(hr:lj ty s l=io D)(hi:s.h.get 0=io (AK.cell o a b c na nb B))(h1:s.h.get a=io (.row 2 j))(h2:s.h.get b=io (.row 1 u))(h3:s.h.get c=io (.row 4 y))
  (n1:na=A.items.length) (n2:nb=A.root.length) (n3:B=A.l.length)
  (e1:j=A.items.map fun x=>(aN.c x).map .iv) (e2:u=A.root.map fun x=>(ba x).map .iv) (e3:y=A.l.map fun x=>(Ask.c x).map .iv)
  (hlt:[a,b,c].all (fun x=>Zb x s.nx)=kw) (hnd:b4 [0,a,b,c]=kw) (hns:aaM 4 s.nx=kw) (hrl:aL D d) (hlow:d.low 0=kw) (hlow7:d.low 7=kw):CM ty l 4 d (A.H o) 7 e s:=by
 subst n1;subst n2;subst n3;subst e1;subst e2;subst e3;refine eV [a,b,c] he hr ⟨rfl,YP hns,fun x F=>YP (Zj.1 hlt x F),⟨?_,hlow7,ac⟩,⟨⟨_,hi,.of_eq Z⟩,YP Z,rfl,⟨_,h1,.of_eq (bA _).symm⟩,YP Z,cJ _,⟨_,h2,.of_eq (bA _).symm⟩,YP Z,cJ _,⟨_,h3,.of_eq (bA _).symm⟩,YP Z,cJ _,ac⟩,dA hnd⟩;rw[PV.jV _ _ hlow];exact hrl
theorem uL{ty:TypeId->Option cD}{l:List ResultVar}{D:PV}{e:Exit}{o:List aj}{A:AK}{d:PV}{a b c na nb B:Nat}{j u y:List (List PV)}(he:e= .normal∨e= .ret:=by first|exact .inr Z|exact .inl Z)(hr:lj ty s l=io D:=by exact rfl)(hi:s.h.get 0=io (AK.cell o a b c na nb B):=by exact rfl)(h1:s.h.get a=io (.row 2 j):=by exact rfl)(h2:s.h.get b=io (.row 1 u):=by exact rfl)(h3:s.h.get c=io (.row 4 y):=by exact rfl)(n1:na=A.items.length:=by first|rfl|(rw[YS];rfl)|simp)(n2:nb=A.root.length:=by first|rfl|(rw[YS];rfl)|simp)(n3:B=A.l.length:=by first|rfl|(rw[YS];rfl)|simp)(e1:j=A.items.map fun x=>(aN.c x).map .iv:=by first|rfl|(rw[YX];rfl)|(simp only[YX,Y3];rfl))(e2:u=A.root.map fun x=>(ba x).map .iv:=by first|rfl|(rw[YX];rfl)|(simp only[YX,Y3];rfl))(e3:y=A.l.map fun x=>(Ask.c x).map .iv:=by first|rfl|(rw[YX];rfl)|(simp only[YX,Y3];rfl))(hlt:[a,b,c].all (fun x=>Zb x s.nx)=kw:=by exact rfl)(hnd:b4 [0,a,b,c]=kw:=by exact rfl)(hns:aaM 4 s.nx=kw:=by exact rfl)(hrl:aL D d:=by exact .refl _)(hlow:d.low 0=kw:=by exact rfl)(hlow7:d.low 7=kw:=by exact rfl):CM ty l 4 d (A.H o) 7 e s:=Wz (he:=he) (hr:=hr) (hi:=hi) (h1:=h1) (h2:=h2) (h3:=h3) (n1:=n1) (n2:=n2) (n3:=n3) (e1:=e1) (e2:=e2) (e3:=e3) (hlt:=hlt) (hnd:=hnd) (hns:=hns) (hrl:=hrl) (hlow:=hlow) (hlow7:=hlow7)
theorem Nr{n0 i a b c na nb I:Nat}{D F G:List (List PV)}{J:AF}{o:List aj}{A A':AK}(hw:A=A')(hi:s.h.get i=io (AK.cell o a b c na nb I))(h1:s.h.get a=io (.row 2 D))(h2:s.h.get b=io (.row 1 F))(h3:s.h.get c=io (.row 4 G))
  (n1:na=A.items.length) (n2:nb=A.root.length) (n3:I=A.l.length)
  (e1:D=A.items.map fun x=>(aN.c x).map .iv) (e2:F=A.root.map fun x=>(ba x).map .iv) (e3:G=A.l.map fun x=>(Ask.c x).map .iv)
  (hlt:[a,b,c].all (fun x=>Zb x s.nx)=kw) (hnd:b4 [i,a,b,c]=kw) (h0:Zb i n0=kw) (hns:aaM n0 s.nx=kw) (hf:Gw (n0+3) (sg n0 [a,b,c]) s.f J):
  Wk n0 [a,b,c] s ⟨J,[(i,io (AK.cell o n0 (n0+1) (n0+2) A'.items.length A'.root.length A'.l.length)),(n0,io (aG 2 A'.items aN.c)),(n0+1,io (aG 1 A'.root ba)),(n0+2,io (aG 4 A'.l Ask.c))],n0+3⟩:=by
 subst hw;subst n1;subst n2;subst n3;subst e1;subst e2;subst e3;have j:i<n0:=YP h0;have s0:sg n0 [a,b,c] i=i:=gx j;have d: ∀m,Zb (n0+m) n0=lc:=fun m=>aaB.2 fun e=>absurd (YP e) (by omega);have u:sg n0 [a,b,c] n0=a:=by have:=d 0;simp only[aa0]at this;simp[sg,this]
 have y:sg n0 [a,b,c] (n0+1)=b:=by simp[sg,d]
 have B:sg n0 [a,b,c] (n0+2)=c:=by simp[sg,d]
 have S:Zb n0 (n0+3)=kw:=Zy (by omega);have c1:Zb (n0+1) (n0+3)=kw:=Zy (by omega);have Y:Zb (n0+2) (n0+3)=kw:=Zy (by omega);refine⟨rfl,YP hns,fun x hx=>YP (Zj.1 hlt x hx),hf,⟨⟨_,by rw[s0];exact hi,?_⟩,by show i<n0+3;omega,?_,⟨_,by rw[u];exact h1,.of_eq (bA _).symm⟩,by show n0<n0+3;omega,cJ _,⟨_,by rw[y];exact h2,.of_eq (bA _).symm⟩,by show n0+1<n0+3;omega,cJ _,⟨_,by rw[B];exact h3,.of_eq (bA _).symm⟩,by show n0+2<n0+3;omega,cJ _,ac⟩,?_⟩
 .simp only[AO.da,dK,PV.da,u,y,B];exact .of_eq Z
 .simp[AO.low,bq,PV.low,S,c1,Y]
 .simp only[en,s0,u,y,B];exact dA hnd
theorem S3{X:AH}{n0 i a b c na nb D:Nat}{u y B:List (List PV)}{J:AF}{o:List aj}{A A':AK}(hw:A=A')(hi:s.h.get i=io (AK.cell o a b c na nb D))(h1:s.h.get a=io (.row 2 u))(h2:s.h.get b=io (.row 1 y))(h3:s.h.get c=io (.row 4 B))
  (n1:na=A.items.length) (n2:nb=A.root.length) (n3:D=A.l.length)
  (e1:u=A.items.map fun x=>(aN.c x).map .iv) (e2:y=A.root.map fun x=>(ba x).map .iv) (e3:B=A.l.map fun x=>(Ask.c x).map .iv)
  (hlt:[a,b,c].all (fun x=>Zb x s.nx)=kw) (hnd:b4 [i,a,b,c]=kw) (h0:Zb i n0=kw) (hns:aaM n0 s.nx=kw) (hf:Gw (n0+3) (sg n0 [a,b,c]) s.f J) (hX:nX (n0+3) (sg n0 [a,b,c]) s.h X)
  (hin:b4 (en (sg n0 [a,b,c]) ((i,io (AK.cell o n0 (n0+1) (n0+2) A'.items.length A'.root.length A'.l.length))::(n0,io (aG 2 A'.items aN.c))::(n0+1,io (aG 1 A'.root ba))::(n0+2,io (aG 4 A'.l Ask.c))::X))=kw):
  Wk n0 [a,b,c] s ⟨J,(i,io (AK.cell o n0 (n0+1) (n0+2) A'.items.length A'.root.length A'.l.length))::(n0,io (aG 2 A'.items aN.c))::(n0+1,io (aG 1 A'.root ba))::(n0+2,io (aG 4 A'.l Ask.c))::X,n0+3⟩:=by
 subst hw;subst n1;subst n2;subst n3;subst e1;subst e2;subst e3;have j:i<n0:=YP h0;have s0:sg n0 [a,b,c] i=i:=gx j;have d: ∀m,Zb (n0+m) n0=lc:=fun m=>aaB.2 fun e=>absurd (YP e) (by omega);have F:sg n0 [a,b,c] n0=a:=by have:=d 0;simp only[aa0]at this;simp[sg,this]
 have G:sg n0 [a,b,c] (n0+1)=b:=by simp[sg,d]
 have I:sg n0 [a,b,c] (n0+2)=c:=by simp[sg,d]
 have S:Zb n0 (n0+3)=kw:=Zy (by omega);have c1:Zb (n0+1) (n0+3)=kw:=Zy (by omega);have Y:Zb (n0+2) (n0+3)=kw:=Zy (by omega);refine⟨rfl,YP hns,fun x hx=>YP (Zj.1 hlt x hx),hf,⟨⟨_,by rw[s0];exact hi,?_⟩,by show i<n0+3;omega,?_,⟨_,by rw[F];exact h1,.of_eq (bA _).symm⟩,by show n0<n0+3;omega,cJ _,⟨_,by rw[G];exact h2,.of_eq (bA _).symm⟩,by show n0+1<n0+3;omega,cJ _,⟨_,by rw[I];exact h3,.of_eq (bA _).symm⟩,by show n0+2<n0+3;omega,cJ _,hX⟩,dA hin⟩
 .simp only[AO.da,dK,PV.da,F,G,I];exact .of_eq Z
 .simp[AO.low,bq,PV.low,S,c1,Y]
theorem Br{X:AH}{n0 i a b c na nb y:Nat}{d j u:List (List PV)}{B:AF}{o:List aj}{A A':AK}(hw:A=A')(hX:nX (n0+3) (sg n0 [a,b,c]) s.h X)(hi:s.h.get i=io (AK.cell o a b c na nb y):=by exact rfl)(h1:s.h.get a=io (.row 2 d):=by exact rfl)(h2:s.h.get b=io (.row 1 j):=by exact rfl)(h3:s.h.get c=io (.row 4 u):=by exact rfl)(n1:na=A.items.length:=by first|rfl|(rw[YS];rfl)|simp)(n2:nb=A.root.length:=by first|rfl|(rw[YS];rfl)|simp)(n3:y=A.l.length:=by first|rfl|(rw[YS];rfl)|simp)(e1:d=A.items.map fun x=>(aN.c x).map .iv:=by first|rfl|(rw[YX];rfl)|(simp only[YX,Y3];rfl))(e2:j=A.root.map fun x=>(ba x).map .iv:=by first|rfl|(rw[YX];rfl)|(simp only[YX,Y3];rfl))(e3:u=A.l.map fun x=>(Ask.c x).map .iv:=by first|rfl|(rw[YX];rfl)|(simp only[YX,Y3];rfl))(hlt:[a,b,c].all (fun x=>Zb x s.nx)=kw:=by exact rfl)(hnd:b4 [i,a,b,c]=kw:=by exact rfl)(h0:Zb i n0=kw:=by exact rfl)(hns:aaM n0 s.nx=kw:=by exact rfl)(hf:Gw (n0+3) (sg n0 [a,b,c]) s.f B:=by repeat' (first|exact ac|exact aL.refl _|exact rfl|apply ZC))(hin:b4 (en (sg n0 [a,b,c]) ((i,io (AK.cell o n0 (n0+1) (n0+2) A'.items.length A'.root.length A'.l.length))::(n0,io (aG 2 A'.items aN.c))::(n0+1,io (aG 1 A'.root ba))::(n0+2,io (aG 4 A'.l Ask.c))::X))=kw:=by exact rfl):Wk n0 [a,b,c] s ⟨B,(i,io (AK.cell o n0 (n0+1) (n0+2) A'.items.length A'.root.length A'.l.length))::(n0,io (aG 2 A'.items aN.c))::(n0+1,io (aG 1 A'.root ba))::(n0+2,io (aG 4 A'.l Ask.c))::X,n0+3⟩:=S3 (hw:=hw) (hi:=hi) (h1:=h1) (h2:=h2) (h3:=h3) (n1:=n1) (n2:=n2) (n3:=n3) (e1:=e1) (e2:=e2) (e3:=e3) (hlt:=hlt) (hnd:=hnd) (h0:=h0) (hns:=hns) (hf:=hf) (hX:=hX) (hin:=hin)
end
end
end Go.Proofs.YtflegjieadkonaaGreatDoor
namespace Go.Proofs.YtflegjieadkonaaGreatDoor
open Go Go.Al Go.Proofs.Tryz
def AK.ok(A:AK):Prop:=A.root.length=A.items.length∧ ∀k∈A.l,k.item<A.items.length
structure Gr (n:Nat) (A B:AK):Prop where
 ok:A.ok->B.ok
 it:B.items.length<=A.items.length+n
 ln:B.l.length<=A.l.length+n
 mn:A.items.length<=B.items.length
def AK.fit(A:AK)(n:Nat):Prop:=A.ok∧A.items.length+n<=1000000000∧A.l.length+n<=1000000000
theorem Gr.refl(A:AK):Gr 0 A A:=⟨id,YY _,YY _,YY _⟩
theorem Gr.trans{n m:Nat}{A B C:AK}(h:Gr n A B)(g:Gr m B C):Gr (n+m) A C:=
 ⟨fun o=>g.ok (h.ok o),by have:=h.it;have:=g.it;omega,by have:=h.ln;have:=g.ln;omega,by have:=h.mn;have:=g.mn;omega⟩
theorem Gr.le{n m:Nat}{A B:AK}(h:Gr n A B)(hm:n<=m):Gr m A B:=⟨h.ok,by have:=h.it;omega,by have:=h.ln;omega,h.mn⟩
theorem AK.fit.step{A B:AK}{a b n:Nat}(h:A.fit n)(g:Gr a A B)(hn:a+b<=n):B.fit b:=by
 obtain⟨d,j,u⟩:=h;have:=g.it;have:=g.ln;exact⟨g.ok d,by omega,by omega⟩
theorem AK.fit.le{A:AK}{n m:Nat}(h:A.fit n)(hm:m<=n):A.fit m:=⟨h.1,by have:=h.2.1;omega,by have:=h.2.2;omega⟩
theorem uo(A:AK)(u:aN):Gr 1 A (A.item u):=by
 unfold AK.item;split
 .exact(Gr.refl A).le (by omega)
 .refine⟨fun⟨h1,h2⟩=>⟨?_,fun k b=>?_⟩,?_,by show A.l.length<=_;omega,?_⟩
  .show(A.root++_).length=(A.items++_).length;rw[YS,YS,h1];rfl
  .have:=h2 k b;show _<(((A.items++_).length:Nat):Int)
   rw[YS,Zs];omega
  .show(A.items++_).length<=_;rw[YS,Zs];omega
  .show _<=(A.items++_).length;rw[YS,Zs];omega
theorem Cc(A:AK)(u:aN):A.ix u<(A.item u).items.length:=by
 unfold AK.item AK.ix;split
 .omega
 .rename_i h;show _<(((A.items++_).length:Nat):Int)
  have: ∀l:List aN,zn l u<=l.length:=by
   intro l
   induction l with
   |nil=>exact YY _
   |cons a r ih=>unfold zn;split<;>simp<;>omega
  have:=this A.items;rw[YS,Zs];omega
theorem L1(A:AK)(k:Ask)(b:k.item<A.items.length):Gr 1 A (A.ask k):=by
 unfold AK.ask;split
 .refine⟨fun⟨h1,h2⟩=>⟨h1,fun x d=>?_⟩,by show A.items.length<=_;omega,?_,YY _⟩
  .rcases Y6.1 d with g|g
   .exact h2 x g
   .rw[Y4]at g;subst g;exact b
  .show(A.l++_).length<=_;rw[YS,Zs];omega
 .exact(Gr.refl A).le (by omega)
theorem LI(A:AK)(u:aN):(A.item u).l=A.l:=by unfold AK.item;split<;>rfl
theorem JG(A:AK)(k:Ask):(A.ask k).items=A.items:=by unfold AK.ask;split<;>rfl
theorem w5(A:AK)(b:Int)(u:aN)(d:Int):Gr 1 A (A.want b u d):=by
 have j:=uo A u;have x:=L1 (A.item u) ⟨b,A.ix u,d,0⟩ (Cc A u);refine⟨fun o=>x.ok (j.ok o),?_,?_,ZI j.mn x.mn⟩
 .show((A.item u).ask _).items.length<=_;rw[JG];exact j.it
 .have:=x.ln;rw[LI]at this;exact this
theorem LX(A:AK)(b d j:Int):Gr 1 A (A.ask ⟨b, -1,d,j⟩):=L1 A _ (by show(-1:Int)<_;omega)
theorem Uu(A:AK)(x y:Int):Gr 0 A (A.tie x y):=by
 refine⟨fun⟨h1,h2⟩=>⟨?_,h2⟩,YY _,YY _,YY _⟩;show(A.root.map _).length=A.items.length;rw[Zo,h1]
theorem HA(r:ae)(lit w:Int)(e:Expr)(A:AK):Gr 1 A (mC r lit w e A):=by
 unfold mC;split
 .exact w5 _ _ _ _
 split
 .exact LX _ _ _ _
 .exact(Gr.refl A).le (by omega)
theorem Ck(r:ae)(lit w:Int)(l:List Expr)(h: ∀x∈l,∀A,Gr x.size A (gG r lit w x A)): ∀A,Gr (Expr.aA l) A (l.foldl (fun A x=>gG r lit w x A) A):=by
 induction l with
 |nil=>exact fun A=>Gr.refl A
 |cons e s ih=>
  intro A;exact(h e Y8 A).trans (ih (fun x b=>h x (Y7 _ b)) _)
theorem nR(r:ae)(lit w:Int): ∀(n:Nat) (e:Expr) (A:AK),e.size<=n->Gr e.size A (gG r lit w e A)
 |0,e,A,h=>by have:=e.size_pos;omega
 |n+1,e,A,h=>by
  have u:=e.size_eq;rw[wX];refine Gr.le ((HA r lit w e A).trans (m:=Expr.aA e.args) ?_) (by omega);unfold lI;split
  .refine Ck r lit w e.args (fun x j A=>nR r lit w n x A ?_) _;obtain⟨k,d,rfl⟩:=Z0.1 j;have b:=Expr.aI e.args k d;rw[YR,YU d]at b;have b:(e.args[k]).size<=Expr.aA e.args:=b;omega
  .exact(Gr.refl _).le (by omega)
theorem tq(r:ae)(lit w:Int)(e:Expr)(A:AK):Gr (Expr.aA e.args) A (lI r lit w e A):=by
 unfold lI;split
 .exact Ck r lit w e.args (fun x b A=>nR r lit w x.size x A (YY _)) _
 .exact(Gr.refl _).le (by omega)
theorem L3(r:ae)(lit w:Int)(l:List Expr)(i:Nat)(A:AK):Gr (Expr.aA (l.take i)) A ((l.take i).foldl (fun A x=>gG r lit w x A) A):=
 Ck r lit w _ (fun x b A=>nR r lit w x.size x A (YY _)) _
theorem LZ(p:Prog)(r:ae)(a:Atom)(lit w:Int)(i:Nat)(A:AK):Gr 1 A (j7 p r a lit w i A):=by
 unfold j7;split
 .split
  .exact w5 _ _ _ _
  split
  .exact LX _ _ _ _
  .exact(Gr.refl A).le (by omega)
 .exact(Gr.refl A).le (by omega)
theorem w6(p:Prog)(r:ae)(a:Atom)(lit w:Int)(A:AK): ∀i,Gr i A (fJ p r a lit w A i)
 |0=> .refl _
 |i+1=>(w6 p r a lit w A i).trans (LZ p r a lit w i _)
theorem Em(r:ae)(lit w:Int)(x y:Expr)(A:AK):Gr 2 A (lr r lit w x y A):=by
 unfold lr;split
 .split
  .exact((uo _ _).trans (uo _ _)).trans (Uu _ _ _)
  .exact(w5 _ _ _ _).le (by omega)
 split
 .exact(w5 _ _ _ _).le (by omega)
 .exact(LX _ _ _ _).le (by omega)
theorem LY(p:Prog)(r:ae)(lit w:Int)(l:Lit)(A:AK):Gr l.size A (ly p r lit w l A):=by
 have b:=l.size_eq;have d:=l.left.size_eq;have j:=l.right.size_eq;unfold ly;split
 .exact(w6 p r l.atom lit w A _).le (by omega)
 split
 .split
  .exact(((tq r lit w l.left A).trans (tq r lit w l.right _)).trans (Em r lit w _ _ _)).le (by omega)
  .exact((nR r lit w _ l.left A (YY _)).trans (nR r lit w _ l.right _ (YY _))).le (by omega)
 .exact(Gr.refl A).le (by omega)
theorem El(p:Prog)(r:ae)(i:Int)(A:AK)(b:List Lit): ∀k,k<=b.length->Gr (Lit.aA (b.take k)) A (Fg p r i A b k)
 |0,_=> .refl _
 |k+1,h=>by
  rw[Lit.oM b k (by omega)];exact(El p r i A b k (by omega)).trans (LY p r i i _ _)
theorem LW(r:ae)(i f:Int)(v:aj)(o:Expr)(A:AK):Gr (o.size+2) A (uQ r i f v o A):=by
 have b:=o.size_eq;unfold uQ;split
 .exact(nR r i i _ (jk v) A (YY _)).le (by rw[jB];omega)
 split
 .exact((nR r i i _ (jk v) A (YY _)).trans (nR r i i _ o _ (YY _))).le (by rw[jB];omega)
 .exact((tq r i i o A).trans (Em r i i _ _ _)).le (by omega)
theorem Qi(p:Prog)(r:ae)(i:Int)(l:Lit)(A:AK):Gr l.size A (rW p r i l A):=by
 have d:=l.size_eq;unfold rW;split
 .have b:=El p r i (uQ r i l.c6 l.a7 l.jQ A) l.ar l.ar.length (YY _);rw[aaz]at b;exact((LW r i l.c6 l.a7 l.jQ A).trans b).le (by omega)
 .exact LY p r i (-1) l A
theorem Cj(p:Prog)(r:ae): ∀k,k<=r.body.length->Gr (r.head.ad.length+Lit.aA (r.body.take k)) AK.o (lA p r k)
 |0,_=>w6 p r r.head (-1) (-1) AK.o _
 |k+1,h=>by
  rw[Lit.oM r.body k (by omega),<-aas];exact(Cj p r k (by omega)).trans (Qi p r k _ _)
theorem Wb:AK.o.ok:=⟨rfl,fun k b=>nomatch b⟩
def uH(r:ae)(lit:Int):Bool:=if lit<0 then(fh r.head).2 else(pE (ak r lit)).2
def rP(r:ae)(n:Int):aY:=
 if n>256∨(r.body.length:Int)>12 then(66,r.at_) else if(tV r:Int)>24 then(66,r.at_) else match r.body.find? pr with
  |some l=>(66,l.at)
  |none=>aY.z
def mX(a b:aY):aY:=if a.1=0 then b else a
def KL(p:Prog)(r:ae)(n:Int):aY:=
 mX (bK r 1 (uH r) aY.z)<|mX (rP r n)<|mX (bK r 61 (fun lit=>(bu r lit).any fun x=>lP p x) aY.z)<|mX (bK r 62 (fun lit=>(bu r lit).any fun x=>mZ p x) aY.z)<|mX (bK r 65 (dD r) aY.z)<|mX (jl r (nC p r))<|bK r 64 (dM r) aY.z
theorem qi{r:ae}{e:Int}(he: ¬e=0)(f:Int->Bool)(k:aY):mX (bK r e f aY.z) k=bK r e f k:=by
 unfold mX bK;split
 .exact be he
 .exact am Z
theorem FW(n:Nat):jc n=(-1)::(Zg n).map fun k:Nat=>(k:Int):=by
 unfold jc;rw[abg,Zd,aaH];refine congr (congrArg _ Z) (aaf fun k _=>?_);show((k+1:Nat):Int)-1=k;omega
theorem Gc{α:Type}[Inhabited α](q:α->Bool): ∀(l:List α) (m:Nat) (g:Nat->Int),∀f:Int->Bool,(∀k,k<l.length->f (g k)=q (l.getD k em))->((Zg l.length).map g).find? f=(l.findIdx? q).map g:=by
 intro l _
 induction l with
 |nil=>intro g f _;rfl
 |cons a r ih=>
  intro g f h;have b:=h 0 (by simp);rw[Zr,abg,Zd,aaI,b];rw[List.findIdx?_cons];show(match q a with|true=>_|false=>_)=_;cases hq:q a with
  |true=>rfl
  |false=>
   show((List.map Nat.succ (Zg r.length)).map g).find? f=_;rw[aaH];have:=ih (fun k=>g (k+1)) f fun k d=>h (k+1) (by simpa using d);show((Zg r.length).map fun k=>g (k+1)).find? f=_;rw[this];simp only[aaq,if_false];cases r.findIdx? q<;>rfl
theorem FU(r:ae)(e:Int)(f:Int->Bool)(q:Lit->Bool)(k:aY)(B: ∀i:Nat,i<r.body.length->f i=q (r.body.getD i em)):bK r e f k=if f (-1)=kw then(e,r.at_) else match r.body.find? q with
  |some l=>(e,l.at)
  |none=>k:=by
 unfold bK vC;rw[FW,aaI];cases h:f (-1) with
 |true=>rfl
 |false=>
  rw[be (by decide)];have:=Gc q r.body 0 (fun k:Nat=>(k:Int)) f B;show(match((Zg r.body.length).map fun k:Nat=>(k:Int)).find? f with|some lit=>(e,ft r lit)|none=>k)=_;rw[this];cases hi:r.body.findIdx? q with
  |none=>
   rw[abq]at hi;have:r.body.find? q=jp:=by
    rw[aak];intro x D;rw[hi x D];decide
   rw[this];rfl
  |some i=>
   obtain⟨b,d,u⟩:=aa6.1 hi;have:r.body.find? q=io r.body[i]:=by
    rw[abd];exact⟨d,i,b,rfl,fun j y=>by rw[ZX];exact aaB.2 (u j y)⟩
   rw[this];show(e,ft r i)=(e,(r.body[i]).at)
   have A:ft r i=(r.body[i]).at:=by
    unfold ft ak;rw[be (by omega),YR,show((i:Int)).toNat=i by omega,YU b];rfl
   rw[A]
theorem I9(r:ae)(i:Nat):ak r i=r.body.getD i em:=rfl
theorem Lr(r:ae)(k:aY):bK r 1 (uH r) k=if lN r.head=kw then(1,r.at_) else match r.body.find? iP with
  |some l=>(1,l.at)
  |none=>k:=by
 have b: ∀i:Nat,i<r.body.length->uH r i=iP (r.body.getD i em):=fun i _=>by
  unfold uH;rw[be (by omega),I9,AD]
 rw[FU r 1 (uH r) iP k b];have:uH r (-1)=lN r.head:=by rw[E3];rfl
 rw[this]
theorem PS(r:ae)(n:Int)(k:aY):mX (rP r n) k=if n>256∨(r.body.length:Int)>12 then(66,r.at_) else if(tV r:Int)>24 then(66,r.at_) else match r.body.find? pr with
  |some l=>(66,l.at)
  |none=>k:=by
 unfold mX rP;split
 .rfl
 split
 .rfl
 split
 .rfl
 .rfl
theorem Uf{r:ae}(h: ¬lN r.head=kw)(hb:r.body.find? iP=jp):Vc r.head∧ ∀k,k<r.body.length->Wc (r.body.getD k em):=by
 refine⟨E2 (by rw[<-E3];simpa using h),fun k b=>Qb ?_⟩;rw[aak]at hb;have:=hb (r.body.getD k em) (by rw[YR,YU b];exact Zz b);simpa using this
theorem Pq(p:Prog)(r:ae)(n:Int):KL p r n=pC p r n:=by
 unfold KL pC x8;rw[qi (by decide),Lr];split
 .rfl
 rename_i b;cases h2:r.body.find? iP with
 |some l=>rfl
 |none=>
  obtain⟨d,j⟩:=Uf b h2;show mX (rP r n) _=_;rw[J2 d j,PS,qi (by decide),qi (by decide),qi (by decide),qi (by decide)];rfl
def ld(r:ae)(lit:Int):List aj:=if lit<0 then bj r.head else if(ak r lit).kind=4 then b6 (aF (ak r lit).agg) (ak r lit).a7 else cm (ak r lit)
def nQ(r:ae)(lit:Int):List aj:=if lit<0 then[] else if(ak r lit).kind=4 then mB r lit else[]
def A0(r:ae)(b:List aj)(x:aj):Bool:=!(if aE (outer r) x=kw then aE (kM r) x else aE b x)
def FT(r:ae)(lit:Int):Bool:=(ld r lit).any (A0 r (nQ r lit))
theorem vb{t a:aj}{v:Int}: ∀{m:NM},t∈(cF .str m a v).map Zl↔t=a∨t∈m.map Zl
 | []=>by simp[cF]
 |(x,y)::r=>by
  show t∈(if x=a then(a,v)::r else(x,y)::cF .str r a v).map Zl↔_;split
  .rename_i h;subst h;simp
  .rw[Zd,Za,vb,Zd,Za];constructor
   .rintro(h|h|h)
    .exact .inr (.inl h)
    .exact .inl h
    .exact .inr (.inr h)
   .rintro(h|h|h)
    .exact .inr (.inl h)
    .exact .inl h
    .exact .inr (.inr h)
theorem DV{x:aj}{r:ae}:x∈kM r↔x∈ch r:=by
 unfold kM tp;rw[yn];exact pY (may:=fun b=>aU b) (more:=fun b=>iZ (ay r) b) (I2 r) lM (FP (ay r)) (fun y=>by rw[ug];simp) x
theorem Lj(k:List aj)(l:Lit):my (aU k) (fun _=>lc) k l=if(fD lc [] k l).2=kw then io (fD lc [] k l).1 else jp:=by
 unfold my fD;rw[be (c:=l.kind=4∧_) (fun h=>Bool.noConfusion h.2.2),be (c:=lc=kw∧_) (fun h=>Bool.noConfusion h.1),Dm]
theorem DW{x:aj}(o:List aj): ∀{l k:List aj},x∈l.foldl (fun k y=>if aE o y then b6 k y else k) k↔x∈k∨(x∈l∧x∈o)
 | [],k=>by simp
 |y::r,k=>by
  rw[Zn,DW o];by_cases h:aE o y=kw
  .rw[am h,cq,Za];constructor
   .rintro((g|g)|g)
    .exact .inl g
    .exact .inr ⟨.inl g,by rw[g];exact aM.1 h⟩
    .exact .inr ⟨.inr g.1,g.2⟩
   .rintro(g|⟨g|g,q⟩)
    .exact .inl (.inl g)
    .exact .inl (.inr g)
    .exact .inr ⟨g,q⟩
  .rw[be h,Za];constructor
   .rintro(g|g)
    .exact .inl g
    .exact .inr ⟨.inr g.1,g.2⟩
   .rintro(g|⟨g|g,q⟩)
    .exact .inl g
    .subst g;exact absurd (aM.2 q) h
    .exact .inr ⟨g,q⟩
theorem r7{x:aj}{r:ae}{lit:Int}:x∈mB r lit↔x∈B1 r (ak r lit).agg:=by
 unfold mB tp;rw[yn];refine pY (may:=fun b=>aU b) (more:=fun _=>fun _=>lc) Lj lM (fun _ _ _ _ h=>h) (fun y=>?_) x;rw[ug];have:y∈vo r lit↔y∈yi r (ak r lit).agg:=by
  unfold vo yi;rw[DW,Zw,(ck _).2,fu,aM,jI];simp
 rw[this,Y6]
theorem tc{r:ae}{m:NM}:te r m=kw↔ ∃x∈m.map Zl,x∉ch r:=by
 unfold te;rw[ZG];constructor
 .rintro⟨y,b,h⟩;exact⟨y.1,Zu.2 ⟨y,b,rfl⟩,fun g=>by rw[aM.2 g]at h;cases h⟩
 .rintro⟨x,hx,h⟩;obtain⟨y,b,rfl⟩:=Zu.1 hx;refine⟨y,b,?_⟩;cases hi:aE (ch r) y.1 with
  |true=>exact absurd (aM.1 hi) h
  |false=>rfl
theorem jL{r:ae}{b:List aj}{x:aj}:A0 r b x=kw↔(x∈ay r∧x∉ch r)∨(x∉ay r∧x∉b):=by
 unfold A0;rw[ZX];by_cases h:aE (outer r) x=kw
 .have d:x∈ay r:=jI.1 (aM.1 h);rw[am h,<-aam,aM,DV];exact⟨fun g=> .inl ⟨d,g⟩,fun g=>g.elim (fun q=>q.2) fun q=>absurd d q.1⟩
 .have d:x∉ay r:=fun g=>h (aM.2 (jI.2 g))
  rw[be h,<-aam,aM];exact⟨fun g=> .inr ⟨d,g⟩,fun g=>g.elim (fun q=>absurd q.1 d) fun q=>q.2⟩
theorem o5{r:ae}{lit:Int}(h0: ¬lit<0)(h1:lit<r.body.length){x:aj}(b:x∈fb (ak r lit)):x∈ay r:=by
 unfold ay;refine aal _ (aaK.2 ⟨ak r lit,?_,b⟩);have:lit.toNat<r.body.length:=by omega
 unfold ak;rw[YR,YU this];exact Zz this
theorem Lq(r:ae)(lit:Int)(h1:lit<r.body.length):FT r lit=dM r lit:=by
 unfold FT dM ld nQ;by_cases A:lit<0
 .rw[am A,am A,am A,ZE,tc,ZG];constructor
  .rintro⟨x,b,g⟩;have u:x∈cI r.head:=fP.1 b;have F:x∈ay r:=by unfold ay;exact Zt _ u
   refine⟨x,((ck _).2 x).2 u,?_⟩;rcases jL.1 g with q|q
   .exact q.2
   .exact absurd F q.1
  .rintro⟨x,b,g⟩;have u:=((ck _).2 x).1 b;have F:x∈ay r:=by unfold ay;exact Zt _ u
   exact⟨x,fP.2 u,jL.2 (.inl ⟨F,g⟩)⟩
 rw[be A,be A,be A];by_cases D:(ak r lit).kind=4
 .rw[am D,am D,am D,ZE,aac,tc,ZG,ZG];have G:(ak r lit).a7∈ay r:=o5 A h1 (by unfold fb;rw[am D];exact aal _ Y8);have d: ∀x,x∈(lH r (ak r lit).agg).map Zl↔x∈bb (ak r lit).agg∧x∉ay r:=fun x=>by
   unfold lH;rw[<-(ck (bb (ak r lit).agg)).2 x,Zu,Zu];constructor
   .rintro⟨y,B,rfl⟩;obtain⟨g1,g2⟩:=Zw.1 B;exact⟨⟨y,g1,rfl⟩,fun g=>by rw[aM.2 g]at g2;cases g2⟩
   .rintro⟨⟨y,g1,rfl⟩,g2⟩;refine⟨y,Zw.2 ⟨g1,?_⟩,rfl⟩;cases hi:aE (ay r) y.1 with
    |true=>exact absurd (aM.1 hi) g2
    |false=>rfl
  have j: ∀x,x∈(mE r (ak r lit).agg).map Zl↔x∈bb (ak r lit).agg∧x∈ay r:=fun x=>by
   unfold mE;constructor
   .intro b;obtain⟨y,B,rfl⟩:=Zu.1 b;obtain⟨g1,g2⟩:=Zw.1 B;have S:=((ck (bb (ak r lit).agg)).2 y.1).1 (Zu.2 ⟨y,g1,rfl⟩);refine⟨S,Z8 fun hc=>?_⟩;rw[aM.2 ((d y.1).2 ⟨S,hc⟩)]at g2;cases g2
   .rintro⟨g1,g2⟩;obtain⟨y,B,rfl⟩:=Zu.1 (((ck (bb (ak r lit).agg)).2 x).2 g1);refine Zu.2 ⟨y,Zw.2 ⟨B,?_⟩,rfl⟩;cases hi:aE ((lH r (ak r lit).agg).map (·.1)) y.1 with
    |true=>exact absurd g2 ((d y.1).1 (aM.1 hi)).2
    |false=>rfl
  constructor
  .rintro⟨x,b,g⟩;rcases jL.1 g with⟨I,J⟩|⟨I,J⟩
   .refine .inr ⟨x,?_,J⟩;unfold bump;rw[vb,j];rcases cq.1 b with e|e
    .exact .inr ⟨fu.1 e,I⟩
    .exact .inl e
   .rcases cq.1 b with e|e
    .obtain⟨y,B,rfl⟩:=Zu.1 ((d x).2 ⟨fu.1 e,I⟩);refine .inl ⟨y,B,?_⟩;cases hi:aE (B1 r (ak r lit).agg) y.1 with
     |true=>exact absurd (r7.2 (aM.1 hi)) J
     |false=>rfl
    .rw[e]at I;exact absurd G I
  .rintro(⟨y,B,g⟩|⟨x,b,g⟩)
   .obtain⟨g1,g2⟩:=(d y.1).1 (Zu.2 ⟨y,B,rfl⟩);refine⟨y.1,cq.2 (.inl (fu.2 g1)),jL.2 (.inr ⟨g2,fun q=>?_⟩)⟩;rw[aM.2 (r7.1 q)]at g;cases g
   .unfold bump at b;rw[vb,j]at b;rcases b with e|⟨Y,e2⟩
    .exact⟨x,cq.2 (.inr e),jL.2 (.inl ⟨by rw[e];exact G,g⟩)⟩
    .exact⟨x,cq.2 (.inl (fu.2 Y)),jL.2 (.inl ⟨e2,g⟩)⟩
 .rw[be D,be D,be D,ZE,tc,ZG];constructor
  .rintro⟨x,b,g⟩;have u:=ja.1 b;have F:=o5 A h1 (x:=x) (by unfold fb;exact Zt _ u);refine⟨x,((ck _).2 x).2 u,?_⟩;rcases jL.1 g with q|q
   .exact q.2
   .exact absurd F q.1
  .rintro⟨x,b,g⟩;have u:=((ck _).2 x).1 b;have F:=o5 A h1 (x:=x) (by unfold fb;exact Zt _ u);exact⟨x,ja.2 u,jL.2 (.inl ⟨F,g⟩)⟩
theorem Cb: ∀{l:List aN} {u:aN} {i:Nat},i<l.length->l.getD i em=u->(∀j,j<i-> ¬l.getD j em=u)->zn l u=i
 | [],_,i,h,_,_=>absurd h (Z3 i)
 |a::r,u,0,_,h,_=>am h
 |a::r,u,i+1,hi,h,hJ=>by
  have b: ¬a=u:=hJ 0 (Nat.succ_pos i);unfold zn;rw[be b,Cb (i:=i) (by simpa using hi) h fun j d=>hJ (j+1) (by omega)]
theorem yf: ∀{l:List aN} {u:aN},(∀j,j<l.length-> ¬l.getD j em=u)->zn l u=l.length
 | [],_,_=>rfl
 |a::r,u,hJ=>by
  have b: ¬a=u:=hJ 0 (by simp);unfold zn;rw[be b,yf (l:=r) fun j d=>hJ (j+1) (by simpa using d)];rfl
theorem Ko(r:ae)(s:aj)(w:Int):bf r s w=(s,if aE (outer r) s=kw then-1 else w):=by
 unfold bf;rw[bB];by_cases h:s∈ay r
 .rw[am (by have:=oC.2 h;omega),am (aM.2 (jI.2 h))]
 .rw[be (by have:=rF.2 h;omega),be fun g=>h (jI.1 (aM.1 g))]
theorem Ef{A:AK}{u:aN}{i:Nat}(h:zn A.items u=i)(hi:i<A.items.length):A.item u=A:=am (by omega)
theorem Eg{A:AK}{u:aN}(h:zn A.items u=A.items.length):A.item u=⟨A.items++ [u],A.root++ [(A.root.length:Int)],A.l⟩:=be (by omega)
theorem d131(r:ae)(A:AK)(k:Ask)(hb:A.l.length+1<=1000000000):bV prog 255 [.ptr 0 0,pI k.place,pI k.item,pI k.type,pI k.qu] (A.O (outer r)) (.bM []) ((A.ask k).H (outer r)) 7:=by
 refine aB ab func255 Z (by decide) ntmps255 Z (by simp) ?_;refine zJ Z Z (fun g1=>?_) fun g1=>?_
 .have g1: ¬k.type=1:=zF g1;refine zJ Z Z (fun g2=>?_) fun g2=>?_
  .have g2:k.type=2:=zT g2;rw[show A.ask k=⟨A.items,A.root,A.l++ [k]⟩ from am (.inr g2)];refine gA Z uL
  .have g2: ¬k.type=2:=zF g2;rw[show A.ask k=A from be (by rintro(h|h);exact g1 h;exact g2 h)];refine gA Z uL
 .have g1:k.type=1:=zT g1;rw[show A.ask k=⟨A.items,A.root,A.l++ [k]⟩ from am (.inl g1)];refine gA Z uL
theorem rr{l:List aN}{u:aN}{i:Nat}(b: ∀j,j<i-> ¬l.getD j em=u)(h: ¬l.getD i em=u): ∀j,j<i+1-> ¬l.getD j em=u:=fun j d=>by
 rcases ZA.1 d with q|q
 .exact b j q
 .subst q;exact h
theorem AK.B9{A:AK}{u:aN}{i:Nat}(h:zn A.items u=i):A.ix u=(i:Int):=by unfold AK.ix;rw[h]
abbrev AK.at4(A:AK)(o:List aj):AH:=[(0,io (AK.cell o 4 5 6 A.items.length A.root.length A.l.length)),(4,io (aG 2 A.items aN.c)),(5,io (aG 1 A.root ba)),(6,io (aG 4 A.l Ask.c))]
theorem d46(r:ae)(A:AK)(s:aj)(w:Int)(hf:A.fit 1):bV prog 254 [.ptr 0 0,pS s,pI w] (A.O (outer r)) (pI (A.ix (bf r s w))) ((A.item (bf r s w)).H (outer r)) 7:=by
 obtain⟨⟨y,B⟩,D,F⟩:=hf;have hu:=Ko r s w;refine aB ab func254 Z (by decide) ntmps254 Z (by simp) ?_;refine gA Z (zp (JC (outer r) s) ?_);refine zJ Z Z (fun g=>?_) fun g=>?_
 .have g:aE (outer r) s=kw:=g;rw[am g]at hu;rw[hu];refine gA Z ?_;refine az 0 A.items.length (YZ _) (fun i=>⟨[(0,.ptr 0 0),(1,pS s),(2,pI (-1)),(8,pI i)],A.at4 (outer r),7⟩) (fun i=> ∀j,j<i-> ¬A.items.getD j em=(s,(-1))) _ (fun j x=>absurd x (Z3 j))
   (Nr (A:=A) Z Z Z Z Z Z Z Z Z Z Z Z Z Z Z (bv (bv (bv (bv trivial))))) fun i G d=>?_
  refine zJ Z Z (fun b=>?_) fun b=>?_
  .have b:i<A.items.length:=zN b;refine gM 12 Z (bp ab Z Z Z Z Z (gy b) Z Z ?_);refine zJ Z Z (fun g1=>?_) fun g1=>?_
   .have g1:(A.items.getD i em).1=s:=zT g1;refine gM 14 Z (bp ab Z Z Z Z Z (gy b) Z Z ?_);refine zJ Z Z (fun g2=>?_) fun g2=>?_
    .have g2:(A.items.getD i em).2=(-1):=zT g2;have e:=Cb b (Prod.ext g1 g2) d;rw[Ef e b,AK.B9 e];refine gA Z uL
    .have g2: ¬(A.items.getD i em).2=(-1):=zF g2;refine gA Z ⟨b,rr d (fun e=>g2 (by rw[e])),_,Nr (rfl) Z Z Z Z (by first|rfl|(rw[YS];rfl)|simp) (by first|rfl|(rw[YS];rfl)|simp) (by first|rfl|(rw[YS];rfl)|simp) (by first|rfl|(rw[YX];rfl)|(simp only[YX,Y3];rfl)) (by first|rfl|(rw[YX];rfl)|(simp only[YX,Y3];rfl)) (by first|rfl|(rw[YX];rfl)|(simp only[YX,Y3];rfl)) Z Z Z Z (bv (bv (bv (bv ac))))⟩
   .have g1: ¬(A.items.getD i em).1=s:=zF g1;refine gA Z ⟨b,rr d (fun e=>g1 (by rw[e])),_,Nr (rfl) Z Z Z Z (by first|rfl|(rw[YS];rfl)|simp) (by first|rfl|(rw[YS];rfl)|simp) (by first|rfl|(rw[YS];rfl)|simp) (by first|rfl|(rw[YX];rfl)|(simp only[YX,Y3];rfl)) (by first|rfl|(rw[YX];rfl)|(simp only[YX,Y3];rfl)) (by first|rfl|(rw[YX];rfl)|(simp only[YX,Y3];rfl)) Z Z Z Z (bv (bv (bv (bv ac))))⟩
  .have b:A.items.length<=i:=zG b;have e:zn A.items (s,(-1))=A.items.length:=yf fun j x=>d j (by omega);have u:((A.items.length:Int)+1-1)=A.ix (s,(-1)):=by rw[AK.B9 e];omega
   rw[Eg e,<-u];refine gA Z uL
 .have g:aE (outer r) s=lc:=by simpa using g
  rw[be (by rw[g];decide)]at hu;rw[hu];refine gA Z ?_;refine az 0 A.items.length (YZ _) (fun i=>⟨[(0,.ptr 0 0),(1,pS s),(2,pI w),(8,pI i)],A.at4 (outer r),7⟩) (fun i=> ∀j,j<i-> ¬A.items.getD j em=(s,w)) _ (fun j x=>absurd x (Z3 j))
   (Nr (A:=A) Z Z Z Z Z Z Z Z Z Z Z Z Z Z Z (bv (bv (bv (bv trivial))))) fun i G d=>?_
  refine zJ Z Z (fun b=>?_) fun b=>?_
  .have b:i<A.items.length:=zN b;refine gM 12 Z (bp ab Z Z Z Z Z (gy b) Z Z ?_);refine zJ Z Z (fun g1=>?_) fun g1=>?_
   .have g1:(A.items.getD i em).1=s:=zT g1;refine gM 14 Z (bp ab Z Z Z Z Z (gy b) Z Z ?_);refine zJ Z Z (fun g2=>?_) fun g2=>?_
    .have g2:(A.items.getD i em).2=w:=zT g2;have e:=Cb b (Prod.ext g1 g2) d;rw[Ef e b,AK.B9 e];refine gA Z uL
    .have g2: ¬(A.items.getD i em).2=w:=zF g2;refine gA Z ⟨b,rr d (fun e=>g2 (by rw[e])),_,Nr (rfl) Z Z Z Z (by first|rfl|(rw[YS];rfl)|simp) (by first|rfl|(rw[YS];rfl)|simp) (by first|rfl|(rw[YS];rfl)|simp) (by first|rfl|(rw[YX];rfl)|(simp only[YX,Y3];rfl)) (by first|rfl|(rw[YX];rfl)|(simp only[YX,Y3];rfl)) (by first|rfl|(rw[YX];rfl)|(simp only[YX,Y3];rfl)) Z Z Z Z (bv (bv (bv (bv ac))))⟩
   .have g1: ¬(A.items.getD i em).1=s:=zF g1;refine gA Z ⟨b,rr d (fun e=>g1 (by rw[e])),_,Nr (rfl) Z Z Z Z (by first|rfl|(rw[YS];rfl)|simp) (by first|rfl|(rw[YS];rfl)|simp) (by first|rfl|(rw[YS];rfl)|simp) (by first|rfl|(rw[YX];rfl)|(simp only[YX,Y3];rfl)) (by first|rfl|(rw[YX];rfl)|(simp only[YX,Y3];rfl)) (by first|rfl|(rw[YX];rfl)|(simp only[YX,Y3];rfl)) Z Z Z Z (bv (bv (bv (bv ac))))⟩
  .have b:A.items.length<=i:=zG b;have e:zn A.items (s,w)=A.items.length:=yf fun j x=>d j (by omega);have u:((A.items.length:Int)+1-1)=A.ix (s,w):=by rw[AK.B9 e];omega
   rw[Eg e,<-u];refine gA Z uL
def k9(a b:Int)(l:List Int)(i:Nat):List Int:=((l.take i).map fun z=>if z=a then b else z)++l.drop i
theorem xp(a b:Int)(l:List Int)(i:Nat):(k9 a b l i).length=l.length:=by
 unfold k9;rw[YS,Zo,ZJ,List.length_drop];omega
theorem C4{a b:Int}{l:List Int}{i:Nat}(h:i<l.length):(k9 a b l i).getD i em=l.getD i em:=by
 unfold k9;have d:((l.take i).map fun z=>if z=a then b else z).length=i:=by rw[Zo,ZJ];omega
 rw[YR,Ze (by omega),d,abT,Z9,YR];rfl
theorem z6{a b:Int}{l:List Int}{i:Nat}(h:i<l.length):k9 a b l (i+1)=(k9 a b l i).set i (if l.getD i em=a then b else l.getD i em):=by
 unfold k9;have d:((l.take i).map fun z=>if z=a then b else z).length=i:=by rw[Zo,ZJ];omega
 rw[bz h,YX,List.set_append_right _ _ (by omega),d,abT,abu h,List.set_cons_zero,Y3,YR,YU h];rfl
theorem Ik{a b:Int}{l:List Int}{i:Nat}(h:i<l.length)(hn: ¬l.getD i em=a):k9 a b l (i+1)=k9 a b l i:=by
 rw[z6 h,be hn,<-C4 (a:=a) (b:=b) h];refine aaD fun j=>?_;rw[ZD];split
 .rename_i e;subst e;have d:i<(k9 a b l i).length:=by rw[xp];exact h
  rw[am d,YR,YU d];rfl
 .rfl
theorem Ij(a b:Int)(l:List Int):k9 a b l 0=l:=by simp[k9]
theorem J8{a b:Int}{l:List Int}{i:Nat}(h:l.length<=i):k9 a b l i=l.map fun z=>if z=a then b else z:=by
 unfold k9;rw[Y1 h,List.drop_eq_nil_of_le h,Zv]
theorem O7{l:List Int}{i:Nat}{v:Int}:(l.map fun x=>(ba x).map PV.iv).set (0+i) ([PV.iv (iI v)])=(l.set i v).map fun x=>(ba x).map PV.iv:=by
 rw[Zh,aaA];rfl
theorem Dq{l:List Int}{i:Int}(h:i.toNat<l.length):(l.map fun x=>(ba x).map PV.iv)[0+i.toNat]? =io ((ba (l.getD i.toNat em)).map .iv):=gy h
abbrev AK.YI(A:AK)(R:List Int)(o:List aj):AH:=[(0,io (AK.cell o 4 5 6 A.items.length R.length A.l.length)),(4,io (aG 2 A.items aN.c)),(5,io (aG 1 R ba)),(6,io (aG 4 A.l Ask.c))]
theorem d168(r:ae)(A:AK)(x y:Int)(a0:0<=x)(b0:0<=y)(hx:x<A.root.length)(hy:y<A.root.length)(hb:A.root.length<=1000000000):bV prog 271 [.ptr 0 0,pI x,pI y] (A.O (outer r)) (.bM []) ((A.tie x y).H (outer r)) 7:=by
 have G:x.toNat<A.root.length:=by omega
 have I:y.toNat<A.root.length:=by omega
 refine aB ab func271 Z (by decide) ntmps271 Z (by simp) ?_;refine gM 8 Z (bp ab Z Z Z Z Z (Dq G) Z Z ?_);refine gM 10 Z (bp ab Z Z Z Z Z (Dq I) Z Z ?_);refine gA Z ?_;refine az 0 A.root.length (YZ _) (fun i=>⟨[(0,.ptr 0 0),(6,pI (A.rt x)),(7,pI (A.rt y)),(8,pI i)],A.YI (k9 (A.rt x) (A.rt y) A.root i) (outer r),7⟩) (fun _=>True) _ ac
  (Nr (A:=A) (A':=⟨A.items,k9 (A.rt x) (A.rt y) A.root 0,A.l⟩) (by rw[Ij]) Z Z Z Z Z Z Z Z Z Z Z Z Z Z (bv (bv (bv (bv trivial))))) fun i hi _=>?_
 have B:=xp (A.rt x) (A.rt y) A.root i;refine zJ Z Z (fun d=>?_) fun d=>?_
 .have d:i<A.root.length:=by
   have:=zT (show li ((i:Int)<((k9 (A.rt x) (A.rt y) A.root i).length:Int))=kw from d);omega
  have J:=C4 (a:=A.rt x) (b:=A.rt y) d;have D:i<(k9 (A.rt x) (A.rt y) A.root i).length:=by omega
  have S:=z6 (a:=A.rt x) (b:=A.rt y) d;have Y:=Ik (a:=A.rt x) (b:=A.rt y) d;have u:=xp (A.rt x) (A.rt y) A.root (i+1);have j:=O7 (l:=k9 (A.rt x) (A.rt y) A.root i) (i:=i) (v:=A.rt y);refine gM 11 Z (bp ab Z Z Z Z Z (gy D) Z Z ?_);refine zJ Z Z (fun g1=>?_) fun g1=>?_
  .have g1:A.root.getD i em=A.rt x:=by rw[<-J];exact zT g1
   rw[am g1]at S;rw[<-S]at j;refine gA Z (Eo ab Z Z Z Z Z (i:=5) (sz:=1) (q:=0+i) (off:=0) (es:=(k9 (A.rt x) (A.rt y) A.root i).map fun x=>(ba x).map PV.iv) Z Z (gy D) Z Z Z Z Z ?_);refine gA Z ⟨d,ac,_,Nr (A:=⟨A.items,k9 (A.rt x) (A.rt y) A.root (i+1),A.l⟩) Z Z Z Z Z Z (by rw[B,u]) Z Z j Z Z Z Z Z (bv (bv (bv (bv ac))))⟩
  .have g1: ¬A.root.getD i em=A.rt x:=by rw[<-J];exact zF g1
   have F:AK.mk A.items (k9 (A.rt x) (A.rt y) A.root i) A.l=⟨A.items,k9 (A.rt x) (A.rt y) A.root (i+1),A.l⟩:=congrArg (fun q=>AK.mk A.items q A.l) (Y g1).symm;refine gA Z ⟨d,ac,_,Nr (F) Z Z Z Z (by first|rfl|(rw[YS];rfl)|simp) (by first|rfl|(rw[YS];rfl)|simp) (by first|rfl|(rw[YS];rfl)|simp) (by first|rfl|(rw[YX];rfl)|(simp only[YX,Y3];rfl)) (by first|rfl|(rw[YX];rfl)|(simp only[YX,Y3];rfl)) (by first|rfl|(rw[YX];rfl)|(simp only[YX,Y3];rfl)) Z Z Z Z (bv (bv (bv (bv ac))))⟩
 .have d:A.root.length<=i:=by
   have:=zF (show li ((i:Int)<((k9 (A.rt x) (A.rt y) A.root i).length:Int))=lc from d);omega
  have e:A.tie x y=⟨A.items,k9 (A.rt x) (A.rt y) A.root i,A.l⟩:=by
   unfold AK.tie;rw[J8 d]
  rw[e];refine gA Z uL
theorem WY(e:Expr):Pure prog 270 [ag e.c] (pI (cj e)):=by
 refine ah ab func270 Z (by decide) ntmps270 Z (by simp) Z ?_
 repeat' (first|(refine gA Z (zI (fun _=>?_) (fun _=>?_)))|(refine gA Z (zL (.of_eq ?_))))
 all_goals(refine congrArg pI ?_;simp_all [cj])
theorem HU(r:ae)(A:AK)(b:Int)(s:aj)(w d:Int)(hf:A.fit 1):bV prog 255 [.ptr 0 0,pI b,pI (A.ix (bf r s w)),pI d,pI 0] ((A.item (bf r s w)).O (outer r)) (.bM []) ((A.want b (bf r s w) d).H (outer r)) 7:=
 d131 r (A.item (bf r s w)) ⟨b,A.ix (bf r s w),d,0⟩ (by rw[LI];exact hf.2.2)
theorem MD(r:ae)(A:AK)(b d j:Int)(hf:A.fit 1):bV prog 255 [.ptr 0 0,pI b,pI (-1),pI d,pI j] (A.O (outer r)) (.bM []) ((A.ask ⟨b, -1,d,j⟩).H (outer r)) 7:=
 d131 r A ⟨b, -1,d,j⟩ hf.2.2
def Rb(r:ae)(n:Nat):Prop:= ∀(A:AK) (e:Expr) (lit w:Int),e.size<=n->A.fit (Expr.aA e.args)->bV prog 257 [.ptr 0 0,ag e.c,pI lit,pI w] (A.O (outer r)) (.bM []) ((lI r lit w e A).H (outer r)) 7
def U6(r:ae)(n:Nat):Prop:= ∀(A:AK) (e:Expr) (lit w:Int),e.size<=n->A.fit e.size->bV prog 256 [.ptr 0 0,ag e.c,pI lit,pI w] (A.O (outer r)) (.bM []) ((gG r lit w e A).H (outer r)) 7
theorem d132(r:ae)(n:Nat)(y:Rb r n):U6 r n:=by
 intro A e lit w x B;have D:=e.size_eq;rw[wX];have j:A.fit 1:=B.le (by omega);have b:(mC r lit w e A).fit (Expr.aA e.args):=B.step (HA r lit w e A) (by omega);refine aB ab func256 Z (by decide) ntmps256 Z (by simp) ?_;refine zJ Z Z (fun k1=>?_) fun k1=>?_
 .have k1:e.kind=1:=zT k1;have u:mC r lit w e A=A.want lit (bf r e.var w) 1:=am k1;rw[u]at b ⊢;refine gA Z (rQ (d46 r A e.var w j) ?_);refine gA Z (rQ (HU r A lit e.var w 1 j) ?_);refine zJ Z Z (fun d=>?_) fun d=>?_
  .have d:e.kind=2:=zT d;omega
  refine gA Z (rQ (y _ e lit w x b) ?_);refine gA Z uL
 have k1: ¬e.kind=1:=zF k1;refine zJ Z Z (fun d=>?_) fun d=>?_
 .have d:e.kind=2:=zT d;have u:mC r lit w e A=A.ask ⟨lit, -1,1,e.val.kind⟩:=by unfold mC;rw[be k1,am d]
  rw[u]at b ⊢;refine gA Z (rQ (MD r A lit 1 e.val.kind j) ?_);refine gA Z (rQ (y _ e lit w x b) ?_);refine gA Z uL
 .have d: ¬e.kind=2:=zF d;have u:mC r lit w e A=A:=by unfold mC;rw[be k1,be d]
  rw[u]at b ⊢;refine gA Z (rQ (y A e lit w x b) ?_);refine gA Z uL
theorem Jm{r:ae}{lit w:Int}{l:List Expr}{i:Nat}{A:AK}(h:i<l.length):(l.take (i+1)).foldl (fun A x=>gG r lit w x A) A=gG r lit w (l.getD i em) ((l.take i).foldl (fun A x=>gG r lit w x A) A):=by
 rw[bz h,aao];rfl
theorem vL: ∀(l:List Expr) (i:Nat),i<l.length->Expr.aA (l.take i)+(l.getD i em).size<=Expr.aA l
 | [],i,h=>by simp at h
 |s::r,0,_=>by simp[Expr.aA]
 |s::r,i+1,h=>by
  have:=vL r i (by simpa using h);simp only[aae,aag,Expr.aA];omega
theorem d133(r:ae)(n:Nat)(S:U6 r n):Rb r (n+1):=by
 intro A e lit w hs B;have J:=e.size_eq;refine bV.le (args:=[.ptr 0 0,ag e.c1,pI lit,pI w]) ?_ ⟨.refl _,e.zm,.refl _,.refl _,ac⟩;have F:=Expr.au e.args;have G:=B.2.1;refine aB ab func257 Z (by decide) ntmps257 Z (by simp) ?_;refine zJ Z Z (fun k=>?_) fun k=>?_
 .have k: ¬e.kind=4:=by simpa using k
  have u:lI r lit w e A=A:=be k;rw[u];refine gA Z uL
 have k:e.kind=4:=by simpa using k
 have u:lI r lit w e A=e.args.foldl (fun A x=>gG r lit w x A) A:=am k;rw[u];refine gA Z ?_;have D: ∀i,i<=e.args.length->Gr (Expr.aA (e.args.take i)) A ((e.args.take i).foldl (fun A x=>gG r lit w x A) A):=fun i _=>L3 r lit w e.args i A
 refine az 0 e.args.length (YZ _) (fun i=>⟨[(0,.ptr 0 0),(2,pI lit),(3,pI w),(5,.ptr 4 0),(8,pI i)],AK.st ((e.args.take i).foldl (fun A x=>gG r lit w x A) A) (outer r) 0 5 [(4,io (an e.c1))],8⟩) (fun _=>True) _ ac
  (S3 (A:=A) Z Z Z Z Z Z Z Z Z Z Z Z Z Z Z (bv (bv (bv (bv (bv trivial))))) (zK trivial) Z) fun i I _=>?_
 refine zJ Z Z (fun d=>?_) fun d=>?_
 .have d:i<e.args.length:=zN d;have y:=Jm (r:=r) (lit:=lit) (w:=w) (A:=A) d;have hn:=vL e.args i d;have Y:=Expr.aI e.args i d;have j:=B.step (b:=(e.args.getD i em).size) (D i I) (by omega);refine gA Z (rQ (S _ (e.args.getD i em) lit w (by omega) j) ?_);refine gA Z ⟨d,ac,_,Br (y.symm) (zK ac)⟩
 .have d:e.args.length<=i:=zG d;rw[Y1 d];refine gA Z uL
theorem vg(r:ae): ∀n,U6 r n∧Rb r n
 |0=>by
  have b:Rb r 0:=fun A e lit w j=>by have:=e.size_pos;omega
  exact⟨d132 r 0 b,b⟩
 |n+1=>by
  have d:=d133 r n (vg r n).1;exact⟨d132 r (n+1) d,d⟩
theorem EK(r:ae)(A:AK)(e:Expr)(lit w:Int)(hf:A.fit e.size):bV prog 256 [.ptr 0 0,ag e.c,pI lit,pI w] (A.O (outer r)) (.bM []) ((gG r lit w e A).H (outer r)) 7:=(vg r e.size).1 A e lit w (YY _) hf
theorem EJ(r:ae)(A:AK)(e:Expr)(lit w:Int)(hf:A.fit e.size):bV prog 257 [.ptr 0 0,ag e.c,pI lit,pI w] (A.O (outer r)) (.bM []) ((lI r lit w e A).H (outer r)) 7:=(vg r e.size).2 A e lit w (YY _) (hf.le (by have:=e.size_eq;omega))
theorem LH(A:AK)(u:aN):0<=A.ix u:=by unfold AK.ix;omega
theorem d134(r:ae)(A:AK)(x y:Expr)(lit w:Int)(hf:A.fit 2):bV prog 258 [.ptr 0 0,ag x.c,ag y.c,pI lit,pI w] (A.O (outer r)) (.bM []) ((lr r lit w x y A).H (outer r)) 7:=by
 have b:A.fit 1:=hf.le (by omega);have D:lr r lit w x y A=if cj x=0 then(if cj y=0 then((A.item (bf r x.var w)).item (bf r y.var w)).tie (A.ix (bf r x.var w)) ((A.item (bf r x.var w)).ix (bf r y.var w)) else A.want lit (bf r x.var w) (cj y))
  else if cj y=0 then A.want lit (bf r y.var w) (cj x) else A.ask ⟨lit, -1,cj x,cj y⟩:=rfl
 rw[D];refine aB ab func258 Z (by decide) ntmps258 Z (by simp) ?_;refine gA Z (zp (WY x) ?_);refine gA Z (zp (WY y) ?_);refine zJ Z Z (fun g1=>?_) fun g1=>?_
 .have g1:cj x=0:=zT g1;rw[am g1];refine zJ Z Z (fun g2=>?_) fun g2=>?_
  .have g2:cj y=0:=zT g2;rw[am g2];have u:=uo A (bf r x.var w);have B:=uo (A.item (bf r x.var w)) (bf r y.var w);have j:(A.item (bf r x.var w)).fit 1:=hf.step u (by omega);have d:=B.ok (u.ok hf.1);have J:=Cc A (bf r x.var w);have S:=Cc (A.item (bf r x.var w)) (bf r y.var w);have G:=LH A (bf r x.var w);have I:=LH (A.item (bf r x.var w)) (bf r y.var w);have m2:=B.mn;have m3:=u.it;have m4:=B.it;have F:=hf.2.1;refine gA Z (rQ (d46 r A x.var w b) ?_);refine gA Z (rQ (d46 r _ y.var w j) ?_);refine gA Z (rQ (d168 r _ (A.ix (bf r x.var w)) ((A.item (bf r x.var w)).ix (bf r y.var w)) G I (by rw[d.1];omega) (by rw[d.1];omega) (by rw[d.1];omega)) ?_);refine gA Z uL
  .have g2: ¬cj y=0:=zF g2;rw[be g2];refine zJ Z Z (fun g3=>?_) fun g3=>?_
   .refine gA Z (rQ (d46 r A x.var w b) ?_);refine gA Z (rQ (HU r A lit x.var w (cj y) b) ?_);refine gA Z uL
   .exact absurd g1 (zF g3)
 .have g1: ¬cj x=0:=zF g1;rw[be g1];refine zJ Z Z (fun g3=>?_) fun g3=>?_
  .exact absurd (zT g3) g1
  refine zJ Z Z (fun g2=>?_) fun g2=>?_
  .have g2:cj y=0:=zT g2;rw[am g2];refine gA Z (rQ (d46 r A y.var w b) ?_);refine gA Z (rQ (HU r A lit y.var w (cj x) b) ?_);refine gA Z uL
  .have g2: ¬cj y=0:=zF g2;rw[be g2];refine gA Z (rQ (MD r A lit (cj x) (cj y) b) ?_);refine gA Z uL
theorem yR{p:Prog}{r:ae}{a:Atom}{lit w:Int}{A:AK}{i:Nat}(h:(ir p a.rel).types.length<=i): ∀k,fJ p r a lit w A (i+k)=fJ p r a lit w A i
 |0=>rfl
 |k+1=>by
  rw[<-aas,fJ,yR h k];unfold j7;rw[be (by omega)]
set_option maxHeartbeats 1000000 in
theorem d85(p:Prog)(r:ae)(A:AK)(a:Atom)(lit w:Int)(hp:p.aD.length<=1000000000)(hf:A.fit a.ad.length):bV prog 239 [.ptr 0 0,ag p.c,ag a.c,pI lit,pI w] (A.O (outer r)) (.bM []) ((fJ p r a lit w A a.ad.length).H (outer r)) 7:=by
 have D:=hf.2.1;refine aB ab func239 Z (by decide) ntmps239 Z (by simp) ?_;refine gA Z (zp (XT p a.rel (by omega)) ?_);refine gA Z ?_;refine az 0 a.ad.length (YZ _) (fun i=>⟨[(0,.ptr 0 0),(3,pI lit),(4,pI w),(7,.ptr 5 0),(10,.ptr 6 0),(12,pI i)],AK.st (fJ p r a lit w A i) (outer r) 0 7 [(5,io (an a.c)),(6,io (an (ir p a.rel).c))],10⟩) (fun _=>True) _ ac
  (S3 (A:=A) Z Z Z Z Z Z Z Z Z Z Z Z Z Z Z (bv (bv (bv (bv (bv (bv trivial)))))) (zK (zK trivial)) Z) fun i F _=>?_
 refine zE Z Z (fun d=>?_) fun d=>?_
 .have d:a.ad.length<=i:=zG d;have:i=a.ad.length:=by omega
  subst this;refine gA Z uL
 have d:i<a.ad.length:=zN d;refine zE Z Z (fun u=>?_) fun u=>?_
 .have u:(ir p a.rel).types.length<=i:=zG u;have e:fJ p r a lit w A a.ad.length=fJ p r a lit w A i:=by
   have:=yR (r:=r) (lit:=lit) (w:=w) (A:=A) u (a.ad.length-i);rwa[show i+(a.ad.length-i)=a.ad.length by omega]at this
  rw[e];refine gA Z uL
 have u:i<(ir p a.rel).types.length:=zN u;have j:fJ p r a lit w A (i+1)=j7 p r a lit w i (fJ p r a lit w A i):=rfl
 have y:j7 p r a lit w i (fJ p r a lit w A i)=(if(a.ad.getD i em).kind=1 then(fJ p r a lit w A i).want lit (bf r (a.ad.getD i em).var w) (typeAt p a i)
  else if(a.ad.getD i em).kind=2 then(fJ p r a lit w A i).ask ⟨lit, -1,typeAt p a i,(a.ad.getD i em).val.kind⟩ else fJ p r a lit w A i):=am u
 rw[y]at j;have x:(fJ p r a lit w A i).fit 1:=hf.step (w6 p r a lit w A i) (by omega);generalize fJ p r a lit w A i=B at*
 refine zJ Z Z (fun k1=>?_) fun k1=>?_
 .have k1:(a.ad.getD i em).kind=1:=zT k1;rw[am k1]at j;refine gA Z (rQ (d46 r B (a.ad.getD i em).var w x) ?_);refine gA Z (rQ (HU r B lit (a.ad.getD i em).var w (typeAt p a i) x) ?_);refine zJ Z Z (fun b=>?_) fun b=>?_
  .have b:(a.ad.getD i em).kind=2:=zT b;omega
  refine gA Z ⟨d,ac,_,Br (j.symm) (zK (zK ac))⟩
 have k1: ¬(a.ad.getD i em).kind=1:=zF k1;rw[be k1]at j;refine zJ Z Z (fun b=>?_) fun b=>?_
 .have b:(a.ad.getD i em).kind=2:=zT b;rw[am b]at j;refine gA Z (Jk (MD r B lit (typeAt p a i) (a.ad.getD i em).val.kind x) ?_);refine gA Z ⟨d,ac,_,Br (j.symm) (zK (zK ac))⟩
 .have b: ¬(a.ad.getD i em).kind=2:=zF b;rw[be b]at j;refine gA Z ⟨d,ac,_,Br (j.symm) (zK (zK ac))⟩
theorem d87(p:Prog)(r:ae)(A:AK)(l:Lit)(lit w:Int)(hp:p.aD.length<=1000000000)(hf:A.fit l.size):bV prog 241 [.ptr 0 0,ag p.c,ag l.c,pI lit,pI w] (A.O (outer r)) (.bM []) ((ly p r lit w l A).H (outer r)) 7:=by
 have u:=l.size_eq;have x:=l.left.size_eq;have y:=l.right.size_eq;refine aB ab func241 Z (by decide) ntmps241 Z (by simp) ?_;refine zJ Z Z (fun k1=>?_) fun k1=>?_
 .have k1:l.kind=1:=zT k1;have j:ly p r lit w l A=fJ p r l.atom lit w A l.atom.ad.length:=am (.inl k1);rw[j];refine gA Z (rQ (d85 p r A l.atom lit w hp (hf.le (by omega))) ?_);refine gA Z uL
 have k1: ¬l.kind=1:=zF k1;refine zJ Z Z (fun b=>?_) fun b=>?_
 .have b:l.kind=2:=zT b;have j:ly p r lit w l A=fJ p r l.atom lit w A l.atom.ad.length:=am (.inr b);rw[j];refine gA Z (rQ (d85 p r A l.atom lit w hp (hf.le (by omega))) ?_);refine gA Z uL
 have b: ¬l.kind=2:=zF b;have j:ly p r lit w l A=if l.kind=3 then(if l.op=1∨l.op=2 then lr r lit w l.left l.right (lI r lit w l.right (lI r lit w l.left A)) else gG r lit w l.right (gG r lit w l.left A)) else A:=be (by rintro(h|h);exact k1 h;exact b h);rw[j];refine zE Z Z (fun d=>?_) fun d=>?_
 .have d: ¬l.kind=3:=zF d;rw[be d];refine gA Z uL
 have d:l.kind=3:=zT d;rw[am d];have f0:A.fit l.left.size:=hf.le (by omega);have f1:(lI r lit w l.left A).fit l.right.size:=hf.step (tq r lit w l.left A) (by omega);have f2:(lI r lit w l.right (lI r lit w l.left A)).fit 2:=hf.step ((tq r lit w l.left A).trans (tq r lit w l.right _)) (by omega);have f3:(gG r lit w l.left A).fit l.right.size:=hf.step (nR r lit w _ l.left A (YY _)) (by omega);refine zJ Z Z (fun g1=>?_) fun g1=>?_
 .have g1: ¬l.op=1:=zF g1;refine zJ Z Z (fun g2=>?_) fun g2=>?_
  .have g2:l.op=2:=zT g2;rw[am (.inr g2)];refine gA Z (rQ (EJ r A l.left lit w f0) ?_);refine gA Z (rQ (EJ r _ l.right lit w f1) ?_);refine gA Z (rQ (d134 r _ l.left l.right lit w f2) ?_);refine gA Z uL
  .have g2: ¬l.op=2:=zF g2;rw[be (by rintro(h|h);exact g1 h;exact g2 h)];refine gA Z (rQ (EK r A l.left lit w f0) ?_);refine gA Z (rQ (EK r _ l.right lit w f3) ?_);refine gA Z uL
 .have g1:l.op=1:=zT g1;rw[am (.inl g1)];refine gA Z (rQ (EJ r A l.left lit w f0) ?_);refine gA Z (rQ (EJ r _ l.right lit w f1) ?_);refine gA Z (rQ (d134 r _ l.left l.right lit w f2) ?_);refine gA Z uL
theorem d86(p:Prog)(r:ae)(A:AK)(g:eL)(i:Int)(hp:p.aD.length<=1000000000)(hf:A.fit (g.dX.size+2+Lit.aA g.body)):bV prog 240 [.ptr 0 0,ag p.c,ag g.c,pI i] (A.O (outer r)) (.bM []) ((Fg p r i (uQ r i g.func g.var g.dX A) g.body g.body.length).H (outer r)) 7:=by
 have I:=Lit.au g.body;have J:=hf.2.1;have S:=g.dX.size_eq;have G:=LW r i g.func g.var g.dX A;have y:(uQ r i g.func g.var g.dX A).fit (Lit.aA g.body):=hf.step G (by omega);have hV:uQ r i g.func g.var g.dX A=if g.func=1 then gG r i i (jk g.var) A else if g.func=2 then gG r i i g.dX (gG r i i (jk g.var) A) else lr r i i (jk g.var) g.dX (lI r i i g.dX A):=rfl;refine bV.le (args:=[.ptr 0 0,ag p.c,ag g.c1,pI i]) ?_ ⟨.refl _,.refl _,g.zm,.refl _,ac⟩;generalize uQ r i g.func g.var g.dX A=V at*
 have Y:=jB g.var;refine aB ab func240 Z (by decide) ntmps240 Z (by simp) ?_;refine zJ Z Z (fun f1=>?_) fun f1=>?_
 .have f1:g.func=1:=zT f1;rw[am f1]at hV;refine gA Z (rQ (bV.le (aa:=[.ptr 0 0,Fi g.var,pI i,pI i]) (EK r A (jk g.var) i i (hf.le (by omega))) ⟨.refl _,rb _,.refl _,.refl _,ac⟩) ?_);refine gA Z ?_;refine az 0 g.body.length (YZ _) (fun k=>⟨[(0,.ptr 0 0),(3,pI i),(5,.ptr 4 0),(6,.ptr 5 0),(9,pI k)],AK.st (Fg p r i V g.body k) (outer r) 0 10 [(4,io (an p.c)),(5,io (an g.c1))],13⟩) (fun _=>True) _ ac
   (S3 (A':=V) hV.symm Z Z Z Z Z Z Z Z Z Z Z Z Z Z (bv (bv (bv (bv (bv trivial))))) (zK (zK trivial)) Z) fun k B _=>?_
  refine zJ Z Z (fun d=>?_) fun d=>?_
  .have d:k<g.body.length:=zN d;have F:=eO g.body k d;have D:Fg p r i V g.body (k+1)=ly p r i i (g.body.getD k em) (Fg p r i V g.body k):=rfl;have j:=y.step (b:=(g.body.getD k em).size) (El p r i V g.body k B) (by omega);refine gA Z (Jk (d87 p r _ (g.body.getD k em) i i hp j) ?_);refine gA Z ⟨d,ac,_,Br (D.symm) (zK (zK ac))⟩
  .have d:g.body.length<=k:=zG d;have u:k=g.body.length:=by omega
   subst u;refine gA Z uL
 have f1: ¬g.func=1:=zF f1;rw[be f1]at hV;refine zJ Z Z (fun f2=>?_) fun f2=>?_
 .have f2:g.func=2:=zT f2;rw[am f2]at hV;have x:(gG r i i (jk g.var) A).fit g.dX.size:=hf.step (nR r i i _ (jk g.var) A (YY _)) (by omega);refine gA Z (rQ (bV.le (aa:=[.ptr 0 0,Fi g.var,pI i,pI i]) (EK r A (jk g.var) i i (hf.le (by omega))) ⟨.refl _,rb _,.refl _,.refl _,ac⟩) ?_);refine gA Z (rQ (EK r _ g.dX i i x) ?_);refine gA Z ?_;refine az 0 g.body.length (YZ _) (fun k=>⟨[(0,.ptr 0 0),(3,pI i),(5,.ptr 4 0),(6,.ptr 5 0),(9,pI k)],AK.st (Fg p r i V g.body k) (outer r) 0 13 [(4,io (an p.c)),(5,io (an g.c1))],16⟩) (fun _=>True) _ ac
   (S3 (A':=V) hV.symm Z Z Z Z Z Z Z Z Z Z Z Z Z Z (bv (bv (bv (bv (bv trivial))))) (zK (zK trivial)) Z) fun k B _=>?_
  refine zJ Z Z (fun d=>?_) fun d=>?_
  .have d:k<g.body.length:=zN d;have F:=eO g.body k d;have D:Fg p r i V g.body (k+1)=ly p r i i (g.body.getD k em) (Fg p r i V g.body k):=rfl;have j:=y.step (b:=(g.body.getD k em).size) (El p r i V g.body k B) (by omega);refine gA Z (Jk (d87 p r _ (g.body.getD k em) i i hp j) ?_);refine gA Z ⟨d,ac,_,Br (D.symm) (zK (zK ac))⟩
  .have d:g.body.length<=k:=zG d;have u:k=g.body.length:=by omega
   subst u;refine gA Z uL
 .have f2: ¬g.func=2:=zF f2;rw[be f2]at hV;have x:(lI r i i g.dX A).fit 2:=hf.step (tq r i i g.dX A) (by omega);refine gA Z (rQ (EJ r A g.dX i i (hf.le (by omega))) ?_);refine gA Z (rQ (bV.le (aa:=[.ptr 0 0,Fi g.var,ag g.dX.c,pI i,pI i]) (d134 r _ (jk g.var) g.dX i i x) ⟨.refl _,rb _,.refl _,.refl _,.refl _,ac⟩) ?_);refine gA Z ?_;refine az 0 g.body.length (YZ _) (fun k=>⟨[(0,.ptr 0 0),(3,pI i),(5,.ptr 4 0),(6,.ptr 5 0),(9,pI k)],AK.st (Fg p r i V g.body k) (outer r) 0 13 [(4,io (an p.c)),(5,io (an g.c1))],16⟩) (fun _=>True) _ ac
   (S3 (A':=V) hV.symm Z Z Z Z Z Z Z Z Z Z Z Z Z Z (bv (bv (bv (bv (bv trivial))))) (zK (zK trivial)) Z) fun k B _=>?_
  refine zJ Z Z (fun d=>?_) fun d=>?_
  .have d:k<g.body.length:=zN d;have F:=eO g.body k d;have D:Fg p r i V g.body (k+1)=ly p r i i (g.body.getD k em) (Fg p r i V g.body k):=rfl;have j:=y.step (b:=(g.body.getD k em).size) (El p r i V g.body k B) (by omega);refine gA Z (Jk (d87 p r _ (g.body.getD k em) i i hp j) ?_);refine gA Z ⟨d,ac,_,Br (D.symm) (zK (zK ac))⟩
  .have d:g.body.length<=k:=zG d;have u:k=g.body.length:=by omega
   subst u;refine gA Z uL
set_option maxHeartbeats 2000000 in
theorem d45(p:Prog)(r:ae)(hp:p.aD.length<=1000000000)(hs:r.size<=1000000000):bV prog 210 [ag p.c,ag r.c] [] (.ptr 0 0) ((nC p r).K (outer r)) 4:=by
 have J:r.size=r.head.ad.length+Lit.aA r.body:=rfl;have y:AK.o.fit r.size:=⟨Wb,by show 0+_<=_;omega,by show 0+_<=_;omega⟩
 have D:=Lit.au r.body;refine aB ab func210 Z (by decide) ntmps210 Z (by simp) ?_;refine gA Z (zp (UP r (by omega)) ?_);refine gM 4 Z (ov 2 0 2 Z Z (ov 2 1 1 Z Z (ov 2 2 4 Z Z ?_)));refine gA Z (rQ (d85 p r AK.o r.head (-1) (-1) hp (y.le (by omega))) ?_);refine gA Z ?_;refine az 0 r.body.length (YZ _) (fun i=>⟨[(2,.ptr 0 0),(3,.ptr 1 0),(5,.ptr 2 0),(6,pI i)],AK.st (lA p r i) (outer r) 2 9 [(0,io (an p.c)),(1,io (an r.c))],12⟩) (fun _=>True) _ ac
  (S3 (A':=lA p r 0) Z Z Z Z Z Z Z Z Z Z Z Z Z Z Z (bv (bv (bv (bv trivial)))) (zK (zK trivial)) Z) fun i F _=>?_
 refine zE Z Z (fun d=>?_) fun d=>?_
 .have d:r.body.length<=i:=zG d;have A:i=r.body.length:=by omega
  subst A;refine gA Z (zD [2,9,10,11] Z (zW (zO (zS (zS (zS ac))))))
 have d:i<r.body.length:=zN d;have I:=eO r.body i d;have G:=(r.body.getD i em).size_eq;have x:=y.step (b:=(r.body.getD i em).size) (Cj p r i F) (by omega);have hs:lA p r (i+1)=rW p r i (r.body.getD i em) (lA p r i):=rfl;generalize lA p r i=B at*
 refine zJ Z Z (fun u=>?_) fun u=>?_
 .have u:(r.body.getD i em).kind=4:=zT u;have j:rW p r i (r.body.getD i em) B=Fg p r i (uQ r i (r.body.getD i em).agg.func (r.body.getD i em).agg.var (r.body.getD i em).agg.dX B) (r.body.getD i em).agg.body (r.body.getD i em).agg.body.length:=am u;rw[j]at hs;refine gA Z (Jk (d86 p r B (r.body.getD i em).agg i hp (x.le (by show(r.body.getD i em).jQ.size+2+Lit.aA (r.body.getD i em).ar<=_;omega))) ?_);refine gA Z ⟨d,ac,_,Br (hs.symm) (zK (zK ac))⟩
 .have u: ¬(r.body.getD i em).kind=4:=zF u;have j:rW p r i (r.body.getD i em) B=ly p r i (-1) (r.body.getD i em) B:=be u;rw[j]at hs;refine gA Z (Jk (d87 p r B (r.body.getD i em) i (-1) hp x) ?_);refine gA Z ⟨d,ac,_,Br (hs.symm) (zK (zK ac))⟩
abbrev AK.P(A:AK)(o:List aj):PV:= .iv (.mF [cW 2 A.items aN.c,cW 1 A.root ba,cW 4 A.l Ask.c,strs o])
theorem EC{α:Type}[Inhabited α]{l:List α}{f:α->Bool}{i:Nat}(h:(l.take i).any f=lc)(hi:i<l.length)(hf:f (l.getD i em)=kw):l.find? f=io (l.getD i em):=by
 rw[YR,YU hi]at hf ⊢;refine abd.2 ⟨hf,i,hi,rfl,fun j b=>?_⟩;have:=ZL.1 h (l[j]'(by omega)) (abt.2 ⟨j,by omega,rfl⟩);simpa using this
theorem c47(A:AK)(o:List aj)(i:Int)(h0:0<=i)(hi:i<A.root.length)(j: ∀k∈A.l,k.item<A.root.length)(hb:A.l.length<=1000000000):Pure prog 211 [A.P o,pI i] (pI (A.kind i)):=by
 refine ah ab func211 Z (by decide) ntmps211 Z (by simp) Z ?_;refine gA Z ?_;refine az 0 A.l.length (YZ _) (fun n=>⟨[(0,A.P o),(1,pI i),(5,pI n)],[],0⟩) (fun n=>(A.l.take n).any (fun k=>li (k.item>=0)&&li (A.rt k.item=A.rt i))=lc) [] (by simp) (mW Z Z (bv (bv (bv ac))) Z) fun n x d=>?_;refine zE Z Z (fun b=>?_) fun b=>?_
 .have b:A.l.length<=n:=zG b;have e:A.kind i=0:=by
   unfold AK.kind;rw[eK (any_none d b)];rfl
  rw[e];exact zU Z
 have b:n<A.l.length:=zN b;have u:=j (A.l.getD n em) (by rw[YR,YU b];exact Zz b);refine zE Z Z (fun g1=>?_) fun g1=>?_
 .have g1: ¬(A.l.getD n em).item>=0:=zF g1
  repeat(refine gA Z (zI (fun q=>?_) (fun q=>?_));all_goals(try(simp at q;done)))
  refine gA Z ⟨b,(aW d b).2 (by rw[decide_eq_false g1];rfl),[],mW Z Z (bv (bv (bv ac))) Z⟩
 have g1:(A.l.getD n em).item>=0:=zT g1;refine zJ Z Z (fun g2=>?_) fun g2=>?_
 .have g2:A.rt (A.l.getD n em).item=A.rt i:=zT g2;have e:A.kind i=(A.l.getD n em).type:=by
   unfold AK.kind;rw[EC d b (by rw[decide_eq_true g1,decide_eq_true g2];rfl)];rfl
  rw[e];exact zU Z
 .have g2: ¬A.rt (A.l.getD n em).item=A.rt i:=zF g2;refine gA Z ⟨b,(aW d b).2 (by rw[decide_eq_false g2,ZV]),[],mW Z Z (bv (bv (bv ac))) Z⟩
theorem Rel.sub{M:Mem}{N:Nm}{U:Nat->Prop}{h d:AH}{w:World}(hr:Rel M N U h w)(hs: ∀j o,d.get j=io o->h.get j=io o):Rel M N U d w:=
 ⟨hr.fj,fun i o b=>hr.used i o (hs i o b),fun i o b=>hr.fi i o (hs i o b),fun i o b=>hr.obj i o (hs i o b),fun i j o p b u=>hr.inj i j o p (hs i o b) (hs j p u)⟩
theorem HK(i sz:Nat)(el:Nat->List IV): ∀l:List IV,uv i sz el (l.map .iv)=l.map .iv
 | []=>rfl
 |x::l=>by rw[Zd,uv,HK i sz el l];rfl
theorem sT{α:Type}(i sz:Nat)(el:Nat->List IV)(b:Nat)(l:List α)(f:α->List IV):(aG b l f).ik i sz el=aG b l f:=by
 simp only[aG,AO.ik,aaH];congr 1;exact aaf fun x _=>HK i sz el _
theorem lS{α:Type}(i sz n b:Nat)(l:List α)(f:α->List IV):(aG b l f).vf i sz n:=by
 intro e d;obtain⟨x,_,rfl⟩:=Zu.1 d;exact AM _ _ _ _
theorem Gq{a b:Nat}(h: ¬a=b):Zk a b=lc:=aaB.2 fun e=>h (Zc e)
theorem xe(a:Nat):Zk a a=kw:=Nat.beq_refl a
theorem fzK{M:Mem}{N:Nm}{n:Nat}{h:AH}{w:World}(A:AK)(o:List aj)(rest:List PV){i a b c:Nat}(hb:wo rest=kw)
  (hi:h.get i=io (AK.cell o a b c A.items.length A.root.length A.l.length)) (h1:h.get a=io (aG 2 A.items aN.c)) (h2:h.get b=io (aG 1 A.root ba)) (h3:h.get c=io (aG 4 A.l Ask.c)) (hn:b4 [i,a,b,c]=kw) (hr:Rel M N (· <n) h w):
  ∃u:Mem,M.le u∧Rel u N (· <n) [] w∧ ∀(j:Nat) (p:PV) (x:Value),(A.P o::rest)[j]? =io p->(∀q,(PV.ptr i 0::rest)[j]? =io q->VR M N (· <n) q x)->VR u N (· <n) p x:=by
 have B:=dA hn;simp only[aad,Za,abn,or_false,not_or]at B;obtain⟨⟨e1,I,D⟩,⟨F,G⟩,y,_⟩:=B;have r0:Rel M N (· <n) [(i,io (AK.cell o a b c A.items.length A.root.length A.l.length)),(a,io (aG 2 A.items aN.c)),(b,io (aG 1 A.root ba)),(c,io (aG 4 A.l Ask.c))] w:=Rel.sub hr fun j x d=>by
  simp only[AH.aw]at d;split at d
  .rename_i e;subst e;rw[<-d];exact hi
  split at d
  .rename_i e;subst e;rw[<-d];exact h1
  split at d
  .rename_i e;subst e;rw[<-d];exact h2
  split at d
  .rename_i e;subst e;rw[<-d];exact h3
  .cases d
 obtain⟨u,l1,r1,v1⟩:=u9 r0 a (fun k=>aN.c (A.items.getD k em)) (es:=A.items.map fun x=>(aN.c x).map .iv) (sz:=2) (by rw[AH.aw,be (Ne.symm e1),AH.aw,am Z];rfl) (fM Z)
  ⟨by simp[AO.vf,iR,PV.db,Ne.symm F,Ne.symm G],lS _ _ _ _ _ _,lS _ _ _ _ _ _,lS _ _ _ _ _ _,ac⟩
 have S:Rel u N (· <n) [(i,io (.cells [.iv (cW 2 A.items aN.c),.sl b 0 A.root.length 1,.sl c 0 A.l.length 4,.iv (strs o)])),(b,io (aG 1 A.root ba)),(c,io (aG 4 A.l Ask.c))] w:=Rel.sub r1 fun j x d=>by
  simp only[AH.aw]at d;rw[AH.aw,AH.kB];split at d
  .rename_i e;subst e;rw[be e1,AH.aw,am Z,<-d];simp only[ZW,AO.ik,uv,PV.fj,xe,Gq (Ne.symm F),Gq (Ne.symm G),cond_true,cond_false,Zh]
  split at d
  .rename_i e;subst e;rw[be (Ne.symm F),AH.aw,be (Ne.symm I),AH.aw,be (Ne.symm F),AH.aw,am Z,<-d,ZW,sT]
  split at d
  .rename_i e;subst e;rw[be (Ne.symm G),AH.aw,be (Ne.symm D),AH.aw,be (Ne.symm G),AH.aw,be (Ne.symm y),AH.aw,am Z,<-d,ZW,sT]
  .cases d
 obtain⟨M2,l2,r2,v2⟩:=u9 S b (fun k=>ba (A.root.getD k em)) (es:=A.root.map fun x=>(ba x).map .iv) (sz:=1) (by rw[AH.aw,be (Ne.symm I),AH.aw,am Z];rfl) (fM Z)
  ⟨by simp[AO.vf,iR,PV.db,Ne.symm y],lS _ _ _ _ _ _,lS _ _ _ _ _ _,ac⟩
 have Y:Rel M2 N (· <n) [(i,io (.cells [.iv (cW 2 A.items aN.c),.iv (cW 1 A.root ba),.sl c 0 A.l.length 4,.iv (strs o)])),(c,io (aG 4 A.l Ask.c))] w:=Rel.sub r2 fun j x d=>by
  simp only[AH.aw]at d;rw[AH.aw,AH.kB];split at d
  .rename_i e;subst e;rw[be I,AH.aw,am Z,<-d];simp only[ZW,AO.ik,uv,PV.fj,xe,Gq (Ne.symm y),cond_true,cond_false,Zh]
  split at d
  .rename_i e;subst e;rw[be (Ne.symm y),AH.aw,be (Ne.symm D),AH.aw,be (Ne.symm y),AH.aw,am Z,<-d,ZW,sT]
  .cases d
 obtain⟨M3,l3,r3,v3⟩:=u9 Y c (fun k=>Ask.c (A.l.getD k em)) (es:=A.l.map fun x=>(Ask.c x).map .iv) (sz:=4) (by rw[AH.aw,be (Ne.symm D),AH.aw,am Z];rfl) (fM Z)
  ⟨by simp[AO.vf,iR,PV.db],lS _ _ _ _ _ _,ac⟩
 have a0:Rel M3 N (· <n) [(i,io (.cells [.iv (cW 2 A.items aN.c),.iv (cW 1 A.root ba),.iv (cW 4 A.l Ask.c),.iv (strs o)]))] w:=Rel.sub r3 fun j x d=>by
  simp only[AH.aw]at d;rw[AH.aw,AH.kB];split at d
  .rename_i e;subst e;rw[be D,AH.aw,am Z,<-d];simp only[ZW,AO.ik,uv,PV.fj,xe,cond_true,Zh]
  .cases d
 obtain⟨M4,x4,r4,v4⟩:=AY (l:=[cW 2 A.items aN.c,cW 1 A.root ba,cW 4 A.l Ask.c,strs o]) a0 (i:=i) (cs:=[.iv (cW 2 A.items aN.c),.iv (cW 1 A.root ba),.iv (cW 4 A.l Ask.c),.iv (strs o)]) (T0:=jp) (by rw[AH.aw,am Z]) Z;have J:=(l1.trans l2).trans (l3.trans x4.r6);refine⟨M4,J,Rel.sub r4 (fun j x d=>nomatch d),fun j p x d hq=>?_⟩;cases j with
 |zero=>
  cases d;have g1:=v1 _ _ (hq _ Z) ac;have g2:=v2 _ _ g1 ac;have g3:=v3 _ _ g2 ac;have g4:=v4 _ _ g3;simp only[PV.fj,PV.Jl,xe,cond_true,List.drop_zero]at g4;exact g4
 |succ j=>exact uG (hq p d) (lZ hb j p d)
theorem UT(r:ae)(lit:Int)(h1:lit<r.body.length):Pure prog 208 [ag r.c,pI lit] (ag [iI (ft r lit).line,iI (ft r lit).zr]):=by
 refine ah ab func208 Z (by decide) ntmps208 Z (by simp) Z ?_;refine zJ Z Z (fun b=>?_) fun b=>?_
 .have b:lit<0:=by simpa using b
  refine gA Z (zL (.of_eq ?_));rw[ft,am b];rfl
 have b: ¬lit<0:=by simpa using b
 refine gA Z (zL (.of_eq ?_));rw[ft,be b];rfl
theorem SY(e:Int)(q:Pos):Pure prog 132 [pI e,ag [iI q.line,iI q.zr]] (ag (aY.c (e,q))):=by
 refine ah ab func132 Z (by decide) ntmps132 Z (by simp) Z ?_;exact zU Z
theorem uX{α:Type}(σ:Nat->Nat)(l:List α)(f:α->List IV):(l.map fun x=>(f x).map PV.iv).map (dK σ)=l.map fun x=>(f x).map PV.iv:=by
 rw[aaH];exact aaf fun x _=>rq σ _
set_option maxHeartbeats 1000000 in
theorem c68(p:Prog)(r:ae)(hp:p.aD.length<=1000000000)(hs:r.size<=1000000000):Pure prog 176 [ag p.c,ag r.c] (ag (jl r (nC p r)).c):=by
 have hz:r.size=r.head.ad.length+Lit.aA r.body:=rfl;have y:=Cj p r r.body.length (YY _);have S:(nC p r).ok:=y.ok Wb;have Y: ∀k∈(nC p r).l, -1<=k.place∧k.place<r.body.length:=(nB p r r.body.length).2;have I:(nC p r).l.length<=1000000000:=by
  have d:=y.ln;rw[aaz]at d;have:AK.o.l.length=0:=rfl;show(lA p r r.body.length).l.length<=_;omega
 refine ah ab func176 Z (by decide) ntmps176 Z (by simp) Z ?_;refine gA Z (zq [] (d45 p r hp hs) ?_);generalize nC p r=A at*
 obtain⟨B,D⟩:=S;refine gA Z ?_;refine az 0 A.l.length (YZ _) (fun i=>⟨[(3,.ptr 1 0),(4,.ptr 2 0),(5,.ptr 3 0),(6,pI i)],[(1,io (an r.c)),(2,io (an aY.z.c)),(3,io (AK.cell (outer r) 4 5 6 A.items.length A.root.length A.l.length)),(4,io (aG 2 A.items aN.c)),(5,io (aG 1 A.root ba)),(6,io (aG 4 A.l Ask.c))],7⟩) (fun i=>(A.l.take i).any A.bad=lc) [] (by simp)
  (zW (zK (zK (zO (hR Z (uX _ _ _) Z (hR Z (uX _ _ _) Z (hR Z (uX _ _ _) Z trivial))))))) fun i hi G=>?_
 refine zE Z Z (fun d=>?_) fun d=>?_
 .have d:A.l.length<=i:=zG d;have e:jl r A=aY.z:=by
   unfold jl;rw[eK (any_none G d)]
  rw[e];exact zU Z
 have d:i<A.l.length:=zN d;have hm:A.l.getD i em∈A.l:=by rw[YR,YU d];exact Zz d
 have J:=D _ hm;obtain⟨a0,F⟩:=Y _ hm;have b:A.bad (A.l.getD i em)=!li ((if(A.l.getD i em).item>=0 then A.kind (A.l.getD i em).item else(A.l.getD i em).qu)=(A.l.getD i em).type):=rfl;have x:A.bad (A.l.getD i em)=kw->jl r A=(63,ft r (A.l.getD i em).place):=fun h=>by
  unfold jl;rw[EC G d h]
 have u:A.bad (A.l.getD i em)=lc->(A.l.take (i+1)).any A.bad=lc:=fun h=>(aW G d).2 h;refine gM 11 Z (bp ab Z Z Z Z Z (gy d) Z Z ?_);refine zJ Z Z (fun g1=>?_) fun g1=>?_
 .have g1:(A.l.getD i em).item>=0:=zT g1;rw[am g1]at b;refine gA Z (Mf (asv:=[.ptr 3 0,pI (A.l.getD i em).item]) (Pure.det (c47 A (outer r) (A.l.getD i em).item g1 (by rw[B];exact J) (fun k hk=>by rw[B];exact D k hk) I)) Z Z Z Z Z (fun M N w hr=>fzK A (outer r) [pI (A.l.getD i em).item] Z Z Z Z Z Z hr) Z (fun j o hj=>nomatch hj) Z ?_);refine zJ Z Z (fun g2=>?_) fun g2=>?_
  .have g2:A.bad (A.l.getD i em)=kw:=by
    rw[b];exact g2
   rw[x g2];refine gA Z (zp (UT r (A.l.getD i em).place F) ?_);refine gA Z (zp (SY 63 (ft r (A.l.getD i em).place)) ?_);exact zU Z
  .have g2:A.bad (A.l.getD i em)=lc:=by
    rw[b];exact g2
   refine gA Z ⟨d,u g2,[],zW (zK (zK (zO (zS (zS (zS ac))))))⟩
 .have g1: ¬(A.l.getD i em).item>=0:=zF g1;rw[be g1]at b;refine zJ Z Z (fun g2=>?_) fun g2=>?_
  .have g2:A.bad (A.l.getD i em)=kw:=by
    rw[b];exact g2
   rw[x g2];refine gA Z (zp (UT r (A.l.getD i em).place F) ?_);refine gA Z (zp (SY 63 (ft r (A.l.getD i em).place)) ?_);exact zU Z
  .have g2:A.bad (A.l.getD i em)=lc:=by
    rw[b];exact g2
   refine gA Z ⟨d,u g2,[],zW (zK (zK (zO (zS (zS (zS ac))))))⟩
theorem W1(t:nW):Pure prog 266 [ag t.c] (.bM [pS (if t.2=kw then⟨#[]⟩ else t.1),pI (if t.2=kw then 50 else 0)]):=by
 refine ah ab func266 Z (by decide) ntmps266 Z (by simp) Z ?_;refine zJ Z Z (fun g=>?_) fun g=>?_
 .have g:t.2=kw:=g;rw[am g,am g];exact zU Z
 .have g: ¬t.2=kw:=by
   have g:t.2=lc:=g;rw[g];decide
  rw[be g,be g];exact zU Z
set_option maxHeartbeats 4000000 in
theorem US(a:Atom)(x:a.ts<=900000000)(hl:a.ad.length<=1000000000):Pure prog 267 [ag a.c] (ag (fh a).c):=by
 have j:a.ts=a.rel.size+10+(a.ad.map Term.ts).sum:=rfl;have y:(⟨#[40]⟩:ByteArray).size=1:=rfl;have A:(⟨#[44,32]⟩:ByteArray).size=2:=rfl;have B:(⟨#[95]⟩:ByteArray).size=1:=rfl;have D:((eH a 0).1++(⟨#[41]⟩:ByteArray)).size=(eH a 0).1.size+1:=ZQ;refine ah ab func267 Z (by decide) ntmps267 Z (by simp) Z ?_;refine gA Z (zp (WX a.rel (by omega)) ?_);refine gA Z ?_;refine az 0 a.ad.length (YZ _) (fun i=>⟨[(1,.ptr 0 0),(2,.ptr 1 0),(4,.ptr 2 0),(5,pI i)],[(0,io (an a.c)),(1,io (.cells [pS YW,pB lc])),(2,io (an (eH a i).c))],3⟩) (fun _=>True) [] ac
  (zW (zK (zO (zK trivial)))) fun i S _=>?_
 refine zE Z Z (fun b=>?_) fun b=>?_
 .have b:a.ad.length<=i:=zG b;have u:i=a.ad.length:=by omega
  subst u;have d:=pn a a.ad.length (YY _);rw[Y1 (YY _)]at d;have e2:(⟨#[41]⟩:ByteArray).size=1:=rfl;exact zU Z
 have b:i<a.ad.length:=zN b;have d:=pn a i (by omega);have F:=uT a.ad i b;have G:(a.ad.getD i em).ts=(a.ad.getD i em).var.size+310:=rfl;have I:=nY (a.ad.getD i em).val;have J:((eH a i).1++(⟨#[44,32]⟩:ByteArray)).size=(eH a i).1.size+2:=ZQ;have Y:=s8 (a.ad.getD i em).kind (a.ad.getD i em).var (a.ad.getD i em).val
 repeat' (first
  |(refine gA Z (zI (fun q=>?_) (fun q=>?_)))
  |(refine gA Z (bh (WW (a.ad.getD i em).kind (a.ad.getD i em).var (a.ad.getD i em).val (by omega)) Z Z Z Z Z Z ?_)))
 all_goals(refine gA Z ?_)
 all_goals clear d F G I J Y x j y A B D S
 all_goals have hE:YW=(⟨#[]⟩:ByteArray):=rfl
 all_goals exact⟨b,ac,[],zW (zK (zO ⟨⟨_,rfl,.cells ⟨.of_eq (congrArg pS (by simp_all [eH,pz,M7,fa,wC,Kx])),(by first|exact .of_eq (fO (by simp_all [eH,pz,M7,fa,cT]))|exact .rz (by simp_all [eH,pz,M7,fa,cT])),ac⟩⟩,YP Z,rfl,ac⟩))⟩
theorem YD(a:Atom)(b:a.ts<=900000000)(d:a.ad.length<=1000000000):Pure prog 249 [ag a.c] (.bM [pS (if(fh a).2=kw then⟨#[]⟩ else(fh a).1),pI (if(fh a).2=kw then 50 else 0)]):=by
 refine ah ab func249 Z (by decide) ntmps249 Z (by simp) Z ?_;refine gA Z (zp (US a b d) ?_);refine gA Z (zp (W1 (fh a)) ?_);exact zU Z
theorem c62(a:Atom)(b:a.ts<=900000000)(d:a.ad.length<=1000000000):Pure prog 232 [ag a.c] (pB (!(fh a).2)):=by
 refine ah ab func232 Z (by decide) ntmps232 Z (by simp) Z ?_;refine gA Z (zp (YD a b d) ?_);refine gA Z (zL (.of_eq ?_));refine(fO ?_:pB _=pB _);cases(fh a).2<;>rfl
theorem Gj(e:Expr):Pure prog 292 [ag e.c] (pI (bx e)):=by
 refine ah ab func292 Z (by decide) ntmps292 Z (by simp) Z ?_
 repeat' (first|(refine gA Z (zI (fun _=>?_) (fun _=>?_)))|(refine gA Z (zL (.of_eq ?_))))
 all_goals(refine congrArg pI ?_;simp_all [bx])
theorem XZ(op:Int):Pure prog 293 [pI op] (pS (xz op)):=by
 refine ah ab func293 Z (by decide) ntmps293 Z (by simp) Z ?_
 repeat' (first|(refine gA Z (zI (fun _=>?_) (fun _=>?_)))|(refine gA Z (zL (.of_eq ?_))))
 all_goals(refine congrArg pS ?_;simp_all [xz])
theorem ot{e:Expr}{b:Bool}{k:nW}(d: ¬(e.kind=1∨e.kind=2))(h: ¬e.kind=4∨b=kw∨ ¬e.var=⟨#[]⟩∨cT e.val=lc∨e.op<1∨e.op>6):gB e b k=nV:=by
 unfold gB;rw[be d,am h]
theorem tm{e:Expr}{b:Bool}{k:nW}(d:e.kind=1∨e.kind=2):gB e b k=((fa e.kind e.var e.val).1,(fa e.kind e.var e.val).2||(b||(!li (e.op=0)||decide ((e.args.length:Int)>0)))):=by
 unfold gB;rw[am d];rfl
theorem F4{e:Expr}{k:nW}(b:e.kind=4)(h:e.var=⟨#[]⟩)(j:cT e.val=kw)(h1: ¬e.op<1)(d: ¬e.op>6):gB e lc k=k:=by
 unfold gB;rw[be (by omega),be];rintro(g|g|g|g|g|g)
 .exact g b
 .cases g
 .exact g h
 .rw[j]at g;cases g
 .exact h1 g
 .exact d g
theorem Jq{e:Expr}{n:Nat}(hn:n<=1)(d: ¬(e.kind=1∨e.kind=2)):bP n e=nV:=by
 have j: ∀b,gB e b nV=nV:=fun b=>by
  unfold gB;rw[be d];split<;>rfl
 match n,hn with
 |0,_=>exact j kw
 |1,_=>exact j lc
theorem Gd{e:Expr}{n:Nat}(b:e.kind=1∨e.kind=2):bP n e=((fa e.kind e.var e.val).1,(fa e.kind e.var e.val).2||(li (n=0)||(!li (e.op=0)||decide ((e.args.length:Int)>0)))):=by
 match n with
 |0=>exact tm b
 |1=>exact tm b
 |m+2=>exact tm b
theorem fZ:aL (.agg [pS YW,.kb kw]) (ag nV.c):= .agg ⟨.of_eq Z,.rz Z,ac⟩
def PT(n:Nat):Prop:= ∀(d:Int) (e:Expr),d=(n:Int)-1->e.ts<=900000000->Pure prog 280 [ag e.c,pI d] (ag (bP n e).c)
theorem EV(n:Nat)(hn:n<=1000)(x:PT (n+1))(hB:PT n)(b:Bool)(d:Int)(hd:d=n)(a:Expr)(j:a.ts<=900000000):Pure prog 291 [ag a.c,pB b,pI d] (ag (j8 n b a).c):=by
 have D:=fx n a;have y:(⟨#[40]⟩:ByteArray).size=1:=rfl;have A:(⟨#[41]⟩:ByteArray).size=1:=rfl;have B:((⟨#[40]⟩:ByteArray)++(bP n a).1).size=(⟨#[40]⟩:ByteArray).size+(bP n a).1.size:=ZQ;have u:li (d<1)=li (n<1):=decide_eq_decide.2 (by omega);refine ah ab func291 Z (by decide) ntmps291 Z (by simp) Z ?_;refine zJ Z Z (fun g=>?_) fun g=>?_
 .have g:b=lc:=by simpa using g
  rw[j8,be (by rw[g];decide)];refine gA Z (zp (x d a (by omega) j) ?_);exact zU Z
 .have g:b=kw:=by simpa using g
  rw[j8,am g];refine gA Z (zp (hB (d-1) a (by omega) j) ?_);refine zJ Z Z (fun q=>?_) fun q=>?_
  .have q:(bP n a).2=lc:=q;refine gA Z (zL ?_);exact .agg ⟨.refl _,.of_eq (fO (by rw[q,u];rfl)),ac⟩
  .have q:(bP n a).2=kw:=by simpa using q
   refine gA Z (zL ?_);rw[q]
   first
    |exact .agg ⟨.refl _,.of_eq (fO (by first|rfl|rw[q];rfl)),ac⟩
    |exact .agg ⟨.refl _,.rz (by first|rfl|rw[q];rfl),ac⟩
theorem Ic(n:Nat)(d:Int)(e:Expr)(hd:d=(n:Int)-1)(j:e.kind=1∨e.kind=2)(u:e.ts<=900000000):Pure prog 280 [ag e.c,pI d] (ag (bP n e).c):=by
 have x:=e.l9;have b:li (n=0)=li (d<0):=decide_eq_decide.2 (by omega);rw[Gd j,b];clear b hd;refine ah ab func280 Z (by decide) ntmps280 Z (by simp) Z ?_
 repeat' (first
  |(refine gA Z (zI (fun q=>?_) (fun q=>?_)))
  |(refine gA Z (bh (WW e.kind e.var e.val (by omega)) Z Z Z Z Z Z ?_)))
 all_goals first
  |(exfalso;simp_all;done)
  |skip
 all_goals(refine gA Z (zL ?_))
 all_goals first
  |refine .agg ⟨.refl _,.of_eq (fO ?_),ac⟩
  |refine .agg ⟨.refl _,.rz ?_,ac⟩
 all_goals(simp_all<;>omega)
theorem Nd(n:Nat)(hn:n<=1):PT n:=by
 intro d e hd j;by_cases b:e.kind=1∨e.kind=2
 .exact Ic n d e hd b j
 rw[Jq hn b];refine ah ab func280 Z (by decide) ntmps280 Z (by simp) Z ?_;refine zE Z Z (fun k1=>?_) fun k1=>?_
 .exact absurd (.inl (zT k1)) b
 refine zJ Z Z (fun u=>?_) fun u=>?_
 .exact absurd (.inr (zT u)) b
 refine zJ Z Z (fun g1=>?_) fun g1=>?_
 .refine zJ Z Z (fun g2=>?_) fun g2=>?_
  .exact absurd (zF g2) (by omega)
  .repeat(refine gA Z (zI (fun q=>?_) (fun q=>?_));all_goals(try(simp at q;done)))
   refine gA Z (zL ?_);exact fZ
 .repeat(refine gA Z (zI (fun q=>?_) (fun q=>?_));all_goals(try(simp at q;done)))
  refine gA Z (zL ?_);exact fZ
set_option maxHeartbeats 2000000 in
theorem Q8(m:Nat)(hm:m<=100)(hB:PT m)(hA:PT (m+1)):PT (m+2):=by
 intro d e hd a0;by_cases y:e.kind=1∨e.kind=2
 .exact Ic (m+2) d e hd y a0
 have A:m<=1000:=by omega
 have h0:=e.l9;rw[vE];refine Al.Pure.le (aa:=[ag e.c,pI d]) (args:=[ag e.c1,pI d]) ?_ ⟨e.zm,.refl _,ac⟩;refine ah ab func280 Z (by decide) ntmps280 Z (by simp) Z ?_;refine zE Z Z (fun k1=>?_) fun k1=>?_
 .exact absurd (.inl (zT k1)) y
 refine zJ Z Z (fun k2=>?_) fun k2=>?_
 .exact absurd (.inr (zT k2)) y
 refine zE Z Z (fun g1=>?_) fun g1=>?_
 .have g1: ¬e.kind=4:=by
   have g:(!li (e.kind=4))=kw:=g1;simpa using g
  rw[ot y (.inl g1)]
  repeat(refine gA Z (zI (fun q=>?_) (fun q=>?_));all_goals(try(simp at q;done)))
  refine gA Z (zL ?_);exact fZ
 have g1:e.kind=4:=by
  have g:(!li (e.kind=4))=lc:=g1;simpa using g
 refine zE Z Z (fun g2=>?_) fun g2=>?_
 .exact absurd (zT g2) (by omega)
 refine zE Z Z (fun g3=>?_) fun g3=>?_
 .have g3: ¬e.var=⟨#[]⟩:=by
   have g:(!li (e.var=⟨#[]⟩))=kw:=g3;simpa using g
  rw[ot y (.inr (.inr (.inl g3)))]
  repeat(refine gA Z (zI (fun q=>?_) (fun q=>?_));all_goals(try(simp at q;done)))
  refine gA Z (zL ?_);exact fZ
 have g3:e.var=⟨#[]⟩:=by
  have g:(!li (e.var=⟨#[]⟩))=lc:=g3;simpa using g
 refine zE Z Z (fun g4=>?_) fun g4=>?_
 .have g4:cT e.val=lc:=by
   have g:(!cT e.val)=kw:=g4;simpa using g
  rw[ot y (.inr (.inr (.inr (.inl g4))))]
  repeat(refine gA Z (zI (fun q=>?_) (fun q=>?_));all_goals(try(simp at q;done)))
  refine gA Z (zL ?_);exact fZ
 have g4:cT e.val=kw:=by
  have g:(!cT e.val)=lc:=g4;simpa using g
 refine zE Z Z (fun g5=>?_) fun g5=>?_
 .have g5:e.op<1:=zT g5;rw[ot y (.inr (.inr (.inr (.inr (.inl g5)))))]
  repeat(refine gA Z (zI (fun q=>?_) (fun q=>?_));all_goals(try(simp at q;done)))
  refine gA Z (zL ?_);exact fZ
 have g5: ¬e.op<1:=zF g5;refine zJ Z Z (fun g6=>?_) fun g6=>?_
 .have g6:e.op>6:=zT g6;rw[ot y (.inr (.inr (.inr (.inr (.inr g6)))))];refine gA Z (zL ?_);exact fZ
 have g6: ¬e.op>6:=zF g6;rw[F4 g1 g3 g4 g5 g6];refine gM 1 Z (ki [] (t:=⟨[(1,pI d),(2,.ptr 0 0),(4,.ptr 1 0)],[(0,io (an e.c1)),(1,io (an [iS YW,.v (.bool lc)]))],2⟩) (zW (zK (zK ac))) ?_);refine zJ Z Z (fun Y=>?_) fun Y=>?_
 .have Y:e.op=6:=zT Y;refine zJ Z Z (fun D=>?_) fun D=>?_
  .have D: ¬e.args.length=1:=by simp at D;omega
   rw[np,am Y,be D];refine gA Z (zL ?_);exact fZ
  have D:e.args.length=1:=by simp at D;omega
  have hg:(aP e).ts<=_:=Expr.tL e.args 0 (by omega);have G:(aP e).ts<=900000000:=by omega
  have j:np (j8 m) e=(sM++(if FM (aP e)=kw then(⟨#[45,48]⟩:ByteArray) else(j8 m (qp (aP e)) (aP e)).1),(j8 m (qp (aP e)) (aP e)).2):=by rw[np,am Y,am D]
  have e1:(⟨#[45]⟩:ByteArray).size=1:=rfl;have e2:(⟨#[45,48]⟩:ByteArray).size=2:=rfl;have g0:=qV m kw (aP e);have f0:=qV m lc (aP e);have e0:=qV m (li ((aP e).val.num>0)) (aP e);refine zJ Z Z (fun hk=>?_) fun hk=>?_
  .have x:(aP e).kind=2:=zT hk;refine zE Z Z (fun hv=>?_) fun hv=>?_
   .have F: ¬(aP e).val.kind=1:=zF hv;have I:pK (aP e)=lc:=by rw[pK,decide_eq_false F,ZV]
    rw[FM,qp,Ld,I,ZZ,ZZ,aau,be (by decide)]at j;refine gA Z (pP (Gj (aP e)) ?_);refine zE Z Z (fun u=>?_) fun u=>?_
    .have b: ¬bx (aP e)<3:=zF u;rw[decide_eq_false b]at j;rw[j];refine gA Z (pP (EV m A hA hB lc (d-1) (by omega) (aP e) G) ?_);refine zJ Z Z (fun B=>?_) fun B=>?_
     .refine zJ Z Z (fun J=>?_) fun J=>?_
      .exact absurd (zT J) F
      exact zU Z
     .exact absurd x (zF B)
    .have b:bx (aP e)<3:=zT u;rw[decide_eq_true b]at j;rw[j];refine gA Z (pP (EV m A hA hB kw (d-1) (by omega) (aP e) G) ?_);refine zJ Z Z (fun B=>?_) fun B=>?_
     .refine zJ Z Z (fun J=>?_) fun J=>?_
      .exact absurd (zT J) F
      exact zU Z
     .exact absurd x (zF B)
   .have F:(aP e).val.kind=1:=zT hv;have I:pK (aP e)=kw:=by rw[pK,decide_eq_true F,decide_eq_true x];rfl
    rw[FM,qp,Ld,I,ZH,ZH]at j;refine gA Z (pP (Gj (aP e)) ?_);refine zE Z Z (fun u=>?_) fun u=>?_
    .have b: ¬bx (aP e)<3:=zF u;rw[decide_eq_false b,Z7]at j;rw[j];refine gA Z (pP (EV m A hA hB (li ((aP e).val.num>0)) (d-1) (by omega) (aP e) G) ?_);refine zJ Z Z (fun B=>?_) fun B=>?_
     .refine zJ Z Z (fun J=>?_) fun J=>?_
      .refine zJ Z Z (fun S=>?_) fun S=>?_
       .rw[am (show li ((aP e).val.num=0)=kw from S)];exact zU Z
       .have S:li ((aP e).val.num=0)=lc:=S;rw[be (by rw[S];decide)];exact zU Z
      .exact absurd F (zF J)
     .exact absurd x (zF B)
    .have b:bx (aP e)<3:=zT u;rw[decide_eq_true b,abm]at j;rw[j];refine gA Z (pP (EV m A hA hB kw (d-1) (by omega) (aP e) G) ?_);refine zJ Z Z (fun B=>?_) fun B=>?_
     .refine zJ Z Z (fun J=>?_) fun J=>?_
      .refine zJ Z Z (fun S=>?_) fun S=>?_
       .rw[am (show li ((aP e).val.num=0)=kw from S)];exact zU Z
       .have S:li ((aP e).val.num=0)=lc:=S;rw[be (by rw[S];decide)];exact zU Z
      .exact absurd F (zF J)
     .exact absurd x (zF B)
  .have x: ¬(aP e).kind=2:=zF hk;have I:pK (aP e)=lc:=by rw[pK,decide_eq_false x];rfl
   rw[FM,qp,Ld,I,ZZ,ZZ,aau,be (by decide)]at j;refine gA Z (pP (Gj (aP e)) ?_);refine zE Z Z (fun u=>?_) fun u=>?_
   .have b: ¬bx (aP e)<3:=zF u;rw[decide_eq_false b]at j;rw[j];refine gA Z (pP (EV m A hA hB lc (d-1) (by omega) (aP e) G) ?_);refine zJ Z Z (fun B=>?_) fun B=>?_
    .exact absurd (zT B) x
    exact zU Z
   .have b:bx (aP e)<3:=zT u;rw[decide_eq_true b]at j;rw[j];refine gA Z (pP (EV m A hA hB kw (d-1) (by omega) (aP e) G) ?_);refine zJ Z Z (fun B=>?_) fun B=>?_
    .exact absurd (zT B) x
    exact zU Z
 .have Y: ¬e.op=6:=zF Y;refine zJ Z Z (fun D=>?_) fun D=>?_
  .have D: ¬e.args.length=2:=by simp at D;omega
   rw[np,be Y,be D];refine gA Z (zL ?_);exact fZ
  have D:e.args.length=2:=by simp at D;omega
  have hg:(aP e).ts+(kV e).ts<=_:=Expr.wP e.args D;rw[np,be Y,am D];have c0:=qV m (li (bx (aP e)<bx e)) (aP e);have d0:=qV m (li (bx (kV e)<=bx e)) (kV e);have i0:=Ab e.op;have b0:((j8 m (li (bx (aP e)<bx e)) (aP e)).1++xz e.op).size=(j8 m (li (bx (aP e)<bx e)) (aP e)).1.size+(xz e.op).size:=ZQ;refine gA Z (pP (Gj (aP e)) ?_);refine gA Z (pP (Al.Pure.le (aa:=[ag e.c1]) (Gj e) ⟨e.LB,ac⟩) ?_);refine gA Z (pP (EV m A hA hB (li (bx (aP e)<bx e)) (d-1) (by omega) (aP e) (by omega)) ?_);refine gM 3 Z (ki [] (t:=⟨[(1,pI d),(2,.ptr 0 0),(4,.ptr 1 0),(9,.ptr 2 0)],[(0,io (an e.c1)),(1,io (an [iS YW,.v (.bool lc)])),(2,io (an (j8 m (li (bx (aP e)<bx e)) (aP e)).c))],3⟩) (zW (zK (zK (zK ac)))) ?_);refine gA Z (pP (Gj (kV e)) ?_);refine gA Z (pP (Al.Pure.le (aa:=[ag e.c1]) (Gj e) ⟨e.LB,ac⟩) ?_);refine gA Z (pP (EV m A hA hB (li (bx (kV e)<=bx e)) (d-1) (by omega) (kV e) (by omega)) ?_);refine gM 3 Z (ki [] (t:=⟨[(1,pI d),(2,.ptr 0 0),(4,.ptr 1 0),(9,.ptr 2 0),(10,.ptr 3 0)],[(0,io (an e.c1)),(1,io (an [iS YW,.v (.bool lc)])),(2,io (an (j8 m (li (bx (aP e)<bx e)) (aP e)).c)),(3,io (an (j8 m (li (bx (kV e)<=bx e)) (kV e)).c))],4⟩) (zW (zK (zK (zK (zK ac))))) ?_);refine gA Z (pP (XZ e.op) ?_);refine zE Z Z (fun q=>?_) fun q=>?_
  .have q:(j8 m (li (bx (aP e)<bx e)) (aP e)).2=lc:=q;rw[q];exact zU Z
  .have q:(j8 m (li (bx (aP e)<bx e)) (aP e)).2=kw:=by simpa using q
   rw[q];refine gA Z (zL ?_)
   first
    |exact .agg ⟨.refl _,.of_eq (fO (by first|rfl|rw[q];rfl)),ac⟩
    |exact .agg ⟨.refl _,.rz (by first|rfl|rw[q];rfl),ac⟩
theorem Nf: ∀n,n<=100->PT n∧PT (n+1)
 |0,_=>⟨Nd 0 (by decide),Nd 1 (by decide)⟩
 |n+1,h=>by
  obtain⟨d,b⟩:=Nf n (by omega);exact⟨b,Q8 n (by omega) d b⟩
theorem UR(e:Expr)(b:e.ts<=900000000):Pure prog 280 [ag e.c,pI 16] (ag (bP 17 e).c):=(Nf 17 (by decide)).1 16 e Z b
theorem X5(a:Atom):Pure prog 277 [ag a.c] (pB (eR a)):=by
 refine ah ab func277 Z (by decide) ntmps277 Z (by simp) Z ?_
 repeat' (first|(refine gA Z (zI (fun _=>?_) (fun _=>?_)))|(refine gA Z (zL (.of_eq ?_))))
 all_goals(refine(fO ?_:pB _=pB _))
 all_goals(simp only[eR, *];rfl)
theorem QM(e:Expr):Pure prog 278 [ag e.c] (pB (cV e)):=by
 refine ah ab func278 Z (by decide) ntmps278 Z (by simp) Z ?_
 repeat' (first|(refine gA Z (zI (fun _=>?_) (fun _=>?_)))|(refine gA Z (zL (.of_eq ?_))))
 all_goals(refine(fO ?_:pB _=pB _))
 all_goals(simp only[cV,cT, *];rfl)
theorem X4(g:eL):Pure prog 279 [ag g.c] (pB (jr g)):=by
 refine ah ab func279 Z (by decide) ntmps279 Z (by simp) Z ?_
 repeat' (first|(refine gA Z (zI (fun _=>?_) (fun _=>?_)))|(refine gA Z (zp (QM g.dX) ?_))|(refine gA Z (zL (.of_eq ?_))))
 all_goals(refine(fO ?_:pB _=pB _))
 all_goals(simp only[jr, *];rfl)
theorem X3(op:Int):Pure prog 281 [pI op] (pS (qM op)):=by
 refine ah ab func281 Z (by decide) ntmps281 Z (by simp) Z ?_
 repeat' (first|(refine gA Z (zI (fun _=>?_) (fun _=>?_)))|(refine gA Z (zL (.of_eq ?_))))
 all_goals(refine congrArg pS ?_;simp_all [qM])
theorem XY(f:Int):Pure prog 294 [pI f] (pS (fC f)):=by
 refine ah ab func294 Z (by decide) ntmps294 Z (by simp) Z ?_
 repeat' (first|(refine gA Z (zI (fun _=>?_) (fun _=>?_)))|(refine gA Z (zL (.of_eq ?_))))
 all_goals(refine congrArg pS ?_;simp_all [fC])
theorem wy(a b:ByteArray):(a++b).size=a.size+b.size:=ZQ
theorem Va:(⟨#[]⟩:ByteArray).size=0:=rfl
theorem vV{f:Lit->nW}{l:List Lit}{i:Nat}(h:b5 f l i=nV): ∀k,b5 f l (i+k)=nV
 |0=>h
 |k+1=>by
  rw[<-aas,b5,vV h k];exact am Z
theorem FV{f:Lit->nW}{l:List Lit}{i:Nat}(h:(b5 f l i).2=lc)(hi:i<l.length)(hf:(f (l.getD i em)).2=kw):b5 f l l.length=nV:=by
 have e:b5 f l (i+1)=nV:=by rw[b5,be (by rw[h];decide),am hf]
 have:=vV e (l.length-(i+1));rwa[show i+1+(l.length-(i+1))=l.length by omega]at this
theorem DZ{f:Lit->nW}{l:List Lit}{i:Nat}(h:(b5 f l i).2=lc)(hf:(f (l.getD i em)).2=lc):b5 f l (i+1)=((if(i:Int)>0 then(b5 f l i).1++wC else(b5 f l i).1)++(f (l.getD i em)).1,lc):=by
 rw[b5,be (by rw[h];decide),be (by rw[hf];decide)]
theorem CX: ∀(l:List Lit) (i:Nat),i<l.length->Lit.lB (l.take (i+1))=Lit.lB (l.take i)+(l.getD i em).ts
 | [],i,h=>by simp at h
 |s::r,0,_=>by simp[Lit.lB]
 |s::r,i+1,h=>by
  have:=CX r i (by simpa using h);simp only[aae,aag,Lit.lB,this];omega
theorem oY{f:Lit->nW}{l:List Lit}(hf: ∀i,i<l.length->(f (l.getD i em)).1.size+2<=(l.getD i em).ts): ∀i,i<=l.length->(b5 f l i).1.size<=Lit.lB (l.take i)
 |0,_=>by show(⟨#[]⟩:ByteArray).size<=_;rw[Va];exact YZ _
 |i+1,h=>by
  have b:=oY hf i (by omega);have d:=hf i (by omega);have j:wC.size=2:=rfl;rw[CX l i (by omega),b5];split
  .show(⟨#[]⟩:ByteArray).size<=_;rw[Va];exact YZ _
  split
  .show(⟨#[]⟩:ByteArray).size<=_;rw[Va];exact YZ _
  .show((if(i:Int)>0 then(b5 f l i).1++wC else(b5 f l i).1)++(f (l.getD i em)).1).size<=_;rw[wy];split
   .rw[wy];omega
   .omega
theorem Bj(a:Atom):(fh a).1.size<=a.ts:=by
 have b:=pn a a.ad.length (YY _);rw[Y1 (YY _)]at b;have d:a.ts=a.rel.size+10+(a.ad.map Term.ts).sum:=rfl;have j:sC.size=1:=rfl;show((eH a a.ad.length).1++sC).size<=_;rw[wy];omega
theorem C5(a:Atom):a.ad.length<=a.ts:=by
 have b:a.ts=a.rel.size+10+(a.ad.map Term.ts).sum:=rfl;have: ∀l:List Term,l.length<=(l.map Term.ts).sum:=by
  intro l
  induction l with
  |nil=>exact YY _
  |cons x r ih=>
   have:x.ts=x.var.size+310:=rfl;simp only[Zr,Zd,aaF];omega
 have:=this a.ad;omega
theorem PZ(a:eL):(Hf a).1.size<=a.var.size+a.dX.ts+14:=by
 have u:=ur a.func;have x:=fx 17 a.dX;have b:pZ.size=3:=rfl;have d:p3.size=3:=rfl;have j:Fe.size=3:=rfl;unfold Hf;split
 .show(((a.var++pZ)++fC a.func)++p3).size<=_;rw[wy,wy,wy];omega
 .show(((((a.var++pZ)++fC a.func)++p3)++(bP 17 a.dX).1)++Fe).size<=_;rw[wy,wy,wy,wy,wy];omega
theorem Na{f:Lit->nW}{a:eL}{br:Int}(hf: ∀i,i<a.body.length->(f (a.body.getD i em)).1.size+2<=(a.body.getD i em).ts):(oG f a br).1.size<=a.var.size+a.dX.ts+Lit.lB a.body+16:=by
 have j:=PZ a;have b:=oY hf a.body.length (YY _);rw[Y1 (YY _)]at b;have d:wB.size=2:=rfl;unfold oG;split
 .show(⟨#[]⟩:ByteArray).size<=_;rw[Va];exact YZ _
 .show(((Hf a).1++(b5 f a.body a.body.length).1)++wB).size<=_;rw[wy,wy];omega
theorem AB: ∀(n:Nat) (br:Int) (l:Lit),(ew n br l).1.size+2<=l.ts
 |0,_,l=>by
  have:=l.l9;show(⟨#[]⟩:ByteArray).size+2<=_;rw[Va];omega
 |n+1,br,l=>by
  have h:=l.l9;have d:=Bj l.atom;have j:=fx 17 l.left;have u:=fx 17 l.right;have x:=yB l.op;have y:=Na (f:=ew n (br-1)) (a:=l.agg) (br:=br) fun i _=>AB n (br-1) _;have A:l.agg.var.size+l.agg.dX.ts+Lit.lB l.agg.body=l.a7.size+l.jQ.ts+Lit.lB l.ar:=rfl;have b:xC.size=4:=rfl;rw[ew];unfold jJ;split
  .show(if l.kind=2 then xC++(fh l.atom).1 else(fh l.atom).1).size+2<=_;split
   .rw[wy];omega
   .omega
  split
  .show(((bP 17 l.left).1++qM l.op)++(bP 17 l.right).1).size+2<=_;rw[wy,wy];omega
  split
  .show(oG (ew n (br-1)) l.agg br).1.size+2<=_;omega
  .show(⟨#[]⟩:ByteArray).size+2<=_;rw[Va];omega
theorem XX(f:Lit->nW)(l:List Lit)(br:Int)(hc: ∀i,i<l.length->Pure prog 268 [ag (l.getD i em).c,pI br] (ag (f (l.getD i em)).c))(hf: ∀i,i<l.length->(f (l.getD i em)).1.size+2<=(l.getD i em).ts)(F:Lit.lB l<=900000000):Pure prog 295 [.iv (lits l),pI br] (ag (b5 f l l.length).c):=by
 refine mu (bH func295 Z (by decide)) ⟨_,_,Y8⟩ fun j=>?_;simp only[maxLen]at j;refine ah ab func295 Z (by decide) ntmps295 Z (by simp) Z ?_;refine gA Z ?_
 refine az 0 l.length (YZ _) (fun i=>⟨[(0,.iv (lits l)),(1,pI br),(4,.ptr 0 0),(5,.ptr 1 0),(6,pI i)],[(0,io (.cells [pS YW,pB lc])),(1,io (.cells [pS (b5 f l i).1,pB lc]))],2⟩) (fun i=>(b5 f l i).2=lc) [] Z
  (zW (zO (zO trivial))) fun i y u=>?_
 refine zE Z Z (fun b=>?_) fun b=>?_
 .have b:l.length<=i:=zG b;have x:i=l.length:=by omega
  subst x;refine gA Z (zL ?_);exact .agg ⟨.refl _,.of_eq (fO u.symm),ac⟩
 have b:i<l.length:=zN b;have A:=oY hf i y;have B:=hf i b;have D:=Lit.tJ l i b;have G:(⟨#[44,32]⟩:ByteArray).size=2:=rfl;have I:=wy (b5 f l i).1 ⟨#[44,32]⟩;refine gA Z (zp (hc i b) ?_);refine zJ Z Z (fun g=>?_) fun g=>?_
 .have g:(f (l.getD i em)).2=kw:=g;rw[FV u b g];refine gA Z (zL ?_);exact fZ
 have g:(f (l.getD i em)).2=lc:=by simpa using g
 have d:=DZ u g;refine zJ Z Z (fun k=>?_) fun k=>?_
 .have k:(i:Int)>0:=zT k;rw[am k]at d;refine gA Z ⟨b,by rw[d],[],zW (zO ⟨⟨_,rfl,.cells ⟨.of_eq (congrArg pS (by rw[d];rfl)),.refl _,ac⟩⟩,YP Z,rfl,ac⟩)⟩
 .have k: ¬(i:Int)>0:=zF k;rw[be k]at d;refine gA Z ⟨b,by rw[d],[],zW (zO ⟨⟨_,rfl,.cells ⟨.of_eq (congrArg pS (by rw[d])),.refl _,ac⟩⟩,YP Z,rfl,ac⟩)⟩
set_option maxHeartbeats 2000000 in
theorem X0(f:Lit->nW)(a:eL)(br:Int)(hb:br<=16)(hc:1<=br-> ∀i,i<a.body.length->Pure prog 268 [ag (a.body.getD i em).c,pI (br-1)] (ag (f (a.body.getD i em)).c))(hf: ∀i,i<a.body.length->(f (a.body.getD i em)).1.size+2<=(a.body.getD i em).ts)(x:a.var.size+a.dX.ts+Lit.lB a.body<=900000000):Pure prog 282 [ag a.c,pI br] (ag (oG f a br).c):=by
 have j:=ur a.func;have u:=fx 17 a.dX;have d:=oY hf a.body.length (YY _);rw[Y1 (YY _)]at d;have A:(⟨#[32,61,32]⟩:ByteArray).size=3:=rfl;have B:(⟨#[32,123,32]⟩:ByteArray).size=3:=rfl;have D:(⟨#[32,58,32]⟩:ByteArray).size=3:=rfl;have F:(⟨#[32,125]⟩:ByteArray).size=2:=rfl;have I:=wy a.var ⟨#[32,61,32]⟩;have J:=wy (a.var++⟨#[32,61,32]⟩) (fC a.func);have S:=wy ((a.var++⟨#[32,61,32]⟩)++fC a.func) ⟨#[32,123,32]⟩;have Y:=wy (((a.var++⟨#[32,61,32]⟩)++fC a.func)++⟨#[32,123,32]⟩) (bP 17 a.dX).1;have s5:=wy ((((a.var++⟨#[32,61,32]⟩)++fC a.func)++⟨#[32,123,32]⟩)++(bP 17 a.dX).1) ⟨#[32,58,32]⟩;have s6:=wy (((((a.var++⟨#[32,61,32]⟩)++fC a.func)++⟨#[32,123,32]⟩)++(bP 17 a.dX).1)++⟨#[32,58,32]⟩) (b5 f a.body a.body.length).1;have s7:=wy (((a.var++⟨#[32,61,32]⟩)++fC a.func)++⟨#[32,123,32]⟩) (b5 f a.body a.body.length).1;refine Al.Pure.le (aa:=[ag a.c,pI br]) (args:=[ag a.c1,pI br]) ?_ ⟨a.zm,.refl _,ac⟩;refine ah ab func282 Z (by decide) ntmps282 Z (by simp) Z ?_;refine zE Z Z (fun g1=>?_) fun g1=>?_
 .have g1:a.func<1:=zT g1;rw[oG,am (.inl g1)]
  repeat(refine gA Z (zI (fun q=>?_) (fun q=>?_));all_goals(try(simp at q;done)))
  refine gA Z (zL ?_);exact fZ
 have g1: ¬a.func<1:=zF g1;refine zE Z Z (fun g2=>?_) fun g2=>?_
 .have g2:a.func>4:=zT g2;rw[oG,am (.inr (.inl g2))]
  repeat(refine gA Z (zI (fun q=>?_) (fun q=>?_));all_goals(try(simp at q;done)))
  refine gA Z (zL ?_);exact fZ
 have g2: ¬a.func>4:=zF g2;refine zE Z Z (fun g3=>?_) fun g3=>?_
 .have g3:br<1:=zT g3;rw[oG,am (.inr (.inr (.inl g3)))]
  repeat(refine gA Z (zI (fun q=>?_) (fun q=>?_));all_goals(try(simp at q;done)))
  refine gA Z (zL ?_);exact fZ
 have g3: ¬br<1:=zF g3;refine zJ Z Z (fun g4=>?_) fun g4=>?_
 .have g4:(a.body.length:Int)=0:=zT g4;rw[oG,am (.inr (.inr (.inr g4)))];refine gA Z (zL ?_);exact fZ
 have g4: ¬(a.body.length:Int)=0:=zF g4;have y:oG f a br=(((Hf a).1++(b5 f a.body a.body.length).1)++wB,(Hf a).2||(b5 f a.body a.body.length).2):=by rw[oG,be (by omega)]
 have b:=XX f a.body (br-1) (hc (by omega)) hf (by omega);rw[y];refine gA Z (zp (WR a.var (by omega)) ?_);refine gA Z (pP (XY a.func) ?_);refine zJ Z Z (fun g5=>?_) fun g5=>?_
 .have g5:a.func=1:=zT g5;have hO:Hf a=(((a.var++pZ)++fC a.func)++p3,!eh a.var||!cV a.dX):=am g5;rw[hO];clear u y hO hf hc
  repeat' (first
   |(refine gA Z (zI (fun q=>?_) (fun q=>?_)))
   |(refine gA Z (bh (QM a.dX) Z Z Z Z Z Z ?_))
   |(refine gA Z (bh b Z Z Z Z Z Z ?_)))
  all_goals(refine gA Z (zL ?_))
  all_goals clear j d A B D F I J S Y s5 s6 s7 x b
  all_goals first
   |refine .agg ⟨.of_eq Z,.of_eq (fO ?_),ac⟩
   |refine .agg ⟨.of_eq Z,.rz ?_,ac⟩
  all_goals simp_all
 .have g5: ¬a.func=1:=zF g5;have hO:Hf a=(((((a.var++pZ)++fC a.func)++p3)++(bP 17 a.dX).1)++Fe,!eh a.var||(bP 17 a.dX).2):=be g5;rw[hO];have G:=UR a.dX (by omega);clear y hO hf hc
  repeat' (first
   |(refine gA Z (zI (fun q=>?_) (fun q=>?_)))
   |(refine gA Z (bh G Z Z Z Z Z Z ?_))
   |(refine gA Z (bh b Z Z Z Z Z Z ?_)))
  all_goals(refine gA Z (zL ?_))
  all_goals clear j u d A B D F I J S Y s5 s6 s7 x b G
  all_goals first
   |refine .agg ⟨.of_eq Z,.of_eq (fO ?_),ac⟩
   |refine .agg ⟨.of_eq Z,.rz ?_,ac⟩
  all_goals simp_all
set_option maxHeartbeats 4000000 in
theorem WQ: ∀(n:Nat) (l:Lit) (br:Int),l.size<=n->br<=16->l.ts<=900000000->Pure prog 268 [ag l.c,pI br] (ag (ew n br l).c)
 |0,l,_,h,_,_=>absurd l.size_pos (by omega)
 |n+1,l,br,hs,hb,hts=>by
  have S:=l.size_eq;have J:=l.l9;have I:=C5 l.atom;have j:=Bj l.atom;have u:=fx 17 l.left;have x:=fx 17 l.right;have y:=yB l.op;have G:(⟨#[110,111,116,32]⟩:ByteArray).size=4:=rfl;have Y:=wy (bP 17 l.left).1 (qM l.op)
  have d:=X0 (ew n (br-1)) l.agg br hb (fun _ i hi=>by
   have hi:i<l.ar.length:=hi;have h1:=Lit.aI l.ar i hi;have h2:=l.left.size_pos;have h3:=Lit.tJ l.ar i hi
   exact WQ n (l.ar.getD i em) (br-1) (by omega) (by omega) (by omega)) (fun i _=>AB n (br-1) _) (by show l.a7.size+l.jQ.ts+Lit.lB l.ar<=_;omega)
  rw[ew];refine ah ab func268 Z (by decide) ntmps268 Z (by simp) Z ?_;refine gA Z (zp (X5 l.atom) ?_);refine gA Z (zp (QM l.left) ?_);refine gA Z (zp (QM l.right) ?_);refine gA Z (zp (X4 l.agg) ?_);refine gM 2 Z (go_cut 1 (fun(_:Unit)=>⟨[(1,pI br),(2,.ptr 0 0),(4,.ptr 1 0),(5,pB (eR l.atom)),(8,pB (jr l.agg)),(9,pB (gW l))],[(0,io (an l.c)),(1,io (.cells [pS YW,pB lc]))],2⟩) Z ?_ ?_)
  .repeat' (first
    |(refine gA Z (zI (fun q=>?_) (fun q=>?_)))
    |fail)
   all_goals(refine gA Z (fy () [] (zM (bv (bv (bv (bv (bv ⟨?_,rfl,ac⟩))))) (zK (zO ac)))))
   all_goals clear j u x y G Y d J S I hts hs
   all_goals first
    |refine .of_eq (fO ?_)
    |refine .rz ?_
   all_goals simp_all [gW]
  rintro⟨⟩;have b:jJ (ew n) br l=jJ (ew n) br l:=rfl;refine zJ Z Z (fun k1=>?_) fun k1=>?_
  .have k1:l.kind=1:=zT k1;have b:jJ (ew n) br l=((fh l.atom).1,(fh l.atom).2||(!gW l||!jr l.agg)):=by unfold jJ;rw[am (.inl k1),be (by omega)]
   rw[b];refine gA Z (zp (US l.atom (by omega) (by omega)) ?_);clear b;generalize eR l.atom=NA at*
   generalize jr l.agg=NG at*
   generalize gW l=SD at*
   repeat' (first
    |(refine gA Z (zI (fun q=>?_) (fun q=>?_)))
    |fail)
   all_goals first
    |(exfalso;simp_all;done)
    |skip
   all_goals(refine gA Z (zL ?_))
   all_goals clear j u x y G Y d J S I hts hs
   all_goals first
    |refine .agg ⟨.of_eq Z,.of_eq (fO ?_),ac⟩
    |refine .agg ⟨.of_eq Z,.rz ?_,ac⟩
   all_goals simp_all
  have k1: ¬l.kind=1:=zF k1;refine zJ Z Z (fun D=>?_) fun D=>?_
  .have D:l.kind=2:=zT D;have b:jJ (ew n) br l=(xC++(fh l.atom).1,(fh l.atom).2||(!gW l||!jr l.agg)):=by unfold jJ;rw[am (.inr D),am D]
   rw[b];refine gA Z (zp (US l.atom (by omega) (by omega)) ?_);clear b;generalize eR l.atom=NA at*
   generalize jr l.agg=NG at*
   generalize gW l=SD at*
   repeat' (first
    |(refine gA Z (zI (fun q=>?_) (fun q=>?_)))
    |fail)
   all_goals first
    |(exfalso;simp_all;done)
    |skip
   all_goals(refine gA Z (zL ?_))
   all_goals clear j u x y G Y d J S I hts hs
   all_goals first
    |refine .agg ⟨.of_eq Z,.of_eq (fO ?_),ac⟩
    |refine .agg ⟨.of_eq Z,.rz ?_,ac⟩
   all_goals simp_all
  have D: ¬l.kind=2:=zF D;have B: ¬(l.kind=1∨l.kind=2):=by omega
  refine zJ Z Z (fun A=>?_) fun A=>?_
  .have A:l.kind=3:=zT A;have b:jJ (ew n) br l=(((bP 17 l.left).1++qM l.op)++(bP 17 l.right).1,(bP 17 l.left).2||((bP 17 l.right).2||(!eR l.atom||(!jr l.agg||(li (l.op<1)||decide (l.op>6)))))):=by unfold jJ;rw[be B,am A]
   rw[b];refine gA Z (zp (UR l.left (by omega)) ?_);refine gA Z (zp (UR l.right (by omega)) ?_);refine gA Z (pP (X3 l.op) ?_);clear b;generalize eR l.atom=NA at*
   generalize jr l.agg=NG at*
   generalize gW l=SD at*
   repeat' (first
    |(refine gA Z (zI (fun q=>?_) (fun q=>?_)))
    |fail)
   all_goals(refine gA Z (zL ?_))
   all_goals clear j u x y G Y d J S I hts hs
   all_goals first
    |refine .agg ⟨.of_eq Z,.of_eq (fO ?_),ac⟩
    |refine .agg ⟨.of_eq Z,.rz ?_,ac⟩
   all_goals(simp_all<;>omega)
  have A: ¬l.kind=3:=zF A;refine zJ Z Z (fun F=>?_) fun F=>?_
  .have F:l.kind=4:=zT F;have b:jJ (ew n) br l=((oG (ew n (br-1)) l.agg br).1,(oG (ew n (br-1)) l.agg br).2||(!eR l.atom||!gW l)):=by unfold jJ;rw[be B,be A,am F]
   rw[b];refine gA Z (zp (d) ?_);clear b;generalize eR l.atom=NA at*
   generalize jr l.agg=NG at*
   generalize gW l=SD at*
   repeat' (first
    |(refine gA Z (zI (fun q=>?_) (fun q=>?_)))
    |fail)
   all_goals(refine gA Z (zL ?_))
   all_goals clear j u x y G Y d J S I hts hs
   all_goals first
    |refine .agg ⟨.of_eq Z,.of_eq (fO ?_),ac⟩
    |refine .agg ⟨.of_eq Z,.rz ?_,ac⟩
   all_goals simp_all
  .have F: ¬l.kind=4:=zF F;have b:jJ (ew n) br l=nV:=by unfold jJ;rw[be B,be A,be F]
   rw[b];refine gA Z (zL ?_);exact fZ
theorem Yf(l:Lit)(b:l.ts<=900000000):Pure prog 250 [ag l.c] (.bM [pS (if(pE l).2=kw then⟨#[]⟩ else(pE l).1),pI (if(pE l).2=kw then 50 else 0)]):=by
 refine ah ab func250 Z (by decide) ntmps250 Z (by simp) Z ?_;refine gA Z (zp (WQ l.size l 16 (YY _) (by decide) b) ?_);refine gA Z (zp (W1 (pE l)) ?_);exact zU Z
theorem Ym(l:Lit)(b:l.ts<=900000000):Pure prog 233 [ag l.c] (pB (!(pE l).2)):=by
 refine ah ab func233 Z (by decide) ntmps233 Z (by simp) Z ?_;refine gA Z (zp (Yf l b) ?_);refine gA Z (zL (.of_eq ?_));refine(fO ?_:pB _=pB _);cases(pE l).2<;>rfl
theorem Lit.Wl(l:Lit):kX (l.c.map .iv) (l.c1.map .iv):=
 ⟨.refl _,.refl _,.refl _,.refl _,.refl _,.refl _,.refl _,.refl _,.refl _,.refl _,.refl _,.refl _,.refl _,.refl _,.refl _,.refl _,.refl _,.refl _,.refl _,.refl _,.refl _,.refl _,.refl _,.refl _,.refl _,.refl _,.refl _,.iv (nP _),.refl _,.refl _,ac⟩
theorem hCL{n i:Nat}{σ:Nat->Nat}{h r:AH}{cs:List PV}{T0:Option TypeId}{c:List IV}(ho:h.get (σ i)=io (.cells cs T0))(he:kX cs (c.map .iv))(hi:Zb i n=kw)(hr:nX n σ h r):nX n σ h ((i,io (an c))::r):=
 ⟨⟨_,ho,by rw[tz];exact .trans (.Rl cs T0) (.cells he)⟩,YP hi,lY n c,hr⟩
theorem WV(l:Lit):Pure prog 251 [ag l.c] (.iv (cW 2 (b8 l) Atom.c)):=by
 refine ah ab func251 Z (by decide) ntmps251 Z (by simp) Z ?_;refine zJ Z Z (fun k1=>?_) fun k1=>?_
 .have k1: ¬l.kind=1:=zF k1;refine zJ Z Z (fun b=>?_) fun b=>?_
  .have b:l.kind=2:=zT b;have e:b8 l=[l.atom]:=am (.inr b);refine gA Z (cx (by first|exact .inr Z|exact .inl Z) Z Z (by rw[e];rfl) (by rw[e];rfl))
  .have b: ¬l.kind=2:=zF b;have e:b8 l=[]:=be (by omega);rw[e];refine gA Z (zL ?_);exact .nil _ _
 .have k1:l.kind=1:=zT k1;have e:b8 l=[l.atom]:=am (.inl k1)
  repeat(refine gA Z (zI (fun q=>?_) (fun q=>?_));all_goals(try(simp at q;done)))
  refine gA Z (cx (by first|exact .inr Z|exact .inl Z) Z Z (by rw[e];rfl) (by rw[e];rfl))
theorem W0(r:ae)(lit:Int)(h1:lit<r.body.length)(hb:r.size<=100000000):Pure prog 234 [ag r.c,pI lit] (.iv (cW 2 (bu r lit) Atom.c)):=by
 have A:=Lit.au r.body;have Y:Lit.aA r.body<=r.size:=aar _ _;refine ah ab func234 Z (by decide) ntmps234 Z (by simp) Z ?_;refine zJ Z Z (fun b=>?_) fun b=>?_
 .have b:lit<0:=by simpa using b
  refine gA Z (cx (by first|exact .inr Z|exact .inl Z) Z Z (by rw[bu,am b];rfl) (by rw[bu,am b];rfl))
 have b: ¬lit<0:=by simpa using b
 have B:lit.toNat<r.body.length:=by omega
 have y:=Lit.aI r.body lit.toNat B;have I:=(ak r lit).size_eq;have J:=Lit.au (ak r lit).ar;have F:(ak r lit).size<=Lit.aA r.body:=y;refine zJ Z Z (fun u=>?_) fun u=>?_
 .have u: ¬(ak r lit).kind=4:=by simpa[ak]using u
  have j:bu r lit=b8 (ak r lit):=by rw[bu,be b,oZ,be u];simp
  rw[j];refine gA Z (zp (WV (ak r lit)) ?_);exact zU Z
 have u:(ak r lit).kind=4:=by simpa[ak]using u
 have j:bu r lit=(ak r lit).ar.flatMap b8:=by rw[bu,be b,oZ,am u]
 refine gA Z ?_;refine fS 6 2 Z ?_;refine az 0 (ak r lit).ar.length (YZ _) (fun i=>⟨[(5,.ptr 1 0),(6,.sl 3 0 (((ak r lit).ar.take i).flatMap b8).length 2),(7,pI i)],[(1,io (an (ak r lit).c1)),(3,io (aG 2 (((ak r lit).ar.take i).flatMap b8) Atom.c))],4⟩) (fun _=>True) [2] ac
  (zW (hCL Z (ak r lit).Wl Z (zS trivial))) fun i hi _=>?_
 have G:=mv ((ak r lit).ar.take i);have S:((ak r lit).ar.take i).length<=(ak r lit).ar.length:=by rw[ZJ];exact Nat.min_le_right _ _
 refine zJ Z Z (fun d=>?_) fun d=>?_
 .have d:i<(ak r lit).ar.length:=zN d;have x:=bG (f:=b8) d;have D:(b8 ((ak r lit).ar.getD i em)).length<=1:=by unfold b8;split<;>simp
  refine gA Z (zp (WV ((ak r lit).ar.getD i em)) ?_);refine gA Z ?_
  first
   |exact⟨d,ac,[4],zM (bv ⟨.row (by rw[x,YS]),rfl,bv ac⟩) (zK (hR Z (by rw[oL,x,YX]) Z ac))⟩
   |exact⟨d,ac,[5],zM (bv ⟨.row (by rw[x,YS]),rfl,bv ac⟩) (zK (hR Z (by rw[oL,x,YX]) Z ac))⟩
 .have d:(ak r lit).ar.length<=i:=zG d;rw[Y1 d] at*
  refine gA Z (cx (by first|exact .inr Z|exact .inl Z) Z Z (by rw[j]) (by rw[j]))
theorem Yl(r:ae)(lit:Int)(h1:lit<r.body.length)(hb:r.size<=100000000):Pure prog 236 [ag r.c,pI lit] (pB (dD r lit)):=by
 have F:=Lit.au r.body;have h0:Lit.aA r.body<=r.size:=aar _ _;have B:r.size=r.head.ad.length+Lit.aA r.body:=rfl;refine ah ab func236 Z (by decide) ntmps236 Z (by simp) Z ?_;refine zJ Z Z (fun d=>?_) fun d=>?_
 .have d:lit<0:=by simpa using d
  have y:dD r lit=r.head.ad.any fun x=>li (x.kind=3):=am d;refine gA Z ?_
  refine az 0 r.head.ad.length (YZ _) (fun i=>⟨[(2,.ptr 0 0),(5,pI i)],[(0,io (an r.c))],1⟩) (fun i=>(r.head.ad.take i).any (fun x=>li (x.kind=3))=lc) [] (by simp)
   (zW (zK trivial)) fun i G u=>?_
  refine zJ Z Z (fun b=>?_) fun b=>?_
  .have b:i<r.head.ad.length:=zN b;refine zJ Z Z (fun g=>?_) fun g=>?_
   .rw[y,iL b g];exact zU Z
   .refine gA Z ?_;exact⟨b,(aW u b).2 g,[],zW (zK ac)⟩
  .have b:r.head.ad.length<=i:=zG b;rw[y,any_none u b];exact zU Z
 have d: ¬lit<0:=by simpa using d
 have I:lit.toNat<r.body.length:=by omega
 have A:=Lit.aI r.body lit.toNat I;have S:=(ak r lit).size_eq;have Y:=Lit.au (ak r lit).ar;have D:=(ak r lit).fz;have J:(ak r lit).size<=Lit.aA r.body:=A;refine zJ Z Z (fun j=>?_) fun j=>?_
 .have j: ¬(ak r lit).kind=4:=by simpa[ak]using j
  rw[dD,be d,be j];exact zU Z
 have j:(ak r lit).kind=4:=by simpa[ak]using j
 have y:dD r lit=((ak r lit).ar.any (fun x=>li (x.kind=4))||aE (aF (ak r lit).agg) (ak r lit).a7):=by
  rw[dD,be d,am j,rA (fun x=>fu)]
 refine gA Z ?_;refine az 0 (ak r lit).ar.length (YZ _) (fun i=>⟨[(6,.ptr 1 0),(7,pI i)],[(1,io (an (ak r lit).c1))],2⟩) (fun i=>((ak r lit).ar.take i).any (fun x=>li (x.kind=4))=lc) [] (by simp)
  (zW (hCL Z (ak r lit).Wl Z trivial)) fun i G u=>?_
 refine zJ Z Z (fun b=>?_) fun b=>?_
 .have b:i<(ak r lit).ar.length:=zN b;refine zJ Z Z (fun g=>?_) fun g=>?_
  .rw[y,iL b g];exact zU Z
  .refine gA Z ?_;exact⟨b,(aW u b).2 g,[],zW (zK ac)⟩
 .have b:(ak r lit).ar.length<=i:=zG b;rw[y,any_none u b,Z7];refine gA Z (zp (Al.Pure.le (aa:=[ag (ak r lit).agg.c1]) (Ve (ak r lit).agg (by omega)) ⟨eL.LB _,ac⟩) ?_);refine gA Z (zp (JC (aF (ak r lit).agg) (ak r lit).a7) ?_);exact zU Z
theorem yO(r:ae)(lit:Int)(h1:lit<r.body.length):(bu r lit).length<=1+Lit.aA r.body:=by
 unfold bu;split
 .show 1<=_;omega
 .rename_i x;have A:=mv (oZ r lit);have b:=Lit.aI r.body lit.toNat (by omega);have j:=(ak r lit).size_eq;have u:=Lit.au (ak r lit).ar;have d:(ak r lit).size<=Lit.aA r.body:=b;have y:(oZ r lit).length<=1+(ak r lit).ar.length:=by
   unfold oZ;split
   .omega
   .show 1<=_;omega
  omega
theorem Fu(r:ae)(lit:Int)(h1:lit<r.body.length):(ld r lit).length<=1+r.size:=by
 have d:r.size=r.head.ad.length+Lit.aA r.body:=rfl;unfold ld;split
 .have:=dr r.head;omega
 .rename_i x;have b:=Lit.aI r.body lit.toNat (by omega);have u:(ak r lit).size<=Lit.aA r.body:=b;have j:=(ak r lit).fz;split
  .have g1:=jz (aF (ak r lit).agg) (ak r lit).a7;have g2:=gp (ak r lit).agg;omega
  .have:=gm (ak r lit);omega
theorem Yk(r:ae)(lit:Int)(h1:lit<r.body.length)(hb:r.size<=100000000):Pure prog 237 [ag r.c,pI lit] (pB (dM r lit)):=by
 have I:=Lit.au r.body;have h0:Lit.aA r.body<=r.size:=aar _ _;have D:r.size=r.head.ad.length+Lit.aA r.body:=rfl;rw[<-Lq r lit h1];refine ah ab func237 Z (by decide) ntmps237 Z (by simp) Z ?_;refine gA Z (zp (UP r (by omega)) ?_);refine gA Z (zp (c32 r (by omega)) ?_);refine gM 2 Z (go_cut 3 (fun(_:Unit)=>⟨[(5,.iv (strs (outer r))),(6,.iv (strs (kM r))),(7,.iv (strs (ld r lit))),(8,.iv (strs (nQ r lit)))],[],1⟩) Z ?_ ?_)
 .refine zJ Z Z (fun d=>?_) fun d=>?_
  .have d:lit<0:=zT d;have y:ld r lit=bj r.head:=am d;have x:nQ r lit=[]:=am d;rw[y,x];refine gA Z (zp (SZ r.head (by omega)) ?_);refine gA Z (fy () [] (zM (bv (bv (bv ⟨.nil _ _,rfl,ac⟩))) ac))
  have d: ¬lit<0:=zF d;have Y:lit.toNat<r.body.length:=by omega
  have B:=Lit.aI r.body lit.toNat Y;have G:=(ak r lit).fz;have a0:(ak r lit).size<=Lit.aA r.body:=B;refine gA Z (zp (Xn (ak r lit) (by omega)) ?_);refine zJ Z Z (fun j=>?_) fun j=>?_
  .have j:(ak r lit).kind=4:=zT j;have y:ld r lit=b6 (aF (ak r lit).agg) (ak r lit).a7:=by unfold ld;rw[be d,am j]
   have x:nQ r lit=mB r lit:=by unfold nQ;rw[be d,am j]
   have J:=gp (ak r lit).agg;rw[y,x];refine gA Z (zp (Ve (ak r lit).agg (by omega)) ?_);refine gA Z (zp (No (aF (ak r lit).agg) (ak r lit).a7 (by omega)) ?_);refine gA Z (zp (Ye r lit (by omega) h1 (by omega)) ?_);refine gA Z (fy () [] (zW ac))
  .have j: ¬(ak r lit).kind=4:=zF j;have y:ld r lit=cm (ak r lit):=by unfold ld;rw[be d,be j]
   have x:nQ r lit=[]:=by unfold nQ;rw[be d,be j]
   rw[y,x];refine gA Z (fy () [] (zM (bv (bv (bv ⟨.nil _ _,rfl,ac⟩))) ac))
 rintro⟨⟩;have b0:=Fu r lit h1;have F:FT r lit=(ld r lit).any (A0 r (nQ r lit)):=rfl;rw[F];generalize ld r lit=S at*
 generalize nQ r lit=K at*
 refine gA Z ?_;refine az 0 S.length (YZ _) (fun i=>⟨[(5,.iv (strs (outer r))),(6,.iv (strs (kM r))),(7,.iv (strs S)),(8,.iv (strs K)),(10,pI i)],[],1⟩) (fun i=>(S.take i).any (A0 r K)=lc) [] (by simp)
  (zW trivial) fun i hi A=>?_
 refine zE Z Z (fun b=>?_) fun b=>?_
 .have b:S.length<=i:=zG b;rw[any_none A b];exact zU Z
 have b:i<S.length:=zN b;have u:A0 r K (S.getD i em)=!(if aE (outer r) (S.getD i em)=kw then aE (kM r) (S.getD i em) else aE K (S.getD i em)):=rfl;refine gA Z (zp (JC (outer r) (S.getD i em)) ?_);refine gA Z (zp (JC (kM r) (S.getD i em)) ?_);refine zJ Z Z (fun g=>?_) fun g=>?_
 .have g:aE (outer r) (S.getD i em)=lc:=by simpa using g
  rw[be (by rw[g];decide)]at u;refine gA Z (zp (JC K (S.getD i em)) ?_);refine zJ Z Z (fun q=>?_) fun q=>?_
  .rw[iL b (u.trans q)];exact zU Z
  .refine gA Z ?_;exact⟨b,(aW A b).2 (u.trans q),[],zW ac⟩
 .have g:aE (outer r) (S.getD i em)=kw:=by simpa using g
  rw[am g]at u;refine zJ Z Z (fun q=>?_) fun q=>?_
  .rw[iL b (u.trans q)];exact zU Z
  .refine gA Z ?_;exact⟨b,(aW A b).2 (u.trans q),[],zW ac⟩
def zz(r:ae):Nat->Nat
 |0=>(outer r).length
 |i+1=>zz r i+(mA r i).length
theorem Ax(r:ae)(i:Nat)(h:i<r.body.length):(mA r i).length=kv r (r.body.getD i em):=by
 have e:ak r i=r.body.getD i em:=rfl;rw[<-Fl,tg,kv,e];by_cases b:(r.body.getD i em).kind=4
 .rw[be (by rintro(g|g|g)<;>omega),am b,ff,jD,Zo]
 .rw[am (.inr (.inr b)),be b];rfl
theorem CS(r:ae): ∀i,i<=r.body.length->zz r i=(r.body.take i).foldl (fun n l=>n+kv r l) (aC (ay r)).length
 |0,_=>by
  show(outer r).length=(aC (ay r)).length;rw[<-xo,ff,jD,Zo]
 |i+1,h=>by
  rw[zz,CS r i (by omega),Ax r i (by omega),cH (g:=fun n l=>n+kv r l) (show i<r.body.length by omega)]
theorem Yv(r:ae)(hb:r.size<=100000000):Pure prog 209 [ag r.c] (pI (tV r)):=by
 have j:=Lit.au r.body;have I:Lit.aA r.body<=r.size:=aar _ _;have J:=oQ r;have A:=kJ (ay r);refine ah ab func209 Z (by decide) ntmps209 Z (by simp) Z ?_;refine gA Z (zp (UP r (by omega)) ?_);refine gA Z ?_;refine az 0 r.body.length (YZ _) (fun i=>⟨[(1,.ptr 0 0),(4,pI (zz r i:Nat)),(5,pI i)],[(0,io (an r.c))],1⟩) (fun _=>True) [] ac
  (zW (zK trivial)) fun i u _=>?_
 have G:=CS r i u;have B:=xx r (r.body.take i) (aC (ay r)).length;have D:=Lit.sP r.body i;refine zJ Z Z (fun b=>?_) fun b=>?_
 .have b:i<r.body.length:=zN b;have F:=Lit.aI r.body i b;have y:=vn r (r.body.getD i em);have x:=Ax r i b;refine gA Z (zp (c36 r i (by omega)) ?_);refine gA Z ⟨b,ac,[],zM (bv ⟨.of_eq (FG (by show _=((zz r i+(mA r i).length:Nat):Int);omega)),rfl,bv ac⟩) (zK ac)⟩
 .have b:r.body.length<=i:=zG b;have d:i=r.body.length:=by omega
  subst d;have e:zz r r.body.length=tV r:=by rw[G,Y1 (YY _)];rfl
  rw[<-e];exact zU Z
theorem c67(r:ae)(n:Int)(hb:r.size<=100000000):Pure prog 175 [ag r.c,pI n] (ag (rP r n).c):=by
 have x:=Lit.au r.body;have y:Lit.aA r.body<=r.size:=aar _ _;refine ah ab func175 Z (by decide) ntmps175 Z (by simp) Z ?_;refine zE Z Z (fun g1=>?_) fun g1=>?_
 .have g1:n>256:=zT g1;rw[rP,am (.inl g1)]
  repeat(refine gA Z (zI (fun q=>?_) (fun q=>?_));all_goals(try(simp at q;done)))
  refine gA Z (zp (SY 66 r.at_) ?_);exact zU Z
 have g1: ¬n>256:=zF g1;refine zJ Z Z (fun g2=>?_) fun g2=>?_
 .have g2:(r.body.length:Int)>12:=zT g2;rw[rP,am (.inr g2)];refine gA Z (zp (SY 66 r.at_) ?_);exact zU Z
 have g2: ¬(r.body.length:Int)>12:=zF g2;refine gA Z (zp (Yv r hb) ?_);refine zJ Z Z (fun g3=>?_) fun g3=>?_
 .have g3:(tV r:Int)>24:=zT g3;rw[rP,be (by omega),am g3];refine gA Z (zp (SY 66 r.at_) ?_);exact zU Z
 have g3: ¬(tV r:Int)>24:=zF g3;have u:rP r n=match r.body.find? pr with
  |some l=>(66,l.at)
  |none=>aY.z:=by rw[rP,be (by omega),be g3]<;>rfl
 refine gA Z ?_;refine az 0 r.body.length (YZ _) (fun i=>⟨[(2,.ptr 0 0),(4,.ptr 1 0),(6,pI i)],[(0,io (an r.c)),(1,io (an aY.z.c))],2⟩) (fun i=>(r.body.take i).any pr=lc) [] (by simp)
  (zW (zK (zK trivial))) fun i A j=>?_
 refine zE Z Z (fun b=>?_) fun b=>?_
 .have b:r.body.length<=i:=zG b;rw[u,eK (any_none j b)];exact zU Z
 have b:i<r.body.length:=zN b;have hW:pr (r.body.getD i em)=(li ((r.body.getD i em).kind=4)&&li (((r.body.getD i em).ar.length:Int)>12)):=rfl;refine zE Z Z (fun d=>?_) fun d=>?_
 .have d:li ((r.body.getD i em).kind=4)=lc:=d;rw[d,ZZ]at hW
  repeat(refine gA Z (zI (fun q=>?_) (fun q=>?_));all_goals(try(simp at q;done)))
  refine gA Z ⟨b,(aW j b).2 hW,[],zW (zK (zK ac))⟩
 have d:li ((r.body.getD i em).kind=4)=kw:=d;rw[d,ZH]at hW;refine zJ Z Z (fun w=>?_) fun w=>?_
 .rw[u,kQ j b (hW.trans w)];refine gA Z (zp (SY 66 (r.body.getD i em).at) ?_);exact zU Z
 .refine gA Z ?_;exact⟨b,(aW j b).2 (hW.trans w),[],zW (zK (zK ac))⟩
def dJ(p:Prog)(r:ae)(e lit:Int):Bool:=
 if e=1 then uH r lit else if e=61 then(bu r lit).any (fun x=>lP p x) else if e=62 then(bu r lit).any (fun x=>mZ p x) else if e=65 then dD r lit else if e=64 then dM r lit else lc
theorem Yw(p:Prog)(r:ae)(lit e:Int)(hp:p.aD.length<=1000000000)(hf:r.fit)(h1:lit<r.body.length):Pure prog 207 [ag p.c,ag r.c,pI lit,pI e] (pB (dJ p r e lit)):=by
 obtain⟨hb,hh,hB⟩:=hf;have Y:=C5 r.head;have S:Lit.aA r.body<=r.size:=aar _ _;refine ah ab func207 Z (by decide) ntmps207 Z (by simp) Z ?_;refine zJ Z Z (fun d=>?_) fun d=>?_
 .have d:e=1:=zT d;have hW:dJ p r e lit=uH r lit:=am d;rw[hW];refine zJ Z Z (fun j=>?_) fun j=>?_
  .have j:lit<0:=zT j;have B:uH r lit=(fh r.head).2:=am j;rw[B];refine gA Z (zp (c62 r.head hh (by omega)) ?_);refine gA Z (zL (.of_eq ?_));refine(fO ?_:pB _=pB _);cases(fh r.head).2<;>rfl
  .have j: ¬lit<0:=zF j;have B:uH r lit=(pE (ak r lit)).2:=be j;have J:ak r lit∈r.body:=by
    unfold ak;rw[YR,YU (show lit.toNat<r.body.length by omega)];exact Zz _
   rw[B];refine gA Z (bh (Ym (ak r lit) (hB _ J)) Z Z Z Z Z Z ?_);refine gA Z (zL (.of_eq ?_));refine(fO ?_:pB _=pB _);cases(pE (ak r lit)).2<;>rfl
 have d: ¬e=1:=zF d;refine zJ Z Z (fun z2=>?_) fun z2=>?_
 .have z2:e=61:=zT z2;have hW:dJ p r e lit=(bu r lit).any (fun x=>lP p x):=by unfold dJ;rw[be d,am z2]
  rw[hW];refine gA Z (zp (W0 r lit h1 (by omega)) ?_);refine gA Z ?_;have D:=yO r lit h1;generalize bu r lit=L at*
  refine az 0 L.length (YZ _) (fun i=>⟨[(3,pI e),(4,.ptr 0 0),(11,.iv (cW 2 L Atom.c)),(12,pI i)],[(0,io (an p.c))],2⟩) (fun i=>(L.take i).any (fun x=>lP p x)=lc) [] (by simp)
   (zW (zK trivial)) fun i I u=>?_
  refine zE Z Z (fun b=>?_) fun b=>?_
  .have b:L.length<=i:=zG b;rw[any_none u b];exact zU Z
  have b:i<L.length:=zN b;refine gA Z (pP (XT p (L.getD i em).rel (by omega)) ?_);refine zJ Z Z (fun y=>?_) fun y=>?_
  .refine zJ Z Z (fun F=>?_) fun F=>?_
   .rw[iL b (show lP p (L.getD i em)=kw from F)]
    repeat(refine gA Z (zI (fun q=>?_) (fun q=>?_));all_goals(try(simp at q;done)))
    exact zU Z
   .refine zJ Z Z (fun A=>?_) fun A=>?_
    .exact absurd (zT A) (by omega)
    repeat(refine gA Z (zI (fun q=>?_) (fun q=>?_));all_goals(try(simp at q;done)))
    refine gA Z ⟨b,(aW u b).2 F,[],zW (zK ac)⟩
  .exact absurd z2 (zF y)
 have z2: ¬e=61:=zF z2;refine zJ Z Z (fun z3=>?_) fun z3=>?_
 .have z3:e=62:=zT z3;have hW:dJ p r e lit=(bu r lit).any (fun x=>mZ p x):=by unfold dJ;rw[be d,be z2,am z3]
  rw[hW];refine gA Z (zp (W0 r lit h1 (by omega)) ?_);refine gA Z ?_;have D:=yO r lit h1;generalize bu r lit=L at*
  refine az 0 L.length (YZ _) (fun i=>⟨[(3,pI e),(4,.ptr 0 0),(11,.iv (cW 2 L Atom.c)),(12,pI i)],[(0,io (an p.c))],2⟩) (fun i=>(L.take i).any (fun x=>mZ p x)=lc) [] (by simp)
   (zW (zK trivial)) fun i I u=>?_
  refine zE Z Z (fun b=>?_) fun b=>?_
  .have b:L.length<=i:=zG b;rw[any_none u b];exact zU Z
  have b:i<L.length:=zN b;refine gA Z (pP (XT p (L.getD i em).rel (by omega)) ?_);refine zJ Z Z (fun y=>?_) fun y=>?_
  .exact absurd (zT y) z2
  refine zJ Z Z (fun A=>?_) fun A=>?_
  .refine zJ Z Z (fun G=>?_) fun G=>?_
   .rw[iL b (show mZ p (L.getD i em)=kw from G)];exact zU Z
   .refine gA Z ?_;exact⟨b,(aW u b).2 G,[],zW (zK ac)⟩
  .exact absurd z3 (zF A)
 have z3: ¬e=62:=zF z3;refine zJ Z Z (fun z4=>?_) fun z4=>?_
 .have z4:e=65:=zT z4;have hW:dJ p r e lit=dD r lit:=by unfold dJ;rw[be d,be z2,be z3,am z4]
  rw[hW];refine gA Z (zp (Yl r lit h1 (by omega)) ?_);exact zU Z
 have z4: ¬e=65:=zF z4;refine zJ Z Z (fun z5=>?_) fun z5=>?_
 .have z5:e=64:=zT z5;have hW:dJ p r e lit=dM r lit:=by unfold dJ;rw[be d,be z2,be z3,be z4,am z5]
  rw[hW];refine gA Z (zp (Yk r lit h1 (by omega)) ?_);exact zU Z
 .have z5: ¬e=64:=zF z5;have hW:dJ p r e lit=lc:=by unfold dJ;rw[be d,be z2,be z3,be z4,be z5]
  rw[hW];exact zU Z
theorem WL(p:Prog)(r:ae)(e:Int)(hp:p.aD.length<=1000000000)(hf:r.fit):Pure prog 174 [ag p.c,ag r.c,pI e] (ag (bK r e (dJ p r e) aY.z).c):=by
 have u:=Lit.au r.body;have B:Lit.aA r.body<=r.size:=aar _ _;have x:=hf.1;have A:=rv r.body.length;refine ah ab func174 Z (by decide) ntmps174 Z (by simp) Z ?_;refine gA Z ?_;refine az 0 (r.body.length+1) (YZ _) (fun i=>⟨[(2,pI e),(3,.ptr 0 0),(4,.ptr 1 0),(6,.ptr 2 0),(7,pI ((i:Int)-1))],[(0,io (an p.c)),(1,io (an r.c)),(2,io (an aY.z.c))],3⟩) (fun i=>((jc r.body.length).take i).any (dJ p r e)=lc) [] (by simp)
  (zW (zK (zK (zK trivial)))) fun i D d=>?_
 refine zE Z Z (fun b=>?_) fun b=>?_
 .have b: ¬(i:Int)-1<(r.body.length:Int):=zF b;have j:bK r e (dJ p r e) aY.z=aY.z:=by
   unfold bK vC;rw[eK (any_none d (by omega))]
  rw[j];exact zU Z
 have b:(i:Int)-1<(r.body.length:Int):=zT b;have y:=ry r.body.length i (by omega);refine gA Z (zp (Yw p r ((i:Int)-1) e hp hf b) ?_);refine zJ Z Z (fun g=>?_) fun g=>?_
 .rw[mz d (by omega) g];refine gA Z (zp (UT r ((i:Int)-1) b) ?_);refine gA Z (zp (SY e (ft r ((i:Int)-1))) ?_);exact zU Z
 .refine gA Z ?_;exact⟨by omega,(aW d (by omega)).2 (by rw[y];exact g),[],zM (bv (bv (bv (bv ⟨.of_eq (FG (by omega)),rfl,ac⟩)))) (zK (zK (zK ac)))⟩
theorem PA(p:Prog)(i:Nat)(s:aj):bU .str (aC (dL p i)) s 0>0↔s∈dL p i:=by
 rw[bB];constructor
 .intro h;exact oC.1 (by omega)
 .intro h;have:=oC.2 h;omega
theorem PB(p:Prog)(i:Nat)(s:aj):((p.aD.take i).any fun d=>li (d.name=s))=kw↔s∈dL p i:=by
 unfold dL;rw[ZG,Zu];constructor
 .rintro⟨d,h1,h2⟩;exact⟨d,h1,zT h2⟩
 .rintro⟨d,h1,h2⟩;exact⟨d,h1,decide_eq_true h2⟩
def FI(x:Int):Bool:=li (x=1)||decide (x=2)
def uf(d:Decl)(k:Nat):Bool:=ep d.name&&(d.types.take k).all FI
theorem FJ{d:Decl}{k:Nat}(h:k<d.types.length):uf d (k+1)=(uf d k&&FI (d.types.getD k em)):=by
 unfold uf;rw[bz h,List.all_append,<-ab4];simp
theorem IZ(d:Decl):uf d d.types.length=lc↔((d.types.any fun x=>!li (x=1)&&!li (x=2))=kw∨ep d.name=lc):=by
 unfold uf;rw[Y1 (YY _),Bool.and_eq_false_iff];have:d.types.all FI=lc↔(d.types.any fun x=>!li (x=1)&&!li (x=2))=kw:=by
  rw[aaE,ZG];constructor
  .rintro⟨x,h1,h2⟩;refine⟨x,h1,?_⟩;unfold FI at h2;simpa using h2
  .rintro⟨x,h1,h2⟩;refine⟨x,h1,?_⟩;unfold FI;simpa using h2
 rw[this];exact Or.comm
theorem c82(p:Prog)(i:Nat)(hi:i<p.aD.length)(hs:p.size<=10000000):Pure prog 131 [ag p.c,pI i] (pI (dH p i)):=by
 have S:p.aD.length<=p.size:=by unfold Prog.size;omega
 have Y:(p.aD.getD i em).types.length<=p.size:=by
  have:=GH (fun d:Decl=>d.types.length) p.aD i hi;unfold Prog.size;have h2:(p.aD.getD i em).types.length<=(p.aD.map fun d=>d.types.length).sum:=this;omega
 have hR:dH p i=if(((p.aD.getD i em).types.any fun x=>!li (x=1)&&!li (x=2))=kw∨ep (p.aD.getD i em).name=lc) then 1 else if(i:Int)>=64∨((p.aD.getD i em).types.length:Int)>8 then 66 else if bU .str (aC (dL p i)) (p.aD.getD i em).name 0>0 then 60 else 0:=rfl;have F:=IZ (p.aD.getD i em);have G:=PA p i (p.aD.getD i em).name;have I:=PB p i (p.aD.getD i em).name;refine ah ab func131 Z (by decide) ntmps131 Z (by simp) Z ?_;refine gA Z (zp (c56 (p.aD.getD i em).name) ?_);refine gA Z ?_;refine az 0 (p.aD.getD i em).types.length (YZ _) (fun k=>⟨[(1,pI i),(2,.ptr 0 0),(5,.ptr 1 0),(6,pB (uf (p.aD.getD i em) k)),(7,pI k)],[(0,io (an p.c)),(1,io (an (p.aD.getD i em).c))],2⟩) (fun _=>True) [] ac
  (zM (bv (bv (bv ⟨.of_eq (fO (by unfold uf;simp)),rfl,bv trivial⟩))) (zK (zK trivial))) fun k J _=>?_
 refine zJ Z Z (fun b=>?_) fun b=>?_
 .have b:k<(p.aD.getD i em).types.length:=zN b;have A:=FJ b
  repeat' (first
   |(refine gA Z (zI (fun q=>?_) (fun q=>?_)))
   |fail)
  all_goals(refine gA Z ?_)
  all_goals first
   |exact⟨b,ac,[],zM (bv (bv (bv ⟨.of_eq (fO (by rw[A];unfold FI;simp_all)),rfl,bv ac⟩))) (zK (zK ac))⟩
   |exact⟨b,ac,[],zM (bv (bv (bv ⟨.rz (by rw[A];unfold FI;simp_all),rfl,bv ac⟩))) (zK (zK ac))⟩
 have b:(p.aD.getD i em).types.length<=k:=zG b;have j:k=(p.aD.getD i em).types.length:=by omega
 subst j;refine zJ Z Z (fun g1=>?_) fun g1=>?_
 .have g1:uf (p.aD.getD i em) (p.aD.getD i em).types.length=lc:=by simpa using g1
  rw[hR,am (F.1 g1)];exact zU Z
 have g1: ¬uf (p.aD.getD i em) (p.aD.getD i em).types.length=lc:=by
  intro h;rw[h]at g1;simp at g1
 rw[be fun h=>g1 (F.2 h)]at hR;refine zE Z Z (fun g2=>?_) fun g2=>?_
 .have g2:(i:Int)>=64:=zT g2;rw[hR,am (.inl g2)]
  repeat(refine gA Z (zI (fun q=>?_) (fun q=>?_));all_goals(try(simp at q;done)))
  exact zU Z
 have g2: ¬(i:Int)>=64:=zF g2;refine zJ Z Z (fun g3=>?_) fun g3=>?_
 .have g3:((p.aD.getD i em).types.length:Int)>8:=zT g3;rw[hR,am (.inr g3)];exact zU Z
 have g3: ¬((p.aD.getD i em).types.length:Int)>8:=zF g3;rw[be (by omega)]at hR;refine gA Z ?_;refine az 0 i (YZ _) (fun k=>⟨[(1,pI i),(2,.ptr 0 0),(5,.ptr 1 0),(8,pI k)],[(0,io (an p.c)),(1,io (an (p.aD.getD i em).c))],2⟩) (fun k=>((p.aD.take k).any fun x=>li (x.name=(p.aD.getD i em).name))=lc) [] (by simp)
  (zW (zK (zK trivial))) fun k J B=>?_
 refine zJ Z Z (fun u=>?_) fun u=>?_
 .have u:k<i:=zN u;have y:k<p.aD.length:=by omega
  refine zJ Z Z (fun w=>?_) fun w=>?_
  .have w:li ((p.aD.getD k em).name=(p.aD.getD i em).name)=kw:=w;have D:(p.aD.getD i em).name∈dL p i:=by
    refine I.1 (ZG.2 ⟨p.aD.getD k em,?_,w⟩);rw[YR,YU y];exact abt.2 ⟨k,by omega,rfl⟩
   rw[hR,am (G.2 D)];exact zU Z
  .have w:li ((p.aD.getD k em).name=(p.aD.getD i em).name)=lc:=w;refine gA Z ⟨u,(aW B y).2 w,[],zW (zK (zK ac))⟩
 .have u:i<=k:=zG u;have j:k=i:=by omega
  subst j;rw[hR,be fun h=>by rw[I.2 (G.1 h)]at B;cases B];exact zU Z
theorem k1(p:Prog)(r:ae)(hp:p.aD.length<=1000000000)(hf:r.fit):Pure prog 174 [ag p.c,ag r.c,pI 1] (ag (aY.c (bK r 1 (uH r) aY.z))):=by
 have e:dJ p r 1=uH r:=funext fun lit=>am Z;have:=WL p r 1 hp hf;rwa[e]at this
theorem k61(p:Prog)(r:ae)(hp:p.aD.length<=1000000000)(hf:r.fit):Pure prog 174 [ag p.c,ag r.c,pI 61] (ag (aY.c (bK r 61 (fun lit=>(bu r lit).any fun x=>lP p x) aY.z))):=by
 have e:dJ p r 61=fun lit=>(bu r lit).any fun x=>lP p x:=funext fun lit=>by unfold dJ;rw[be (by decide),am Z]
 have:=WL p r 61 hp hf;rwa[e]at this
theorem k62(p:Prog)(r:ae)(hp:p.aD.length<=1000000000)(hf:r.fit):Pure prog 174 [ag p.c,ag r.c,pI 62] (ag (aY.c (bK r 62 (fun lit=>(bu r lit).any fun x=>mZ p x) aY.z))):=by
 have e:dJ p r 62=fun lit=>(bu r lit).any fun x=>mZ p x:=funext fun lit=>by unfold dJ;rw[be (by decide),be (by decide),am Z]
 have:=WL p r 62 hp hf;rwa[e]at this
theorem k65(p:Prog)(r:ae)(hp:p.aD.length<=1000000000)(hf:r.fit):Pure prog 174 [ag p.c,ag r.c,pI 65] (ag (aY.c (bK r 65 (dD r) aY.z))):=by
 have e:dJ p r 65=dD r:=funext fun lit=>by unfold dJ;rw[be (by decide),be (by decide),be (by decide),am Z]
 have:=WL p r 65 hp hf;rwa[e]at this
theorem k64(p:Prog)(r:ae)(hp:p.aD.length<=1000000000)(hf:r.fit):Pure prog 174 [ag p.c,ag r.c,pI 64] (ag (aY.c (bK r 64 (dM r) aY.z))):=by
 have e:dJ p r 64=dM r:=funext fun lit=>by unfold dJ;rw[be (by decide),be (by decide),be (by decide),be (by decide),am Z]
 have:=WL p r 64 hp hf;rwa[e]at this
theorem IS(a b c:aY):mX (mX a b) c=mX a (mX b c):=by
 unfold mX;by_cases h:a.1=0
 .rw[am h,am h]
 .rw[be h,be h,be h]
set_option maxHeartbeats 2000000 in
theorem c27(p:Prog)(n:Int)(hf:p.fit):Pure prog 133 [ag p.c,pI n] (ag (if n<1∨(p.rules.length:Int)<n then(1,⟨0,0⟩) else pC p (p.rules.getD (n-1).toNat em) n:aY).c):=by
 obtain⟨b,J,u⟩:=hf;refine ah ab func133 Z (by decide) ntmps133 Z (by simp) Z ?_;refine zE Z Z (fun g1=>?_) fun g1=>?_
 .have g1:n<1:=zT g1;rw[am (.inl g1)]
  repeat(refine gA Z (zI (fun q=>?_) (fun q=>?_));all_goals(try(simp at q;done)))
  exact zU Z
 have g1: ¬n<1:=zF g1;refine zJ Z Z (fun g2=>?_) fun g2=>?_
 .have g2:n>(p.rules.length:Int):=zT g2;rw[am (.inr g2)];exact zU Z
 have g2: ¬n>(p.rules.length:Int):=zF g2;rw[be (by omega)];have j:(n-1).toNat<p.rules.length:=by omega
 have d:(p.rules.getD (n-1).toNat em).fit:=u _ (by rw[YR,YU j];exact Zz j);have S:=d.1;refine gA Z (zp (k1 p (p.rules.getD (n-1).toNat em) b d) ?_);generalize p.rules.getD (n-1).toNat em=r at*
 rw[<-Pq];have hR:KL p r n=mX (mX (mX (mX (mX (mX (bK r 1 (uH r) aY.z) (rP r n)) (bK r 61 (fun lit=>(bu r lit).any fun x=>lP p x) aY.z)) (bK r 62 (fun lit=>(bu r lit).any fun x=>mZ p x) aY.z)) (bK r 65 (dD r) aY.z)) (jl r (nC p r))) (bK r 64 (dM r) aY.z):=by
  simp only[IS];rfl
 rw[hR];clear hR;generalize y:bK r 1 (uH r) aY.z=D0 at*
 refine gM 3 Z (go_cut 1 (fun(_:Unit)=>⟨[(1,pI n),(2,.ptr 0 0),(4,.ptr 1 0),(5,.ptr 2 0),(6,.ptr 3 0)],[(0,io (an p.c)),(1,io (an aY.z.c)),(2,io (an r.c)),(3,io (an (aY.c (mX D0 (rP r n)))))],4⟩) Z ?_ ?_)
 .refine zJ Z Z (fun g=>?_) fun g=>?_
  .have g:Zl D0=0:=zT g;refine gA Z (zp (c67 r n (by omega)) ?_);rw[show mX D0 (rP r n)=(rP r n) from am g];refine gA Z (fy () [] (zW (zK (zK (zK (zK ac))))))
  .have g: ¬Zl D0=0:=zF g;rw[show mX D0 (rP r n)=D0 from be g];refine gA Z (fy () [] (zW (zK (zK (zK (zK ac))))))
 rintro⟨⟩;generalize A:mX D0 (rP r n)=D1 at*
 refine go_cut 1 (fun(_:Unit)=>⟨[(1,pI n),(2,.ptr 0 0),(4,.ptr 1 0),(5,.ptr 2 0),(6,.ptr 3 0)],[(0,io (an p.c)),(1,io (an aY.z.c)),(2,io (an r.c)),(3,io (an (aY.c (mX D1 (bK r 61 (fun lit=>(bu r lit).any fun x=>lP p x) aY.z)))))],4⟩) Z ?_ ?_
 .refine zJ Z Z (fun g=>?_) fun g=>?_
  .have g:Zl D1=0:=zT g;refine gA Z (zp (k61 p r b d) ?_);rw[show mX D1 (bK r 61 (fun lit=>(bu r lit).any fun x=>lP p x) aY.z)=(bK r 61 (fun lit=>(bu r lit).any fun x=>lP p x) aY.z) from am g];refine gA Z (fy () [] (zW (zK (zK (zK (zK ac))))))
  .have g: ¬Zl D1=0:=zF g;rw[show mX D1 (bK r 61 (fun lit=>(bu r lit).any fun x=>lP p x) aY.z)=D1 from be g];refine gA Z (fy () [] (zW (zK (zK (zK (zK ac))))))
 rintro⟨⟩;generalize B:mX D1 (bK r 61 (fun lit=>(bu r lit).any fun x=>lP p x) aY.z)=D2 at*
 refine go_cut 1 (fun(_:Unit)=>⟨[(1,pI n),(2,.ptr 0 0),(4,.ptr 1 0),(5,.ptr 2 0),(6,.ptr 3 0)],[(0,io (an p.c)),(1,io (an aY.z.c)),(2,io (an r.c)),(3,io (an (aY.c (mX D2 (bK r 62 (fun lit=>(bu r lit).any fun x=>mZ p x) aY.z)))))],4⟩) Z ?_ ?_
 .refine zJ Z Z (fun g=>?_) fun g=>?_
  .have g:Zl D2=0:=zT g;refine gA Z (zp (k62 p r b d) ?_);rw[show mX D2 (bK r 62 (fun lit=>(bu r lit).any fun x=>mZ p x) aY.z)=(bK r 62 (fun lit=>(bu r lit).any fun x=>mZ p x) aY.z) from am g];refine gA Z (fy () [] (zW (zK (zK (zK (zK ac))))))
  .have g: ¬Zl D2=0:=zF g;rw[show mX D2 (bK r 62 (fun lit=>(bu r lit).any fun x=>mZ p x) aY.z)=D2 from be g];refine gA Z (fy () [] (zW (zK (zK (zK (zK ac))))))
 rintro⟨⟩;generalize D:mX D2 (bK r 62 (fun lit=>(bu r lit).any fun x=>mZ p x) aY.z)=D3 at*
 refine go_cut 1 (fun(_:Unit)=>⟨[(1,pI n),(2,.ptr 0 0),(4,.ptr 1 0),(5,.ptr 2 0),(6,.ptr 3 0)],[(0,io (an p.c)),(1,io (an aY.z.c)),(2,io (an r.c)),(3,io (an (aY.c (mX D3 (bK r 65 (dD r) aY.z)))))],4⟩) Z ?_ ?_
 .refine zJ Z Z (fun g=>?_) fun g=>?_
  .have g:Zl D3=0:=zT g;refine gA Z (zp (k65 p r b d) ?_);rw[show mX D3 (bK r 65 (dD r) aY.z)=(bK r 65 (dD r) aY.z) from am g];refine gA Z (fy () [] (zW (zK (zK (zK (zK ac))))))
  .have g: ¬Zl D3=0:=zF g;rw[show mX D3 (bK r 65 (dD r) aY.z)=D3 from be g];refine gA Z (fy () [] (zW (zK (zK (zK (zK ac))))))
 rintro⟨⟩;generalize F:mX D3 (bK r 65 (dD r) aY.z)=D4 at*
 refine go_cut 1 (fun(_:Unit)=>⟨[(1,pI n),(2,.ptr 0 0),(4,.ptr 1 0),(5,.ptr 2 0),(6,.ptr 3 0)],[(0,io (an p.c)),(1,io (an aY.z.c)),(2,io (an r.c)),(3,io (an (aY.c (mX D4 (jl r (nC p r))))))],4⟩) Z ?_ ?_
 .refine zJ Z Z (fun g=>?_) fun g=>?_
  .have g:Zl D4=0:=zT g;refine gA Z (zp (c68 p r b (by omega)) ?_);rw[show mX D4 (jl r (nC p r))=(jl r (nC p r)) from am g];refine gA Z (fy () [] (zW (zK (zK (zK (zK ac))))))
  .have g: ¬Zl D4=0:=zF g;rw[show mX D4 (jl r (nC p r))=D4 from be g];refine gA Z (fy () [] (zW (zK (zK (zK (zK ac))))))
 rintro⟨⟩;generalize G:mX D4 (jl r (nC p r))=D5 at*
 refine go_cut 1 (fun(_:Unit)=>⟨[(1,pI n),(2,.ptr 0 0),(4,.ptr 1 0),(5,.ptr 2 0),(6,.ptr 3 0)],[(0,io (an p.c)),(1,io (an aY.z.c)),(2,io (an r.c)),(3,io (an (aY.c (mX D5 (bK r 64 (dM r) aY.z)))))],4⟩) Z ?_ ?_
 .refine zJ Z Z (fun g=>?_) fun g=>?_
  .have g:Zl D5=0:=zT g;refine gA Z (zp (k64 p r b d) ?_);rw[show mX D5 (bK r 64 (dM r) aY.z)=(bK r 64 (dM r) aY.z) from am g];refine gA Z (fy () [] (zW (zK (zK (zK (zK ac))))))
  .have g: ¬Zl D5=0:=zF g;rw[show mX D5 (bK r 64 (dM r) aY.z)=D5 from be g];refine gA Z (fy () [] (zW (zK (zK (zK (zK ac))))))
 rintro⟨⟩;generalize I:mX D5 (bK r 64 (dM r) aY.z)=D6 at*
 exact zU Z
theorem XW(p:Prog)(k:Nat)(b:k<p.rules.length)(hf:p.fit):Pure prog 133 [ag p.c,pI ((k:Int)+1)] (ag (p4 p k).c):=by
 have:=c27 p ((k:Int)+1) hf;rw[be (by omega),show((k:Int)+1-1).toNat=k by omega]at this;exact this
theorem Kr{α:Type}(l:List α)(x:α):l.length+1=(l++ [x]).length:=by simp
theorem Kq{α:Type}{β:Type _}(f:α->β)(l:List α)(x:α):l.map f++ [f x]=(l++ [x]).map f:=by simp
set_option maxHeartbeats 1000000 in
theorem c41(p:Prog)(hf:p.fit)(hs:p.size<=10000000):Pure prog 103 [ag p.c] (.iv (cW 3 (jj p) aY.c)):=by
 have y:=hf.1;have A:=hf.2.1;refine ah ab func103 Z (by decide) ntmps103 Z (by simp) Z ?_;refine gA Z ?_;refine fS 3 3 Z ?_;refine az 0 p.aD.length (YZ _) (fun i=>⟨[(1,.ptr 0 0),(3,.sl 2 0 (jn p i).length 3),(4,pI i)],[(0,io (an p.c)),(2,io (aG 3 (jn p i) aY.c))],3⟩) (fun _=>True) [1] ac
  (zW (zK (zS trivial))) fun i B _=>?_
 have D:=Dz p i;refine zJ Z Z (fun j=>?_) fun j=>?_
 .have j:i<p.aD.length:=zN j;refine gA Z (zp (c82 p i j hs) ?_);refine zJ Z Z (fun g=>?_) fun g=>?_
  .have g: ¬dH p i=0:=zX g;have b:jn p (i+1)=jn p i++ [(dH p i,(p.aD.getD i em).at_)]:=by rw[jn,be g]
   refine gA Z (zp (SY (dH p i) (p.aD.getD i em).at_) ?_);refine gA Z ⟨j,ac,[4],zM (bv ⟨.row (by rw[b,YS];rfl),rfl,bv ac⟩) (zK (hR Z (by rw[b,YX];rfl) Z ac))⟩
  .have g:dH p i=0:=zY g;have b:jn p (i+1)=jn p i:=by rw[jn,am g,Zv]
   refine gA Z ⟨j,ac,[2],zM (bv ⟨.row (by rw[b]),rfl,bv ac⟩) (zK (hR Z (by rw[b]) Z ac))⟩
 have j:p.aD.length<=i:=zG j;have u:i=p.aD.length:=by omega
 subst u;refine gA Z ?_;refine az 0 p.rules.length (YZ _) (fun i=>⟨[(1,.ptr 0 0),(3,.sl 3 0 (jn p p.aD.length++ke p i).length 3),(6,pI ((i:Int)+1))],[(0,io (an p.c)),(3,io (aG 3 (jn p p.aD.length++ke p i) aY.c))],4⟩) (fun _=>True) [2] ac
  (zM (bv ⟨.row (by rw[ke,Zv]),rfl,bv trivial⟩) (zK (hR Z (by rw[ke,Zv]) Z trivial))) fun i B _=>?_
 have F:=Dp p i;have x:(jn p p.aD.length++ke p i).length=(jn p p.aD.length).length+(ke p i).length:=YS;refine zJ Z Z (fun d=>?_) fun d=>?_
 .have d:(i:Int)+1<=(p.rules.length:Int):=zT d;have d:i<p.rules.length:=by omega
  refine gA Z (zp (XW p i d hf) ?_);refine zJ Z Z (fun g=>?_) fun g=>?_
  .have g: ¬(p4 p i).1=0:=zX g;have b:jn p p.aD.length++ke p (i+1)=(jn p p.aD.length++ke p i)++ [p4 p i]:=by rw[ke,be g,Y3]
   refine gA Z ⟨d,ac,[6],zM (bv ⟨.row (by rw[b];exact Kr _ _),rfl,.of_eq (FG (by omega)),rfl,ac⟩) (zK (hR Z (by rw[b];exact Kq _ _ (p4 p i)) Z ac))⟩
  .have g:(p4 p i).1=0:=zY g;have b:ke p (i+1)=ke p i:=by rw[ke,am g,Zv]
   refine gA Z ⟨d,ac,[3],zM (bv ⟨.row (by rw[b]),rfl,.of_eq (FG (by omega)),rfl,ac⟩) (zK (hR Z (by rw[b]) Z ac))⟩
 have d: ¬(i:Int)+1<=(p.rules.length:Int):=zF d;have u:i=p.rules.length:=by omega
 subst u;refine gA Z (cx (by first|exact .inr Z|exact .inl Z) Z Z (rfl) (rfl))
theorem c25(p:Prog)(hf:p.fit)(hs:p.size<=10000000):Pure prog 61 [ag p.c] (ag (dy p).c):=by
 refine ah ab func61 Z (by decide) ntmps61 Z (by simp) Z ?_;refine gA Z (zp (c41 p hf hs) ?_);have hC:dy p=(jj p).headD aY.z:=rfl;rw[hC];generalize jj p=L at*
 refine zJ Z Z (fun g=>?_) fun g=>?_
 .have g:(L.length:Int)=0:=zT g;have:L=[]:=ZN (by omega);subst this;exact zU Z
 .have g: ¬(L.length:Int)=0:=zF g;refine gA Z (zL (.of_eq ?_));cases L with
  |nil=>simp at g
  |cons d l=>rfl
theorem V0{p:Prog}(hf:nf p):Pure prog 63 [.iv (cW 1 (dW (ns p).length (gF p (c4 p))) (lx ba))] (.iv (fI p)):=by
 refine VZ (vi hf) (gF p (c4 p)) (Go.Rg.ed (ns p) (eg p)) fun i j b d=>?_;rw[ZE,Go.Rg.Cx,decide_eq_true_eq];unfold eg gF;constructor
 .rintro⟨_,_,h⟩;have h:gD (c4 p) (vD p i) (vD p j)≠0:=zT h;omega
 .intro h;exact⟨b,d,decide_eq_true (show gD (c4 p) (vD p i) (vD p j)≠0 by omega)⟩
theorem Po(p:Prog)(hb:p.fit)(hs:p.size<=10000000):Pure prog 27 [ag p.c] (ag (dT p).c):=by
 have I:p.rules.length<=1000000000:=hb.2.1;refine ah ab func27 Z (by decide) ntmps27 Z (by simp) Z ?_;refine gA Z (zp (c25 p hb hs) ?_);refine zJ Z Z (fun k1=>?_) fun k1=>?_
 .have k1: ¬(dy p).1=0:=zX k1;rw[dT,am k1];exact zU Z
 have k1:(dy p).1=0:=zY k1;have A:=Cv k1;rw[dT,be (by simpa using k1)];have y: ∀i,i<p.rules.length->(p.rules.map (gJ p)).getD i em=gJ p (p.rules.getD i em):=fun i F=>by
  rw[YR,Y0,YU F,YR,YU F];rfl
 have j:(p.rules.map (gJ p)).length=p.rules.length:=Zo _;refine gA Z (zp (Pg A) ?_);refine gA Z (zp (Pk A hb) ?_);refine gA Z (zp (V0 A) ?_);refine gA Z ?_;refine az 0 p.rules.length (YZ _) (fun i=>⟨[(1,.ptr 0 0),(2,.ptr 1 0),(4,.iv (strs (ns p))),(5,.iv (fI p)),(6,pI i)],[(0,io (an p.c)),(1,io (an aY.z.c))],3⟩) (fun i=>((p.rules.map (gJ p)).take i).any (fun d=>li (d.1≠0))=lc) [] (by simp)
  (zW (zK (zK trivial))) fun i F B=>?_
 refine zJ Z Z (fun b=>?_) fun b=>?_
 .have b:=ci b;have G:=cS b;have x:=hb.2.2 _ G;have D:=y i b;refine gA Z (zp (O9 A G x.1) ?_);refine zJ Z Z (fun u=>?_) fun u=>?_
  .have u: ¬(gJ p (p.rules.getD i em)).1=0:=zX u;rw[kQ B (by rw[j];exact b) (by rw[D];exact decide_eq_true u),D];exact zU Z
  .have u:(gJ p (p.rules.getD i em)).1=0:=zY u;refine gA Z ⟨b,(aW B (by rw[j];exact b)).2 (by rw[D];simpa using u),[],zW (zK (zK ac))⟩
 .have b:=co b;rw[eK (any_none B (by rw[j];exact b))];exact zU Z
theorem UF{D:List Bool}{i:Nat}(hi:i<D.length):pM (D.set i kw)=fun j=>pM D j||decide ((j:Int)=(i:Int)):=by
 funext j
 unfold pM;rw[YR,YR,ZD];by_cases h:i=j
 .subst h;rw[am Z,am hi,decide_eq_true Z,aa2];rfl
 .rw[be h,decide_eq_false (by omega),aau]
theorem Cg(k a:List aj):aE (k++a)=fun x=>aE k x||aE a x:=by
 funext x
 unfold aE;rw[List.any_append]
theorem UG(n:Nat):pM (aaO n lc)=fun _=>lc:=by
 funext j
 unfold pM;rw[YR,aaX];split<;>rfl
structure SJ (r:ae) (fstv:Int) (all:List dz) (n:Nat) (D:List Bool) (k:List aj) (L:List dz):Prop where
 dl:D.length=r.body.length
 ll:L.length=n
 kl:k.length<=1000000000+n*2000000
 rest:L++fp r fstv (r.body.length-n) (pM D) (aE k)=all
theorem O6{r:ae}{fstv:Int}{all:List dz}{n:Nat}{D:List Bool}{k:List aj}{L:List dz}(h:SJ r fstv all n D k L)(hn:iY (aE k) r (pM D) fstv=jp):L=all:=by
 have:=h.rest;cases hm:r.body.length-n with
 |zero=>rw[hm]at this;simpa[fp]using this
 |succ m=>rw[hm,fp,hn]at this;simpa using this
theorem TH{r:ae}{fstv:Int}{all:List dz}{n:Nat}{D:List Bool}{k:List aj}{L:List dz}(h:SJ r fstv all n D k L)(hn:r.body.length<=n):L=all:=by
 have:=h.rest;rw[show r.body.length-n=0 by omega]at this;simpa[fp]using this
theorem Q6(r:ae)(s:dz){i:Nat}(hs:s.lit=i)(hi:i<r.body.length)(hb:r.size<=2000000):(tD r s).length<=2000000:=by
 have b:(r.body.getD i em).size<=2000000:=by have:=Lit.aI r.body i hi;unfold ae.size at hb;omega
 have j:=(r.body.getD i em).size_eq;have d:=dr (r.body.getD i em).atom;unfold tD;split
 .rw[hs];show(bj (r.body.getD i em).atom).length<=_;omega
 .split
  .simp
  .simp
theorem O5{r:ae}{fstv:Int}{all:List dz}{n:Nat}{D:List Bool}{k:List aj}{L:List dz}(h:SJ r fstv all n D k L)(hn:n<r.body.length)(hb:r.size<=2000000){s:dz}{i:Nat}(d:iY (aE k) r (pM D) fstv=io s)(hs:s.lit=i)(hi:i<r.body.length):
  SJ r fstv all (n+1) (D.set i kw) (k++tD r s) (L++ [s]):=
 ⟨by rw[aax,h.dl],by rw[YS,h.ll];rfl,by
  have b:=h.kl;have j:=Q6 r s hs hi hb;rw[YS,Z5];omega,by
  have b:=h.rest;rw[show r.body.length-n=(r.body.length-(n+1))+1 by omega,fp,d]at b
  rw[<-b,Y3,UF (by rw[h.dl];exact hi),Cg,<-hs];rfl⟩
theorem Ud(r:ae)(fstv:Int)(k:List aj)(h:r.body.length=0):fp r fstv r.body.length (fun _=>lc) (aE k)=[]:=by rw[h];rfl
set_option maxHeartbeats 1000000 in
theorem Pb(r:ae)(fstv:Int)(k:List aj)(hf:fstv<r.body.length)(hb:r.size<=2000000)(hk:k.length<=1000000000):
  Pure prog 70 [ag r.c,pI fstv,.iv (strs k)] (.iv (cW 4 (fp r fstv r.body.length (fun _=>lc) (aE k)) dz.c)):=by
 have a0:r.body.length<=2000000:=by have:=Lit.au r.body;unfold ae.size at hb;omega
 refine ah ab func70 Z (by decide) ntmps70 Z (by simp) Z ?_;rcases Nat.eq_zero_or_pos r.body.length with h0|h0
 .refine gA Z (F8 ab 1 (fun _=> []) Z Z Z Z Z Z Z (by omega) (by omega) Z ?_);refine gA Z ?_;refine az 0 0 (YZ _) (fun i=>⟨[(3,.ptr 0 0),(8,.iv (.v (.slice jp 0 0))),(9,pI i)],[(0,io (an r.c))],2⟩) (fun _=>True) [] ac
   (zW (zK trivial)) fun i S _=>?_
  refine zJ Z Z (fun G=>?_) fun G=>?_
  .have G:=ci G;omega
  .rw[Ud r fstv k h0];refine gA Z (zL ?_);exact .nil _ _
 generalize I:fp r fstv r.body.length (fun _=>lc) (aE k)=all;refine gA Z (Ep ab r.body.length r.body.length Z Z Z Z Z Z Z Z Z h0 (by omega) (by show 1*r.body.length<=_;omega) Z (by decide) (z:=[pB lc]) Z (.inr ⟨rfl,rfl⟩) Z ?_);refine gA Z ?_;refine fS 8 4 Z ?_;refine uq 0 r.body.length (YZ _) (fun n (x:List Bool×List aj×List dz)=>⟨[(1,pI fstv),(2,.iv (strs x.2.1)),(3,.ptr 0 0),(7,.sl 1 0 r.body.length 1),(8,.sl 3 0 x.2.2.length 4),(9,pI n)],[(0,io (an r.c)),(1,io (aG 1 x.1 bD)),(3,io (aG 4 x.2.2 dz.c))],4⟩) (fun n x=>SJ r fstv all n x.1 x.2.1 x.2.2) (aaO r.body.length lc,k,[]) [2]
  ⟨by simp,rfl,by omega,by rw[UG,Nat.sub_zero];simpa using I⟩
  (zW (zK (hR Z (by rw[List.map_replicate];rfl) Z (zS trivial)))) fun n x hn d=>?_
 obtain⟨D,j,L⟩:=x;have d:SJ r fstv all n D j L:=d;have J:=d.dl;have e0:=d.ll;have d0:=d.kl;have c0:j.length<=5000000000000:=by omega
 refine zE Z Z (fun b=>?_) fun b=>?_
 .have b:=co b;have:=TH d b;subst this;refine gA Z (cx (by first|exact .inr Z|exact .inl Z) Z Z (rfl) (rfl))
 have b:=ci b;have u:=KJ r D fstv j J hf (by omega);cases hx:iY (aE j) r (pM D) fstv with
 |none=>
  rw[hx]at u;have:=O6 d hx;subst this;refine gA Z (bI [1] u Z Z Z Z Z (by show[_]=[io ((aG 1 D bD).da _)];rw[bA];rfl) Z Z ?_);refine zJ Z Z (fun y=>?_) fun y=>?_
  .refine gA Z (cx (by first|exact .inr Z|exact .inl Z) Z Z (rfl) (rfl))
  .exact absurd y (show¬((!lc)=lc) by decide)
 |some s=>
  rw[hx]at u;obtain⟨i,hs,S,b0⟩:=DT hf hx;have Y:=O5 d b hb hx hs S;obtain⟨B,lt,A,F⟩:=s;cases hs;have u:bV prog 106 [ag r.c,.sl 0 0 r.body.length 1,pI fstv,.iv (strs j)] [aG 1 D bD] (.bM [ag (dz.mk B (i:Int) A F).c,pB kw]) [(0,io (aG 1 D bD))] 1:=u;have key: ∀σ,(D.map fun x=>(bD x).map PV.iv).map (dK σ)=D.map fun x=>(bD x).map PV.iv:=fun σ=>by
   rw[aaH];exact aaf fun x _=>rq _ _
  refine gA Z (bI [1] u Z Z Z Z Z (by show[_]=[io ((aG 1 D bD).da _)];rw[bA];rfl) Z Z ?_);refine zJ Z Z (fun y=>?_) fun y=>?_
  .exact absurd y (show¬((!kw)=kw) by decide)
  refine gA Z ?_;refine kA ab Z Z Z (i:=1) (sz:=1) (q:=0+i) Z Z Z Z (by simp only[Zo];omega) Z Z Z Z ?_;refine gA Z (zp (Pp r B i A F j S (by omega) (by omega)) ?_)
  refine gA Z ⟨b,(D.set i kw,j++tD r ⟨B,(i:Int),A,F⟩,L++ [⟨B,(i:Int),A,F⟩]),[6],Y,zM (bv (bv (bv (bv ⟨.row (by rw[YS];rfl),rfl,bv ac⟩)))) (zK ⟨⟨_,rfl,(Ad (.kb kw)).trans (.of_eq (by
   rw[bA];show AO.row 1 (((D.map fun x=>(bD x).map PV.iv).map (dK _)).set (0+i) ((bD kw).map PV.iv))=AO.row 1 ((D.set i kw).map fun x=>(bD x).map PV.iv)
   rw[key,Zh,aaA]))⟩,YP Z,cJ _,hR Z (by rw[YX];rfl) Z ac⟩)⟩
def uC(dn:Nat->Bool):Nat->Nat
 |0=>0
 |n+1=>uC dn n+if dn n=kw then 1 else 0
theorem HY(dn:Nat->Bool): ∀n,uC dn n<=n
 |0=>YY _
 |n+1=>by have:=HY dn n;unfold uC;split<;>omega
theorem HX{dn:Nat->Bool}{i:Nat}(hd:dn i=lc): ∀{n},i<n->uC dn n<n
 |0,h=>absurd h (Z3 i)
 |n+1,h=>by
  unfold uC;rcases ZA.1 h with h|h
  .have:=HX hd h;split<;>omega
  .subst h;rw[be (by rw[hd];exact Zx)];have:=HY dn i;omega
def zg(dn:Nat->Bool)(i:Int):Nat->Bool:=fun j=>dn j||decide ((j:Int)=i)
theorem A9{dn:Nat->Bool}{i:Nat}: ∀{n},n<=i->uC (zg dn i) n=uC dn n
 |0,_=>rfl
 |n+1,h=>by
  have e:zg dn i n=dn n:=by unfold zg;rw[decide_eq_false (by omega),aau]
  unfold uC;rw[A9 (by omega),e]
theorem EP{dn:Nat->Bool}{i:Nat}(hd:dn i=lc): ∀{n},i<n->uC (zg dn i) n=uC dn n+1
 |0,h=>absurd h (Z3 i)
 |n+1,h=>by
  unfold uC;rcases ZA.1 h with h|h
  .have e:zg dn i n=dn n:=by unfold zg;rw[decide_eq_false (by omega),aau]
   rw[EP hd h,e];omega
  .subst h;rw[A9 (YY _),am (by unfold zg;rw[decide_eq_true Z,aa2]),be (by rw[hd];exact Zx)]
theorem uh{V:Type}{m:List ((KC.int .i64).K×V)}{a c:Int}{v z:V}:bU (.int .i64) (cF (.int .i64) m a v) c z=if a=c then v else bU (.int .i64) m c z:=by
 induction m with
 |nil=>simp only[cF,bU]
 |cons x r ih=>
  obtain⟨k,b⟩:=x;simp only[cF];by_cases h:k=a
  .rw[am h];simp only[bU];by_cases d:a=c
   .simp[d]
   .have: ¬k=c:=fun e=>d (h▸e)
    rw[be d,be d,be this]
  .rw[be h];simp only[bU,ih];by_cases d:k=c
   .have: ¬a=c:=fun e=>h (d.trans e.symm)
    simp[d,this]
   .simp[d]
theorem Cz{dm:WD}{i:Nat}(h0:0<=bU (.int .i64) dm (i:Int) 0):oA (Ju dm i)=zg (oA dm) i:=by
 funext j
 unfold oA Ju zg;rw[uh];by_cases h:(i:Int)=(j:Int)
 .rw[am h,decide_eq_true (by omega:(j:Int)=i),aa2,decide_eq_true (by omega)]
 .rw[be h,decide_eq_false (by omega: ¬(j:Int)=i),aau]
theorem DU{K:aj->Bool}{r:ae}{dn:Nat->Bool}{fstv:Int}{s:dz}(hf:fstv<r.body.length)(h:iY K r dn fstv=io s): ∃i:Nat,s.lit=i∧i<r.body.length∧dn i=lc∧iu K r i=io s:=by
 obtain⟨i,u,x,y⟩:=DT hf h;refine⟨i,u,x,y,?_⟩;have key: ∀j:Nat,iu K r j=io s->iu K r i=io s:=fun j d=>by
  have:=uE d;have:i=j:=by omega
  subst this;exact d
 unfold iY at h;cases hg:(Zg r.body.length).findSome? (jS K r dn) with
 |some s'=>
  rw[hg]at h;cases h;obtain⟨j,_,b⟩:=List.exists_of_findSome?_eq_some hg;unfold jS at b;split at b
  .exact key j b
  .cases b
 |none=>
  rw[hg]at h;dsimp only at h;split at h
  .exact key _ h
  .split at h
   .cases h
   .exact key _ h
theorem JB{K:aj->Bool}{r:ae}{l:Lit}{i:Int}{s:dz}(h:uF K r l i=io s)(b:s.kind=1):l.kind=1:=by
 unfold uF vH Gs at h
 repeat' split at h
 all_goals first
  |assumption
  |(cases h;cases b)
  |cases h
structure Bq (r:ae) (bm:BM):Prop where
 can: ∀(K:aj->Bool) (i:Nat),i<r.body.length->lz K bm (r.body.getD i em) i=iu K r i
 add: ∀i,i<r.body.length->(r.body.getD i em).kind=1-> ∀x,aE (dx (r.body.getD i em)) x=aE (bj (r.body.getD i em).atom) x
 br: ∀i:Int,(bU (.int .i64) bm i []).length<=1000000000
theorem Bq.take{r:ae}{d:BM}(h:Bq r d){K:aj->Bool}{s:dz}{i:Nat}(hi:i<r.body.length)(hs:s.lit=i)(hc:iu K r i=io s):aE (jT r s)=aE (tD r s):=by
 funext x
 unfold jT tD;by_cases b:s.kind=1
 .rw[am b,am b,hs];exact h.add i hi (JB hc b) x
 .rw[be b,be b]
theorem C6(r:ae)(s:dz){i:Nat}(hs:s.lit=i)(hi:i<r.body.length)(hb:r.size<=10000000):(jT r s).length<=10000000:=by
 have b:(r.body.getD i em).size<=10000000:=by have:=Lit.aI r.body i hi;unfold ae.size at hb;omega
 have d:=th (r.body.getD i em);unfold jT;split
 .rw[hs];show(dx (r.body.getD i em)).length<=_;omega
 .split
  .simp
  .simp
structure SW (r:ae) (fstv:Int) (all:List dz) (c:Option dz) (ks:List aj) (dm:WD) (L:List dz):Prop where
 cur:c=iY (aE ks) r (oA dm) fstv
 kl:ks.length<=1000000000+L.length*10000000
 cnt:uC (oA dm) r.body.length=L.length
 pos: ∀i:Int,0<=bU (.int .i64) dm i 0∧bU (.int .i64) dm i 0<=1
 rest:L++fp r fstv (r.body.length-L.length) (oA dm) (aE ks)=all
theorem OZ{r:ae}{fstv:Int}{all:List dz}{j:List aj}{dm:WD}{L:List dz}(h:SW r fstv all jp j dm L):L=all:=by
 have b:=h.rest;have d:=h.cur.symm;cases hm:r.body.length-L.length with
 |zero=>rw[hm]at b;simpa[fp]using b
 |succ m=>rw[hm,fp,d]at b;simpa using b
theorem OY{r:ae}{D:BM}{fstv:Int}{all:List dz}{s:dz}{A:List aj}{dm:WD}{L:List dz}(G:Bq r D)(hf:fstv<r.body.length)(hb:r.size<=10000000)(h:SW r fstv all (io s) A dm L):
  ∃i:Nat,s.lit=i∧i<r.body.length∧(0<=bU (.int .i64) dm (i:Int) 0∧bU (.int .i64) dm (i:Int) 0<=1000000000)∧L.length<r.body.length∧SW r fstv all (iY (aE (A++jT r s)) r (oA (Ju dm i)) fstv) (A++jT r s) (Ju dm i) (L++ [s]):=by
 obtain⟨i,u,b,x,F⟩:=DU hf h.cur.symm;have y:=h.pos i;have d:=HX x b;rw[h.cnt]at d;have I:bU (.int .i64) dm (i:Int) 0=0:=by
  have:=zF x;omega
 refine⟨i,u,b,⟨y.1,by omega⟩,d,rfl,?_,?_,?_,?_⟩
 .have J:=C6 r s u b hb;have S:=h.kl;rw[YS,YS,Zs,Z5];omega
 .rw[Cz y.1,EP x b,h.cnt,YS,Zs]
 .intro j;unfold Ju;rw[uh];split
  .omega
  .exact h.pos j
 .have B:=h.rest;rw[show r.body.length-L.length=(r.body.length-(L.length+1))+1 by omega,fp,<-h.cur]at B;rw[<-B,Y3,YS,Zs,Cz y.1,Cg,G.take b u F,<-u];rfl
abbrev stF(fstv:Int)(n:Nat)(b:Bool):AF:=[(0,.ptr 0 0),(1,pI fstv),(5,.sl 6 0 n 4),(6,.ptr 5 0),(7,pB b)]
abbrev stH(r:ae)(b:BM)(d:List aj)(dm:WD)(c:List IV)(L:List dz):AH:=[(0,io (wO r (zc b))),(1,io (ct (aC d))),(2,io (xb dm)),(5,io (an c)),(6,io (aG 4 L dz.c))]
set_option maxHeartbeats 1000000 in
theorem BG(r:ae)(d:BM)(b:List aj)(fstv:Int)(G:Bq r d)(S:Cu r fstv)(hf:fstv<r.body.length)(hb:r.size<=10000000)(hk:b.length<=1000000000):
  bV prog 73 [.ptr 0 0,pI fstv] (Nk r (zc d) b []) (.iv (cW 4 (fp r fstv r.body.length (fun _=>lc) (aE b)) dz.c)) [] 3:=by
 have a0:r.body.length<=10000000:=by have:=Lit.au r.body;unfold ae.size at hb;omega
 have hN: ∀b dm,bV prog 109 [.ptr 0 0,pI fstv] (Nk r (zc d) b dm) (zt (iY (aE b) r (oA dm) fstv)) (wH r (zc d) b dm) 3:=fun b dm=>by
  have h:=TQ r d b dm fstv hb G.br;rwa[Li (fun i Y=>G.can (aE b) i Y) S]at h
 generalize I:fp r fstv r.body.length (fun _=>lc) (aE b)=all
 have h0:SW r fstv all (iY (aE b) r (oA []) fstv) b [] []:=⟨rfl,by omega,by
  have: ∀n,uC (oA []) n=0:=fun n=>by induction n with
   |zero=>rfl
   |succ n ih=>unfold uC;rw[ih];rfl
  exact this _,fun _=>by simp[bU],by
  have:oA []=fun _=>lc:=by funext j;rfl
  rw[this];exact I⟩
 generalize J:iY (aE b) r (oA []) fstv=c at h0;have y:=hN b [];rw[J]at y;refine aB ab func73 Z (by decide) ntmps73 Z (by simp) ?_;refine gA Z (bI [0,1,2] y Z Z Z Z Z Z Z Z ?_);refine gA Z ?_;refine fS 5 4 Z ?_;refine ox (σ:={x:Option dz×List aj×WD×List dz//SW r fstv all x.1 x.2.1 x.2.2.1 x.2.2.2}) (fun x=>⟨stF fstv x.1.2.2.2.length (IU x.1.1).2,stH r d x.1.2.1 x.1.2.2.1 (IU x.1.1).1.c x.1.2.2.2,7⟩) (fun x=>r.body.length-x.1.2.2.2.length) ⟨(c,b,[],[]),h0⟩ [3,4]
  (zW (zH (zK (zS trivial)))) fun x=>?_
 obtain⟨⟨c,b,dm,L⟩,B⟩:=x;have B:SW r fstv all c b dm L:=B;show GO prog _ _ _ ⟨stF fstv L.length (IU c).2,stH r d b dm (IU c).1.c L,7⟩;refine zJ Z Z (fun q1=>?_) fun q1=>?_
 .cases c with
  |none=>exact absurd q1 (show¬(lc=kw) by decide)
  |some s=>
   obtain⟨i,hs,Y,hd,d0,A⟩:=OY G hf hb B;obtain⟨D,lt,u,F⟩:=s;cases hs;have c0:=B.kl;refine gA Z (bI [0,1,2] (Kz r (zc d) b dm D i u F Y hb (by omega) hd) Z Z Z Z Z Z Z Z ?_);have hn:=hN (b++jT r ⟨D,(i:Int),u,F⟩) (Ju dm i);generalize b0:iY (aE (b++jT r ⟨D,(i:Int),u,F⟩)) r (oA (Ju dm i)) fstv=c2 at hn A;refine gA Z (bI [0,1,2] hn Z Z Z Z Z Z Z Z ?_);refine gA Z ⟨⟨(c2,b++jT r ⟨D,(i:Int),u,F⟩,Ju dm i,L++ [⟨D,(i:Int),u,F⟩]),A⟩,[9,8],by simp only[YS,Zs];omega,zM (bv (bv ⟨.row (by rw[YS];rfl),rfl,bv (bv ac)⟩)) (zH (zK (hR Z (by rw[YX];rfl) Z ac)))⟩
 .cases c with
  |some s=>exact absurd q1 (show¬(kw=lc) by decide)
  |none=>
   have:=OZ B;subst this;refine gM 1 Z (ki [] (t:=⟨[(5,.sl 6 0 L.length 4)],[(6,io (aG 4 L dz.c))],7⟩) (zW (zS ac)) ?_);refine Cl 6 (fun k=>dz.c (L.getD k em)) Z (fM Z) (by simp[AF.xQ,PV.db]) ⟨xH _ _ _ _ _ _,ac⟩ ?_
   refine ki (L:=[]) (t:=⟨[(5,.iv (cW 4 L dz.c))],[],7⟩) (zM ⟨(by
    show aL (.iv (.dG 4 L.length fun k=>dz.c (L.getD (0+k) em))) (.iv (cW 4 L dz.c));simp only[Zh]
    exact .refl _),rfl,ac⟩ ac) ?_
   refine gA Z (zD [] Z (zW ac))
def ig(l:Lit):List aj:=(if l.c6=1 then[] else bw l.jQ)++l.ar.flatMap dx
def Np(r:ae)(l:Lit):List aj:=if l.kind=4 then(outer r).filter (aE (ig l)) else[]
def y5(G:BM)(k:Int)(l:List aj):BM:=l.foldl (fun G a=>cF (.int .i64) G k (bU (.int .i64) G k []++ [a])) G
def QU(r:ae)(i:Nat):BM:=(Zg i).foldl (fun G (i:Nat)=>y5 G i (Np r (r.body.getD i em))) []
def H4(r:ae):BM:=QU r r.body.length
theorem JJ(G:BM)(k:Int)(l:List aj)(a:aj):y5 G k (l++ [a])=cF (.int .i64) (y5 G k l) k (bU (.int .i64) (y5 G k l) k []++ [a]):=by
 unfold y5;rw[aao];rfl
theorem E0(r:ae)(i:Nat):QU r (i+1)=y5 (QU r i) i (Np r (r.body.getD i em)):=by
 unfold QU;rw[aa7,aao];rfl
theorem Ib(k c:Int): ∀(l:List aj) (G:BM),bU (.int .i64) (y5 G k l) c []=if k=c then bU (.int .i64) G c []++l else bU (.int .i64) G c []
 | [],G=>by unfold y5;simp
 |a::l,G=>by
  show bU (.int .i64) (y5 (cF (.int .i64) G k (bU (.int .i64) G k []++ [a])) k l) c []=_;rw[Ib k c l,uh];by_cases h:k=c
  .subst h;rw[am Z,am Z,am Z,Y3];rfl
  .rw[be h,be h,be h]
theorem Gm(r:ae)(c:Int): ∀n,bU (.int .i64) (QU r n) c []=if 0<=c∧c<n then Np r (r.body.getD c.toNat em) else[]
 |0=>by rw[be (by omega)];rfl
 |n+1=>by
  rw[E0,Ib,Gm r c n];by_cases h:(n:Int)=c
  .subst h;rw[am Z,be (by omega),am (by omega),Zi];rfl
  .rw[be h];by_cases b:0<=c∧c<n
   .rw[am b,am (by omega)]
   .rw[be b,be (by omega)]
theorem QR(r:ae)(l:Lit):(Np r l).length<=r.size:=by
 unfold Np;split
 .exact ZI (Z4 _ _) (An r)
 .exact YZ _
theorem UW(r:ae){i:Nat}(hi:i<r.body.length):bU (.int .i64) (H4 r) (i:Int) []=Np r (r.body.getD i em):=by
 unfold H4;rw[Gm,am (by omega)];rfl
theorem QS(r:ae)(c:Int):(bU (.int .i64) (H4 r) c []).length<=r.size:=by
 unfold H4;rw[Gm];split
 .exact QR r _
 .exact YZ _
theorem Lc{L:GL}(k:Int)(a:aj):
  (lq (.int .i64) (ofM L) k=jp∧bU (.int .i64) (ofM L) k jp=jp∧(∀b e a0,cF (.int .i64) (ofM L) k (io (b,1,a0))=ofM (L++ [(b,e,k,a0,[a])])∧ou (L++ [(b,e,k,a0,[a])])=cF (.int .i64) (ou L) k (bU (.int .i64) (ou L) k []++ [a])))∨
  ∃i y,L[i]? =io y∧bU (.int .i64) (ofM L) k jp=io (y.1,y.2.2.2.2.length,y.2.2.2.1)∧(∀b e a0,cF (.int .i64) (ofM L) k (io (b,y.2.2.2.2.length+1,a0))=ofM (L.set i (b,e,k,a0,y.2.2.2.2++ [a]))∧ou (L.set i (b,e,k,a0,y.2.2.2.2++ [a]))=cF (.int .i64) (ou L) k (bU (.int .i64) (ou L) k []++ [a])):=by
 cases hf:lq (.int .i64) (ofM L) k with
 |none=>
  obtain⟨d,_,u,_⟩:=lX hf;rw[HN]at hf;obtain⟨x,_,B,_⟩:=lX hf;exact .inl ⟨rfl,d jp,fun b e a0=>⟨by rw[u];simp[ofM],by rw[B,x];simp[ou]⟩⟩
 |some i=>
  right;obtain⟨v,d,u,_,x,_⟩:=lW hf;rw[HN]at hf;obtain⟨F,g1,g2,_,g3,_⟩:=lW hf;have j: ∃y,L[i]? =io y:=by
   unfold ofM at d;rw[Y0,Y2]at d;obtain⟨y,j,_⟩:=d;exact⟨y,j⟩
  obtain⟨y,j⟩:=j;have D:v=io (y.1,y.2.2.2.2.length,y.2.2.2.1):=by
   unfold ofM at d;rw[Y0,j]at d;simp only[ZW,YT,Y5]at d;exact d.2.symm
  have A:F=y.2.2.2.2:=by
   unfold ou at g1;rw[Y0,j]at g1;simp only[ZW,YT,Y5]at g1;exact g1.2.symm
  refine⟨i,y,j,by rw[u jp,D],fun b e a0=>⟨?_,?_⟩⟩
  .rw[x];unfold ofM;rw[aaA];simp
  .rw[g3,g2 [],A];unfold ou;rw[aaA]
abbrev Vf(r:ae):AO:= .cells [.iv (iS r.head.rel),.iv (cW 5 r.head.ad Term.c),.iv (lits r.body),.iv (iI r.at_.line),.iv (iI r.at_.zr),.mp 1,.mp 2,.mp 3]
theorem Az: ∀l:List Lit,(l.flatMap dx).length<=Lit.aA l
 | []=>YY _
 |e::r=>by
  have b:=th e;have d:=Az r;simp only[ZF,YS,Lit.aA];omega
theorem I8(l:List Lit){k:Nat}(h:k<l.length):((l.take k).flatMap dx).length+(l.getD k em).size<=2*Lit.aA l:=by
 have d:=Az (l.take k);have j:=Lit.aI l k h;have b: ∀(l:List Lit) k,Lit.aA (l.take k)<=Lit.aA l:=fun l=>by
  induction l with
  |nil=>intro k;simp
  |cons e r ih=>intro k;cases k with
   |zero=>simp[Lit.aA]
   |succ k=>have:=ih k;simp only[aae,Lit.aA];omega
 have:=b l k;omega
abbrev YH(r:ae)(i:Nat):AF:=[(2,.ptr 0 0),(5,.ptr 4 0),(8,.iv (strs (outer r))),(39,.iv (lits r.body)),(40,pI r.body.length),(41,pI i)]
abbrev YF(r:ae)(b:List aj)(L:GL):AH:=[(0,io (an r.c)),(1,io (ct (aC b))),(2,io (Ui (ofM L))),(3,io (xb [])),(4,io (Vf r))]
theorem hB{n:Nat}{σ:Nat->Nat}{h:AH}{r:ae}{m:NM}{b:List aj}{d:OM}{L:GL}{rest:AH}(h0:h.get (σ 0)=io (an r.c))(h1:h.get (σ 1)=io (ct m))(h2:h.get (σ 2)=io (Ui d))(h3:h.get (σ 3)=io (xb []))
  (j:h.get (σ 4)=io (.cells [.iv (iS r.head.rel),.iv (cW 5 r.head.ad Term.c),.iv (lits r.body),.iv (iI r.at_.line),.iv (iI r.at_.zr),.mp (σ 1),.mp (σ 2),.mp (σ 3)])) (e1:m=aC b) (e2:d=ofM L) (u:(Vf r).low n) (hb:Zb 4 n=kw) (hr:nX n σ h rest):
  nX n σ h ((0,io (an r.c))::(1,io (ct (aC b)))::(2,io (Ui (ofM L)))::(3,io (xb []))::(4,io (Vf r))::rest):=by
 subst e1 e2;have x:4<n:=YP hb;exact⟨⟨_,h0,.of_eq Z⟩,by omega,lY n r.c,⟨_,h1,.of_eq Z⟩,by omega,ac,⟨_,h2,.of_eq Z⟩,by omega,ac,⟨_,h3,.of_eq Z⟩,by omega,ac,⟨_,j,.of_eq Z⟩,x,u,hr⟩
abbrev UY(r:ae)(i:Nat):AF:=[(2,.ptr 0 0),(5,.ptr 4 0),(8,.iv (strs (outer r))),(39,.iv (lits r.body)),(40,pI r.body.length),(41,pI i),(9,pI i),(10,.ptr 5 0),(11,.mp 6)]
abbrev YG(r:ae)(i:Nat)(l:Lit)(k:Nat):AF:=[(2,.ptr 0 0),(5,.ptr 4 0),(8,.iv (strs (outer r))),(39,.iv (lits r.body)),(40,pI r.body.length),(41,pI i),(9,pI i),(10,.ptr 5 0),(11,.mp 6),(61,.iv (lits l.ar)),(62,pI l.ar.length),(63,pI k)]
abbrev UX(r:ae)(i:Nat)(k:Nat):AF:=[(2,.ptr 0 0),(5,.ptr 4 0),(8,.iv (strs (outer r))),(39,.iv (lits r.body)),(40,pI r.body.length),(41,pI i),(9,pI i),(10,.ptr 5 0),(11,.mp 6),(71,.iv (strs (outer r))),(72,pI (outer r).length),(73,pI k)]
abbrev W6(r:ae)(i:Nat)(k n:Nat):AF:=[(2,.ptr 0 0),(5,.ptr 4 0),(8,.iv (strs (outer r))),(39,.iv (lits r.body)),(40,pI r.body.length),(41,pI i),(9,pI i),(10,.ptr 5 0),(11,.mp 6),(71,.iv (strs (outer r))),(72,pI (outer r).length),(73,pI k),(84,.mp 2),(85,pI i),(94,.sl 9 0 n 1)]
abbrev W5(r:ae)(b:List aj)(L:GL)(l:Lit)(occ:List aj)(x:List aj):AH:=[(0,io (an r.c)),(1,io (ct (aC b))),(2,io (Ui (ofM L))),(3,io (xb [])),(4,io (Vf r)),(5,io (an l.c)),(6,io (ct (aC occ))),(9,io (aG 1 x cX))]
abbrev Gp(r:ae)(b:List aj)(L:GL)(l:Lit)(occ:List aj):AH:=[(0,io (an r.c)),(1,io (ct (aC b))),(2,io (Ui (ofM L))),(3,io (xb [])),(4,io (Vf r)),(5,io (an l.c)),(6,io (ct (aC occ)))]
set_option maxHeartbeats 1000000 in
theorem Fy(r:ae)(A:List aj)(hb:r.size<=2000000)(hk:A.length<=1000000000):bV prog 72 [ag r.c,.iv (strs A)] [] (.ptr 0 0) (wH r (zc (H4 r)) A []) 3:=by
 have t0:r.body.length<=2000000:=by have:=Lit.au r.body;unfold ae.size at hb;omega
 have s0:(outer r).length<=2000000:=ZI (An r) hb;refine aB ab func72 Z (by decide) ntmps72 Z (by simp) ?_;refine gA Z ?_;refine az 0 A.length (YZ _) (fun j=>⟨[(2,.ptr 0 0),(5,.ptr 4 0),(22,.iv (strs A)),(23,pI A.length),(24,pI j)],[(0,io (an r.c)),(1,io (ct (aC (A.take j)))),(2,io (Ui (ofM []))),(3,io (xb [])),(4,io (Vf r))],5⟩) (fun _=>True) [] ac ?_ fun j hj _=>?_
 .exact zW (zK (Jg Z (fun _=> .v _) Z (Jg Z (fun _=> .v _) Z (Jg Z (fun _=> .v _) Z (zO ac)))))
 refine zJ Z Z (fun G=>?_) fun G=>?_
 .have G:=ci G;have j0:=bB (A.take j) (A.getD j em);have o0:=eY (A.take j) (A.getD j em);simp only[ZJ]at o0;refine gA Z ⟨G,ac,[],zW (hB Z Z Z Z Z (by rw[bz G,cR];rfl) Z Z Z ac)⟩
 have G:=co G;have e0:A.take j=A:=Y1 G;rw[e0];refine gA Z (zp (UQ r (by omega)) ?_);refine gM 2 Z (Hy ?_);refine aJ (aJ (fQ ⟨YH r 0,YF r A [],5⟩ ?_ ?_))
 .refine gA Z (fH [] ?_);exact zW (hB Z Z Z Z Z Z Z Z Z ac)
 refine bS (jZ 0 r.body.length (YZ _) (fun i (x:ULift.{1} GL)=>⟨YH r i,YF r A x.down,5⟩)
  (fun i x Y=>Y=eQ fR x.down∧Ra x.down∧ou x.down=QU r i∧ ∀y∈x.down,y.2.2.2.2.length<=i*(outer r).length) ⟨[]⟩ [] ⟨rfl,⟨ZT,fun y hy=>(nomatch hy)⟩,rfl,fun y hy=>(nomatch hy)⟩
  (zW (hB Z Z Z Z Z Z Z Z Z ac)) (fun _ _ _ h=>h.1▸cM fR _) fun i x Y hi hJ=>?_)
 obtain⟨rfl,d0,b0,i0⟩:=hJ;obtain⟨L⟩:=x;have d0:Ra L:=d0;have b0:ou L=QU r i:=b0;have i0: ∀y∈L,y.2.2.2.2.length<=i*(outer r).length:=i0;refine aJ (bZ ?_);refine gA Z ?_;refine aJ (dB Z (fun G=>dP ?_) (fun G=>gC ?_));rotate_left
 .have G:=co G;have k0:i=r.body.length:=by omega
  subst k0;change GX _ _ [.code _] _ _ _;refine Ek (BA (i:=2) (o':= .map (.int .i64) strs [] (.slice jp 0 0) dvL (ou L)) Z (Vn d0)) fun t Y I=>?_;obtain⟨rfl,rfl⟩:=I;rw[b0];refine bZ ?_;refine w8 2 Z ?_;refine gA Z (zD [4,1,3] Z (zW (zH ac)))
 have G:=ci G;have c0:=E0 r i;refine aJ (bS ?_);refine yk 2 ⟨YH r i++ [(9,pI i),(10,.ptr 5 0),(48,pB (li ((r.body.getD i em).kind=4)))],YF r A L++ [(5,io (an (r.body.getD i em).c))],6⟩ Z ?_ ?_
 .refine gA Z (fH [5] ?_);exact zW (hB Z Z Z Z Z Z Z Z Z (zK ac))
 refine dB Z (fun q1=>?_) (fun q1=>dP ?_)
 .have q1:(r.body.getD i em).kind=4:=zT q1;generalize r0:r.body.getD i em=l at*
  have y0:l.size<=10000000:=by rw[<-r0];have:=Lit.aI r.body i G;unfold ae.size at hb;omega
  have x0:=l.size_eq;have v0:i*(outer r).length<=2000000*2000000:=Nat.mul_le_mul (by omega) s0;have p0:=il l.jQ;have g0:=Lit.au l.ar;refine yk 1 ⟨UY r i,Gp r A L l [],7⟩ Z ?_ ?_
  .refine gA Z (fH [6] ?_);exact zW (hB Z Z Z Z Z Z Z Z Z (zK (Jg Z (fun _=> .v _) Z ac)))
  refine yk 1 ⟨UY r i,Gp r A L l (if l.c6=1 then[] else bw l.jQ),7⟩ Z ?_ ?_
  .refine zJ Z Z (fun q2=>?_) fun q2=>?_
   .have q2: ¬l.c6=1:=by simpa using q2
    rw[be q2];refine gA Z (bI [6] (sS _ l.jQ [] (YY _) (by simp only[Z6];omega)) Z Z Z Z Z Z Z Z ?_);refine gA Z (fH [] ?_);exact zW (hB Z Z Z Z Z Z Z Z Z (zK (zC ac)))
   .have q2:l.c6=1:=by simpa using q2
    rw[am q2];refine gA Z (fH [] ?_);exact zW (hB Z Z Z Z Z Z Z Z Z (zK (zC ac)))
  generalize f0:(if l.c6=1 then[] else bw l.jQ)=pre;have w0:pre.length<=l.jQ.size:=by rw[<-f0];split;simp;exact p0
  have k0:ig l=pre++l.ar.flatMap dx:=by unfold ig;rw[f0]
  refine yk 1 ⟨UY r i,Gp r A L l (ig l),7⟩ Z ?_ ?_
  .refine gA Z ?_;refine az 0 l.ar.length (YZ _) (fun k=>⟨YG r i l k,Gp r A L l (pre++(l.ar.take k).flatMap dx),7⟩) (fun _=>True) [] ac
    (zM (bv (bv (bv (bv (bv (bv (bv (bv (bv ⟨.iv (nP _),rfl,bv (bv trivial)⟩))))))))) (hB Z Z Z Z Z Z Z Z Z (zK (hM Z (by simp) Z trivial)))) fun k hk _=>?_
   refine zJ Z Z (fun D=>?_) fun D=>?_
   .have D:=ci D;have hs:=bG (f:=dx) D;have hz:=Lit.aI l.ar k D;refine gA Z (bI [6] (KE (l.ar.getD k em) (pre++(l.ar.take k).flatMap dx) (by have:=I8 l.ar D;rw[YS];omega)) Z Z Z Z Z Z Z Z ?_);refine gA Z ⟨D,ac,[],zW (hB Z Z Z Z Z Z Z Z Z (zK (hM Z (by rw[hs,Y3]) Z ac)))⟩
   .have D:=co D;rw[Y1 D];refine gA Z (fH [] ?_);exact zW (hB Z Z Z Z Z Z Z Z Z (zK (hM Z (by rw[k0]) Z ac)))
  refine aJ (fQ ⟨UX r i 0,Gp r A L l (ig l),7⟩ ?_ ?_)
  .refine gA Z (fH [] ?_);exact zW (hB Z Z Z Z Z Z Z Z Z (zK (zC ac)))
  refine bS (jZ 0 (outer r).length (YZ _) (fun k (x:ULift.{1} GL)=>⟨UX r i k,Gp r A x.down l (ig l),7⟩)
   (fun k x Y=>Y=eQ fR x.down∧Ra x.down∧ou x.down=y5 (QU r i) i (((outer r).take k).filter (aE (ig l)))∧ ∀y∈x.down,y.2.2.2.2.length<=i*(outer r).length+k) ⟨L⟩ [] ⟨rfl,d0,b0,i0⟩
   (zW (hB Z Z Z Z Z Z Z Z Z (zK (zC ac)))) (fun _ _ _ h=>h.1▸cM fR _) fun k x Y hk hJ=>?_)
  obtain⟨rfl,u,F,B⟩:=hJ;obtain⟨J⟩:=x;have u:Ra J:=u;have F:ou J=y5 (QU r i) i (((outer r).take k).filter (aE (ig l))):=F;have B: ∀y∈J,y.2.2.2.2.length<=i*(outer r).length+k:=B;refine aJ (bZ ?_);refine gA Z ?_;refine aJ (dB Z (fun D=>dP ?_) (fun D=>gC ?_));rotate_left
  .change GX _ _ (.aK 3::_) _ _ _;have D:=co D;rw[Y1 D]at F;refine ju (bZ ?_);refine gA Z ⟨G,⟨J⟩,[],⟨rfl,u,by rw[c0,F];unfold Np;rw[am q1],fun z hz=>by have:=B z hz;rw[aaN];omega⟩,zW (hB Z Z Z Z Z Z Z Z Z ac)⟩
  have D:=ci D;have n0:=bz D;refine aJ (bS ?_);refine yk 2 ⟨UX r i k++ [(15,pS ((outer r).getD k em)),(80,pB (aE (ig l) ((outer r).getD k em)))],Gp r A J l (ig l),7⟩ Z ?_ ?_
  .refine gA Z (fH [] ?_);exact zM (bv (bv (bv (bv (bv (bv (bv (bv (bv (bv (bv (bv (bv ⟨.of_eq (by rw[<-uB];rfl),rfl,ac⟩))))))))))))) (hB Z Z Z Z Z Z Z Z Z (zK (zC ac)))
  refine dB Z (fun q4=>?_) (fun q4=>dP ?_);rotate_left
  .refine ju (bZ ?_);refine gA Z ⟨D,⟨J⟩,[],⟨rfl,u,by rw[n0,aa4,List.filter_cons_of_neg (by rw[q4];exact Zx),List.filter_nil,Zv];exact F,fun z hz=>Nat.le_succ_of_le (B z hz)⟩,zW (hB Z Z Z Z Z Z Z Z Z (zK (zC ac)))⟩
  have q0:((outer r).take (k+1)).filter (aE (ig l))=((outer r).take k).filter (aE (ig l))++ [(outer r).getD k em]:=by
   rw[n0,aa4,List.filter_cons_of_pos q4];rfl
  have m0:=Lc (L:=J) i ((outer r).getD k em);rw[F,<-JJ,<-q0]at m0;refine LS cz Z Z Z ?_;refine dR 12 Z ?_;refine dO Z Z Z Z Z Z ?_;rcases m0 with⟨_,j0,hnew⟩|⟨t,y,hy,j0,hnew⟩
  .refine qK (Su (d:=91) (p:= .iv (.v (.slice jp 0 0))) (.of_eq (show PV.iv (.v (TE (bU (.int .i64) (ofM J) (i:Int) jp)))=_ by rw[j0];rfl))) fun t Y I=>?_
   obtain⟨rfl,rfl⟩:=I;refine dO Z Z Z Z Z Z ?_;refine qK (Ss (t:=⟨W6 r i k 1,W5 r A J l (ig l) [(outer r).getD k em],10⟩) (L:=[]) (zW (hB Z Z Z Z Z Z Z Z Z (zK (zC (zS ac)))))) fun t Y I=>?_;obtain⟨rfl,rfl⟩:=I;refine qK (re (i:=9) (d:=94) (cM fR J) Z Z (Dr _) Z (by simp)) fun t Y I=>?_;obtain⟨b,e,a0,g0,g1,g2,g3,rfl,rfl⟩:=I;refine dO Z Z Z Z Z Z ?_;refine HR ?_;refine ju (bZ ?_);refine gA Z ?_;have S:=tX fR g0;obtain⟨p1,p2⟩:=hnew b e a0
   exact⟨D,⟨J++ [(b,e,(i:Int),a0,[(outer r).getD k em])]⟩,[],⟨sR fR (y:=(b,e,(i:Int),a0,[(outer r).getD k em])) u.nd S,PW u S ⟨by simp,by simpa using g1,g2,g3⟩,p2,fun z hz=>by
    rcases Y6.1 hz with hz|hz
    .have:=B z hz;omega
    .rw[Y4]at hz;subst hz;show 1<=_;omega⟩,zW (hB Z Z Z Z Z Z p1 Z Z (zK (zC ac)))⟩
  .obtain⟨k1,k2,k3,k4⟩:=u.ok y (Zm hy);have k5:=B y (Zm hy);refine qK (kn (d:=91) (sz:=1) (dc fR u.nd hy) (show PV.iv (.v (TE (bU (.int .i64) (ofM J) (i:Int) jp)))=_ by rw[j0];rfl) (aaY.2 k1) k2 k3 k4) fun t Y I=>?_;obtain⟨rfl,rfl⟩:=I;refine qK (Su (d:=91) (p:= .sl 8 0 (y.2.2.2.2.map fun x=>(cX x).map PV.iv).length 1) (aL.row (by simp))) fun t Y I=>?_;obtain⟨rfl,rfl⟩:=I;refine dO Z Z Z Z Z Z ?_ ⟨?_,?_⟩;rotate_left
   .exact⟨rfl,by simp,rfl,by simp;omega,by simp;omega⟩
   .repeat' (first|exact ac|exact rfl|exact aL.refl _|apply ZC)
   refine qK (Ss (t:=⟨W6 r i k (y.2.2.2.2.length+1),W5 r A J l (ig l) (y.2.2.2.2++ [(outer r).getD k em]),10⟩) (L:=[]) (zM (bv (bv (bv (bv (bv (bv (bv (bv (bv (bv (bv (bv (bv (bv ⟨.row (by simp),rfl,ac⟩)))))))))))))) (hB Z Z Z Z Z Z Z Z Z (zK (zC (hR Z (by simp;rfl) Z ac)))))) fun t Y I=>?_;obtain⟨rfl,rfl⟩:=I;refine qK (Iq y.1) fun t Y I=>?_;obtain⟨rfl,rfl⟩:=I;refine qK (re (i:=9) (d:=94) Ft Z KN (Dr _) Z (by simp)) fun t Y I=>?_;obtain⟨b,e,a0,g0,g1,g2,g3,rfl,rfl⟩:=I;refine dO Z Z Z Z Z Z ?_;refine HR ?_;refine ju (bZ ?_);refine gA Z ?_;have S:=Jt g0;obtain⟨p1,p2⟩:=hnew b e a0
   exact⟨D,⟨J.set t (b,e,(i:Int),a0,y.2.2.2.2++ [(outer r).getD k em])⟩,[],⟨Iz fR (y':=(b,e,(i:Int),a0,y.2.2.2.2++ [(outer r).getD k em])) u.nd hy S,Ue u hy S ⟨by simp,by simpa using g1,g2,g3⟩,p2,fun z hz=>by
    rcases abr hz with hz|rfl
    .have:=B z hz;omega
    .simp;omega⟩,zW (hB Z Z Z Z Z Z p1 Z Z (zK (zC ac)))⟩
 .refine ju (bZ ?_);refine gA Z ⟨G,⟨L⟩,[],⟨rfl,d0,by rw[c0];unfold Np;rw[be (zF q1)];exact b0,fun z hz=>by have:=i0 z hz;rw[aaN];omega⟩,zW (hB Z Z Z Z Z Z Z Z Z ac)⟩
def ej(p:Prog)(n:Int):Int:=if n<1∨n>p.rules.length then 1 else if(dT p).1≠0 then 4 else 0
theorem va{p:Prog}{n:Int}(h:ej p n=0):1<=n∧n<=p.rules.length∧(dT p).1=0:=by
 unfold ej at h;split at h
 .cases h
 .rename_i d;split at h
  .cases h
  .rename_i b;exact⟨by omega,by omega,abB.1 b⟩
theorem KD(p:Prog)(n:Int)(hb:p.fit)(hs:p.size<=10000000):Pure prog 69 [ag p.c,pI n] (pI (ej p n)):=by
 have d:p.rules.length<=1000000000:=hb.2.1;refine ah ab func69 Z (by decide) ntmps69 Z (by simp) Z ?_;refine zE Z Z (fun g1=>?_) fun g1=>?_
 .have g1:n<1:=zT g1;rw[show ej p n=1 by unfold ej;rw[am (.inl g1)]];exact zU Z
 have g1: ¬n<1:=zF g1;refine zJ Z Z (fun g2=>?_) fun g2=>?_
 .have g2:n>p.rules.length:=zT g2;rw[show ej p n=1 by unfold ej;rw[am (.inr g2)]];exact zU Z
 have g2: ¬n>p.rules.length:=zF g2;have b:ej p n=if(dT p).1≠0 then 4 else 0:=by unfold ej;rw[be (fun g=>g.elim g1 g2)]
 refine gA Z (zp (Po p hb hs) ?_);refine zJ Z Z (fun k1=>?_) fun k1=>?_
 .have k1:(dT p).1≠0:=by
   have k1:(!li ((dT p).1=0))=kw:=k1;simpa using k1
  rw[b,am k1];exact zU Z
 .have k1: ¬(dT p).1≠0:=by
   have k1:(!li ((dT p).1=0))=lc:=k1;simpa using k1
  rw[b,be k1];exact zU Z
def Us(r:ae)(l:List aj)(i:Nat):Bool:=aE (outer r) (l.getD i em)&&!aE (l.take i) (l.getD i em)
def pt(r:ae)(l:List aj):Bool:=(Zg l.length).all (Us r l)
theorem Gz{r:ae}{l:List aj}{i:Nat}(hi:i<l.length)(h:Us r l i=lc):pt r l=lc:=
 aaE.2 ⟨i,ZY.2 hi,by rw[h];exact Zx⟩
theorem JW{r:ae}{l:List aj}(h: ∀i,i<l.length->Us r l i=kw):pt r l=kw:=
 Zj.2 fun i b=>h i (ZY.1 b)
abbrev bO(p:Prog)(n:Int):ae:=p.rules.getD (n-1).toNat em
abbrev DE(x:po×Int):PV:= .bM [ag x.1.c,pI x.2]
theorem zP(e:Int):aL (.bM [.agg [pI 0,pI 0,.iv (.v (.slice jp 0 0)),.iv (.v (.slice jp 0 0))],pI e]) (DE (po.z,e)):= .bM ⟨.agg ⟨.refl _,.refl _,.nil _ _,.nil _ _,ac⟩,.refl _,ac⟩
def eA(r:ae)(fstv:Int):Prop:=fstv< -1∨fstv>=r.body.length∨(0<=fstv∧(r.body.getD fstv.toNat em).kind≠1)
instance (r:ae)(fstv:Int):Decidable (eA r fstv):=inferInstanceAs (Decidable (_∨_))
def pW(r:ae)(fstv:Int)(k:List aj):List dz:=fp r fstv r.body.length (fun _=>lc) (aE k)
def jb(p:Prog)(n fstv:Int):po×Int:=if ej p n≠0 then(po.z,ej p n) else if eA (bO p n) fstv then(po.z,90) else(⟨n,fstv,[],pW (bO p n) fstv []⟩,0)
def qx(p:Prog)(n:Int)(l:List aj):po×Int:=if ej p n≠0 then(po.z,ej p n) else if pt (bO p n) l=lc then(po.z,90) else(⟨n, -1,l,pW (bO p n) (-1) l⟩,0)
def tn(p:Prog)(n:Int):po×Int:=if ej p n≠0 then(po.z,ej p n) else qx p n (bj (bO p n).head)
theorem BJ{p:Prog}{n:Int}(h:ej p n=0):bO p n∈p.rules:=cS (by have:=va h;omega)
theorem GG{α:Type}(f:α->Nat): ∀{l:List α} {x:α},x∈l->f x<=(l.map f).sum
 |y::l,x,h=>by
  rw[Zd,aaF];rcases Za.1 h with rfl|h
  .omega
  .have:=GG f h;omega
theorem oe{p:Prog}{n:Int}(h:ej p n=0):(bO p n).size<=p.size:=by
 have:=GG ae.size (BJ h);unfold Prog.size;omega
theorem GU(r:ae)(fstv:Int)(hf:fstv<r.body.length)(hb:r.size<=2000000):Pure prog 70 [ag r.c,pI fstv,.iv (.v (.slice jp 0 0))] (.iv (cW 4 (pW r fstv []) dz.c)):=
 (Pb r fstv [] hf hb (by simp)).le ⟨.refl _,.refl _,.nil _ _,ac⟩
set_option maxHeartbeats 1000000 in
theorem TR(p:Prog)(n fstv:Int)(hb:p.fit)(hs:p.size<=2000000):Pure prog 35 [ag p.c,pI n,pI fstv] (DE (jb p n fstv)):=by
 have A:p.rules.length<=1000000000:=hb.2.1;refine ah ab func35 Z (by decide) ntmps35 Z (by simp) Z ?_;refine gA Z (zp (KD p n hb (by omega)) ?_);refine zJ Z Z (fun k1=>?_) fun k1=>?_
 .have k1:ej p n≠0:=by
   have k1:(!li (ej p n=0))=kw:=k1;simpa using k1
  rw[show jb p n fstv=(po.z,ej p n) by unfold jb;rw[am k1]];refine gA Z (zL ?_);exact zP _
 have k1:ej p n=0:=zY k1;have y:=va k1;have d:=oe k1;have B:(n-1).toNat<p.rules.length:=by omega
 have u:(bO p n).body.length<=2000000:=by have:=Lit.au (bO p n).body;unfold ae.size at d;omega
 have j:jb p n fstv=if eA (bO p n) fstv then(po.z,90) else(⟨n,fstv,[],pW (bO p n) fstv []⟩,0):=by unfold jb;rw[be (by simpa using k1)]
 have bad:eA (bO p n) fstv->jb p n fstv=(po.z,90):=fun h=>by rw[j,am h]
 have b: ¬eA (bO p n) fstv->jb p n fstv=(⟨n,fstv,[],pW (bO p n) fstv []⟩,0):=fun h=>by rw[j,be h]
 refine zE Z Z (fun g1=>?_) fun g1=>?_
 .have g1:fstv< -1:=zT g1;rw[bad (.inl g1)];refine gA Z (zL ?_);exact zP _
 have g1: ¬fstv< -1:=zF g1;refine zE Z Z (fun g2=>?_) fun g2=>?_
 .have g2:fstv>=(bO p n).body.length:=zT g2;rw[bad (.inr (.inl g2))];refine gA Z (zL ?_);exact zP _
 have g2: ¬fstv>=(bO p n).body.length:=zF g2;refine zJ Z Z (fun g3=>?_) fun g3=>?_
 .have g3:fstv>=0:=zT g3;have x:fstv.toNat<(p.rules.getD (n-1).toNat em).body.length:=by show _<(bO p n).body.length;omega
  refine zJ Z Z (fun g4=>?_) fun g4=>?_
  .have g4:((bO p n).body.getD fstv.toNat em).kind≠1:=by
    have g4:(!li (((bO p n).body.getD fstv.toNat em).kind=1))=kw:=g4;simpa using g4
   rw[bad (.inr (.inr ⟨g3,g4⟩))];refine gA Z (zL ?_);exact zP _
  .have g4: ¬((bO p n).body.getD fstv.toNat em).kind≠1:=by
    have g4:(!li (((bO p n).body.getD fstv.toNat em).kind=1))=lc:=g4;simpa using g4
   rw[b (fun h=>h.elim g1 fun h=>h.elim g2 fun h=>g4 h.2)];refine gA Z (zp (GU (bO p n) fstv (by omega) (by omega)) ?_);refine gA Z (zL ?_);exact .bM ⟨.agg ⟨.refl _,.refl _,.nil _ _,.refl _,ac⟩,.refl _,ac⟩
 .have g3: ¬fstv>=0:=zF g3;rw[b (fun h=>h.elim g1 fun h=>h.elim g2 fun h=>g3 h.1)];refine gA Z (zp (GU (bO p n) fstv (by omega) (by omega)) ?_);refine gA Z (zL ?_);exact .bM ⟨.agg ⟨.refl _,.refl _,.nil _ _,.refl _,ac⟩,.refl _,ac⟩
def ae.z0:ae:=⟨⟨YW,[]⟩,[],⟨0,0⟩⟩
def kG(p:Prog)(n:Int):ae:=if ej p n=0 then bO p n else ae.z0
theorem zR(e:Int):aL (.bM [.agg [pS YW,.iv (.v (.slice jp 0 0)),.iv (.v (.slice jp 0 0)),pI 0,pI 0],pI e]) (.bM [ag ae.z0.c,pI e]):= .bM ⟨.agg ⟨.refl _,.nil _ _,.nil _ _,.refl _,.refl _,ac⟩,.refl _,ac⟩
theorem BI(p:Prog)(n:Int)(hb:p.fit)(hs:p.size<=10000000):Pure prog 71 [ag p.c,pI n] (.bM [ag (kG p n).c,pI (ej p n)]):=by
 have d:p.rules.length<=1000000000:=hb.2.1;refine ah ab func71 Z (by decide) ntmps71 Z (by simp) Z ?_;refine zE Z Z (fun g1=>?_) fun g1=>?_
 .have g1:n<1:=zT g1;have h:ej p n=1:=by unfold ej;rw[am (.inl g1)]
  rw[show kG p n=ae.z0 by unfold kG;rw[be (by rw[h];decide)],h];refine gA Z (zL ?_);exact zR _
 have g1: ¬n<1:=zF g1;refine zJ Z Z (fun g2=>?_) fun g2=>?_
 .have g2:n>p.rules.length:=zT g2;have h:ej p n=1:=by unfold ej;rw[am (.inr g2)]
  rw[show kG p n=ae.z0 by unfold kG;rw[be (by rw[h];decide)],h];refine gA Z (zL ?_);exact zR _
 have g2: ¬n>p.rules.length:=zF g2;have b:ej p n=if(dT p).1≠0 then 4 else 0:=by unfold ej;rw[be (fun g=>g.elim g1 g2)]
 refine gA Z (zp (TX Kp p hb hs) ?_);refine zJ Z Z (fun k1=>?_) fun k1=>?_
 .have k1:(dT p).1≠0:=by
   have k1:(!li ((dT p).1=0))=kw:=k1;simpa using k1
  rw[am k1]at b;rw[show kG p n=ae.z0 by unfold kG;rw[be (by rw[b];decide)],b];refine gA Z (zL ?_);exact zR _
 .have k1: ¬(dT p).1≠0:=by
   have k1:(!li ((dT p).1=0))=lc:=k1;simpa using k1
  rw[be k1]at b;rw[show kG p n=bO p n by unfold kG;rw[am b],b];refine gA Z (zL ?_);exact .refl _
theorem G0(r:ae)(hb:r.size<=2000000):bV prog 72 [ag r.c,.iv (.v (.slice jp 0 0))] [] (.ptr 0 0) (wH r (zc (H4 r)) [] []) 3:=
 (Fy r [] hb (by simp)).le ⟨.refl _,.nil _ _,ac⟩
def Xg:Prop:= ∀(p:Prog) (r:ae),(dT p).1=0->r∈p.rules->r.size<=2000000->Bq r (H4 r)
set_option maxHeartbeats 1000000 in
theorem KG(B:Xg)(p:Prog)(n fstv:Int)(hb:p.fit)(hs:p.size<=2000000):Pure prog 36 [ag p.c,pI n,pI fstv] (DE (jb p n fstv)):=by
 have J:p.rules.length<=1000000000:=hb.2.1;refine ah ab func36 Z (by decide) ntmps36 Z (by simp) Z ?_;refine gA Z (zp (BI p n hb (by omega)) ?_);refine zJ Z Z (fun k1=>?_) fun k1=>?_
 .have k1:ej p n≠0:=by
   have k1:(!li (ej p n=0))=kw:=k1;simpa using k1
  rw[show jb p n fstv=(po.z,ej p n) by unfold jb;rw[am k1]];refine gA Z (zL ?_);exact zP _
 have k1:ej p n=0:=zY k1;have j:=va k1;have x:=oe k1;have S:(n-1).toNat<p.rules.length:=by omega
 have D:(bO p n).body.length<=2000000:=by have:=Lit.au (bO p n).body;unfold ae.size at x;omega
 have A:jb p n fstv=if eA (bO p n) fstv then(po.z,90) else(⟨n,fstv,[],pW (bO p n) fstv []⟩,0):=by unfold jb;rw[be (by simpa using k1)]
 have bad:eA (bO p n) fstv->jb p n fstv=(po.z,90):=fun h=>by rw[A,am h]
 have b: ¬eA (bO p n) fstv->jb p n fstv=(⟨n,fstv,[],pW (bO p n) fstv []⟩,0):=fun h=>by rw[A,be h]
 have y:=B p (bO p n) j.2.2 (BJ k1) (by omega);have u:kG p n=bO p n:=by unfold kG;rw[am k1]
 rw[u];generalize bO p n=r at*
 refine zE Z Z (fun g1=>?_) fun g1=>?_
 .have g1:fstv< -1:=zT g1;rw[bad (.inl g1)];refine gA Z (zL ?_);exact zP _
 have g1: ¬fstv< -1:=zF g1;refine zE Z Z (fun g2=>?_) fun g2=>?_
 .have g2:fstv>=r.body.length:=zT g2;rw[bad (.inr (.inl g2))];refine gA Z (zL ?_);exact zP _
 have g2: ¬fstv>=r.body.length:=zF g2;have a0: ¬eA r fstv->Cu r fstv:=fun h=>by
  by_cases F:fstv= -1
  .exact .inl F
  .refine .inr ⟨fstv.toNat,by unfold eA at h;omega,by unfold eA at h;omega,?_⟩;exact abB.1 fun I=>h (.inr (.inr ⟨by unfold eA at h;omega,I⟩))
 refine zJ Z Z (fun g3=>?_) fun g3=>?_
 .have g3:fstv>=0:=zT g3;have G:fstv.toNat<r.body.length:=by omega
  refine zJ Z Z (fun g4=>?_) fun g4=>?_
  .have g4:(r.body.getD fstv.toNat em).kind≠1:=by
    have g4:(!li ((r.body.getD fstv.toNat em).kind=1))=kw:=g4;simpa using g4
   rw[bad (.inr (.inr ⟨g3,g4⟩))];refine gA Z (zL ?_);exact zP _
  .have g4: ¬(r.body.getD fstv.toNat em).kind≠1:=by
    have g4:(!li ((r.body.getD fstv.toNat em).kind=1))=lc:=g4;simpa using g4
   have d: ¬eA r fstv:=fun h=>h.elim g1 fun h=>h.elim g2 fun h=>g4 h.2;rw[b d];refine gA Z (bI [] (G0 r (by omega)) Z Z Z Z Z Z Z Z ?_);refine gA Z (bI [3,4,5] (BG r (H4 r) [] fstv y (a0 d) (by omega) (by omega) (by simp)) Z Z Z Z Z Z Z Z ?_);refine gA Z (zL ?_);exact .bM ⟨.agg ⟨.refl _,.refl _,.nil _ _,.refl _,ac⟩,.refl _,ac⟩
 .have g3: ¬fstv>=0:=zF g3;have d: ¬eA r fstv:=fun h=>h.elim g1 fun h=>h.elim g2 fun h=>g3 h.1;rw[b d];refine gA Z (bI [] (G0 r (by omega)) Z Z Z Z Z Z Z Z ?_);refine gA Z (bI [3,4,5] (BG r (H4 r) [] fstv y (a0 d) (by omega) (by omega) (by simp)) Z Z Z Z Z Z Z Z ?_);refine gA Z (zL ?_);exact .bM ⟨.agg ⟨.refl _,.refl _,.nil _ _,.refl _,ac⟩,.refl _,ac⟩
end Go.Proofs.YtflegjieadkonaaGreatDoor
namespace Go.Proofs.YtflegjieadkonaaGreatDoor
open Go Go.Al
theorem EB{α β:Type}{f g:α->List β}: ∀{l:List α},(∀x∈l,f x=g x)->l.flatMap f=l.flatMap g
 | [],_=>rfl
 |x::l,h=>by
  rw[ZF,ZF,h x Y8,EB fun y b=>h y (Y7 _ b)]
theorem OU{α:Type}[Inhabited α]{l:List α}(h:l.length=2):l=[l.getD 0 em,l.getD 1 em]:=by
 match l,h with
 | [a,b],_=>rfl
theorem PU{α:Type}[Inhabited α]{l:List α}(h:l.length=1):l=[l.getD 0 em]:=by
 match l,h with
 | [a],_=>rfl
theorem oy: ∀(n:Nat) (e:Expr),(bP n e).2=lc->bw e=bC e:=by
 intro n
 induction n using abx with
 |ind n ih=>
  intro e h;rw[tv,yy];have u: ∀(b:Bool) (k:nW),(gB e b k).2=lc->((e.kind=1∨e.kind=2)∧e.args=[])∨(e.kind=4∧k.2=lc):=fun b k hh=>by
   unfold gB at hh;split at hh
   .rename_i hk;refine .inl ⟨hk,?_⟩;unfold yd at hh;simp only[Zq,decide_eq_false_iff_not]at hh;exact ZN (by omega)
   .split at hh
    .cases hh
    .rename_i d;exact .inr ⟨abB.1 fun g=>d (.inl g),hh⟩
  have x:(e.kind=1∨e.kind=2)∧e.args=[]->((if e.kind=1 then[e.var] else[])++e.args.flatMap bw)=if e.kind=1 then[e.var] else if e.kind=4 then e.args.flatMap bC else[]:=by
   rintro⟨hk,ha⟩;rw[ha];rcases hk with hk|hk
   .rw[am hk,am hk];rfl
   .rw[be (by omega),be (by omega),be (by omega)];rfl
  match n,h with
  |0,h=>
   rcases u _ _ h with y|⟨_,d⟩
   .exact x y
   .cases d
  |1,h=>
   rcases u _ _ h with y|⟨_,d⟩
   .exact x y
   .cases d
  |m+2,h=>
   rw[vE]at h;rcases u _ _ h with y|⟨F,d⟩
   .exact x y
   .rw[be (by omega),be (by omega),am F,aaw];have j: ∀b a,(j8 m b a).2=lc->bw a=bC a:=fun b a hh=>by
     unfold j8 at hh;split at hh
     .simp only[Zq]at hh;exact ih m (by omega) a hh.1
     .exact ih (m+1) (by omega) a hh
    unfold np at d;split at d
    .split at d
     .rename_i B;have A:=j _ _ d;rw[PU B];simp only[ZF,abE];rw[show bw (e.args.getD 0 em)=bC (e.args.getD 0 em) from A]
     .cases d
    .split at d
     .rename_i B;simp only[Zq]at d;have A:=j _ _ d.1;have D:=j _ _ d.2;rw[OU B];simp only[ZF,abE];rw[show bw (e.args.getD 0 em)=bC (e.args.getD 0 em) from A,show bw (e.args.getD 1 em)=bC (e.args.getD 1 em) from D]
     .cases d
theorem rC{e:Expr}(h:cV e=kw):bw e=[]:=by
 unfold cV at h;simp only[Zf,decide_eq_true_eq]at h;obtain⟨b,_,_,_,d⟩:=h;rw[tv,be (by omega),ZN (l:=e.args) (by omega)];rfl
theorem Bg{a:Atom}(h:eR a=kw):cI a=[]:=by
 unfold eR at h;simp only[Zf,decide_eq_true_eq]at h;have:a.ad=[]:=ZN (by omega);unfold cI;rw[this];rfl
theorem D8: ∀(n:Nat) (br:Int) (l:Lit),(ew n br l).2=lc->dx l=cf l∧(l.kind=4->ig l=bb l.agg)∧(l.kind=3->bw l.left=bC l.left∧bw l.right=bC l.right)
 |0,_,_,h=>by cases h
 |n+1,br,l,h=>by
  rw[ew]at h;unfold jJ at h;unfold dx cf;split at h
  .rename_i F;simp only[Zq,aaJ]at h;have d:=h.2.1;unfold gW at d;simp only[Zf]at d;refine⟨by rw[am F,rC d.1,rC d.2.1];simp,fun g=>by omega,fun g=>by omega⟩
  .rename_i F;rw[be F];split at h
   .rename_i A;simp only[Zq,aaJ]at h;refine⟨by rw[am A,Bg h.2.2.1,oy _ _ h.1,oy _ _ h.2.1];rfl,fun g=>by omega,fun _=>⟨oy _ _ h.1,oy _ _ h.2.1⟩⟩
   .rename_i A;split at h
    .rename_i J;simp only[Zq,aaJ]at h;have d:=h.2.2;unfold gW at d;simp only[Zf]at d;refine⟨by rw[be A,Bg h.2.1,rC d.1,rC d.2.1];rfl,fun _=>?_,fun g=>absurd g A⟩;have j:=h.1;unfold oG at j;split at j
     .cases j
     .simp only[Zq]at j;unfold ig bb;congr 1
      .show(if l.c6=1 then[] else bw l.jQ)=if l.c6=1 then[] else bC l.jQ;by_cases u:l.c6=1
       .rw[am u,am u]
       .rw[be u,be u];have D:=j.1;unfold Hf at D;rw[be (show¬l.agg.func=1 from u)]at D;simp only[Zq]at D;exact oy _ _ D.2
      .refine EB fun x I=>?_
       have hb: ∀i,i<=l.ar.length->(b5 (ew n (br-1)) l.ar i).2=lc:=by
        have G: ∀k i,i+k=l.ar.length->(b5 (ew n (br-1)) l.ar i).2=lc:=by
         intro k
         induction k with
         |zero=>intro i B;rw[show i=l.ar.length by omega];exact j.2
         |succ k ih=>
          intro i B;have b:=ih (i+1) (by omega);rw[b5]at b;split at b
          .cases b
          .rename_i y;simpa using y
        exact fun i B=>G (l.ar.length-i) i (by omega)
       obtain⟨i,B,rfl⟩:=Z0.1 I;have b:=hb (i+1) (by omega);rw[b5]at b;split at b
       .cases b
       .split at b
        .cases b
        .rename_i y;rw[aam,YR,YU B]at y;exact(D8 n (br-1) _ y).1
    .cases h
theorem uJ{K:aj->Bool}{a b:List aj}(h: ∀x,x∈a↔x∈b):a.all K=b.all K:=by
 rw[ZE,Zj,Zj];exact⟨fun g x d=>g x ((h x).2 d),fun g x d=>g x ((h x).1 d)⟩
theorem HQ:Xg:=by
 intro p r h hr hb;have h0:=(MI h).1;have Y:=(yD p).1 h0;unfold jj at Y;have h2:=(xD p _).1 (abf.1 Y).2;obtain⟨j,hj,rfl⟩:=Z0.1 hr;have S:=h2 j hj;have h4:(pC p p.rules[j] ((j:Int)+1)).1=0:=by
  rw[p4,YR,YU hj]at S;exact S
 generalize p.rules[j]=r at*
 have b: ∀i,i<r.body.length->dx (r.body.getD i em)=cf (r.body.getD i em)∧((r.body.getD i em).kind=4->ig (r.body.getD i em)=bb (r.body.getD i em).agg)∧((r.body.getD i em).kind=3->bw (r.body.getD i em).left=bC (r.body.getD i em).left∧bw (r.body.getD i em).right=bC (r.body.getD i em).right):=fun i y=>by
  have u:=II h4 _ (cS y);unfold iP at u;rw[B4 _ _ _ (YY _),Zq]at u;exact D8 _ _ _ u.2
 refine⟨fun K i y=>?_,fun i y hk x=>?_,fun i=>ZI (QS r i) (by omega)⟩
 .obtain⟨f1,f2,f3⟩:=b i y;have F:=UW r y;unfold iu;generalize r.body.getD i em=l at*
  unfold lz uF;by_cases k1:l.kind=1
  .rw[am k1,am k1]
  rw[be k1,be k1];by_cases D:l.kind=2
  .rw[am D,am D];unfold uS;have:(dx l).all K=(bj l.atom).all K:=uJ fun x=>by
    rw[f1,fP];unfold cf;rw[am (.inr D)]
   rw[this]
  rw[be D,be D];have d:cf l=if l.kind=3 then bC l.left++bC l.right else[]:=by unfold cf;rw[be (by omega)]
  by_cases A:l.kind=3
  .rw[am A,am A];rw[am A]at d;obtain⟨e1,e2⟩:=f3 A;have a1:(dx l).all K=((aH l.left).all K&&(aH l.right).all K):=by
    rw[f1,d,List.all_append,uJ fun x=>(di (x:=x) (e:=l.left)).symm,uJ fun x=>(di (x:=x) (e:=l.right)).symm]
   have a2:fF K l.left l.right=fE K l.left l.right:=by
    unfold fF fE;rw[e2,uJ fun x=>(di (x:=x) (e:=l.right)).symm,ab4]
   have a3:fF K l.right l.left=fE K l.right l.left:=by
    unfold fF fE;rw[e1,uJ fun x=>(di (x:=x) (e:=l.left)).symm,ab4]
   unfold yC vH;rw[a1,a2,a3]
  rw[be A,be A];by_cases B:l.kind=4
  .rw[am B,am B,F];unfold Bo Gs;have:(Np r l).all K=(aF l.agg).all fun v=>!aE (outer r) v||K v:=by
    unfold Np;rw[am B,f2 B,ZE,Zj,Zj];constructor
    .intro g x G;cases ho:aE (outer r) x with
     |false=>rfl
     |true=>
      show K x=kw;exact g x (Zw.2 ⟨aM.1 ho,aM.2 (fu.1 G)⟩)
    .intro g x G;obtain⟨I,J⟩:=Zw.1 G;have:=g x (fu.2 (aM.1 J));rw[aM.2 I]at this;exact this
   rw[this]
  .rw[be B,be B]
 .obtain⟨f1,_⟩:=b i y;rw[f1];refine rA (fun x=>?_) x;rw[fP];unfold cf;rw[am (.inl hk)]
end Go.Proofs.YtflegjieadkonaaGreatDoor
namespace Go.Proofs.YtflegjieadkonaaGreatDoor
open Go Go.Al Go.Proofs.Tryz
theorem IM{α:Type}[Inhabited α](l:List α)(f:α->List IV):((Zg l.length).map fun k=>(f (l.getD k em)).map PV.iv)=l.map fun x=>(f x).map PV.iv:=by
 refine List.ext_getElem (by simp) fun i d b=>?_;simp only[Zo]at b;simp[YU b]
theorem Pn(l:List aj)(hb:l.length<=1000000000):Pure prog 79 [.iv (strs l)] (.iv (strs l)):=by
 refine ah ab func79 Z (by decide) ntmps79 Z (by simp) Z ?_;refine nS Z ac (L7 Z Z Z Z underlying53 Z fun b j=>?_);refine zJ Z Z (fun k1=>?_) fun k1=>?_
 .have d:l=[]:=ZN (j k1);subst d;refine gA Z (zL ?_);exact .nil _ _
 refine nS Z ac (Qp ab Z Z Z Z Z Z Z fun x=>?_);by_cases d:l=[]
 .subst d;refine nS Z ac (Mg ab Z Z Z Z Z Z Z Z (el2:=fun k=>cX (([]:List aj).getD k em)) Z ?_);refine gA Z (zL ?_);exact .refl _
 .have u:0<l.length:=aaY.2 d;refine nS Z ac (Qq ab Z Z Z Z Z Z Z Z (by decide) Z (GK Z) (by simp;omega) (by show((Zg l.length).map _).length*16<=_;simp;omega) (by simp;omega) Z ?_);refine gA Z (cx (by first|exact .inr Z|exact .inl Z) Z Z ((IM l cX)) ((by simp)))
theorem GY(r:ae)(l:List aj)(hb:r.size<=10000000)(I:l.length<=1000000000):Pure prog 78 [ag r.c,.iv (strs l)] (pB (pt r l)):=by
 refine ah ab func78 Z (by decide) ntmps78 Z (by simp) Z ?_;refine gA Z (zp (UQ r hb) ?_);refine gA Z ?_;refine az 0 l.length (YZ _) (fun i=>⟨[(5,.iv (strs (outer r))),(6,.mp 1),(12,.iv (strs l)),(13,pI l.length),(14,pI i)],[(1,io (ct (aC (l.take i))))],2⟩) (fun i=> ∀j,j<i->Us r l j=kw) [] (fun j hj=>absurd hj (Z3 j))
  (zW (Jg Z (fun _=> .v _) Z trivial)) fun i G D=>?_
 refine zE Z Z (fun b=>?_) fun b=>?_
 .have b:=co b;rw[JW fun j hj=>D j (by omega)];exact zU Z
 have b:=ci b;have y:=bB (l.take i) (l.getD i em);have B:=eY (l.take i) (l.getD i em);simp only[ZJ]at B;have F:aC (l.take (i+1))=bump (aC (l.take i)) (l.getD i em):=by rw[bz b,cR]
 have A:bU .str (bump (aC (l.take i)) (l.getD i em)) (l.getD i em) 0=(rS (l.take i) (l.getD i em):Int)+1:=by
  unfold bump;rw[kL,am Z,y]
 have x:aE (l.take i) (l.getD i em)=li (bU .str (bump (aC (l.take i)) (l.getD i em)) (l.getD i em) 0>1):=by
  rw[A,cG,y,<-decide_not,decide_eq_decide];omega
 refine zJ Z Z (fun d=>?_) fun d=>?_
 .have d:aE (l.take i) (l.getD i em)=lc:=by rw[x];exact d
  refine gA Z (zp (Ac (outer r) (l.getD i em)) ?_);refine zJ Z Z (fun u=>?_) fun u=>?_
  .have u:aE (outer r) (l.getD i em)=lc:=zA u;rw[Gz b (by unfold Us;rw[u];rfl)];exact zU Z
  .have u:aE (outer r) (l.getD i em)=kw:=zB u;refine gA Z ?_
   exact⟨b,fun j hj=>by
    rcases ZA.1 hj with hj|hj
    .exact D j hj
    .subst hj;unfold Us;rw[d,u];rfl,[],zW (hM Z F.symm Z trivial)⟩
 .have d:aE (l.take i) (l.getD i em)=kw:=by rw[x];exact d
  rw[Gz b (by unfold Us;rw[d,abh,ZV])];exact zU Z
set_option maxHeartbeats 1000000 in
theorem Pl(p:Prog)(n:Int)(l:List aj)(hb:p.fit)(hs:p.size<=2000000)(j:l.length<=1000000000):Pure prog 40 [ag p.c,pI n,.iv (strs l)] (DE (qx p n l)):=by
 have B:p.rules.length<=1000000000:=hb.2.1;refine ah ab func40 Z (by decide) ntmps40 Z (by simp) Z ?_;refine gA Z (zp (BI p n hb (by omega)) ?_);refine zE Z Z (fun k1=>?_) fun k1=>?_
 .have k1:ej p n≠0:=zF k1;rw[show qx p n l=(po.z,ej p n) by unfold qx;rw[am k1]];refine zJ Z Z (fun b=>?_) fun b=>?_
  .refine gA Z (zL ?_);exact zP _
  .exfalso;have b:(!li (ej p n=0))=lc:=b;simp at b;exact k1 b
 have k1:ej p n=0:=zT k1;have u:=va k1;have D:=oe k1;have y:qx p n l=if pt (bO p n) l=lc then(po.z,90) else(⟨n, -1,l,pW (bO p n) (-1) l⟩,0):=by unfold qx;rw[be (by simpa using k1)]
 have A:=HQ p (bO p n) u.2.2 (BJ k1) (by omega);have x:kG p n=bO p n:=by unfold kG;rw[am k1]
 rw[x];generalize bO p n=r at*
 refine gA Z (zp (GY r l (by omega) j) ?_);refine zJ Z Z (fun b=>?_) fun b=>?_
 .have b:pt r l=lc:=zA b;rw[y,am b];refine zJ Z Z (fun d=>?_) fun d=>?_
  .refine gA Z (zL ?_);exact zP _
  .cases d
 have b: ¬pt r l=lc:=by
  have b:(!pt r l)=lc:=b;simpa using b
 rw[y,be b];refine zJ Z Z (fun d=>?_) fun d=>?_
 .exfalso;rw[k1]at d;cases d
 refine gA Z (pP (Pn l j) ?_);refine gA Z (zd [] (Fy r l (by omega) j) ?_);refine gA Z (zd [3,4,5] (BG r (H4 r) l (-1) A (.inl Z) (by omega) (by omega) j) ?_);refine gA Z (zL ?_);exact .refl _
theorem FH(a:Atom):outer ⟨a,[],⟨0,0⟩⟩=bj a:=rfl
set_option maxHeartbeats 1000000 in
theorem TV(p:Prog)(n:Int)(hb:p.fit)(hs:p.size<=2000000):Pure prog 41 [ag p.c,pI n] (DE (tn p n)):=by
 have A:p.rules.length<=1000000000:=hb.2.1;refine ah ab func41 Z (by decide) ntmps41 Z (by simp) Z ?_;refine gA Z (zp (BI p n hb (by omega)) ?_);refine zJ Z Z (fun k1=>?_) fun k1=>?_
 .have k1:ej p n≠0:=by
   have k1:(!li (ej p n=0))=kw:=k1;simpa using k1
  rw[show tn p n=(po.z,ej p n) by unfold tn;rw[am k1]];refine gA Z (zL ?_);exact zP _
 have k1:ej p n=0:=zY k1;have y:=va k1;have d:=oe k1;have b:kG p n=bO p n:=by unfold kG;rw[am k1]
 have j:=dr (bO p n).head;have u:(bO p n).head.ad.length<=2000000:=by unfold ae.size at d;omega
 rw[b,show tn p n=qx p n (bj (bO p n).head) by unfold tn;rw[be (by simpa using k1)]];have x:Pure prog 80 [.agg [.iv (iS (bO p n).head.rel),.iv (cW 5 (bO p n).head.ad Term.c),.iv (.v (.slice jp 0 0)),pI 0,pI 0]] (.iv (strs (bj (bO p n).head))):=by
  have h:=UQ ⟨(bO p n).head,[],⟨0,0⟩⟩ (by unfold ae.size;simp only[Lit.aA];omega);rw[FH]at h;exact h.le ⟨.agg ⟨.refl _,.refl _,.nil _ _,.refl _,.refl _,ac⟩,ac⟩
 refine gA Z (zp (x) ?_);refine gA Z (zp (Pl p n (bj (bO p n).head) hb hs (by omega)) ?_);refine gA Z (zL ?_);exact .refl _
end Go.Proofs.YtflegjieadkonaaGreatDoor
namespace Go.Proofs.YtflegjieadkonaaGreatDoor
open Go Go.Al
theorem xB{α:Type}[Inhabited α]{a b:List α}(x:a.length=b.length)(h: ∀j,j<a.length->a.getD j em=b.getD j em):a=b:=by
 refine List.ext_getElem x fun j d u=>?_;have:=h j d;rwa[YR,YR,YU d,YU u]at this
end Go.Proofs.YtflegjieadkonaaGreatDoor
