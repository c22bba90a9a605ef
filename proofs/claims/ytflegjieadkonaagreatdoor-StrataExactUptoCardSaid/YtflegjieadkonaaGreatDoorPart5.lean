/-
  What the proofs of the claims need: part 5 of 7.
-/
import Derived.Test.YtflegjieadkonaaGreatDoorPart4
open And renaming intro→YW
open Bool renaming and_eq_false_iff→Z8,and_eq_true→YB,and_false→Zv,and_true→aaF,eq_false_iff→Zq,eq_iff_iff→YU,false_and→Zm,false_eq_true→ZH,false_ne_true→aaU,false_or→Zt,not_eq_false'→ZJ,not_eq_true→ZQ,not_eq_true'→Y1,not_false→aaC,or_assoc→abf,or_eq_false_iff→Y6,or_eq_true→Y3,or_false→Z9,or_true→aaA,true_and→Zc,true_or→aaK
open ByteArray renaming empty→Yp,ext→abL,size→aa6,size_append→Zf
open Classical renaming byContradiction→Zu
open Int renaming le_refl→aak,toNat_natCast→YK
open List renaming all_append→aaT,all_eq_false→Z1,all_eq_true→YG,any_cons→abd,any_eq_false→Y5,any_eq_true→Y8,append_assoc→Yu,append_nil→Y0,cons_append→ZO,drop_eq_getElem_cons→aa8,eq_nil_of_length_eq_zero→ZU,ext_getElem?→ZS,filter_append→aaq,filter_cons→ZD,find?_append→aaZ,find?_cons→ZN,find?_eq_none→Zx,find?_eq_some_iff_getElem→aar,findIdx?_eq_none_iff→aaO,findIdx?_eq_some_iff_getElem→aay,flatMap_append→aai,flatMap_cons→Zk,foldl_append→Z7,foldl_cons→YN,getD_cons_succ→ZE,getD_eq_getElem?_getD→Ye,getElem?_append_left→YA,getElem?_append_right→YF,getElem?_cons_succ→aau,getElem?_drop→Zw,getElem?_eq_getElem→Yi,getElem?_eq_none→Z0,getElem?_eq_some_iff→Yj,getElem?_map→Yo,getElem?_range→ZL,getElem?_replicate→aad,getElem?_set→Y4,getElem?_take→Zi,getElem_mem→YZ,length→aaG,length_append→Yg,length_cons→YT,length_eq_zero_iff→ZP,length_filter_le→Ze,length_map→YH,length_set→aac,length_singleton→YY,length_take→YV,map_append→Yk,map_congr_left→ZC,map_cons→Yz,map_map→Z4,map_nil→Y7,map_set→ZV,mem_append→Ys,mem_append_left→YQ,mem_append_right→ZK,mem_cons→Yx,mem_cons_of_mem→Yt,mem_cons_self→Yy,mem_filter→YO,mem_flatMap→ZZ,mem_iff_getElem→ZA,mem_map→YP,mem_of_find?_eq_some→aal,mem_of_getElem?→YL,mem_range→YM,mem_singleton→Yr,mem_singleton_self→aae,mem_take_iff_getElem→aam,nodup_cons→Zo,not_mem_nil→aaL,pairwise_append→aat,pairwise_cons→ZI,range→Yv,range_succ_eq_map→aaE,replicate→ZW,sum_cons→aaa,take_length→Z5,take_of_length_le→Yn,take_succ_cons→ZF
open Nat renaming add_assoc→ZR,add_mul→Zz,add_zero→aaw,beq→YJ,ble→aaf,ble_eq_true_of_le→YX,blt→YD,eq_of_beq_eq_true→YE,le_add_left→ZX,le_of_ble_eq_true→Yd,le_refl→Ym,le_trans→YR,lt_or_ge→Zj,lt_succ_iff_lt_or_eq→Zp,lt_succ_self→ZY,mul_le_mul→abw,not_lt_zero→Z3,sub_self→abi,zero_add→YC,zero_le→Yl,zero_mul→aas
open Option renaming getD_some→ZG,map_some→Zg
open Option.some renaming inj→Zh
open Prod renaming fst→YI
set_option maxRecDepth 100000
open Bool renaming false→li,true→lc
open Decidable renaming decide→lw
open Inhabited renaming default→io
open Option renaming none→kw,some→jp
open Array renaming getD_eq_getD_getElem?→Yf
open Option.some renaming injEq→Yh
open Array renaming range→abv
open Array renaming getElem?_map→aaD
open Array renaming getElem?_eq_getElem→Zb
open Nat renaming mul_le_mul_right→YS
open Array renaming getElem?_append_left→Zr
open Array renaming getElem?_toList→Zn
namespace Go.Proofs.YtflegjieadkonaaGreatDoor
open Go Go.Al Go.Proofs.Tryz
theorem uW{β:Type}{a:Nat}{L:wu β}{y:Nat×Nat×Nat×List β}(b:L[a]? =jp y):pV L a y y.2.2.2=L:=by
 unfold pV;apply ZS;intro j;rw[Y4];by_cases h:a=j
 .subst h;rw[am Z,am (Yj.1 b).1,b]
 .rw[be h]
theorem Hp{x:aj×aj×Nat}{r:aq}{l:Lit}(h:x∈mO r l):x.2.2<=2:=by
 obtain⟨t,_,rfl⟩:=YP.1 h;exact B4 l
theorem LC{x:aj×aj×Nat}{r:aq}(h:x∈uq r):x.2.2<=2:=by
 obtain⟨l,_,h⟩:=ZZ.1 h;exact Hp h
theorem tZ{p:Prog}(hf:jP p)(hb:p.fit):Pure prog 55 [ag p.c,.iv (strs (ns p))] (.iv (cT 1 (dA (ns p).length (gF p (aD p))) (lE aY))):=by
 have hn:=jr hf;refine ad ab func55 Z (by decide) ntmps55 Z (by simp) Z ?_
 let n:=(ns p).length
 refine Hq ?_;refine aH (b7 ?_);refine gA Z ?_;refine aH (b7 ?_);refine gA Z ?_;refine aH (aH (gp ⟨[(1,.iv (strs (ns p))),(2,.ptr 0 0),(5,.sl 1 0 0 1),(6,pI 0)],[(0,jp (ak p.c)),(1,jp (rO n ([]:wu Int)))],2⟩ ?_ ?_))
 .refine dF 5 1 Z ?_;refine gA Z (j6 [1] ?_);exact zW (zK (zS ac))
 refine bV (kI 0 n (Yl _) (fun i (x:ULift.{1} (wu Int))=>⟨[(1,.iv (strs (ns p))),(2,.ptr 0 0),(5,.sl 2 0 i 1),(6,pI i)],[(0,jp (ak p.c)),(2,jp (rO n x.down))],3⟩)
  (fun i x Y=>Y=fh (fT aY) x.down∧y5 n x.down∧dG x.down=(dA n fun _ _=>(0:Int)).take i) ⟨[]⟩ [1] ⟨rfl,Gw n,rfl⟩
  (zW (zK (zS ac))) (fun _ _ _ h=>h.1▸cW (fT aY) _) fun i x Y hi hJ=>?_)
 obtain⟨rfl,A,u⟩:=hJ;obtain⟨L⟩:=x;have A:y5 n L:=A;have u:dG L=(dA n fun _ _=>(0:Int)).take i:=u;have i1:L.length=i:=by
  have:=congrArg aaG u;rw[YV,dz]at this;unfold dG at this;rw[YH]at this;omega
 refine aH (aH (b7 ?_));refine gA Z ?_;refine eV Z (fun h1=>fo ?_) (fun h1=>iE ?_)
 .have h1:=ci h1;refine aH (bV (iD (bC 3 ?_)));refine gA Z ?_;refine bC 1 ?_;refine AE ab n n Z Z Z Z Z Z Z Z Z (by omega) (by omega) (by show 8*n<=_;omega) Z (by decide) (z:=[pI 0]) Z (.inr ⟨rfl,rfl⟩) Z ?_;refine gA Z ?_;refine eK (xy (i:=3) (o':=aC 1 ((Yv n).map fun _=>(0:Int)) aY) Z (.of_eq ?_)) fun t Y D=>?_
  .show AO.row 1 (ZW n [pI 0])=AO.row 1 (((Yv n).map fun _=>(0:Int)).map fun x=>(aY x).map PV.iv);rw[Z4];congr 1;apply ZS;intro j;rw[aad,Yo];rcases Zj j n with hj|hj
   .rw[am hj,ZL hj];rfl
   .rw[be (by omega),Z0 (by simpa using hj)];rfl
  obtain⟨rfl,rfl⟩:=D
  refine eK (q9 (i:=3) (d:=23) (cW (fT aY) L) Z (by
   show(AO.row 1 (((Yv n).map fun _=>(0:Int)).map fun x=>(aY x).map PV.iv)).real=lc;have:0<n:=by omega
   obtain⟨m,hm⟩: ∃m,n=m+1:=⟨n-1,by omega⟩
   rw[hm,aaE];rfl) (jG aY) Z (by omega)) fun t Y D=>?_
  obtain⟨b,e,v0,m1,g1,g2,g3,rfl,rfl⟩:=D;refine bC 3 ?_;refine gA Z ?_;refine ff (lA (b7 ?_));refine gA Z ?_;have y0:=tU (fT aY) m1
  exact⟨h1,⟨L++ [(b,e,v0,(Yv n).map fun _=>(0:Int))]⟩,[5],⟨sR (fT aY) (y:=(b,e,v0,(Yv n).map fun _=>(0:Int))) A.nd y0,CG A y0 ⟨by simp,g1,g2,g3⟩,by
   show dG (L++ [_])=_;rw[aK (by rw[dz];exact h1),<-u];unfold dG;rw[Yk];congr 1
   rw[Ye,mo h1];rfl⟩,zM (bv (bv ⟨.row Z,rfl,bv ac⟩)) (zK (hR Z (by rw[Yk];rfl) Z ac))⟩
 have h1:=co h1;have u:dG L=dA n (gF p []):=by rw[u,Yn (by rw[dz];exact h1)];rfl
 clear i1;have w1:p.rules.length<=1000000000:=hb.2.1
 let G:Nat->List (aj×aj×Nat):=fun r=>(p.rules.take r).flatMap uq
 change GX _ _ [.code _] _ _ _;refine aH (aH (gp ⟨[(1,.iv (strs (ns p))),(2,.ptr 0 0),(5,.sl 2 0 n 1),(7,pI 0)],[(0,jp (ak p.c)),(2,jp (rO n L))],3⟩ ?_ ?_))
 .have n1:i=n:=by omega
  subst n1;refine gA Z (j6 [] ?_);exact zW (zK (zS ac))
 refine bV (kI 0 p.rules.length (Yl _) (fun r (x:ULift.{1} (wu Int))=>⟨[(1,.iv (strs (ns p))),(2,.ptr 0 0),(5,.sl 2 0 n 1),(7,pI r)],[(0,jp (ak p.c)),(2,jp (rO n x.down))],3⟩)
  (fun r x Y=>Y=fh (fT aY) x.down∧y5 n x.down∧dG x.down=dA n (gF p (G r))) ⟨L⟩ [] ⟨rfl,A,u⟩
  (zW (zK (zS ac))) (fun _ _ _ h=>h.1▸cW (fT aY) _) fun r x Y hr hJ=>?_)
 clear A u;obtain⟨rfl,A,u⟩:=hJ;obtain⟨L⟩:=x;have A:y5 n L:=A;have u:dG L=dA n (gF p (G r)):=u;refine aH (aH (b7 ?_));refine gA Z ?_;refine eV Z (fun h2=>fo ?_) (fun h2=>iE ?_);rotate_left
 .have h2:p.rules.length<=r:=by simpa using h2
  have f1:G r=aD p:=by show((p.rules.take r).flatMap uq)=_;rw[Yn h2];rfl
  rw[f1]at u;change GX _ _ [.code _] _ _ _;refine D9 (Bt (i:=2) (o':=aC 1 (dG L) (lE aY)) Z (UC aY A)) fun t Y D=>?_;obtain⟨rfl,rfl⟩:=D;have e1:(dG L).length=n:=by rw[u,dz]
  refine b7 ?_;rw[<-u];refine gA Z (kf (.inr Z) Z (iR.wE 2 (dG L) (lE aY) Z Z (by rw[e1];show PV.bG 2 1 n (.sl 2 0 n 1);simp[PV.bG]) (.done ?_)));have e:cT 1 (dG L) (lE aY)= .dp 1 n fun k=>lE aY ((dG L).getD k io):=by unfold cT;rw[e1]
  rw[e];show aG (.iv (.dp 1 n fun k=>lE aY ((dG L).getD (0+k) io))) _;simp only[YC];exact .refl _
 have h2:r<p.rules.length:=by simpa using h2
 have f0:p.rules.getD r io∈p.rules:=bx h2;have w0:G (r+1)=G r++uq (p.rules.getD r io):=by show((p.rules.take (r+1)).flatMap uq)=_;rw[aK h2,aai];simp;rfl
 have k0:=hb.2.2 _ f0;have e0:=k0.1;have b0:=hf.yh _ f0;have c0:=hf.lits _ f0;have a0:=hf.flat _ f0;have l1:(p.rules.getD r io).body.length<=10000000:=by have:=Lit.ax (p.rules.getD r io).body;unfold aq.size at e0;omega
 obtain⟨C,g0,i0⟩:=Go.Rg.kO (V:=ns p) (a:=(p.rules.getD r io).head.rel) (by rw[ns,db];exact b0);have i0:vD p C=(p.rules.getD r io).head.rel:=i0;have a1:=GI (ns p) (p.rules.getD r io).head.rel (by omega);have d1:=KT hf g0;rw[i0]at d1;rw[show JB (ns p) (p.rules.getD r io).head.rel=(C:Int) from d1]at a1;refine aH (bV (aH (b7 ?_)));refine gA Z (zp (a1) ?_);refine gA Z ?_;refine aH (gp ⟨[(1,.iv (strs (ns p))),(2,.ptr 0 0),(5,.sl 2 0 n 1),(7,pI r),(8,pI C),(9,pI 0)],[(0,jp (ak p.c)),(2,jp (rO n L))],3⟩ ?_ ?_)
 .refine gA Z (j6 [] ?_);exact zW (zK (zS ac))
 generalize j1:p.rules.getD r io=R at f0 w0 k0 e0 b0 c0 a0 l1 i0
 refine bV (kI 0 R.body.length (Yl _) (fun i (x:ULift.{1} (wu Int))=>⟨[(1,.iv (strs (ns p))),(2,.ptr 0 0),(5,.sl 2 0 n 1),(7,pI r),(8,pI C),(9,pI i)],[(0,jp (ak p.c)),(2,jp (rO n x.down))],3⟩)
  (fun i x Y=>Y=fh (fT aY) x.down∧y5 n x.down∧dG x.down=dA n (gF p (G r++(R.body.take i).flatMap (mO R)))) ⟨L⟩ [] ⟨rfl,A,by rw[List.take_zero,List.flatMap_nil,Y0];exact u⟩
  (zW (zK (zS ac))) (fun _ _ _ h=>h.1▸cW (fT aY) _) fun i x Y u1 hJ=>?_)
 clear A u;obtain⟨rfl,A,u⟩:=hJ;obtain⟨L⟩:=x;have A:y5 n L:=A;have u:dG L=dA n (gF p (G r++(R.body.take i).flatMap (mO R))):=u;refine aH (aH (b7 ?_));subst j1;refine gA Z ?_;refine eV Z (fun h3=>fo ?_) (fun h3=>iE ?_);rotate_left
 .have h3:(p.rules.getD r io).body.length<=i:=by simpa using h3
  rw[Yn h3,show G r++(p.rules.getD r io).body.flatMap (mO (p.rules.getD r io))=G (r+1) from w0.symm]at u;change GX _ _ (.code _::_) _ _ _;refine b7 ?_;refine gA Z ⟨h2,⟨L⟩,[],⟨rfl,A,u⟩,zW (zK (zS ac))⟩
 have h3:i<(p.rules.getD r io).body.length:=by simpa using h3
 have hl:(p.rules.getD r io).body.getD i io∈(p.rules.getD r io).body:=bx h3;have x0:((p.rules.getD r io).body.take (i+1)).flatMap (mO (p.rules.getD r io))=((p.rules.getD r io).body.take i).flatMap (mO (p.rules.getD r io))++mO (p.rules.getD r io) ((p.rules.getD r io).body.getD i io):=by rw[aK h3,aai];simp
 have s0:((p.rules.getD r io).body.getD i io).size<=10000000:=by have:=Lit.aS (p.rules.getD r io).body i h3;unfold aq.size at e0;omega
 have n0:=c0 _ hl;have r1:=xV _ (a0 _ hl);have p1:=kD ((p.rules.getD r io).body.getD i io);refine aH (bV (aH (b7 ?_)));refine gA Z ?_;refine aH (b7 ?_);refine gA Z (zp (RX ((p.rules.getD r io).body.getD i io) (by omega)) ?_);refine gA Z ?_;rw[<-r1];refine aH (gp ⟨[(1,.iv (strs (ns p))),(2,.ptr 0 0),(5,.sl 2 0 n 1),(7,pI r),(8,pI C),(9,pI i),(10,.ptr 3 0),(11,.iv (strs (named ((p.rules.getD r io).body.getD i io)))),(12,pI 0)],[(0,jp (ak p.c)),(2,jp (rO n L)),(3,jp (ak ((p.rules.getD r io).body.getD i io).c))],4⟩ ?_ ?_)
 .refine gA Z (j6 [] ?_);exact zW (zK (zS (zK ac)))
 generalize v1:(p.rules.getD r io).body.getD i io=l at hl x0 s0 n0 p1;generalize z0:G r++((p.rules.getD r io).body.take i).flatMap (mO (p.rules.getD r io))=hs0 at u
 refine bV (kI 0 (named l).length (Yl _) (fun k (x:ULift.{1} (wu Int))=>⟨[(1,.iv (strs (ns p))),(2,.ptr 0 0),(5,.sl 2 0 n 1),(7,pI r),(8,pI C),(9,pI i),(10,.ptr 3 0),(11,.iv (strs (named l))),(12,pI k)],[(0,jp (ak p.c)),(2,jp (rO n x.down)),(3,jp (ak l.c))],4⟩)
  (fun k x Y=>Y=fh (fT aY) x.down∧y5 n x.down∧dG x.down=dA n (gF p (hs0++((named l).take k).map fun t=>((p.rules.getD r io).head.rel,t,fZ l)))) ⟨L⟩ [] ⟨rfl,A,by rw[List.take_zero,Y7,Y0];exact u⟩
  (zW (zK (zS (zK ac)))) (fun _ _ _ h=>h.1▸cW (fT aY) _) fun k x Y hk hJ=>?_)
 clear A u;obtain⟨rfl,A,u⟩:=hJ;obtain⟨L⟩:=x;have A:y5 n L:=A;have u:dG L=dA n (gF p (hs0++((named l).take k).map fun t=>((p.rules.getD r io).head.rel,t,fZ l))):=u;refine aH (aH (b7 ?_));refine gA Z ?_;refine eV Z (fun S=>fo ?_) (fun S=>iE ?_);rotate_left
 .have S:=co S;rw[Yn S,<-z0,Yu,show(named l).map (fun t=>((p.rules.getD r io).head.rel,t,fZ l))=mO (p.rules.getD r io) l from rfl,<-x0]at u;change GX _ _ (.code _::_) _ _ _;refine b7 ?_;refine gA Z ⟨h3,⟨L⟩,[],⟨rfl,A,u⟩,zW (zK (zS ac))⟩
 have S:=ci S;obtain⟨B,j0,q0⟩:=Go.Rg.kO (V:=ns p) (a:=(named l).getD k io) (by rw[ns,db];exact n0 _ (bx S));have q0:vD p B=(named l).getD k io:=q0;have b1:=GI (ns p) ((named l).getD k io) (by omega);have o0:=KT hf j0;rw[q0]at o0;rw[show JB (ns p) ((named l).getD k io)=(B:Int) from o0]at b1
 let T2:AS:=⟨[(1,.iv (strs (ns p))),(2,.ptr 0 0),(5,.sl 2 0 n 1),(7,pI r),(8,pI C),(9,pI i),(10,.ptr 3 0),(11,.iv (strs (named l))),(12,pI k),(13,pI B)],[(0,jp (ak p.c)),(2,jp (rO n L)),(3,jp (ak l.c))],4⟩
 refine aH (bV (aH (gp T2 ?_ ?_)))
 .refine gA Z (zp (b1) ?_);refine gA Z (j6 [] ?_);exact zW (zK (zS (zK ac)))
 refine aH (gp T2 ?_ ?_)
 .refine zE Z Z (fun q1=>?_) fun q1=>?_
  .have:=zT (show lw ((C:Int)<0)=lc from q1);omega
  refine zJ Z Z (fun q2=>?_) fun q2=>?_
  .have:=zT (show lw ((B:Int)<0)=lc from q2);omega
  refine gA Z (j6 [] ?_);exact zW (zK (zS (zK ac)))
 have hL:L.length=n:=by
  have:=congrArg aaG u;rw[dz]at this;unfold dG at this;rwa[YH]at this
 have o1:C<L.length:=by omega
 obtain⟨y,F⟩: ∃y,L[C]? =jp y:=⟨_,Yi o1⟩
 obtain⟨k1,k2,k3,k4⟩:=A.ok y (YL F);have J:(hs0++((named l).take k).map fun t=>((p.rules.getD r io).head.rel,t,fZ l))++ [(vD p C,vD p B,fZ l)]=hs0++((named l).take (k+1)).map fun t=>((p.rules.getD r io).head.rel,t,fZ l):=by
  rw[aK S,Yk,Yu,i0,q0];rfl
 have m0: ∀x∈hs0++((named l).take k).map (fun t=>((p.rules.getD r io).head.rel,t,fZ l)),x.2.2<=2:=fun x hx=>by
  rw[<-z0]at hx;rcases Ys.1 hx with hx|hx
  .rcases Ys.1 hx with hx|hx
   .obtain⟨_,_,hx⟩:=ZZ.1 hx;exact LC hx
   .obtain⟨_,_,hx⟩:=ZZ.1 hx;exact Hp hx
  .obtain⟨t,_,rfl⟩:=YP.1 hx;exact B4 l
 generalize hs0++((named l).take k).map (fun t=>((p.rules.getD r io).head.rel,t,fZ l))=hs1 at u J m0;have t0:y.2.2.2=(Yv n).map fun j=>gF p hs1 C j:=by
  have:=E9 F;rw[u,mo g0]at this;exact(Zh this).symm
 have d0:=CN (n:=n) (f:=gF p hs1) (f':=gF p (hs1++ [(vD p C,vD p B,fZ l)])) g0 j0 (Hz hf g0 j0);rw[R6]at d0;have s1:0<=gF p hs1 C B:=Int.natCast_nonneg _;have t1:gF p hs1 C B<=2:=by
  have:=TH m0 (vD p C) (vD p B);unfold gF;omega
 have I: ∀r:List Int,r.length=n->(aC 1 r aY).real=lc:=fun r hr=>by
  cases r with
  |nil=>simp at hr;omega
  |cons=>rfl
 refine aH (b7 ?_);refine gA Z ?_;refine eV Z (fun q3=>?_) (fun q3=>?_)
 .have q3: ¬l.kind=1:=zX q3;have hh:fZ l=2:=by rw[fZ,be q3]
  have hm:max (gF p hs1 C B) (fZ l:Int)=2:=by rw[hh];omega
  refine iD (bC 3 ?_);refine gA Z ?_;refine bC 1 ?_;refine bB ab Z Z Z Z Z (show(L.map fun x=>(sZ n x).map PV.iv)[0+C]? =jp ((sZ n y).map PV.iv) by rw[YC,Yo,F];rfl) Z Z ?_;refine gA Z ?_;refine eK (kv (d:=88) (sz:=1) (df (fT aY) A.nd F) Z (by omega) k2 k3 k4) fun t Y D=>?_;obtain⟨rfl,rfl⟩:=D;refine bC 2 ?_;refine gA Z ?_;refine bC 1 ?_;refine hZ ab Z Z Z (i:=4) (sz:=1) (q:=0+B) Z Z Z Z (by simp only[YH];omega) Z Z Z Z ?_;refine gA Z ?_;refine eK (xy (i:=4) (o':=aC 1 (y.2.2.2.set B 2) aY) Z (.of_eq ?_)) fun t Y D=>?_
  .show AO.row 1 ((y.2.2.2.map fun x=>(aY x).map PV.iv).set (0+B) ((aY 2).map PV.iv))=AO.row 1 ((y.2.2.2.set B 2).map fun x=>(aY x).map PV.iv);rw[YC,ZV]
  obtain⟨rfl,rfl⟩:=D;refine eK (xz (b:=y.1) (e:=y.2.1) (i:=4) (o:=aC 1 (y.2.2.2.set B 2) aY) (bc.dB _ _ _) Z (I _ (by rw[aac];exact k1)) (jG aY)) fun t Y D=>?_;obtain⟨rfl,rfl⟩:=D;refine ff (lA (b7 ?_));refine gA Z ?_
  exact⟨S,⟨pV L C y (y.2.2.2.set B 2)⟩,[],⟨n6 aY A F,Bo A F (by rw[aac];exact k1),by
   show dG (pV L C y (y.2.2.2.set B 2))=_
   rw[Br,u,<-J,t0,<-hm];exact d0⟩,zW (zK (hR Z (Ft F).symm Z (zK ac)))⟩
 .have q3:l.kind=1:=zY q3;have hh:fZ l=1:=by rw[fZ,am q3]
  refine aH (iD (bC 3 ?_));refine gA Z ?_;refine bC 1 ?_;refine bB ab Z Z Z Z Z (show(L.map fun x=>(sZ n x).map PV.iv)[0+C]? =jp ((sZ n y).map PV.iv) by rw[YC,Yo,F];rfl) Z Z ?_;refine gA Z ?_;refine eK (kv (d:=94) (sz:=1) (df (fT aY) A.nd F) Z (by omega) k2 k3 k4) fun t Y D=>?_;obtain⟨rfl,rfl⟩:=D;refine bC 2 ?_;refine gA Z ?_;refine bC 1 ?_;refine bB ab Z Z Z Z Z (show(y.2.2.2.map fun x=>(aY x).map PV.iv)[0+B]? =jp ((aY (y.2.2.2.getD B io)).map PV.iv) from fm (by omega)) Z Z ?_;refine gA Z ?_;refine bC 1 ?_;refine gA Z ?_;refine eK (xz (b:=y.1) (e:=y.2.1) (i:=4) (o:=aC 1 y.2.2.2 aY) (bc.dB _ _ _) Z (I _ k1) (jG aY)) fun t Y D=>?_;obtain⟨rfl,rfl⟩:=D;rw[n6 aY A F,uW F];have p0:y.2.2.2.getD B io=gF p hs1 C B:=by rw[t0,Ye,lO j0];rfl
  refine ff (eV Z (fun q4=>?_) (fun q4=>?_))
  .have q4:gF p hs1 C B=0:=by rw[<-p0];exact zT q4
   have hm:max (gF p hs1 C B) (fZ l:Int)=1:=by rw[hh];omega
   refine iD (bC 3 ?_);refine gA Z ?_;refine bC 1 ?_;refine bB ab Z Z Z Z Z (show(L.map fun x=>(sZ n x).map PV.iv)[0+C]? =jp ((sZ n y).map PV.iv) by rw[YC,Yo,F];rfl) Z Z ?_;refine gA Z ?_;refine eK (kv (d:=102) (sz:=1) (df (fT aY) A.nd F) Z (by omega) k2 k3 k4) fun t Y D=>?_;obtain⟨rfl,rfl⟩:=D;refine bC 2 ?_;refine gA Z ?_;refine bC 1 ?_;refine hZ ab Z Z Z (i:=5) (sz:=1) (q:=0+B) Z Z Z Z (by simp only[YH];omega) Z Z Z Z ?_;refine gA Z ?_;refine eK (xy (i:=5) (o':=aC 1 (y.2.2.2.set B 1) aY) Z (.of_eq ?_)) fun t Y D=>?_
   .show AO.row 1 ((y.2.2.2.map fun x=>(aY x).map PV.iv).set (0+B) ((aY 1).map PV.iv))=AO.row 1 ((y.2.2.2.set B 1).map fun x=>(aY x).map PV.iv);rw[YC,ZV]
   obtain⟨rfl,rfl⟩:=D;refine eK (xz (b:=y.1) (e:=y.2.1) (i:=5) (o:=aC 1 (y.2.2.2.set B 1) aY) (bc.dB _ _ _) Z (I _ (by rw[aac];exact k1)) (jG aY)) fun t Y D=>?_;obtain⟨rfl,rfl⟩:=D;refine ff (lA (b7 ?_));refine gA Z ?_
   exact⟨S,⟨pV L C y (y.2.2.2.set B 1)⟩,[],⟨n6 aY A F,Bo A F (by rw[aac];exact k1),by
    show dG (pV L C y (y.2.2.2.set B 1))=_
    rw[Br,u,<-J,t0,<-hm];exact d0⟩,zW (zK (hR Z (Ft F).symm Z (zK ac)))⟩
  .have q4: ¬gF p hs1 C B=0:=by rw[<-p0];exact zF q4
   have hm:max (gF p hs1 C B) (fZ l:Int)=gF p hs1 C B:=by rw[hh];omega
   refine fo (lA (b7 ?_));refine gA Z ?_
   exact⟨S,⟨L⟩,[],⟨rfl,A,by
    show dG L=_;rw[u,<-J];refine mq fun i j hi hj=>?_;rw[Hz hf g0 j0 i j hi hj];by_cases r0:i=C∧j=B
    .rw[am r0,R6,hm,r0.1,r0.2]
    .rw[be r0]⟩,zW (zK (zS (zK ac)))⟩
abbrev iB(b:Bool):IV:= .v (.bool b)
def bJ(b:Bool):List IV:=[iB b]
abbrev wI(n:Nat)(f:Nat->Nat->Bool):IV:=cT 1 (dA n f) (lE bJ)
abbrev gI(n:Nat)(g:Nat->Nat->Int):IV:=cT 1 (dA n g) (lE aY)
theorem jR{β:Type}[Inhabited β]{n:Nat}{f:Nat->Nat->β}{a b:Nat}(ha:a<n)(hb:b<n):((dA n f).getD a io).getD b io=f a b:=by
 rw[Ye,Ye,mo ha,ZG,lO hb];rfl
theorem gE{β:Type}[Inhabited β]{n:Nat}{f:Nat->Nat->β}{a:Nat}(ha:a<n):((dA n f).getD a io).length=n:=by
 rw[Ye,mo ha];simp
abbrev Ch(D:List Bool)(b:Nat):Bool:=D.getD b io
def M9(f:Nat->Nat->Bool)(D:List Bool)(a b:Nat):Bool:=!(f a b&&!f b a)||D.getD b io
theorem VL{n:Nat}{f:Nat->Nat->Bool}{D:List Bool}{a i:Nat}(hi:i<n)(h:M9 f D a i=li):Go.Co.cX n f (fun b=>D.getD b io) a=li:=by
 unfold Go.Co.cX;rw[Z1];exact⟨i,YM.2 hi,by rw[show(!(f a i&&!f i a)||D.getD i io)=M9 f D a i from rfl,h];exact aaU⟩
theorem TJ{n:Nat}{f:Nat->Nat->Bool}{D:List Bool}{a:Nat}(h: ∀b,b<n->M9 f D a b=lc):Go.Co.cX n f (fun b=>D.getD b io) a=lc:=by
 unfold Go.Co.cX;rw[YG];exact fun b hb=>h b (YM.1 hb)
theorem Vg{n:Nat}(hn:n<=64)(f:Nat->Nat->Bool)(D:List Bool)(a:Nat)(ha:a<n)(J:D.length=n):
  cj prog 65 [.iv (wI n f),.sl 0 0 n 1,pI a] [aC 1 D bJ] (pB (Go.Co.cX n f (fun b=>D.getD b io) a)) [(0,jp (aC 1 D bJ))] 1:=by
 have I:=dz n f;have F:=gE (f:=f) ha;refine aE ab func65 Z (by decide) ntmps65 Z (by simp) ?_;refine gA Z ?_;refine ar 0 n (Yl _) (fun i=>⟨[(0,.iv (wI n f)),(1,.sl 0 0 n 1),(2,pI a),(7,pI i)],[(0,jp (aC 1 D bJ))],1⟩) (fun i=> ∀b,b<i->M9 f D a b=lc) [] (fun b hb=>absurd hb (Z3 b))
  (zW (zS trivial)) fun i S C=>?_
 refine zE Z Z (fun j=>?_) fun j=>?_
 .have j:n<=i:=by
   have h:(dA n f).length<=i:=by simpa using j
   omega
  rw[TJ fun b hb=>C b (by omega)];refine gA Z (zD [] Z (zW (zS ac)))
 have j:i<n:=by
  have h:i<(dA n f).length:=by simpa using j
  omega
 have G:=gE (f:=f) j;have A:=jR (f:=f) ha j;have B:=jR (f:=f) j ha;have d:M9 f D a i=lc-> ∀b,b<i+1->M9 f D a b=lc:=fun h b hb=>by
  rcases Zp.1 hb with hb|hb
  .exact C b hb
  .subst hb;exact h
 refine zE Z Z (fun x=>?_) fun x=>?_
 .have x:f a i=li:=by rw[<-A];exact x
  refine gA Z ⟨j,d (by simp[M9,x]),[],zW (zS ac)⟩
 have x:f a i=lc:=by rw[<-A];exact x
 refine zE Z Z (fun u=>?_) fun u=>?_
 .have u:f i a=lc:=by
   rw[<-B];have u:(!((dA n f).getD i io).getD a io)=li:=u;simpa using u
  refine gA Z ⟨j,d (by simp[M9,u]),[],zW (zS ac)⟩
 have u:f i a=li:=by
  rw[<-B];have u:(!((dA n f).getD i io).getD a io)=lc:=u;simpa using u
 refine gM 6 Z (bB ab Z Z Z Z Z (fm (l:=D) (f:=bJ) (i:=i) (by omega)) Z Z ?_);refine zJ Z Z (fun y=>?_) fun y=>?_
 .have y:D.getD i io=li:=zA y;rw[VL j (by simp only[M9,x,u,y];rfl)];refine gA Z (zD [] Z (zW (zS ac)))
 .have y:D.getD i io=lc:=zB y;refine gA Z ⟨j,d (by simp only[M9,y,aaA]),[],zW (zS ac)⟩
theorem zP{sz q:Nat}{es:List (List PV)}{p p':PV}(h:aG p p'):gi (.row sz (es.set q [p])) (.row sz (es.set q [p'])):=by
 refine⟨fun hr=>?_,fun M N U w i F=>?_⟩
 .cases es with
  |nil=>exact hr
  |cons a r=>cases q<;>rfl
 .have key: ∀(k:Nat) (e:List PV),(es.set q [p'])[k]? =jp e-> ∃d,(es.set q [p])[k]? =jp d∧d.length=e.length∧ ∀(j:Nat) (x:PV),e[j]? =jp x-> ∃A,d[j]? =jp A∧aG A x:=by
   intro k e b;rw[Y4]at b;by_cases y:q=k
   .rw[am y]at b;by_cases C:q<es.length
    .rw[am C]at b;cases b;refine⟨[p],by rw[Y4,am y,am C],rfl,fun j x u=>?_⟩;cases j with
     |zero=>cases u;exact⟨p,rfl,h⟩
     |succ j=>simp at u
    .rw[be C]at b;cases b
   .rw[be y]at b;exact⟨e,by rw[Y4,be y];exact b,rfl,fun j x u=>⟨x,u,.refl x⟩⟩
  rcases F with F|⟨I,c,T,J,S,G,Y,h5⟩
  .refine .inl ?_;have hz:es.length=0:=by have:=congrArg aaG F;rw[aac]at this;exact this
   rw[ZU hz];rfl
  .refine .inr ⟨I,c,T,J,S,by rw[aac]at G ⊢;exact G,fun k e b=>?_,fun k e j x b u=>?_⟩
   .obtain⟨d,B,hb,_⟩:=key k e b;rw[<-hb];exact Y k d B
   .obtain⟨d,B,_,hc⟩:=key k e b;obtain⟨A,hd,D⟩:=hc j x u;exact D M N U _ (h5 k d j A B hd)
theorem VE{P:Program}{nt:Nat}{Q:XQ}{k:List XI}{s:AS}{X:bc}{c:Code}{L:List Nat}{t:AS}(hw:Wk s.nx L s t)(h:GX P nt (.code c::k) Q t X):GX P nt (.code c::k) Q s X:=by
 intro M N a w B C;obtain⟨g1,g2⟩:=jy.frame (hw.ext (.refl _ _ _ _ _)) C;exact AX.then h (hw.fits B) g2 fun e a2 F x y D A u b j d=>⟨x,y,D,A,g1.trans u,b,j,d⟩
set_option maxHeartbeats 1000000 in
theorem Vh{n:Nat}(hn:n<=64)(g:Nat->Nat->Int)(E:Nat->Nat->Bool)(hE: ∀i j,i<n->j<n->E i j=lw (g i j>0)):Pure prog 63 [.iv (gI n g)] (.iv (cT 1 (dA n (Go.Wa.W E n)) (lE bJ))):=by
 have p0:=dz n g;refine ad ab func63 Z (by decide) ntmps63 Z (by simp) Z ?_;refine Hq ?_;refine aH (b7 ?_);refine gA Z ?_;refine aH (b7 ?_);refine gA Z ?_;refine aH (aH (gp ⟨[(0,.iv (gI n g)),(3,.sl 0 0 0 1),(4,pI 0)],[(0,jp (rO n ([]:wu Bool)))],1⟩ ?_ ?_))
 .refine dF 3 1 Z ?_;refine gA Z (j6 [0] ?_);exact zW (zS ac)
 refine bV (kI 0 n (Yl _) (fun i (x:ULift.{1} (wu Bool))=>⟨[(0,.iv (gI n g)),(3,.sl 1 0 i 1),(4,pI i)],[(1,jp (rO n x.down))],2⟩)
  (fun i x Y=>Y=fh (fT bJ) x.down∧y5 n x.down∧dG x.down=(dA n (Go.Wa.W E 0)).take i) ⟨[]⟩ [0] ⟨rfl,Gw n,rfl⟩
  (zW (zS ac)) (fun _ _ _ h=>h.1▸cW (fT bJ) _) fun i x Y hi hJ=>?_)
 obtain⟨rfl,u,A⟩:=hJ;obtain⟨L⟩:=x;have u:y5 n L:=u;have A:dG L=(dA n (Go.Wa.W E 0)).take i:=A;have t0:L.length=i:=by
  have:=congrArg aaG A;rw[YV,dz]at this;unfold dG at this;rw[YH]at this;omega
 refine aH (aH (b7 ?_));refine gA Z ?_;refine eV Z (fun h1=>fo ?_) (fun h1=>iE ?_)
 .have h1:i<n:=by
   have h:i<(dA n g).length:=by simpa using h1
   omega
  let B:Nat->List Bool:=fun k=>(Yv n).map fun j=>if j<k then Go.Wa.W E 0 i j else li
  refine aH (bV (aH (gp ⟨[(0,.iv (gI n g)),(3,.sl 1 0 i 1),(4,pI i),(5,.sl 2 0 n 1)],[(1,jp (rO n L)),(2,jp (aC 1 (B 0) bJ))],3⟩ ?_ ?_)))
  .refine gA Z (AE ab n n Z Z Z Z Z Z Z (by rw[p0]) (by rw[p0]) (by omega) (by omega) (by show 1*n<=_;omega) Z (by decide) (z:=[pB li]) Z (.inr ⟨rfl,rfl⟩) Z ?_);refine gA Z (j6 [2] ?_)
   exact zW (zS (hR Z (by
    show ZW n [pB li]=((Yv n).map fun j=>if j<0 then Go.Wa.W E 0 i j else li).map fun x=>(bJ x).map PV.iv;rw[Z4];apply ZS;intro j;rw[aad,Yo];rcases Zj j n with hj|hj
    .rw[am hj,ZL hj];rfl
    .rw[be (by omega),Z0 (by simpa using hj)];rfl) Z ac))
  refine aH (gp ⟨[(0,.iv (gI n g)),(3,.sl 1 0 i 1),(4,pI i),(5,.sl 2 0 n 1)],[(1,jp (rO n L)),(2,jp (aC 1 (B n) bJ))],3⟩ ?_ ?_)
  .refine gA Z ?_;refine ar 0 n (Yl _) (fun k=>⟨[(0,.iv (gI n g)),(3,.sl 1 0 i 1),(4,pI i),(5,.sl 2 0 n 1),(6,pI k)],[(1,jp (rO n L)),(2,jp (aC 1 (B k) bJ))],3⟩) (fun _=>True) [] ac
    (zW (zS (zS trivial))) fun k hk _=>?_
   refine zE Z Z (fun h2=>?_) fun h2=>?_
   .have h2:n<=k:=by
     have h:(dA n g).length<=k:=by simpa using h2
     omega
    have w0:k=n:=by omega
    subst w0;refine gA Z (j6 [] ?_);exact zW (zS (zS ac))
   have h2:k<n:=by
    have h:k<(dA n g).length:=by simpa using h2
    omega
   have b1:=gE (f:=g) h1;have j0:=jR (f:=g) h1 h2;have hw:Go.Wa.W E 0 i k=(lw (g i k>0)||decide (i=k)):=by
    show(E i k||i==k)=_;rw[hE i k h1 h2];rfl
   have G:(B k).set k (Go.Wa.W E 0 i k)=B (k+1):=by
    have:=p3 (n:=n) (g:=fun j=>if j<k then Go.Wa.W E 0 i j else li) (g':=fun j=>if j<k+1 then Go.Wa.W E 0 i j else li) h2 fun j hj=>by
     by_cases k0:j=k
     .simp[k0]
     .rw[be k0];by_cases m0:j<k
      .rw[am m0,am (by omega)]
      .rw[be m0,be (by omega)]
    rw[am (ZY k)]at this;exact this
   have a1:(B k).length=n:=by simp[B]
   refine zJ Z Z (fun J=>?_) fun J=>?_
   .have J:lw (((dA n g).getD i io).getD k io>0)=li:=J;rw[j0]at J;refine gA Z (LQ (d:=39) (p:=pB (Go.Wa.W E 0 i k)) (.of_eq (fx (by rw[hw,J,Zt,decide_eq_decide];omega))) ?_);refine hZ ab Z Z Z (i:=2) (sz:=1) (q:=0+k) Z Z Z Z (by simp only[YH];omega) Z Z Z Z ?_;refine gA Z ⟨h2,ac,[],zW (zS (hR Z (by rw[YC,<-G,ZV];rfl) Z ac))⟩
   .have J:lw (((dA n g).getD i io).getD k io>0)=lc:=J;rw[j0]at J;refine gA Z (LQ (d:=39) (p:=pB (Go.Wa.W E 0 i k)) (.rK (by rw[hw,J];rfl)) ?_);refine hZ ab Z Z Z (i:=2) (sz:=1) (q:=0+k) Z Z Z Z (by simp only[YH];omega) Z Z Z Z ?_;refine gA Z ⟨h2,ac,[],zW (zS (hR Z (by rw[YC,<-G,ZV];rfl) Z ac))⟩
  have f0:B n=(Yv n).map fun j=>Go.Wa.W E 0 i j:=ZC fun j hj=>am (YM.1 hj);rw[f0];refine iD (bC 2 ?_);refine gA Z ?_
  refine eK (q9 (i:=2) (d:=42) (cW (fT bJ) L) Z (by
   have:0<n:=by omega
   obtain⟨m,hm⟩: ∃m,n=m+1:=⟨n-1,by omega⟩
   rw[hm,aaE];rfl) (jG bJ) Z (by omega)) fun t Y I=>?_
  obtain⟨b,e,g0,F,g1,g2,g3,rfl,rfl⟩:=I;refine bC 3 ?_;refine gA Z ?_;refine ff (lA (b7 ?_));refine gA Z ?_;have i0:=tU (fT bJ) F
  exact⟨h1,⟨L++ [(b,e,g0,(Yv n).map fun j=>Go.Wa.W E 0 i j)]⟩,[4],⟨sR (fT bJ) (y:=(b,e,g0,(Yv n).map fun j=>Go.Wa.W E 0 i j)) u.nd i0,CG u i0 ⟨by simp,g1,g2,g3⟩,by
   show dG (L++ [_])=_;rw[aK (by rw[dz];exact h1),<-A];unfold dG;rw[Yk];congr 1
   rw[Ye,mo h1];rfl⟩,zM (bv ⟨.row Z,rfl,bv ac⟩) (hR Z (by rw[Yk];rfl) Z ac)⟩
 have h1:n<=i:=by
  have h:(dA n g).length<=i:=by simpa using h1
  omega
 have v0:i=n:=by omega
 have A:dG L=dA n (Go.Wa.W E 0):=by rw[A,Yn (by rw[dz];exact h1)]
 clear t0;change GX _ _ [.code _] _ _ _;refine aH (aH (gp ⟨[(0,.iv (gI n g)),(3,.sl 1 0 n 1),(7,pI 0)],[(1,jp (rO n L))],2⟩ ?_ ?_))
 .subst v0;refine gA Z (j6 [] ?_);exact zW (zS ac)
 refine bV (kI 0 n (Yl _) (fun m (x:ULift.{1} (wu Bool))=>⟨[(0,.iv (gI n g)),(3,.sl 1 0 n 1),(7,pI m)],[(1,jp (rO n x.down))],2⟩)
  (fun m x Y=>Y=fh (fT bJ) x.down∧y5 n x.down∧dG x.down=dA n (Go.Wa.W E m)) ⟨L⟩ [] ⟨rfl,u,A⟩
  (zW (zS ac)) (fun _ _ _ h=>h.1▸cW (fT bJ) _) fun m x Y hm hJ=>?_)
 clear u A;obtain⟨rfl,u,A⟩:=hJ;obtain⟨L⟩:=x;have u:y5 n L:=u;have A:dG L=dA n (Go.Wa.W E m):=A;refine aH (aH (b7 ?_));refine gA Z ?_;refine eV Z (fun qm=>fo ?_) (fun qm=>iE ?_);rotate_left
 .have h2:n<=m:=by
   have h:(dA n g).length<=m:=by simpa using qm
   omega
  have d0:m=n:=by omega
  rw[d0]at A;change GX _ _ [.code _] _ _ _;refine D9 (Bt (i:=1) (o':=aC 1 (dG L) (lE bJ)) Z (UC bJ u)) fun t Y I=>?_;obtain⟨rfl,rfl⟩:=I;have e0:(dG L).length=n:=by rw[A,dz]
  refine b7 ?_;rw[<-A];refine gA Z (kf (.inr Z) Z (iR.wE 1 (dG L) (lE bJ) Z Z (by rw[e0];show PV.bG 1 1 n (.sl 1 0 n 1);simp[PV.bG]) (.done ?_)));have e:cT 1 (dG L) (lE bJ)= .dp 1 n fun k=>lE bJ ((dG L).getD k io):=by unfold cT;rw[e0]
  rw[e];show aG (.iv (.dp 1 n fun k=>lE bJ ((dG L).getD (0+k) io))) _;simp only[YC];exact .refl _
 have d0:m<n:=by
  have h:m<(dA n g).length:=by simpa using qm
  omega
 refine aH (bV (aH (gp ⟨[(0,.iv (gI n g)),(3,.sl 1 0 n 1),(7,pI m),(8,pI 0)],[(1,jp (rO n L))],2⟩ ?_ ?_)))
 .refine gA Z (j6 [] ?_);exact zW (zS ac)
 refine bV (kI 0 n (Yl _) (fun a (x:ULift.{1} (wu Bool))=>⟨[(0,.iv (gI n g)),(3,.sl 1 0 n 1),(7,pI m),(8,pI a)],[(1,jp (rO n x.down))],2⟩)
  (fun a x Y=>Y=fh (fT bJ) x.down∧y5 n x.down∧dG x.down=dA n (Go.Wa.V E m a 0)) ⟨L⟩ [] ⟨rfl,u,A.trans (mq fun x y _ _=>(Go.Wa.V.zero m x y).symm)⟩
  (zW (zS ac)) (fun _ _ _ h=>h.1▸cW (fT bJ) _) fun a x Y ha hJ=>?_)
 clear u A;obtain⟨rfl,u,A⟩:=hJ;obtain⟨L⟩:=x;have u:y5 n L:=u;have A:dG L=dA n (Go.Wa.V E m a 0):=A;refine aH (aH (b7 ?_));refine gA Z ?_;refine eV Z (fun qa=>fo ?_) (fun qa=>iE ?_);rotate_left
 .have h2:n<=a:=by
   have h:(dA n g).length<=a:=by simpa using qa
   omega
  have c0:a=n:=by omega
  rw[c0]at A;change GX _ _ (.code _::_) _ _ _;refine b7 ?_;refine gA Z ⟨d0,⟨L⟩,[],⟨rfl,u,A.trans (mq fun x y hx _=>Go.Wa.V.full m n x y hx)⟩,zW (zS ac)⟩
 have c0:a<n:=by
  have h:a<(dA n g).length:=by simpa using qa
  omega
 refine aH (bV (aH (gp ⟨[(0,.iv (gI n g)),(3,.sl 1 0 n 1),(7,pI m),(8,pI a),(9,pI 0)],[(1,jp (rO n L))],2⟩ ?_ ?_)))
 .refine gA Z (j6 [] ?_);exact zW (zS ac)
 refine bV (kI 0 n (Yl _) (fun b (x:ULift.{1} (wu Bool))=>⟨[(0,.iv (gI n g)),(3,.sl 1 0 n 1),(7,pI m),(8,pI a),(9,pI b)],[(1,jp (rO n x.down))],2⟩)
  (fun b x Y=>Y=fh (fT bJ) x.down∧y5 n x.down∧dG x.down=dA n (Go.Wa.V E m a b)) ⟨L⟩ [] ⟨rfl,u,A⟩
  (zW (zS ac)) (fun _ _ _ h=>h.1▸cW (fT bJ) _) fun b x Y hb hJ=>?_)
 clear u A;obtain⟨rfl,u,A⟩:=hJ;obtain⟨L⟩:=x;have u:y5 n L:=u;have A:dG L=dA n (Go.Wa.V E m a b):=A;refine aH (aH (b7 ?_));refine gA Z ?_;refine eV Z (fun qb=>fo ?_) (fun qb=>iE ?_);rotate_left
 .have h2:n<=b:=by
   have h:(dA n g).length<=b:=by simpa using qb
   omega
  have F:b=n:=by omega
  rw[F]at A;change GX _ _ (.code _::_) _ _ _;refine b7 ?_;refine gA Z ⟨c0,⟨L⟩,[],⟨rfl,u,A.trans (mq fun x y _ hy=>Go.Wa.V.line m a n x y hy)⟩,zW (zS ac)⟩
 have F:b<n:=by
  have h:b<(dA n g).length:=by simpa using qb
  omega
 have hL:L.length=n:=by
  have:=congrArg aaG A;rw[dz]at this;unfold dG at this;rwa[YH]at this
 have S: ∀r:List Bool,r.length=n->(aC 1 r bJ).real=lc:=fun r hr=>by
  cases r with
  |nil=>simp at hr;omega
  |cons=>rfl
 have x0:a<L.length:=by omega
 have y0:m<L.length:=by omega
 obtain⟨D,C⟩: ∃y,L[a]? =jp y:=⟨_,Yi x0⟩
 obtain⟨ym,b0⟩: ∃y,L[m]? =jp y:=⟨_,Yi y0⟩
 obtain⟨k1,k2,k3,k4⟩:=u.ok D (YL C);obtain⟨j1,j2,j3,j4⟩:=u.ok ym (YL b0);have o0:D.2.2.2=(Yv n).map fun j=>Go.Wa.V E m a b a j:=by
  have:=E9 C;rw[A,mo c0]at this;exact(Zh this).symm
 have z0:ym.2.2.2=(Yv n).map fun j=>Go.Wa.V E m a b m j:=by
  have:=E9 b0;rw[A,mo d0]at this;exact(Zh this).symm
 have q0:D.2.2.2.getD m io=Go.Wa.V E m a b a m:=by rw[o0,Ye,lO d0];rfl
 have r0:ym.2.2.2.getD b io=Go.Wa.V E m a b m b:=by rw[z0,Ye,lO F];rfl
 have n0:(Go.Wa.V E m a b a m&&Go.Wa.V E m a b m b)=li->dG L=dA n (Go.Wa.V E m a (b+1)):=fun h=>A.trans (mq fun x y _ _=>by
  rw[Go.Wa.V.next,h,Z9];by_cases s0:x=a∧y=b
  .rw[am s0]
  .rw[be s0])
 refine aH (bV (aH (iD (bC 3 ?_))));refine gA Z ?_;refine bC 1 ?_;refine bB ab Z Z Z Z Z (show(L.map fun x=>(sZ n x).map PV.iv)[0+a]? =jp ((sZ n D).map PV.iv) by rw[YC,Yo,C];rfl) Z Z ?_;refine gA Z ?_;refine eK (kv (d:=66) (sz:=1) (df (fT bJ) u.nd C) Z (by omega) k2 k3 k4) fun t Y I=>?_;obtain⟨rfl,rfl⟩:=I;refine bC 2 ?_;refine gA Z ?_;refine bC 1 ?_;refine bB ab Z Z Z Z Z (show(D.2.2.2.map fun x=>(bJ x).map PV.iv)[0+m]? =jp ((bJ (D.2.2.2.getD m io)).map PV.iv) from fm (by omega)) Z Z ?_;refine gA Z ?_;refine bC 1 ?_;refine gA Z ?_;refine eK (xz (b:=D.1) (e:=D.2.1) (i:=2) (o:=aC 1 D.2.2.2 bJ) (bc.dB _ _ _) Z (S _ k1) (jG bJ)) fun t Y I=>?_;obtain⟨rfl,rfl⟩:=I;rw[n6 bJ u C,uW C];refine bC 3 ?_;refine zJ Z Z (fun J=>?_) fun J=>?_
 .have J:Go.Wa.V E m a b a m=lc:=by rw[<-q0];exact J
  refine gA Z ?_;refine bC 1 ?_;refine gM 1 Z (bB ab Z Z Z Z Z (show(L.map fun x=>(sZ n x).map PV.iv)[0+m]? =jp ((sZ n ym).map PV.iv) by rw[YC,Yo,b0];rfl) Z Z ?_);refine gA Z ?_;refine eK (kv (d:=74) (sz:=1) (df (fT bJ) u.nd b0) Z (by omega) j2 j3 j4) fun t Y I=>?_;obtain⟨rfl,rfl⟩:=I;refine bC 2 ?_;refine gA Z ?_;refine bC 1 ?_;refine gM 1 Z (bB ab Z Z Z Z Z (show(ym.2.2.2.map fun x=>(bJ x).map PV.iv)[0+b]? =jp ((bJ (ym.2.2.2.getD b io)).map PV.iv) from fm (by omega)) Z Z ?_);refine gA Z ?_;refine eK (xz (b:=ym.1) (e:=ym.2.1) (i:=3) (o:=aC 1 ym.2.2.2 bJ) (bc.dB _ _ _) Z (S _ j1) (jG bJ)) fun t Y I=>?_;obtain⟨rfl,rfl⟩:=I;rw[n6 bJ u b0,uW b0];refine bC 1 ?_;refine gA Z ?_;refine ff (eV Z (fun q2=>?_) (fun q2=>?_))
  .have q2:Go.Wa.V E m a b m b=lc:=by rw[<-r0];exact q2
   have hw:Go.Wa.V E m a (b+1) a b=lc:=by rw[Go.Wa.V.next,am ⟨rfl,rfl⟩,J,q2];simp
   have G:=CN (n:=n) (f:=Go.Wa.V E m a b) (f':=Go.Wa.V E m a (b+1)) c0 F fun i j _ _=>by
    rw[Go.Wa.V.next m a b i j];by_cases a0:i=a∧j=b
    .rw[am a0,am a0,Go.Wa.V.next,am ⟨rfl,rfl⟩,a0.1,a0.2]
    .rw[be a0,be a0]
   rw[hw]at G;refine VE (L:=[]) (t:=⟨[(0,.iv (gI n g)),(3,.sl 1 0 n 1),(7,pI m),(8,pI a),(9,pI b)],[(1,jp (rO n L))],4⟩) (zW (zS ac)) ?_;refine iD (bC 3 ?_);refine gA Z ?_;refine bC 1 ?_;refine bB ab Z Z Z Z Z (show(L.map fun x=>(sZ n x).map PV.iv)[0+a]? =jp ((sZ n D).map PV.iv) by rw[YC,Yo,C];rfl) Z Z ?_;refine gA Z ?_;refine eK (kv (d:=82) (sz:=1) (df (fT bJ) u.nd C) Z (by omega) k2 k3 k4) fun t Y I=>?_;obtain⟨rfl,rfl⟩:=I;refine bC 2 ?_;refine gA Z ?_;refine bC 1 ?_;refine hZ ab Z Z Z (i:=4) (sz:=1) (q:=0+b) Z Z Z Z (by simp only[YH];omega) Z Z Z Z ?_;refine gA Z ?_;refine eK (xy (i:=4) (o':=aC 1 (D.2.2.2.set b lc) bJ) Z ((zP (sz:=1) (es:=D.2.2.2.map fun x=>(bJ x).map PV.iv) (q:=0+b) (p:= .kb lc) (p':= .iv (iB lc)) (.kb lc)).trans (.of_eq ?_))) fun t Y I=>?_
   .show AO.row 1 ((D.2.2.2.map fun x=>(bJ x).map PV.iv).set (0+b) ((bJ lc).map PV.iv))=AO.row 1 ((D.2.2.2.set b lc).map fun x=>(bJ x).map PV.iv);rw[YC,ZV]
   obtain⟨rfl,rfl⟩:=I;refine eK (xz (b:=D.1) (e:=D.2.1) (i:=4) (o:=aC 1 (D.2.2.2.set b lc) bJ) (bc.dB _ _ _) Z (S _ (by rw[aac];exact k1)) (jG bJ)) fun t Y I=>?_;obtain⟨rfl,rfl⟩:=I;refine ff (lA (b7 (lG (L:=[]) (t:=⟨[(0,.iv (gI n g)),(3,.sl 1 0 n 1),(7,pI m),(8,pI a),(9,pI b)],[(1,jp (rO n (pV L a D (D.2.2.2.set b lc))))],5⟩) (zW (hR Z (Ft C).symm Z ac)) ?_)));refine gA Z ?_
   exact⟨F,⟨pV L a D (D.2.2.2.set b lc)⟩,[],⟨n6 bJ u C,Bo u C (by rw[aac];exact k1),by
    show dG (pV L a D (D.2.2.2.set b lc))=_
    rw[Br,A,o0];exact G⟩,zW (zS ac)⟩
  .have q2:Go.Wa.V E m a b m b=li:=by rw[<-r0];exact q2
   refine fo (lA (b7 ?_));refine gA Z ⟨F,⟨L⟩,[],⟨rfl,u,n0 (by rw[q2,Zv])⟩,zW (zS ac)⟩
 .have J:Go.Wa.V E m a b a m=li:=by rw[<-q0];exact J
  refine gA Z ?_;refine bC 5 ?_;refine gA Z ?_;refine ff ?_
  first
   |refine FX (t:=li) Z ?_
   |refine eV (t:=li) Z (fun q=>nomatch q) (fun _=>?_)
  refine fo (lA (b7 ?_));refine gA Z ⟨F,⟨L⟩,[],⟨rfl,u,n0 (by rw[J,Zm])⟩,zW (zS ac)⟩
theorem zQ{p:Prog}(hf:jP p){i j:Nat}(hi:i<(ns p).length)(hj:j<(ns p).length):ringEq p (vD p i) (vD p j)=(bQ p i j&&bQ p j i):=by
 rw[YU,sU,YB];constructor
 .rintro⟨i',j',hi',hj',h1,h2,h3,h4⟩;obtain rfl:=xt hf hi' hi h1;obtain rfl:=xt hf hj' hj h2;exact⟨h3,h4⟩
 .exact fun h=>⟨i,j,hi,hj,rfl,rfl,h.1,h.2⟩
theorem HV{p:Prog}(hf:jP p){a:aj}(ha:a∈p.aB.map Decl.name): ∃i,i<(ns p).length∧vD p i=a∧JB (ns p) a=(i:Int):=by
 obtain⟨i,b,d⟩:=Go.Rg.kO (V:=ns p) (a:=a) (by rw[ns,db];exact ha);refine⟨i,b,d,?_⟩;have:=KT hf b;rwa[show vD p i=a from d]at this
theorem WA{i:Nat}{α:Prop}(h:lw ((i:Int)>=0)=li):α:=by
 have:=zF h;omega
theorem lN{r:aq}(h:r.size<=10000000):r.body.length<=10000000∧r.head.ae.length<=10000000:=by
 have:=Lit.ax r.body;unfold aq.size at h;exact⟨by omega,by omega⟩
abbrev fI(p:Prog):IV:=wI (ns p).length (bQ p)
theorem GG{p:Prog}(hf:jP p){r:aq}(hr:r∈p.rules)(I:r.size<=10000000):Pure prog 62 [ag r.c,.iv (strs (ns p)),.iv (fI p)] (pB (jm p r)):=by
 have hn:=jr hf;have c0:=dz (ns p).length (bQ p);have Y:=(lN I).1;obtain⟨a,B,D,G⟩:=HV hf (hf.yh r hr);have u:=rf (ns p) r.head.rel;rw[G]at u;have a0:=gE (f:=bQ p) B;refine ad ab func62 Z (by decide) ntmps62 Z (by simp) Z ?_;refine gA Z (zp (u) ?_);refine gA Z ?_;refine ar 0 r.body.length (Yl _) (fun i=>⟨[(1,.iv (strs (ns p))),(2,.iv (fI p)),(3,.ptr 0 0),(7,pI a),(8,pI i)],[(0,jp (ak r.c))],1⟩) (fun i=>(r.body.take i).any (fun l=>lw (l.kind=1)&&ringEq p l.atom.rel r.head.rel)=li) [] Z
  (zW (zK trivial)) fun i hi A=>?_
 refine zE Z Z (fun d=>?_) fun d=>?_
 .have d:=co d;rw[show jm p r=li from any_none A d];exact zU Z
 have d:=ci d;have hl:=bx d;refine zJ Z Z (fun j=>?_) fun j=>?_
 .have j:(!lw ((r.body.getD i io).kind=1))=lc:=j;refine gA Z ⟨d,(a7 A d).2 (by simp only[Z8];exact .inl (by simpa using j)),[],zW (zK ac)⟩
 have j:(r.body.getD i io).kind=1:=zY j;have hm:(r.body.getD i io).atom.rel∈named (r.body.getD i io):=by rw[ql,am (.inl j)];exact aae _
 obtain⟨b,hb,F,y⟩:=HV hf (hf.lits r hr _ hl _ hm);have x:=rf (ns p) (r.body.getD i io).atom.rel;rw[y]at x;have b0:=gE (f:=bQ p) hb;have J:=jR (f:=bQ p) B hb;have S:=jR (f:=bQ p) hb B;have C:(lw ((r.body.getD i io).kind=1)&&ringEq p (r.body.getD i io).atom.rel r.head.rel)=(bQ p b a&&bQ p a b):=by
  rw[decide_eq_true j,Zc,<-D,<-F,zQ hf hb B]
 refine gA Z (zp (x) ?_);refine zE Z Z (fun g1=>?_) fun g1=>?_
 .exact WA g1
 refine zE Z Z (fun g2=>?_) fun g2=>?_
 .exact WA g2
 refine zE Z Z (fun g3=>?_) fun g3=>?_
 .have g3:bQ p a b=li:=by rw[<-J];exact g3
  refine gA Z ⟨d,(a7 A d).2 (by rw[C,g3,Zv]),[],zW (zK ac)⟩
 have g3:bQ p a b=lc:=by rw[<-J];exact g3
 refine zJ Z Z (fun g4=>?_) fun g4=>?_
 .have g4:bQ p b a=lc:=by rw[<-S];exact g4
  rw[show jm p r=lc from ji d (by rw[C,g3,g4];rfl)];exact zU Z
 .have g4:bQ p b a=li:=by rw[<-S];exact g4
  refine gA Z ⟨d,(a7 A d).2 (by rw[C,g4,Zm]),[],zW (zK ac)⟩
theorem It(r:aq)(y:r.size<=10000000):Pure prog 104 [ag r.c] (pB (iF r)):=by
 have A:=(lN y).2;refine ad ab func104 Z (by decide) ntmps104 Z (by simp) Z ?_;refine gA Z (zp (c34 r (by omega)) ?_);refine gA Z ?_;refine ar 0 r.head.ae.length (Yl _) (fun i=>⟨[(1,.ptr 0 0),(3,.iv (strs (fN r))),(4,pI i)],[(0,jp (ak r.c))],1⟩) (fun i=>(r.head.ae.take i).any (fun t=>lw (t.kind=1)&&!ch (fN r) t.var)=li) [] Z
  (zW (zK trivial)) fun i B x=>?_
 refine zE Z Z (fun b=>?_) fun b=>?_
 .have b:=co b;rw[show iF r=li from any_none x b];exact zU Z
 have b:=ci b;refine zE Z Z (fun d=>?_) fun d=>?_
 .have d:lw ((r.head.ae.getD i io).kind=1)=li:=d;refine gA Z ⟨b,(a7 x b).2 (by rw[d,Zm]),[],zW (zK ac)⟩
 have d:lw ((r.head.ae.getD i io).kind=1)=lc:=d;have u:=Vm (fN r) (r.head.ae.getD i io).var;refine gA Z (zp (rf (fN r) (r.head.ae.getD i io).var) ?_);refine zJ Z Z (fun j=>?_) fun j=>?_
 .have j:lw (JB (fN r) (r.head.ae.getD i io).var<0)=lc:=j;rw[show iF r=lc from ji b (by rw[d,<-u,j];rfl)];exact zU Z
 .have j:lw (JB (fN r) (r.head.ae.getD i io).var<0)=li:=j;refine gA Z ⟨b,(a7 x b).2 (by rw[d,<-u,j];rfl),[],zW (zK ac)⟩
def stL(p:Prog)(r:aq)(l:Lit):Bool:=lw (l.kind≠1)&&(named l).any fun t=>ringEq p t r.head.rel
theorem OK{p:Prog}(hf:jP p){r:aq}(hr:r∈p.rules)(x:r.size<=10000000):Pure prog 66 [ag r.c,.iv (strs (ns p)),.iv (fI p)] (ag (ew p r).c):=by
 have hn:=jr hf;have k0:=dz (ns p).length (bQ p);have f0:=(lN x).1;obtain⟨a,J,a0,d0⟩:=HV hf (hf.yh r hr);have D:=rf (ns p) r.head.rel;rw[d0]at D;have i0:=gE (f:=bQ p) J;refine ad ab func66 Z (by decide) ntmps66 Z (by simp) Z ?_;refine gA Z (zp (D) ?_);refine gA Z ?_;refine ar 0 r.body.length (Yl _) (fun i=>⟨[(1,.iv (strs (ns p))),(2,.iv (fI p)),(3,.ptr 0 0),(6,.ptr 1 0),(7,pI a),(8,pI i)],[(0,jp (ak r.c)),(1,jp (ak aT.z.c))],2⟩) (fun i=>(r.body.take i).any (stL p r)=li) [] Z
  (zW (zK (zK trivial))) fun i hi S=>?_
 refine zE Z Z (fun j=>?_) fun j=>?_
 .have j:=co j;have y:lK p r=kw:=eP (any_none S j);have hw:ew p r=if iF r=lc∧jm p r=lc then(71,r.at_) else aT.z:=by rw[ew,y]
  refine gA Z (zp (GG hf hr x) ?_);refine zJ Z Z (fun g1=>?_) fun g1=>?_
  .have g1:jm p r=lc:=g1;refine gA Z (zp (It r x) ?_);refine zJ Z Z (fun g2=>?_) fun g2=>?_
   .have g2:iF r=lc:=g2;rw[hw,am ⟨g2,g1⟩];exact zU Z
   .have g2:iF r=li:=g2;rw[hw,be (by rw[g2];exact fun h=>nomatch h.1)];exact zU Z
  .have g1:jm p r=li:=g1;rw[hw,be (by rw[g1];exact fun h=>nomatch h.2)];exact zU Z
 have j:=ci j;have hl:=bx j;have c0:=xV _ (hf.flat r hr _ hl);have g0:=kD (r.body.getD i io);have e0:(r.body.getD i io).size<=10000000:=by have:=Lit.aS r.body i j;unfold aq.size at x;omega
 have C:=hf.lits r hr _ hl;have B:=RX (r.body.getD i io) (by omega);rw[<-c0]at B;refine gA Z (zp (B) ?_);refine gA Z ?_;refine ar 0 (named (r.body.getD i io)).length (Yl _) (fun k=>⟨[(1,.iv (strs (ns p))),(2,.iv (fI p)),(3,.ptr 0 0),(6,.ptr 1 0),(7,pI a),(8,pI i),(9,.iv (strs (named (r.body.getD i io)))),(10,pI k)],[(0,jp (ak r.c)),(1,jp (ak aT.z.c))],2⟩) (fun k=>((named (r.body.getD i io)).take k).any (fun t=>lw ((r.body.getD i io).kind≠1)&&ringEq p t r.head.rel)=li) [] Z
  (zW (zK (zK trivial))) fun k hk I=>?_
 refine zE Z Z (fun d=>?_) fun d=>?_
 .have d:(named (r.body.getD i io)).length<=k:=by simpa using d
  have A:=any_none I d;refine gA Z ?_;refine⟨j,(a7 S j).2 ?_,[],zW (zK (zK ac))⟩;unfold stL;generalize lw ((r.body.getD i io).kind≠1)=c at A;cases c with
  |false=>rfl
  |true=>simpa using A
 have d:k<(named (r.body.getD i io)).length:=by simpa using d
 have ht:=bx d;obtain⟨b,hb,b0,G⟩:=HV hf (C _ ht);have F:=rf (ns p) ((named (r.body.getD i io)).getD k io);rw[G]at F;have j0:=gE (f:=bQ p) hb;have e1:=jR (f:=bQ p) J hb;have e2:=jR (f:=bQ p) hb J;have Y:ringEq p ((named (r.body.getD i io)).getD k io) r.head.rel=(bQ p b a&&bQ p a b):=by
  rw[<-a0,<-b0,zQ hf hb J]
 refine gA Z (zp (F) ?_);refine zE Z Z (fun u=>?_) fun u=>?_
 .have u:lw ((r.body.getD i io).kind≠1)=li:=by
   have u:(!lw ((r.body.getD i io).kind=1))=li:=u;simpa using u
  refine gA Z ⟨d,(a7 I d).2 (by rw[u,Zm]),[],zW (zK (zK ac))⟩
 have u:lw ((r.body.getD i io).kind≠1)=lc:=by
  have u:(!lw ((r.body.getD i io).kind=1))=lc:=u;simpa using u
 refine zE Z Z (fun g1=>?_) fun g1=>?_
 .exact WA g1
 refine zE Z Z (fun g2=>?_) fun g2=>?_
 .exact WA g2
 refine zE Z Z (fun g3=>?_) fun g3=>?_
 .have g3:bQ p a b=li:=by rw[<-e1];exact g3
  refine gA Z ⟨d,(a7 I d).2 (by rw[Y,g3,Zv,Zv]),[],zW (zK (zK ac))⟩
 have g3:bQ p a b=lc:=by rw[<-e1];exact g3
 refine zJ Z Z (fun g4=>?_) fun g4=>?_
 .have g4:bQ p b a=lc:=by rw[<-e2];exact g4
  have y:lK p r=jp (r.body.getD i io):=j9 S j (by
   show(lw ((r.body.getD i io).kind≠1)&&(named (r.body.getD i io)).any fun t=>ringEq p t r.head.rel)=lc;rw[u,Zc]
   exact ji d (by rw[Y,g3,g4];rfl))
  rw[show ew p r=(70,(r.body.getD i io).at) by rw[ew,y]];exact zU Z
 .have g4:bQ p b a=li:=by rw[<-e2];exact g4
  refine gA Z ⟨d,(a7 I d).2 (by rw[Y,g4,Zm,Zv]),[],zW (zK (zK ac))⟩
theorem V5(a:Atom)(hb:a.ae.length<=100000000000):Pure prog 58 [ag a.c,ag a.c] (pB lc):=by
 refine ad ab func58 Z (by decide) ntmps58 Z (by simp) Z ?_
 repeat(refine gA Z (zI (fun q=>?_) (fun q=>?_));all_goals(try(simp at q;done)))
 refine gA Z ?_;refine ar 0 a.ae.length (Yl _) (fun i=>⟨[(2,.ptr 0 0),(3,.ptr 1 0),(5,pI i)],[(0,jp (ak a.c)),(1,jp (ak a.c))],2⟩) (fun _=>True) [] ac
  (zW (zK (zK trivial))) fun i d _=>?_
 refine zJ Z Z (fun b=>?_) fun b=>?_
 .have b:=ci b
  repeat(refine gA Z (zI (fun q=>?_) (fun q=>?_));all_goals(try(simp at q;done)))
  refine gA Z ⟨b,ac,[],zW (zK (zK ac))⟩
 .have b:=co b;exact zU Z
theorem Sg: ∀(n:Nat) (e:Expr),e.size<=n->e.size<=100000000000->Pure prog 100 [ag e.c,ag e.c] (pB lc)
 |0,e,h,_=>absurd e.size_pos (by omega)
 |n+1,e,h,hb=>by
  have j:=e.size_eq;have d:=Expr.ax e.args;refine Al.Pure.le (aa:=[ag e.c,ag e.c]) (args:=[ag e.c1,ag e.c1]) ?_ ⟨e.x9,e.x9,ac⟩;refine ad ab func100 Z (by decide) ntmps100 Z (by simp) Z ?_
  repeat(refine gA Z (zI (fun q=>?_) (fun q=>?_));all_goals(try(simp at q;done)))
  refine gA Z ?_;refine ar 0 e.args.length (Yl _) (fun i=>⟨[(2,.ptr 0 0),(3,.ptr 1 0),(5,pI i)],[(0,jp (ak e.c1)),(1,jp (ak e.c1))],2⟩) (fun _=>True) [] ac
   (zW (zK (zK trivial))) fun i x _=>?_
  refine zJ Z Z (fun b=>?_) fun b=>?_
  .have b:=ci b;have u:=Expr.aS e.args i b;refine gA Z (kR (Sg n (e.args.getD i io) (by omega) (by omega)) ?_)
   repeat(refine gA Z (zI (fun q=>?_) (fun q=>?_));all_goals(try(simp at q;done)))
   refine gA Z ⟨b,ac,[],zW (zK (zK ac))⟩
  .have b:=co b;exact zU Z
theorem MF(e:Expr)(hb:e.size<=100000000000):Pure prog 100 [ag e.c,ag e.c] (pB lc):=Sg e.size e (Ym _) hb
theorem Xf: ∀(n:Nat) (l:List Lit),Lit.aA l<=n->Lit.aA l<=100000000000->Pure prog 59 [.iv (lits l),.iv (lits l)] (pB lc):=by
 intro n
 induction n with
 |zero=>
  intro l h hb;have u:=Lit.ax l;have d:l=[]:=ZP.1 (by omega);subst d;refine ad ab func59 Z (by decide) ntmps59 Z (by simp) Z ?_
  repeat(refine gA Z (zI (fun q=>?_) (fun q=>?_));all_goals(try(simp at q;done)))
  refine gA Z ?_;refine ar 0 0 (Yl _) (fun i=>⟨[(0,.iv (lits [])),(1,.iv (lits [])),(5,pI i)],[],0⟩) (fun _=>True) [] ac (kT Z Z (bv (bv (bv ac))) Z) fun i j _=>?_;refine zJ Z Z (fun b=>?_) fun b=>?_
  .simp at b;omega
  .exact zU Z
 |succ n ih=>
  intro l h hb;have u:=Lit.ax l;refine ad ab func59 Z (by decide) ntmps59 Z (by simp) Z ?_
  repeat(refine gA Z (zI (fun q=>?_) (fun q=>?_));all_goals(try(simp at q;done)))
  refine gA Z ?_;refine ar 0 l.length (Yl _) (fun i=>⟨[(0,.iv (lits l)),(1,.iv (lits l)),(5,pI i)],[],0⟩) (fun _=>True) [] ac (kT Z Z (bv (bv (bv ac))) Z) fun i j _=>?_;refine zJ Z Z (fun b=>?_) fun b=>?_
  .have b:=ci b;have y:=Lit.aS l i b;have x:=(l.getD i io).size_eq
   repeat(refine gA Z (zI (fun q=>?_) (fun q=>?_));all_goals(try(simp at q;done)))
   refine gA Z (zp (V5 (l.getD i io).atom (by omega)) ?_)
   repeat(refine gA Z (zI (fun q=>?_) (fun q=>?_));all_goals(try(simp at q;done)))
   refine gA Z (zp (MF (l.getD i io).left (by omega)) ?_)
   repeat(refine gA Z (zI (fun q=>?_) (fun q=>?_));all_goals(try(simp at q;done)))
   refine gA Z (zp (MF (l.getD i io).right (by omega)) ?_)
   repeat(refine gA Z (zI (fun q=>?_) (fun q=>?_));all_goals(try(simp at q;done)))
   repeat(refine gA Z (zI (fun q=>?_) (fun q=>?_));all_goals(try(simp at q;done)))
   refine gA Z (zp (MF (l.getD i io).kQ (by omega)) ?_)
   repeat(refine gA Z (zI (fun q=>?_) (fun q=>?_));all_goals(try(simp at q;done)))
   refine gA Z (bn (Al.Pure.le (aa:=[.iv (uI (l.getD i io).au),.iv (uI (l.getD i io).au)]) (ih (l.getD i io).au (by omega) (by omega)) ⟨.iv (ly _),.iv (ly _),ac⟩) Z Z Z Z Z Z ?_)
   repeat(refine gA Z (zI (fun q=>?_) (fun q=>?_));all_goals(try(simp at q;done)))
   refine gA Z ⟨b,ac,[],zW ac⟩
  .have b:=co b;exact zU Z
theorem Xe(l:List Lit)(hb:Lit.aA l<=100000000000):Pure prog 59 [.iv (lits l),.iv (lits l)] (pB lc):=Xf _ l (Ym _) hb
set_option maxHeartbeats 800000 in
theorem XD(p:Prog)(hb:p.size<=100000000000):Pure prog 19 [ag p.c,ag p.c] (pB lc):=by
 have y:p.size=p.aB.length+(p.aB.map fun d=>d.types.length).sum+p.rules.length+(p.rules.map aq.size).sum:=rfl;refine ad ab func19 Z (by decide) ntmps19 Z (by simp) Z ?_
 repeat(refine gA Z (zI (fun q=>?_) (fun q=>?_));all_goals(try(simp at q;done)))
 refine gA Z ?_;refine ar 0 p.aB.length (Yl _) (fun i=>⟨[(2,.ptr 0 0),(3,.ptr 1 0),(5,pI i)],[(0,jp (ak p.c)),(1,jp (ak p.c))],2⟩) (fun _=>True) [] ac
  (zW (zK (zK trivial))) fun i x _=>?_
 refine zJ Z Z (fun j=>?_) fun j=>?_
 .have j:=ci j;have u:=ra (fun d:Decl=>d.types.length) p.aB i j
  repeat(refine gA Z (zI (fun q=>?_) (fun q=>?_));all_goals(try(simp at q;done)))
  refine gA Z ?_;refine ar 0 (p.aB.getD i io).types.length (Yl _) (fun k=>⟨[(2,.ptr 0 0),(3,.ptr 1 0),(5,pI i),(6,.ptr 2 0),(7,.ptr 3 0),(8,pI k)],[(0,jp (ak p.c)),(1,jp (ak p.c)),(2,jp (ak (p.aB.getD i io).c)),(3,jp (ak (p.aB.getD i io).c))],4⟩) (fun _=>True) [] ac
   (zW (zK (zK (zK (zK trivial))))) fun k B _=>?_
  refine zJ Z Z (fun b=>?_) fun b=>?_
  .have b:k<(p.aB.getD i io).types.length:=by simpa using b
   repeat(refine gA Z (zI (fun q=>?_) (fun q=>?_));all_goals(try(simp at q;done)))
   refine gA Z ⟨b,ac,[],zW (zK (zK (zK (zK ac))))⟩
  .have b:(p.aB.getD i io).types.length<=k:=by simpa using b
   refine gA Z ⟨j,ac,[],zW (zK (zK ac))⟩
 .have j:=co j;refine gA Z ?_;refine ar 0 p.rules.length (Yl _) (fun i=>⟨[(2,.ptr 0 0),(3,.ptr 1 0),(9,pI i)],[(0,jp (ak p.c)),(1,jp (ak p.c))],2⟩) (fun _=>True) [] ac
   (zW (zK (zK trivial))) fun i x _=>?_
  refine zJ Z Z (fun b=>?_) fun b=>?_
  .have b:=ci b;have u:=ra aq.size p.rules i b;have A:(p.rules.getD i io).size=(p.rules.getD i io).head.ae.length+Lit.aA (p.rules.getD i io).body:=rfl
   repeat(refine gA Z (zI (fun q=>?_) (fun q=>?_));all_goals(try(simp at q;done)))
   refine gA Z (zp (V5 (p.rules.getD i io).head (by omega)) ?_)
   repeat(refine gA Z (zI (fun q=>?_) (fun q=>?_));all_goals(try(simp at q;done)))
   refine gA Z (zp (Xe (p.rules.getD i io).body (by omega)) ?_)
   repeat(refine gA Z (zI (fun q=>?_) (fun q=>?_));all_goals(try(simp at q;done)))
   refine gA Z ⟨b,ac,[],zW (zK (zK ac))⟩
  .have b:=co b;exact zU Z
abbrev pU(n:Int):PV:= .iv (.v (.int .u8 n))
def gH(c:Int):Bool:=lw (c>=97)&&lw (c<=122)
def tC(c:Int):Bool:=lw (c>=65)&&lw (c<=90)
def Gc(c:Int):Bool:=(lw (c>=48)&&lw (c<=57))||decide (c=95)
theorem Wo(c:Int):Pure prog 206 [pU c] (pB (gH c)):=by
 refine ad ab func206 Z (by decide) ntmps206 Z (by simp) Z ?_
 repeat' (first|(refine gA Z (zI (fun _=>?_) (fun _=>?_)))|(refine gA Z (zL (.of_eq ?_))))
 all_goals(refine(fx ?_:pB _=pB _);simp_all [gH];try omega)
theorem XO(c:Int):Pure prog 231 [pU c] (pB (tC c)):=by
 refine ad ab func231 Z (by decide) ntmps231 Z (by simp) Z ?_
 repeat' (first|(refine gA Z (zI (fun _=>?_) (fun _=>?_)))|(refine gA Z (zL (.of_eq ?_))))
 all_goals(refine(fx ?_:pB _=pB _);simp_all [tC];try omega)
theorem XP(c:Int):Pure prog 230 [pU c] (pB (Gc c)):=by
 refine ad ab func230 Z (by decide) ntmps230 Z (by simp) Z ?_
 repeat' (first|(refine gA Z (zI (fun _=>?_) (fun _=>?_)))|(refine gA Z (zL (.of_eq ?_))))
 all_goals(refine(fx ?_:pB _=pB _);simp_all [Gc];try omega)
theorem G5(b:UInt8):okB b=(Gc (b.toNat:Int)||(gH (b.toNat:Int)||tC (b.toNat:Int))):=by
 unfold okB M8 Gc gH tC;rw[YU];simp only[Y3,YB,decide_eq_true_iff];omega
def cB(s:aj)(i:Nat):UInt8:=s.data.toList.getD i 0
def fJ(s:aj):Bool:=lw (1<=s.size)&&(lw (s.size<=32)&&(Yv s.size).all fun i=>lw (i=0)||okB (cB s i))
theorem GW{s:aj}(h0: ¬s.size<1)(h1: ¬s.size>32)(h: ∀j,1<=j->j<s.size->okB (cB s j)=lc):fJ s=lc:=by
 unfold fJ;rw[decide_eq_true (show 1<=s.size by omega),decide_eq_true (show s.size<=32 by omega),Zc,Zc,YG];intro j b;by_cases d:j=0
 .simp[d]
 .rw[h j (by omega) (YM.1 b)];simp
theorem GY{s:aj}{j:Nat}(hj:1<=j)(h1:j<s.size)(h:okB (cB s j)=li):fJ s=li:=by
 rw[<-ZQ];intro b;unfold fJ at b;simp only[YB,YG]at b;have:=b.2.2 j (YM.2 h1);rw[h,decide_eq_false (by omega)]at this;cases this
theorem c99(s:aj):Pure prog 204 [pS s] (pB (fJ s)):=by
 refine ad ab func204 Z (by decide) ntmps204 Z (by simp) Z ?_;refine zE Z Z (fun g1=>?_) fun g1=>?_
 .have g1:s.size<1:=by
   have:=zT (show lw ((s.size:Int)<1)=lc from g1);omega
  refine gA Z (zL (.of_eq ?_));refine(fx ?_:pB li=_);unfold fJ;rw[decide_eq_false (show¬1<=s.size by omega)];rfl
 have g1: ¬s.size<1:=by
  have:=zF (show lw ((s.size:Int)<1)=li from g1);omega
 refine zJ Z Z (fun g2=>?_) fun g2=>?_
 .have g2:s.size>32:=by
   have:=zT (show lw ((s.size:Int)>32)=lc from g2);omega
  refine gA Z (zL (.of_eq ?_));refine(fx ?_:pB li=_);unfold fJ;rw[decide_eq_false (show¬s.size<=32 by omega)];simp
 have g2: ¬s.size>32:=by
  have:=zF (show lw ((s.size:Int)>32)=li from g2);omega
 refine gA Z ?_;refine ar 1 s.size (by omega) (fun i=>⟨[(0,pS s),(3,pI i)],[],0⟩) (fun i=>1<=i∧ ∀j,1<=j->j<i->okB (cB s j)=lc) [] ⟨Ym _,fun j d I=>by omega⟩ (kT Z Z (bv (bv ac)) Z) fun i J C=>?_;obtain⟨D,C⟩:=C;refine zJ Z Z (fun d=>?_) fun d=>?_
 .have d:=ci d;have u:=G5 (cB s i);have x:okB (cB s i)=lc-> ∀j,1<=j->j<i+1->okB (cB s j)=lc:=fun h j a b=>by
   by_cases G:j=i
   .subst G;exact h
   .exact C j a (by omega)
  refine gA Z (zp (XP ((cB s i).toNat:Int)) ?_);refine gA Z (zp (Wo ((cB s i).toNat:Int)) ?_);refine gA Z (zp (XO ((cB s i).toNat:Int)) ?_);refine zJ Z Z (fun y=>?_) fun y=>?_
  .have y:Gc ((cB s i).toNat:Int)=li:=by simpa using y
   refine zJ Z Z (fun A=>?_) fun A=>?_
   .have A:gH ((cB s i).toNat:Int)=li:=by simpa using A
    refine zJ Z Z (fun B=>?_) fun B=>?_
    .have B:tC ((cB s i).toNat:Int)=li:=by simpa using B
     rw[y,A,B]at u;rw[GY D d u];exact zU Z
    .have B:tC ((cB s i).toNat:Int)=lc:=by simpa using B
     rw[B]at u;refine gA Z ⟨d,⟨by omega,x (by rw[u];simp)⟩,[],kT Z Z (bv (bv ac)) Z⟩
   .have A:gH ((cB s i).toNat:Int)=lc:=by simpa using A
    rw[A]at u
    repeat(refine gA Z (zI (fun q=>?_) (fun q=>?_));all_goals(try(simp at q;done)))
    refine gA Z ⟨d,⟨by omega,x (by rw[u];simp)⟩,[],kT Z Z (bv (bv ac)) Z⟩
  .have y:Gc ((cB s i).toNat:Int)=lc:=by simpa using y
   rw[y]at u
   repeat(refine gA Z (zI (fun q=>?_) (fun q=>?_));all_goals(try(simp at q;done)))
   refine gA Z ⟨d,⟨by omega,x (by rw[u];simp)⟩,[],kT Z Z (bv (bv ac)) Z⟩
 .have d:=co d;have F:i=s.size:=by omega
  subst F;rw[GW g1 g2 C];exact zU Z
theorem X5(s:aj):Pure prog 205 [pS s] (pB (Dg s)):=by
 refine ad ab func205 Z (by decide) ntmps205 Z (by simp) Z ?_
 repeat' (first|(refine gA Z (zI (fun _=>?_) (fun _=>?_)))|(refine gA Z (zL (.of_eq ?_))))
 all_goals(refine(fx ?_:pB _=pB _))
 all_goals(simp only[Dg,O3,abd,List.any_nil, *];rfl)
theorem u6(s:aj)(h:fJ s=lc):pz s 97 122=gH (hd s):=by
 unfold fJ at h;simp only[YB,YG,decide_eq_true_iff]at h;obtain⟨y,B,C⟩:=h;have u: ¬s=⟨#[]⟩:=fun e=>by rw[e]at y;exact absurd y (by decide)
 unfold pz gH;rw[decide_eq_false u,decide_eq_true B,aaC,Zc,Zc];rw[YU];simp only[YB,decide_eq_true_iff,YG];constructor
 .rintro⟨a,b,_⟩;exact⟨a,b⟩
 .rintro⟨a,b⟩;refine⟨a,b,fun x D=>?_⟩;obtain⟨j,A,rfl⟩:=ZA.1 D;have d:j<s.size:=by simpa using A
  have:=C j (YM.2 d);rw[Y3,decide_eq_true_iff]at this;have hb:cB s j=s.data.toList[j]:=by
   unfold cB;rw[Ye,Yi A];rfl
  rcases this with rfl|this
  .rw[<-hb,G5];have:hd s=((cB s 0).toNat:Int):=rfl;rw[<-this];have:gH (hd s)=lc:=by unfold gH;simp[a,b]
   rw[this];simp
  .rw[<-hb];exact this
theorem u5(s:aj)(A hi:Int)(h:fJ s=li):pz s A hi=li:=by
 rw[<-ZQ];intro u;rw[<-ZQ]at h;apply h;unfold pz at u;simp only[YB,YG,decide_eq_true_iff]at u;obtain⟨x,B,_,_,y⟩:=u;have D:1<=s.size:=GA (by simpa using x);refine GW (by omega) (by omega) fun j C d=>?_;have b:j<s.data.toList.length:=by simpa using d
 have:cB s j=s.data.toList[j]:=by
  unfold cB;rw[Ye,Yi b];rfl
 rw[this];exact y _ (YZ b)
theorem c56(s:aj):Pure prog 173 [pS s] (pB (eC s)):=by
 refine ad ab func173 Z (by decide) ntmps173 Z (by simp) Z ?_;refine gA Z (zp (c99 s) ?_);refine gA Z (zp (X5 s) ?_);refine zJ Z Z (fun g1=>?_) fun g1=>?_
 .have g1:fJ s=lc:=g1;have b:0<s.size:=by
   unfold fJ at g1;simp only[YB,decide_eq_true_iff]at g1;omega
  refine zJ Z Z (fun g2=>?_) fun g2=>?_
  .have g2:Dg s=li:=by simpa using g2
   refine gA Z (zp (Wo (hd s)) ?_);refine gA Z (zL (.of_eq ?_));refine(fx ?_:pB _=pB _);rw[eC,g2,u6 s g1];rfl
  .have g2:Dg s=lc:=by simpa using g2
   refine gA Z (zL (.of_eq ?_));refine(fx ?_:pB _=pB _);rw[eC,g2];rfl
 .have g1:fJ s=li:=by simpa using g1
  repeat(refine gA Z (zI (fun q=>?_) (fun q=>?_));all_goals(try(simp at q;done)))
  refine gA Z (zL (.of_eq ?_));refine(fx ?_:pB _=pB _);rw[eC,u5 s 97 122 g1];simp
def findD(l:List Decl)(s:aj):Option Decl:=l.find? fun d=>lw (d.name=s)
theorem I1{V:Type}{m:List ((KC.str).K×V)}{k s:aj}{v:V}:ej .str (ck .str m k v) s=(lw (k=s)||ej .str m s):=by
 rw[YU,Y3,decide_eq_true_iff,qu,qu];by_cases h:k∈m.map YI
 .rw[pc h];constructor
  .exact .inr
  .rintro(rfl|h2)
   .exact h
   .exact h2
 .rw[dX h,Ys,Yr];constructor
  .rintro(h2|h2)
   .exact .inr h2
   .exact .inl h2.symm
  .rintro(h2|h2)
   .exact .inr h2.symm
   .exact .inl h2
theorem u9(s:aj): ∀(l:List Decl) (m:DM),ej .str (l.foldl iw m) s=(ej .str m s||(findD l s).isSome)∧bY .str (l.foldl iw m) s Decl.z=if ej .str m s=lc then bY .str m s Decl.z else(findD l s).getD Decl.z
 | [],m=>by
  refine⟨by simp[findD],?_⟩;simp only[List.foldl_nil,findD,List.find?_nil,Option.getD_none];cases h:ej .str m s with
  |true=>rfl
  |false=>
   rw[be (by simp)];refine xZ fun b=>?_
   rw[qu.2 b]at h;cases h
 |d::l,m=>by
  rw[YN];obtain⟨j,b⟩:=u9 s l (iw m d);rw[j,b];have u:findD (d::l) s=if d.name=s then jp d else findD l s:=by
   unfold findD;rw[ZN];by_cases h:d.name=s
   .rw[decide_eq_true h,am h]
   .rw[decide_eq_false h,be h]
  rw[u];unfold iw;cases hk:ej .str m d.name with
  |true=>
   simp only[if_true];by_cases h:d.name=s
   .subst h;simp[hk]
   .rw[be h];exact⟨rfl,rfl⟩
  |false=>
   simp only[ZH,if_false];rw[I1,iZ];by_cases h:d.name=s
   .subst h;simp[hk]
   .rw[be h,be h,decide_eq_false h];exact⟨rfl,rfl⟩
theorem O5(p:Prog)(s:aj):ej .str (zV p) s=(findD p.aB s).isSome:=by
 have:=(u9 s p.aB []).1;rw[show ej .str ([]:DM) s=li from rfl,Zt]at this;exact this
theorem KJ(p:Prog)(s:aj):ik p s=(findD p.aB s).getD Decl.z:=by
 have:=(u9 s p.aB []).2;rw[show ej .str ([]:DM) s=li from rfl,be (by simp)]at this;exact this
theorem Ja{l:List Decl}{s:aj}{i:Nat}(b:findD (l.take i) s=kw)(hi:i<l.length)(h: ¬(l.getD i io).name=s):findD (l.take (i+1)) s=kw:=by
 unfold findD at*
 rw[aK hi,aaZ,b,ZN,decide_eq_false h];rfl
theorem L8{l:List Decl}{s:aj}{i:Nat}(b:findD (l.take i) s=kw)(hi:i<l.length)(h:(l.getD i io).name=s):findD l s=jp (l.getD i io):=by
 unfold findD at*
 have e:l=l.take i++(l.getD i io::l.drop (i+1)):=by
  rw[Ye,Yi hi,ZG,List.getElem_cons_drop,List.take_append_drop]
 have key:(l.take i++(l.getD i io::l.drop (i+1))).find? (fun d=>lw (d.name=s))=jp (l.getD i io):=by
  rw[aaZ,b,ZN,decide_eq_true h];rfl
 rwa[<-e]at key
theorem Xg(p:Prog)(s:aj)(hb:p.aB.length<=1000000000000):Pure prog 235 [ag p.c,pS s] (.bX [ag (ik p s).c,pB (ej .str (zV p) s)]):=by
 rw[O5,KJ];refine ad ab func235 Z (by decide) ntmps235 Z (by simp) Z ?_;refine gA Z ?_;refine ar 0 p.aB.length (Yl _) (fun i=>⟨[(1,pS s),(2,.ptr 0 0),(4,.ptr 1 0),(6,pI i)],[(0,jp (ak p.c)),(1,jp (.cells [pS Yp,.iv (.v (.slice kw 0 0)),pI 0,pI 0]))],2⟩) (fun i=>findD (p.aB.take i) s=kw) [] Z
  (zW (zK (zO trivial))) fun i x j=>?_
 refine zJ Z Z (fun b=>?_) fun b=>?_
 .have b:=ci b;refine zJ Z Z (fun d=>?_) fun d=>?_
  .have d:(p.aB.getD i io).name=s:=by simpa using d
   refine gA Z (zL ?_);rw[L8 j b d];exact .refl _
  .have d: ¬(p.aB.getD i io).name=s:=by simpa using d
   refine gA Z ⟨b,Ja j b d,[],zW (zK (zO ac))⟩
 .have b:=co b;have u:i=p.aB.length:=by omega
  subst u;rw[Yn (Ym _)]at j;rw[j];refine gA Z (zL ?_);exact .bX ⟨.agg ⟨.refl _,.nil _ _,.refl _,.refl _,ac⟩,.refl _,ac⟩
theorem Wb(c:Int):Pure prog 287 [pU c] (pB (gH c)):=by
 refine ad ab func287 Z (by decide) ntmps287 Z (by simp) Z ?_
 repeat' (first|(refine gA Z (zI (fun _=>?_) (fun _=>?_)))|(refine gA Z (zL (.of_eq ?_))))
 all_goals(refine(fx ?_:pB _=pB _);simp_all [gH];try omega)
theorem V6(c:Int):Pure prog 298 [pU c] (pB (tC c)):=by
 refine ad ab func298 Z (by decide) ntmps298 Z (by simp) Z ?_
 repeat' (first|(refine gA Z (zI (fun _=>?_) (fun _=>?_)))|(refine gA Z (zL (.of_eq ?_))))
 all_goals(refine(fx ?_:pB _=pB _);simp_all [tC];try omega)
def Jj(c:Int):Bool:=lw (c>=48)&&lw (c<=57)
theorem Xv(c:Int):Pure prog 299 [pU c] (pB (Jj c)):=by
 refine ad ab func299 Z (by decide) ntmps299 Z (by simp) Z ?_
 repeat' (first|(refine gA Z (zI (fun _=>?_) (fun _=>?_)))|(refine gA Z (zL (.of_eq ?_))))
 all_goals(refine(fx ?_:pB _=pB _);simp_all [Jj];try omega)
theorem Xy(s:aj):Pure prog 288 [pS s] (pB (Dg s)):=by
 refine ad ab func288 Z (by decide) ntmps288 Z (by simp) Z ?_
 repeat' (first|(refine gA Z (zI (fun _=>?_) (fun _=>?_)))|(refine gA Z (zL (.of_eq ?_))))
 all_goals(refine(fx ?_:pB _=pB _))
 all_goals(simp only[Dg,O3,abd,List.any_nil, *];rfl)
theorem O2{s:aj}(h: ∀j,1<=j->j<s.size->okB (cB s j)=lc):fJ s=(lw (1<=s.size)&&lw (s.size<=32)):=by
 unfold fJ;have:((Yv s.size).all fun i=>lw (i=0)||okB (cB s i))=lc:=by
  rw[YG];intro j b;by_cases d:j=0
  .simp[d]
  .rw[h j (by omega) (YM.1 b)];simp
 rw[this,aaF]
theorem Wc(s:aj)(hs:s.size<=1000000000000):Pure prog 286 [pS s] (pB (fJ s)):=by
 refine ad ab func286 Z (by decide) ntmps286 Z (by simp) Z ?_;refine gA Z ?_;by_cases Y:s.size=0
 .have J:fJ s=li:=by unfold fJ;rw[decide_eq_false (by omega)];rfl
  rw[J];refine ar 1 1 (by omega) (fun i=>⟨[(0,pS s),(3,pI i)],[],0⟩) (fun i=>i=1) [] Z (kT Z Z (bv (bv ac)) Z) fun i S D=>?_;subst D;refine zJ Z Z (fun d=>?_) fun d=>?_
  .have d:(1:Int)<s.size:=zT d;omega
  .refine zJ Z Z (fun F=>?_) fun F=>?_
   .have:=zT (show lw ((s.size:Int)>=1)=lc from F);omega
   .exact zU Z
 refine ar 1 s.size (by omega) (fun i=>⟨[(0,pS s),(3,pI i)],[],0⟩) (fun i=>1<=i∧ ∀j,1<=j->j<i->okB (cB s j)=lc) [] ⟨Ym _,fun j d F=>by omega⟩ (kT Z Z (bv (bv ac)) Z) fun i S D=>?_;obtain⟨G,D⟩:=D;refine zJ Z Z (fun d=>?_) fun d=>?_
 .have d:=ci d;have u:okB (cB s i)=(gH ((cB s i).toNat:Int)||(tC ((cB s i).toNat:Int)||(Jj ((cB s i).toNat:Int)||decide (((cB s i).toNat:Int)=95)))):=by
   rw[G5];unfold Gc;rw[YU];simp only[Jj,Y3,YB,decide_eq_true_iff];constructor
   .rintro((h|h)|(h|h))
    .exact .inr (.inr (.inl h))
    .exact .inr (.inr (.inr h))
    .exact .inl h
    .exact .inr (.inl h)
   .rintro(h|(h|(h|h)))
    .exact .inr (.inl h)
    .exact .inr (.inr h)
    .exact .inl (.inl h)
    .exact .inl (.inr h)
  have x:okB (cB s i)=lc-> ∀j,1<=j->j<i+1->okB (cB s j)=lc:=fun h j a b=>by
   by_cases I:j=i
   .subst I;exact h
   .exact D j a (by omega)
  refine gA Z (zp (Wb ((cB s i).toNat:Int)) ?_);refine zJ Z Z (fun y=>?_) fun y=>?_
  .have y:gH ((cB s i).toNat:Int)=li:=by simpa using y
   refine gA Z (zp (V6 ((cB s i).toNat:Int)) ?_);refine zJ Z Z (fun A=>?_) fun A=>?_
   .have A:tC ((cB s i).toNat:Int)=li:=by simpa using A
    refine gA Z (zp (Xv ((cB s i).toNat:Int)) ?_);refine zJ Z Z (fun B=>?_) fun B=>?_
    .have B:Jj ((cB s i).toNat:Int)=li:=by simpa using B
     refine zJ Z Z (fun C=>?_) fun C=>?_
     .have C: ¬((cB s i).toNat:Int)=95:=by
       have g:(!lw (((cB s i).toNat:Int)=95))=lc:=C;simpa only[Y1,decide_eq_false_iff_not]using g
      rw[y,A,B,decide_eq_false C]at u;rw[GY G d u];exact zU Z
     .have C:((cB s i).toNat:Int)=95:=by
       have g:(!lw (((cB s i).toNat:Int)=95))=li:=C;simpa only[ZJ,decide_eq_true_eq]using g
      rw[decide_eq_true C]at u;refine gA Z ⟨d,⟨by omega,x (by rw[u];simp)⟩,[],kT Z Z (bv (bv ac)) Z⟩
    .have B:Jj ((cB s i).toNat:Int)=lc:=by simpa using B
     rw[B]at u
     repeat(refine gA Z (zI (fun q=>?_) (fun q=>?_));all_goals(try(simp at q;done)))
     refine gA Z ⟨d,⟨by omega,x (by rw[u];simp)⟩,[],kT Z Z (bv (bv ac)) Z⟩
   .have A:tC ((cB s i).toNat:Int)=lc:=by simpa using A
    rw[A]at u
    repeat(refine gA Z (zI (fun q=>?_) (fun q=>?_));all_goals(try(simp at q;done)))
    refine gA Z ⟨d,⟨by omega,x (by rw[u];simp)⟩,[],kT Z Z (bv (bv ac)) Z⟩
  .have y:gH ((cB s i).toNat:Int)=lc:=by simpa using y
   rw[y]at u
   repeat(refine gA Z (zI (fun q=>?_) (fun q=>?_));all_goals(try(simp at q;done)))
   refine gA Z ⟨d,⟨by omega,x (by rw[u];simp)⟩,[],kT Z Z (bv (bv ac)) Z⟩
 .have d:=co d;have J:=O2 (s:=s) fun j a b=>D j a (by omega);have e1:((s.size:Int)>=1)=(1<=s.size):=propext ⟨fun h=>by omega,fun h=>by omega⟩;have e2:((s.size:Int)<=32)=(s.size<=32):=propext ⟨fun h=>by omega,fun h=>by omega⟩
  repeat' (first|(refine gA Z (zI (fun _=>?_) (fun _=>?_)))|(refine gA Z (zL (.of_eq ?_))))
  all_goals(refine(fx ?_:pB _=pB _);simp_all;try omega)
theorem KH(s:aj)(h:fJ s=lc):ey s=tC (hd s):=by
 unfold fJ at h;simp only[YB,YG,decide_eq_true_iff]at h;obtain⟨y,B,C⟩:=h;have u: ¬s=⟨#[]⟩:=fun e=>by rw[e]at y;exact absurd y (by decide)
 unfold ey pz tC;rw[decide_eq_false u,decide_eq_true B,aaC,Zc,Zc];rw[YU];simp only[YB,decide_eq_true_iff,YG];constructor
 .rintro⟨a,b,_⟩;exact⟨a,b⟩
 .rintro⟨a,b⟩;refine⟨a,b,fun x D=>?_⟩;obtain⟨j,A,rfl⟩:=ZA.1 D;have d:j<s.size:=by simpa using A
  have:=C j (YM.2 d);rw[Y3,decide_eq_true_iff]at this;have hb:cB s j=s.data.toList[j]:=by
   unfold cB;rw[Ye,Yi A];rfl
  rcases this with rfl|this
  .rw[<-hb,G5];have:hd s=((cB s 0).toNat:Int):=rfl;rw[<-this];have:tC (hd s)=lc:=by unfold tC;simp[a,b]
   rw[this];simp
  .rw[<-hb];exact this
theorem Df{s:aj}(h:fJ s=lc):0<s.size:=by
 unfold fJ at h;simp only[YB,decide_eq_true_iff]at h;omega
theorem Wf(s:aj)(hs:s.size<=1000000000000):Pure prog 275 [pS s] (pB (eC s)):=by
 refine ad ab func275 Z (by decide) ntmps275 Z (by simp) Z ?_;refine gA Z (zp (Wc s hs) ?_);refine zJ Z Z (fun g1=>?_) fun g1=>?_
 .have g1:fJ s=lc:=g1;have b:=Df g1;refine gA Z (zp (Wb (hd s)) ?_);refine zJ Z Z (fun g2=>?_) fun g2=>?_
  .have g2:gH (hd s)=lc:=g2;refine gA Z (zp (Xy s) ?_);refine gA Z (zL (.of_eq ?_));refine(fx ?_:pB _=pB _);rw[eC,u6 s g1,g2,aaF]
  .have g2:gH (hd s)=li:=by simpa using g2
   repeat(refine gA Z (zI (fun q=>?_) (fun q=>?_));all_goals(try(simp at q;done)))
   refine gA Z (zL (.of_eq ?_));refine(fx ?_:pB _=pB _);rw[eC,u6 s g1,g2,Zv]
 .have g1:fJ s=li:=by simpa using g1
  repeat(refine gA Z (zI (fun q=>?_) (fun q=>?_));all_goals(try(simp at q;done)))
  refine gA Z (zL (.of_eq ?_));refine(fx ?_:pB _=pB _);rw[eC,u5 s 97 122 g1];simp
theorem V9(s:aj)(hs:s.size<=1000000000000):Pure prog 289 [pS s] (pB (ey s)):=by
 refine ad ab func289 Z (by decide) ntmps289 Z (by simp) Z ?_;refine gA Z (zp (Wc s hs) ?_);refine zJ Z Z (fun g1=>?_) fun g1=>?_
 .have g1:fJ s=lc:=g1;have b:=Df g1;refine gA Z (zp (V6 (hd s)) ?_);refine gA Z (zL (.of_eq ?_));refine(fx ?_:pB _=pB _);rw[KH s g1]
 .have g1:fJ s=li:=by simpa using g1
  repeat(refine gA Z (zI (fun q=>?_) (fun q=>?_));all_goals(try(simp at q;done)))
  refine gA Z (zL (.of_eq ?_));refine(fx ?_:pB _=pB _);rw[ey,u5 s 65 90 g1]
theorem Xu(v:tE):Pure prog 300 [ag v.c] (pI (dy v)):=by
 refine ad ab func300 Z (by decide) ntmps300 Z (by simp) Z ?_
 repeat' (first|(refine gA Z (zI (fun _=>?_) (fun _=>?_)))|(refine gA Z (zL (.of_eq ?_))))
 all_goals(have hE:(⟨#[]⟩:ByteArray)=Yp:=rfl;refine congrArg pI ?_;simp_all [dy];try omega)
theorem yN(a b:List UInt8):(⟨a.toArray⟩:ByteArray)++⟨b.toArray⟩=⟨(a++b).toArray⟩:=by
 apply abL;rw[ByteArray.data_append];simp
theorem bsize(a:List UInt8):(⟨a.toArray⟩:ByteArray).size=a.length:=by simp[aa6]
theorem Si{s:aj}{i:Nat}(h:i<s.data.toList.length):s.extract i (i+1)=⟨[s.data.toList.getD i io].toArray⟩:=by
 apply abL;rw[ByteArray.data_extract];apply Array.ext';simp only[Array.toList_extract];rw[List.extract_eq_take_drop,Ye,Yi h];have e:s.data.toList.drop i=s.data.toList[i]::s.data.toList.drop (i+1):=aa8 h;rw[e,show i+1-i=1 by omega];simp
theorem WX: ∀k:Nat,k<16->PQ.extract k (k+1)=⟨[B5 (k:Int)].toArray⟩:=fun k h=>Si (by
 have:PQ.data.toList.length=16:=rfl
 omega)
theorem V4(n:Int)(h0:0<=n)(h1:n<16):Pure prog 306 [pU n] (pS ⟨[B5 n].toArray⟩):=by
 have b:IntKind.u8.wrap (n+1)=n+1:=IntWalk.u8_in _ (by omega);obtain⟨k,rfl⟩: ∃k:Nat,n=(k:Int):=⟨n.toNat,by omega⟩
 have d:=WX k (by omega);have j:PQ.size=16:=rfl;refine ad ab func306 Z (by decide) ntmps306 Z (by simp) Z ?_;refine ox Z (by simp only[b];refine⟨?_,?_⟩<;>first|trivial|omega|(refine⟨?_,?_⟩<;>first|trivial|omega|(refine⟨?_,?_⟩<;>first|trivial|omega))) (zL (.of_eq ?_));rw[b,<-d];rfl
theorem Xt(s:aj)(hs:s.size<=1000):Pure prog 301 [pS s] (pS (p5 s)):=by
 have hl:s.data.toList.length=s.size:=by simp
 refine ad ab func301 Z (by decide) ntmps301 Z (by simp) Z ?_;refine gA Z ?_;refine ar 0 s.data.toList.length (Yl _) (fun i=>⟨[(0,pS s),(3,pS ⟨(nk s i).toArray⟩),(4,pI i)],[],0⟩) (fun _=>True) [] ac
  (kT Z Z (bv (bv (bv trivial))) Z) fun i hi _=>?_
 have hq:=ug s i;have hz:=bsize (nk s i);have z1:(⟨#[34]⟩:ByteArray).size=1:=rfl;have z2:(⟨#[92,34]⟩:ByteArray).size=2:=rfl;have z3:(⟨#[92,92]⟩:ByteArray).size=2:=rfl;have z4:(⟨#[92,110]⟩:ByteArray).size=2:=rfl;have z5:(⟨#[92,120]⟩:ByteArray).size=2:=rfl;refine zE Z Z (fun j=>?_) fun j=>?_
 .have j:s.data.toList.length<=i:=by
   have:=zF (show lw ((i:Int)<(s.size:Int))=li from j);omega
  refine gA Z (zL (.of_eq ?_));rw[show(⟨#[34]⟩:ByteArray)=⟨[34].toArray⟩ from rfl,yN];simp only[nk,p5,Yn j];rfl
 have j:i<s.data.toList.length:=by
  have:=zT (show lw ((i:Int)<(s.size:Int))=lc from j);omega
 have b:=Ab j;have d:s.data.toList.getD (i:Int).toNat 0=s.data.toList.getD i io:=rfl;have u:=Si j;generalize hc:s.data.toList.getD i io=c at b d u;refine zJ Z Z (fun y=>?_) fun y=>?_
 .have y:c.toNat=34:=by have:=zT y;rw[d]at this;omega
  rw[qB,am (.inl y)]at b;have S:c=34:=UInt8.toNat_inj.1 y;refine gA Z ⟨j,ac,[],kT Z Z (bv ⟨.of_eq (by rw[b,S,show(⟨#[92,34]⟩:ByteArray)=⟨[92,34].toArray⟩ from rfl,yN];rfl),rfl,bv ac⟩) Z⟩
 have y: ¬c.toNat=34:=by have:=zF y;rw[d]at this;omega
 refine zJ Z Z (fun A=>?_) fun A=>?_
 .have A:c.toNat=92:=by have:=zT A;rw[d]at this;omega
  rw[qB,am (.inr A)]at b;have Y:c=92:=UInt8.toNat_inj.1 A;refine gA Z ⟨j,ac,[],kT Z Z (bv ⟨.of_eq (by rw[b,Y,show(⟨#[92,92]⟩:ByteArray)=⟨[92,92].toArray⟩ from rfl,yN];rfl),rfl,bv ac⟩) Z⟩
 have A: ¬c.toNat=92:=by have:=zF A;rw[d]at this;omega
 rw[qB,be (by omega)]at b;refine zJ Z Z (fun B=>?_) fun B=>?_
 .have B:c.toNat=10:=by have:=zT B;rw[d]at this;omega
  rw[am B]at b;refine gA Z ⟨j,ac,[],kT Z Z (bv ⟨.of_eq (by rw[b,show(⟨#[92,110]⟩:ByteArray)=⟨[92,110].toArray⟩ from rfl,yN];rfl),rfl,bv ac⟩) Z⟩
 have B: ¬c.toNat=10:=by have:=zF B;rw[d]at this;omega
 rw[be B]at b;have a0:=LB c;have b0:=Ld c;have C:=V4 (PO c) a0.1 a0.2;have D:=V4 (R2 c) b0.1 b0.2;rw[<-hc]at C D;have c0:c.toNat<32∨126<c.toNat-> ∀x:ByteArray,x=((⟨(nk s i).toArray⟩++(⟨#[92,120]⟩:ByteArray))++⟨[B5 (PO c)].toArray⟩)++⟨[B5 (R2 c)].toArray⟩->pS x=pS ⟨(nk s (i+1)).toArray⟩:=fun h x e=>by
  rw[am h]at b;rw[e,b,show(⟨#[92,120]⟩:ByteArray)=⟨[92,120].toArray⟩ from rfl,yN,yN,yN];simp
 have I:((⟨(nk s i).toArray⟩:ByteArray)++(⟨#[92,120]⟩:ByteArray)).size=(nk s i).length+2:=by
  rw[show(⟨#[92,120]⟩:ByteArray)=⟨[92,120].toArray⟩ from rfl,yN,bsize,Yg];rfl
 have J: ∀z,((⟨(nk s i).toArray⟩:ByteArray)++(⟨#[92,120]⟩:ByteArray)++⟨[B5 z].toArray⟩).size=(nk s i).length+3:=fun z=>by
  rw[show(⟨#[92,120]⟩:ByteArray)=⟨[92,120].toArray⟩ from rfl,yN,yN,bsize,Yg,Yg];rfl
 have e1: ∀z,(⟨[B5 z].toArray⟩:ByteArray).size=1:=fun z=>rfl;have e2:(⟨[B5 (PO (s.data.toList.getD i io))].toArray⟩:ByteArray).size=1:=rfl;refine zJ Z Z (fun F=>?_) fun F=>?_
 .have F: ¬c.toNat<32:=by have:=zF F;rw[d]at this;omega
  refine zJ Z Z (fun G=>?_) fun G=>?_
  .have G:126<c.toNat:=by have:=zT G;rw[d]at this;omega
   refine gA Z (zp (C) ?_);refine gA Z (zp (D) ?_);refine ox Z (by(repeat' (first|exact ac|exact rfl|apply YW))<;>first|omega|(rw[I,e1];omega)|(rw[J,e1];omega)) ?_;exact⟨j,ac,[],kT Z Z (bv ⟨.of_eq (c0 (.inr G) _ (by rw[<-hc])),rfl,bv ac⟩) Z⟩
  have G: ¬126<c.toNat:=by have:=zF G;rw[d]at this;omega
  rw[be (by omega)]at b;have d0:(s.extract i (i+1)).size=1:=by rw[u];rfl
  refine ox Z (by(repeat' (first|exact ac|exact rfl|apply YW))<;>first|omega|(rw[show((i:Int)+1).toNat=i+1 by omega,show(i:Int).toNat=i by omega,d0];omega)) ?_;exact⟨j,ac,[],kT Z Z (bv ⟨.of_eq (by show pS _=pS _;rw[show((i:Int)+1).toNat=i+1 by omega,show(i:Int).toNat=i by omega,u,b,yN]),rfl,bv ac⟩) Z⟩
 .have F:c.toNat<32:=by have:=zT F;rw[d]at this;omega
  refine gA Z (zp (C) ?_);refine gA Z (zp (D) ?_);refine ox Z (by(repeat' (first|exact ac|exact rfl|apply YW))<;>first|omega|(rw[I,e1];omega)|(rw[J,e1];omega)) ?_;exact⟨j,ac,[],kT Z Z (bv ⟨.of_eq (c0 (.inl F) _ (by rw[<-hc])),rfl,bv ac⟩) Z⟩
theorem Xx(v:tE):Pure prog 290 [ag v.c] (.bX [pS (nW v),pI (dy v)]):=by
 refine ad ab func290 Z (by decide) ntmps290 Z (by simp) Z ?_;refine gA Z (zp (Xu v) ?_);refine zJ Z Z (fun b=>?_) fun b=>?_
 .have b: ¬dy v=0:=by simpa using b
  refine gA Z (zL (.of_eq ?_));rw[nW,be b];rfl
 have b:dy v=0:=by simpa using b
 rw[nW,am b,b];refine zJ Z Z (fun d=>?_) fun d=>?_
 .have d:v.kind=1:=by simpa using d
  have:=sG b d;refine gA Z (zp (V7 v.num (by omega) (by omega)) ?_);refine gA Z (zL (.of_eq ?_));rw[tM,am d];rfl
 have d: ¬v.kind=1:=by simpa using d
 have u:=sF b d;refine gA Z (zp (Wf v.sym (by omega)) ?_);refine zJ Z Z (fun j=>?_) fun j=>?_
 .have j:eC v.sym=lc:=j;refine gA Z (zL (.of_eq ?_));rw[tM,be d,am j];rfl
 .have j: ¬eC v.sym=lc:=by simpa using j
  refine gA Z (zp (Xt v.sym (by omega)) ?_);refine gA Z (zL (.of_eq ?_));rw[tM,be d,be j];rfl
abbrev nU:=aj×Bool
def nU.c(t:nU):List IV:=[iS t.1,.v (.bool t.2)]
def fc(kind:Int)(b:aj)(v:tE):nU:=if kind=1 then(b,!ey b||!cQ v) else(nW v,!lw (dy v=0)||!lw (b=Yp))
theorem We(kind:Int)(b:aj)(v:tE)(hs:b.size<=1000000000000):Pure prog 276 [pI kind,pS b,ag v.c] (ag (fc kind b v).c):=by
 refine ad ab func276 Z (by decide) ntmps276 Z (by simp) Z ?_;refine zJ Z Z (fun d=>?_) fun d=>?_
 .have d:kind=1:=by simpa using d
  refine gA Z (zp (V9 b hs) ?_);unfold fc;rw[am d];refine zJ Z Z (fun g=>?_) fun g=>?_
  .have g:ey b=lc:=by simpa using g
   refine gA Z (zL ?_);exact .agg ⟨.refl _,.of_eq (fx (by rw[g];simp[cQ])),ac⟩
  .have g:ey b=li:=by simpa using g
   refine gA Z (zL ?_);exact .agg ⟨.refl _,.rK (by rw[g];rfl),ac⟩
 .have d: ¬kind=1:=by simpa using d
  refine gA Z (zp (Xx v) ?_);unfold fc;rw[be d];refine zJ Z Z (fun g=>?_) fun g=>?_
  .have g:dy v=0:=by simpa using g
   refine gA Z (zL ?_);exact .agg ⟨.refl _,.of_eq (fx (by rw[g];rfl)),ac⟩
  .have g: ¬dy v=0:=by simpa using g
   refine gA Z (zL ?_);exact .agg ⟨.refl _,.rK (by simp[g]),ac⟩
def MQ(x:Term):nU:=(Kk,!lw (x.var=Yp)||!cQ x.val)
def pD(x:Term):nU:=if x.kind=3 then MQ x else((fc x.kind x.var x.val).1,(fc x.kind x.var x.val).2||(!lw (x.kind=1)&&!lw (x.kind=2)))
def eM(a:Atom):Nat->nU
 |0=>(a.rel++sO,!eC a.rel)
 |i+1=>((if(i:Int)>0 then(eM a i).1++wD else(eM a i).1)++(pD (a.ae.getD i io)).1,(eM a i).2||(pD (a.ae.getD i io)).2)
def fj(a:Atom):nU:=((eM a a.ae.length).1++sC,(eM a a.ae.length).2)
theorem ta(k:Int)(s:aj)(v:tE):(fc k s v).1.size<=s.size+300:=by
 have:=nV v;unfold fc;split
 .show s.size<=_;omega
 .show(nW v).size<=_;omega
theorem Ia(x:Term):(pD x).1.size<=x.var.size+300:=by
 have:=ta x.kind x.var x.val;unfold pD;split
 .show Kk.size<=_;have:Kk.size=1:=rfl;omega
 .exact this
theorem pt(a:Atom): ∀i,i<=a.ae.length->(eM a i).1.size<=a.rel.size+1+((a.ae.take i).map Term.ts).sum
 |0,_=>by
  show(a.rel++sO).size<=_;rw[Zf];have:sO.size=1:=rfl;omega
 |i+1,h=>by
  have b:=pt a i (by omega);have d:=Ia (a.ae.getD i io);have j:wD.size=2:=rfl;have u:(a.ae.getD i io).ts=(a.ae.getD i io).var.size+310:=rfl;have x:((a.ae.take (i+1)).map Term.ts).sum=((a.ae.take i).map Term.ts).sum+(a.ae.getD i io).ts:=by
   rw[aK (by omega),Yk,List.sum_append];simp
  show((if(i:Int)>0 then(eM a i).1++wD else(eM a i).1)++(pD (a.ae.getD i io)).1).size<=_;rw[Zf];split
  .rw[Zf];omega
  .omega
theorem gQ: ∀(b:List aj) (w:WS),(ba w b).bad=w.bad
 | [],w=>rfl
 |s::r,w=>gQ r (BF w s)
theorem xr(w:WS)(v:tE):(nJ w v).bad=(w.bad||!lw (dy v=0)):=by
 rw[nJ,gQ];rfl
theorem di(w:WS)(b:Bool):(aV w b).bad=(w.bad||!b):=rfl
theorem zx(w:WS)(t:Term):(lD w t).bad=(w.bad||(pD t).2):=by
 have hE:(⟨#[]⟩:ByteArray)=Yp:=rfl;unfold lD pD fc MQ;by_cases b:t.kind=1
 .rw[am b,gQ,di,be (by omega),am b,zc];simp[b]
 rw[be b];by_cases d:t.kind=2
 .rw[am d,xr,di,be (by omega),be b];simp[d,hE];cases w.bad<;>cases lw (t.var=Yp)<;>cases lw (dy t.val=0)<;>rfl
 rw[be d];by_cases j:t.kind=3
 .rw[am j,gQ,di,am j,ze];simp[hE]
 .rw[be j,be j,be b];simp[b,d,oG]
theorem tz(i:Nat)(w:WS):(iQ i w).bad=w.bad:=by
 unfold iQ;split
 .rfl
 .exact gQ _ _
theorem xw(a:Atom): ∀i,(eI a.ae (ba (aV WS.o (eC a.rel)) [a.rel,sO]) i).bad=(eM a i).2
 |0=>by rw[eI,gQ];rfl
 |i+1=>by rw[eI,zx,tz,xw a i];rfl
theorem EM(a:Atom):lX a=(fj a).2:=by
 unfold lX ku fj;rw[gQ,xw]
abbrev Wy(a:Atom)(i:Nat):Term:=a.ae.getD i io
structure GInv (p:Prog) (a:Atom) (n:Nat) (m:NM):Prop where
 is:R4 p a n=jp m
 has: ∀s,ej .str m s=lc↔ ∃k,k<n∧(Wy a k).kind=1∧(Wy a k).var=s
 val: ∀k,k<n->(Wy a k).kind=1->bY .str m (Wy a k).var 0=Ht p a k
abbrev nS:nU:=(⟨#[]⟩,lc)
def bw(e:Expr):Int:=if e.kind=4 then(if e.op=1∨e.op=2 then 1 else if e.op=3∨e.op=4∨e.op=5 then 2 else 3) else 4
def xC(op:Int):aj:=if op=1 then⟨#[32,43,32]⟩ else if op=2 then⟨#[32,45,32]⟩ else if op=3 then⟨#[32,42,32]⟩ else if op=4 then⟨#[32,47,32]⟩ else⟨#[32,109,111,100,32]⟩
def Av(e:Expr)(b:Bool):nU:=((fc e.kind e.var e.val).1,(fc e.kind e.var e.val).2||(b||(!lw (e.op=0)||decide ((e.args.length:Int)>0))))
def K3(a:Expr):Bool:=pM a&&lw (a.val.num>0)
def qo(a:Expr):Bool:=lw (bw a<3)||K3 a
def FB(a:Expr):Bool:=pM a&&lw (a.val.num=0)
def oe(a0:Bool->Expr->nU)(e:Expr):nU:=
 if e.op=6 then
  (if e.args.length=1 then(sM++(if FB (aN e)=lc then(⟨#[45,48]⟩:ByteArray) else(a0 (qo (aN e)) (aN e)).1),(a0 (qo (aN e)) (aN e)).2) else nS)
 else if e.args.length=2 then((a0 (lw (bw (aN e)<bw e)) (aN e)).1++xC e.op++(a0 (lw (bw (lg e)<=bw e)) (lg e)).1,(a0 (lw (bw (aN e)<bw e)) (aN e)).2||(a0 (lw (bw (lg e)<=bw e)) (lg e)).2) else nS
def iK(e:Expr)(b:Bool)(k:nU):nU:=
 if e.kind=1∨e.kind=2 then Av e b
 else if¬e.kind=4∨b=lc∨ ¬e.var=⟨#[]⟩∨cQ e.val=li∨e.op<1∨e.op>6 then nS else k
def bL:Nat->Expr->nU
 |0,e=>iK e lc nS
 |1,e=>iK e li nS
 |m+2,e=>iK e li (oe (fun b a=>if b=lc then(sO++(bL m a).1++sC,(bL m a).2||decide (m<1)) else bL (m+1) a) e)
def kL(m:Nat)(b:Bool)(a:Expr):nU:=if b=lc then(sO++(bL m a).1++sC,(bL m a).2||decide (m<1)) else bL (m+1) a
theorem AV(m:Nat)(e:Expr):bL (m+2) e=iK e li (oe (kL m) e):=rfl
theorem Jc(m:Nat)(w:WS)(e:Expr):cM (m+2) w e=jJ w e (kq (qQ m) (aV w (mC e)) e):=rfl
theorem IY(e:Expr)(b:Bool):(Av e b).1.size<=e.var.size+300:=ta _ _ _
theorem zz(op:Int):(xC op).size<=5:=by
 unfold xC
 repeat' split
 all_goals decide
theorem IE(a0:Bool->Expr->nU)(d: ∀b a,(a0 b a).1.size<=2+a.ts)(e:Expr):(oe a0 e).1.size<=e.ts:=by
 have C:=e.mh;have I:(⟨#[]⟩:ByteArray).size=0:=rfl;unfold oe;split
 .split
  .rename_i j;have y:=Expr.tL e.args 0 (by omega);have u:=d (qo (aN e)) (aN e);have A:sM.size=1:=rfl;have B:(⟨#[45,48]⟩:ByteArray).size=2:=rfl;show(sM++_).size<=_;rw[Zf];have G:(if FB (aN e)=lc then(⟨#[45,48]⟩:ByteArray) else(a0 (qo (aN e)) (aN e)).1).size<=2+(aN e).ts:=by
    by_cases x:FB (aN e)=lc
    .rw[am x];omega
    .rw[be x];exact u
   simp only[aN] at*;omega
  .show(⟨#[]⟩:ByteArray).size<=_;omega
 .split
  .rename_i j;have y:=Expr.wO e.args j;have u:=d (lw (bw (aN e)<bw e)) (aN e);have D:=d (lw (bw (lg e)<=bw e)) (lg e);have F:=zz e.op;show((_++_)++_:ByteArray).size<=_;rw[Zf,Zf];simp only[aN,lg] at*;omega
  .show(⟨#[]⟩:ByteArray).size<=_;omega
theorem vt(e:Expr)(b:Bool)(k:nU)(h:k.1.size<=e.ts):(iK e b k).1.size<=e.ts:=by
 have d:=e.mh;have j:(⟨#[]⟩:ByteArray).size=0:=rfl;unfold iK;split
 .have:=IY e b;omega
 split
 .show(⟨#[]⟩:ByteArray).size<=_;omega
 .exact h
theorem fB: ∀(n:Nat) (e:Expr),(bL n e).1.size<=e.ts
 |0,e=>vt _ _ _ (by show(⟨#[]⟩:ByteArray).size<=_;exact Yl _)
 |1,e=>vt _ _ _ (by show(⟨#[]⟩:ByteArray).size<=_;exact Yl _)
 |m+2,e=>by
  refine vt _ _ _ (IE _ (fun b a=>?_) e);have d:sO.size=1:=rfl;have j:sC.size=1:=rfl;split
  .have:=fB m a;show((sO++(bL m a).1)++sC).size<=_;rw[Zf,Zf];omega
  .have:=fB (m+1) a;omega
theorem qR(m:Nat)(b:Bool)(a:Expr):(kL m b a).1.size<=2+a.ts:=by
 have d:sO.size=1:=rfl;have j:sC.size=1:=rfl;unfold kL;split
 .have:=fB m a;show((sO++(bL m a).1)++sC).size<=_;rw[Zf,Zf];omega
 .have:=fB (m+1) a;omega
theorem rb{op:Int}:bm op=0↔op<1∨op>6:=by
 unfold bm
 repeat' split
 all_goals omega
theorem Bu(op:Int):0<=bm op:=by
 unfold bm
 repeat' split
 all_goals decide
theorem BN{e:Expr}(h:bm e.op=0):mC e=li:=by
 unfold mC;rw[h];simp
theorem AY{e:Expr}(j:e.kind=4)(h:bm e.op=0): ∀n,(bL n e).2=lc:=by
 have d: ∀b k,(iK e b k).2=lc:=fun b k=>by
  unfold iK;rw[be (by omega),am];have:=rb.1 h;rcases this with h|h
  .exact .inr (.inr (.inr (.inr (.inl h))))
  .exact .inr (.inr (.inr (.inr (.inr h))))
 intro n
 match n with
 |0=>exact d _ _
 |1=>exact d _ _
 |m+2=>exact d _ _
theorem Au(w:WS)(e:Expr)(k:WS)(b:(aV w (mC e)).bad=lc->k.bad=lc)(ho:mC e=li)(d:e.kind=4):(jJ w e k).bad=lc:=by
 unfold jJ;split
 .rfl
 rw[be (show¬e.kind=1 by omega),be (show¬e.kind=2 by omega)];exact b (by rw[di,ho];simp)
theorem Ae(a0:Bool->WS->Expr->WS)(w:WS)(e:Expr)(h:w.bad=lc):kq a0 w e=oG w:=by
 unfold kq;rw[am h]
theorem AU{e:Expr}(b:e.kind=4)(h:bm e.op=0): ∀n w,(cM n w e).bad=lc:=by
 intro n w
 match n with
 |0=>rfl
 |1=>exact Au _ _ _ (fun _=>rfl) (BN h) b
 |m+2=>exact Au _ _ _ (fun g=>by rw[Ae _ _ _ g];rfl) (BN h) b
theorem rD{e:Expr}(h: ¬(e.kind=4∧bm e.op=0)):bw e=eF e:=by
 unfold bw eF;split
 .rename_i b;have:=mt rb.2 fun g=>h ⟨b,g⟩;unfold bm;split
  .rfl
  split
  .rfl
  rw[am (by omega)]
 .rfl
theorem iy(w:WS)(s:aj):(ba w [s]).bad=w.bad:=rfl
theorem EO(e:Expr):lw ((e.args.length:Int)>0)=!lw ((e.args.length:Int)=0):=by
 by_cases h:e.args.length=0
 .rw[h];rfl
 .rw[decide_eq_true (by omega),decide_eq_false (by omega)];rfl
theorem D7{w:WS}{e:Expr}{k:WS}{t:nU}(h:w.bad=li->mC e=lc->e.kind=4->k.bad=t.2)(hb:(aV w (mC e)).bad=lc->k.bad=lc):(jJ w e k).bad=(w.bad||(iK e li t).2):=by
 unfold jJ iK;cases hw:w.bad with
 |true=>rfl
 |false=>
  rw[be (by decide),Zt];by_cases b:e.kind=1
  .rw[am b,am (.inl b),iy,di,hw];unfold Av fc qh;rw[am b,EO];cases ey e.var<;>cases cQ e.val<;>cases lw (e.op=0)<;>cases lw ((e.args.length:Int)=0)<;>rfl
  by_cases u:e.kind=2
  .rw[be b,am u,am (.inr u),xr,di,hw];unfold Av fc rX;rw[be b,EO];show(li||!(lw (e.var=Yp)&&_)||_)=_;cases lw (dy e.val=0)<;>cases lw (e.var=Yp)<;>cases lw (e.op=0)<;>cases lw ((e.args.length:Int)=0)<;>rfl
  have j: ¬(e.kind=1∨e.kind=2):=by omega
  rw[be b,be u,be j];by_cases d:e.kind=4
  .rw[am d];cases ho:mC e with
   |true=>
    rw[h hw ho d,be];unfold mC at ho;rw[YB,YB,decide_eq_true_iff,decide_eq_true_iff]at ho;rintro(g|g|g|g|g)
    .exact g d
    .cases g
    .exact g ho.1
    .rw[g]at ho;cases ho.2.1
    .have:=rb.2 g;omega
   |false=>
    rw[hb (by rw[di,ho];simp),am];unfold mC at ho;by_cases g1:e.var=⟨#[]⟩
    .by_cases g2:cQ e.val=lc
     .rw[decide_eq_true g1,g2,Zc,Zc,decide_eq_false_iff_not]at ho;have:=Bu e.op;have:=rb.1 (show bm e.op=0 by omega);exact .inr (.inr (.inr (.inr this)))
     .exact .inr (.inr (.inr (.inl (by simpa using g2))))
    .exact .inr (.inr (.inl g1))
  .rw[be d,am (.inl d)];rfl
theorem ML{m:Nat}(i0: ∀w e,(cM m w e).bad=(w.bad||(bL m e).2))(i1: ∀w e,(cM (m+1) w e).bad=(w.bad||(bL (m+1) e).2))(b:Bool)(w:WS)(a:Expr):(qQ m b w a).bad=(w.bad||(kL m b a).2):=by
 unfold qQ kL;split
 .rw[iy,i0,iy];show _=(w.bad||((bL m a).2||_))
  cases m with
  |zero=>
   have:(bL 0 a).2=lc:=by
    have:=i0 ⟨li,[],li,0⟩ a;exact this.symm
   rw[this];rfl
  |succ m=>rw[decide_eq_false (by omega),Z9]
 .exact i1 w a
theorem Cq{m:Nat}(i0: ∀w e,(cM m w e).bad=(w.bad||(bL m e).2))(i1: ∀w e,(cM (m+1) w e).bad=(w.bad||(bL (m+1) e).2)){b b':Bool}(w:WS)(a:Expr)(h: ¬(a.kind=4∧bm a.op=0)->b=b'):(qQ m b w a).bad=(w.bad||(kL m b' a).2):=by
 by_cases g:a.kind=4∧bm a.op=0
 .have d:(qQ m b w a).bad=lc:=by
   unfold qQ;split
   .rw[iy];exact AU g.1 g.2 _ _
   .exact AU g.1 g.2 _ _
  have j:(kL m b' a).2=lc:=by
   unfold kL;split
   .show((bL m a).2||_)=lc;rw[AY g.1 g.2];rfl
   .exact AY g.1 g.2 _
  rw[d,j,aaA]
 .rw[h g];exact ML i0 i1 _ _ _
theorem KX{m:Nat}(i0: ∀w e,(cM m w e).bad=(w.bad||(bL m e).2))(i1: ∀w e,(cM (m+1) w e).bad=(w.bad||(bL (m+1) e).2))(w:WS)(e:Expr)(hw:w.bad=li)(d:e.kind=4)(ho:mC e=lc):(kq (qQ m) w e).bad=(oe (kL m) e).2:=by
 have j: ¬(e.kind=4∧bm e.op=0):=fun g=>by rw[BN g.2]at ho;cases ho
 have b:bw e=bm e.op:=by rw[rD j];exact am d
 unfold kq oe;rw[be (by rw[hw];decide)];split
 .split
  .rw[Cq i0 i1 (b':=qo (aN e)) _ _ fun g=>by unfold oi qo K3;rw[rD g]];have:(if(pM (aN e)&&lw ((aN e).val.num=0))=lc then ba (ba w [sM]) [sM] else ba w [sM]).bad=li:=by
    split
    .exact hw
    .exact hw
   rw[this];rfl
  .rfl
 .split
  .rw[Cq i0 i1 (b':=lw (bw (lg e)<=bw e)) _ _ fun g=>by rw[b,rD g]];rw[gQ,Cq i0 i1 (b':=lw (bw (aN e)<bw e)) _ _ fun g=>by rw[b,rD g],hw];rfl
  .rfl
theorem qG: ∀(n:Nat) (w:WS) (e:Expr),(cM n w e).bad=(w.bad||(bL n e).2)
 |0,w,e=>by
  have:(bL 0 e).2=lc:=by
   show(iK e lc nS).2=lc;unfold iK;split
   .unfold Av;simp
   split<;>rfl
  rw[this,aaA];rfl
 |1,w,e=>D7 (fun _ _ _=>rfl) (fun _=>rfl)
 |m+2,w,e=>by
  rw[AV,Jc];exact D7 (fun d b j=>KX (qG m) (qG (m+1)) _ _ (by rw[di,d,b];rfl) j b) (fun g=>by rw[Ae _ _ _ g];rfl)
def fP(a:Atom):Bool:=lw (a.rel=⟨#[]⟩)&&lw ((a.ae.length:Int)=0)
def js(a:fa):Bool:=lw (a.func=0)&&(lw (a.var=⟨#[]⟩)&&(c8 a.ef&&lw ((a.body.length:Int)=0)))
def jl(l:Lit):Bool:=c8 l.left&&(c8 l.right&&lw (l.op=0))
def cA(f:Lit->nU)(l:List Lit):Nat->nU
 |0=>(⟨#[]⟩,li)
 |i+1=>if(cA f l i).2=lc then nS else if(f (l.getD i io)).2=lc then nS else((if(i:Int)>0 then(cA f l i).1++wD else(cA f l i).1)++(f (l.getD i io)).1,li)
def II(a:fa):nU:=
 if a.func=1 then(((a.var++pX)++fG a.func)++pY,!ey a.var||!c8 a.ef) else(((((a.var++pX)++fG a.func)++pY)++(bL 17 a.ef).1)++EY,!ey a.var||(bL 17 a.ef).2)
def px(f:Lit->nU)(a:fa)(br:Int):nU:=
 if a.func<1∨a.func>4∨br<1∨(a.body.length:Int)=0 then nS
 else(((II a).1++(cA f a.body a.body.length).1)++wC,(II a).2||(cA f a.body a.body.length).2)
def jY(f:Int->Lit->nU)(br:Int)(l:Lit):nU:=
 if l.kind=1∨l.kind=2 then(if l.kind=2 then xF++(fj l.atom).1 else(fj l.atom).1,(fj l.atom).2||(!jl l||!js l.agg))
 else if l.kind=3 then(((bL 17 l.left).1++qJ l.op)++(bL 17 l.right).1,(bL 17 l.left).2||((bL 17 l.right).2||(!fP l.atom||(!js l.agg||(lw (l.op<1)||decide (l.op>6))))))
 else if l.kind=4 then((px (f (br-1)) l.agg br).1,(px (f (br-1)) l.agg br).2||(!fP l.atom||!jl l)) else nS
def fz:Nat->Int->Lit->nU
 |0,_,_=>nS
 |n+1,br,l=>jY (fz n) br l
theorem yJ{f:Lit->WS->WS}{l:List Lit}{w:WS}(h:w.bad=lc): ∀i,dt f l w i=w
 |0=>rfl
 |i+1=>by rw[dt,yJ h i,am h]
theorem EJ{f:Lit->WS->WS}{g:Lit->nU}{l:List Lit}{br:Int}(b: ∀l w,(f l w).br=w.br)(h: ∀i,i<l.length-> ∀w:WS,w.br=br->(f (l.getD i io) w).bad=(w.bad||(g (l.getD i io)).2))(w:WS)(hw:w.br=br): ∀i,i<=l.length->(dt f l w i).bad=(w.bad||(cA g l i).2)
 |0,_=>by show w.bad=(w.bad||false);rw[Z9]
 |i+1,hi=>by
  have d:=EJ b h w hw i (by omega);cases hb:w.bad with
  |true=>rw[yJ hb,hb];rfl
  |false=>
   rw[hb,Zt]at d;rw[dt,d,cA,Zt];split
   .rw[d];assumption
   .rename_i u;rw[h i (by omega) _ (by rw[ry,oE f b];exact hw),tz,d];rw[ZQ]at u;rw[u,Zt];split
    .assumption
    .rename_i j;rw[ZQ]at j;rw[j]
theorem HT(w:WS)(n:Int):(xh w n).bad=w.bad:=rfl
theorem Tq(w:WS)(a:fa):(rY (ba (aV w (ey a.var)) [a.var,pX,fG a.func,pY]) a).bad=(w.bad||(II a).2):=by
 unfold rY II;split
 .rw[di,gQ,di,abf]
 .rw[iy,qG,gQ,di,abf]
theorem Qs{f:Lit->WS->WS}{g:Int->Lit->nU}(b: ∀l w,(f l w).br=w.br)(w:WS)(a:fa)(h: ∀i,i<a.body.length-> ∀v:WS,(f (a.body.getD i io) v).bad=(v.bad||(g (16-v.br) (a.body.getD i io)).2)):(yZ f w a).bad=(w.bad||(px (g (16-w.br-1)) a (16-w.br)).2):=by
 unfold yZ px;split
 .rw[am (by omega),aaA];rfl
 .rw[be (by omega),iy,HT,EJ (g:=g (16-w.br-1)) b (br:=w.br+1) (fun i d v j=>by rw[h i d v,j,show(16:Int)-(w.br+1)=16-w.br-1 by omega]) _ (by show(xh _ 1).br=_;show(rY _ _).br+1=_;rw[FA,du,qn]) _ (Ym _),HT,Tq,abf]
theorem K9(n:Nat):lw ((n:Int)>0)=!lw ((n:Int)=0):=by
 by_cases h:n=0
 .rw[h];rfl
 .rw[decide_eq_true (by omega),decide_eq_false (by omega)];rfl
theorem A9(w:WS)(a:Atom):(ku w a).bad=(w.bad||(fj a).2):=by
 unfold ku fj;rw[iy];have: ∀i,(eI a.ae (ba (aV w (eC a.rel)) [a.rel,sO]) i).bad=(w.bad||(eM a i).2):=by
  intro i
  induction i with
  |zero=>rw[eI,gQ];rfl
  |succ i ih=>rw[eI,zx,tz,ih,eM,abf]
 exact this _
theorem Hf: ∀(n:Nat) (l:Lit) (w:WS),l.size<=n->(eG n l w).bad=(w.bad||(fz n (16-w.br) l).2)
 |0,l,w,h=>by have:=l.size_pos;omega
 |n+1,l,w,h=>by
  have hs:=l.size_eq;have b:=Qs (f:=eG n) (g:=fz n) (w4 n) (aV w (kH l)) l.agg fun i x v=>by
   have x:i<l.au.length:=x;have:=Lit.aS l.au i x;have:=l.left.size_pos;exact Hf n (l.au.getD i io) v (by omega)
  rw[qn]at b;rw[eG,fz];have F:fP l.atom=(lw (l.atom.rel=⟨#[]⟩)&&lw ((l.atom.ae.length:Int)=0)):=rfl;have I:js l.agg=(lw (l.dY=0)&&(lw (l.bp=⟨#[]⟩)&&(c8 l.kQ&&lw ((l.au.length:Int)=0)))):=rfl;have J:jl l=(c8 l.left&&(c8 l.right&&lw (l.op=0))):=rfl;have Y:(!(!lw (l.atom.rel=⟨#[]⟩)||!lw ((l.atom.ae.length:Int)=0)))=fP l.atom:=by rw[F];simp
  have n5:(!(!lw (l.op=0)||(!c8 l.left||!c8 l.right)))=jl l:=by
   rw[J];cases lw (l.op=0)<;>cases c8 l.left<;>cases c8 l.right<;>rfl
  have B:kH l=((lw (l.kind=1)||decide (l.kind=2)||fP l.atom)&&((!!lw (l.kind=3)||jl l)&&(lw (l.kind=4)||js l.agg))):=by
   unfold kH;rw[K9,Y,n5,I]
  unfold DN jY;rw[B]at b ⊢;generalize fP l.atom=A at*
  generalize js l.agg=G at*
  generalize jl l=S at*
  by_cases d:l.kind=2
  .rw[am d,am (.inr d),A9,iy,di];simp only[d];cases w.bad<;>cases(fj l.atom).2<;>cases A<;>cases G<;>cases S<;>rfl
  by_cases k1:l.kind=1
  .rw[be d,am k1,am (.inl k1),A9,di];simp only[k1];cases w.bad<;>cases(fj l.atom).2<;>cases A<;>cases G<;>cases S<;>rfl
  have y: ¬(l.kind=1∨l.kind=2):=by omega
  rw[be d,be k1,be y];by_cases j:l.kind=3
  .rw[am j,am j];have D:lw (l.op<1)=lc∨lw (l.op>6)=lc∨ ¬(l.op<1∨7<=l.op):=by
    simp only[decide_eq_true_eq];omega
   split
   .rename_i C;have:(lw (l.op<1)||decide (l.op>6))=lc:=by simp;omega
    rw[this];simp[oG]
   .rename_i C;have:(lw (l.op<1)||decide (l.op>6))=li:=by simp;omega
    rw[this,qG,iy,qG,di];simp only[j];cases w.bad<;>cases(bL 17 l.left).2<;>cases(bL 17 l.right).2<;>cases A<;>cases G<;>rfl
  rw[be j,be j];by_cases u:l.kind=4
  .rw[am u,am u,b,di];simp only[u];cases w.bad<;>cases(px (fz n (16-w.br-1)) l.agg (16-w.br)).2<;>cases A<;>cases G<;>cases S<;>rfl
  .rw[be u,be u];show lc=(_||true)
   rw[aaA]
def pH(l:Lit):nU:=fz l.size 16 l
theorem Aq(l:Lit):jZ l=(pH l).2:=by
 unfold jZ pH;rw[Hf l.size l WS.o (Ym _)];show(li||(fz l.size (16-0) l).2)=_;rw[Zt];rfl
end Go.Proofs.YtflegjieadkonaaGreatDoor
namespace Go.Proofs.YtflegjieadkonaaGreatDoor
open Go Go.Al
section
structure Ask where
 place:Int
 item:Int
 type:Int
 qt:Int
 deriving Inhabited
def Ask.c(a:Ask):List IV:=[iI a.place,iI a.item,iI a.type,iI a.qt]
structure AK where
 items:List aM
 root:List Int
 l:List Ask
def zg:List aM->aM->Nat
 | [],_=>0
 |a::r,u=>if a=u then 0 else zg r u+1
def AK.ix(A:AK)(u:aM):Int:=((zg A.items u:Nat):Int)
def AK.item(A:AK)(u:aM):AK:=if zg A.items u<A.items.length then A else⟨A.items++ [u],A.root++ [(A.root.length:Int)],A.l⟩
def AK.ask(A:AK)(k:Ask):AK:=if k.type=1∨k.type=2 then⟨A.items,A.root,A.l++ [k]⟩ else A
def AK.want(A:AK)(b:Int)(u:aM)(d:Int):AK:=(A.item u).ask ⟨b,A.ix u,d,0⟩
def AK.rt(A:AK)(i:Int):Int:=A.root.getD i.toNat 0
def AK.tie(A:AK)(x y:Int):AK:=⟨A.items,A.root.map fun z=>if z=A.rt x then A.rt y else z,A.l⟩
section
variable (r:aq) (lit w:Int)
def mI(e:Expr)(A:AK):AK:=if e.kind=1 then A.want lit (bh r e.var w) 1 else if e.kind=2 then A.ask ⟨lit, -1,1,e.val.kind⟩ else A
mutual
def gz:Expr->AK->AK
 | .mk k v val op args=>fun A=>if k=4 then xQ args (mI r lit w (.mk k v val op args) A) else mI r lit w (.mk k v val op args) A
def xQ:List Expr->AK->AK
 | []=>fun A=>A
 |e::s=>fun A=>xQ s (gz e A)
end
theorem DD: ∀(l:List Expr) (A:AK),xQ r lit w l A=l.foldl (fun A e=>gz r lit w e A) A
 | [],A=>by rw[xQ];rfl
 |e::s,A=>by
  rw[xQ];show xQ r lit w s (gz r lit w e A)=_;rw[DD s];rfl
def lS(e:Expr)(A:AK):AK:=if e.kind=4 then e.args.foldl (fun A x=>gz r lit w x A) A else A
theorem wX(e:Expr)(A:AK):gz r lit w e A=lS r lit w e (mI r lit w e A):=by
 cases e;rw[gz];show(if _ then xQ r lit w _ _ else _)=_;rw[DD];rfl
end
def b8(e:Expr):Int:=if e.kind=2 then e.val.kind else if e.kind=4 then 1 else 0
def ki(p:Prog)(r:aq)(a:Atom)(lit w:Int)(i:Nat)(A:AK):AK:=
 if i<(ik p a.rel).types.length then
  (if(a.ae.getD i io).kind=1 then A.want lit (bh r (a.ae.getD i io).var w) (typeAt p a i)
  else if(a.ae.getD i io).kind=2 then A.ask ⟨lit, -1,typeAt p a i,(a.ae.getD i io).val.kind⟩ else A) else A
def fK(p:Prog)(r:aq)(a:Atom)(lit w:Int)(A:AK):Nat->AK
 |0=>A
 |i+1=>ki p r a lit w i (fK p r a lit w A i)
def lC(r:aq)(lit w:Int)(x y:Expr)(A:AK):AK:=
 if b8 x=0 then(if b8 y=0 then((A.item (bh r x.var w)).item (bh r y.var w)).tie (A.ix (bh r x.var w)) ((A.item (bh r x.var w)).ix (bh r y.var w)) else A.want lit (bh r x.var w) (b8 y))
 else if b8 y=0 then A.want lit (bh r y.var w) (b8 x) else A.ask ⟨lit, -1,b8 x,b8 y⟩
def lF(p:Prog)(r:aq)(lit w:Int)(l:Lit)(A:AK):AK:=
 if l.kind=1∨l.kind=2 then fK p r l.atom lit w A l.atom.ae.length
 else if l.kind=3 then(if l.op=1∨l.op=2 then lC r lit w l.left l.right (lS r lit w l.right (lS r lit w l.left A)) else gz r lit w l.right (gz r lit w l.left A)) else A
def E0(p:Prog)(r:aq)(i:Int)(A:AK)(b:List Lit):Nat->AK
 |0=>A
 |k+1=>lF p r i i (b.getD k io) (E0 p r i A b k)
def uT(r:aq)(i:Int)(f:Int)(v:aj)(o:Expr)(A:AK):AK:=
 if f=1 then gz r i i (jj v) A else if f=2 then gz r i i o (gz r i i (jj v) A) else lC r i i (jj v) o (lS r i i o A)
def rU(p:Prog)(r:aq)(i:Int)(l:Lit)(A:AK):AK:=
 if l.kind=4 then E0 p r i (uT r i l.dY l.bp l.kQ A) l.au l.au.length else lF p r i (-1) l A
def AK.o:AK:=⟨[],[],[]⟩
def lI(p:Prog)(r:aq):Nat->AK
 |0=>fK p r r.head (-1) (-1) AK.o r.head.ae.length
 |k+1=>rU p r k (r.body.getD k io) (lI p r k)
def nF(p:Prog)(r:aq):AK:=lI p r r.body.length
inductive F2 {α β:Type} (R:α->β->Prop):List α->List β->Prop
 |nil:F2 R [] []
 |cons {a b l m}:R a b->F2 R l m->F2 R (a::l) (b::m)
theorem F2.snoc{α β:Type}{R:α->β->Prop}{l:List α}{m:List β}{a:α}{b:β}(h:F2 R l m)(hr:R a b):F2 R (l++ [a]) (m++ [b]):=by
 induction h with
 |nil=>exact .cons hr .nil
 |cons h1 _ ih=>exact .cons h1 ih
theorem F2.imp{α β:Type}{R S:α->β->Prop}(f: ∀a b,R a b->S a b){l:List α}{m:List β}(h:F2 R l m):F2 S l m:=by
 induction h with
 |nil=>exact .nil
 |cons h1 _ ih=>exact .cons (f _ _ h1) ih
theorem F2.find{α β γ:Type}{R:α->β->Prop}{p:α->Bool}{q:β->Bool}{f:α->γ}{g:β->γ}(h1: ∀a b,R a b->p a=q b)(h2: ∀a b,R a b->p a=lc->f a=g b){l:List α}{m:List β}(h:F2 R l m):(l.find? p).map f=(m.find? q).map g:=by
 induction h with
 |nil=>rfl
 | @cons a b l m hr _ ih=>
  rw[ZN,ZN,<-h1 a b hr];cases hp:p a with
  |true=>exact congrArg jp (h2 a b hr hp)
  |false=>exact ih
theorem F2.mem{α β:Type}{R:α->β->Prop}{l:List α}{m:List β}(h:F2 R l m): ∀a∈l,∃b∈m,R a b:=by
 induction h with
 |nil=>intro a d;cases d
 |cons h1 _ ih=>
  intro x u;rcases Yx.1 u with e|e
  .subst e;exact⟨_,Yy,h1⟩
  .obtain⟨b,hb,j⟩:=ih x e;exact⟨b,Yt _ hb,j⟩
theorem F2.Vt{α β:Type}{R:α->β->Prop}{l:List α}{m:List β}(h:F2 R l m): ∀b∈m,∃a∈l,R a b:=by
 induction h with
 |nil=>intro a d;cases d
 |cons h1 _ ih=>
  intro x u;rcases Yx.1 u with e|e
  .subst e;exact⟨_,Yy,h1⟩
  .obtain⟨b,hb,j⟩:=ih x e;exact⟨b,Yt _ hb,j⟩
def CK(b:List aM)(k:Ask)(x:Want):Prop:=k.place=x.lit∧((∃i:Nat,k.item=i∧b[i]? =jp x.at_∧x.has=0∧k.type=x.kind∧(x.kind=1∨x.kind=2))∨(k.item= -1∧ ¬x.has=0∧(k.qt=k.type↔x.has=x.kind)))
theorem CK.mono{b more:List aM}{k:Ask}{x:Want}(h:CK b k x):CK (b++more) k x:=by
 obtain⟨d,j⟩:=h;refine⟨d,j.imp (fun⟨i,g1,g2,g3⟩=>⟨i,g1,?_,g3⟩) id⟩;have u:i<b.length:=by
  rcases Yj.1 g2 with⟨h,_⟩;exact h
 rw[YA u];exact g2
structure zm (up:UM) (W:List Want) (A:AK):Prop where
 len:A.root.length=A.items.length
 lt: ∀z∈A.root,0<=z∧z<A.items.length
 cls: ∀(i j:Nat) (u v:aM),A.items[i]? =jp u->A.items[j]? =jp v->(A.root.getD i 0=A.root.getD j 0↔aO up u=aO up v)
 up: ∀q∈up,q.1∈A.items∧q.2∈A.items
 ws:F2 (CK A.items) A.l W
theorem uc{b:List aM}: ∀{j:UM} {v:aM},(∀q∈j,q.1∈b∧q.2∈b)->v∈b->aO j v∈b
 | [],v,_,h=>h
 |(x,y)::r,v,hu,h=>by
  rw[aO];split
  .exact uc (fun q d=>hu q (Yt _ d)) (hu _ Yy).2
  .exact uc (fun q d=>hu q (Yt _ d)) h
theorem AG{l:List Int}{i:Nat}(h:i<l.length):l.getD i 0∈l:=by
 rw[Ye,Yi h];exact YZ h
theorem Hl: ∀{l:List aM} {u:aM},zg l u<l.length->l[zg l u]? =jp u
 | [],u,h=>by cases h
 |a::r,u,h=>by
  rw[zg]at h ⊢;split
  .rename_i e;rw[e];rfl
  .rename_i e;rw[be e,YT]at h;rw[aau];exact Hl (by omega)
theorem BW: ∀{l:List aM} {u:aM},¬zg l u<l.length->u∉l∧zg l u=l.length
 | [],u,_=>⟨fun h=>(nomatch h),rfl⟩
 |a::r,u,h=>by
  rw[zg]at h ⊢;split
  .rename_i e;rw[am e]at h;exact absurd (Nat.succ_pos _) h
  .rename_i e;rw[be e,YT]at h;obtain⟨b,d⟩:=BW (l:=r) (u:=u) (by omega)
   exact⟨fun j=>by
    rcases Yx.1 j with g|g
    .exact e g.symm
    .exact b g,by rw[d,YT]⟩
theorem FT(A:AK)(u:aM): ∃i:Nat,A.ix u=i∧(A.item u).items[i]? =jp u:=by
 refine⟨zg A.items u,rfl,?_⟩;unfold AK.item;split
 .rename_i h;exact Hl h
 .rename_i h;rw[(BW h).2];simp
theorem zm.item{I:UM}{W:List Want}{A:AK}(h:zm I W A)(u:aM):zm I W (A.item u):=by
 unfold AK.item;split
 .exact h
 rename_i hu;have hu:=(BW hu).1;obtain⟨S,Y,h3,C,h5⟩:=h;have hn:aO I u=u:=OZ fun q F e=>hu (e▸(C q F).1)
 have x: ∀(i:Nat) (v:aM),(A.items++ [u])[i]? =jp v->(i<A.items.length∧A.items[i]? =jp v)∨(i=A.items.length∧v=u):=fun i v d=>by
  by_cases D:i<A.items.length
  .rw[YA D]at d;exact .inl ⟨D,d⟩
  .rw[YF (by omega)]at d;rcases Yj.1 d with⟨g1,g2⟩;simp only[YY]at g1;have:i-A.items.length=0:=by omega
   have J:([u]:List aM)[0]? =jp v:=this▸d;exact .inr ⟨by omega,by simpa using J.symm⟩
 have G: ∀i,i<A.items.length->(A.root++ [(A.root.length:Int)]).getD i 0=A.root.getD i 0:=fun i D=>by
  rw[Ye,Ye,YA (by omega)]
 have y:(A.root++ [(A.root.length:Int)]).getD A.items.length 0=A.items.length:=by
  rw[<-S,Ye];simp
 have hnew: ∀(i:Nat) (v:aM),i<A.items.length->A.items[i]? =jp v-> ¬A.root.getD i 0=A.items.length∧ ¬aO I v=u:=fun i v D d=>by
  have:=Y _ (AG (l:=A.root) (i:=i) (by omega));refine⟨by omega,fun e=>hu ?_⟩;rw[<-e];exact uc C (YL d)
 refine⟨by simp[S],fun z hz=>?_,fun i j v w d hw=>?_,fun q F=>⟨YQ _ (C q F).1,YQ _ (C q F).2⟩,h5.imp fun a b=>CK.mono⟩
 .simp only[Yg,YY];rcases Ys.1 hz with g|g
  .have:=Y z g;omega
  .simp only[Yr]at g;omega
 .rcases x i v d with⟨g1,g2⟩|⟨g1,g2⟩<;>rcases x j w hw with⟨k1,B⟩|⟨k1,B⟩
  .rw[G i g1,G j k1];exact h3 i j v w g2 B
  .have:=hnew i v g1 g2;subst k1;subst B;rw[G i g1,y,hn];exact⟨fun e=>absurd e this.1,fun e=>absurd e this.2⟩
  .have:=hnew j w k1 B;subst g1;subst g2;rw[G j k1,y,hn];exact⟨fun e=>absurd e.symm this.1,fun e=>absurd e.symm this.2⟩
  .subst g1;subst g2;subst k1;subst B;exact⟨fun _=>rfl,fun _=>rfl⟩
theorem zm.ask{b:UM}{W:List Want}{A:AK}(h:zm b W A){k:Ask}{x:Want}(d:k.type=1∨k.type=2)(j:CK A.items k x):zm b (W++ [x]) (A.ask k):=by
 unfold AK.ask;rw[am d];exact⟨h.len,h.lt,h.cls,h.up,h.ws.snoc j⟩
theorem zm.want{d:UM}{W:List Want}{A:AK}(h:zm d W A)(lit:Int)(u:aM){t:Int}(b:t=1∨t=2):zm d (W++ [⟨lit,u,t,0⟩]) (A.want lit u t):=by
 obtain⟨i,j,x⟩:=FT A u;exact(h.item u).ask b ⟨rfl,.inl ⟨i,j,x,rfl,rfl,b⟩⟩
theorem zm.val{u:UM}{W:List Want}{A:AK}(h:zm u W A)(lit:Int){t d j b:Int}(x:t=1∨t=2)(hh: ¬b=0)(he:d=t↔b=j):zm u (W++ [⟨lit,aM.z,j,b⟩]) (A.ask ⟨lit, -1,t,d⟩):=
 h.ask x ⟨rfl,.inr ⟨rfl,hh,he⟩⟩
theorem u0: ∀(m:UM) (p q v:aM),aO (m++ [(p,q)]) v=if aO m v=p then q else aO m v
 | [],p,q,v=>by
  show(if p=v then q else v)=if v=p then q else v;by_cases h:p=v
  .rw[am h,am h.symm]
  .rw[be h,be fun e=>h e.symm]
 |(x,y)::r,p,q,v=>by
  rw[ZO,aO,aO];split
  .exact u0 r p q y
  .exact u0 r p q v
theorem CH{t:TS}(ok:iT t.up)(a b v:aM):aO (sI t (aO t.up a) (aO t.up b)).up v=if aO t.up v=aO t.up a then aO t.up b else aO t.up v:=by
 unfold sI;split
 .rename_i h;by_cases g:aO t.up v=aO t.up a
  .rw[am g,<-h,g]
  .rw[be g]
 .show aO (ck (.si .i64) t.up (aO t.up a) (aO t.up b)) v=_;rw[ud _ _ _ (mv _ t.up a ok (Ym _)),u0]
theorem S3{t:TS}(ok:iT t.up)(a b:aM): ∀q∈(sI t (aO t.up a) (aO t.up b)).up,q∈t.up∨q=(aO t.up a,aO t.up b):=by
 unfold sI;split
 .exact fun q d=> .inl d
 .intro q d;have d:q∈ck (.si .i64) t.up (aO t.up a) (aO t.up b):=d;rw[ud _ _ _ (mv _ t.up a ok (Ym _))]at d;rcases Ys.1 d with g|g
  .exact .inl g
  .exact .inr (by simpa using g)
theorem mrg{α:Type}[DecidableEq α](x y p q:α):((if x=p then q else x)=(if y=p then q else y))↔(x=y∨(x=p∧y=q)∨(x=q∧y=p)):=by
 by_cases b:x=p<;>by_cases d:y=p
 .rw[am b,am d,b,d];exact⟨fun _=> .inl Z,fun _=>rfl⟩
 .rw[am b,be d,b]
  exact⟨fun e=> .inr (.inl ⟨rfl,e.symm⟩),fun e=>by
   rcases e with e|⟨_,e⟩|⟨_,e⟩
   .exact absurd e.symm d
   .exact e.symm
   .exact absurd e d⟩
 .rw[be b,am d,d]
  exact⟨fun e=> .inr (.inr ⟨e,rfl⟩),fun e=>by
   rcases e with e|⟨e,_⟩|⟨e,_⟩
   .exact absurd e b
   .exact absurd e b
   .exact e⟩
 .rw[be b,be d]
  exact⟨fun e=> .inl e,fun e=>by
   rcases e with e|⟨e,_⟩|⟨_,e⟩
   .exact e
   .exact absurd e b
   .exact absurd e d⟩
theorem zm.tie{t:TS}{W:List Want}{A:AK}(h:zm t.up W A)(ok:iT t.up){x y:Nat}{u v:aM}(S:A.items[x]? =jp u)(J:A.items[y]? =jp v){a b:aM}(G:(a=u∧b=v)∨(a=v∧b=u)):zm (sI t (aO t.up a) (aO t.up b)).up W (A.tie x y):=by
 have D: ∀{i:Nat} {w:aM},A.items[i]? =jp w->i<A.root.length:=fun g=>by
  rcases Yj.1 g with⟨h',_⟩;rw[h.len];exact h'
 have I: ∀n:Nat,A.rt n=A.root.getD n 0:=fun n=>rfl
 have C: ∀i:Nat,i<A.root.length->(A.tie x y).root.getD i 0=if A.root.getD i 0=A.rt x then A.rt y else A.root.getD i 0:=fun i hi=>by
  show(A.root.map _).getD i 0=_;rw[Ye,Yo,Yi hi,Ye,Yi hi];rfl
 have B: ∀c,c=u∨c=v->aO t.up c∈A.items:=fun c F=>uc h.up (by
  rcases F with e|e
  .rw[e];exact YL S
  .rw[e];exact YL J)
 refine⟨by show(A.root.map _).length=_;rw[YH];exact h.len,fun z Y=>?_,fun i j c d F hd=>?_,fun q hq=>?_,h.ws⟩
 .have Y:z∈A.root.map _:=Y;rcases YP.1 Y with⟨z0,g1,g2⟩;have:=h.lt z0 g1;have h2:=h.lt _ (AG (D J));subst g2;show 0<=_∧_<(A.items.length:Int)
  split
  .exact h2
  .exact this
 .rw[C i (D F),C j (D hd),I,I,mrg,CH ok,CH ok,mrg];have e1:=h.cls i j c d F hd;have e2:=h.cls i x c u F S;have e3:=h.cls i y c v F J;have e4:=h.cls j x d u hd S;have e5:=h.cls j y d v hd J;rw[e1,e2,e3,e4,e5];rcases G with⟨rfl,rfl⟩|⟨rfl,rfl⟩
  .exact Iff.rfl
  .exact⟨fun e=>e.imp id Or.symm,fun e=>e.imp id Or.symm⟩
 .rcases S3 ok a b q hq with g|g
  .exact h.up q g
  .subst g;rcases G with⟨rfl,rfl⟩|⟨rfl,rfl⟩
   .exact⟨B _ (.inl Z),B _ (.inr Z)⟩
   .exact⟨B _ (.inr Z),B _ (.inl Z)⟩
def ux(l:List Want)(q:aM->Bool):Option Int:=(l.find? fun x=>lw (x.has=0)&&q x.at_).map Want.kind
theorem nD(l m:List Want)(q:aM->Bool):ux (l++m) q=(ux l q).or (ux m q):=by
 unfold ux;rw[aaZ,Option.map_or]
def Sw(l m:List Want):Prop:=(∀q,ux l q=ux m q)∧ ∀x,x∈l↔x∈m
theorem Sw.refl(l:List Want):Sw l l:=⟨fun _=>rfl,fun _=>Iff.rfl⟩
theorem Sw.app{l m b d:List Want}(h:Sw l b)(g:Sw m d):Sw (l++m) (b++d):=
 ⟨fun q=>by rw[nD,nD,h.1,g.1],fun x=>by rw[Ys,Ys,h.2,g.2]⟩
theorem El{l:List Want}(h: ∀x∈l,x.kind=1)(q:aM->Bool):ux l q=kw∨ux l q=jp 1:=by
 unfold ux;cases hf:l.find? fun x=>lw (x.has=0)&&q x.at_ with
 |none=>exact .inl Z
 |some x=>exact .inr (congrArg jp (h x (aal hf)))
theorem Sw.swap{l m:List Want}(h1: ∀x∈l,x.kind=1)(h2: ∀x∈m,x.kind=1):Sw (l++m) (m++l):=by
 refine⟨fun q=>?_,fun x=>by rw[Ys,Ys,or_comm]⟩;rw[nD,nD];rcases El h1 q with a|a<;>rcases El h2 q with b|b<;>rw[a,b]<;>rfl
theorem FP(r:aq)(lit w:Int)(e:Expr): ∀x∈kG r lit w e,x.kind=1:=by
 unfold kG;split
 .intro x b;rw[Yr.1 b]
 split
 .intro x b;rw[Yr.1 b]
 .intro x b;cases b
theorem xP(r:aq)(lit w:Int): ∀(n:Nat) (e:Expr),e.size<=n-> ∀x∈gm r lit w e,x.kind=1
 |0,e,h=>by have:=e.size_pos;omega
 |n+1,e,h=>by
  intro x j;rw[wW]at j;rcases Ys.1 j with g|g
  .exact FP r lit w e x g
  .unfold jb at g;split at g
   .rcases ZZ.1 g with⟨y,A,u⟩;obtain⟨k,d,rfl⟩:=ZA.1 A;have b:=Expr.aS e.args k d;rw[Ye,Yi d]at b;have b:(e.args[k]).size<=Expr.aA e.args:=b;have:=e.size_eq;exact xP r lit w n _ (by omega) x u
   .cases g
def Bf(t:TS)(A:AK):Prop:=iT t.up∧ ∃W,Sw t.ws W∧zm t.up W A
def y6(X:List Want)(A B:AK):Prop:= ∀b W,zm b W A->zm b (W++X) B
theorem y6.nil(A:AK):y6 [] A A:=fun b W h=>by rw[Y0];exact h
theorem y6.app{X Y:List Want}{A B C:AK}(h:y6 X A B)(g:y6 Y B C):y6 (X++Y) A C:=fun d W b=>by
 rw[<-Yu];exact g _ _ (h _ _ b)
theorem Bf.add{t:TS}{A B:AK}(h:Bf t A){X:List Want}(g:y6 X A B):Bf (t.add X) B:=by
 obtain⟨ok,W,b,d⟩:=h;exact⟨ok,_,b.app (Sw.refl X),g _ _ d⟩
theorem Bf.swap{t:TS}{A B:AK}(h:Bf t A){X Y:List Want}(h1: ∀x∈X,x.kind=1)(h2: ∀x∈Y,x.kind=1)(g:y6 (Y++X) A B):Bf (t.add (X++Y)) B:=by
 obtain⟨ok,W,k1,b⟩:=h;exact⟨ok,_,k1.app (Sw.swap h1 h2),g _ _ b⟩
mutual
def Af:Expr->Prop
 | .mk k _ val _ args=>k=1∨(k=2∧(val.kind=1∨val.kind=2))∨(k=4∧K2 args)
def K2:List Expr->Prop
 | []=>True
 |e::s=>Af e∧K2 s
end
theorem DB: ∀{l:List Expr},K2 l↔ ∀e∈l,Af e
 | []=>by rw[K2];exact⟨fun _ e d=>(nomatch d),fun _=>trivial⟩
 |e::s=>by
  rw[K2,DB]
  exact⟨fun h x b=>by
   rcases Yx.1 b with g|g
   .rw[g];exact h.1
   .exact h.2 x g,fun h=>⟨h e Yy,fun x b=>h x (Yt _ b)⟩⟩
theorem tc(e:Expr):Af e↔(e.kind=1∨(e.kind=2∧(e.val.kind=1∨e.val.kind=2))∨(e.kind=4∧ ∀x∈e.args,Af x)):=by
 cases e;rw[Af,DB];rfl
theorem vH{v:tE}(h:dy v=0):v.kind=1∨v.kind=2:=by
 unfold dy at h
 repeat' split at h
 all_goals first|omega|(simp at h;done)|(simp_all;done)|(simp_all;omega)
theorem Vx{l:List Expr}(h:l.length=1):l=[l.getD 0 io]:=by
 match l,h with
 | [a],_=>rfl
theorem Vw{l:List Expr}(h:l.length=2):l=[l.getD 0 io,l.getD 1 io]:=by
 match l,h with
 | [a,b],_=>rfl
theorem yv: ∀(n:Nat) (e:Expr),(bL n e).2=li->Af e:=by
 intro n
 induction n using Nat.strongRecOn with
 |_ n ih=>
 intro e h;have hh: ∀b k,(iK e b k).2=li->(k.2=li->e.kind=4->Af e)->Af e:=fun b k g1 g2=>by
  unfold iK at g1;split at g1
  .rename_i B;rw[tc];by_cases k1:e.kind=1
   .exact .inl k1
   have y:e.kind=2:=by omega
   refine .inr (.inl ⟨y,?_⟩);unfold Av fc at g1;rw[be k1]at g1;simp only[Y6]at g1;exact vH (by simpa using g1.1.1)
  split at g1
  .cases g1
  .rename_i k1 y;exact g2 g1 (Zu fun g=>y (.inl g))
 match n,ih,h with
 |0,ih,h=>exact hh _ _ h fun g _=>by cases g
 |1,ih,h=>exact hh _ _ h fun g _=>by cases g
 |m+2,ih,h=>
  have d: ∀b a,(kL m b a).2=li->Af a:=fun b a g=>by
   unfold kL at g;split at g
   .have g:((bL m a).2||decide (m<1))=li:=g;rw[Y6]at g;exact ih m (by omega) a g.1
   .exact ih (m+1) (by omega) a g
  refine hh _ _ h fun g A=>?_;rw[tc];refine .inr (.inr ⟨A,?_⟩);have g:(oe (kL m) e).2=li:=g;unfold oe at g;split at g
  .split at g
   .rename_i j;rw[Vx j];intro x u;rw[Yr.1 u];exact d _ _ g
   .cases g
  .split at g
   .rename_i j;have g:((kL m _ (aN e)).2||(kL m _ (lg e)).2)=li:=g;rw[Y6]at g;rw[Vw j];intro x u;rcases Yx.1 u with q|q
    .rw[q];exact d _ _ g.1
    .rw[Yr.1 q];exact d _ _ g.2
   .cases g
theorem Lk(r:aq)(lit w:Int){e:Expr}(h:Af e)(A:AK):y6 (kG r lit w e) A (mI r lit w e A):=by
 rw[tc]at h;unfold kG mI;by_cases k1:e.kind=1
 .rw[am k1,am k1];exact fun j W d=>d.want lit _ (.inl Z)
 rw[be k1,be k1];by_cases b:e.kind=2
 .rw[am b,am b];refine fun j W d=>d.val lit (.inl Z) ?_ Iff.rfl;omega
 .rw[be b,be b];exact y6.nil A
theorem yS(r:aq)(lit w:Int): ∀(l:List Expr),(∀x∈l,∀A,y6 (gm r lit w x) A (gz r lit w x A))-> ∀A,y6 (l.flatMap (gm r lit w)) A (l.foldl (fun A x=>gz r lit w x A) A)
 | [],_,A=>y6.nil A
 |e::s,h,A=>by
  rw[Zk,YN];exact(h e Yy A).app (yS r lit w s (fun x b=>h x (Yt _ b)) _)
theorem oU(r:aq)(lit w:Int): ∀(n:Nat) (e:Expr),e.size<=n->Af e-> ∀A,y6 (gm r lit w e) A (gz r lit w e A)
 |0,e,h,_=>by have:=e.size_pos;omega
 |n+1,e,h,ok=>by
  intro A;rw[wW,wX];refine(Lk r lit w ok A).app ?_;rw[tc]at ok;unfold jb lS;split
  .rename_i u;refine yS r lit w _ (fun x j=>?_) _;obtain⟨k,d,rfl⟩:=ZA.1 j;have b:=Expr.aS e.args k d;rw[Ye,Yi d]at b;have b:(e.args[k]).size<=Expr.aA e.args:=b;have:=e.size_eq;refine oU r lit w n _ (by omega) ?_;rcases ok with g|g|g
   .omega
   .omega
   .exact g.2 _ j
  .exact y6.nil _
theorem B1(r:aq)(lit w:Int)(e:Expr)(ok:Af e)(A:AK):y6 (jb r lit w e) A (lS r lit w e A):=by
 rw[tc]at ok;unfold jb lS;split
 .refine yS r lit w _ (fun x b=>oU r lit w _ x (Ym _) ?_) _;rcases ok with g|g|g
  .omega
  .omega
  .exact g.2 _ b
 .exact y6.nil _
def K0(x:Term):Prop:=x.kind=2->(x.val.kind=1∨x.val.kind=2)
def Uo(a:Atom):Prop:= ∀i,i<a.ae.length->K0 (a.ae.getD i io)
theorem yP(p:Prog)(r:aq)(a:Atom)(lit w:Int)(ok:Uo a)(A:AK): ∀i,i<=a.ae.length->y6 (gq p r a lit w i) A (fK p r a lit w A i)
 |0,_=>y6.nil A
 |i+1,hi=>by
  rw[gq,fK];refine(yP p r a lit w ok A i (by omega)).app ?_;have ok:=ok i (by omega);generalize fK p r a lit w A i=B;unfold mj ki nL;by_cases x:i<(ik p a.rel).types.length
  .rw[am x,decide_eq_true x,Zc];by_cases b:typeAt p a i=1∨typeAt p a i=2
   .have:(lw (typeAt p a i=1)||decide (typeAt p a i=2))=lc:=by simpa using b
    rw[this,be (by decide)];by_cases k1:(a.ae.getD i io).kind=1
    .rw[am k1,am k1];exact fun y W d=>d.want lit _ b
    rw[be k1,be k1];by_cases u:(a.ae.getD i io).kind=2
    .rw[am u,am u];refine fun y W d=>d.val lit b ?_ Iff.rfl;have:=ok u;omega
    .rw[be u,be u];exact y6.nil B
   .have:(lw (typeAt p a i=1)||decide (typeAt p a i=2))=li:=by simpa using b
    rw[this,am Z];have j: ∀(C:AK) (k:Ask),k.type=typeAt p a i->C.ask k=C:=fun C k D=>by unfold AK.ask;rw[be (by rw[D];exact b)]
    split
    .intro y W d;unfold AK.want;rw[j _ _ Z,Y0];exact d.item _
    split
    .rw[j _ _ Z];exact y6.nil B
    .exact y6.nil B
  .rw[be x,decide_eq_false x,Zm,am Z];exact y6.nil B
theorem B6{e:Expr}(ok:Af e)(h: ¬e.kind=1):b8 e=lT e∧(lT e=1∨lT e=2):=by
 rw[tc]at ok;unfold b8 lT;by_cases b:e.kind=2
 .rw[am b,am b];exact⟨rfl,by omega⟩
 .rw[be b,be b];have:e.kind=4:=by omega
  rw[am this];exact⟨rfl,.inl Z⟩
theorem sH{e:Expr}(h:e.kind=1):b8 e=0:=by
 unfold b8;rw[be (by omega),be (by omega)]
theorem I0{A:AK}{i:Nat}{u v:aM}(h:A.items[i]? =jp v):(A.item u).items[i]? =jp v:=by
 unfold AK.item;split
 .exact h
 .show(_++_)[i]? =_;rcases Yj.1 h with⟨g,_⟩;rw[YA g];exact h
theorem Bb{r:aq}{lit w:Int}{t:TS}{A:AK}{a b:Expr}(B:Af a)(ob:Af b)(h:Bf t A):Bf (if b.kind=1 then fW r lit w t b a else fW r lit w t a b) (lC r lit w a b A):=by
 unfold fW lC;by_cases kb:b.kind=1
 .rw[am kb,sH kb];by_cases d:a.kind=1
  .rw[am d,sH d,am Z,am Z];obtain⟨ok,W,G,I⟩:=h;obtain⟨i,i1,i2⟩:=FT A (bh r a.var w);obtain⟨j,J,S⟩:=FT (A.item (bh r a.var w)) (bh r b.var w);have u:=(I.item (bh r a.var w)).item (bh r b.var w);rw[i1,J];refine⟨JX ok _ _,W,by rw[JW];exact G,u.tie ok (x:=i) (y:=j) ?_ S (.inr ⟨rfl,rfl⟩)⟩;exact I0 i2
  .obtain⟨g1,g2⟩:=B6 B d;have g0: ¬lT a=0:=by omega
   rw[be d,g1,be g0,am Z,am kb];exact h.add fun C W u=>u.want lit _ g2
 .rw[be kb];obtain⟨g1,g2⟩:=B6 ob kb;have g0: ¬lT b=0:=by omega
  rw[be kb,g1];by_cases d:a.kind=1
  .rw[am d,sH d,am Z,be g0];exact h.add fun C W u=>u.want lit _ g2
  .obtain⟨k1,Y⟩:=B6 B d;have k0: ¬lT a=0:=by omega
   rw[be d,k1,be k0,be g0];have F:(if a.kind=2 then[⟨lit,aM.z,lT b,a.val.kind⟩] else[⟨lit,aM.z,lT b,1⟩]:List Want)=[⟨lit,aM.z,lT b,lT a⟩]:=by
    have D:lT a=if a.kind=2 then a.val.kind else 1:=rfl;rw[D];split<;>rfl
   rw[F];exact h.add fun C W u=>u.val lit Y (by omega) ⟨fun e=>e.symm,fun e=>e.symm⟩
def IH(l:Lit):Prop:=((l.kind=1∨l.kind=2)->Uo l.atom)∧(l.kind=3->Af l.left∧Af l.right)
theorem Hc{p:Prog}{r:aq}{lit w:Int}{t:TS}{A:AK}{l:Lit}(ok:IH l)(h:Bf t A):Bf (pN p r lit w t l) (lF p r lit w l A):=by
 unfold pN lF;split
 .rename_i k;exact h.add (yP p r l.atom lit w (ok.1 k) A _ (Ym _))
 split
 .rename_i k;obtain⟨b,d⟩:=ok.2 k;split
  .unfold jx;exact Bb b d ((h.add (B1 r lit w l.left b A)).add (B1 r lit w l.right d _))
  .exact(h.add (oU r lit w _ l.left (Ym _) b A)).add (oU r lit w _ l.right (Ym _) d _)
 .exact h
theorem Lx{p:Prog}{r:aq}{i:Int}{t:TS}{A:AK}{b:List Lit}(ok: ∀k,k<b.length->IH (b.getD k io))(h:Bf t A): ∀k,k<=b.length->Bf (sc p r i t b k) (E0 p r i A b k)
 |0,_=>h
 |k+1,hk=>Hc (ok k hk) (Lx ok h k (by omega))
theorem Bk(v:aj):Af (jj v):=by rw[tc];exact .inl Z
theorem Lu(r:aq)(i w:Int)(v:aj):jb r i w (jj v)=[]:=rfl
theorem Nk{r:aq}{i f:Int}{v:aj}{o:Expr}{t:TS}{A:AK}(ok: ¬f=1->Af o)(h:Bf t A):Bf (wv r i t f v o) (uT r i f v o A):=by
 unfold wv uT;by_cases f1:f=1
 .rw[be (by omega),am f1,am f1];exact h.add (oU r i i _ _ (Ym _) (Bk v) A)
 have ok:=ok f1;by_cases f2:f=2
 .simp only[be f1,am f2];rw[TS.add_add];exact h.swap (xP r i i _ _ (Ym _)) (xP r i i _ _ (Ym _)) ((oU r i i _ _ (Ym _) (Bk v) A).app (oU r i i _ _ (Ym _) ok _))
 .simp only[be f1,be f2];unfold jx;rw[Lu,TS.add_nil];exact Bb (Bk v) ok (h.add (B1 r i i o ok A))
def Vp(l:Lit):Prop:=IH l∧(l.kind=4->(¬l.dY=1->Af l.kQ)∧ ∀k,k<l.au.length->IH (l.au.getD k io))
theorem J8{p:Prog}{r:aq}{i:Int}{t:TS}{A:AK}{l:Lit}(ok:Vp l)(h:Bf t A):Bf (stepT p r i t l) (rU p r i l A):=by
 unfold stepT rU;split
 .rename_i b;exact Lx (ok.2 b).2 (Nk (ok.2 b).1 h) _ (Ym _)
 .exact Hc ok.1 h
theorem Vr:Bf TS.o AK.o:=⟨ac,[],Sw.refl _,rfl,fun z d=>(nomatch d),fun i j u v hu=>by simp[AK.o]at hu,fun q b=>(nomatch b),.nil⟩
theorem EI{p:Prog}{r:aq}(b:Uo r.head)(ok: ∀k,k<r.body.length->Vp (r.body.getD k io)): ∀k,k<=r.body.length->Bf (fi p r k) (lI p r k)
 |0,_=>Vr.add (yP p r r.head _ _ b _ _ (Ym _))
 |k+1,hk=>J8 (ok k hk) (EI b ok k (by omega))
end
def np(lit:Int)(A B:AK):Prop:= ∃m,B.l=A.l++m∧ ∀k∈m,k.place=lit
theorem np.refl(lit:Int)(A:AK):np lit A A:=⟨[],by simp,fun k b=>(nomatch b)⟩
theorem np.trans{lit:Int}{A B C:AK}(h:np lit A B)(g:np lit B C):np lit A C:=by
 obtain⟨m,b,d⟩:=h;obtain⟨n,g1,g2⟩:=g;exact⟨m++n,by rw[g1,b,Yu],fun k j=>(Ys.1 j).elim (d k) (g2 k)⟩
theorem yd(lit:Int)(A:AK)(u:aM):np lit A (A.item u):=by
 unfold AK.item;split
 .exact .refl _ _
 .exact⟨[],by simp,fun k b=>(nomatch b)⟩
theorem xj{lit:Int}(A:AK){k:Ask}(h:k.place=lit):np lit A (A.ask k):=by
 unfold AK.ask;split
 .exact⟨[k],rfl,fun x b=>by rw[Yr.1 b];exact h⟩
 .exact .refl _ _
theorem tG(lit:Int)(A:AK)(u:aM)(t:Int):np lit A (A.want lit u t):=(yd lit A u).trans (xj _ Z)
theorem OA(lit:Int)(A:AK)(x y:Int):np lit A (A.tie x y):=⟨[],by simp[AK.tie],fun k b=>(nomatch b)⟩
theorem Ll(r:aq)(lit w:Int)(e:Expr)(A:AK):np lit A (mI r lit w e A):=by
 unfold mI;split
 .exact tG _ _ _ _
 split
 .exact xj _ Z
 .exact .refl _ _
theorem yT(r:aq)(lit w:Int): ∀(l:List Expr),(∀x∈l,∀A,np lit A (gz r lit w x A))-> ∀A,np lit A (l.foldl (fun A x=>gz r lit w x A) A)
 | [],_,A=> .refl _ _
 |e::s,h,A=>(h e Yy A).trans (yT r lit w s (fun x b=>h x (Yt _ b)) _)
theorem oV(r:aq)(lit w:Int): ∀(n:Nat) (e:Expr),e.size<=n-> ∀A,np lit A (gz r lit w e A)
 |0,e,h=>by have:=e.size_pos;omega
 |n+1,e,h=>by
  intro A;rw[wX];refine(Ll r lit w e A).trans ?_;unfold lS;split
  .refine yT r lit w _ (fun x j=>?_) _;obtain⟨k,d,rfl⟩:=ZA.1 j;have b:=Expr.aS e.args k d;rw[Ye,Yi d]at b;have b:(e.args[k]).size<=Expr.aA e.args:=b;have:=e.size_eq;exact oV r lit w n _ (by omega)
  .exact .refl _ _
theorem B2(r:aq)(lit w:Int)(e:Expr)(A:AK):np lit A (lS r lit w e A):=by
 unfold lS;split
 .exact yT r lit w _ (fun x _=>oV r lit w _ x (Ym _)) _
 .exact .refl _ _
theorem Jv(p:Prog)(r:aq)(a:Atom)(lit w:Int)(i:Nat)(A:AK):np lit A (ki p r a lit w i A):=by
 unfold ki;split
 .split
  .exact tG _ _ _ _
  split
  .exact xj _ Z
  .exact .refl _ _
 .exact .refl _ _
theorem yQ(p:Prog)(r:aq)(a:Atom)(lit w:Int)(A:AK): ∀i,np lit A (fK p r a lit w A i)
 |0=> .refl _ _
 |i+1=>(yQ p r a lit w A i).trans (Jv _ _ _ _ _ _ _)
theorem Bd(r:aq)(lit w:Int)(x y:Expr)(A:AK):np lit A (lC r lit w x y A):=by
 unfold lC;split
 .split
  .exact((yd _ _ _).trans (yd _ _ _)).trans (OA _ _ _ _)
  .exact tG _ _ _ _
 split
 .exact tG _ _ _ _
 .exact xj _ Z
theorem He(p:Prog)(r:aq)(lit w:Int)(l:Lit)(A:AK):np lit A (lF p r lit w l A):=by
 unfold lF;split
 .exact yQ _ _ _ _ _ _ _
 split
 .split
  .exact((B2 _ _ _ _ _).trans (B2 _ _ _ _ _)).trans (Bd _ _ _ _ _ _)
  .exact(oV _ _ _ _ _ (Ym _) _).trans (oV _ _ _ _ _ (Ym _) _)
 .exact .refl _ _
theorem Ly(p:Prog)(r:aq)(i:Int)(A:AK)(b:List Lit): ∀k,np i A (E0 p r i A b k)
 |0=> .refl _ _
 |k+1=>(Ly p r i A b k).trans (He _ _ _ _ _ _)
theorem Nl(r:aq)(i f:Int)(v:aj)(o:Expr)(A:AK):np i A (uT r i f v o A):=by
 unfold uT;split
 .exact oV _ _ _ _ _ (Ym _) _
 split
 .exact(oV _ _ _ _ _ (Ym _) _).trans (oV _ _ _ _ _ (Ym _) _)
 .exact(B2 _ _ _ _ _).trans (Bd _ _ _ _ _ _)
theorem Ka(p:Prog)(r:aq)(i:Int)(l:Lit)(A:AK):np i A (rU p r i l A):=by
 unfold rU;split
 .exact(Nl _ _ _ _ _ _).trans (Ly _ _ _ _ _ _)
 .exact He _ _ _ _ _ _
theorem KP{l:List Ask}{i:Int}(h: ∀a∈l,a.place=i):l.Pairwise fun a b=>a.place<=b.place:=by
 induction l with
 |nil=>exact .nil
 |cons a r ih=>
  refine .cons (fun b hb=>?_) (ih fun b hb=>h b (Yt _ hb));rw[h a Yy,h b (Yt _ hb)];exact aak _
theorem nE(p:Prog)(r:aq): ∀k:Nat,((lI p r k).l.Pairwise fun a b=>a.place<=b.place)∧ ∀a∈(lI p r k).l, -1<=a.place∧a.place<k
 |0=>by
  obtain⟨m,d,j⟩:=yQ p r r.head (-1) (-1) AK.o r.head.ae.length;have d:(lI p r 0).l=m:=by show(fK _ _ _ _ _ _ _).l=m;rw[d];rfl
  rw[d];exact⟨KP j,fun a u=>by rw[j a u];omega⟩
 |k+1=>by
  obtain⟨i1,i2⟩:=nE p r k;obtain⟨m,d,j⟩:=Ka p r k (r.body.getD k io) (lI p r k);have d:(lI p r (k+1)).l=(lI p r k).l++m:=d;rw[d];refine⟨aat.2 ⟨i1,KP j,fun a u b hb=>?_⟩,fun a u=>?_⟩
  .have:=i2 a u;rw[j b hb];omega
  .rcases Ys.1 u with g|g
   .have:=i2 a g;omega
   .rw[j a g];omega
def AK.kind(A:AK)(i:Int):Int:=((A.l.find? fun k=>lw (k.item>=0)&&lw (A.rt k.item=A.rt i)).map Ask.type).getD 0
theorem PL{b:UM}{W:List Want}{A:AK}(h:zm b W A){i:Nat}{u:aM}(hi:A.items[i]? =jp u):A.kind i=(ux W fun s=>lw (aO b s=aO b u)).getD 0:=by
 unfold AK.kind ux;refine congrArg (fun o:Option Int=>o.getD 0) (F2.find ?_ ?_ h.ws)
 .rintro k x ⟨_,⟨j,g1,g2,g3,_⟩|⟨g1,g2,_⟩⟩
  .rw[g1,decide_eq_true (by omega:(j:Int)>=0),Zc,g3,decide_eq_true Z,Zc];exact decide_eq_decide.2 (h.cls j i _ _ g2 hi)
  .rw[g1,decide_eq_false (by omega),decide_eq_false g2];rfl
 .rintro k x ⟨_,⟨j,g1,g2,g3,g4,_⟩|⟨g1,g2,_⟩⟩ hp
  .exact g4
  .rw[g1]at hp;simp at hp
theorem PD{m:KM}{a c:aM}{v:Int}:bY (.si .i64) (ck (.si .i64) m a v) c 0=if a=c then v else bY (.si .i64) m c 0:=by
 induction m with
 |nil=>simp only[ck,bY]
 |cons x r ih=>
  obtain⟨y,b⟩:=x;simp only[ck];by_cases h:y=a
  .rw[am h];simp only[bY];by_cases d:a=c
   .simp[d]
   .have: ¬y=c:=fun e=>d (h▸e)
    rw[be d,be d,be this]
  .rw[be h];simp only[bY,ih];by_cases d:y=c
   .have: ¬a=c:=fun e=>h (d.trans e.symm)
    rw[am d,be this,am d]
   .rw[be d,be d]
theorem Aw(b:UM)(c:aM): ∀(d:List Want) (m:KM),(∀x∈d,x.has=0-> ¬x.kind=0)->bY (.si .i64) (d.foldl (cI b) m) c 0=if bY (.si .i64) m c 0=0 then(ux d fun s=>lw (aO b s=c)).getD 0 else bY (.si .i64) m c 0
 | [],m,_=>by
  show bY (.si .i64) m c 0=if bY (.si .i64) m c 0=0 then 0 else _;split<;>first|assumption|rfl
 |x::s,m,h=>by
  have j:=h x Yy;rw[YN,Aw b c s _ fun y u=>h y (Yt _ u)];unfold ux;rw[ZN];unfold cI;by_cases g:x.has=0∧bY (.si .i64) m (aO b x.at_) 0=0
  .obtain⟨g1,g2⟩:=g;rw[am (show x.has=0∧bY (.si .i64) m (aO b x.at_) 0=0 from⟨g1,g2⟩),PD,decide_eq_true g1,Zc];by_cases e:aO b x.at_=c
   .rw[am e,be (j g1),show(fun s=>lw (aO b s=c)) x.at_=lc from decide_eq_true e,am (e▸g2)];rfl
   .rw[be e,show(fun s=>lw (aO b s=c)) x.at_=li from decide_eq_false e]
  .rw[be g];by_cases k:bY (.si .i64) m c 0=0
   .rw[am k,am k];have:(lw (x.has=0)&&lw (aO b x.at_=c))=li:=by
     cases hd:lw (x.has=0) with
     |false=>rfl
     |true=>
      rw[Zc,decide_eq_false];intro e;exact g ⟨zT hd,e▸k⟩
    rw[this]
   .rw[be k,be k]
abbrev BT(t:TS):TS:=⟨t.up,t.ws,t.ws.foldl (cI t.up) []⟩
theorem Lp{t:TS}{W:List Want}{A:AK}(h1:Sw t.ws W)(h:zm t.up W A)(u:aM):bY (.si .i64) (BT t).kind (aO t.up u) 0=(ux W fun s=>lw (aO t.up s=aO t.up u)).getD 0:=by
 show bY (.si .i64) (t.ws.foldl (cI t.up) []) (aO t.up u) 0=_;rw[Aw,<-h1.1]
 .exact am Z
 .intro x d b;obtain⟨k,_,_,⟨j,_,_,_,_,g⟩|⟨_,g,_⟩⟩:=h.ws.Vt x ((h1.2 x).1 d)
  .omega
  .exact absurd b g
def AK.bad(A:AK)(k:Ask):Bool:=!lw ((if k.item>=0 then A.kind k.item else k.qt)=k.type)
def jk(r:aq)(A:AK):aT:=match A.l.find? A.bad with
 |some k=>(63,fw r k.place)
 |none=>aT.z
theorem MJ{t:TS}{W:List Want}{A:AK}(h1:Sw t.ws W)(h:zm t.up W A){k:Ask}{x:Want}(b:CK A.items k x):A.bad k=!lw (tI (BT t) x=x.kind):=by
 unfold AK.bad tI;obtain⟨_,⟨j,g1,g2,g3,g4,_⟩|⟨g1,g2,g3⟩⟩:=b
 .rw[g1,am (by omega),am g3,g4,Lp h1 h,PL h g2]
 .rw[be (by omega),be g2];exact congrArg _ (decide_eq_decide.2 g3)
theorem uP{t:TS}{A:AK}(h:Bf t A)(lit:Int):nI (BT t) lit=lc↔ ∃k∈A.l,k.place=lit∧A.bad k=lc:=by
 obtain⟨_,W,d,j⟩:=h;unfold nI;rw[Y8];constructor
 .rintro⟨x,y,hb⟩;obtain⟨k,u,b⟩:=j.ws.Vt x ((d.2 x).1 y);unfold rR at hb;rw[YB,decide_eq_true_iff]at hb;exact⟨k,u,b.1.trans hb.1,by rw[MJ d j b];exact hb.2⟩
 .rintro⟨k,u,hp,hb⟩;obtain⟨x,y,b⟩:=j.ws.mem k u;refine⟨x,(d.2 x).2 y,?_⟩;unfold rR;rw[YB,decide_eq_true_iff];exact⟨b.1.symm.trans hp,by rw[<-MJ d j b];exact hb⟩
theorem PA{r:aq}{e:Int}{f:Int->Bool}{k:aT}(h: ∀lit,f lit=li):bF r e f k=k:=by
 rw[bF,vB,eP];exact Y5.2 fun x _=>by rw[h x];decide
theorem H6{r:aq}{t:TS}{A:AK}(h:Bf t A)(h1:A.l.Pairwise fun a b=>a.place<=b.place)(h2: ∀a∈A.l, -1<=a.place∧a.place<r.body.length):jk r A=bF r 63 (nI (BT t)) aT.z:=by
 unfold jk;cases hf:A.l.find? A.bad with
 |none=>
  rw[PA];intro lit;rw[<-ZQ,uP h];rintro⟨k,B,_,hb⟩;rw[Zx]at hf;exact hf k B hb
 |some k=>
  obtain⟨hb,l1,l2,J,has⟩:=List.find?_eq_some_iff_append.1 hf;have B:k∈A.l:=aal hf;have Y:=h2 k B;obtain⟨n,I⟩: ∃n:Nat,k.place=(n:Int)-1:=⟨(k.place+1).toNat,by omega⟩
  have u: ∀y∈A.l,A.bad y=lc->k.place<=y.place:=fun y C d=>by
   rw[J]at C h1;rcases Ys.1 C with g|g
   .have:=has y g;rw[d]at this;cases this
   .rcases Yx.1 g with e|e
    .rw[e];exact aak _
    .exact(ZI.1 (aat.1 h1).2.1).1 y e
  show(63,fw r k.place)=_;rw[I,mF (i:=n) ?_ (by omega) ?_]
  .refine Y5.2 fun x S=>?_
   rw[uP h];rintro⟨y,C,hp,d⟩;have:=u y C d;obtain⟨j,F⟩:=List.mem_iff_getElem?.1 S;have G:j<n:=by
    rcases Yj.1 F with⟨g,_⟩;rw[YV]at g;omega
   rw[Zi,am G]at F;have D:=rq r.body.length j (by omega);rw[Ye,F]at D;have D:x=(j:Int)-1:=D;omega
  .rw[uP h];exact⟨k,B,I,hb⟩
theorem JQ{p:Prog}{r:aq}(b:Uo r.head)(ok: ∀k,k<r.body.length->Vp (r.body.getD k io)):jk r (nF p r)=bF r 63 (nI (oN p r)) aT.z:=
 H6 (t:=fi p r r.body.length) (EI b ok _ (Ym _)) (nE p r _).1 (nE p r _).2
theorem EL{a:Atom}(h:(fj a).2=li):Uo a:=by
 have u: ∀i,i<=a.ae.length->(eM a i).2=li-> ∀k,k<i->K0 (a.ae.getD k io):=by
  intro i
  induction i with
  |zero=>intro _ _ k j;omega
  |succ i ih=>
   intro d hb k j;have hb:((eM a i).2||(pD (a.ae.getD i io)).2)=li:=hb;rw[Y6]at hb;rcases Zp.1 j with g|g
   .exact ih (by omega) hb.1 k g
   .subst g;intro x;have b:=hb.2;unfold pD fc at b;rw[be (by omega),be (by omega)]at b;simp only[Y6]at b;exact vH (by simpa using b.1.1)
 exact fun i d=>u a.ae.length (Ym _) h i d
theorem DI{f:Lit->nU}{l:List Lit}: ∀i,(cA f l i).2=li-> ∀k,k<i->(f (l.getD k io)).2=li
 |0,_,k,hk=>by omega
 |i+1,h,k,hk=>by
  rw[cA]at h;split at h
  .cases h
  rename_i b;split at h
  .cases h
  rename_i d;rcases Zp.1 hk with g|g
  .exact DI i (by simpa using b) k g
  .subst g;simpa using d
theorem Lh{f:Int->Lit->nU}{br:Int}{l:Lit}(h:(jY f br l).2=li):IH l:=by
 unfold jY at h;refine⟨fun k=>?_,fun k=>?_⟩
 .rw[am k]at h;have h:((fj l.atom).2||_)=li:=h;rw[Y6]at h;exact EL h.1
 .rw[be (by omega),am k]at h;have h:((bL 17 l.left).2||((bL 17 l.right).2||_))=li:=h;rw[Y6,Y6]at h;exact⟨yv _ _ h.1,yv _ _ h.2.1⟩
theorem Ao{n:Nat}{br:Int}{l:Lit}(h:(fz n br l).2=li):IH l:=by
 match n,h with
 |0,h=>cases h
 |n+1,h=>exact Lh h
theorem PH{l:Lit}(h:jZ l=li):Vp l:=by
 rw[Aq]at h;unfold pH at h;refine⟨Ao h,fun j=>?_⟩;have u:=l.size_pos;obtain⟨n,d⟩: ∃n,l.size=n+1:=⟨l.size-1,by omega⟩
 rw[d]at h;have h:(jY (fz n) 16 l).2=li:=h;unfold jY at h;rw[be (by omega),be (by omega),am j]at h;have h:((px (fz n (16-1)) l.agg 16).2||_)=li:=h;rw[Y6]at h;have h:=h.1;unfold px at h;split at h
 .cases h
 have h:((II l.agg).2||(cA (fz n (16-1)) l.agg.body l.agg.body.length).2)=li:=h;rw[Y6]at h;refine⟨fun f1=>?_,fun k b=>?_⟩
 .have h:=h.1;unfold II at h;rw[be (show¬l.agg.func=1 from f1)]at h;have h:(_||(bL 17 l.kQ).2)=li:=h;rw[Y6]at h;exact yv _ _ h.2
 .exact Ao (DI _ h.2 k b)
section
abbrev AK.cell(o:List aj)(a b c na nb d:Nat):AO:= .cells [.sl a 0 na 2,.sl b 0 nb 1,.sl c 0 d 4,.iv (strs o)]
abbrev AK.O(A:AK)(o:List aj):List AO:=[AK.cell o 1 2 3 A.items.length A.root.length A.l.length,aC 2 A.items aM.c,aC 1 A.root aY,aC 4 A.l Ask.c]
abbrev AK.K(A:AK)(o:List aj):AH:=[(0,jp (AK.cell o 1 2 3 A.items.length A.root.length A.l.length)),(1,jp (aC 2 A.items aM.c)),(2,jp (aC 1 A.root aY)),(3,jp (aC 4 A.l Ask.c))]
abbrev AK.H(A:AK)(o:List aj):AH:=[(0,jp (AK.cell o 4 5 6 A.items.length A.root.length A.l.length)),(4,jp (aC 2 A.items aM.c)),(5,jp (aC 1 A.root aY)),(6,jp (aC 4 A.l Ask.c))]
abbrev AK.st(A:AK)(o:List aj)(i n0:Nat)(X:AH):AH:=(i,jp (AK.cell o n0 (n0+1) (n0+2) A.items.length A.root.length A.l.length))::(n0,jp (aC 2 A.items aM.c))::(n0+1,jp (aC 1 A.root aY))::(n0+2,jp (aC 4 A.l Ask.c))::X
section
variable {P:Program} {nt:Nat} {Q:AQ} {k:List KI} {s:AS}
def kS(s:AS)(o:List aj)(A:AK)(i a b c:Nat):AS:=match s with|⟨f,h,n⟩=>⟨f,(i,jp (AK.cell o n (n+1) (n+2) A.items.length A.root.length A.l.length))::(n,jp (aC 2 A.items aM.c))::(n+1,jp (aC 1 A.root aY))::(n+2,jp (aC 4 A.l Ask.c))::(i,kw)::(a,kw)::(b,kw)::(c,kw)::h,n+3⟩
theorem VA(s:AS)(o:List aj)(A:AK)(i a b c:Nat):kS s o A i a b c=⟨s.f,(i,jp (AK.cell o s.nx (s.nx+1) (s.nx+2) A.items.length A.root.length A.l.length))::(s.nx,jp (aC 2 A.items aM.c))::(s.nx+1,jp (aC 1 A.root aY))::(s.nx+2,jp (aC 4 A.l Ask.c))::(i,kw)::(a,kw)::(b,kw)::(c,kw)::s.h,s.nx+3⟩:=by cases s;rfl
theorem DU{op:Oper}{B:Call}{g:FuncId}{args y:List PV}{o:List aj}{A A':AK}{u:PV}{i a b c na nb G:Nat}{C D F:List (List PV)}{s':AS}(hc:cj P g (.ptr 0 0::args) (A.O o) u (A'.H o) 7)(ho:op.op= .call B)(ha:bP s.f B=jp (g,.ptr i 0::y))
  (hi:s.h.get i=jp (AK.cell o a b c na nb G)) (h1:s.h.get a=jp (.row 2 C)) (h2:s.h.get b=jp (.row 1 D)) (h3:s.h.get c=jp (.row 4 F)) (n1:na=A.items.length) (n2:nb=A.root.length) (n3:G=A.l.length)
  (e1:C=A.items.map fun x=>(aM.c x).map .iv) (e2:D=A.root.map fun x=>(aY x).map .iv) (e3:F=A.l.map fun x=>(Ask.c x).map .iv)
  (hlt:[i,a,b,c].all (fun x=>YD x s.nx)=lc) (hnd:bT [i,a,b,c]=lc) (has:y=args) (hlow:bq 0 args=lc) (hr:u.low 0=lc)
  (hp:putDst nt op u (kS s o A' i a b c)=jp s'):OT P nt op s (fun t=>t=s'):=by
 subst has;subst n1;subst n2;subst n3;subst e1;subst e2;subst e3;have d: ∀σ,dZ σ y=y:=fun σ=>iU σ y hlow;refine lW ho ha hc (dh hnd) (fun j I=>Yd (YG.1 hlt j I)) ?_ ?_ ?_
 .simp only[Yz,Y7,hi,h1,h2,h3,bA];rfl
 .simp only[dZ,d];rfl
 .rintro q J n0 ⟨rfl,rfl,rfl⟩;rw[PV.jU _ _ hr];rw[VA]at hp;refine⟨s',?_,rfl⟩;rw[<-hp];simp only[AK.H,aL,sX,Zg,bA];rfl
theorem WY{all rest:List Oper}{op:Oper}{u:Call}{g:FuncId}{args j:List PV}{o:List aj}{A A':AK}{d:PV}{i a b c na nb D:Nat}{y B C:List (List PV)}{s':AS}(hc:cj P g (.ptr 0 0::args) (A.O o) d (A'.H o) 7)(ho:op.op= .call u)(hg:op.guard=kw)(ha:bP s.f u=jp (g,.ptr i 0::j))
  (hi:s.h.get i=jp (AK.cell o a b c na nb D)) (h1:s.h.get a=jp (.row 2 y)) (h2:s.h.get b=jp (.row 1 B)) (h3:s.h.get c=jp (.row 4 C)) (n1:na=A.items.length) (n2:nb=A.root.length) (n3:D=A.l.length)
  (e1:y=A.items.map fun x=>(aM.c x).map .iv) (e2:B=A.root.map fun x=>(aY x).map .iv) (e3:C=A.l.map fun x=>(Ask.c x).map .iv)
  (hlt:[i,a,b,c].all (fun x=>YD x s.nx)=lc) (hnd:bT [i,a,b,c]=lc) (has:j=args) (hlow:bq 0 args=lc) (hr:d.low 0=lc)
  (hp:putDst nt op d (kS s o A' i a b c)=jp s') (h:GO P nt (.ops all rest::k) Q s'):GO P nt (.ops all (op::rest)::k) Q s:=
 eH hg (DU hc ho ha hi h1 h2 h3 n1 n2 n3 e1 e2 e3 hlt hnd has hlow hr hp) fun t F=>by subst F;exact h
theorem rN{all rest:List Oper}{op:Oper}{u:Call}{g:FuncId}{args j:List PV}{o:List aj}{A A':AK}{d:PV}{i a b c na nb D:Nat}{y B C:List (List PV)}{s':AS}(hc:cj P g (.ptr 0 0::args) (A.O o) d (A'.H o) 7)(h:GO P nt (.ops all rest::k) Q s')(ho:op.op= .call u:=by exact rfl)(hg:op.guard=kw:=by exact rfl)(ha:bP s.f u=jp (g,.ptr i 0::j):=by exact rfl)(hi:s.h.get i=jp (AK.cell o a b c na nb D):=by exact rfl)(h1:s.h.get a=jp (.row 2 y):=by exact rfl)(h2:s.h.get b=jp (.row 1 B):=by exact rfl)(h3:s.h.get c=jp (.row 4 C):=by exact rfl)(n1:na=A.items.length:=by first|rfl|(rw[Yg];rfl)|simp)(n2:nb=A.root.length:=by first|rfl|(rw[Yg];rfl)|simp)(n3:D=A.l.length:=by first|rfl|(rw[Yg];rfl)|simp)(e1:y=A.items.map fun x=>(aM.c x).map .iv:=by first|rfl|(rw[Yk];rfl)|(simp only[Yk,Yu];rfl))(e2:B=A.root.map fun x=>(aY x).map .iv:=by first|rfl|(rw[Yk];rfl)|(simp only[Yk,Yu];rfl))(e3:C=A.l.map fun x=>(Ask.c x).map .iv:=by first|rfl|(rw[Yk];rfl)|(simp only[Yk,Yu];rfl))(hlt:[i,a,b,c].all (fun x=>YD x s.nx)=lc:=by exact rfl)(hnd:bT [i,a,b,c]=lc:=by exact rfl)(has:j=args:=by exact rfl)(hlow:bq 0 args=lc:=by exact rfl)(hr:d.low 0=lc:=by exact rfl)(hp:putDst nt op d (kS s o A' i a b c)=jp s':=by exact rfl):GO P nt (.ops all (op::rest)::k) Q s:=WY (hc:=hc) (ho:=ho) (hg:=hg) (ha:=ha) (hi:=hi) (h1:=h1) (h2:=h2) (h3:=h3) (n1:=n1) (n2:=n2) (n3:=n3) (e1:=e1) (e2:=e2) (e3:=e3) (hlt:=hlt) (hnd:=hnd) (has:=has) (hlow:=hlow) (hr:=hr) (hp:=hp) (h:=h)
theorem VI{ty:Ty}(j:cC P ty){all:List Oper}{todo pend:List (Nat×Oper)}{u:Nat}{B y:Prop}{op:Oper}{D:Call}{g:FuncId}{args C:List PV}{o:List aj}{A A':AK}{d:PV}{i a b c na nb J:Nat}{F G I:List (List PV)}{s':AS}(hc:cj P g (.ptr 0 0::args) (A.O o) d (A'.H o) 7)
  (hrd:eJ todo=[(u,op)]) (ho:op.op= .call D) (ha:bP s.f D=jp (g,.ptr i 0::C))
  (hi:s.h.get i=jp (AK.cell o a b c na nb J)) (h1:s.h.get a=jp (.row 2 F)) (h2:s.h.get b=jp (.row 1 G)) (h3:s.h.get c=jp (.row 4 I)) (n1:na=A.items.length) (n2:nb=A.root.length) (n3:J=A.l.length)
  (e1:F=A.items.map fun x=>(aM.c x).map .iv) (e2:G=A.root.map fun x=>(aY x).map .iv) (e3:I=A.l.map fun x=>(Ask.c x).map .iv)
  (hlt:[i,a,b,c].all (fun x=>YD x s.nx)=lc) (hnd:bT [i,a,b,c]=lc) (has:C=args) (hlow:bq 0 args=lc) (hr:d.low 0=lc)
  (hp:putDst nt op d (kS s o A' i a b c)=jp s')
  (hg:cE nt all s.f op=jp lc) (hpb:iW all pend op=lc) (hE:oA todo [u]=lc)
  (hag:qW ty nt all s todo pend=jp B) (hCA:B) (hag2:dK ty nt all s' (bg pend op)=jp y) (hC2:y)
  (h:GO P nt (.cP all (todo.filter fun x=>!YJ x.1 u) (bg pend op)::k) Q s'):GO P nt (.cP all todo pend::k) Q s:=
 yn j hrd hg hpb hE hag hCA (DU hc ho ha hi h1 h2 h3 n1 n2 n3 e1 e2 e3 hlt hnd has hlow hr hp) hag2 hC2 h
theorem I7{all:List Oper}{todo pend:List (Nat×Oper)}{j:Nat}{y u:Prop}{op:Oper}{C:Call}{g:FuncId}{args B:List PV}{o:List aj}{A A':AK}{d:PV}{i a b c na nb I:Nat}{D F G:List (List PV)}{s':AS}(hc:cj Tryz.prog g (.ptr 0 0::args) (A.O o) d (A'.H o) 7)(h:GO Tryz.prog nt (.cP all (todo.filter fun x=>!YJ x.1 j) (bg pend op)::k) Q s')(hrd:eJ todo=[(j,op)]:=by exact rfl)(ho:op.op= .call C:=by exact rfl)(ha:bP s.f C=jp (g,.ptr i 0::B):=by exact rfl)(hi:s.h.get i=jp (AK.cell o a b c na nb I):=by exact rfl)(h1:s.h.get a=jp (.row 2 D):=by exact rfl)(h2:s.h.get b=jp (.row 1 F):=by exact rfl)(h3:s.h.get c=jp (.row 4 G):=by exact rfl)(n1:na=A.items.length:=by first|rfl|(rw[Yg];rfl)|simp)(n2:nb=A.root.length:=by first|rfl|(rw[Yg];rfl)|simp)(n3:I=A.l.length:=by first|rfl|(rw[Yg];rfl)|simp)(e1:D=A.items.map fun x=>(aM.c x).map .iv:=by first|rfl|(rw[Yk];rfl)|(simp only[Yk,Yu];rfl))(e2:F=A.root.map fun x=>(aY x).map .iv:=by first|rfl|(rw[Yk];rfl)|(simp only[Yk,Yu];rfl))(e3:G=A.l.map fun x=>(Ask.c x).map .iv:=by first|rfl|(rw[Yk];rfl)|(simp only[Yk,Yu];rfl))(hlt:[i,a,b,c].all (fun x=>YD x s.nx)=lc:=by exact rfl)(hnd:bT [i,a,b,c]=lc:=by exact rfl)(has:B=args:=by exact rfl)(hlow:bq 0 args=lc:=by exact rfl)(hr:d.low 0=lc:=by exact rfl)(hp:putDst nt op d (kS s o A' i a b c)=jp s':=by exact rfl)(hg:cE nt all s.f op=jp lc:=by exact rfl)(hpb:iW all pend op=lc:=by exact rfl)(hE:oA todo [j]=lc:=by exact rfl)(hag:qW pC nt all s todo pend=jp y:=by exact rfl)(hCA:y:=by(repeat' (first|exact ac|exact rfl|exact aG.refl _|exact aG.bk (by assumption)|apply YW))<;>first|omega|(simp only[YK];omega)|(simp;done)|(simp;omega))(hag2:dK pC nt all s' (bg pend op)=jp u:=by exact rfl)(hC2:u:=by(repeat' (first|exact ac|exact rfl|exact aG.refl _|exact aG.bk (by assumption)|apply YW))<;>first|omega|(simp only[YK];omega)|(simp;done)|(simp;omega)):GO Tryz.prog nt (.cP all todo pend::k) Q s:=VI ab (hc:=hc) (hrd:=hrd) (ho:=ho) (ha:=ha) (hi:=hi) (h1:=h1) (h2:=h2) (h3:=h3) (n1:=n1) (n2:=n2) (n3:=n3) (e1:=e1) (e2:=e2) (e3:=e3) (hlt:=hlt) (hnd:=hnd) (has:=has) (hlow:=hlow) (hr:=hr) (hp:=hp) (hg:=hg) (hpb:=hpb) (hE:=hE) (hag:=hag) (hCA:=hCA) (hag2:=hag2) (hC2:=hC2) (h:=h)
theorem VP{ty:TypeId->Option cO}{l:List ResultVar}{r0:PV}{e:Exit}{o:List aj}{A:AK}{d:PV}{a b c na nb B:Nat}{j u y:List (List PV)}(he:e= .normal∨e= .ret)(hr:lv ty s l=jp r0)(hi:s.h.get 0=jp (AK.cell o a b c na nb B))(h1:s.h.get a=jp (.row 2 j))(h2:s.h.get b=jp (.row 1 u))(h3:s.h.get c=jp (.row 4 y))
  (n1:na=A.items.length) (n2:nb=A.root.length) (n3:B=A.l.length)
  (e1:j=A.items.map fun x=>(aM.c x).map .iv) (e2:u=A.root.map fun x=>(aY x).map .iv) (e3:y=A.l.map fun x=>(Ask.c x).map .iv)
  (hlt:[a,b,c].all (fun x=>YD x s.nx)=lc) (hnd:bT [0,a,b,c]=lc) (hns:aaf 4 s.nx=lc) (hrl:aG r0 d) (hlow:d.low 0=lc) (hlow7:d.low 7=lc):Ct ty l 4 d (A.H o) 7 e s:=by
 subst n1;subst n2;subst n3;subst e1;subst e2;subst e3;refine fp [a,b,c] he hr ⟨rfl,Yd hns,fun x C=>Yd (YG.1 hlt x C),⟨?_,hlow7,ac⟩,⟨⟨_,hi,.of_eq Z⟩,Yd Z,rfl,⟨_,h1,.of_eq (bA _).symm⟩,Yd Z,cH _,⟨_,h2,.of_eq (bA _).symm⟩,Yd Z,cH _,⟨_,h3,.of_eq (bA _).symm⟩,Yd Z,cH _,ac⟩,dh hnd⟩;rw[PV.jU _ _ hlow];exact hrl
theorem uN{ty:TypeId->Option cO}{l:List ResultVar}{r0:PV}{e:Exit}{o:List aj}{A:AK}{d:PV}{a b c na nb B:Nat}{j u y:List (List PV)}(he:e= .normal∨e= .ret:=by first|exact .inr Z|exact .inl Z)(hr:lv ty s l=jp r0:=by exact rfl)(hi:s.h.get 0=jp (AK.cell o a b c na nb B):=by exact rfl)(h1:s.h.get a=jp (.row 2 j):=by exact rfl)(h2:s.h.get b=jp (.row 1 u):=by exact rfl)(h3:s.h.get c=jp (.row 4 y):=by exact rfl)(n1:na=A.items.length:=by first|rfl|(rw[Yg];rfl)|simp)(n2:nb=A.root.length:=by first|rfl|(rw[Yg];rfl)|simp)(n3:B=A.l.length:=by first|rfl|(rw[Yg];rfl)|simp)(e1:j=A.items.map fun x=>(aM.c x).map .iv:=by first|rfl|(rw[Yk];rfl)|(simp only[Yk,Yu];rfl))(e2:u=A.root.map fun x=>(aY x).map .iv:=by first|rfl|(rw[Yk];rfl)|(simp only[Yk,Yu];rfl))(e3:y=A.l.map fun x=>(Ask.c x).map .iv:=by first|rfl|(rw[Yk];rfl)|(simp only[Yk,Yu];rfl))(hlt:[a,b,c].all (fun x=>YD x s.nx)=lc:=by exact rfl)(hnd:bT [0,a,b,c]=lc:=by exact rfl)(hns:aaf 4 s.nx=lc:=by exact rfl)(hrl:aG r0 d:=by exact .refl _)(hlow:d.low 0=lc:=by exact rfl)(hlow7:d.low 7=lc:=by exact rfl):Ct ty l 4 d (A.H o) 7 e s:=VP (he:=he) (hr:=hr) (hi:=hi) (h1:=h1) (h2:=h2) (h3:=h3) (n1:=n1) (n2:=n2) (n3:=n3) (e1:=e1) (e2:=e2) (e3:=e3) (hlt:=hlt) (hnd:=hnd) (hns:=hns) (hrl:=hrl) (hlow:=hlow) (hlow7:=hlow7)
theorem Nd{n0 i a b c na nb G:Nat}{C D F:List (List PV)}{I:AF}{o:List aj}{A A':AK}(hw:A=A')(hi:s.h.get i=jp (AK.cell o a b c na nb G))(h1:s.h.get a=jp (.row 2 C))(h2:s.h.get b=jp (.row 1 D))(h3:s.h.get c=jp (.row 4 F))
  (n1:na=A.items.length) (n2:nb=A.root.length) (n3:G=A.l.length)
  (e1:C=A.items.map fun x=>(aM.c x).map .iv) (e2:D=A.root.map fun x=>(aY x).map .iv) (e3:F=A.l.map fun x=>(Ask.c x).map .iv)
  (hlt:[a,b,c].all (fun x=>YD x s.nx)=lc) (hnd:bT [i,a,b,c]=lc) (h0:YD i n0=lc) (hns:aaf n0 s.nx=lc) (hf:Gp (n0+3) (sg n0 [a,b,c]) s.f I):
  Wk n0 [a,b,c] s ⟨I,[(i,jp (AK.cell o n0 (n0+1) (n0+2) A'.items.length A'.root.length A'.l.length)),(n0,jp (aC 2 A'.items aM.c)),(n0+1,jp (aC 1 A'.root aY)),(n0+2,jp (aC 4 A'.l Ask.c))],n0+3⟩:=by
 subst hw;subst n1;subst n2;subst n3;subst e1;subst e2;subst e3;have j:i<n0:=Yd h0;have s0:sg n0 [a,b,c] i=i:=gr j;have d: ∀m,YD (n0+m) n0=li:=fun m=>Zq.2 fun e=>absurd (Yd e) (by omega);have u:sg n0 [a,b,c] n0=a:=by have:=d 0;simp only[aaw]at this;simp[sg,this]
 have y:sg n0 [a,b,c] (n0+1)=b:=by simp[sg,d]
 have B:sg n0 [a,b,c] (n0+2)=c:=by simp[sg,d]
 have J:YD n0 (n0+3)=lc:=YX (by omega);have c1:YD (n0+1) (n0+3)=lc:=YX (by omega);have S:YD (n0+2) (n0+3)=lc:=YX (by omega);refine⟨rfl,Yd hns,fun x Y=>Yd (YG.1 hlt x Y),hf,⟨⟨_,by rw[s0];exact hi,?_⟩,by show i<n0+3;omega,?_,⟨_,by rw[u];exact h1,.of_eq (bA _).symm⟩,by show n0<n0+3;omega,cH _,⟨_,by rw[y];exact h2,.of_eq (bA _).symm⟩,by show n0+1<n0+3;omega,cH _,⟨_,by rw[B];exact h3,.of_eq (bA _).symm⟩,by show n0+2<n0+3;omega,cH _,ac⟩,?_⟩
 .simp only[AO.c6,dZ,PV.c6,u,y,B];exact .of_eq Z
 .simp[AO.low,bq,PV.low,J,c1,S]
 .simp only[eB,s0,u,y,B];exact dh hnd
theorem Sl{X:AH}{n0 i a b c na nb C:Nat}{u y B:List (List PV)}{I:AF}{o:List aj}{A A':AK}(hw:A=A')(hi:s.h.get i=jp (AK.cell o a b c na nb C))(h1:s.h.get a=jp (.row 2 u))(h2:s.h.get b=jp (.row 1 y))(h3:s.h.get c=jp (.row 4 B))
  (n1:na=A.items.length) (n2:nb=A.root.length) (n3:C=A.l.length)
  (e1:u=A.items.map fun x=>(aM.c x).map .iv) (e2:y=A.root.map fun x=>(aY x).map .iv) (e3:B=A.l.map fun x=>(Ask.c x).map .iv)
  (hlt:[a,b,c].all (fun x=>YD x s.nx)=lc) (hnd:bT [i,a,b,c]=lc) (h0:YD i n0=lc) (hns:aaf n0 s.nx=lc) (hf:Gp (n0+3) (sg n0 [a,b,c]) s.f I) (hX:qY (n0+3) (sg n0 [a,b,c]) s.h X)
  (hin:bT (eB (sg n0 [a,b,c]) ((i,jp (AK.cell o n0 (n0+1) (n0+2) A'.items.length A'.root.length A'.l.length))::(n0,jp (aC 2 A'.items aM.c))::(n0+1,jp (aC 1 A'.root aY))::(n0+2,jp (aC 4 A'.l Ask.c))::X))=lc):
  Wk n0 [a,b,c] s ⟨I,(i,jp (AK.cell o n0 (n0+1) (n0+2) A'.items.length A'.root.length A'.l.length))::(n0,jp (aC 2 A'.items aM.c))::(n0+1,jp (aC 1 A'.root aY))::(n0+2,jp (aC 4 A'.l Ask.c))::X,n0+3⟩:=by
 subst hw;subst n1;subst n2;subst n3;subst e1;subst e2;subst e3;have j:i<n0:=Yd h0;have s0:sg n0 [a,b,c] i=i:=gr j;have d: ∀m,YD (n0+m) n0=li:=fun m=>Zq.2 fun e=>absurd (Yd e) (by omega);have D:sg n0 [a,b,c] n0=a:=by have:=d 0;simp only[aaw]at this;simp[sg,this]
 have F:sg n0 [a,b,c] (n0+1)=b:=by simp[sg,d]
 have G:sg n0 [a,b,c] (n0+2)=c:=by simp[sg,d]
 have J:YD n0 (n0+3)=lc:=YX (by omega);have c1:YD (n0+1) (n0+3)=lc:=YX (by omega);have S:YD (n0+2) (n0+3)=lc:=YX (by omega);refine⟨rfl,Yd hns,fun x Y=>Yd (YG.1 hlt x Y),hf,⟨⟨_,by rw[s0];exact hi,?_⟩,by show i<n0+3;omega,?_,⟨_,by rw[D];exact h1,.of_eq (bA _).symm⟩,by show n0<n0+3;omega,cH _,⟨_,by rw[F];exact h2,.of_eq (bA _).symm⟩,by show n0+1<n0+3;omega,cH _,⟨_,by rw[G];exact h3,.of_eq (bA _).symm⟩,by show n0+2<n0+3;omega,cH _,hX⟩,dh hin⟩
 .simp only[AO.c6,dZ,PV.c6,D,F,G];exact .of_eq Z
 .simp[AO.low,bq,PV.low,J,c1,S]
theorem Bh{X:AH}{n0 i a b c na nb y:Nat}{d j u:List (List PV)}{B:AF}{o:List aj}{A A':AK}(hw:A=A')(hX:qY (n0+3) (sg n0 [a,b,c]) s.h X)(hi:s.h.get i=jp (AK.cell o a b c na nb y):=by exact rfl)(h1:s.h.get a=jp (.row 2 d):=by exact rfl)(h2:s.h.get b=jp (.row 1 j):=by exact rfl)(h3:s.h.get c=jp (.row 4 u):=by exact rfl)(n1:na=A.items.length:=by first|rfl|(rw[Yg];rfl)|simp)(n2:nb=A.root.length:=by first|rfl|(rw[Yg];rfl)|simp)(n3:y=A.l.length:=by first|rfl|(rw[Yg];rfl)|simp)(e1:d=A.items.map fun x=>(aM.c x).map .iv:=by first|rfl|(rw[Yk];rfl)|(simp only[Yk,Yu];rfl))(e2:j=A.root.map fun x=>(aY x).map .iv:=by first|rfl|(rw[Yk];rfl)|(simp only[Yk,Yu];rfl))(e3:u=A.l.map fun x=>(Ask.c x).map .iv:=by first|rfl|(rw[Yk];rfl)|(simp only[Yk,Yu];rfl))(hlt:[a,b,c].all (fun x=>YD x s.nx)=lc:=by exact rfl)(hnd:bT [i,a,b,c]=lc:=by exact rfl)(h0:YD i n0=lc:=by exact rfl)(hns:aaf n0 s.nx=lc:=by exact rfl)(hf:Gp (n0+3) (sg n0 [a,b,c]) s.f B:=by repeat' (first|exact ac|exact aG.refl _|exact rfl|apply YW))(hin:bT (eB (sg n0 [a,b,c]) ((i,jp (AK.cell o n0 (n0+1) (n0+2) A'.items.length A'.root.length A'.l.length))::(n0,jp (aC 2 A'.items aM.c))::(n0+1,jp (aC 1 A'.root aY))::(n0+2,jp (aC 4 A'.l Ask.c))::X))=lc:=by exact rfl):Wk n0 [a,b,c] s ⟨B,(i,jp (AK.cell o n0 (n0+1) (n0+2) A'.items.length A'.root.length A'.l.length))::(n0,jp (aC 2 A'.items aM.c))::(n0+1,jp (aC 1 A'.root aY))::(n0+2,jp (aC 4 A'.l Ask.c))::X,n0+3⟩:=Sl (hw:=hw) (hi:=hi) (h1:=h1) (h2:=h2) (h3:=h3) (n1:=n1) (n2:=n2) (n3:=n3) (e1:=e1) (e2:=e2) (e3:=e3) (hlt:=hlt) (hnd:=hnd) (h0:=h0) (hns:=hns) (hf:=hf) (hX:=hX) (hin:=hin)
end
end
end Go.Proofs.YtflegjieadkonaaGreatDoor
namespace Go.Proofs.YtflegjieadkonaaGreatDoor
open Go Go.Al Go.Proofs.Tryz
def AK.ok(A:AK):Prop:=A.root.length=A.items.length∧ ∀k∈A.l,k.item<A.items.length
structure Gr (n:Nat) (A B:AK):Prop where
 ok:A.ok->B.ok
 it:B.items.length<=A.items.length+n
 ln:B.l.length<=A.l.length+n
 mn:A.items.length<=B.items.length
def AK.fit(A:AK)(n:Nat):Prop:=A.ok∧A.items.length+n<=1000000000∧A.l.length+n<=1000000000
theorem Gr.refl(A:AK):Gr 0 A A:=⟨id,Ym _,Ym _,Ym _⟩
theorem Gr.trans{n m:Nat}{A B C:AK}(h:Gr n A B)(g:Gr m B C):Gr (n+m) A C:=
 ⟨fun o=>g.ok (h.ok o),by have:=h.it;have:=g.it;omega,by have:=h.ln;have:=g.ln;omega,by have:=h.mn;have:=g.mn;omega⟩
theorem Gr.le{n m:Nat}{A B:AK}(h:Gr n A B)(hm:n<=m):Gr m A B:=⟨h.ok,by have:=h.it;omega,by have:=h.ln;omega,h.mn⟩
theorem AK.fit.step{A B:AK}{a b n:Nat}(h:A.fit n)(g:Gr a A B)(hn:a+b<=n):B.fit b:=by
 obtain⟨d,j,u⟩:=h;have:=g.it;have:=g.ln;exact⟨g.ok d,by omega,by omega⟩
theorem AK.fit.le{A:AK}{n m:Nat}(h:A.fit n)(hm:m<=n):A.fit m:=⟨h.1,by have:=h.2.1;omega,by have:=h.2.2;omega⟩
theorem ur(A:AK)(u:aM):Gr 1 A (A.item u):=by
 unfold AK.item;split
 .exact(Gr.refl A).le (by omega)
 .refine⟨fun⟨h1,h2⟩=>⟨?_,fun k b=>?_⟩,?_,by show A.l.length<=_;omega,?_⟩
  .show(A.root++_).length=(A.items++_).length;rw[Yg,Yg,h1];rfl
  .have:=h2 k b;show _<(((A.items++_).length:Nat):Int)
   rw[Yg,YY];omega
  .show(A.items++_).length<=_;rw[Yg,YY];omega
  .show _<=(A.items++_).length;rw[Yg,YY];omega
theorem BZ(A:AK)(u:aM):A.ix u<(A.item u).items.length:=by
 unfold AK.item AK.ix;split
 .omega
 .rename_i h;show _<(((A.items++_).length:Nat):Int)
  have: ∀l:List aM,zg l u<=l.length:=by
   intro l
   induction l with
   |nil=>exact Ym _
   |cons a r ih=>unfold zg;split<;>simp<;>omega
  have:=this A.items;rw[Yg,YY];omega
theorem LL(A:AK)(k:Ask)(b:k.item<A.items.length):Gr 1 A (A.ask k):=by
 unfold AK.ask;split
 .refine⟨fun⟨h1,h2⟩=>⟨h1,fun x d=>?_⟩,by show A.items.length<=_;omega,?_,Ym _⟩
  .rcases Ys.1 d with g|g
   .exact h2 x g
   .rw[Yr]at g;subst g;exact b
  .show(A.l++_).length<=_;rw[Yg,YY];omega
 .exact(Gr.refl A).le (by omega)
theorem Ls(A:AK)(u:aM):(A.item u).l=A.l:=by unfold AK.item;split<;>rfl
theorem Jw(A:AK)(k:Ask):(A.ask k).items=A.items:=by unfold AK.ask;split<;>rfl
theorem w8(A:AK)(b:Int)(u:aM)(d:Int):Gr 1 A (A.want b u d):=by
 have j:=ur A u;have x:=LL (A.item u) ⟨b,A.ix u,d,0⟩ (BZ A u);refine⟨fun o=>x.ok (j.ok o),?_,?_,YR j.mn x.mn⟩
 .show((A.item u).ask _).items.length<=_;rw[Jw];exact j.it
 .have:=x.ln;rw[Ls]at this;exact this
theorem LI(A:AK)(b d j:Int):Gr 1 A (A.ask ⟨b, -1,d,j⟩):=LL A _ (by show(-1:Int)<_;omega)
theorem TB(A:AK)(x y:Int):Gr 0 A (A.tie x y):=by
 refine⟨fun⟨h1,h2⟩=>⟨?_,h2⟩,Ym _,Ym _,Ym _⟩;show(A.root.map _).length=A.items.length;rw[YH,h1]
theorem Hs(r:aq)(lit w:Int)(e:Expr)(A:AK):Gr 1 A (mI r lit w e A):=by
 unfold mI;split
 .exact w8 _ _ _ _
 split
 .exact LI _ _ _ _
 .exact(Gr.refl A).le (by omega)
theorem B8(r:aq)(lit w:Int)(l:List Expr)(h: ∀x∈l,∀A,Gr x.size A (gz r lit w x A)): ∀A,Gr (Expr.aA l) A (l.foldl (fun A x=>gz r lit w x A) A):=by
 induction l with
 |nil=>exact fun A=>Gr.refl A
 |cons e s ih=>
  intro A;exact(h e Yy A).trans (ih (fun x b=>h x (Yt _ b)) _)
theorem nP(r:aq)(lit w:Int): ∀(n:Nat) (e:Expr) (A:AK),e.size<=n->Gr e.size A (gz r lit w e A)
 |0,e,A,h=>by have:=e.size_pos;omega
 |n+1,e,A,h=>by
  have u:=e.size_eq;rw[wX];refine Gr.le ((Hs r lit w e A).trans (m:=Expr.aA e.args) ?_) (by omega);unfold lS;split
  .refine B8 r lit w e.args (fun x j A=>nP r lit w n x A ?_) _;obtain⟨k,d,rfl⟩:=ZA.1 j;have b:=Expr.aS e.args k d;rw[Ye,Yi d]at b;have b:(e.args[k]).size<=Expr.aA e.args:=b;omega
  .exact(Gr.refl _).le (by omega)
theorem tt(r:aq)(lit w:Int)(e:Expr)(A:AK):Gr (Expr.aA e.args) A (lS r lit w e A):=by
 unfold lS;split
 .exact B8 r lit w e.args (fun x b A=>nP r lit w x.size x A (Ym _)) _
 .exact(Gr.refl _).le (by omega)
theorem LM(r:aq)(lit w:Int)(l:List Expr)(i:Nat)(A:AK):Gr (Expr.aA (l.take i)) A ((l.take i).foldl (fun A x=>gz r lit w x A) A):=
 B8 r lit w _ (fun x b A=>nP r lit w x.size x A (Ym _)) _
theorem LK(p:Prog)(r:aq)(a:Atom)(lit w:Int)(i:Nat)(A:AK):Gr 1 A (ki p r a lit w i A):=by
 unfold ki;split
 .split
  .exact w8 _ _ _ _
  split
  .exact LI _ _ _ _
  .exact(Gr.refl A).le (by omega)
 .exact(Gr.refl A).le (by omega)
theorem w9(p:Prog)(r:aq)(a:Atom)(lit w:Int)(A:AK): ∀i,Gr i A (fK p r a lit w A i)
 |0=> .refl _
 |i+1=>(w9 p r a lit w A i).trans (LK p r a lit w i _)
theorem Ec(r:aq)(lit w:Int)(x y:Expr)(A:AK):Gr 2 A (lC r lit w x y A):=by
 unfold lC;split
 .split
  .exact((ur _ _).trans (ur _ _)).trans (TB _ _ _)
  .exact(w8 _ _ _ _).le (by omega)
 split
 .exact(w8 _ _ _ _).le (by omega)
 .exact(LI _ _ _ _).le (by omega)
theorem LJ(p:Prog)(r:aq)(lit w:Int)(l:Lit)(A:AK):Gr l.size A (lF p r lit w l A):=by
 have b:=l.size_eq;have d:=l.left.size_eq;have j:=l.right.size_eq;unfold lF;split
 .exact(w9 p r l.atom lit w A _).le (by omega)
 split
 .split
  .exact(((tt r lit w l.left A).trans (tt r lit w l.right _)).trans (Ec r lit w _ _ _)).le (by omega)
  .exact((nP r lit w _ l.left A (Ym _)).trans (nP r lit w _ l.right _ (Ym _))).le (by omega)
 .exact(Gr.refl A).le (by omega)
theorem Eb(p:Prog)(r:aq)(i:Int)(A:AK)(b:List Lit): ∀k,k<=b.length->Gr (Lit.aA (b.take k)) A (E0 p r i A b k)
 |0,_=> .refl _
 |k+1,h=>by
  rw[Lit.oP b k (by omega)];exact(Eb p r i A b k (by omega)).trans (LJ p r i i _ _)
theorem LH(r:aq)(i f:Int)(v:aj)(o:Expr)(A:AK):Gr (o.size+2) A (uT r i f v o A):=by
 have b:=o.size_eq;unfold uT;split
 .exact(nP r i i _ (jj v) A (Ym _)).le (by rw[jC];omega)
 split
 .exact((nP r i i _ (jj v) A (Ym _)).trans (nP r i i _ o _ (Ym _))).le (by rw[jC];omega)
 .exact((tt r i i o A).trans (Ec r i i _ _ _)).le (by omega)
theorem PR(p:Prog)(r:aq)(i:Int)(l:Lit)(A:AK):Gr l.size A (rU p r i l A):=by
 have d:=l.size_eq;unfold rU;split
 .have b:=Eb p r i (uT r i l.dY l.bp l.kQ A) l.au l.au.length (Ym _);rw[Z5]at b;exact((LH r i l.dY l.bp l.kQ A).trans b).le (by omega)
 .exact LJ p r i (-1) l A
theorem B7(p:Prog)(r:aq): ∀k,k<=r.body.length->Gr (r.head.ae.length+Lit.aA (r.body.take k)) AK.o (lI p r k)
 |0,_=>w9 p r r.head (-1) (-1) AK.o _
 |k+1,h=>by
  rw[Lit.oP r.body k (by omega),<-ZR];exact(B7 p r k (by omega)).trans (PR p r k _ _)
theorem Vo:AK.o.ok:=⟨rfl,fun k b=>nomatch b⟩
def uK(r:aq)(lit:Int):Bool:=if lit<0 then(fj r.head).2 else(pH (ah r lit)).2
def rJ(r:aq)(n:Int):aT:=
 if n>256∨(r.body.length:Int)>12 then(66,r.at_) else if(tQ r:Int)>24 then(66,r.at_) else match r.body.find? pA with
  |some l=>(66,l.at)
  |none=>aT.z
def nj(a b:aT):aT:=if a.1=0 then b else a
def Ku(p:Prog)(r:aq)(n:Int):aT:=
 nj (bF r 1 (uK r) aT.z)<|nj (rJ r n)<|nj (bF r 61 (fun lit=>(bs r lit).any fun x=>lZ p x) aT.z)<|nj (bF r 62 (fun lit=>(bs r lit).any fun x=>nn p x) aT.z)<|nj (bF r 65 (dH r) aT.z)<|nj (jk r (nF p r))<|bF r 64 (dQ r) aT.z
theorem p9{r:aq}{e:Int}(he: ¬e=0)(f:Int->Bool)(k:aT):nj (bF r e f aT.z) k=bF r e f k:=by
 unfold nj bF;split
 .exact be he
 .exact am Z
theorem FK(n:Nat):ja n=(-1)::(Yv n).map fun k:Nat=>(k:Int):=by
 unfold ja;rw[aaE,Yz,Z4];refine congr (congrArg _ Z) (ZC fun k _=>?_);show((k+1:Nat):Int)-1=k;omega
theorem F6{α:Type}[Inhabited α](q:α->Bool): ∀(l:List α) (m:Nat) (g:Nat->Int),∀f:Int->Bool,(∀k,k<l.length->f (g k)=q (l.getD k io))->((Yv l.length).map g).find? f=(l.findIdx? q).map g:=by
 intro l _
 induction l with
 |nil=>intro g f _;rfl
 |cons a r ih=>
  intro g f h;have b:=h 0 (by simp);rw[YT,aaE,Yz,ZN,b];rw[List.findIdx?_cons];show(match q a with|true=>_|false=>_)=_;cases hq:q a with
  |true=>rfl
  |false=>
   show((List.map Nat.succ (Yv r.length)).map g).find? f=_;rw[Z4];have:=ih (fun k=>g (k+1)) f fun k d=>h (k+1) (by simpa using d);show((Yv r.length).map fun k=>g (k+1)).find? f=_;rw[this];simp only[ZH,if_false];cases r.findIdx? q<;>rfl
theorem FH(r:aq)(e:Int)(f:Int->Bool)(q:Lit->Bool)(k:aT)(B: ∀i:Nat,i<r.body.length->f i=q (r.body.getD i io)):bF r e f k=if f (-1)=lc then(e,r.at_) else match r.body.find? q with
  |some l=>(e,l.at)
  |none=>k:=by
 unfold bF vB;rw[FK,ZN];cases h:f (-1) with
 |true=>rfl
 |false=>
  rw[be (by decide)];have:=F6 q r.body 0 (fun k:Nat=>(k:Int)) f B;show(match((Yv r.body.length).map fun k:Nat=>(k:Int)).find? f with|some lit=>(e,fw r lit)|none=>k)=_;rw[this];cases hi:r.body.findIdx? q with
  |none=>
   rw[aaO]at hi;have:r.body.find? q=kw:=by
    rw[Zx];intro x C;rw[hi x C];decide
   rw[this];rfl
  |some i=>
   obtain⟨b,d,u⟩:=aay.1 hi;have:r.body.find? q=jp r.body[i]:=by
    rw[aar];exact⟨d,i,b,rfl,fun j y=>by rw[Y1];exact Zq.2 (u j y)⟩
   rw[this];show(e,fw r i)=(e,(r.body[i]).at)
   have A:fw r i=(r.body[i]).at:=by
    unfold fw ah;rw[be (by omega),Ye,show((i:Int)).toNat=i by omega,Yi b];rfl
   rw[A]
theorem IS(r:aq)(i:Nat):ah r i=r.body.getD i io:=rfl
theorem Lc(r:aq)(k:aT):bF r 1 (uK r) k=if lX r.head=lc then(1,r.at_) else match r.body.find? jZ with
  |some l=>(1,l.at)
  |none=>k:=by
 have b: ∀i:Nat,i<r.body.length->uK r i=jZ (r.body.getD i io):=fun i _=>by
  unfold uK;rw[be (by omega),IS,Aq]
 rw[FH r 1 (uK r) jZ k b];have:uK r (-1)=lX r.head:=by rw[EM];rfl
 rw[this]
theorem Pn(r:aq)(n:Int)(k:aT):nj (rJ r n) k=if n>256∨(r.body.length:Int)>12 then(66,r.at_) else if(tQ r:Int)>24 then(66,r.at_) else match r.body.find? pA with
  |some l=>(66,l.at)
  |none=>k:=by
 unfold nj rJ;split
 .rfl
 split
 .rfl
 split
 .rfl
 .rfl
theorem Tp{r:aq}(h: ¬lX r.head=lc)(hb:r.body.find? jZ=kw):Uo r.head∧ ∀k,k<r.body.length->Vp (r.body.getD k io):=by
 refine⟨EL (by rw[<-EM];simpa using h),fun k b=>PH ?_⟩;rw[Zx]at hb;have:=hb (r.body.getD k io) (by rw[Ye,Yi b];exact YZ b);simpa using this
theorem OX(p:Prog)(r:aq)(n:Int):Ku p r n=ua p r n:=by
 unfold Ku ua xX;rw[p9 (by decide),Lc];split
 .rfl
 rename_i b;cases h2:r.body.find? jZ with
 |some l=>rfl
 |none=>
  obtain⟨d,j⟩:=Tp b h2;show nj (rJ r n) _=_;rw[JQ d j,Pn,p9 (by decide),p9 (by decide),p9 (by decide),p9 (by decide)];rfl
def lq(r:aq)(lit:Int):List aj:=if lit<0 then dE r.head else if(ah r lit).kind=4 then bZ (aF (ah r lit).agg) (ah r lit).bp else cq (ah r lit)
def nO(r:aq)(lit:Int):List aj:=if lit<0 then[] else if(ah r lit).kind=4 then mH r lit else[]
def AP(r:aq)(b:List aj)(x:aj):Bool:=!(if ch (outer r) x=lc then ch (kY r) x else ch b x)
def FG(r:aq)(lit:Int):Bool:=(lq r lit).any (AP r (nO r lit))
theorem vc{t a:aj}{v:Int}: ∀{m:NM},t∈(ck .str m a v).map YI↔t=a∨t∈m.map YI
 | []=>by simp[ck]
 |(x,y)::r=>by
  show t∈(if x=a then(a,v)::r else(x,y)::ck .str r a v).map YI↔_;split
  .rename_i h;subst h;simp
  .rw[Yz,Yx,vc,Yz,Yx];constructor
   .rintro(h|h|h)
    .exact .inr (.inl h)
    .exact .inl h
    .exact .inr (.inr h)
   .rintro(h|h|h)
    .exact .inr (.inl h)
    .exact .inl h
    .exact .inr (.inr h)
theorem DF{x:aj}{r:aq}:x∈kY r↔x∈b6 r:=by
 unfold kY tr;rw[yj];exact pW (may:=fun b=>aW b) (more:=fun b=>iX (az r) b) (IK r) lV (FE (az r)) (fun y=>by rw[uj];simp) x
theorem K6(k:List aj)(l:Lit):mE (aW k) (fun _=>li) k l=if(fH li [] k l).2=lc then jp (fH li [] k l).1 else kw:=by
 unfold mE fH;rw[be (c:=l.kind=4∧_) (fun h=>Bool.noConfusion h.2.2),be (c:=li=lc∧_) (fun h=>Bool.noConfusion h.1),C6]
theorem DG{x:aj}(o:List aj): ∀{l k:List aj},x∈l.foldl (fun k y=>if ch o y then bZ k y else k) k↔x∈k∨(x∈l∧x∈o)
 | [],k=>by simp
 |y::r,k=>by
  rw[YN,DG o];by_cases h:ch o y=lc
  .rw[am h,ct,Yx];constructor
   .rintro((g|g)|g)
    .exact .inl g
    .exact .inr ⟨.inl g,by rw[g];exact aP.1 h⟩
    .exact .inr ⟨.inr g.1,g.2⟩
   .rintro(g|⟨g|g,q⟩)
    .exact .inl (.inl g)
    .exact .inl (.inr g)
    .exact .inr ⟨g,q⟩
  .rw[be h,Yx];constructor
   .rintro(g|g)
    .exact .inl g
    .exact .inr ⟨.inr g.1,g.2⟩
   .rintro(g|⟨g|g,q⟩)
    .exact .inl g
    .subst g;exact absurd (aP.2 q) h
    .exact .inr ⟨g,q⟩
theorem r7{x:aj}{r:aq}{lit:Int}:x∈mH r lit↔x∈BO r (ah r lit).agg:=by
 unfold mH tr;rw[yj];refine pW (may:=fun b=>aW b) (more:=fun _=>fun _=>li) K6 lV (fun _ _ _ _ h=>h) (fun y=>?_) x;rw[uj];have:y∈vn r lit↔y∈yg r (ah r lit).agg:=by
  unfold vn yg;rw[DG,YO,(cf _).2,iz,aP,jI];simp
 rw[this,Ys]
theorem te{r:aq}{m:NM}:th r m=lc↔ ∃x∈m.map YI,x∉b6 r:=by
 unfold th;rw[Y8];constructor
 .rintro⟨y,b,h⟩;exact⟨y.1,YP.2 ⟨y,b,rfl⟩,fun g=>by rw[aP.2 g]at h;cases h⟩
 .rintro⟨x,hx,h⟩;obtain⟨y,b,rfl⟩:=YP.1 hx;refine⟨y,b,?_⟩;cases hi:ch (b6 r) y.1 with
  |true=>exact absurd (aP.1 hi) h
  |false=>rfl
theorem jK{r:aq}{b:List aj}{x:aj}:AP r b x=lc↔(x∈az r∧x∉b6 r)∨(x∉az r∧x∉b):=by
 unfold AP;rw[Y1];by_cases h:ch (outer r) x=lc
 .have d:x∈az r:=jI.1 (aP.1 h);rw[am h,<-ZQ,aP,DF];exact⟨fun g=> .inl ⟨d,g⟩,fun g=>g.elim (fun q=>q.2) fun q=>absurd d q.1⟩
 .have d:x∉az r:=fun g=>h (aP.2 (jI.2 g))
  rw[be h,<-ZQ,aP];exact⟨fun g=> .inr ⟨d,g⟩,fun g=>g.elim (fun q=>absurd q.1 d) fun q=>q.2⟩
theorem o8{r:aq}{lit:Int}(h0: ¬lit<0)(h1:lit<r.body.length){x:aj}(b:x∈fe (ah r lit)):x∈az r:=by
 unfold az;refine ZK _ (ZZ.2 ⟨ah r lit,?_,b⟩);have:lit.toNat<r.body.length:=by omega
 unfold ah;rw[Ye,Yi this];exact YZ this
theorem Lb(r:aq)(lit:Int)(h1:lit<r.body.length):FG r lit=dQ r lit:=by
 unfold FG dQ lq nO;by_cases A:lit<0
 .rw[am A,am A,am A,YU,te,Y8];constructor
  .rintro⟨x,b,g⟩;have u:x∈de r.head:=jX.1 b;have D:x∈az r:=by unfold az;exact YQ _ u
   refine⟨x,((cf _).2 x).2 u,?_⟩;rcases jK.1 g with q|q
   .exact q.2
   .exact absurd D q.1
  .rintro⟨x,b,g⟩;have u:=((cf _).2 x).1 b;have D:x∈az r:=by unfold az;exact YQ _ u
   exact⟨x,jX.2 u,jK.2 (.inl ⟨D,g⟩)⟩
 rw[be A,be A,be A];by_cases C:(ah r lit).kind=4
 .rw[am C,am C,am C,YU,Y3,te,Y8,Y8];have F:(ah r lit).bp∈az r:=o8 A h1 (by unfold fe;rw[am C];exact ZK _ Yy);have d: ∀x,x∈(lR r (ah r lit).agg).map YI↔x∈bj (ah r lit).agg∧x∉az r:=fun x=>by
   unfold lR;rw[<-(cf (bj (ah r lit).agg)).2 x,YP,YP];constructor
   .rintro⟨y,B,rfl⟩;obtain⟨g1,g2⟩:=YO.1 B;exact⟨⟨y,g1,rfl⟩,fun g=>by rw[aP.2 g]at g2;cases g2⟩
   .rintro⟨⟨y,g1,rfl⟩,g2⟩;refine⟨y,YO.2 ⟨g1,?_⟩,rfl⟩;cases hi:ch (az r) y.1 with
    |true=>exact absurd (aP.1 hi) g2
    |false=>rfl
  have j: ∀x,x∈(mK r (ah r lit).agg).map YI↔x∈bj (ah r lit).agg∧x∈az r:=fun x=>by
   unfold mK;constructor
   .intro b;obtain⟨y,B,rfl⟩:=YP.1 b;obtain⟨g1,g2⟩:=YO.1 B;have J:=((cf (bj (ah r lit).agg)).2 y.1).1 (YP.2 ⟨y,g1,rfl⟩);refine⟨J,Zu fun hc=>?_⟩;rw[aP.2 ((d y.1).2 ⟨J,hc⟩)]at g2;cases g2
   .rintro⟨g1,g2⟩;obtain⟨y,B,rfl⟩:=YP.1 (((cf (bj (ah r lit).agg)).2 x).2 g1);refine YP.2 ⟨y,YO.2 ⟨B,?_⟩,rfl⟩;cases hi:ch ((lR r (ah r lit).agg).map (·.1)) y.1 with
    |true=>exact absurd g2 ((d y.1).1 (aP.1 hi)).2
    |false=>rfl
  constructor
  .rintro⟨x,b,g⟩;rcases jK.1 g with⟨G,I⟩|⟨G,I⟩
   .refine .inr ⟨x,?_,I⟩;unfold bump;rw[vc,j];rcases ct.1 b with e|e
    .exact .inr ⟨iz.1 e,G⟩
    .exact .inl e
   .rcases ct.1 b with e|e
    .obtain⟨y,B,rfl⟩:=YP.1 ((d x).2 ⟨iz.1 e,G⟩);refine .inl ⟨y,B,?_⟩;cases hi:ch (BO r (ah r lit).agg) y.1 with
     |true=>exact absurd (r7.2 (aP.1 hi)) I
     |false=>rfl
    .rw[e]at G;exact absurd F G
  .rintro(⟨y,B,g⟩|⟨x,b,g⟩)
   .obtain⟨g1,g2⟩:=(d y.1).1 (YP.2 ⟨y,B,rfl⟩);refine⟨y.1,ct.2 (.inl (iz.2 g1)),jK.2 (.inr ⟨g2,fun q=>?_⟩)⟩;rw[aP.2 (r7.1 q)]at g;cases g
   .unfold bump at b;rw[vc,j]at b;rcases b with e|⟨S,Y⟩
    .exact⟨x,ct.2 (.inr e),jK.2 (.inl ⟨by rw[e];exact F,g⟩)⟩
    .exact⟨x,ct.2 (.inl (iz.2 S)),jK.2 (.inl ⟨Y,g⟩)⟩
 .rw[be C,be C,be C,YU,te,Y8];constructor
  .rintro⟨x,b,g⟩;have u:=iY.1 b;have D:=o8 A h1 (x:=x) (by unfold fe;exact YQ _ u);refine⟨x,((cf _).2 x).2 u,?_⟩;rcases jK.1 g with q|q
   .exact q.2
   .exact absurd D q.1
  .rintro⟨x,b,g⟩;have u:=((cf _).2 x).1 b;have D:=o8 A h1 (x:=x) (by unfold fe;exact YQ _ u);exact⟨x,iY.2 u,jK.2 (.inl ⟨D,g⟩)⟩
theorem BY: ∀{l:List aM} {u:aM} {i:Nat},i<l.length->l.getD i io=u->(∀j,j<i-> ¬l.getD j io=u)->zg l u=i
 | [],_,i,h,_,_=>absurd h (Z3 i)
 |a::r,u,0,_,h,_=>am h
 |a::r,u,i+1,hi,h,hJ=>by
  have b: ¬a=u:=hJ 0 (Nat.succ_pos i);unfold zg;rw[be b,BY (i:=i) (by simpa using hi) h fun j d=>hJ (j+1) (by omega)]
theorem yc: ∀{l:List aM} {u:aM},(∀j,j<l.length-> ¬l.getD j io=u)->zg l u=l.length
 | [],_,_=>rfl
 |a::r,u,hJ=>by
  have b: ¬a=u:=hJ 0 (by simp);unfold zg;rw[be b,yc (l:=r) fun j d=>hJ (j+1) (by simpa using d)];rfl
theorem Kd(r:aq)(s:aj)(w:Int):bh r s w=(s,if ch (outer r) s=lc then-1 else w):=by
 unfold bh;rw[bR];by_cases h:s∈az r
 .rw[am (by have:=oD.2 h;omega),am (aP.2 (jI.2 h))]
 .rw[be (by have:=rz.2 h;omega),be fun g=>h (jI.1 (aP.1 g))]
theorem DW{A:AK}{u:aM}{i:Nat}(h:zg A.items u=i)(hi:i<A.items.length):A.item u=A:=am (by omega)
theorem DX{A:AK}{u:aM}(h:zg A.items u=A.items.length):A.item u=⟨A.items++ [u],A.root++ [(A.root.length:Int)],A.l⟩:=be (by omega)
theorem d131(r:aq)(A:AK)(k:Ask)(hb:A.l.length+1<=1000000000):cj prog 255 [.ptr 0 0,pI k.place,pI k.item,pI k.type,pI k.qt] (A.O (outer r)) (.bX []) ((A.ask k).H (outer r)) 7:=by
 refine aE ab func255 Z (by decide) ntmps255 Z (by simp) ?_;refine zJ Z Z (fun g1=>?_) fun g1=>?_
 .have g1: ¬k.type=1:=zF g1;refine zJ Z Z (fun g2=>?_) fun g2=>?_
  .have g2:k.type=2:=zT g2;rw[show A.ask k=⟨A.items,A.root,A.l++ [k]⟩ from am (.inr g2)];refine gA Z uN
  .have g2: ¬k.type=2:=zF g2;rw[show A.ask k=A from be (by rintro(h|h);exact g1 h;exact g2 h)];refine gA Z uN
 .have g1:k.type=1:=zT g1;rw[show A.ask k=⟨A.items,A.root,A.l++ [k]⟩ from am (.inl g1)];refine gA Z uN
theorem rm{l:List aM}{u:aM}{i:Nat}(b: ∀j,j<i-> ¬l.getD j io=u)(h: ¬l.getD i io=u): ∀j,j<i+1-> ¬l.getD j io=u:=fun j d=>by
 rcases Zp.1 d with q|q
 .exact b j q
 .subst q;exact h
theorem AK.BV{A:AK}{u:aM}{i:Nat}(h:zg A.items u=i):A.ix u=(i:Int):=by unfold AK.ix;rw[h]
abbrev AK.at4(A:AK)(o:List aj):AH:=[(0,jp (AK.cell o 4 5 6 A.items.length A.root.length A.l.length)),(4,jp (aC 2 A.items aM.c)),(5,jp (aC 1 A.root aY)),(6,jp (aC 4 A.l Ask.c))]
theorem d46(r:aq)(A:AK)(s:aj)(w:Int)(hf:A.fit 1):cj prog 254 [.ptr 0 0,pS s,pI w] (A.O (outer r)) (pI (A.ix (bh r s w))) ((A.item (bh r s w)).H (outer r)) 7:=by
 obtain⟨⟨y,B⟩,C,D⟩:=hf;have hu:=Kd r s w;refine aE ab func254 Z (by decide) ntmps254 Z (by simp) ?_;refine gA Z (zp (Js (outer r) s) ?_);refine zJ Z Z (fun g=>?_) fun g=>?_
 .have g:ch (outer r) s=lc:=g;rw[am g]at hu;rw[hu];refine gA Z ?_;refine ar 0 A.items.length (Yl _) (fun i=>⟨[(0,.ptr 0 0),(1,pS s),(2,pI (-1)),(8,pI i)],A.at4 (outer r),7⟩) (fun i=> ∀j,j<i-> ¬A.items.getD j io=(s,(-1))) _ (fun j x=>absurd x (Z3 j))
   (Nd (A:=A) Z Z Z Z Z Z Z Z Z Z Z Z Z Z Z (bv (bv (bv (bv trivial))))) fun i F d=>?_
  refine zJ Z Z (fun b=>?_) fun b=>?_
  .have b:i<A.items.length:=zN b;refine gM 12 Z (bB ab Z Z Z Z Z (fm b) Z Z ?_);refine zJ Z Z (fun g1=>?_) fun g1=>?_
   .have g1:(A.items.getD i io).1=s:=zT g1;refine gM 14 Z (bB ab Z Z Z Z Z (fm b) Z Z ?_);refine zJ Z Z (fun g2=>?_) fun g2=>?_
    .have g2:(A.items.getD i io).2=(-1):=zT g2;have e:=BY b (Prod.ext g1 g2) d;rw[DW e b,AK.BV e];refine gA Z uN
    .have g2: ¬(A.items.getD i io).2=(-1):=zF g2;refine gA Z ⟨b,rm d (fun e=>g2 (by rw[e])),_,Nd (rfl) Z Z Z Z (by first|rfl|(rw[Yg];rfl)|simp) (by first|rfl|(rw[Yg];rfl)|simp) (by first|rfl|(rw[Yg];rfl)|simp) (by first|rfl|(rw[Yk];rfl)|(simp only[Yk,Yu];rfl)) (by first|rfl|(rw[Yk];rfl)|(simp only[Yk,Yu];rfl)) (by first|rfl|(rw[Yk];rfl)|(simp only[Yk,Yu];rfl)) Z Z Z Z (bv (bv (bv (bv ac))))⟩
   .have g1: ¬(A.items.getD i io).1=s:=zF g1;refine gA Z ⟨b,rm d (fun e=>g1 (by rw[e])),_,Nd (rfl) Z Z Z Z (by first|rfl|(rw[Yg];rfl)|simp) (by first|rfl|(rw[Yg];rfl)|simp) (by first|rfl|(rw[Yg];rfl)|simp) (by first|rfl|(rw[Yk];rfl)|(simp only[Yk,Yu];rfl)) (by first|rfl|(rw[Yk];rfl)|(simp only[Yk,Yu];rfl)) (by first|rfl|(rw[Yk];rfl)|(simp only[Yk,Yu];rfl)) Z Z Z Z (bv (bv (bv (bv ac))))⟩
  .have b:A.items.length<=i:=zG b;have e:zg A.items (s,(-1))=A.items.length:=yc fun j x=>d j (by omega);have u:((A.items.length:Int)+1-1)=A.ix (s,(-1)):=by rw[AK.BV e];omega
   rw[DX e,<-u];refine gA Z uN
 .have g:ch (outer r) s=li:=by simpa using g
  rw[be (by rw[g];decide)]at hu;rw[hu];refine gA Z ?_;refine ar 0 A.items.length (Yl _) (fun i=>⟨[(0,.ptr 0 0),(1,pS s),(2,pI w),(8,pI i)],A.at4 (outer r),7⟩) (fun i=> ∀j,j<i-> ¬A.items.getD j io=(s,w)) _ (fun j x=>absurd x (Z3 j))
   (Nd (A:=A) Z Z Z Z Z Z Z Z Z Z Z Z Z Z Z (bv (bv (bv (bv trivial))))) fun i F d=>?_
  refine zJ Z Z (fun b=>?_) fun b=>?_
  .have b:i<A.items.length:=zN b;refine gM 12 Z (bB ab Z Z Z Z Z (fm b) Z Z ?_);refine zJ Z Z (fun g1=>?_) fun g1=>?_
   .have g1:(A.items.getD i io).1=s:=zT g1;refine gM 14 Z (bB ab Z Z Z Z Z (fm b) Z Z ?_);refine zJ Z Z (fun g2=>?_) fun g2=>?_
    .have g2:(A.items.getD i io).2=w:=zT g2;have e:=BY b (Prod.ext g1 g2) d;rw[DW e b,AK.BV e];refine gA Z uN
    .have g2: ¬(A.items.getD i io).2=w:=zF g2;refine gA Z ⟨b,rm d (fun e=>g2 (by rw[e])),_,Nd (rfl) Z Z Z Z (by first|rfl|(rw[Yg];rfl)|simp) (by first|rfl|(rw[Yg];rfl)|simp) (by first|rfl|(rw[Yg];rfl)|simp) (by first|rfl|(rw[Yk];rfl)|(simp only[Yk,Yu];rfl)) (by first|rfl|(rw[Yk];rfl)|(simp only[Yk,Yu];rfl)) (by first|rfl|(rw[Yk];rfl)|(simp only[Yk,Yu];rfl)) Z Z Z Z (bv (bv (bv (bv ac))))⟩
   .have g1: ¬(A.items.getD i io).1=s:=zF g1;refine gA Z ⟨b,rm d (fun e=>g1 (by rw[e])),_,Nd (rfl) Z Z Z Z (by first|rfl|(rw[Yg];rfl)|simp) (by first|rfl|(rw[Yg];rfl)|simp) (by first|rfl|(rw[Yg];rfl)|simp) (by first|rfl|(rw[Yk];rfl)|(simp only[Yk,Yu];rfl)) (by first|rfl|(rw[Yk];rfl)|(simp only[Yk,Yu];rfl)) (by first|rfl|(rw[Yk];rfl)|(simp only[Yk,Yu];rfl)) Z Z Z Z (bv (bv (bv (bv ac))))⟩
  .have b:A.items.length<=i:=zG b;have e:zg A.items (s,w)=A.items.length:=yc fun j x=>d j (by omega);have u:((A.items.length:Int)+1-1)=A.ix (s,w):=by rw[AK.BV e];omega
   rw[DX e,<-u];refine gA Z uN
def ll(a b:Int)(l:List Int)(i:Nat):List Int:=((l.take i).map fun z=>if z=a then b else z)++l.drop i
theorem xv(a b:Int)(l:List Int)(i:Nat):(ll a b l i).length=l.length:=by
 unfold ll;rw[Yg,YH,YV,List.length_drop];omega
theorem CI{a b:Int}{l:List Int}{i:Nat}(h:i<l.length):(ll a b l i).getD i io=l.getD i io:=by
 unfold ll;have d:((l.take i).map fun z=>if z=a then b else z).length=i:=by rw[YH,YV];omega
 rw[Ye,YF (by omega),d,abi,Zw,Ye];rfl
theorem zu{a b:Int}{l:List Int}{i:Nat}(h:i<l.length):ll a b l (i+1)=(ll a b l i).set i (if l.getD i io=a then b else l.getD i io):=by
 unfold ll;have d:((l.take i).map fun z=>if z=a then b else z).length=i:=by rw[YH,YV];omega
 rw[aK h,Yk,List.set_append_right _ _ (by omega),d,abi,aa8 h,List.set_cons_zero,Yu,Ye,Yi h];rfl
theorem H8{a b:Int}{l:List Int}{i:Nat}(h:i<l.length)(hn: ¬l.getD i io=a):ll a b l (i+1)=ll a b l i:=by
 rw[zu h,be hn,<-CI (a:=a) (b:=b) h];refine ZS fun j=>?_;rw[Y4];split
 .rename_i e;subst e;have d:i<(ll a b l i).length:=by rw[xv];exact h
  rw[am d,Ye,Yi d];rfl
 .rfl
theorem H7(a b:Int)(l:List Int):ll a b l 0=l:=by simp[ll]
theorem JY{a b:Int}{l:List Int}{i:Nat}(h:l.length<=i):ll a b l i=l.map fun z=>if z=a then b else z:=by
 unfold ll;rw[Yn h,List.drop_eq_nil_of_le h,Y0]
theorem OH{l:List Int}{i:Nat}{v:Int}:(l.map fun x=>(aY x).map PV.iv).set (0+i) ([PV.iv (iI v)])=(l.set i v).map fun x=>(aY x).map PV.iv:=by
 rw[YC,ZV];rfl
theorem Db{l:List Int}{i:Int}(h:i.toNat<l.length):(l.map fun x=>(aY x).map PV.iv)[0+i.toNat]? =jp ((aY (l.getD i.toNat io)).map .iv):=fm h
abbrev AK.X6(A:AK)(R:List Int)(o:List aj):AH:=[(0,jp (AK.cell o 4 5 6 A.items.length R.length A.l.length)),(4,jp (aC 2 A.items aM.c)),(5,jp (aC 1 R aY)),(6,jp (aC 4 A.l Ask.c))]
theorem d168(r:aq)(A:AK)(x y:Int)(Y:0<=x)(a0:0<=y)(hx:x<A.root.length)(hy:y<A.root.length)(hb:A.root.length<=1000000000):cj prog 271 [.ptr 0 0,pI x,pI y] (A.O (outer r)) (.bX []) ((A.tie x y).H (outer r)) 7:=by
 have F:x.toNat<A.root.length:=by omega
 have G:y.toNat<A.root.length:=by omega
 refine aE ab func271 Z (by decide) ntmps271 Z (by simp) ?_;refine gM 8 Z (bB ab Z Z Z Z Z (Db F) Z Z ?_);refine gM 10 Z (bB ab Z Z Z Z Z (Db G) Z Z ?_);refine gA Z ?_;refine ar 0 A.root.length (Yl _) (fun i=>⟨[(0,.ptr 0 0),(6,pI (A.rt x)),(7,pI (A.rt y)),(8,pI i)],A.X6 (ll (A.rt x) (A.rt y) A.root i) (outer r),7⟩) (fun _=>True) _ ac
  (Nd (A:=A) (A':=⟨A.items,ll (A.rt x) (A.rt y) A.root 0,A.l⟩) (by rw[H7]) Z Z Z Z Z Z Z Z Z Z Z Z Z Z (bv (bv (bv (bv trivial))))) fun i hi _=>?_
 have B:=xv (A.rt x) (A.rt y) A.root i;refine zJ Z Z (fun d=>?_) fun d=>?_
 .have d:i<A.root.length:=by
   have:=zT (show lw ((i:Int)<((ll (A.rt x) (A.rt y) A.root i).length:Int))=lc from d);omega
  have I:=CI (a:=A.rt x) (b:=A.rt y) d;have C:i<(ll (A.rt x) (A.rt y) A.root i).length:=by omega
  have J:=zu (a:=A.rt x) (b:=A.rt y) d;have S:=H8 (a:=A.rt x) (b:=A.rt y) d;have u:=xv (A.rt x) (A.rt y) A.root (i+1);have j:=OH (l:=ll (A.rt x) (A.rt y) A.root i) (i:=i) (v:=A.rt y);refine gM 11 Z (bB ab Z Z Z Z Z (fm C) Z Z ?_);refine zJ Z Z (fun g1=>?_) fun g1=>?_
  .have g1:A.root.getD i io=A.rt x:=by rw[<-I];exact zT g1
   rw[am g1]at J;rw[<-J]at j;refine gA Z (Ee ab Z Z Z Z Z (i:=5) (sz:=1) (q:=0+i) (off:=0) (es:=(ll (A.rt x) (A.rt y) A.root i).map fun x=>(aY x).map PV.iv) Z Z (fm C) Z Z Z Z Z ?_);refine gA Z ⟨d,ac,_,Nd (A:=⟨A.items,ll (A.rt x) (A.rt y) A.root (i+1),A.l⟩) Z Z Z Z Z Z (by rw[B,u]) Z Z j Z Z Z Z Z (bv (bv (bv (bv ac))))⟩
  .have g1: ¬A.root.getD i io=A.rt x:=by rw[<-I];exact zF g1
   have D:AK.mk A.items (ll (A.rt x) (A.rt y) A.root i) A.l=⟨A.items,ll (A.rt x) (A.rt y) A.root (i+1),A.l⟩:=congrArg (fun q=>AK.mk A.items q A.l) (S g1).symm;refine gA Z ⟨d,ac,_,Nd (D) Z Z Z Z (by first|rfl|(rw[Yg];rfl)|simp) (by first|rfl|(rw[Yg];rfl)|simp) (by first|rfl|(rw[Yg];rfl)|simp) (by first|rfl|(rw[Yk];rfl)|(simp only[Yk,Yu];rfl)) (by first|rfl|(rw[Yk];rfl)|(simp only[Yk,Yu];rfl)) (by first|rfl|(rw[Yk];rfl)|(simp only[Yk,Yu];rfl)) Z Z Z Z (bv (bv (bv (bv ac))))⟩
 .have d:A.root.length<=i:=by
   have:=zF (show lw ((i:Int)<((ll (A.rt x) (A.rt y) A.root i).length:Int))=li from d);omega
  have e:A.tie x y=⟨A.items,ll (A.rt x) (A.rt y) A.root i,A.l⟩:=by
   unfold AK.tie;rw[JY d]
  rw[e];refine gA Z uN
theorem Wg(e:Expr):Pure prog 270 [ag e.c] (pI (b8 e)):=by
 refine ad ab func270 Z (by decide) ntmps270 Z (by simp) Z ?_
 repeat' (first|(refine gA Z (zI (fun _=>?_) (fun _=>?_)))|(refine gA Z (zL (.of_eq ?_))))
 all_goals(refine congrArg pI ?_;simp_all [b8])
theorem HL(r:aq)(A:AK)(b:Int)(s:aj)(w d:Int)(hf:A.fit 1):cj prog 255 [.ptr 0 0,pI b,pI (A.ix (bh r s w)),pI d,pI 0] ((A.item (bh r s w)).O (outer r)) (.bX []) ((A.want b (bh r s w) d).H (outer r)) 7:=
 d131 r (A.item (bh r s w)) ⟨b,A.ix (bh r s w),d,0⟩ (by rw[Ls];exact hf.2.2)
theorem Ms(r:aq)(A:AK)(b d j:Int)(hf:A.fit 1):cj prog 255 [.ptr 0 0,pI b,pI (-1),pI d,pI j] (A.O (outer r)) (.bX []) ((A.ask ⟨b, -1,d,j⟩).H (outer r)) 7:=
 d131 r A ⟨b, -1,d,j⟩ hf.2.2
def Qx(r:aq)(n:Nat):Prop:= ∀(A:AK) (e:Expr) (lit w:Int),e.size<=n->A.fit (Expr.aA e.args)->cj prog 257 [.ptr 0 0,ag e.c,pI lit,pI w] (A.O (outer r)) (.bX []) ((lS r lit w e A).H (outer r)) 7
def Ug(r:aq)(n:Nat):Prop:= ∀(A:AK) (e:Expr) (lit w:Int),e.size<=n->A.fit e.size->cj prog 256 [.ptr 0 0,ag e.c,pI lit,pI w] (A.O (outer r)) (.bX []) ((gz r lit w e A).H (outer r)) 7
theorem d132(r:aq)(n:Nat)(y:Qx r n):Ug r n:=by
 intro A e lit w x B;have C:=e.size_eq;rw[wX];have j:A.fit 1:=B.le (by omega);have b:(mI r lit w e A).fit (Expr.aA e.args):=B.step (Hs r lit w e A) (by omega);refine aE ab func256 Z (by decide) ntmps256 Z (by simp) ?_;refine zJ Z Z (fun k1=>?_) fun k1=>?_
 .have k1:e.kind=1:=zT k1;have u:mI r lit w e A=A.want lit (bh r e.var w) 1:=am k1;rw[u]at b ⊢;refine gA Z (rN (d46 r A e.var w j) ?_);refine gA Z (rN (HL r A lit e.var w 1 j) ?_);refine zJ Z Z (fun d=>?_) fun d=>?_
  .have d:e.kind=2:=zT d;omega
  refine gA Z (rN (y _ e lit w x b) ?_);refine gA Z uN
 have k1: ¬e.kind=1:=zF k1;refine zJ Z Z (fun d=>?_) fun d=>?_
 .have d:e.kind=2:=zT d;have u:mI r lit w e A=A.ask ⟨lit, -1,1,e.val.kind⟩:=by unfold mI;rw[be k1,am d]
  rw[u]at b ⊢;refine gA Z (rN (Ms r A lit 1 e.val.kind j) ?_);refine gA Z (rN (y _ e lit w x b) ?_);refine gA Z uN
 .have d: ¬e.kind=2:=zF d;have u:mI r lit w e A=A:=by unfold mI;rw[be k1,be d]
  rw[u]at b ⊢;refine gA Z (rN (y A e lit w x b) ?_);refine gA Z uN
theorem I9{r:aq}{lit w:Int}{l:List Expr}{i:Nat}{A:AK}(h:i<l.length):(l.take (i+1)).foldl (fun A x=>gz r lit w x A) A=gz r lit w (l.getD i io) ((l.take i).foldl (fun A x=>gz r lit w x A) A):=by
 rw[aK h,Z7];rfl
theorem vI: ∀(l:List Expr) (i:Nat),i<l.length->Expr.aA (l.take i)+(l.getD i io).size<=Expr.aA l
 | [],i,h=>by simp at h
 |s::r,0,_=>by simp[Expr.aA]
 |s::r,i+1,h=>by
  have:=vI r i (by simpa using h);simp only[ZF,ZE,Expr.aA];omega
theorem d133(r:aq)(n:Nat)(J:Ug r n):Qx r (n+1):=by
 intro A e lit w hs B;have I:=e.size_eq;refine cj.le (args:=[.ptr 0 0,ag e.c1,pI lit,pI w]) ?_ ⟨.refl _,e.x9,.refl _,.refl _,ac⟩;have D:=Expr.ax e.args;have F:=B.2.1;refine aE ab func257 Z (by decide) ntmps257 Z (by simp) ?_;refine zJ Z Z (fun k=>?_) fun k=>?_
 .have k: ¬e.kind=4:=by simpa using k
  have u:lS r lit w e A=A:=be k;rw[u];refine gA Z uN
 have k:e.kind=4:=by simpa using k
 have u:lS r lit w e A=e.args.foldl (fun A x=>gz r lit w x A) A:=am k;rw[u];refine gA Z ?_;have C: ∀i,i<=e.args.length->Gr (Expr.aA (e.args.take i)) A ((e.args.take i).foldl (fun A x=>gz r lit w x A) A):=fun i _=>LM r lit w e.args i A
 refine ar 0 e.args.length (Yl _) (fun i=>⟨[(0,.ptr 0 0),(2,pI lit),(3,pI w),(5,.ptr 4 0),(8,pI i)],AK.st ((e.args.take i).foldl (fun A x=>gz r lit w x A) A) (outer r) 0 5 [(4,jp (ak e.c1))],8⟩) (fun _=>True) _ ac
  (Sl (A:=A) Z Z Z Z Z Z Z Z Z Z Z Z Z Z Z (bv (bv (bv (bv (bv trivial))))) (zK trivial) Z) fun i G _=>?_
 refine zJ Z Z (fun d=>?_) fun d=>?_
 .have d:i<e.args.length:=zN d;have y:=I9 (r:=r) (lit:=lit) (w:=w) (A:=A) d;have Y:=vI e.args i d;have S:=Expr.aS e.args i d;have j:=B.step (b:=(e.args.getD i io).size) (C i G) (by omega);refine gA Z (rN (J _ (e.args.getD i io) lit w (by omega) j) ?_);refine gA Z ⟨d,ac,_,Bh (y.symm) (zK ac)⟩
 .have d:e.args.length<=i:=zG d;rw[Yn d];refine gA Z uN
theorem vh(r:aq): ∀n,Ug r n∧Qx r n
 |0=>by
  have b:Qx r 0:=fun A e lit w j=>by have:=e.size_pos;omega
  exact⟨d132 r 0 b,b⟩
 |n+1=>by
  have d:=d133 r n (vh r n).1;exact⟨d132 r (n+1) d,d⟩
theorem Ey(r:aq)(A:AK)(e:Expr)(lit w:Int)(hf:A.fit e.size):cj prog 256 [.ptr 0 0,ag e.c,pI lit,pI w] (A.O (outer r)) (.bX []) ((gz r lit w e A).H (outer r)) 7:=(vh r e.size).1 A e lit w (Ym _) hf
theorem Ex(r:aq)(A:AK)(e:Expr)(lit w:Int)(hf:A.fit e.size):cj prog 257 [.ptr 0 0,ag e.c,pI lit,pI w] (A.O (outer r)) (.bX []) ((lS r lit w e A).H (outer r)) 7:=(vh r e.size).2 A e lit w (Ym _) (hf.le (by have:=e.size_eq;omega))
theorem Lr(A:AK)(u:aM):0<=A.ix u:=by unfold AK.ix;omega
theorem d134(r:aq)(A:AK)(x y:Expr)(lit w:Int)(hf:A.fit 2):cj prog 258 [.ptr 0 0,ag x.c,ag y.c,pI lit,pI w] (A.O (outer r)) (.bX []) ((lC r lit w x y A).H (outer r)) 7:=by
 have b:A.fit 1:=hf.le (by omega);have C:lC r lit w x y A=if b8 x=0 then(if b8 y=0 then((A.item (bh r x.var w)).item (bh r y.var w)).tie (A.ix (bh r x.var w)) ((A.item (bh r x.var w)).ix (bh r y.var w)) else A.want lit (bh r x.var w) (b8 y))
  else if b8 y=0 then A.want lit (bh r y.var w) (b8 x) else A.ask ⟨lit, -1,b8 x,b8 y⟩:=rfl
 rw[C];refine aE ab func258 Z (by decide) ntmps258 Z (by simp) ?_;refine gA Z (zp (Wg x) ?_);refine gA Z (zp (Wg y) ?_);refine zJ Z Z (fun g1=>?_) fun g1=>?_
 .have g1:b8 x=0:=zT g1;rw[am g1];refine zJ Z Z (fun g2=>?_) fun g2=>?_
  .have g2:b8 y=0:=zT g2;rw[am g2];have u:=ur A (bh r x.var w);have B:=ur (A.item (bh r x.var w)) (bh r y.var w);have j:(A.item (bh r x.var w)).fit 1:=hf.step u (by omega);have d:=B.ok (u.ok hf.1);have I:=BZ A (bh r x.var w);have J:=BZ (A.item (bh r x.var w)) (bh r y.var w);have F:=Lr A (bh r x.var w);have G:=Lr (A.item (bh r x.var w)) (bh r y.var w);have m2:=B.mn;have m3:=u.it;have m4:=B.it;have D:=hf.2.1;refine gA Z (rN (d46 r A x.var w b) ?_);refine gA Z (rN (d46 r _ y.var w j) ?_);refine gA Z (rN (d168 r _ (A.ix (bh r x.var w)) ((A.item (bh r x.var w)).ix (bh r y.var w)) F G (by rw[d.1];omega) (by rw[d.1];omega) (by rw[d.1];omega)) ?_);refine gA Z uN
  .have g2: ¬b8 y=0:=zF g2;rw[be g2];refine zJ Z Z (fun g3=>?_) fun g3=>?_
   .refine gA Z (rN (d46 r A x.var w b) ?_);refine gA Z (rN (HL r A lit x.var w (b8 y) b) ?_);refine gA Z uN
   .exact absurd g1 (zF g3)
 .have g1: ¬b8 x=0:=zF g1;rw[be g1];refine zJ Z Z (fun g3=>?_) fun g3=>?_
  .exact absurd (zT g3) g1
  refine zJ Z Z (fun g2=>?_) fun g2=>?_
  .have g2:b8 y=0:=zT g2;rw[am g2];refine gA Z (rN (d46 r A y.var w b) ?_);refine gA Z (rN (HL r A lit y.var w (b8 x) b) ?_);refine gA Z uN
  .have g2: ¬b8 y=0:=zF g2;rw[be g2];refine gA Z (rN (Ms r A lit (b8 x) (b8 y) b) ?_);refine gA Z uN
theorem yR{p:Prog}{r:aq}{a:Atom}{lit w:Int}{A:AK}{i:Nat}(h:(ik p a.rel).types.length<=i): ∀k,fK p r a lit w A (i+k)=fK p r a lit w A i
 |0=>rfl
 |k+1=>by
  rw[<-ZR,fK,yR h k];unfold ki;rw[be (by omega)]
set_option maxHeartbeats 1000000 in
theorem d85(p:Prog)(r:aq)(A:AK)(a:Atom)(lit w:Int)(hp:p.aB.length<=1000000000)(hf:A.fit a.ae.length):cj prog 239 [.ptr 0 0,ag p.c,ag a.c,pI lit,pI w] (A.O (outer r)) (.bX []) ((fK p r a lit w A a.ae.length).H (outer r)) 7:=by
 have C:=hf.2.1;refine aE ab func239 Z (by decide) ntmps239 Z (by simp) ?_;refine gA Z (zp (Xg p a.rel (by omega)) ?_);refine gA Z ?_;refine ar 0 a.ae.length (Yl _) (fun i=>⟨[(0,.ptr 0 0),(3,pI lit),(4,pI w),(7,.ptr 5 0),(10,.ptr 6 0),(12,pI i)],AK.st (fK p r a lit w A i) (outer r) 0 7 [(5,jp (ak a.c)),(6,jp (ak (ik p a.rel).c))],10⟩) (fun _=>True) _ ac
  (Sl (A:=A) Z Z Z Z Z Z Z Z Z Z Z Z Z Z Z (bv (bv (bv (bv (bv (bv trivial)))))) (zK (zK trivial)) Z) fun i D _=>?_
 refine zE Z Z (fun d=>?_) fun d=>?_
 .have d:a.ae.length<=i:=zG d;have:i=a.ae.length:=by omega
  subst this;refine gA Z uN
 have d:i<a.ae.length:=zN d;refine zE Z Z (fun u=>?_) fun u=>?_
 .have u:(ik p a.rel).types.length<=i:=zG u;have e:fK p r a lit w A a.ae.length=fK p r a lit w A i:=by
   have:=yR (r:=r) (lit:=lit) (w:=w) (A:=A) u (a.ae.length-i);rwa[show i+(a.ae.length-i)=a.ae.length by omega]at this
  rw[e];refine gA Z uN
 have u:i<(ik p a.rel).types.length:=zN u;have j:fK p r a lit w A (i+1)=ki p r a lit w i (fK p r a lit w A i):=rfl
 have y:ki p r a lit w i (fK p r a lit w A i)=(if(a.ae.getD i io).kind=1 then(fK p r a lit w A i).want lit (bh r (a.ae.getD i io).var w) (typeAt p a i)
  else if(a.ae.getD i io).kind=2 then(fK p r a lit w A i).ask ⟨lit, -1,typeAt p a i,(a.ae.getD i io).val.kind⟩ else fK p r a lit w A i):=am u
 rw[y]at j;have x:(fK p r a lit w A i).fit 1:=hf.step (w9 p r a lit w A i) (by omega);generalize fK p r a lit w A i=B at*
 refine zJ Z Z (fun k1=>?_) fun k1=>?_
 .have k1:(a.ae.getD i io).kind=1:=zT k1;rw[am k1]at j;refine gA Z (rN (d46 r B (a.ae.getD i io).var w x) ?_);refine gA Z (rN (HL r B lit (a.ae.getD i io).var w (typeAt p a i) x) ?_);refine zJ Z Z (fun b=>?_) fun b=>?_
  .have b:(a.ae.getD i io).kind=2:=zT b;omega
  refine gA Z ⟨d,ac,_,Bh (j.symm) (zK (zK ac))⟩
 have k1: ¬(a.ae.getD i io).kind=1:=zF k1;rw[be k1]at j;refine zJ Z Z (fun b=>?_) fun b=>?_
 .have b:(a.ae.getD i io).kind=2:=zT b;rw[am b]at j;refine gA Z (I7 (Ms r B lit (typeAt p a i) (a.ae.getD i io).val.kind x) ?_);refine gA Z ⟨d,ac,_,Bh (j.symm) (zK (zK ac))⟩
 .have b: ¬(a.ae.getD i io).kind=2:=zF b;rw[be b]at j;refine gA Z ⟨d,ac,_,Bh (j.symm) (zK (zK ac))⟩
theorem d87(p:Prog)(r:aq)(A:AK)(l:Lit)(lit w:Int)(hp:p.aB.length<=1000000000)(hf:A.fit l.size):cj prog 241 [.ptr 0 0,ag p.c,ag l.c,pI lit,pI w] (A.O (outer r)) (.bX []) ((lF p r lit w l A).H (outer r)) 7:=by
 have u:=l.size_eq;have x:=l.left.size_eq;have y:=l.right.size_eq;refine aE ab func241 Z (by decide) ntmps241 Z (by simp) ?_;refine zJ Z Z (fun k1=>?_) fun k1=>?_
 .have k1:l.kind=1:=zT k1;have j:lF p r lit w l A=fK p r l.atom lit w A l.atom.ae.length:=am (.inl k1);rw[j];refine gA Z (rN (d85 p r A l.atom lit w hp (hf.le (by omega))) ?_);refine gA Z uN
 have k1: ¬l.kind=1:=zF k1;refine zJ Z Z (fun b=>?_) fun b=>?_
 .have b:l.kind=2:=zT b;have j:lF p r lit w l A=fK p r l.atom lit w A l.atom.ae.length:=am (.inr b);rw[j];refine gA Z (rN (d85 p r A l.atom lit w hp (hf.le (by omega))) ?_);refine gA Z uN
 have b: ¬l.kind=2:=zF b;have j:lF p r lit w l A=if l.kind=3 then(if l.op=1∨l.op=2 then lC r lit w l.left l.right (lS r lit w l.right (lS r lit w l.left A)) else gz r lit w l.right (gz r lit w l.left A)) else A:=be (by rintro(h|h);exact k1 h;exact b h);rw[j];refine zE Z Z (fun d=>?_) fun d=>?_
 .have d: ¬l.kind=3:=zF d;rw[be d];refine gA Z uN
 have d:l.kind=3:=zT d;rw[am d];have f0:A.fit l.left.size:=hf.le (by omega);have f1:(lS r lit w l.left A).fit l.right.size:=hf.step (tt r lit w l.left A) (by omega);have f2:(lS r lit w l.right (lS r lit w l.left A)).fit 2:=hf.step ((tt r lit w l.left A).trans (tt r lit w l.right _)) (by omega);have f3:(gz r lit w l.left A).fit l.right.size:=hf.step (nP r lit w _ l.left A (Ym _)) (by omega);refine zJ Z Z (fun g1=>?_) fun g1=>?_
 .have g1: ¬l.op=1:=zF g1;refine zJ Z Z (fun g2=>?_) fun g2=>?_
  .have g2:l.op=2:=zT g2;rw[am (.inr g2)];refine gA Z (rN (Ex r A l.left lit w f0) ?_);refine gA Z (rN (Ex r _ l.right lit w f1) ?_);refine gA Z (rN (d134 r _ l.left l.right lit w f2) ?_);refine gA Z uN
  .have g2: ¬l.op=2:=zF g2;rw[be (by rintro(h|h);exact g1 h;exact g2 h)];refine gA Z (rN (Ey r A l.left lit w f0) ?_);refine gA Z (rN (Ey r _ l.right lit w f3) ?_);refine gA Z uN
 .have g1:l.op=1:=zT g1;rw[am (.inl g1)];refine gA Z (rN (Ex r A l.left lit w f0) ?_);refine gA Z (rN (Ex r _ l.right lit w f1) ?_);refine gA Z (rN (d134 r _ l.left l.right lit w f2) ?_);refine gA Z uN
theorem d86(p:Prog)(r:aq)(A:AK)(g:fa)(i:Int)(hp:p.aB.length<=1000000000)(hf:A.fit (g.ef.size+2+Lit.aA g.body)):cj prog 240 [.ptr 0 0,ag p.c,ag g.c,pI i] (A.O (outer r)) (.bX []) ((E0 p r i (uT r i g.func g.var g.ef A) g.body g.body.length).H (outer r)) 7:=by
 have I:=Lit.ax g.body;have J:=hf.2.1;have S:=g.ef.size_eq;have G:=LH r i g.func g.var g.ef A;have B:(uT r i g.func g.var g.ef A).fit (Lit.aA g.body):=hf.step G (by omega);have x:uT r i g.func g.var g.ef A=if g.func=1 then gz r i i (jj g.var) A else if g.func=2 then gz r i i g.ef (gz r i i (jj g.var) A) else lC r i i (jj g.var) g.ef (lS r i i g.ef A):=rfl;refine cj.le (args:=[.ptr 0 0,ag p.c,ag g.c1,pI i]) ?_ ⟨.refl _,.refl _,g.x9,.refl _,ac⟩;generalize uT r i g.func g.var g.ef A=V at*
 have Y:=jC g.var;refine aE ab func240 Z (by decide) ntmps240 Z (by simp) ?_;refine zJ Z Z (fun f1=>?_) fun f1=>?_
 .have f1:g.func=1:=zT f1;rw[am f1]at x;refine gA Z (rN (cj.le (aa:=[.ptr 0 0,E2 g.var,pI i,pI i]) (Ey r A (jj g.var) i i (hf.le (by omega))) ⟨.refl _,q8 _,.refl _,.refl _,ac⟩) ?_);refine gA Z ?_;refine ar 0 g.body.length (Yl _) (fun k=>⟨[(0,.ptr 0 0),(3,pI i),(5,.ptr 4 0),(6,.ptr 5 0),(9,pI k)],AK.st (E0 p r i V g.body k) (outer r) 0 10 [(4,jp (ak p.c)),(5,jp (ak g.c1))],13⟩) (fun _=>True) _ ac
   (Sl (A':=V) x.symm Z Z Z Z Z Z Z Z Z Z Z Z Z Z (bv (bv (bv (bv (bv trivial))))) (zK (zK trivial)) Z) fun k C _=>?_
  refine zJ Z Z (fun d=>?_) fun d=>?_
  .have d:k<g.body.length:=zN d;have F:=eS g.body k d;have D:E0 p r i V g.body (k+1)=lF p r i i (g.body.getD k io) (E0 p r i V g.body k):=rfl;have j:=B.step (b:=(g.body.getD k io).size) (Eb p r i V g.body k C) (by omega);refine gA Z (I7 (d87 p r _ (g.body.getD k io) i i hp j) ?_);refine gA Z ⟨d,ac,_,Bh (D.symm) (zK (zK ac))⟩
  .have d:g.body.length<=k:=zG d;have u:k=g.body.length:=by omega
   subst u;refine gA Z uN
 have f1: ¬g.func=1:=zF f1;rw[be f1]at x;refine zJ Z Z (fun f2=>?_) fun f2=>?_
 .have f2:g.func=2:=zT f2;rw[am f2]at x;have y:(gz r i i (jj g.var) A).fit g.ef.size:=hf.step (nP r i i _ (jj g.var) A (Ym _)) (by omega);refine gA Z (rN (cj.le (aa:=[.ptr 0 0,E2 g.var,pI i,pI i]) (Ey r A (jj g.var) i i (hf.le (by omega))) ⟨.refl _,q8 _,.refl _,.refl _,ac⟩) ?_);refine gA Z (rN (Ey r _ g.ef i i y) ?_);refine gA Z ?_;refine ar 0 g.body.length (Yl _) (fun k=>⟨[(0,.ptr 0 0),(3,pI i),(5,.ptr 4 0),(6,.ptr 5 0),(9,pI k)],AK.st (E0 p r i V g.body k) (outer r) 0 13 [(4,jp (ak p.c)),(5,jp (ak g.c1))],16⟩) (fun _=>True) _ ac
   (Sl (A':=V) x.symm Z Z Z Z Z Z Z Z Z Z Z Z Z Z (bv (bv (bv (bv (bv trivial))))) (zK (zK trivial)) Z) fun k C _=>?_
  refine zJ Z Z (fun d=>?_) fun d=>?_
  .have d:k<g.body.length:=zN d;have F:=eS g.body k d;have D:E0 p r i V g.body (k+1)=lF p r i i (g.body.getD k io) (E0 p r i V g.body k):=rfl;have j:=B.step (b:=(g.body.getD k io).size) (Eb p r i V g.body k C) (by omega);refine gA Z (I7 (d87 p r _ (g.body.getD k io) i i hp j) ?_);refine gA Z ⟨d,ac,_,Bh (D.symm) (zK (zK ac))⟩
  .have d:g.body.length<=k:=zG d;have u:k=g.body.length:=by omega
   subst u;refine gA Z uN
 .have f2: ¬g.func=2:=zF f2;rw[be f2]at x;have y:(lS r i i g.ef A).fit 2:=hf.step (tt r i i g.ef A) (by omega);refine gA Z (rN (Ex r A g.ef i i (hf.le (by omega))) ?_);refine gA Z (rN (cj.le (aa:=[.ptr 0 0,E2 g.var,ag g.ef.c,pI i,pI i]) (d134 r _ (jj g.var) g.ef i i y) ⟨.refl _,q8 _,.refl _,.refl _,.refl _,ac⟩) ?_);refine gA Z ?_;refine ar 0 g.body.length (Yl _) (fun k=>⟨[(0,.ptr 0 0),(3,pI i),(5,.ptr 4 0),(6,.ptr 5 0),(9,pI k)],AK.st (E0 p r i V g.body k) (outer r) 0 13 [(4,jp (ak p.c)),(5,jp (ak g.c1))],16⟩) (fun _=>True) _ ac
   (Sl (A':=V) x.symm Z Z Z Z Z Z Z Z Z Z Z Z Z Z (bv (bv (bv (bv (bv trivial))))) (zK (zK trivial)) Z) fun k C _=>?_
  refine zJ Z Z (fun d=>?_) fun d=>?_
  .have d:k<g.body.length:=zN d;have F:=eS g.body k d;have D:E0 p r i V g.body (k+1)=lF p r i i (g.body.getD k io) (E0 p r i V g.body k):=rfl;have j:=B.step (b:=(g.body.getD k io).size) (Eb p r i V g.body k C) (by omega);refine gA Z (I7 (d87 p r _ (g.body.getD k io) i i hp j) ?_);refine gA Z ⟨d,ac,_,Bh (D.symm) (zK (zK ac))⟩
  .have d:g.body.length<=k:=zG d;have u:k=g.body.length:=by omega
   subst u;refine gA Z uN
set_option maxHeartbeats 2000000 in
theorem d45(p:Prog)(r:aq)(hp:p.aB.length<=1000000000)(hs:r.size<=1000000000):cj prog 210 [ag p.c,ag r.c] [] (.ptr 0 0) ((nF p r).K (outer r)) 4:=by
 have I:r.size=r.head.ae.length+Lit.aA r.body:=rfl;have y:AK.o.fit r.size:=⟨Vo,by show 0+_<=_;omega,by show 0+_<=_;omega⟩
 have C:=Lit.ax r.body;refine aE ab func210 Z (by decide) ntmps210 Z (by simp) ?_;refine gA Z (zp (Us r (by omega)) ?_);refine gM 4 Z (k9 2 0 2 Z Z (k9 2 1 1 Z Z (k9 2 2 4 Z Z ?_)));refine gA Z (rN (d85 p r AK.o r.head (-1) (-1) hp (y.le (by omega))) ?_);refine gA Z ?_;refine ar 0 r.body.length (Yl _) (fun i=>⟨[(2,.ptr 0 0),(3,.ptr 1 0),(5,.ptr 2 0),(6,pI i)],AK.st (lI p r i) (outer r) 2 9 [(0,jp (ak p.c)),(1,jp (ak r.c))],12⟩) (fun _=>True) _ ac
  (Sl (A':=lI p r 0) Z Z Z Z Z Z Z Z Z Z Z Z Z Z Z (bv (bv (bv (bv trivial)))) (zK (zK trivial)) Z) fun i D _=>?_
 refine zE Z Z (fun d=>?_) fun d=>?_
 .have d:r.body.length<=i:=zG d;have A:i=r.body.length:=by omega
  subst A;refine gA Z (zD [2,9,10,11] Z (zW (zO (zS (zS (zS ac))))))
 have d:i<r.body.length:=zN d;have G:=eS r.body i d;have F:=(r.body.getD i io).size_eq;have x:=y.step (b:=(r.body.getD i io).size) (B7 p r i D) (by omega);have hs:lI p r (i+1)=rU p r i (r.body.getD i io) (lI p r i):=rfl;generalize lI p r i=B at*
 refine zJ Z Z (fun u=>?_) fun u=>?_
 .have u:(r.body.getD i io).kind=4:=zT u;have j:rU p r i (r.body.getD i io) B=E0 p r i (uT r i (r.body.getD i io).agg.func (r.body.getD i io).agg.var (r.body.getD i io).agg.ef B) (r.body.getD i io).agg.body (r.body.getD i io).agg.body.length:=am u;rw[j]at hs;refine gA Z (I7 (d86 p r B (r.body.getD i io).agg i hp (x.le (by show(r.body.getD i io).kQ.size+2+Lit.aA (r.body.getD i io).au<=_;omega))) ?_);refine gA Z ⟨d,ac,_,Bh (hs.symm) (zK (zK ac))⟩
 .have u: ¬(r.body.getD i io).kind=4:=zF u;have j:rU p r i (r.body.getD i io) B=lF p r i (-1) (r.body.getD i io) B:=be u;rw[j]at hs;refine gA Z (I7 (d87 p r B (r.body.getD i io) i (-1) hp x) ?_);refine gA Z ⟨d,ac,_,Bh (hs.symm) (zK (zK ac))⟩
abbrev AK.P(A:AK)(o:List aj):PV:= .iv (.mL [cT 2 A.items aM.c,cT 1 A.root aY,cT 4 A.l Ask.c,strs o])
theorem Ep{α:Type}[Inhabited α]{l:List α}{f:α->Bool}{i:Nat}(h:(l.take i).any f=li)(hi:i<l.length)(hf:f (l.getD i io)=lc):l.find? f=jp (l.getD i io):=by
 rw[Ye,Yi hi]at hf ⊢;refine aar.2 ⟨hf,i,hi,rfl,fun j b=>?_⟩;have:=Y5.1 h (l[j]'(by omega)) (aam.2 ⟨j,by omega,rfl⟩);simpa using this
theorem c47(A:AK)(o:List aj)(i:Int)(h0:0<=i)(hi:i<A.root.length)(j: ∀k∈A.l,k.item<A.root.length)(hb:A.l.length<=1000000000):Pure prog 211 [A.P o,pI i] (pI (A.kind i)):=by
 refine ad ab func211 Z (by decide) ntmps211 Z (by simp) Z ?_;refine gA Z ?_;refine ar 0 A.l.length (Yl _) (fun n=>⟨[(0,A.P o),(1,pI i),(5,pI n)],[],0⟩) (fun n=>(A.l.take n).any (fun k=>lw (k.item>=0)&&lw (A.rt k.item=A.rt i))=li) [] (by simp) (kT Z Z (bv (bv (bv ac))) Z) fun n x d=>?_;refine zE Z Z (fun b=>?_) fun b=>?_
 .have b:A.l.length<=n:=zG b;have e:A.kind i=0:=by
   unfold AK.kind;rw[eP (any_none d b)];rfl
  rw[e];exact zU Z
 have b:n<A.l.length:=zN b;have u:=j (A.l.getD n io) (by rw[Ye,Yi b];exact YZ b);refine zE Z Z (fun g1=>?_) fun g1=>?_
 .have g1: ¬(A.l.getD n io).item>=0:=zF g1
  repeat(refine gA Z (zI (fun q=>?_) (fun q=>?_));all_goals(try(simp at q;done)))
  refine gA Z ⟨b,(a7 d b).2 (by rw[decide_eq_false g1];rfl),[],kT Z Z (bv (bv (bv ac))) Z⟩
 have g1:(A.l.getD n io).item>=0:=zT g1;refine zJ Z Z (fun g2=>?_) fun g2=>?_
 .have g2:A.rt (A.l.getD n io).item=A.rt i:=zT g2;have e:A.kind i=(A.l.getD n io).type:=by
   unfold AK.kind;rw[Ep d b (by rw[decide_eq_true g1,decide_eq_true g2];rfl)];rfl
  rw[e];exact zU Z
 .have g2: ¬A.rt (A.l.getD n io).item=A.rt i:=zF g2;refine gA Z ⟨b,(a7 d b).2 (by rw[decide_eq_false g2,Zv]),[],kT Z Z (bv (bv (bv ac))) Z⟩
theorem Rel.sub{M:Mem}{N:Nm}{U:Nat->Prop}{h d:AH}{w:World}(hr:Rel M N U h w)(hs: ∀j o,d.get j=jp o->h.get j=jp o):Rel M N U d w:=
 ⟨hr.dT,fun i o b=>hr.used i o (hs i o b),fun i o b=>hr.fk i o (hs i o b),fun i o b=>hr.obj i o (hs i o b),fun i j o p b u=>hr.inj i j o p (hs i o b) (hs j p u)⟩
theorem HB(i sz:Nat)(el:Nat->List IV): ∀l:List IV,oy i sz el (l.map .iv)=l.map .iv
 | []=>rfl
 |x::l=>by rw[Yz,oy,HB i sz el l];rfl
theorem sT{α:Type}(i sz:Nat)(el:Nat->List IV)(b:Nat)(l:List α)(f:α->List IV):(aC b l f).ic i sz el=aC b l f:=by
 simp only[aC,AO.ic,Z4];congr 1;exact ZC fun x _=>HB i sz el _
theorem l4{α:Type}(i sz n b:Nat)(l:List α)(f:α->List IV):(aC b l f).vg i sz n:=by
 intro e d;obtain⟨x,_,rfl⟩:=YP.1 d;exact oq _ _ _ _
theorem Gj{a b:Nat}(h: ¬a=b):YJ a b=li:=Zq.2 fun e=>h (YE e)
theorem xi(a:Nat):YJ a a=lc:=Nat.beq_refl a
theorem fzK{M:Mem}{N:Nm}{n:Nat}{h:AH}{w:World}(A:AK)(o:List aj)(rest:List PV){i a b c:Nat}(hb:wm rest=lc)
  (hi:h.get i=jp (AK.cell o a b c A.items.length A.root.length A.l.length)) (h1:h.get a=jp (aC 2 A.items aM.c)) (h2:h.get b=jp (aC 1 A.root aY)) (h3:h.get c=jp (aC 4 A.l Ask.c)) (hn:bT [i,a,b,c]=lc) (hr:Rel M N (· <n) h w):
  ∃u:Mem,M.le u∧Rel u N (· <n) [] w∧ ∀(j:Nat) (p:PV) (x:Value),(A.P o::rest)[j]? =jp p->(∀q,(PV.ptr i 0::rest)[j]? =jp q->VR M N (· <n) q x)->VR u N (· <n) p x:=by
 have B:=dh hn;simp only[Zo,Yx,aaL,or_false,not_or]at B;obtain⟨⟨e1,G,C⟩,⟨D,F⟩,y,_⟩:=B;have r0:Rel M N (· <n) [(i,jp (AK.cell o a b c A.items.length A.root.length A.l.length)),(a,jp (aC 2 A.items aM.c)),(b,jp (aC 1 A.root aY)),(c,jp (aC 4 A.l Ask.c))] w:=Rel.sub hr fun j x d=>by
  simp only[AH.aw]at d;split at d
  .rename_i e;subst e;rw[<-d];exact hi
  split at d
  .rename_i e;subst e;rw[<-d];exact h1
  split at d
  .rename_i e;subst e;rw[<-d];exact h2
  split at d
  .rename_i e;subst e;rw[<-d];exact h3
  .cases d
 obtain⟨u,l1,r1,v1⟩:=va r0 a (fun k=>aM.c (A.items.getD k io)) (es:=A.items.map fun x=>(aM.c x).map .iv) (sz:=2) (by rw[AH.aw,be (Ne.symm e1),AH.aw,am Z];rfl) (cL Z)
  ⟨by simp[AO.vg,dC,PV.bG,Ne.symm D,Ne.symm F],l4 _ _ _ _ _ _,l4 _ _ _ _ _ _,l4 _ _ _ _ _ _,ac⟩
 have J:Rel u N (· <n) [(i,jp (.cells [.iv (cT 2 A.items aM.c),.sl b 0 A.root.length 1,.sl c 0 A.l.length 4,.iv (strs o)])),(b,jp (aC 1 A.root aY)),(c,jp (aC 4 A.l Ask.c))] w:=Rel.sub r1 fun j x d=>by
  simp only[AH.aw]at d;rw[AH.aw,AH.kJ];split at d
  .rename_i e;subst e;rw[be e1,AH.aw,am Z,<-d];simp only[Zg,AO.ic,oy,PV.dT,xi,Gj (Ne.symm D),Gj (Ne.symm F),cond_true,cond_false,YC]
  split at d
  .rename_i e;subst e;rw[be (Ne.symm D),AH.aw,be (Ne.symm G),AH.aw,be (Ne.symm D),AH.aw,am Z,<-d,Zg,sT]
  split at d
  .rename_i e;subst e;rw[be (Ne.symm F),AH.aw,be (Ne.symm C),AH.aw,be (Ne.symm F),AH.aw,be (Ne.symm y),AH.aw,am Z,<-d,Zg,sT]
  .cases d
 obtain⟨M2,l2,r2,v2⟩:=va J b (fun k=>aY (A.root.getD k io)) (es:=A.root.map fun x=>(aY x).map .iv) (sz:=1) (by rw[AH.aw,be (Ne.symm G),AH.aw,am Z];rfl) (cL Z)
  ⟨by simp[AO.vg,dC,PV.bG,Ne.symm y],l4 _ _ _ _ _ _,l4 _ _ _ _ _ _,ac⟩
 have S:Rel M2 N (· <n) [(i,jp (.cells [.iv (cT 2 A.items aM.c),.iv (cT 1 A.root aY),.sl c 0 A.l.length 4,.iv (strs o)])),(c,jp (aC 4 A.l Ask.c))] w:=Rel.sub r2 fun j x d=>by
  simp only[AH.aw]at d;rw[AH.aw,AH.kJ];split at d
  .rename_i e;subst e;rw[be G,AH.aw,am Z,<-d];simp only[Zg,AO.ic,oy,PV.dT,xi,Gj (Ne.symm y),cond_true,cond_false,YC]
  split at d
  .rename_i e;subst e;rw[be (Ne.symm y),AH.aw,be (Ne.symm C),AH.aw,be (Ne.symm y),AH.aw,am Z,<-d,Zg,sT]
  .cases d
 obtain⟨M3,l3,r3,v3⟩:=va S c (fun k=>Ask.c (A.l.getD k io)) (es:=A.l.map fun x=>(Ask.c x).map .iv) (sz:=4) (by rw[AH.aw,be (Ne.symm C),AH.aw,am Z];rfl) (cL Z)
  ⟨by simp[AO.vg,dC,PV.bG],l4 _ _ _ _ _ _,ac⟩
 have Y:Rel M3 N (· <n) [(i,jp (.cells [.iv (cT 2 A.items aM.c),.iv (cT 1 A.root aY),.iv (cT 4 A.l Ask.c),.iv (strs o)]))] w:=Rel.sub r3 fun j x d=>by
  simp only[AH.aw]at d;rw[AH.aw,AH.kJ];split at d
  .rename_i e;subst e;rw[be C,AH.aw,am Z,<-d];simp only[Zg,AO.ic,oy,PV.dT,xi,cond_true,YC]
  .cases d
 obtain⟨M4,x4,r4,v4⟩:=AJ (l:=[cT 2 A.items aM.c,cT 1 A.root aY,cT 4 A.l Ask.c,strs o]) Y (i:=i) (cs:=[.iv (cT 2 A.items aM.c),.iv (cT 1 A.root aY),.iv (cT 4 A.l Ask.c),.iv (strs o)]) (T0:=kw) (by rw[AH.aw,am Z]) Z;have I:=(l1.trans l2).trans (l3.trans x4.r6);refine⟨M4,I,Rel.sub r4 (fun j x d=>nomatch d),fun j p x d hq=>?_⟩;cases j with
 |zero=>
  cases d;have g1:=v1 _ _ (hq _ Z) ac;have g2:=v2 _ _ g1 ac;have g3:=v3 _ _ g2 ac;have g4:=v4 _ _ g3;simp only[PV.dT,PV.I8,xi,cond_true,List.drop_zero]at g4;exact g4
 |succ j=>exact uJ (hq p d) (me hb j p d)
theorem T9(r:aq)(lit:Int)(h1:lit<r.body.length):Pure prog 208 [ag r.c,pI lit] (ag [iI (fw r lit).line,iI (fw r lit).HN]):=by
 refine ad ab func208 Z (by decide) ntmps208 Z (by simp) Z ?_;refine zJ Z Z (fun b=>?_) fun b=>?_
 .have b:lit<0:=by simpa using b
  refine gA Z (zL (.of_eq ?_));rw[fw,am b];rfl
 have b: ¬lit<0:=by simpa using b
 refine gA Z (zL (.of_eq ?_));rw[fw,be b];rfl
theorem Sf(e:Int)(q:Pos):Pure prog 132 [pI e,ag [iI q.line,iI q.HN]] (ag (aT.c (e,q))):=by
 refine ad ab func132 Z (by decide) ntmps132 Z (by simp) Z ?_;exact zU Z
theorem uY{α:Type}(σ:Nat->Nat)(l:List α)(f:α->List IV):(l.map fun x=>(f x).map PV.iv).map (dZ σ)=l.map fun x=>(f x).map PV.iv:=by
 rw[Z4];exact ZC fun x _=>rj σ _
set_option maxHeartbeats 1000000 in
theorem c68(p:Prog)(r:aq)(hp:p.aB.length<=1000000000)(hs:r.size<=1000000000):Pure prog 176 [ag p.c,ag r.c] (ag (jk r (nF p r)).c):=by
 have hz:r.size=r.head.ae.length+Lit.aA r.body:=rfl;have y:=B7 p r r.body.length (Ym _);have J:(nF p r).ok:=y.ok Vo;have S: ∀k∈(nF p r).l, -1<=k.place∧k.place<r.body.length:=(nE p r r.body.length).2;have G:(nF p r).l.length<=1000000000:=by
  have d:=y.ln;rw[Z5]at d;have:AK.o.l.length=0:=rfl;show(lI p r r.body.length).l.length<=_;omega
 refine ad ab func176 Z (by decide) ntmps176 Z (by simp) Z ?_;refine gA Z (zq [] (d45 p r hp hs) ?_);generalize nF p r=A at*
 obtain⟨B,C⟩:=J;refine gA Z ?_;refine ar 0 A.l.length (Yl _) (fun i=>⟨[(3,.ptr 1 0),(4,.ptr 2 0),(5,.ptr 3 0),(6,pI i)],[(1,jp (ak r.c)),(2,jp (ak aT.z.c)),(3,jp (AK.cell (outer r) 4 5 6 A.items.length A.root.length A.l.length)),(4,jp (aC 2 A.items aM.c)),(5,jp (aC 1 A.root aY)),(6,jp (aC 4 A.l Ask.c))],7⟩) (fun i=>(A.l.take i).any A.bad=li) [] (by simp)
  (zW (zK (zK (zO (hR Z (uY _ _ _) Z (hR Z (uY _ _ _) Z (hR Z (uY _ _ _) Z trivial))))))) fun i hi F=>?_
 refine zE Z Z (fun d=>?_) fun d=>?_
 .have d:A.l.length<=i:=zG d;have e:jk r A=aT.z:=by
   unfold jk;rw[eP (any_none F d)]
  rw[e];exact zU Z
 have d:i<A.l.length:=zN d;have Y:A.l.getD i io∈A.l:=by rw[Ye,Yi d];exact YZ d
 have I:=C _ Y;obtain⟨a0,D⟩:=S _ Y;have b:A.bad (A.l.getD i io)=!lw ((if(A.l.getD i io).item>=0 then A.kind (A.l.getD i io).item else(A.l.getD i io).qt)=(A.l.getD i io).type):=rfl;have x:A.bad (A.l.getD i io)=lc->jk r A=(63,fw r (A.l.getD i io).place):=fun h=>by
  unfold jk;rw[Ep F d h]
 have u:A.bad (A.l.getD i io)=li->(A.l.take (i+1)).any A.bad=li:=fun h=>(a7 F d).2 h;refine gM 11 Z (bB ab Z Z Z Z Z (fm d) Z Z ?_);refine zJ Z Z (fun g1=>?_) fun g1=>?_
 .have g1:(A.l.getD i io).item>=0:=zT g1;rw[am g1]at b;refine gA Z (LX (asv:=[.ptr 3 0,pI (A.l.getD i io).item]) (Pure.W3 (c47 A (outer r) (A.l.getD i io).item g1 (by rw[B];exact I) (fun k hk=>by rw[B];exact C k hk) G)) Z Z Z Z Z (fun M N w hr=>fzK A (outer r) [pI (A.l.getD i io).item] Z Z Z Z Z Z hr) Z (fun j o hj=>nomatch hj) Z ?_);refine zJ Z Z (fun g2=>?_) fun g2=>?_
  .have g2:A.bad (A.l.getD i io)=lc:=by
    rw[b];exact g2
   rw[x g2];refine gA Z (zp (T9 r (A.l.getD i io).place D) ?_);refine gA Z (zp (Sf 63 (fw r (A.l.getD i io).place)) ?_);exact zU Z
  .have g2:A.bad (A.l.getD i io)=li:=by
    rw[b];exact g2
   refine gA Z ⟨d,u g2,[],zW (zK (zK (zO (zS (zS (zS ac))))))⟩
 .have g1: ¬(A.l.getD i io).item>=0:=zF g1;rw[be g1]at b;refine zJ Z Z (fun g2=>?_) fun g2=>?_
  .have g2:A.bad (A.l.getD i io)=lc:=by
    rw[b];exact g2
   rw[x g2];refine gA Z (zp (T9 r (A.l.getD i io).place D) ?_);refine gA Z (zp (Sf 63 (fw r (A.l.getD i io).place)) ?_);exact zU Z
  .have g2:A.bad (A.l.getD i io)=li:=by
    rw[b];exact g2
   refine gA Z ⟨d,u g2,[],zW (zK (zK (zO (zS (zS (zS ac))))))⟩
theorem Wj(t:nU):Pure prog 266 [ag t.c] (.bX [pS (if t.2=lc then⟨#[]⟩ else t.1),pI (if t.2=lc then 50 else 0)]):=by
 refine ad ab func266 Z (by decide) ntmps266 Z (by simp) Z ?_;refine zJ Z Z (fun g=>?_) fun g=>?_
 .have g:t.2=lc:=g;rw[am g,am g];exact zU Z
 .have g: ¬t.2=lc:=by
   have g:t.2=li:=g;rw[g];decide
  rw[be g,be g];exact zU Z
set_option maxHeartbeats 4000000 in
theorem T8(a:Atom)(x:a.ts<=900000000)(hl:a.ae.length<=1000000000):Pure prog 267 [ag a.c] (ag (fj a).c):=by
 have j:a.ts=a.rel.size+10+(a.ae.map Term.ts).sum:=rfl;have y:(⟨#[40]⟩:ByteArray).size=1:=rfl;have A:(⟨#[44,32]⟩:ByteArray).size=2:=rfl;have B:(⟨#[95]⟩:ByteArray).size=1:=rfl;have C:((eM a 0).1++(⟨#[41]⟩:ByteArray)).size=(eM a 0).1.size+1:=Zf;refine ad ab func267 Z (by decide) ntmps267 Z (by simp) Z ?_;refine gA Z (zp (Wf a.rel (by omega)) ?_);refine gA Z ?_;refine ar 0 a.ae.length (Yl _) (fun i=>⟨[(1,.ptr 0 0),(2,.ptr 1 0),(4,.ptr 2 0),(5,pI i)],[(0,jp (ak a.c)),(1,jp (.cells [pS Yp,pB li])),(2,jp (ak (eM a i).c))],3⟩) (fun _=>True) [] ac
  (zW (zK (zO (zK trivial)))) fun i J _=>?_
 refine zE Z Z (fun b=>?_) fun b=>?_
 .have b:a.ae.length<=i:=zG b;have u:i=a.ae.length:=by omega
  subst u;have d:=pt a a.ae.length (Ym _);rw[Yn (Ym _)]at d;have Y:(⟨#[41]⟩:ByteArray).size=1:=rfl;exact zU Z
 have b:i<a.ae.length:=zN b;have d:=pt a i (by omega);have D:=uU a.ae i b;have F:(a.ae.getD i io).ts=(a.ae.getD i io).var.size+310:=rfl;have G:=nV (a.ae.getD i io).val;have I:((eM a i).1++(⟨#[44,32]⟩:ByteArray)).size=(eM a i).1.size+2:=Zf;have S:=ta (a.ae.getD i io).kind (a.ae.getD i io).var (a.ae.getD i io).val
 repeat' (first
  |(refine gA Z (zI (fun q=>?_) (fun q=>?_)))
  |(refine gA Z (bn (We (a.ae.getD i io).kind (a.ae.getD i io).var (a.ae.getD i io).val (by omega)) Z Z Z Z Z Z ?_)))
 all_goals(refine gA Z ?_)
 all_goals clear d D F G I S x j y A B C J
 all_goals have hE:Yp=(⟨#[]⟩:ByteArray):=rfl
 all_goals exact⟨b,ac,[],zW (zK (zO ⟨⟨_,rfl,.cells ⟨.of_eq (congrArg pS (by simp_all [eM,pD,MQ,fc,wD,Kk])),(by first|exact .of_eq (fx (by simp_all [eM,pD,MQ,fc,cQ]))|exact .rK (by simp_all [eM,pD,MQ,fc,cQ])),ac⟩⟩,Yd Z,rfl,ac⟩))⟩
theorem X4(a:Atom)(b:a.ts<=900000000)(d:a.ae.length<=1000000000):Pure prog 249 [ag a.c] (.bX [pS (if(fj a).2=lc then⟨#[]⟩ else(fj a).1),pI (if(fj a).2=lc then 50 else 0)]):=by
 refine ad ab func249 Z (by decide) ntmps249 Z (by simp) Z ?_;refine gA Z (zp (T8 a b d) ?_);refine gA Z (zp (Wj (fj a)) ?_);exact zU Z
theorem c62(a:Atom)(b:a.ts<=900000000)(d:a.ae.length<=1000000000):Pure prog 232 [ag a.c] (pB (!(fj a).2)):=by
 refine ad ab func232 Z (by decide) ntmps232 Z (by simp) Z ?_;refine gA Z (zp (X4 a b d) ?_);refine gA Z (zL (.of_eq ?_));refine(fx ?_:pB _=pB _);cases(fj a).2<;>rfl
theorem Gf(e:Expr):Pure prog 292 [ag e.c] (pI (bw e)):=by
 refine ad ab func292 Z (by decide) ntmps292 Z (by simp) Z ?_
 repeat' (first|(refine gA Z (zI (fun _=>?_) (fun _=>?_)))|(refine gA Z (zL (.of_eq ?_))))
 all_goals(refine congrArg pI ?_;simp_all [bw])
theorem Xn(op:Int):Pure prog 293 [pI op] (pS (xC op)):=by
 refine ad ab func293 Z (by decide) ntmps293 Z (by simp) Z ?_
 repeat' (first|(refine gA Z (zI (fun _=>?_) (fun _=>?_)))|(refine gA Z (zL (.of_eq ?_))))
 all_goals(refine congrArg pS ?_;simp_all [xC])
theorem ot{e:Expr}{b:Bool}{k:nU}(d: ¬(e.kind=1∨e.kind=2))(h: ¬e.kind=4∨b=lc∨ ¬e.var=⟨#[]⟩∨cQ e.val=li∨e.op<1∨e.op>6):iK e b k=nS:=by
 unfold iK;rw[be d,am h]
theorem tq{e:Expr}{b:Bool}{k:nU}(d:e.kind=1∨e.kind=2):iK e b k=((fc e.kind e.var e.val).1,(fc e.kind e.var e.val).2||(b||(!lw (e.op=0)||decide ((e.args.length:Int)>0)))):=by
 unfold iK;rw[am d];rfl
theorem FW{e:Expr}{k:nU}(b:e.kind=4)(h:e.var=⟨#[]⟩)(j:cQ e.val=lc)(h1: ¬e.op<1)(d: ¬e.op>6):iK e li k=k:=by
 unfold iK;rw[be (by omega),be];rintro(g|g|g|g|g|g)
 .exact g b
 .cases g
 .exact g h
 .rw[j]at g;cases g
 .exact h1 g
 .exact d g
theorem Jd{e:Expr}{n:Nat}(hn:n<=1)(d: ¬(e.kind=1∨e.kind=2)):bL n e=nS:=by
 have j: ∀b,iK e b nS=nS:=fun b=>by
  unfold iK;rw[be d];split<;>rfl
 match n,hn with
 |0,_=>exact j lc
 |1,_=>exact j li
theorem F8{e:Expr}{n:Nat}(b:e.kind=1∨e.kind=2):bL n e=((fc e.kind e.var e.val).1,(fc e.kind e.var e.val).2||(lw (n=0)||(!lw (e.op=0)||decide ((e.args.length:Int)>0)))):=by
 match n with
 |0=>exact tq b
 |1=>exact tq b
 |m+2=>exact tq b
theorem fV:aG (.agg [pS Yp,.kb lc]) (ag nS.c):= .agg ⟨.of_eq Z,.rK Z,ac⟩
def PT(n:Nat):Prop:= ∀(d:Int) (e:Expr),d=(n:Int)-1->e.ts<=900000000->Pure prog 280 [ag e.c,pI d] (ag (bL n e).c)
theorem EG(n:Nat)(hn:n<=1000)(x:PT (n+1))(y:PT n)(b:Bool)(d:Int)(hd:d=n)(a:Expr)(j:a.ts<=900000000):Pure prog 291 [ag a.c,pB b,pI d] (ag (kL n b a).c):=by
 have D:=fB n a;have A:(⟨#[40]⟩:ByteArray).size=1:=rfl;have B:(⟨#[41]⟩:ByteArray).size=1:=rfl;have C:((⟨#[40]⟩:ByteArray)++(bL n a).1).size=(⟨#[40]⟩:ByteArray).size+(bL n a).1.size:=Zf;have u:lw (d<1)=lw (n<1):=decide_eq_decide.2 (by omega);refine ad ab func291 Z (by decide) ntmps291 Z (by simp) Z ?_;refine zJ Z Z (fun g=>?_) fun g=>?_
 .have g:b=li:=by simpa using g
  rw[kL,be (by rw[g];decide)];refine gA Z (zp (x d a (by omega) j) ?_);exact zU Z
 .have g:b=lc:=by simpa using g
  rw[kL,am g];refine gA Z (zp (y (d-1) a (by omega) j) ?_);refine zJ Z Z (fun q=>?_) fun q=>?_
  .have q:(bL n a).2=li:=q;refine gA Z (zL ?_);exact .agg ⟨.refl _,.of_eq (fx (by rw[q,u];rfl)),ac⟩
  .have q:(bL n a).2=lc:=by simpa using q
   refine gA Z (zL ?_);rw[q]
   first
    |exact .agg ⟨.refl _,.of_eq (fx (by first|rfl|rw[q];rfl)),ac⟩
    |exact .agg ⟨.refl _,.rK (by first|rfl|rw[q];rfl),ac⟩
theorem HZ(n:Nat)(d:Int)(e:Expr)(hd:d=(n:Int)-1)(j:e.kind=1∨e.kind=2)(u:e.ts<=900000000):Pure prog 280 [ag e.c,pI d] (ag (bL n e).c):=by
 have x:=e.mh;have b:lw (n=0)=lw (d<0):=decide_eq_decide.2 (by omega);rw[F8 j,b];clear b hd;refine ad ab func280 Z (by decide) ntmps280 Z (by simp) Z ?_
 repeat' (first
  |(refine gA Z (zI (fun q=>?_) (fun q=>?_)))
  |(refine gA Z (bn (We e.kind e.var e.val (by omega)) Z Z Z Z Z Z ?_)))
 all_goals first
  |(exfalso;simp_all;done)
  |skip
 all_goals(refine gA Z (zL ?_))
 all_goals first
  |refine .agg ⟨.refl _,.of_eq (fx ?_),ac⟩
  |refine .agg ⟨.refl _,.rK ?_,ac⟩
 all_goals(simp_all<;>omega)
theorem MW(n:Nat)(hn:n<=1):PT n:=by
 intro d e hd j;by_cases b:e.kind=1∨e.kind=2
 .exact HZ n d e hd b j
 rw[Jd hn b];refine ad ab func280 Z (by decide) ntmps280 Z (by simp) Z ?_;refine zE Z Z (fun k1=>?_) fun k1=>?_
 .exact absurd (.inl (zT k1)) b
 refine zJ Z Z (fun u=>?_) fun u=>?_
 .exact absurd (.inr (zT u)) b
 refine zJ Z Z (fun g1=>?_) fun g1=>?_
 .refine zJ Z Z (fun g2=>?_) fun g2=>?_
  .exact absurd (zF g2) (by omega)
  .repeat(refine gA Z (zI (fun q=>?_) (fun q=>?_));all_goals(try(simp at q;done)))
   refine gA Z (zL ?_);exact fV
 .repeat(refine gA Z (zI (fun q=>?_) (fun q=>?_));all_goals(try(simp at q;done)))
  refine gA Z (zL ?_);exact fV
set_option maxHeartbeats 2000000 in
theorem Qv(m:Nat)(hm:m<=100)(hB:PT m)(Y:PT (m+1)):PT (m+2):=by
 intro d e hd a0;by_cases y:e.kind=1∨e.kind=2
 .exact HZ (m+2) d e hd y a0
 have A:m<=1000:=by omega
 have h0:=e.mh;rw[AV];refine Al.Pure.le (aa:=[ag e.c,pI d]) (args:=[ag e.c1,pI d]) ?_ ⟨e.x9,.refl _,ac⟩;refine ad ab func280 Z (by decide) ntmps280 Z (by simp) Z ?_;refine zE Z Z (fun k1=>?_) fun k1=>?_
 .exact absurd (.inl (zT k1)) y
 refine zJ Z Z (fun k2=>?_) fun k2=>?_
 .exact absurd (.inr (zT k2)) y
 refine zE Z Z (fun g1=>?_) fun g1=>?_
 .have g1: ¬e.kind=4:=by
   have g:(!lw (e.kind=4))=lc:=g1;simpa using g
  rw[ot y (.inl g1)]
  repeat(refine gA Z (zI (fun q=>?_) (fun q=>?_));all_goals(try(simp at q;done)))
  refine gA Z (zL ?_);exact fV
 have g1:e.kind=4:=by
  have g:(!lw (e.kind=4))=li:=g1;simpa using g
 refine zE Z Z (fun g2=>?_) fun g2=>?_
 .exact absurd (zT g2) (by omega)
 refine zE Z Z (fun g3=>?_) fun g3=>?_
 .have g3: ¬e.var=⟨#[]⟩:=by
   have g:(!lw (e.var=⟨#[]⟩))=lc:=g3;simpa using g
  rw[ot y (.inr (.inr (.inl g3)))]
  repeat(refine gA Z (zI (fun q=>?_) (fun q=>?_));all_goals(try(simp at q;done)))
  refine gA Z (zL ?_);exact fV
 have g3:e.var=⟨#[]⟩:=by
  have g:(!lw (e.var=⟨#[]⟩))=li:=g3;simpa using g
 refine zE Z Z (fun g4=>?_) fun g4=>?_
 .have g4:cQ e.val=li:=by
   have g:(!cQ e.val)=lc:=g4;simpa using g
  rw[ot y (.inr (.inr (.inr (.inl g4))))]
  repeat(refine gA Z (zI (fun q=>?_) (fun q=>?_));all_goals(try(simp at q;done)))
  refine gA Z (zL ?_);exact fV
 have g4:cQ e.val=lc:=by
  have g:(!cQ e.val)=li:=g4;simpa using g
 refine zE Z Z (fun g5=>?_) fun g5=>?_
 .have g5:e.op<1:=zT g5;rw[ot y (.inr (.inr (.inr (.inr (.inl g5)))))]
  repeat(refine gA Z (zI (fun q=>?_) (fun q=>?_));all_goals(try(simp at q;done)))
  refine gA Z (zL ?_);exact fV
 have g5: ¬e.op<1:=zF g5;refine zJ Z Z (fun g6=>?_) fun g6=>?_
 .have g6:e.op>6:=zT g6;rw[ot y (.inr (.inr (.inr (.inr (.inr g6)))))];refine gA Z (zL ?_);exact fV
 have g6: ¬e.op>6:=zF g6;rw[FW g1 g3 g4 g5 g6];refine gM 1 Z (lG [] (t:=⟨[(1,pI d),(2,.ptr 0 0),(4,.ptr 1 0)],[(0,jp (ak e.c1)),(1,jp (ak [iS Yp,.v (.bool li)]))],2⟩) (zW (zK (zK ac))) ?_);refine zJ Z Z (fun S=>?_) fun S=>?_
 .have S:e.op=6:=zT S;refine zJ Z Z (fun C=>?_) fun C=>?_
  .have C: ¬e.args.length=1:=by simp at C;omega
   rw[oe,am S,be C];refine gA Z (zL ?_);exact fV
  have C:e.args.length=1:=by simp at C;omega
  have hg:(aN e).ts<=_:=Expr.tL e.args 0 (by omega);have F:(aN e).ts<=900000000:=by omega
  have j:oe (kL m) e=(sM++(if FB (aN e)=lc then(⟨#[45,48]⟩:ByteArray) else(kL m (qo (aN e)) (aN e)).1),(kL m (qo (aN e)) (aN e)).2):=by rw[oe,am S,am C]
  have e1:(⟨#[45]⟩:ByteArray).size=1:=rfl;have e2:(⟨#[45,48]⟩:ByteArray).size=2:=rfl;have g0:=qR m lc (aN e);have f0:=qR m li (aN e);have e0:=qR m (lw ((aN e).val.num>0)) (aN e);refine zJ Z Z (fun hk=>?_) fun hk=>?_
  .have x:(aN e).kind=2:=zT hk;refine zE Z Z (fun hv=>?_) fun hv=>?_
   .have D: ¬(aN e).val.kind=1:=zF hv;have G:pM (aN e)=li:=by rw[pM,decide_eq_false D,Zv]
    rw[FB,qo,K3,G,Zm,Zm,Z9,be (by decide)]at j;refine gA Z (kR (Gf (aN e)) ?_);refine zE Z Z (fun u=>?_) fun u=>?_
    .have b: ¬bw (aN e)<3:=zF u;rw[decide_eq_false b]at j;rw[j];refine gA Z (kR (EG m A Y hB li (d-1) (by omega) (aN e) F) ?_);refine zJ Z Z (fun B=>?_) fun B=>?_
     .refine zJ Z Z (fun I=>?_) fun I=>?_
      .exact absurd (zT I) D
      exact zU Z
     .exact absurd x (zF B)
    .have b:bw (aN e)<3:=zT u;rw[decide_eq_true b]at j;rw[j];refine gA Z (kR (EG m A Y hB lc (d-1) (by omega) (aN e) F) ?_);refine zJ Z Z (fun B=>?_) fun B=>?_
     .refine zJ Z Z (fun I=>?_) fun I=>?_
      .exact absurd (zT I) D
      exact zU Z
     .exact absurd x (zF B)
   .have D:(aN e).val.kind=1:=zT hv;have G:pM (aN e)=lc:=by rw[pM,decide_eq_true D,decide_eq_true x];rfl
    rw[FB,qo,K3,G,Zc,Zc]at j;refine gA Z (kR (Gf (aN e)) ?_);refine zE Z Z (fun u=>?_) fun u=>?_
    .have b: ¬bw (aN e)<3:=zF u;rw[decide_eq_false b,Zt]at j;rw[j];refine gA Z (kR (EG m A Y hB (lw ((aN e).val.num>0)) (d-1) (by omega) (aN e) F) ?_);refine zJ Z Z (fun B=>?_) fun B=>?_
     .refine zJ Z Z (fun I=>?_) fun I=>?_
      .refine zJ Z Z (fun J=>?_) fun J=>?_
       .rw[am (show lw ((aN e).val.num=0)=lc from J)];exact zU Z
       .have J:lw ((aN e).val.num=0)=li:=J;rw[be (by rw[J];decide)];exact zU Z
      .exact absurd D (zF I)
     .exact absurd x (zF B)
    .have b:bw (aN e)<3:=zT u;rw[decide_eq_true b,aaK]at j;rw[j];refine gA Z (kR (EG m A Y hB lc (d-1) (by omega) (aN e) F) ?_);refine zJ Z Z (fun B=>?_) fun B=>?_
     .refine zJ Z Z (fun I=>?_) fun I=>?_
      .refine zJ Z Z (fun J=>?_) fun J=>?_
       .rw[am (show lw ((aN e).val.num=0)=lc from J)];exact zU Z
       .have J:lw ((aN e).val.num=0)=li:=J;rw[be (by rw[J];decide)];exact zU Z
      .exact absurd D (zF I)
     .exact absurd x (zF B)
  .have x: ¬(aN e).kind=2:=zF hk;have G:pM (aN e)=li:=by rw[pM,decide_eq_false x];rfl
   rw[FB,qo,K3,G,Zm,Zm,Z9,be (by decide)]at j;refine gA Z (kR (Gf (aN e)) ?_);refine zE Z Z (fun u=>?_) fun u=>?_
   .have b: ¬bw (aN e)<3:=zF u;rw[decide_eq_false b]at j;rw[j];refine gA Z (kR (EG m A Y hB li (d-1) (by omega) (aN e) F) ?_);refine zJ Z Z (fun B=>?_) fun B=>?_
    .exact absurd (zT B) x
    exact zU Z
   .have b:bw (aN e)<3:=zT u;rw[decide_eq_true b]at j;rw[j];refine gA Z (kR (EG m A Y hB lc (d-1) (by omega) (aN e) F) ?_);refine zJ Z Z (fun B=>?_) fun B=>?_
    .exact absurd (zT B) x
    exact zU Z
 .have S: ¬e.op=6:=zF S;refine zJ Z Z (fun C=>?_) fun C=>?_
  .have C: ¬e.args.length=2:=by simp at C;omega
   rw[oe,be S,be C];refine gA Z (zL ?_);exact fV
  have C:e.args.length=2:=by simp at C;omega
  have hg:(aN e).ts+(lg e).ts<=_:=Expr.wO e.args C;rw[oe,be S,am C];have c0:=qR m (lw (bw (aN e)<bw e)) (aN e);have d0:=qR m (lw (bw (lg e)<=bw e)) (lg e);have i0:=zz e.op;have b0:((kL m (lw (bw (aN e)<bw e)) (aN e)).1++xC e.op).size=(kL m (lw (bw (aN e)<bw e)) (aN e)).1.size+(xC e.op).size:=Zf;refine gA Z (kR (Gf (aN e)) ?_);refine gA Z (kR (Al.Pure.le (aa:=[ag e.c1]) (Gf e) ⟨e.IZ,ac⟩) ?_);refine gA Z (kR (EG m A Y hB (lw (bw (aN e)<bw e)) (d-1) (by omega) (aN e) (by omega)) ?_);refine gM 3 Z (lG [] (t:=⟨[(1,pI d),(2,.ptr 0 0),(4,.ptr 1 0),(9,.ptr 2 0)],[(0,jp (ak e.c1)),(1,jp (ak [iS Yp,.v (.bool li)])),(2,jp (ak (kL m (lw (bw (aN e)<bw e)) (aN e)).c))],3⟩) (zW (zK (zK (zK ac)))) ?_);refine gA Z (kR (Gf (lg e)) ?_);refine gA Z (kR (Al.Pure.le (aa:=[ag e.c1]) (Gf e) ⟨e.IZ,ac⟩) ?_);refine gA Z (kR (EG m A Y hB (lw (bw (lg e)<=bw e)) (d-1) (by omega) (lg e) (by omega)) ?_);refine gM 3 Z (lG [] (t:=⟨[(1,pI d),(2,.ptr 0 0),(4,.ptr 1 0),(9,.ptr 2 0),(10,.ptr 3 0)],[(0,jp (ak e.c1)),(1,jp (ak [iS Yp,.v (.bool li)])),(2,jp (ak (kL m (lw (bw (aN e)<bw e)) (aN e)).c)),(3,jp (ak (kL m (lw (bw (lg e)<=bw e)) (lg e)).c))],4⟩) (zW (zK (zK (zK (zK ac))))) ?_);refine gA Z (kR (Xn e.op) ?_);refine zE Z Z (fun q=>?_) fun q=>?_
  .have q:(kL m (lw (bw (aN e)<bw e)) (aN e)).2=li:=q;rw[q];exact zU Z
  .have q:(kL m (lw (bw (aN e)<bw e)) (aN e)).2=lc:=by simpa using q
   rw[q];refine gA Z (zL ?_)
   first
    |exact .agg ⟨.refl _,.of_eq (fx (by first|rfl|rw[q];rfl)),ac⟩
    |exact .agg ⟨.refl _,.rK (by first|rfl|rw[q];rfl),ac⟩
theorem MX: ∀n,n<=100->PT n∧PT (n+1)
 |0,_=>⟨MW 0 (by decide),MW 1 (by decide)⟩
 |n+1,h=>by
  obtain⟨d,b⟩:=MX n (by omega);exact⟨b,Qv n (by omega) d b⟩
theorem T7(e:Expr)(b:e.ts<=900000000):Pure prog 280 [ag e.c,pI 16] (ag (bL 17 e).c):=(MX 17 (by decide)).1 16 e Z b
theorem Xr(a:Atom):Pure prog 277 [ag a.c] (pB (fP a)):=by
 refine ad ab func277 Z (by decide) ntmps277 Z (by simp) Z ?_
 repeat' (first|(refine gA Z (zI (fun _=>?_) (fun _=>?_)))|(refine gA Z (zL (.of_eq ?_))))
 all_goals(refine(fx ?_:pB _=pB _))
 all_goals(simp only[fP, *];rfl)
theorem Qj(e:Expr):Pure prog 278 [ag e.c] (pB (c8 e)):=by
 refine ad ab func278 Z (by decide) ntmps278 Z (by simp) Z ?_
 repeat' (first|(refine gA Z (zI (fun _=>?_) (fun _=>?_)))|(refine gA Z (zL (.of_eq ?_))))
 all_goals(refine(fx ?_:pB _=pB _))
 all_goals(simp only[c8,cQ, *];rfl)
theorem Xq(g:fa):Pure prog 279 [ag g.c] (pB (js g)):=by
 refine ad ab func279 Z (by decide) ntmps279 Z (by simp) Z ?_
 repeat' (first|(refine gA Z (zI (fun _=>?_) (fun _=>?_)))|(refine gA Z (zp (Qj g.ef) ?_))|(refine gA Z (zL (.of_eq ?_))))
 all_goals(refine(fx ?_:pB _=pB _))
 all_goals(simp only[js, *];rfl)
theorem Xp(op:Int):Pure prog 281 [pI op] (pS (qJ op)):=by
 refine ad ab func281 Z (by decide) ntmps281 Z (by simp) Z ?_
 repeat' (first|(refine gA Z (zI (fun _=>?_) (fun _=>?_)))|(refine gA Z (zL (.of_eq ?_))))
 all_goals(refine congrArg pS ?_;simp_all [qJ])
theorem Xm(f:Int):Pure prog 294 [pI f] (pS (fG f)):=by
 refine ad ab func294 Z (by decide) ntmps294 Z (by simp) Z ?_
 repeat' (first|(refine gA Z (zI (fun _=>?_) (fun _=>?_)))|(refine gA Z (zL (.of_eq ?_))))
 all_goals(refine congrArg pS ?_;simp_all [fG])
theorem wx(a b:ByteArray):(a++b).size=a.size+b.size:=Zf
theorem Um:(⟨#[]⟩:ByteArray).size=0:=rfl
theorem vT{f:Lit->nU}{l:List Lit}{i:Nat}(h:cA f l i=nS): ∀k,cA f l (i+k)=nS
 |0=>h
 |k+1=>by
  rw[<-ZR,cA,vT h k];exact am Z
theorem FJ{f:Lit->nU}{l:List Lit}{i:Nat}(h:(cA f l i).2=li)(hi:i<l.length)(hf:(f (l.getD i io)).2=lc):cA f l l.length=nS:=by
 have e:cA f l (i+1)=nS:=by rw[cA,be (by rw[h];decide),am hf]
 have:=vT e (l.length-(i+1));rwa[show i+1+(l.length-(i+1))=l.length by omega]at this
theorem DJ{f:Lit->nU}{l:List Lit}{i:Nat}(h:(cA f l i).2=li)(hf:(f (l.getD i io)).2=li):cA f l (i+1)=((if(i:Int)>0 then(cA f l i).1++wD else(cA f l i).1)++(f (l.getD i io)).1,li):=by
 rw[cA,be (by rw[h];decide),be (by rw[hf];decide)]
theorem CE: ∀(l:List Lit) (i:Nat),i<l.length->Lit.lJ (l.take (i+1))=Lit.lJ (l.take i)+(l.getD i io).ts
 | [],i,h=>by simp at h
 |s::r,0,_=>by simp[Lit.lJ]
 |s::r,i+1,h=>by
  have:=CE r i (by simpa using h);simp only[ZF,ZE,Lit.lJ,this];omega
theorem o6{f:Lit->nU}{l:List Lit}(hf: ∀i,i<l.length->(f (l.getD i io)).1.size+2<=(l.getD i io).ts): ∀i,i<=l.length->(cA f l i).1.size<=Lit.lJ (l.take i)
 |0,_=>by show(⟨#[]⟩:ByteArray).size<=_;rw[Um];exact Yl _
 |i+1,h=>by
  have b:=o6 hf i (by omega);have d:=hf i (by omega);have j:wD.size=2:=rfl;rw[CE l i (by omega),cA];split
  .show(⟨#[]⟩:ByteArray).size<=_;rw[Um];exact Yl _
  split
  .show(⟨#[]⟩:ByteArray).size<=_;rw[Um];exact Yl _
  .show((if(i:Int)>0 then(cA f l i).1++wD else(cA f l i).1)++(f (l.getD i io)).1).size<=_;rw[wx];split
   .rw[wx];omega
   .omega
theorem Ba(a:Atom):(fj a).1.size<=a.ts:=by
 have b:=pt a a.ae.length (Ym _);rw[Yn (Ym _)]at b;have d:a.ts=a.rel.size+10+(a.ae.map Term.ts).sum:=rfl;have j:sC.size=1:=rfl;show((eM a a.ae.length).1++sC).size<=_;rw[wx];omega
theorem CL(a:Atom):a.ae.length<=a.ts:=by
 have b:a.ts=a.rel.size+10+(a.ae.map Term.ts).sum:=rfl;have: ∀l:List Term,l.length<=(l.map Term.ts).sum:=by
  intro l
  induction l with
  |nil=>exact Ym _
  |cons x r ih=>
   have:x.ts=x.var.size+310:=rfl;simp only[YT,Yz,aaa];omega
 have:=this a.ae;omega
theorem Pr(a:fa):(II a).1.size<=a.var.size+a.ef.ts+14:=by
 have u:=uw a.func;have x:=fB 17 a.ef;have b:pX.size=3:=rfl;have d:pY.size=3:=rfl;have j:EY.size=3:=rfl;unfold II;split
 .show(((a.var++pX)++fG a.func)++pY).size<=_;rw[wx,wx,wx];omega
 .show(((((a.var++pX)++fG a.func)++pY)++(bL 17 a.ef).1)++EY).size<=_;rw[wx,wx,wx,wx,wx];omega
theorem MT{f:Lit->nU}{a:fa}{br:Int}(hf: ∀i,i<a.body.length->(f (a.body.getD i io)).1.size+2<=(a.body.getD i io).ts):(px f a br).1.size<=a.var.size+a.ef.ts+Lit.lJ a.body+16:=by
 have j:=Pr a;have b:=o6 hf a.body.length (Ym _);rw[Yn (Ym _)]at b;have d:wC.size=2:=rfl;unfold px;split
 .show(⟨#[]⟩:ByteArray).size<=_;rw[Um];exact Yl _
 .show(((II a).1++(cA f a.body a.body.length).1)++wC).size<=_;rw[wx,wx];omega
theorem Ap: ∀(n:Nat) (br:Int) (l:Lit),(fz n br l).1.size+2<=l.ts
 |0,_,l=>by
  have:=l.mh;show(⟨#[]⟩:ByteArray).size+2<=_;rw[Um];omega
 |n+1,br,l=>by
  have h:=l.mh;have d:=Ba l.atom;have j:=fB 17 l.left;have u:=fB 17 l.right;have x:=yE l.op;have y:=MT (f:=fz n (br-1)) (a:=l.agg) (br:=br) fun i _=>Ap n (br-1) _;have A:l.agg.var.size+l.agg.ef.ts+Lit.lJ l.agg.body=l.bp.size+l.kQ.ts+Lit.lJ l.au:=rfl;have b:xF.size=4:=rfl;rw[fz];unfold jY;split
  .show(if l.kind=2 then xF++(fj l.atom).1 else(fj l.atom).1).size+2<=_;split
   .rw[wx];omega
   .omega
  split
  .show(((bL 17 l.left).1++qJ l.op)++(bL 17 l.right).1).size+2<=_;rw[wx,wx];omega
  split
  .show(px (fz n (br-1)) l.agg br).1.size+2<=_;omega
  .show(⟨#[]⟩:ByteArray).size+2<=_;rw[Um];omega
theorem Xl(f:Lit->nU)(l:List Lit)(br:Int)(hc: ∀i,i<l.length->Pure prog 268 [ag (l.getD i io).c,pI br] (ag (f (l.getD i io)).c))(hf: ∀i,i<l.length->(f (l.getD i io)).1.size+2<=(l.getD i io).ts)(D:Lit.lJ l<=900000000):Pure prog 295 [.iv (lits l),pI br] (ag (cA f l l.length).c):=by
 refine p6 (bN func295 Z (by decide)) ⟨_,_,Yy⟩ fun j=>?_;simp only[maxLen]at j;refine ad ab func295 Z (by decide) ntmps295 Z (by simp) Z ?_;refine gA Z ?_
 refine ar 0 l.length (Yl _) (fun i=>⟨[(0,.iv (lits l)),(1,pI br),(4,.ptr 0 0),(5,.ptr 1 0),(6,pI i)],[(0,jp (.cells [pS Yp,pB li])),(1,jp (.cells [pS (cA f l i).1,pB li]))],2⟩) (fun i=>(cA f l i).2=li) [] Z
  (zW (zO (zO trivial))) fun i y u=>?_
 refine zE Z Z (fun b=>?_) fun b=>?_
 .have b:l.length<=i:=zG b;have x:i=l.length:=by omega
  subst x;refine gA Z (zL ?_);exact .agg ⟨.refl _,.of_eq (fx u.symm),ac⟩
 have b:i<l.length:=zN b;have A:=o6 hf i y;have B:=hf i b;have C:=Lit.tJ l i b;have F:(⟨#[44,32]⟩:ByteArray).size=2:=rfl;have G:=wx (cA f l i).1 ⟨#[44,32]⟩;refine gA Z (zp (hc i b) ?_);refine zJ Z Z (fun g=>?_) fun g=>?_
 .have g:(f (l.getD i io)).2=lc:=g;rw[FJ u b g];refine gA Z (zL ?_);exact fV
 have g:(f (l.getD i io)).2=li:=by simpa using g
 have d:=DJ u g;refine zJ Z Z (fun k=>?_) fun k=>?_
 .have k:(i:Int)>0:=zT k;rw[am k]at d;refine gA Z ⟨b,by rw[d],[],zW (zO ⟨⟨_,rfl,.cells ⟨.of_eq (congrArg pS (by rw[d];rfl)),.refl _,ac⟩⟩,Yd Z,rfl,ac⟩)⟩
 .have k: ¬(i:Int)>0:=zF k;rw[be k]at d;refine gA Z ⟨b,by rw[d],[],zW (zO ⟨⟨_,rfl,.cells ⟨.of_eq (congrArg pS (by rw[d])),.refl _,ac⟩⟩,Yd Z,rfl,ac⟩)⟩
set_option maxHeartbeats 2000000 in
theorem Xo(f:Lit->nU)(a:fa)(br:Int)(hb:br<=16)(hc:1<=br-> ∀i,i<a.body.length->Pure prog 268 [ag (a.body.getD i io).c,pI (br-1)] (ag (f (a.body.getD i io)).c))(hf: ∀i,i<a.body.length->(f (a.body.getD i io)).1.size+2<=(a.body.getD i io).ts)(x:a.var.size+a.ef.ts+Lit.lJ a.body<=900000000):Pure prog 282 [ag a.c,pI br] (ag (px f a br).c):=by
 have j:=uw a.func;have u:=fB 17 a.ef;have d:=o6 hf a.body.length (Ym _);rw[Yn (Ym _)]at d;have A:(⟨#[32,61,32]⟩:ByteArray).size=3:=rfl;have B:(⟨#[32,123,32]⟩:ByteArray).size=3:=rfl;have C:(⟨#[32,58,32]⟩:ByteArray).size=3:=rfl;have D:(⟨#[32,125]⟩:ByteArray).size=2:=rfl;have G:=wx a.var ⟨#[32,61,32]⟩;have I:=wx (a.var++⟨#[32,61,32]⟩) (fG a.func);have J:=wx ((a.var++⟨#[32,61,32]⟩)++fG a.func) ⟨#[32,123,32]⟩;have S:=wx (((a.var++⟨#[32,61,32]⟩)++fG a.func)++⟨#[32,123,32]⟩) (bL 17 a.ef).1;have Y:=wx ((((a.var++⟨#[32,61,32]⟩)++fG a.func)++⟨#[32,123,32]⟩)++(bL 17 a.ef).1) ⟨#[32,58,32]⟩;have s6:=wx (((((a.var++⟨#[32,61,32]⟩)++fG a.func)++⟨#[32,123,32]⟩)++(bL 17 a.ef).1)++⟨#[32,58,32]⟩) (cA f a.body a.body.length).1;have s7:=wx (((a.var++⟨#[32,61,32]⟩)++fG a.func)++⟨#[32,123,32]⟩) (cA f a.body a.body.length).1;refine Al.Pure.le (aa:=[ag a.c,pI br]) (args:=[ag a.c1,pI br]) ?_ ⟨a.x9,.refl _,ac⟩;refine ad ab func282 Z (by decide) ntmps282 Z (by simp) Z ?_;refine zE Z Z (fun g1=>?_) fun g1=>?_
 .have g1:a.func<1:=zT g1;rw[px,am (.inl g1)]
  repeat(refine gA Z (zI (fun q=>?_) (fun q=>?_));all_goals(try(simp at q;done)))
  refine gA Z (zL ?_);exact fV
 have g1: ¬a.func<1:=zF g1;refine zE Z Z (fun g2=>?_) fun g2=>?_
 .have g2:a.func>4:=zT g2;rw[px,am (.inr (.inl g2))]
  repeat(refine gA Z (zI (fun q=>?_) (fun q=>?_));all_goals(try(simp at q;done)))
  refine gA Z (zL ?_);exact fV
 have g2: ¬a.func>4:=zF g2;refine zE Z Z (fun g3=>?_) fun g3=>?_
 .have g3:br<1:=zT g3;rw[px,am (.inr (.inr (.inl g3)))]
  repeat(refine gA Z (zI (fun q=>?_) (fun q=>?_));all_goals(try(simp at q;done)))
  refine gA Z (zL ?_);exact fV
 have g3: ¬br<1:=zF g3;refine zJ Z Z (fun g4=>?_) fun g4=>?_
 .have g4:(a.body.length:Int)=0:=zT g4;rw[px,am (.inr (.inr (.inr g4)))];refine gA Z (zL ?_);exact fV
 have g4: ¬(a.body.length:Int)=0:=zF g4;have y:px f a br=(((II a).1++(cA f a.body a.body.length).1)++wC,(II a).2||(cA f a.body a.body.length).2):=by rw[px,be (by omega)]
 have b:=Xl f a.body (br-1) (hc (by omega)) hf (by omega);rw[y];refine gA Z (zp (V9 a.var (by omega)) ?_);refine gA Z (kR (Xm a.func) ?_);refine zJ Z Z (fun g5=>?_) fun g5=>?_
 .have g5:a.func=1:=zT g5;have hO:II a=(((a.var++pX)++fG a.func)++pY,!ey a.var||!c8 a.ef):=am g5;rw[hO];clear u y hO hf hc
  repeat' (first
   |(refine gA Z (zI (fun q=>?_) (fun q=>?_)))
   |(refine gA Z (bn (Qj a.ef) Z Z Z Z Z Z ?_))
   |(refine gA Z (bn b Z Z Z Z Z Z ?_)))
  all_goals(refine gA Z (zL ?_))
  all_goals clear j d A B C D G I J S Y s6 s7 x b
  all_goals first
   |refine .agg ⟨.of_eq Z,.of_eq (fx ?_),ac⟩
   |refine .agg ⟨.of_eq Z,.rK ?_,ac⟩
  all_goals simp_all
 .have g5: ¬a.func=1:=zF g5;have hO:II a=(((((a.var++pX)++fG a.func)++pY)++(bL 17 a.ef).1)++EY,!ey a.var||(bL 17 a.ef).2):=be g5;rw[hO];have F:=T7 a.ef (by omega);clear y hO hf hc
  repeat' (first
   |(refine gA Z (zI (fun q=>?_) (fun q=>?_)))
   |(refine gA Z (bn F Z Z Z Z Z Z ?_))
   |(refine gA Z (bn b Z Z Z Z Z Z ?_)))
  all_goals(refine gA Z (zL ?_))
  all_goals clear j u d A B C D G I J S Y s6 s7 x b F
  all_goals first
   |refine .agg ⟨.of_eq Z,.of_eq (fx ?_),ac⟩
   |refine .agg ⟨.of_eq Z,.rK ?_,ac⟩
  all_goals simp_all
set_option maxHeartbeats 4000000 in
theorem V8: ∀(n:Nat) (l:Lit) (br:Int),l.size<=n->br<=16->l.ts<=900000000->Pure prog 268 [ag l.c,pI br] (ag (fz n br l).c)
 |0,l,_,h,_,_=>absurd l.size_pos (by omega)
 |n+1,l,br,hs,hb,hts=>by
  have J:=l.size_eq;have I:=l.mh;have G:=CL l.atom;have j:=Ba l.atom;have u:=fB 17 l.left;have x:=fB 17 l.right;have y:=yE l.op;have F:(⟨#[110,111,116,32]⟩:ByteArray).size=4:=rfl;have S:=wx (bL 17 l.left).1 (qJ l.op)
  have d:=Xo (fz n (br-1)) l.agg br hb (fun _ i Y=>by
   have Y:i<l.au.length:=Y;have h1:=Lit.aS l.au i Y;have h2:=l.left.size_pos;have h3:=Lit.tJ l.au i Y
   exact V8 n (l.au.getD i io) (br-1) (by omega) (by omega) (by omega)) (fun i _=>Ap n (br-1) _) (by show l.bp.size+l.kQ.ts+Lit.lJ l.au<=_;omega)
  rw[fz];refine ad ab func268 Z (by decide) ntmps268 Z (by simp) Z ?_;refine gA Z (zp (Xr l.atom) ?_);refine gA Z (zp (Qj l.left) ?_);refine gA Z (zp (Qj l.right) ?_);refine gA Z (zp (Xq l.agg) ?_);refine gM 2 Z (go_cut 1 (fun(_:Unit)=>⟨[(1,pI br),(2,.ptr 0 0),(4,.ptr 1 0),(5,pB (fP l.atom)),(8,pB (js l.agg)),(9,pB (jl l))],[(0,jp (ak l.c)),(1,jp (.cells [pS Yp,pB li]))],2⟩) Z ?_ ?_)
  .repeat' (first
    |(refine gA Z (zI (fun q=>?_) (fun q=>?_)))
    |fail)
   all_goals(refine gA Z (eL () [] (zM (bv (bv (bv (bv (bv ⟨?_,rfl,ac⟩))))) (zK (zO ac)))))
   all_goals clear j u x y F S d I J G hts hs
   all_goals first
    |refine .of_eq (fx ?_)
    |refine .rK ?_
   all_goals simp_all [jl]
  rintro⟨⟩;have b:jY (fz n) br l=jY (fz n) br l:=rfl;refine zJ Z Z (fun k1=>?_) fun k1=>?_
  .have k1:l.kind=1:=zT k1;have b:jY (fz n) br l=((fj l.atom).1,(fj l.atom).2||(!jl l||!js l.agg)):=by unfold jY;rw[am (.inl k1),be (by omega)]
   rw[b];refine gA Z (zp (T8 l.atom (by omega) (by omega)) ?_);clear b;generalize fP l.atom=NA at*
   generalize js l.agg=NG at*
   generalize jl l=SD at*
   repeat' (first
    |(refine gA Z (zI (fun q=>?_) (fun q=>?_)))
    |fail)
   all_goals first
    |(exfalso;simp_all;done)
    |skip
   all_goals(refine gA Z (zL ?_))
   all_goals clear j u x y F S d I J G hts hs
   all_goals first
    |refine .agg ⟨.of_eq Z,.of_eq (fx ?_),ac⟩
    |refine .agg ⟨.of_eq Z,.rK ?_,ac⟩
   all_goals simp_all
  have k1: ¬l.kind=1:=zF k1;refine zJ Z Z (fun C=>?_) fun C=>?_
  .have C:l.kind=2:=zT C;have b:jY (fz n) br l=(xF++(fj l.atom).1,(fj l.atom).2||(!jl l||!js l.agg)):=by unfold jY;rw[am (.inr C),am C]
   rw[b];refine gA Z (zp (T8 l.atom (by omega) (by omega)) ?_);clear b;generalize fP l.atom=NA at*
   generalize js l.agg=NG at*
   generalize jl l=SD at*
   repeat' (first
    |(refine gA Z (zI (fun q=>?_) (fun q=>?_)))
    |fail)
   all_goals first
    |(exfalso;simp_all;done)
    |skip
   all_goals(refine gA Z (zL ?_))
   all_goals clear j u x y F S d I J G hts hs
   all_goals first
    |refine .agg ⟨.of_eq Z,.of_eq (fx ?_),ac⟩
    |refine .agg ⟨.of_eq Z,.rK ?_,ac⟩
   all_goals simp_all
  have C: ¬l.kind=2:=zF C;have B: ¬(l.kind=1∨l.kind=2):=by omega
  refine zJ Z Z (fun A=>?_) fun A=>?_
  .have A:l.kind=3:=zT A;have b:jY (fz n) br l=(((bL 17 l.left).1++qJ l.op)++(bL 17 l.right).1,(bL 17 l.left).2||((bL 17 l.right).2||(!fP l.atom||(!js l.agg||(lw (l.op<1)||decide (l.op>6)))))):=by unfold jY;rw[be B,am A]
   rw[b];refine gA Z (zp (T7 l.left (by omega)) ?_);refine gA Z (zp (T7 l.right (by omega)) ?_);refine gA Z (kR (Xp l.op) ?_);clear b;generalize fP l.atom=NA at*
   generalize js l.agg=NG at*
   generalize jl l=SD at*
   repeat' (first
    |(refine gA Z (zI (fun q=>?_) (fun q=>?_)))
    |fail)
   all_goals(refine gA Z (zL ?_))
   all_goals clear j u x y F S d I J G hts hs
   all_goals first
    |refine .agg ⟨.of_eq Z,.of_eq (fx ?_),ac⟩
    |refine .agg ⟨.of_eq Z,.rK ?_,ac⟩
   all_goals(simp_all<;>omega)
  have A: ¬l.kind=3:=zF A;refine zJ Z Z (fun D=>?_) fun D=>?_
  .have D:l.kind=4:=zT D;have b:jY (fz n) br l=((px (fz n (br-1)) l.agg br).1,(px (fz n (br-1)) l.agg br).2||(!fP l.atom||!jl l)):=by unfold jY;rw[be B,be A,am D]
   rw[b];refine gA Z (zp (d) ?_);clear b;generalize fP l.atom=NA at*
   generalize js l.agg=NG at*
   generalize jl l=SD at*
   repeat' (first
    |(refine gA Z (zI (fun q=>?_) (fun q=>?_)))
    |fail)
   all_goals(refine gA Z (zL ?_))
   all_goals clear j u x y F S d I J G hts hs
   all_goals first
    |refine .agg ⟨.of_eq Z,.of_eq (fx ?_),ac⟩
    |refine .agg ⟨.of_eq Z,.rK ?_,ac⟩
   all_goals simp_all
  .have D: ¬l.kind=4:=zF D;have b:jY (fz n) br l=nS:=by unfold jY;rw[be B,be A,be D]
   rw[b];refine gA Z (zL ?_);exact fV
theorem XB(l:Lit)(b:l.ts<=900000000):Pure prog 250 [ag l.c] (.bX [pS (if(pH l).2=lc then⟨#[]⟩ else(pH l).1),pI (if(pH l).2=lc then 50 else 0)]):=by
 refine ad ab func250 Z (by decide) ntmps250 Z (by simp) Z ?_;refine gA Z (zp (V8 l.size l 16 (Ym _) (by decide) b) ?_);refine gA Z (zp (Wj (pH l)) ?_);exact zU Z
theorem XK(l:Lit)(b:l.ts<=900000000):Pure prog 233 [ag l.c] (pB (!(pH l).2)):=by
 refine ad ab func233 Z (by decide) ntmps233 Z (by simp) Z ?_;refine gA Z (zp (XB l b) ?_);refine gA Z (zL (.of_eq ?_));refine(fx ?_:pB _=pB _);cases(pH l).2<;>rfl
theorem Lit.Vy(l:Lit):ni (l.c.map .iv) (l.c1.map .iv):=
 ⟨.refl _,.refl _,.refl _,.refl _,.refl _,.refl _,.refl _,.refl _,.refl _,.refl _,.refl _,.refl _,.refl _,.refl _,.refl _,.refl _,.refl _,.refl _,.refl _,.refl _,.refl _,.refl _,.refl _,.refl _,.refl _,.refl _,.refl _,.iv (ly _),.refl _,.refl _,ac⟩
theorem hCL{n i:Nat}{σ:Nat->Nat}{h r:AH}{cs:List PV}{T0:Option TypeId}{c:List IV}(ho:h.get (σ i)=jp (.cells cs T0))(he:ni cs (c.map .iv))(hi:YD i n=lc)(hr:qY n σ h r):qY n σ h ((i,jp (ak c))::r):=
 ⟨⟨_,ho,by rw[tB];exact .trans (.QK cs T0) (.cells he)⟩,Yd hi,oF n c,hr⟩
theorem Wd(l:Lit):Pure prog 251 [ag l.c] (.iv (cT 2 (b5 l) Atom.c)):=by
 refine ad ab func251 Z (by decide) ntmps251 Z (by simp) Z ?_;refine zJ Z Z (fun k1=>?_) fun k1=>?_
 .have k1: ¬l.kind=1:=zF k1;refine zJ Z Z (fun b=>?_) fun b=>?_
  .have b:l.kind=2:=zT b;have e:b5 l=[l.atom]:=am (.inr b);refine gA Z (cG (by first|exact .inr Z|exact .inl Z) Z Z (by rw[e];rfl) (by rw[e];rfl))
  .have b: ¬l.kind=2:=zF b;have e:b5 l=[]:=be (by omega);rw[e];refine gA Z (zL ?_);exact .nil _ _
 .have k1:l.kind=1:=zT k1;have e:b5 l=[l.atom]:=am (.inl k1)
  repeat(refine gA Z (zI (fun q=>?_) (fun q=>?_));all_goals(try(simp at q;done)))
  refine gA Z (cG (by first|exact .inr Z|exact .inl Z) Z Z (by rw[e];rfl) (by rw[e];rfl))
theorem Wi(r:aq)(lit:Int)(h1:lit<r.body.length)(hb:r.size<=100000000):Pure prog 234 [ag r.c,pI lit] (.iv (cT 2 (bs r lit) Atom.c)):=by
 have A:=Lit.ax r.body;have S:Lit.aA r.body<=r.size:=ZX _ _;refine ad ab func234 Z (by decide) ntmps234 Z (by simp) Z ?_;refine zJ Z Z (fun b=>?_) fun b=>?_
 .have b:lit<0:=by simpa using b
  refine gA Z (cG (by first|exact .inr Z|exact .inl Z) Z Z (by rw[bs,am b];rfl) (by rw[bs,am b];rfl))
 have b: ¬lit<0:=by simpa using b
 have B:lit.toNat<r.body.length:=by omega
 have y:=Lit.aS r.body lit.toNat B;have G:=(ah r lit).size_eq;have I:=Lit.ax (ah r lit).au;have D:(ah r lit).size<=Lit.aA r.body:=y;refine zJ Z Z (fun u=>?_) fun u=>?_
 .have u: ¬(ah r lit).kind=4:=by simpa[ah]using u
  have j:bs r lit=b5 (ah r lit):=by rw[bs,be b,o7,be u];simp
  rw[j];refine gA Z (zp (Wd (ah r lit)) ?_);exact zU Z
 have u:(ah r lit).kind=4:=by simpa[ah]using u
 have j:bs r lit=(ah r lit).au.flatMap b5:=by rw[bs,be b,o7,am u]
 refine gA Z ?_;refine dF 6 2 Z ?_;refine ar 0 (ah r lit).au.length (Yl _) (fun i=>⟨[(5,.ptr 1 0),(6,.sl 3 0 (((ah r lit).au.take i).flatMap b5).length 2),(7,pI i)],[(1,jp (ak (ah r lit).c1)),(3,jp (aC 2 (((ah r lit).au.take i).flatMap b5) Atom.c))],4⟩) (fun _=>True) [2] ac
  (zW (hCL Z (ah r lit).Vy Z (zS trivial))) fun i Y _=>?_
 have F:=mB ((ah r lit).au.take i);have J:((ah r lit).au.take i).length<=(ah r lit).au.length:=by rw[YV];exact Nat.min_le_right _ _
 refine zJ Z Z (fun d=>?_) fun d=>?_
 .have d:i<(ah r lit).au.length:=zN d;have x:=cm (f:=b5) d;have C:(b5 ((ah r lit).au.getD i io)).length<=1:=by unfold b5;split<;>simp
  refine gA Z (zp (Wd ((ah r lit).au.getD i io)) ?_);refine gA Z ?_
  first
   |exact⟨d,ac,[4],zM (bv ⟨.row (by rw[x,Yg]),rfl,bv ac⟩) (zK (hR Z (by rw[oO,x,Yk]) Z ac))⟩
   |exact⟨d,ac,[5],zM (bv ⟨.row (by rw[x,Yg]),rfl,bv ac⟩) (zK (hR Z (by rw[oO,x,Yk]) Z ac))⟩
 .have d:(ah r lit).au.length<=i:=zG d;rw[Yn d] at*
  refine gA Z (cG (by first|exact .inr Z|exact .inl Z) Z Z (by rw[j]) (by rw[j]))
theorem XJ(r:aq)(lit:Int)(h1:lit<r.body.length)(hb:r.size<=100000000):Pure prog 236 [ag r.c,pI lit] (pB (dH r lit)):=by
 have D:=Lit.ax r.body;have Y:Lit.aA r.body<=r.size:=ZX _ _;have B:r.size=r.head.ae.length+Lit.aA r.body:=rfl;refine ad ab func236 Z (by decide) ntmps236 Z (by simp) Z ?_;refine zJ Z Z (fun d=>?_) fun d=>?_
 .have d:lit<0:=by simpa using d
  have y:dH r lit=r.head.ae.any fun x=>lw (x.kind=3):=am d;refine gA Z ?_
  refine ar 0 r.head.ae.length (Yl _) (fun i=>⟨[(2,.ptr 0 0),(5,pI i)],[(0,jp (ak r.c))],1⟩) (fun i=>(r.head.ae.take i).any (fun x=>lw (x.kind=3))=li) [] (by simp)
   (zW (zK trivial)) fun i F u=>?_
  refine zJ Z Z (fun b=>?_) fun b=>?_
  .have b:i<r.head.ae.length:=zN b;refine zJ Z Z (fun g=>?_) fun g=>?_
   .rw[y,ji b g];exact zU Z
   .refine gA Z ?_;exact⟨b,(a7 u b).2 g,[],zW (zK ac)⟩
  .have b:r.head.ae.length<=i:=zG b;rw[y,any_none u b];exact zU Z
 have d: ¬lit<0:=by simpa using d
 have G:lit.toNat<r.body.length:=by omega
 have A:=Lit.aS r.body lit.toNat G;have J:=(ah r lit).size_eq;have S:=Lit.ax (ah r lit).au;have C:=(ah r lit).fC;have I:(ah r lit).size<=Lit.aA r.body:=A;refine zJ Z Z (fun j=>?_) fun j=>?_
 .have j: ¬(ah r lit).kind=4:=by simpa[ah]using j
  rw[dH,be d,be j];exact zU Z
 have j:(ah r lit).kind=4:=by simpa[ah]using j
 have y:dH r lit=((ah r lit).au.any (fun x=>lw (x.kind=4))||ch (aF (ah r lit).agg) (ah r lit).bp):=by
  rw[dH,be d,am j,vq (fun x=>iz)]
 refine gA Z ?_;refine ar 0 (ah r lit).au.length (Yl _) (fun i=>⟨[(6,.ptr 1 0),(7,pI i)],[(1,jp (ak (ah r lit).c1))],2⟩) (fun i=>((ah r lit).au.take i).any (fun x=>lw (x.kind=4))=li) [] (by simp)
  (zW (hCL Z (ah r lit).Vy Z trivial)) fun i F u=>?_
 refine zJ Z Z (fun b=>?_) fun b=>?_
 .have b:i<(ah r lit).au.length:=zN b;refine zJ Z Z (fun g=>?_) fun g=>?_
  .rw[y,ji b g];exact zU Z
  .refine gA Z ?_;exact⟨b,(a7 u b).2 g,[],zW (zK ac)⟩
 .have b:(ah r lit).au.length<=i:=zG b;rw[y,any_none u b,Zt];refine gA Z (zp (Al.Pure.le (aa:=[ag (ah r lit).agg.c1]) (V1 (ah r lit).agg (by omega)) ⟨fa.IZ _,ac⟩) ?_);refine gA Z (zp (Js (aF (ah r lit).agg) (ah r lit).bp) ?_);exact zU Z
theorem yO(r:aq)(lit:Int)(h1:lit<r.body.length):(bs r lit).length<=1+Lit.aA r.body:=by
 unfold bs;split
 .show 1<=_;omega
 .rename_i x;have A:=mB (o7 r lit);have b:=Lit.aS r.body lit.toNat (by omega);have j:=(ah r lit).size_eq;have u:=Lit.ax (ah r lit).au;have d:(ah r lit).size<=Lit.aA r.body:=b;have y:(o7 r lit).length<=1+(ah r lit).au.length:=by
   unfold o7;split
   .omega
   .show 1<=_;omega
  omega
theorem Ff(r:aq)(lit:Int)(h1:lit<r.body.length):(lq r lit).length<=1+r.size:=by
 have d:r.size=r.head.ae.length+Lit.aA r.body:=rfl;unfold lq;split
 .have:=iG r.head;omega
 .rename_i x;have b:=Lit.aS r.body lit.toNat (by omega);have u:(ah r lit).size<=Lit.aA r.body:=b;have j:=(ah r lit).fC;split
  .have g1:=jA (aF (ah r lit).agg) (ah r lit).bp;have g2:=jc (ah r lit).agg;omega
  .have:=gk (ah r lit);omega
theorem XH(r:aq)(lit:Int)(h1:lit<r.body.length)(hb:r.size<=100000000):Pure prog 237 [ag r.c,pI lit] (pB (dQ r lit)):=by
 have G:=Lit.ax r.body;have h0:Lit.aA r.body<=r.size:=ZX _ _;have C:r.size=r.head.ae.length+Lit.aA r.body:=rfl;rw[<-Lb r lit h1];refine ad ab func237 Z (by decide) ntmps237 Z (by simp) Z ?_;refine gA Z (zp (Us r (by omega)) ?_);refine gA Z (zp (c32 r (by omega)) ?_);refine gM 2 Z (go_cut 3 (fun(_:Unit)=>⟨[(5,.iv (strs (outer r))),(6,.iv (strs (kY r))),(7,.iv (strs (lq r lit))),(8,.iv (strs (nO r lit)))],[],1⟩) Z ?_ ?_)
 .refine zJ Z Z (fun d=>?_) fun d=>?_
  .have d:lit<0:=zT d;have y:lq r lit=dE r.head:=am d;have x:nO r lit=[]:=am d;rw[y,x];refine gA Z (zp (Ur r.head (by omega)) ?_);refine gA Z (eL () [] (zM (bv (bv (bv ⟨.nil _ _,rfl,ac⟩))) ac))
  have d: ¬lit<0:=zF d;have J:lit.toNat<r.body.length:=by omega
  have B:=Lit.aS r.body lit.toNat J;have F:=(ah r lit).fC;have Y:(ah r lit).size<=Lit.aA r.body:=B;refine gA Z (zp (WG (ah r lit) (by omega)) ?_);refine zJ Z Z (fun j=>?_) fun j=>?_
  .have j:(ah r lit).kind=4:=zT j;have y:lq r lit=bZ (aF (ah r lit).agg) (ah r lit).bp:=by unfold lq;rw[be d,am j]
   have x:nO r lit=mH r lit:=by unfold nO;rw[be d,am j]
   have I:=jc (ah r lit).agg;rw[y,x];refine gA Z (zp (V1 (ah r lit).agg (by omega)) ?_);refine gA Z (zp (Na (aF (ah r lit).agg) (ah r lit).bp (by omega)) ?_);refine gA Z (zp (XA r lit (by omega) h1 (by omega)) ?_);refine gA Z (eL () [] (zW ac))
  .have j: ¬(ah r lit).kind=4:=zF j;have y:lq r lit=cq (ah r lit):=by unfold lq;rw[be d,be j]
   have x:nO r lit=[]:=by unfold nO;rw[be d,be j]
   rw[y,x];refine gA Z (eL () [] (zM (bv (bv (bv ⟨.nil _ _,rfl,ac⟩))) ac))
 rintro⟨⟩;have a0:=Ff r lit h1;have D:FG r lit=(lq r lit).any (AP r (nO r lit)):=rfl;rw[D];generalize lq r lit=S at*
 generalize nO r lit=K at*
 refine gA Z ?_;refine ar 0 S.length (Yl _) (fun i=>⟨[(5,.iv (strs (outer r))),(6,.iv (strs (kY r))),(7,.iv (strs S)),(8,.iv (strs K)),(10,pI i)],[],1⟩) (fun i=>(S.take i).any (AP r K)=li) [] (by simp)
  (zW trivial) fun i hi A=>?_
 refine zE Z Z (fun b=>?_) fun b=>?_
 .have b:S.length<=i:=zG b;rw[any_none A b];exact zU Z
 have b:i<S.length:=zN b;have u:AP r K (S.getD i io)=!(if ch (outer r) (S.getD i io)=lc then ch (kY r) (S.getD i io) else ch K (S.getD i io)):=rfl;refine gA Z (zp (Js (outer r) (S.getD i io)) ?_);refine gA Z (zp (Js (kY r) (S.getD i io)) ?_);refine zJ Z Z (fun g=>?_) fun g=>?_
 .have g:ch (outer r) (S.getD i io)=li:=by simpa using g
  rw[be (by rw[g];decide)]at u;refine gA Z (zp (Js K (S.getD i io)) ?_);refine zJ Z Z (fun q=>?_) fun q=>?_
  .rw[ji b (u.trans q)];exact zU Z
  .refine gA Z ?_;exact⟨b,(a7 A b).2 (u.trans q),[],zW ac⟩
 .have g:ch (outer r) (S.getD i io)=lc:=by simpa using g
  rw[am g]at u;refine zJ Z Z (fun q=>?_) fun q=>?_
  .rw[ji b (u.trans q)];exact zU Z
  .refine gA Z ?_;exact⟨b,(a7 A b).2 (u.trans q),[],zW ac⟩
def zo(r:aq):Nat->Nat
 |0=>(outer r).length
 |i+1=>zo r i+(mG r i).length
theorem Am(r:aq)(i:Nat)(h:i<r.body.length):(mG r i).length=kF r (r.body.getD i io):=by
 have e:ah r i=r.body.getD i io:=rfl;rw[<-E7,ti,kF,e];by_cases b:(r.body.getD i io).kind=4
 .rw[be (by rintro(g|g|g)<;>omega),am b,fu,jE,YH]
 .rw[am (.inr (.inr b)),be b];rfl
theorem Cz(r:aq): ∀i,i<=r.body.length->zo r i=(r.body.take i).foldl (fun n l=>n+kF r l) (aJ (az r)).length
 |0,_=>by
  show(outer r).length=(aJ (az r)).length;rw[<-E6,fu,jE,YH]
 |i+1,h=>by
  rw[zo,Cz r i (by omega),Am r i (by omega),cF (g:=fun n l=>n+kF r l) (show i<r.body.length by omega)]
theorem XU(r:aq)(hb:r.size<=100000000):Pure prog 209 [ag r.c] (pI (tQ r)):=by
 have j:=Lit.ax r.body;have G:Lit.aA r.body<=r.size:=ZX _ _;have I:=uf r;have A:=mD (az r);refine ad ab func209 Z (by decide) ntmps209 Z (by simp) Z ?_;refine gA Z (zp (Us r (by omega)) ?_);refine gA Z ?_;refine ar 0 r.body.length (Yl _) (fun i=>⟨[(1,.ptr 0 0),(4,pI (zo r i:Nat)),(5,pI i)],[(0,jp (ak r.c))],1⟩) (fun _=>True) [] ac
  (zW (zK trivial)) fun i u _=>?_
 have F:=Cz r i u;have B:=xA r (r.body.take i) (aJ (az r)).length;have C:=Lit.sP r.body i;refine zJ Z Z (fun b=>?_) fun b=>?_
 .have b:i<r.body.length:=zN b;have D:=Lit.aS r.body i b;have y:=vm r (r.body.getD i io);have x:=Am r i b;refine gA Z (zp (c36 r i (by omega)) ?_);refine gA Z ⟨b,ac,[],zM (bv ⟨.of_eq (Fw (by show _=((zo r i+(mG r i).length:Nat):Int);omega)),rfl,bv ac⟩) (zK ac)⟩
 .have b:r.body.length<=i:=zG b;have d:i=r.body.length:=by omega
  subst d;have e:zo r r.body.length=tQ r:=by rw[F,Yn (Ym _)];rfl
  rw[<-e];exact zU Z
theorem c67(r:aq)(n:Int)(hb:r.size<=100000000):Pure prog 175 [ag r.c,pI n] (ag (rJ r n).c):=by
 have y:=Lit.ax r.body;have A:Lit.aA r.body<=r.size:=ZX _ _;refine ad ab func175 Z (by decide) ntmps175 Z (by simp) Z ?_;refine zE Z Z (fun g1=>?_) fun g1=>?_
 .have g1:n>256:=zT g1;rw[rJ,am (.inl g1)]
  repeat(refine gA Z (zI (fun q=>?_) (fun q=>?_));all_goals(try(simp at q;done)))
  refine gA Z (zp (Sf 66 r.at_) ?_);exact zU Z
 have g1: ¬n>256:=zF g1;refine zJ Z Z (fun g2=>?_) fun g2=>?_
 .have g2:(r.body.length:Int)>12:=zT g2;rw[rJ,am (.inr g2)];refine gA Z (zp (Sf 66 r.at_) ?_);exact zU Z
 have g2: ¬(r.body.length:Int)>12:=zF g2;refine gA Z (zp (XU r hb) ?_);refine zJ Z Z (fun g3=>?_) fun g3=>?_
 .have g3:(tQ r:Int)>24:=zT g3;rw[rJ,be (by omega),am g3];refine gA Z (zp (Sf 66 r.at_) ?_);exact zU Z
 have g3: ¬(tQ r:Int)>24:=zF g3;have x:rJ r n=match r.body.find? pA with
  |some l=>(66,l.at)
  |none=>aT.z:=by rw[rJ,be (by omega),be g3]<;>rfl
 refine gA Z ?_;refine ar 0 r.body.length (Yl _) (fun i=>⟨[(2,.ptr 0 0),(4,.ptr 1 0),(6,pI i)],[(0,jp (ak r.c)),(1,jp (ak aT.z.c))],2⟩) (fun i=>(r.body.take i).any pA=li) [] (by simp)
  (zW (zK (zK trivial))) fun i B u=>?_
 refine zE Z Z (fun b=>?_) fun b=>?_
 .have b:r.body.length<=i:=zG b;rw[x,eP (any_none u b)];exact zU Z
 have b:i<r.body.length:=zN b;have j:pA (r.body.getD i io)=(lw ((r.body.getD i io).kind=4)&&lw (((r.body.getD i io).au.length:Int)>12)):=rfl;refine zE Z Z (fun d=>?_) fun d=>?_
 .have d:lw ((r.body.getD i io).kind=4)=li:=d;rw[d,Zm]at j
  repeat(refine gA Z (zI (fun q=>?_) (fun q=>?_));all_goals(try(simp at q;done)))
  refine gA Z ⟨b,(a7 u b).2 j,[],zW (zK (zK ac))⟩
 have d:lw ((r.body.getD i io).kind=4)=lc:=d;rw[d,Zc]at j;refine zJ Z Z (fun w=>?_) fun w=>?_
 .rw[x,j9 u b (j.trans w)];refine gA Z (zp (Sf 66 (r.body.getD i io).at) ?_);exact zU Z
 .refine gA Z ?_;exact⟨b,(a7 u b).2 (j.trans w),[],zW (zK (zK ac))⟩
def dN(p:Prog)(r:aq)(e lit:Int):Bool:=
 if e=1 then uK r lit else if e=61 then(bs r lit).any (fun x=>lZ p x) else if e=62 then(bs r lit).any (fun x=>nn p x) else if e=65 then dH r lit else if e=64 then dQ r lit else li
theorem XV(p:Prog)(r:aq)(lit e:Int)(hp:p.aB.length<=1000000000)(hf:r.fit)(h1:lit<r.body.length):Pure prog 207 [ag p.c,ag r.c,pI lit,pI e] (pB (dN p r e lit)):=by
 obtain⟨hb,hh,I⟩:=hf;have ha:=CL r.head;have Y:Lit.aA r.body<=r.size:=ZX _ _;refine ad ab func207 Z (by decide) ntmps207 Z (by simp) Z ?_;refine zJ Z Z (fun j=>?_) fun j=>?_
 .have j:e=1:=zT j;have d:dN p r e lit=uK r lit:=am j;rw[d];refine zJ Z Z (fun u=>?_) fun u=>?_
  .have u:lit<0:=zT u;have C:uK r lit=(fj r.head).2:=am u;rw[C];refine gA Z (zp (c62 r.head hh (by omega)) ?_);refine gA Z (zL (.of_eq ?_));refine(fx ?_:pB _=pB _);cases(fj r.head).2<;>rfl
  .have u: ¬lit<0:=zF u;have C:uK r lit=(pH (ah r lit)).2:=be u;have S:ah r lit∈r.body:=by
    unfold ah;rw[Ye,Yi (show lit.toNat<r.body.length by omega)];exact YZ _
   rw[C];refine gA Z (bn (XK (ah r lit) (I _ S)) Z Z Z Z Z Z ?_);refine gA Z (zL (.of_eq ?_));refine(fx ?_:pB _=pB _);cases(pH (ah r lit)).2<;>rfl
 have j: ¬e=1:=zF j;refine zJ Z Z (fun z2=>?_) fun z2=>?_
 .have z2:e=61:=zT z2;have d:dN p r e lit=(bs r lit).any (fun x=>lZ p x):=by unfold dN;rw[be j,am z2]
  rw[d];refine gA Z (zp (Wi r lit h1 (by omega)) ?_);refine gA Z ?_;have D:=yO r lit h1;generalize bs r lit=L at*
  refine ar 0 L.length (Yl _) (fun i=>⟨[(3,pI e),(4,.ptr 0 0),(11,.iv (cT 2 L Atom.c)),(12,pI i)],[(0,jp (ak p.c))],2⟩) (fun i=>(L.take i).any (fun x=>lZ p x)=li) [] (by simp)
   (zW (zK trivial)) fun i J y=>?_
  refine zE Z Z (fun b=>?_) fun b=>?_
  .have b:L.length<=i:=zG b;rw[any_none y b];exact zU Z
  have b:i<L.length:=zN b;refine gA Z (kR (Xg p (L.getD i io).rel (by omega)) ?_);refine zJ Z Z (fun A=>?_) fun A=>?_
  .refine zJ Z Z (fun F=>?_) fun F=>?_
   .rw[ji b (show lZ p (L.getD i io)=lc from F)]
    repeat(refine gA Z (zI (fun q=>?_) (fun q=>?_));all_goals(try(simp at q;done)))
    exact zU Z
   .refine zJ Z Z (fun B=>?_) fun B=>?_
    .exact absurd (zT B) (by omega)
    repeat(refine gA Z (zI (fun q=>?_) (fun q=>?_));all_goals(try(simp at q;done)))
    refine gA Z ⟨b,(a7 y b).2 F,[],zW (zK ac)⟩
  .exact absurd z2 (zF A)
 have z2: ¬e=61:=zF z2;refine zJ Z Z (fun z3=>?_) fun z3=>?_
 .have z3:e=62:=zT z3;have d:dN p r e lit=(bs r lit).any (fun x=>nn p x):=by unfold dN;rw[be j,be z2,am z3]
  rw[d];refine gA Z (zp (Wi r lit h1 (by omega)) ?_);refine gA Z ?_;have D:=yO r lit h1;generalize bs r lit=L at*
  refine ar 0 L.length (Yl _) (fun i=>⟨[(3,pI e),(4,.ptr 0 0),(11,.iv (cT 2 L Atom.c)),(12,pI i)],[(0,jp (ak p.c))],2⟩) (fun i=>(L.take i).any (fun x=>nn p x)=li) [] (by simp)
   (zW (zK trivial)) fun i J y=>?_
  refine zE Z Z (fun b=>?_) fun b=>?_
  .have b:L.length<=i:=zG b;rw[any_none y b];exact zU Z
  have b:i<L.length:=zN b;refine gA Z (kR (Xg p (L.getD i io).rel (by omega)) ?_);refine zJ Z Z (fun A=>?_) fun A=>?_
  .exact absurd (zT A) z2
  refine zJ Z Z (fun B=>?_) fun B=>?_
  .refine zJ Z Z (fun G=>?_) fun G=>?_
   .rw[ji b (show nn p (L.getD i io)=lc from G)];exact zU Z
   .refine gA Z ?_;exact⟨b,(a7 y b).2 G,[],zW (zK ac)⟩
  .exact absurd z3 (zF B)
 have z3: ¬e=62:=zF z3;refine zJ Z Z (fun z4=>?_) fun z4=>?_
 .have z4:e=65:=zT z4;have d:dN p r e lit=dH r lit:=by unfold dN;rw[be j,be z2,be z3,am z4]
  rw[d];refine gA Z (zp (XJ r lit h1 (by omega)) ?_);exact zU Z
 have z4: ¬e=65:=zF z4;refine zJ Z Z (fun z5=>?_) fun z5=>?_
 .have z5:e=64:=zT z5;have d:dN p r e lit=dQ r lit:=by unfold dN;rw[be j,be z2,be z3,be z4,am z5]
  rw[d];refine gA Z (zp (XH r lit h1 (by omega)) ?_);exact zU Z
 .have z5: ¬e=64:=zF z5;have d:dN p r e lit=li:=by unfold dN;rw[be j,be z2,be z3,be z4,be z5]
  rw[d];exact zU Z
theorem V2(p:Prog)(r:aq)(e:Int)(hp:p.aB.length<=1000000000)(hf:r.fit):Pure prog 174 [ag p.c,ag r.c,pI e] (ag (bF r e (dN p r e) aT.z).c):=by
 have u:=Lit.ax r.body;have B:Lit.aA r.body<=r.size:=ZX _ _;have x:=hf.1;have A:=rn r.body.length;refine ad ab func174 Z (by decide) ntmps174 Z (by simp) Z ?_;refine gA Z ?_;refine ar 0 (r.body.length+1) (Yl _) (fun i=>⟨[(2,pI e),(3,.ptr 0 0),(4,.ptr 1 0),(6,.ptr 2 0),(7,pI ((i:Int)-1))],[(0,jp (ak p.c)),(1,jp (ak r.c)),(2,jp (ak aT.z.c))],3⟩) (fun i=>((ja r.body.length).take i).any (dN p r e)=li) [] (by simp)
  (zW (zK (zK (zK trivial)))) fun i C d=>?_
 refine zE Z Z (fun b=>?_) fun b=>?_
 .have b: ¬(i:Int)-1<(r.body.length:Int):=zF b;have j:bF r e (dN p r e) aT.z=aT.z:=by
   unfold bF vB;rw[eP (any_none d (by omega))]
  rw[j];exact zU Z
 have b:(i:Int)-1<(r.body.length:Int):=zT b;have y:=rq r.body.length i (by omega);refine gA Z (zp (XV p r ((i:Int)-1) e hp hf b) ?_);refine zJ Z Z (fun g=>?_) fun g=>?_
 .rw[mF d (by omega) g];refine gA Z (zp (T9 r ((i:Int)-1) b) ?_);refine gA Z (zp (Sf e (fw r ((i:Int)-1))) ?_);exact zU Z
 .refine gA Z ?_;exact⟨by omega,(a7 d (by omega)).2 (by rw[y];exact g),[],zM (bv (bv (bv (bv ⟨.of_eq (Fw (by omega)),rfl,ac⟩)))) (zK (zK (zK ac)))⟩
theorem O6(p:Prog)(i:Nat)(s:aj):bY .str (aJ (dP p i)) s 0>0↔s∈dP p i:=by
 rw[bR];constructor
 .intro h;exact oD.1 (by omega)
 .intro h;have:=oD.2 h;omega
theorem O7(p:Prog)(i:Nat)(s:aj):((p.aB.take i).any fun d=>lw (d.name=s))=lc↔s∈dP p i:=by
 unfold dP;rw[Y8,YP];constructor
 .rintro⟨d,h1,h2⟩;exact⟨d,h1,zT h2⟩
 .rintro⟨d,h1,h2⟩;exact⟨d,h1,decide_eq_true h2⟩
def Fx(x:Int):Bool:=lw (x=1)||decide (x=2)
def ui(d:Decl)(k:Nat):Bool:=eC d.name&&(d.types.take k).all Fx
theorem Fy{d:Decl}{k:Nat}(h:k<d.types.length):ui d (k+1)=(ui d k&&Fx (d.types.getD k io)):=by
 unfold ui;rw[aK h,aaT,<-Bool.and_assoc];simp
theorem IG(d:Decl):ui d d.types.length=li↔((d.types.any fun x=>!lw (x=1)&&!lw (x=2))=lc∨eC d.name=li):=by
 unfold ui;rw[Yn (Ym _),Z8];have:d.types.all Fx=li↔(d.types.any fun x=>!lw (x=1)&&!lw (x=2))=lc:=by
  rw[Z1,Y8];constructor
  .rintro⟨x,h1,h2⟩;refine⟨x,h1,?_⟩;unfold Fx at h2;simpa using h2
  .rintro⟨x,h1,h2⟩;refine⟨x,h1,?_⟩;unfold Fx;simpa using h2
 rw[this];exact Or.comm
theorem c82(p:Prog)(i:Nat)(hi:i<p.aB.length)(hs:p.size<=10000000):Pure prog 131 [ag p.c,pI i] (pI (dM p i)):=by
 have J:p.aB.length<=p.size:=by unfold Prog.size;omega
 have S:(p.aB.getD i io).types.length<=p.size:=by
  have:=ra (fun d:Decl=>d.types.length) p.aB i hi;unfold Prog.size;have Y:(p.aB.getD i io).types.length<=(p.aB.map fun d=>d.types.length).sum:=this;omega
 have hR:dM p i=if(((p.aB.getD i io).types.any fun x=>!lw (x=1)&&!lw (x=2))=lc∨eC (p.aB.getD i io).name=li) then 1 else if(i:Int)>=64∨((p.aB.getD i io).types.length:Int)>8 then 66 else if bY .str (aJ (dP p i)) (p.aB.getD i io).name 0>0 then 60 else 0:=rfl;have D:=IG (p.aB.getD i io);have F:=O6 p i (p.aB.getD i io).name;have G:=O7 p i (p.aB.getD i io).name;refine ad ab func131 Z (by decide) ntmps131 Z (by simp) Z ?_;refine gA Z (zp (c56 (p.aB.getD i io).name) ?_);refine gA Z ?_;refine ar 0 (p.aB.getD i io).types.length (Yl _) (fun k=>⟨[(1,pI i),(2,.ptr 0 0),(5,.ptr 1 0),(6,pB (ui (p.aB.getD i io) k)),(7,pI k)],[(0,jp (ak p.c)),(1,jp (ak (p.aB.getD i io).c))],2⟩) (fun _=>True) [] ac
  (zM (bv (bv (bv ⟨.of_eq (fx (by unfold ui;simp)),rfl,bv trivial⟩))) (zK (zK trivial))) fun k I _=>?_
 refine zJ Z Z (fun b=>?_) fun b=>?_
 .have b:k<(p.aB.getD i io).types.length:=zN b;have A:=Fy b
  repeat' (first
   |(refine gA Z (zI (fun q=>?_) (fun q=>?_)))
   |fail)
  all_goals(refine gA Z ?_)
  all_goals first
   |exact⟨b,ac,[],zM (bv (bv (bv ⟨.of_eq (fx (by rw[A];unfold Fx;simp_all)),rfl,bv ac⟩))) (zK (zK ac))⟩
   |exact⟨b,ac,[],zM (bv (bv (bv ⟨.rK (by rw[A];unfold Fx;simp_all),rfl,bv ac⟩))) (zK (zK ac))⟩
 have b:(p.aB.getD i io).types.length<=k:=zG b;have j:k=(p.aB.getD i io).types.length:=by omega
 subst j;refine zJ Z Z (fun g1=>?_) fun g1=>?_
 .have g1:ui (p.aB.getD i io) (p.aB.getD i io).types.length=li:=by simpa using g1
  rw[hR,am (D.1 g1)];exact zU Z
 have g1: ¬ui (p.aB.getD i io) (p.aB.getD i io).types.length=li:=by
  intro h;rw[h]at g1;simp at g1
 rw[be fun h=>g1 (D.2 h)]at hR;refine zE Z Z (fun g2=>?_) fun g2=>?_
 .have g2:(i:Int)>=64:=zT g2;rw[hR,am (.inl g2)]
  repeat(refine gA Z (zI (fun q=>?_) (fun q=>?_));all_goals(try(simp at q;done)))
  exact zU Z
 have g2: ¬(i:Int)>=64:=zF g2;refine zJ Z Z (fun g3=>?_) fun g3=>?_
 .have g3:((p.aB.getD i io).types.length:Int)>8:=zT g3;rw[hR,am (.inr g3)];exact zU Z
 have g3: ¬((p.aB.getD i io).types.length:Int)>8:=zF g3;rw[be (by omega)]at hR;refine gA Z ?_;refine ar 0 i (Yl _) (fun k=>⟨[(1,pI i),(2,.ptr 0 0),(5,.ptr 1 0),(8,pI k)],[(0,jp (ak p.c)),(1,jp (ak (p.aB.getD i io).c))],2⟩) (fun k=>((p.aB.take k).any fun x=>lw (x.name=(p.aB.getD i io).name))=li) [] (by simp)
  (zW (zK (zK trivial))) fun k I B=>?_
 refine zJ Z Z (fun u=>?_) fun u=>?_
 .have u:k<i:=zN u;have y:k<p.aB.length:=by omega
  refine zJ Z Z (fun w=>?_) fun w=>?_
  .have w:lw ((p.aB.getD k io).name=(p.aB.getD i io).name)=lc:=w;have C:(p.aB.getD i io).name∈dP p i:=by
    refine G.1 (Y8.2 ⟨p.aB.getD k io,?_,w⟩);rw[Ye,Yi y];exact aam.2 ⟨k,by omega,rfl⟩
   rw[hR,am (F.2 C)];exact zU Z
  .have w:lw ((p.aB.getD k io).name=(p.aB.getD i io).name)=li:=w;refine gA Z ⟨u,(a7 B y).2 w,[],zW (zK (zK ac))⟩
 .have u:i<=k:=zG u;have j:k=i:=by omega
  subst j;rw[hR,be fun h=>by rw[G.2 (F.1 h)]at B;cases B];exact zU Z
theorem k1(p:Prog)(r:aq)(hp:p.aB.length<=1000000000)(hf:r.fit):Pure prog 174 [ag p.c,ag r.c,pI 1] (ag (aT.c (bF r 1 (uK r) aT.z))):=by
 have e:dN p r 1=uK r:=funext fun lit=>am Z;have:=V2 p r 1 hp hf;rwa[e]at this
theorem k61(p:Prog)(r:aq)(hp:p.aB.length<=1000000000)(hf:r.fit):Pure prog 174 [ag p.c,ag r.c,pI 61] (ag (aT.c (bF r 61 (fun lit=>(bs r lit).any fun x=>lZ p x) aT.z))):=by
 have e:dN p r 61=fun lit=>(bs r lit).any fun x=>lZ p x:=funext fun lit=>by unfold dN;rw[be (by decide),am Z]
 have:=V2 p r 61 hp hf;rwa[e]at this
theorem k62(p:Prog)(r:aq)(hp:p.aB.length<=1000000000)(hf:r.fit):Pure prog 174 [ag p.c,ag r.c,pI 62] (ag (aT.c (bF r 62 (fun lit=>(bs r lit).any fun x=>nn p x) aT.z))):=by
 have e:dN p r 62=fun lit=>(bs r lit).any fun x=>nn p x:=funext fun lit=>by unfold dN;rw[be (by decide),be (by decide),am Z]
 have:=V2 p r 62 hp hf;rwa[e]at this
theorem k65(p:Prog)(r:aq)(hp:p.aB.length<=1000000000)(hf:r.fit):Pure prog 174 [ag p.c,ag r.c,pI 65] (ag (aT.c (bF r 65 (dH r) aT.z))):=by
 have e:dN p r 65=dH r:=funext fun lit=>by unfold dN;rw[be (by decide),be (by decide),be (by decide),am Z]
 have:=V2 p r 65 hp hf;rwa[e]at this
theorem k64(p:Prog)(r:aq)(hp:p.aB.length<=1000000000)(hf:r.fit):Pure prog 174 [ag p.c,ag r.c,pI 64] (ag (aT.c (bF r 64 (dQ r) aT.z))):=by
 have e:dN p r 64=dQ r:=funext fun lit=>by unfold dN;rw[be (by decide),be (by decide),be (by decide),be (by decide),am Z]
 have:=V2 p r 64 hp hf;rwa[e]at this
theorem IB(a b c:aT):nj (nj a b) c=nj a (nj b c):=by
 unfold nj;by_cases h:a.1=0
 .rw[am h,am h]
 .rw[be h,be h,be h]
set_option maxHeartbeats 2000000 in
theorem c27(p:Prog)(n:Int)(hf:p.fit):Pure prog 133 [ag p.c,pI n] (ag (if n<1∨(p.rules.length:Int)<n then(1,⟨0,0⟩) else ua p (p.rules.getD (n-1).toNat io) n:aT).c):=by
 obtain⟨b,I,u⟩:=hf;refine ad ab func133 Z (by decide) ntmps133 Z (by simp) Z ?_;refine zE Z Z (fun g1=>?_) fun g1=>?_
 .have g1:n<1:=zT g1;rw[am (.inl g1)]
  repeat(refine gA Z (zI (fun q=>?_) (fun q=>?_));all_goals(try(simp at q;done)))
  exact zU Z
 have g1: ¬n<1:=zF g1;refine zJ Z Z (fun g2=>?_) fun g2=>?_
 .have g2:n>(p.rules.length:Int):=zT g2;rw[am (.inr g2)];exact zU Z
 have g2: ¬n>(p.rules.length:Int):=zF g2;rw[be (by omega)];have j:(n-1).toNat<p.rules.length:=by omega
 have d:(p.rules.getD (n-1).toNat io).fit:=u _ (by rw[Ye,Yi j];exact YZ j);have J:=d.1;refine gA Z (zp (k1 p (p.rules.getD (n-1).toNat io) b d) ?_);generalize p.rules.getD (n-1).toNat io=r at*
 rw[<-OX];have hR:Ku p r n=nj (nj (nj (nj (nj (nj (bF r 1 (uK r) aT.z) (rJ r n)) (bF r 61 (fun lit=>(bs r lit).any fun x=>lZ p x) aT.z)) (bF r 62 (fun lit=>(bs r lit).any fun x=>nn p x) aT.z)) (bF r 65 (dH r) aT.z)) (jk r (nF p r))) (bF r 64 (dQ r) aT.z):=by
  simp only[IB];rfl
 rw[hR];clear hR;generalize y:bF r 1 (uK r) aT.z=D0 at*
 refine gM 3 Z (go_cut 1 (fun(_:Unit)=>⟨[(1,pI n),(2,.ptr 0 0),(4,.ptr 1 0),(5,.ptr 2 0),(6,.ptr 3 0)],[(0,jp (ak p.c)),(1,jp (ak aT.z.c)),(2,jp (ak r.c)),(3,jp (ak (aT.c (nj D0 (rJ r n)))))],4⟩) Z ?_ ?_)
 .refine zJ Z Z (fun g=>?_) fun g=>?_
  .have g:YI D0=0:=zT g;refine gA Z (zp (c67 r n (by omega)) ?_);rw[show nj D0 (rJ r n)=(rJ r n) from am g];refine gA Z (eL () [] (zW (zK (zK (zK (zK ac))))))
  .have g: ¬YI D0=0:=zF g;rw[show nj D0 (rJ r n)=D0 from be g];refine gA Z (eL () [] (zW (zK (zK (zK (zK ac))))))
 rintro⟨⟩;generalize A:nj D0 (rJ r n)=D1 at*
 refine go_cut 1 (fun(_:Unit)=>⟨[(1,pI n),(2,.ptr 0 0),(4,.ptr 1 0),(5,.ptr 2 0),(6,.ptr 3 0)],[(0,jp (ak p.c)),(1,jp (ak aT.z.c)),(2,jp (ak r.c)),(3,jp (ak (aT.c (nj D1 (bF r 61 (fun lit=>(bs r lit).any fun x=>lZ p x) aT.z)))))],4⟩) Z ?_ ?_
 .refine zJ Z Z (fun g=>?_) fun g=>?_
  .have g:YI D1=0:=zT g;refine gA Z (zp (k61 p r b d) ?_);rw[show nj D1 (bF r 61 (fun lit=>(bs r lit).any fun x=>lZ p x) aT.z)=(bF r 61 (fun lit=>(bs r lit).any fun x=>lZ p x) aT.z) from am g];refine gA Z (eL () [] (zW (zK (zK (zK (zK ac))))))
  .have g: ¬YI D1=0:=zF g;rw[show nj D1 (bF r 61 (fun lit=>(bs r lit).any fun x=>lZ p x) aT.z)=D1 from be g];refine gA Z (eL () [] (zW (zK (zK (zK (zK ac))))))
 rintro⟨⟩;generalize B:nj D1 (bF r 61 (fun lit=>(bs r lit).any fun x=>lZ p x) aT.z)=D2 at*
 refine go_cut 1 (fun(_:Unit)=>⟨[(1,pI n),(2,.ptr 0 0),(4,.ptr 1 0),(5,.ptr 2 0),(6,.ptr 3 0)],[(0,jp (ak p.c)),(1,jp (ak aT.z.c)),(2,jp (ak r.c)),(3,jp (ak (aT.c (nj D2 (bF r 62 (fun lit=>(bs r lit).any fun x=>nn p x) aT.z)))))],4⟩) Z ?_ ?_
 .refine zJ Z Z (fun g=>?_) fun g=>?_
  .have g:YI D2=0:=zT g;refine gA Z (zp (k62 p r b d) ?_);rw[show nj D2 (bF r 62 (fun lit=>(bs r lit).any fun x=>nn p x) aT.z)=(bF r 62 (fun lit=>(bs r lit).any fun x=>nn p x) aT.z) from am g];refine gA Z (eL () [] (zW (zK (zK (zK (zK ac))))))
  .have g: ¬YI D2=0:=zF g;rw[show nj D2 (bF r 62 (fun lit=>(bs r lit).any fun x=>nn p x) aT.z)=D2 from be g];refine gA Z (eL () [] (zW (zK (zK (zK (zK ac))))))
 rintro⟨⟩;generalize C:nj D2 (bF r 62 (fun lit=>(bs r lit).any fun x=>nn p x) aT.z)=D3 at*
 refine go_cut 1 (fun(_:Unit)=>⟨[(1,pI n),(2,.ptr 0 0),(4,.ptr 1 0),(5,.ptr 2 0),(6,.ptr 3 0)],[(0,jp (ak p.c)),(1,jp (ak aT.z.c)),(2,jp (ak r.c)),(3,jp (ak (aT.c (nj D3 (bF r 65 (dH r) aT.z)))))],4⟩) Z ?_ ?_
 .refine zJ Z Z (fun g=>?_) fun g=>?_
  .have g:YI D3=0:=zT g;refine gA Z (zp (k65 p r b d) ?_);rw[show nj D3 (bF r 65 (dH r) aT.z)=(bF r 65 (dH r) aT.z) from am g];refine gA Z (eL () [] (zW (zK (zK (zK (zK ac))))))
  .have g: ¬YI D3=0:=zF g;rw[show nj D3 (bF r 65 (dH r) aT.z)=D3 from be g];refine gA Z (eL () [] (zW (zK (zK (zK (zK ac))))))
 rintro⟨⟩;generalize D:nj D3 (bF r 65 (dH r) aT.z)=D4 at*
 refine go_cut 1 (fun(_:Unit)=>⟨[(1,pI n),(2,.ptr 0 0),(4,.ptr 1 0),(5,.ptr 2 0),(6,.ptr 3 0)],[(0,jp (ak p.c)),(1,jp (ak aT.z.c)),(2,jp (ak r.c)),(3,jp (ak (aT.c (nj D4 (jk r (nF p r))))))],4⟩) Z ?_ ?_
 .refine zJ Z Z (fun g=>?_) fun g=>?_
  .have g:YI D4=0:=zT g;refine gA Z (zp (c68 p r b (by omega)) ?_);rw[show nj D4 (jk r (nF p r))=(jk r (nF p r)) from am g];refine gA Z (eL () [] (zW (zK (zK (zK (zK ac))))))
  .have g: ¬YI D4=0:=zF g;rw[show nj D4 (jk r (nF p r))=D4 from be g];refine gA Z (eL () [] (zW (zK (zK (zK (zK ac))))))
 rintro⟨⟩;generalize F:nj D4 (jk r (nF p r))=D5 at*
 refine go_cut 1 (fun(_:Unit)=>⟨[(1,pI n),(2,.ptr 0 0),(4,.ptr 1 0),(5,.ptr 2 0),(6,.ptr 3 0)],[(0,jp (ak p.c)),(1,jp (ak aT.z.c)),(2,jp (ak r.c)),(3,jp (ak (aT.c (nj D5 (bF r 64 (dQ r) aT.z)))))],4⟩) Z ?_ ?_
 .refine zJ Z Z (fun g=>?_) fun g=>?_
  .have g:YI D5=0:=zT g;refine gA Z (zp (k64 p r b d) ?_);rw[show nj D5 (bF r 64 (dQ r) aT.z)=(bF r 64 (dQ r) aT.z) from am g];refine gA Z (eL () [] (zW (zK (zK (zK (zK ac))))))
  .have g: ¬YI D5=0:=zF g;rw[show nj D5 (bF r 64 (dQ r) aT.z)=D5 from be g];refine gA Z (eL () [] (zW (zK (zK (zK (zK ac))))))
 rintro⟨⟩;generalize G:nj D5 (bF r 64 (dQ r) aT.z)=D6 at*
 exact zU Z
theorem Xk(p:Prog)(k:Nat)(b:k<p.rules.length)(hf:p.fit):Pure prog 133 [ag p.c,pI ((k:Int)+1)] (ag (rG p k).c):=by
 have:=c27 p ((k:Int)+1) hf;rw[be (by omega),show((k:Int)+1-1).toNat=k by omega]at this;exact this
theorem Kg{α:Type}(l:List α)(x:α):l.length+1=(l++ [x]).length:=by simp
theorem Kf{α:Type}{β:Type _}(f:α->β)(l:List α)(x:α):l.map f++ [f x]=(l++ [x]).map f:=by simp
set_option maxHeartbeats 1000000 in
theorem c41(p:Prog)(hf:p.fit)(hs:p.size<=10000000):Pure prog 103 [ag p.c] (.iv (cT 3 (ke p) aT.c)):=by
 have y:=hf.1;have A:=hf.2.1;refine ad ab func103 Z (by decide) ntmps103 Z (by simp) Z ?_;refine gA Z ?_;refine dF 3 3 Z ?_;refine ar 0 p.aB.length (Yl _) (fun i=>⟨[(1,.ptr 0 0),(3,.sl 2 0 (jo p i).length 3),(4,pI i)],[(0,jp (ak p.c)),(2,jp (aC 3 (jo p i) aT.c))],3⟩) (fun _=>True) [1] ac
  (zW (zK (zS trivial))) fun i B _=>?_
 have C:=Dl p i;refine zJ Z Z (fun j=>?_) fun j=>?_
 .have j:i<p.aB.length:=zN j;refine gA Z (zp (c82 p i j hs) ?_);refine zJ Z Z (fun g=>?_) fun g=>?_
  .have g: ¬dM p i=0:=zX g;have b:jo p (i+1)=jo p i++ [(dM p i,(p.aB.getD i io).at_)]:=by rw[jo,be g]
   refine gA Z (zp (Sf (dM p i) (p.aB.getD i io).at_) ?_);refine gA Z ⟨j,ac,[4],zM (bv ⟨.row (by rw[b,Yg];rfl),rfl,bv ac⟩) (zK (hR Z (by rw[b,Yk];rfl) Z ac))⟩
  .have g:dM p i=0:=zY g;have b:jo p (i+1)=jo p i:=by rw[jo,am g,Y0]
   refine gA Z ⟨j,ac,[2],zM (bv ⟨.row (by rw[b]),rfl,bv ac⟩) (zK (hR Z (by rw[b]) Z ac))⟩
 have j:p.aB.length<=i:=zG j;have u:i=p.aB.length:=by omega
 subst u;refine gA Z ?_;refine ar 0 p.rules.length (Yl _) (fun i=>⟨[(1,.ptr 0 0),(3,.sl 3 0 (jo p p.aB.length++km p i).length 3),(6,pI ((i:Int)+1))],[(0,jp (ak p.c)),(3,jp (aC 3 (jo p p.aB.length++km p i) aT.c))],4⟩) (fun _=>True) [2] ac
  (zM (bv ⟨.row (by rw[km,Y0]),rfl,bv trivial⟩) (zK (hR Z (by rw[km,Y0]) Z trivial))) fun i B _=>?_
 have D:=Da p i;have x:(jo p p.aB.length++km p i).length=(jo p p.aB.length).length+(km p i).length:=Yg;refine zJ Z Z (fun d=>?_) fun d=>?_
 .have d:(i:Int)+1<=(p.rules.length:Int):=zT d;have d:i<p.rules.length:=by omega
  refine gA Z (zp (Xk p i d hf) ?_);refine zJ Z Z (fun g=>?_) fun g=>?_
  .have g: ¬(rG p i).1=0:=zX g;have b:jo p p.aB.length++km p (i+1)=(jo p p.aB.length++km p i)++ [rG p i]:=by rw[km,be g,Yu]
   refine gA Z ⟨d,ac,[6],zM (bv ⟨.row (by rw[b];exact Kg _ _),rfl,.of_eq (Fw (by omega)),rfl,ac⟩) (zK (hR Z (by rw[b];exact Kf _ _ (rG p i)) Z ac))⟩
  .have g:(rG p i).1=0:=zY g;have b:km p (i+1)=km p i:=by rw[km,am g,Y0]
   refine gA Z ⟨d,ac,[3],zM (bv ⟨.row (by rw[b]),rfl,.of_eq (Fw (by omega)),rfl,ac⟩) (zK (hR Z (by rw[b]) Z ac))⟩
 have d: ¬(i:Int)+1<=(p.rules.length:Int):=zF d;have u:i=p.rules.length:=by omega
 subst u;refine gA Z (cG (by first|exact .inr Z|exact .inl Z) Z Z (rfl) (rfl))
theorem V3(p:Prog)(hf:p.fit)(hs:p.size<=10000000):Pure prog 61 [ag p.c] (ag (bu p).c):=by
 refine ad ab func61 Z (by decide) ntmps61 Z (by simp) Z ?_;refine gA Z (zp (c41 p hf hs) ?_);have hC:bu p=(ke p).headD aT.z:=rfl;rw[hC];generalize ke p=L at*
 refine zJ Z Z (fun g=>?_) fun g=>?_
 .have g:(L.length:Int)=0:=zT g;have:L=[]:=ZU (by omega);subst this;exact zU Z
 .have g: ¬(L.length:Int)=0:=zF g;refine gA Z (zL (.of_eq ?_));cases L with
  |nil=>simp at g
  |cons d l=>rfl
theorem Kr{p:Prog}(hf:jP p):Pure prog 63 [.iv (cT 1 (dA (ns p).length (gF p (aD p))) (lE aY))] (.iv (fI p)):=by
 refine Vh (jr hf) (gF p (aD p)) (Go.Rg.ed (ns p) (eg p)) fun i j b d=>?_;rw[YU,Go.Rg.kg,decide_eq_true_eq];unfold eg gF;constructor
 .rintro⟨_,_,h⟩;have h:gD (aD p) (vD p i) (vD p j)≠0:=zT h;omega
 .intro h;exact⟨b,d,decide_eq_true (show gD (aD p) (vD p i) (vD p j)≠0 by omega)⟩
theorem ON(p:Prog)(n:Int)(hb:p.fit)(hs:p.size<=10000000):Pure prog 21 [ag p.c,pI n] (pB (fv p n)):=by
 have y:p.rules.length<=1000000000:=hb.2.1;refine ad ab func21 Z (by decide) ntmps21 Z (by simp) Z ?_;refine zE Z Z (fun g1=>?_) fun g1=>?_
 .have g1:n<1:=zT g1;rw[show fv p n=li by unfold fv;rw[decide_eq_false (show¬1<=n by omega)];simp];exact zU Z
 have g1: ¬n<1:=zF g1;refine zE Z Z (fun g2=>?_) fun g2=>?_
 .have g2:n>p.rules.length:=zT g2;rw[show fv p n=li by unfold fv;rw[decide_eq_false (show¬n<=p.rules.length by omega)];simp];exact zU Z
 have g2: ¬n>p.rules.length:=zF g2;refine gA Z (zp (V3 p hb hs) ?_);refine zJ Z Z (fun k1=>?_) fun k1=>?_
 .have k1: ¬(bu p).1=0:=zX k1;rw[show fv p n=li by unfold fv;rw[decide_eq_false k1];simp];exact zU Z
 have k1:(bu p).1=0:=zY k1;have d:=gx k1;have x:(n-1).toNat<p.rules.length:=by omega
 have u:=bx (l:=p.rules) x;have b:=hb.2.2 _ u;have j:fv p n=jm p (p.rules.getD (n-1).toNat io):=by unfold fv;rw[decide_eq_true k1,decide_eq_true (show 1<=n by omega),decide_eq_true (show n<=p.rules.length by omega)];rfl
 refine gA Z (zp (tY d) ?_);refine gA Z (kR (tZ d hb) ?_);refine gA Z (kR (Kr d) ?_);refine gA Z (kR (GG d u b.1) ?_);refine gA Z (zL (.of_eq ?_));rw[j];rfl
theorem GP(p:Prog)(hb:p.fit)(hs:p.size<=10000000):Pure prog 27 [ag p.c] (ag (dD p).c):=by
 have G:p.rules.length<=1000000000:=hb.2.1;refine ad ab func27 Z (by decide) ntmps27 Z (by simp) Z ?_;refine gA Z (zp (V3 p hb hs) ?_);refine zJ Z Z (fun k1=>?_) fun k1=>?_
 .have k1: ¬(bu p).1=0:=zX k1;rw[dD,am k1];exact zU Z
 have k1:(bu p).1=0:=zY k1;have A:=gx k1;rw[dD,be (by simpa using k1)];have y: ∀i,i<p.rules.length->(p.rules.map (ew p)).getD i io=ew p (p.rules.getD i io):=fun i D=>by
  rw[Ye,Yo,Yi D,Ye,Yi D];rfl
 have j:(p.rules.map (ew p)).length=p.rules.length:=YH _;refine gA Z (zp (tY A) ?_);refine gA Z (zp (tZ A hb) ?_);refine gA Z (zp (Kr A) ?_);refine gA Z ?_;refine ar 0 p.rules.length (Yl _) (fun i=>⟨[(1,.ptr 0 0),(2,.ptr 1 0),(4,.iv (strs (ns p))),(5,.iv (fI p)),(6,pI i)],[(0,jp (ak p.c)),(1,jp (ak aT.z.c))],3⟩) (fun i=>((p.rules.map (ew p)).take i).any (fun d=>lw (d.1≠0))=li) [] (by simp)
  (zW (zK (zK trivial))) fun i D B=>?_
 refine zJ Z Z (fun b=>?_) fun b=>?_
 .have b:=ci b;have F:=bx b;have x:=hb.2.2 _ F;have C:=y i b;refine gA Z (zp (OK A F x.1) ?_);refine zJ Z Z (fun u=>?_) fun u=>?_
  .have u: ¬(ew p (p.rules.getD i io)).1=0:=zX u;rw[j9 B (by rw[j];exact b) (by rw[C];exact decide_eq_true u),C];exact zU Z
  .have u:(ew p (p.rules.getD i io)).1=0:=zY u;refine gA Z ⟨b,(a7 B (by rw[j];exact b)).2 (by rw[C];simpa using u),[],zW (zK (zK ac))⟩
 .have b:=co b;rw[eP (any_none B (by rw[j];exact b))];exact zU Z
theorem Fl(p:Prog)(hb:p.fit)(hs:p.size<=10000000):Pure prog 28 [ag p.c] (pB (jH p)):=by
 have D:p.rules.length<=1000000000:=hb.2.1;refine ad ab func28 Z (by decide) ntmps28 Z (by simp) Z ?_;refine gA Z (zp (V3 p hb hs) ?_);refine zJ Z Z (fun k1=>?_) fun k1=>?_
 .have k1: ¬(bu p).1=0:=zX k1;rw[show jH p=li by unfold jH;rw[decide_eq_false k1];rfl];exact zU Z
 have k1:(bu p).1=0:=zY k1;rw[show jH p=p.rules.all fun r=>r.body.all iJ by unfold jH;rw[decide_eq_true k1];rfl];refine gA Z ?_;refine ar 0 p.rules.length (Yl _) (fun i=>⟨[(1,.ptr 0 0),(3,pI i)],[(0,jp (ak p.c))],1⟩) (fun i=>((p.rules.take i).all fun r=>r.body.all iJ)=lc) [] Z
  (zW (zK trivial)) fun i F A=>?_
 refine zE Z Z (fun b=>?_) fun b=>?_
 .have b:=co b;rw[Yn b]at A;rw[A];exact zU Z
 have b:=ci b;have x:=(hb.2.2 _ (bx b)).1;have C:=(lN x).1;refine gA Z ?_;refine ar 0 (p.rules.getD i io).body.length (Yl _) (fun k=>⟨[(1,.ptr 0 0),(3,pI i),(4,pI k)],[(0,jp (ak p.c))],1⟩) (fun k=>(((p.rules.getD i io).body.take k).all iJ)=lc) [] Z
  (zW (zK trivial)) fun k G B=>?_
 refine zE Z Z (fun d=>?_) fun d=>?_
 .have d:(p.rules.getD i io).body.length<=k:=by simpa using d
  rw[Yn d]at B;refine gA Z ⟨b,(oH A b).2 B,[],zW (zK ac)⟩
 have d:k<(p.rules.getD i io).body.length:=by simpa using d
 have y:iJ ((p.rules.getD i io).body.getD k io)=li->(p.rules.all fun r=>r.body.all iJ)=li:=fun h=>
  Z1.2 ⟨_,bx b,by rw[ZQ];exact Z1.2 ⟨_,bx d,by rw[h];exact aaU⟩⟩
 refine zE Z Z (fun j=>?_) fun j=>?_
 .have j:((p.rules.getD i io).body.getD k io).kind=2:=zT j;rw[y (by unfold iJ;rw[j];rfl)];exact zU Z
 have j: ¬((p.rules.getD i io).body.getD k io).kind=2:=zF j;refine zJ Z Z (fun u=>?_) fun u=>?_
 .have u:((p.rules.getD i io).body.getD k io).kind=4:=zT u;rw[y (by unfold iJ;rw[u];rfl)];exact zU Z
 .have u: ¬((p.rules.getD i io).body.getD k io).kind=4:=zF u;refine gA Z ⟨d,(oH B d).2 (by unfold iJ;rw[decide_eq_true j,decide_eq_true u];rfl),[],zW (zK ac)⟩
def ph(p:Prog)(i k:Nat):List Wx:=(((ns p).take k).filter (eg p (vD p i))).map fun b=>(vD p i,b,Cu p (vD p i) b)
theorem Jh{p:Prog}{i k:Nat}(h:(ns p).length<=k):ph p i k=bz p (vD p i):=by
 unfold ph bz a8;rw[Yn h]
theorem Me(p:Prog)(i k:Nat):(ph p i k).length<=k:=by
 unfold ph;rw[YH];exact YR (Ze _ _) (by rw[YV];omega)
theorem Md{p:Prog}{i k:Nat}(d:k<(ns p).length)(h:gF p (aD p) i k>0):ph p i (k+1)=ph p i k++ [(vD p i,vD p k,lw (gF p (aD p) i k=2))]:=by
 have b:eg p (vD p i) ((ns p).getD k io)=lc:=by
  unfold gF at h;exact decide_eq_true (show gD (aD p) (vD p i) (vD p k)≠0 by omega)
 have j:Cu p (vD p i) (vD p k)=lw (gF p (aD p) i k=2):=by
  unfold Cu gF;exact decide_eq_decide.2 (by omega)
 unfold ph;rw[aK d,aaq,Yk];congr 1;rw[ZD,b,am Z,List.filter_nil,Yz,Y7];rw[show(ns p).getD k io=vD p k from rfl,j]
theorem P4{p:Prog}{i k:Nat}(d:k<(ns p).length)(h: ¬gF p (aD p) i k>0):ph p i (k+1)=ph p i k:=by
 have b:eg p (vD p i) ((ns p).getD k io)=li:=by
  unfold gF at h;exact decide_eq_false (show¬gD (aD p) (vD p i) (vD p k)≠0 by omega)
 unfold ph;rw[aK d,aaq,Yk,ZD,b];simp
theorem OU(p:Prog)(hb:p.fit)(hs:p.size<=10000000):Pure prog 23 [ag p.c] (.iv (cT 3 (kK p) yA)):=by
 refine ad ab func23 Z (by decide) ntmps23 Z (by simp) Z ?_;refine gA Z (zp (V3 p hb hs) ?_);refine zJ Z Z (fun k1=>?_) fun k1=>?_
 .have k1: ¬(bu p).1=0:=zX k1;rw[kK,be k1];refine gA Z (zL ?_);exact .nil _ _
 have k1:(bu p).1=0:=zY k1;have A:=gx k1;have F:=jr A;rw[kK,am k1];have I:=dz (ns p).length (gF p (aD p));refine gA Z (zp (tY A) ?_);refine gA Z (zp (tZ A hb) ?_);refine gA Z ?_;refine dF 5 3 Z ?_;refine ar 0 (ns p).length (Yl _) (fun i=>⟨[(3,.iv (strs (ns p))),(4,.iv (gI (ns p).length (gF p (aD p)))),(5,.sl 2 0 (((ns p).take i).flatMap (bz p)).length 3),(6,pI i)],[(2,jp (aC 3 (((ns p).take i).flatMap (bz p)) yA))],3⟩) (fun _=>True) [1] ac
  (zW (zS trivial)) fun i J _=>?_
 refine zE Z Z (fun d=>?_) fun d=>?_
 .have d:=co d;rw[Yn d];refine gA Z (cG (by first|exact .inr Z|exact .inl Z) Z Z (rfl) (rfl))
 have d:=ci d;have x:=yy d;have C:=yz F i;have G:=gE (f:=gF p (aD p)) d;refine gA Z ?_;refine ar 0 (ns p).length (Yl _) (fun k=>⟨[(3,.iv (strs (ns p))),(4,.iv (gI (ns p).length (gF p (aD p)))),(5,.sl 3 0 (((ns p).take i).flatMap (bz p)++ph p i k).length 3),(6,pI i),(7,pI k)],[(3,jp (aC 3 (((ns p).take i).flatMap (bz p)++ph p i k) yA))],4⟩) (fun _=>True) [2] ac
  (zM (bv (bv ⟨.row (by simp[ph]),rfl,bv (bv trivial)⟩)) (hR Z (by simp[ph]) Z trivial)) fun k S _=>?_
 refine zE Z Z (fun b=>?_) fun b=>?_
 .have b:=co b;have e:ph p i k=bz p ((ns p).getD i io):=Jh b;refine gA Z ⟨d,ac,[3],zM (bv (bv ⟨.row (by rw[e,x]),rfl,bv ac⟩)) (hR Z (by rw[e,x]) Z ac)⟩
 have b:=ci b;have y:=jR (f:=gF p (aD p)) d b;have B:=Me p i k;have D:(((ns p).take i).flatMap (bz p)++ph p i k).length<=100000:=by rw[Yg];omega
 refine zJ Z Z (fun j=>?_) fun j=>?_
 .have j:gF p (aD p) i k>0:=by
   rw[<-y];exact zT j
  have u:((ns p).take i).flatMap (bz p)++ph p i (k+1)=(((ns p).take i).flatMap (bz p)++ph p i k)++ [((ns p).getD i io,(ns p).getD k io,lw (((dA (ns p).length (gF p (aD p))).getD i io).getD k io=2))]:=by
   rw[Md b j,y,Yu];rfl
  generalize((ns p).take i).flatMap (bz p)++ph p i k=L at*
  refine gA Z ⟨b,ac,[5],zM (bv (bv ⟨.row (by rw[u,Yg];rfl),rfl,bv (bv ac)⟩)) (hR Z (by rw[u,Yk];rfl) Z ac)⟩
 .have j: ¬gF p (aD p) i k>0:=by
   rw[<-y];exact zF j
  have u:=P4 b j;refine gA Z ⟨b,ac,[3],zM (bv (bv ⟨.row (by rw[u]),rfl,bv (bv ac)⟩)) (hR Z (by rw[u]) Z ac)⟩
end Go.Proofs.YtflegjieadkonaaGreatDoor
namespace Go.Proofs.YtflegjieadkonaaGreatDoor
open Go Go.Al
section
section
variable {e s:Nat->Nat->Bool}
theorem WO{h:Nat->Nat}{K:Nat}(hh: ∀x,h x<=K)(a b x:Nat):Go.Lv.rx e s h a b x<=K+1:=by
 unfold Go.Lv.rx;have d:=hh b;have j:=hh x;have u:Go.Lv.wt s a b<=1:=by unfold Go.Lv.wt;split<;>omega
 split
 .show(if x=a then h b+Go.Lv.wt s a b else h x)<=_;split<;>omega
 .omega
theorem Kx{h:Nat->Nat}{K:Nat}(hh: ∀x,h x<=K)(a:Nat): ∀m x,Go.Lv.row e s h a m x<=K+m
 |0,x=>hh x
 |m+1,x=>WO (Kx hh a m) a m x
theorem KD{h:Nat->Nat}{K:Nat}(hh: ∀x,h x<=K)(n:Nat): ∀m x,Go.Lv.GV e s n h m x<=K+m*n
 |0,x=>by rw[aas];exact hh x
 |m+1,x=>by
  have:=Kx (e:=e) (s:=s) (KD hh n m) m n x;rw[Zz,Nat.one_mul,<-ZR];exact this
theorem LA(n:Nat): ∀t x,Go.Lv.high e s n t x<=t*(n*n)
 |0,_=>Yl _
 |t+1,x=>by
  have:=KD (e:=e) (s:=s) (LA n t) n n x;rw[Zz,Nat.one_mul];exact this
theorem WR{n t a b:Nat}(hn:n<=64)(y:t<=n)(ha:a<=n)(hb:b<=n)(x:Nat):Go.Lv.row e s (Go.Lv.GV e s n (Go.Lv.high e s n t) a) a b x<=1000000:=by
 have h:=Kx (e:=e) (s:=s) (KD (e:=e) (s:=s) (LA (e:=e) (s:=s) n t) n a) a b x;have d:n*n<=64*64:=abw hn hn;have j:t*(n*n)<=64*(64*64):=abw (by omega) d;have u:a*n<=64*64:=abw (by omega) hn;omega
end
def tp(n:Nat)(h:Nat->Nat):List Int:=(Yv n).map fun i=>(h i:Int)
theorem w7(n:Nat)(h:Nat->Nat):(tp n h).length=n:=by simp[tp]
theorem FV{n:Nat}{h:Nat->Nat}{b:Nat}(hb:b<n):(tp n h).getD b io=(h b:Int):=by
 unfold tp;rw[Ye,lO hb];rfl
theorem PN{n:Nat}{e s:Nat->Nat->Bool}{h:Nat->Nat}{a b:Nat}(ha:a<n)(he:e a b=lc)(y:h a<h b+Go.Lv.wt s a b):tp n (Go.Lv.rx e s h a b)=(tp n h).set a ((h b+Go.Lv.wt s a b:Nat):Int):=by
 have u:Go.Lv.rx e s h a b=fun x=>if x=a then h b+Go.Lv.wt s a b else h x:=by unfold Go.Lv.rx;rw[am ⟨he,y⟩]
 have:=p3 (n:=n) (g:=fun i=>(h i:Int)) (g':=fun i=>(Go.Lv.rx e s h a b i:Int)) ha fun j A=>by
  rw[u];by_cases d:j=a
  .simp[d]
  .simp[d]
 unfold tp;rw[<-this];congr 1;rw[u];simp
theorem Tx{n:Nat}{e s:Nat->Nat->Bool}{h:Nat->Nat}{a b:Nat}(hc: ¬(e a b=lc∧h a<h b+Go.Lv.wt s a b)):tp n (Go.Lv.rx e s h a b)=tp n h:=by
 unfold Go.Lv.rx;rw[be hc]
theorem TP{p:Prog}{a b:Nat}(ha:a<(ns p).length)(hb:b<(ns p).length):eD p a b=lc↔gF p (aD p) a b>0:=by
 unfold eD gF;rw[Go.Rg.kg];constructor
 .rintro⟨_,_,h⟩;have:gD (aD p) (vD p a) (vD p b)≠0:=zT h;omega
 .exact fun h=>⟨ha,hb,decide_eq_true (show gD (aD p) (vD p a) (vD p b)≠0 by omega)⟩
theorem WJ{p:Prog}{a b:Nat}(h:gF p (aD p) a b=2):Go.Lv.wt (sD p) a b=1:=by
 unfold gF at h;show(if lw (gD (aD p) (vD p a) (vD p b)=2)=lc then 1 else 0)=1;exact am (decide_eq_true (by omega))
theorem Uu{p:Prog}{a b:Nat}(h: ¬gF p (aD p) a b=2):Go.Lv.wt (sD p) a b=0:=by
 unfold gF at h;show(if lw (gD (aD p) (vD p a) (vD p b)=2)=lc then 1 else 0)=0;refine be fun g=>?_;have:gD (aD p) (vD p a) (vD p b)=2:=zT g;omega
abbrev WU(p:Prog)(t:Nat)(f:AF):AF:=(3,.ptr 1 0)::(5,.iv (strs (ns p)))::(6,.iv (gI (ns p).length (gF p (aD p))))::(7,.sl 3 0 (ns p).length 1)::(8,pI t)::f
abbrev WT(p:Prog)(h:Nat->Nat):AH:=[(1,jp (ak aT.z.c)),(3,jp (aC 1 (tp (ns p).length h) aY))]
set_option maxHeartbeats 1000000 in
theorem Kq(p:Prog)(hb:p.fit)(hs:p.size<=10000000):Pure Tryz.prog 16 [ag p.c] (.bX [.iv (cT 2 (gu p) EZ),ag (dD p).c]):=by
 refine ad ab Tryz.func16 Z (by decide) Tryz.ntmps16 Z (by simp) Z ?_;refine gA Z (zp (GP p hb hs) ?_);refine zJ Z Z (fun k1=>?_) fun k1=>?_
 .have k1: ¬(dD p).1=0:=zX k1;rw[gu,be k1];refine gA Z (zL ?_);exact .bX ⟨.nil _ _,.refl _,ac⟩
 have k1:(dD p).1=0:=zY k1;obtain⟨k0,kz⟩:=uH k1;have hf:=gx k0;have hn:=jr hf;rw[gu,am k1];have t0:=dz (ns p).length (gF p (aD p));refine gA Z (zp (tY hf) ?_);refine gA Z (zp (tZ hf hb) ?_);rcases Nat.eq_zero_or_pos (ns p).length with h0|h0
 .have f0:bS p=[]:=ZP.1 (by rw[gZ,h0]);refine gA Z (yl ab 1 (fun _=> []) Z Z Z Z Z Z Z (by omega) (by omega) Z ?_);refine gA Z ?_;refine ar 0 1 (Yl _) (fun t=>⟨[(3,.ptr 1 0),(5,.iv (strs (ns p))),(8,pI t)],[(1,jp (ak aT.z.c))],4⟩) (fun _=>True) [] ac
   (zW (zK trivial)) fun t ht _=>?_
  refine zJ Z Z (fun I=>?_) fun I=>?_
  .have I:t<=(ns p).length:=by simpa using I
   refine gA Z ?_;refine ar 0 0 (Yl _) (fun a=>⟨[(3,.ptr 1 0),(5,.iv (strs (ns p))),(8,pI t),(9,pI a)],[(1,jp (ak aT.z.c))],4⟩) (fun _=>True) [] ac
    (zW (zK trivial)) fun a ha _=>?_
   refine zJ Z Z (fun d=>?_) fun d=>?_
   .have d:a<(ns p).length:=by simpa using d
    omega
   .refine gA Z ?_;exact⟨by omega,ac,[],zW (zK ac)⟩
  .refine gA Z ?_;refine ar 0 0 (Yl _) (fun i=>⟨[(3,.ptr 1 0),(5,.iv (strs (ns p))),(12,.iv (.v (.slice kw 0 0))),(13,pI i)],[(1,jp (ak aT.z.c))],4⟩) (fun _=>True) [] ac
    (zW (zK trivial)) fun i hi _=>?_
   refine zJ Z Z (fun d=>?_) fun d=>?_
   .have d:=ci d;omega
   .rw[f0,kz];refine gA Z (zL ?_);exact .bX ⟨.nil _ _,.refl _,ac⟩
 refine gA Z (AE ab (ns p).length (ns p).length Z Z Z Z Z Z Z Z Z h0 (by omega) (by show 8*(ns p).length<=_;omega) Z (by decide) (z:=[pI 0]) Z (.inr ⟨rfl,rfl⟩) Z ?_);refine gA Z ?_;refine ar 0 ((ns p).length+1) (Yl _) (fun t=>⟨WU p t [],WT p (Go.Lv.high (eD p) (sD p) (ns p).length t),4⟩) (fun _=>True) [] ac
  (zW (zK (hR Z (by
   show ZW (ns p).length [pI 0]=(tp (ns p).length fun _=>0).map fun x=>(aY x).map PV.iv;unfold tp;rw[Z4];apply ZS;intro j;rw[aad,Yo];rcases Zj j (ns p).length with hj|hj
   .rw[am hj,ZL hj];rfl
   .rw[be (by omega),Z0 (by simpa using hj)];rfl) Z trivial))) fun t ht _=>?_
 refine zJ Z Z (fun I=>?_) fun I=>?_
 .have I:t<=(ns p).length:=by simpa using I
  refine gA Z ?_;refine ar 0 (ns p).length (Yl _) (fun a=>⟨WU p t [(9,pI a)],WT p (Go.Lv.GV (eD p) (sD p) (ns p).length (Go.Lv.high (eD p) (sD p) (ns p).length t) a),4⟩) (fun _=>True) [] ac
   (zW (zK (zS trivial))) fun a ha _=>?_
  refine zE Z Z (fun d=>?_) fun d=>?_
  .have d:(ns p).length<=a:=by simpa using d
   have b0:a=(ns p).length:=by omega
   refine gA Z ⟨by omega,ac,[],zW (zK (hR Z (by rw[b0];rfl) Z ac))⟩
  have d:a<(ns p).length:=by simpa using d
  have s0:=gE (f:=gF p (aD p)) d;refine gA Z ?_;refine ar 0 (ns p).length (Yl _) (fun b=>⟨WU p t [(9,pI a),(10,pI b)],WT p (Go.Lv.row (eD p) (sD p) (Go.Lv.GV (eD p) (sD p) (ns p).length (Go.Lv.high (eD p) (sD p) (ns p).length t) a) a b),4⟩) (fun _=>True) [] ac
   (zW (zK (zS trivial))) fun b c0 _=>?_
  have J:=WR (e:=eD p) (s:=sD p) (n:=(ns p).length) (t:=t) (a:=a) (b:=b) hn I ha c0;have C:Go.Lv.row (eD p) (sD p) (Go.Lv.GV (eD p) (sD p) (ns p).length (Go.Lv.high (eD p) (sD p) (ns p).length t) a) a (b+1)=Go.Lv.rx (eD p) (sD p) (Go.Lv.row (eD p) (sD p) (Go.Lv.GV (eD p) (sD p) (ns p).length (Go.Lv.high (eD p) (sD p) (ns p).length t) a) a b) a b:=rfl;have D:Go.Lv.row (eD p) (sD p) (Go.Lv.GV (eD p) (sD p) (ns p).length (Go.Lv.high (eD p) (sD p) (ns p).length t) a) a (ns p).length=Go.Lv.GV (eD p) (sD p) (ns p).length (Go.Lv.high (eD p) (sD p) (ns p).length t) (a+1):=rfl;refine zE Z Z (fun B=>?_) fun B=>?_
  .have B:(ns p).length<=b:=by simpa using B
   have d0:b=(ns p).length:=by omega
   subst d0;refine gA Z ⟨d,ac,[],zW (zK (hR Z (by rw[<-D]) Z ac))⟩
  have B:b<(ns p).length:=by simpa using B
  have e1:=jR (f:=gF p (aD p)) d B;have S:=TP (p:=p) d B;have n0:=WJ (p:=p) (a:=a) (b:=b);have m0:=Uu (p:=p) (a:=a) (b:=b);clear D;generalize Go.Lv.row (eD p) (sD p) (Go.Lv.GV (eD p) (sD p) (ns p).length (Go.Lv.high (eD p) (sD p) (ns p).length t) a) a b=h at J C ⊢;have g0:=w7 (ns p).length h;have ea:=FV (h:=h) d;have eb:=FV (h:=h) B;have o0:=J a;have p0:=J b;have A:=PN (n:=(ns p).length) (e:=eD p) (s:=sD p) (h:=h) (a:=a) (b:=b) d;have F:=Tx (n:=(ns p).length) (e:=eD p) (s:=sD p) (h:=h) (a:=a) (b:=b);refine gM 8 Z (bB ab Z Z Z Z Z (fm (l:=tp (ns p).length h) (f:=aY) (i:=b) (by omega)) Z Z ?_);refine zJ Z Z (fun Y=>?_) fun Y=>?_
  .have Y:gF p (aD p) a b=2:=by rw[<-e1];exact zT Y
   have hw:=n0 Y;rw[hw]at A F;refine zE Z Z (fun G=>?_) fun G=>?_
   .have G: ¬gF p (aD p) a b>0:=by rw[<-e1];exact zF G
    omega
   refine gM 6 Z (bB ab Z Z Z Z Z (fm (l:=tp (ns p).length h) (f:=aY) (i:=a) (by omega)) Z Z ?_);refine zJ Z Z (fun y=>?_) fun y=>?_
   .have y:h a<h b+1:=by
     have y:lw ((tp (ns p).length h).getD a io<(tp (ns p).length h).getD b io+1)=lc:=y;rw[ea,eb]at y;have:=zT y;omega
    have u:=A (S.2 (by omega)) y;refine gA Z ?_;refine hZ ab Z Z Z (i:=3) (sz:=1) (q:=0+a) Z Z Z Z (by simp only[YH];omega) Z Z Z Z ?_
    refine gA Z ⟨B,ac,[],zW (zK (hR Z (by
     rw[C,u,ZV,YC];show _=(List.map _ _).set a [PV.iv (iI ((h b+1:Nat):Int))]
     rw[show((h b+1:Nat):Int)=(tp (ns p).length h).getD b io+1 by rw[eb];omega];rfl) Z ac))⟩
   .have y: ¬h a<h b+1:=by
     have y:lw ((tp (ns p).length h).getD a io<(tp (ns p).length h).getD b io+1)=li:=y;rw[ea,eb]at y;have:=zF y;omega
    have u:=F (fun g=>y g.2);refine gA Z ⟨B,ac,[],zW (zK (hR Z (by rw[C,u]) Z ac))⟩
  .have Y: ¬gF p (aD p) a b=2:=by rw[<-e1];exact zF Y
   have hw:=m0 Y;rw[hw]at A F;refine zE Z Z (fun G=>?_) fun G=>?_
   .have G: ¬gF p (aD p) a b>0:=by rw[<-e1];exact zF G
    have u:=F (fun g=>G (S.1 g.1));refine gA Z ⟨B,ac,[],zW (zK (hR Z (by rw[C,u]) Z ac))⟩
   have G:gF p (aD p) a b>0:=by rw[<-e1];exact zT G
   refine gM 6 Z (bB ab Z Z Z Z Z (fm (l:=tp (ns p).length h) (f:=aY) (i:=a) (by omega)) Z Z ?_);refine zJ Z Z (fun y=>?_) fun y=>?_
   .have y:h a<h b:=by
     have y:lw ((tp (ns p).length h).getD a io<(tp (ns p).length h).getD b io)=lc:=y;rw[ea,eb]at y;have:=zT y;omega
    have u:=A (S.2 G) (by omega);refine gA Z ?_;refine hZ ab Z Z Z (i:=3) (sz:=1) (q:=0+a) Z Z Z Z (by simp only[YH];omega) Z Z Z Z ?_
    refine gA Z ⟨B,ac,[],zW (zK (hR Z (by
     rw[C,u,ZV,YC];show _=(List.map _ _).set a [PV.iv (iI ((h b+0:Nat):Int))]
     rw[show((h b+0:Nat):Int)=(tp (ns p).length h).getD b io by rw[eb];omega];rfl) Z ac))⟩
   .have y: ¬h a<h b+0:=by
     have y:lw ((tp (ns p).length h).getD a io<(tp (ns p).length h).getD b io)=li:=y;rw[ea,eb]at y;have:=zF y;omega
    have u:=F (fun g=>y g.2);refine gA Z ⟨B,ac,[],zW (zK (hR Z (by rw[C,u]) Z ac))⟩
 have I:(ns p).length<t:=by
  have h: ¬t<=(ns p).length:=by simpa using I
  omega
 have j0:t=(ns p).length+1:=by omega
 have e0:Go.Lv.high (eD p) (sD p) (ns p).length t=kr p:=by rw[j0];rfl
 rw[e0];refine gM 1 Z (lG [] (t:=⟨[(3,.ptr 1 0),(5,.iv (strs (ns p))),(7,.sl 3 0 (ns p).length 1)],[(1,jp (ak aT.z.c)),(3,jp (aC 1 (tp (ns p).length (kr p)) aY))],4⟩) (zW (zK (zS ac))) ?_);refine uv 3 (fun k=>aY ((tp (ns p).length (kr p)).getD k io)) Z (cL Z) (by simp[AF.rk,PV.bG,w7]) ⟨oq _ _ _ _,jT _ _ _ _ _ _,ac⟩ ?_
 refine lG (L:=[]) (t:=⟨[(3,.ptr 1 0),(5,.iv (strs (ns p))),(7,.iv (cT 1 (tp (ns p).length (kr p)) aY))],[(1,jp (ak aT.z.c))],4⟩) (zM (bv (bv ⟨(by
  show aG (.iv (.dp 1 (ns p).length fun k=>aY ((tp (ns p).length (kr p)).getD (0+k) io))) (.iv (cT 1 (tp (ns p).length (kr p)) aY));unfold cT;rw[w7];simp only[YC]
  exact .refl _),rfl,ac⟩)) (zK ac)) ?_
 have q0:=w7 (ns p).length (kr p);refine gA Z ?_;refine dF 12 2 Z ?_;refine ar 0 (ns p).length (Yl _) (fun i=>⟨[(3,.ptr 1 0),(5,.iv (strs (ns p))),(7,.iv (cT 1 (tp (ns p).length (kr p)) aY)),(12,.sl 5 0 ((bS p).take i).length 2),(13,pI i)],[(1,jp (ak aT.z.c)),(5,jp (aC 2 ((bS p).take i) EZ))],6⟩) (fun _=>True) [4] ac
  (zW (zK (zS trivial))) fun i hi _=>?_
 refine zJ Z Z (fun d=>?_) fun d=>?_
 .have d:=ci d;have r0:((bS p).take i).length<=64:=by rw[YV,gZ];omega
  have a0:(bS p).take (i+1)=(bS p).take i++ [(vD p i,kr p i)]:=by rw[aK (by rw[gZ];exact d),x8 p d]
  have i0:=FV (h:=kr p) d;refine gA Z ?_
  exact⟨d,ac,[7],zM (bv (bv (bv ⟨.row (by rw[a0,Yg];rfl),rfl,bv ac⟩))) (zK (hR Z (by
   rw[a0,Yk];show _=_++ [[PV.iv (iS (vD p i)),PV.iv (iI (kr p i:Int))]]
   rw[<-i0];rfl) Z ac))⟩
 .have d:=co d;have e:(bS p).take i=bS p:=Yn (by rw[gZ];exact d);rw[kz];refine gA Z ⟨.inr Z,_,rfl,?_⟩;rw[e];refine .row 5 (fun k=>EZ ((bS p).getD k io)) Z (cL Z) ?_ (.done (.bX ⟨?_,.refl _,ac⟩))
  .refine⟨?_,⟨ac,ac,ac,ac⟩,ac⟩;show PV.bG 5 2 _ (.sl 5 0 (bS p).length 2);simp[PV.bG]
  .show aG (.iv (.dp 2 (bS p).length fun k=>EZ ((bS p).getD (0+k) io))) (.iv (cT 2 (bS p) EZ));simp only[YC];exact .refl _
end
end Go.Proofs.YtflegjieadkonaaGreatDoor
namespace Go.Proofs.YtflegjieadkonaaGreatDoor
open Go Go.Al Go.Proofs.Tryz
theorem tW{α:Type}[Inhabited α]{a b:List α}(x:a.length=b.length)(h: ∀j,j<a.length->a.getD j io=b.getD j io):a=b:=by
 refine List.ext_getElem x fun j d u=>?_;have:=h j d;rwa[Ye,Ye,Yi d,Yi u]at this
theorem Fh(a b:List aj)(ha:a.length<=1000000):Pure prog 64 [.iv (strs a),.iv (strs b)] (pB (lw (a=b))):=by
 refine ad ab func64 Z (by decide) ntmps64 Z (by simp) Z ?_;refine zJ Z Z (fun d=>?_) fun d=>?_
 .have d: ¬a=b:=fun g=>by rw[g]at d;simp at d
  rw[decide_eq_false d];exact zU Z
 have d:a.length=b.length:=by have d:=d;simp at d;omega
 refine gA Z ?_;refine ar 0 a.length (Yl _) (fun i=>⟨[(0,.iv (strs a)),(1,.iv (strs b)),(5,pI i)],[],0⟩) (fun i=> ∀j,j<i->a.getD j io=b.getD j io) [] (fun j y=>(nomatch y))
  (kT Z Z (bv (bv (bv trivial))) Z) fun i C A=>?_
 refine zJ Z Z (fun x=>?_) fun x=>?_
 .have x:=ci x;refine zJ Z Z (fun u=>?_) fun u=>?_
  .have u: ¬a.getD i io=b.getD i io:=by simpa using u
   have B: ¬a=b:=fun g=>u (by rw[g]);rw[decide_eq_false B];exact zU Z
  .have u:a.getD i io=b.getD i io:=by simpa using u
   refine gA Z ⟨x,fun j y=>(Zp.1 y).elim (A j) (fun e=>e▸u),[],kT Z Z (bv (bv (bv ac))) Z⟩
 .have x:=co x;rw[decide_eq_true (tW d fun j y=>A j (by omega))];exact zU Z
theorem C7(a b:List (aj×Nat))(ha:a.length<=1000000):Pure prog 26 [.iv (cT 2 a EZ),.iv (cT 2 b EZ)] (pB (lw (a=b))):=by
 refine ad ab func26 Z (by decide) ntmps26 Z (by simp) Z ?_;refine zJ Z Z (fun u=>?_) fun u=>?_
 .have u: ¬a=b:=fun g=>by rw[g]at u;simp at u
  rw[decide_eq_false u];exact zU Z
 have u:a.length=b.length:=by have u:=u;simp at u;omega
 refine gA Z ?_;refine ar 0 a.length (Yl _) (fun i=>⟨[(0,.iv (cT 2 a EZ)),(1,.iv (cT 2 b EZ)),(5,pI i)],[],0⟩) (fun i=> ∀j,j<i->a.getD j io=b.getD j io) [] (fun j B=>(nomatch B))
  (kT Z Z (bv (bv (bv trivial))) Z) fun i F C=>?_
 refine zJ Z Z (fun A=>?_) fun A=>?_
 .have A:=ci A;refine zJ Z Z (fun d=>?_) fun d=>?_
  .have d: ¬a.getD i io=b.getD i io:=by
    have d:(!(lw ((a.getD i io).1=(b.getD i io).1)&&(lw (((a.getD i io).2:Int)=(b.getD i io).2)&&lc)))=lc:=d;generalize a.getD i io=x at d;generalize b.getD i io=y at d;rintro rfl;simp at d
   have D: ¬a=b:=fun g=>d (by rw[g]);rw[decide_eq_false D];exact zU Z
  .have d:a.getD i io=b.getD i io:=by
    have d:(!(lw ((a.getD i io).1=(b.getD i io).1)&&(lw (((a.getD i io).2:Int)=(b.getD i io).2)&&lc)))=li:=d;generalize a.getD i io=x at d;generalize b.getD i io=y at d;obtain⟨G,I⟩:=x;obtain⟨J,S⟩:=y;simp only[aaF,ZJ,YB,decide_eq_true_eq]at d;obtain⟨g1,g2⟩:=d;rw[g1,Int.ofNat_inj.1 g2]
   refine gA Z ⟨A,fun j B=>(Zp.1 B).elim (C j) (fun e=>e▸d),[],kT Z Z (bv (bv (bv ac))) Z⟩
 .have A:=co A;rw[decide_eq_true (tW u fun j B=>C j (by omega))];exact zU Z
theorem Fj(a b:List Wx)(ha:a.length<=1000000):Pure prog 22 [.iv (cT 3 a yA),.iv (cT 3 b yA)] (pB (lw (a=b))):=by
 refine ad ab func22 Z (by decide) ntmps22 Z (by simp) Z ?_;refine zJ Z Z (fun u=>?_) fun u=>?_
 .have u: ¬a=b:=fun g=>by rw[g]at u;simp at u
  rw[decide_eq_false u];exact zU Z
 have u:a.length=b.length:=by have u:=u;simp at u;omega
 refine gA Z ?_;refine ar 0 a.length (Yl _) (fun i=>⟨[(0,.iv (cT 3 a yA)),(1,.iv (cT 3 b yA)),(5,pI i)],[],0⟩) (fun i=> ∀j,j<i->a.getD j io=b.getD j io) [] (fun j B=>(nomatch B))
  (kT Z Z (bv (bv (bv trivial))) Z) fun i F C=>?_
 refine zJ Z Z (fun A=>?_) fun A=>?_
 .have A:=ci A;refine zJ Z Z (fun d=>?_) fun d=>?_
  .have d: ¬a.getD i io=b.getD i io:=by
    have d:(!(lw ((a.getD i io).1=(b.getD i io).1)&&(lw ((a.getD i io).2.1=(b.getD i io).2.1)&&((a.getD i io).2.2==(b.getD i io).2.2&&lc))))=lc:=d;generalize a.getD i io=x at d;generalize b.getD i io=y at d;rintro rfl;simp at d
   have D: ¬a=b:=fun g=>d (by rw[g]);rw[decide_eq_false D];exact zU Z
  .have d:a.getD i io=b.getD i io:=by
    have d:(!(lw ((a.getD i io).1=(b.getD i io).1)&&(lw ((a.getD i io).2.1=(b.getD i io).2.1)&&((a.getD i io).2.2==(b.getD i io).2.2&&lc))))=li:=d;generalize a.getD i io=x at d;generalize b.getD i io=y at d;obtain⟨G,I,J⟩:=x;obtain⟨S,Y,y3⟩:=y;simp only[aaF,ZJ,YB,decide_eq_true_eq,beq_iff_eq]at d;obtain⟨g1,g2,g3⟩:=d;rw[g1,g2,g3]
   refine gA Z ⟨A,fun j B=>(Zp.1 B).elim (C j) (fun e=>e▸d),[],kT Z Z (bv (bv (bv ac))) Z⟩
 .have A:=co A;rw[decide_eq_true (tW u fun j B=>C j (by omega))];exact zU Z
theorem Fi(a b:List (List aj))(ha:a.length<=1000000)(A: ∀r∈a,r.length<=1000000):Pure prog 24 [.iv (cT 1 a pn),.iv (cT 1 b pn)] (pB (lw (a=b))):=by
 refine ad ab func24 Z (by decide) ntmps24 Z (by simp) Z ?_;refine zJ Z Z (fun d=>?_) fun d=>?_
 .have d: ¬a=b:=fun g=>by rw[g]at d;simp at d
  rw[decide_eq_false d];exact zU Z
 have d:a.length=b.length:=by have d:=d;simp at d;omega
 refine gA Z ?_;refine ar 0 a.length (Yl _) (fun i=>⟨[(0,.iv (cT 1 a pn)),(1,.iv (cT 1 b pn)),(5,pI i)],[],0⟩) (fun i=> ∀j,j<i->a.getD j io=b.getD j io) [] (fun j y=>(nomatch y))
  (kT Z Z (bv (bv (bv trivial))) Z) fun i D B=>?_
 refine zJ Z Z (fun u=>?_) fun u=>?_
 .have u:=ci u;refine gA Z (xc ab [] (Pure.W3 (Fh (a.getD i io) (b.getD i io) (A _ (bx u)))) Z Z Z Z Z Z Z Z Z Z Z Z (by(repeat' (first|exact ac|exact rfl|exact aG.refl _|exact aG.bk (by assumption)|apply YW))<;>first|omega|(simp only[YK];omega)|(simp;done)|(simp;omega)) Z (by(repeat' (first|exact ac|exact rfl|exact aG.refl _|exact aG.bk (by assumption)|apply YW))<;>first|omega|(simp only[YK];omega)|(simp;done)|(simp;omega)) ?_);refine zJ Z Z (fun x=>?_) fun x=>?_
  .have x: ¬a.getD i io=b.getD i io:=by simpa using x
   have C: ¬a=b:=fun g=>x (by rw[g]);rw[decide_eq_false C];exact zU Z
  .have x:a.getD i io=b.getD i io:=by simpa using x
   refine gA Z ⟨u,fun j y=>(Zp.1 y).elim (B j) (fun e=>e▸x),[],kT Z Z (bv (bv (bv ac))) Z⟩
 .have u:=co u;rw[decide_eq_true (tW d fun j y=>B j (by omega))];exact zU Z
end Go.Proofs.YtflegjieadkonaaGreatDoor
