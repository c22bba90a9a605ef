/-
  What the proofs of the claims need: part 5 of 6.
-/
import Derived.Test.YtflegjieadkonaaGreatDoorPart4
open And renaming intro→XA
open Bool renaming and_eq_false_iff→YJ,and_eq_true→Xg,and_false→Yz,eq_false_iff→X7,eq_iff_iff→Xy,false_and→Yi,false_eq_true→Yn,false_or→Ya,not_eq_false'→YA,not_eq_true→Yv,not_eq_true'→XF,not_false→Zi,or_assoc→ZV,or_eq_false_iff→XL,or_eq_true→XJ,or_false→YR,or_true→Zr,true_and→XV,true_or→Zq
open ByteArray renaming empty→W4,ext→aan,size→ZM,size_append→XU
open Classical renaming byContradiction→Yb
open Int renaming le_refl→YU,toNat_natCast→Xp
open List renaming all_eq_true→Xm,any_cons→ZS,any_eq_false→XO,any_eq_true→XM,append_assoc→Xa,append_nil→XE,cons_append→Ym,drop_eq_getElem_cons→ZO,eq_nil_of_length_eq_zero→Ys,ext_getElem?→YH,filter_cons→YD,find?_append→ZE,find?_cons→Yq,find?_eq_none→Yg,find?_eq_some_iff_getElem→YZ,find?_some→ZK,findIdx?_eq_none_iff→Zv,findIdx?_eq_some_iff_getElem→Ze,flatMap_append→YT,flatMap_cons→XZ,foldl_append→YI,foldl_cons→Xq,getD_cons_succ→Yk,getD_eq_getElem?_getD→WU,getElem?_append_left→Xf,getElem?_append_right→Xj,getElem?_cons_succ→Y3,getElem?_drop→Yc,getElem?_eq_getElem→WY,getElem?_eq_none→Zc,getElem?_eq_some_iff→WX,getElem?_map→W1,getElem?_of_mem→XP,getElem?_range→YF,getElem?_replicate→Zj,getElem?_set→XK,getElem?_take→XY,getElem_inj→Zt,getElem_mem→XD,length→Zn,length_append→WW,length_cons→Xx,length_eq_zero_iff→YO,length_filter_le→X6,length_map→Xr,length_nil→YB,length_set→YM,length_singleton→XC,length_take→XH,map_append→WZ,map_congr_left→Yx,map_cons→Xe,map_map→Y0,map_nil→XN,map_set→YN,mem_append→W7,mem_append_left→Xv,mem_append_right→Yp,mem_cons→Xb,mem_cons_of_mem→W8,mem_cons_self→Xd,mem_filter→Xs,mem_flatMap→Yw,mem_iff_getElem→Ye,mem_map→Xt,mem_map_of_mem→X9,mem_of_find?_eq_some→YV,mem_of_getElem?→Xo,mem_or_eq_of_mem_set→Zw,mem_range→Xu,mem_singleton→W5,mem_singleton_self→YP,mem_take_iff_getElem→Zf,nodup_cons→X5,nodup_nil→XT,not_mem_nil→Zs,pairwise_append→Y2,pairwise_cons→Yo,range→Xc,range_succ_eq_map→Zl,replicate→Zb,sum_cons→YK,take_append_drop→Zd,take_length→YE,take_of_length_le→W2,take_succ_cons→Yh
open Nat renaming add_assoc→Yu,add_zero→Y8,beq→Xn,ble→YQ,ble_eq_true_of_le→XB,blt→Xi,eq_of_beq_eq_true→Xh,le_add_left→Yt,le_of_ble_eq_true→WR,le_refl→W0,le_trans→Xz,lt_or_ge→X3,lt_succ_iff_lt_or_eq→Y1,lt_succ_self→YC,not_lt_zero→Y6,sub_self→ZX,zero_add→Xk,zero_le→W3
open Option renaming getD_some→Yl,map_eq_some_iff→W6,map_some→XW
open Option.some renaming inj→XX
open Prod renaming fst→Xl
open Array renaming getD_eq_getD_getElem?→WT
open Option.some renaming injEq→WV
open Array renaming range→aaa
open Array renaming getElem?_map→Zk
open Array renaming getElem?_eq_getElem→XS
open Nat renaming mul_le_mul_right→Xw
open Nat renaming add_mul→Yj
open Array renaming getElem?_append_left→X8
open Array renaming getElem?_toList→X4
set_option maxRecDepth 100000
namespace Go.Proofs.YtflegjieadkonaaGreatDoor
open Go Go.Al
section
variable {p:Prog}
def eD(p:Prog):Nat->Nat->Bool:=Go.Rg.ed (ns p) (eg p)
def sD(p:Prog)(i j:Nat):Bool:=EB p ((ns p).getD i default) ((ns p).getD j default)
def yO(p:Prog):List (List Nat):=Go.Co.fo (ns p).length (Go.Co.jE (ns p).length (ig p)) (Go.Co.cls (ig p)) (ns p).length (fun _=>false)
def vD(p:Prog)(i:Nat):aj:=(ns p).getD i default
theorem DO(p:Prog):eB p=(yO p).map fun c=>c.map (vD p):=rfl
theorem zU{n:Nat}{F:(Nat->Bool)->Nat->Bool}{K:Nat->Nat->Bool}: ∀(f:Nat) (d:Nat->Bool),∀c∈Go.Co.fo n F K f d,∀i∈c,i<n
 |0,_,c,hc,_,_=>by cases hc
 |f+1,d,c,hc,i,hi=>by
  unfold Go.Co.fo at hc;split at hc
  ·cases hc
  ·rcases Xb.1 hc with rfl|hc
   ·exact Xu.1 (Xs.1 hi).1
   ·exact zU f _ c hc i hi
theorem Ls{c:List Nat}(hc:c∈yO p){i:Nat}(hi:i∈c):i<(ns p).length:=zU _ _ c hc i hi
theorem w5(hf:jN p){i j:Nat}(hi:i<(ns p).length)(hj:j<(ns p).length)(h:vD p i=vD p j):i=j:=by
 have hn:=pj.J9 (fB hf.nodup);unfold vD at h;rw[WU,WU,WY hi,WY hj]at h;exact(Zt hn).1 h
def IQ(p:Prog)(k:Nat):Nat->Nat:=Go.Le.OG (ns p).length (eD p) (sD p) ((yO p).take k) fun _=>0
structure L8 (p:Prog) (k:Nat) (H:NM):Prop where
 is: ∀i,i<(ns p).length->bQ .str H (vD p i) 0=(IQ p k i:Int)
 le: ∀i,IQ p k i<=k
theorem C9(n:Nat)(e s:Nat->Nat->Bool)(c:List Nat): ∀(l:List (List Nat)) (h:Nat->Nat),Go.Le.OG n e s (l++ [c]) h=fun x=>if x∈c then Go.Le.top n e s (Go.Le.OG n e s l h) c else Go.Le.OG n e s l h x
 | [],h=>rfl
 |d::l,h=>by
  rw[Ym,Go.Le.OG,C9 n e s c l];rfl
theorem Sn:L8 p 0 []:=⟨fun i _=>by rfl,fun i=>W0 _⟩
theorem F6{a:aj}{x:(KC.str).K×Int}(hx:x∈cY (aK p) a):x.2=(gD (aK p) a x.1:Int):=by
 have hn:=(qN (aK p) a).1;rw[<-F8];generalize cY (aK p) a=m at hx hn
 induction m with
 |nil=>cases hx
 |cons y r ih=>
  obtain⟨s,v⟩:=y;rw[Xe,X5]at hn;rcases Xb.1 hx with rfl|hx
  ·simp[bQ]
  ·have: ¬s=x.1:=fun e=>hn.1 (Xt.2 ⟨x,hx,e.symm⟩)
   simp only[bQ,be this];exact ih hx hn.2
theorem F7(hf:jN p){a:aj}{x:(KC.str).K×Int}(hx:x∈cY (aK p) a):1<=x.2∧x.2<=2:=by
 have h1:=F6 hx;have h2:=SC p a x.1;obtain⟨k,hk⟩:=((qN (aK p) a).2 x.1).1 (X9 hx);have h3:=QW hk;have h4:=(hf.aK hk).2.2;simp only at h4;omega
theorem nM(hf:jN p){i:Nat}(hi:i<(ns p).length){x:(KC.str).K×Int}(hx:x∈cY (aK p) (vD p i)): ∃j,j<(ns p).length∧vD p j=x.1∧eD p i j=true∧x.2=(Go.Lv.wt (sD p) i j:Int)+1:=by
 have hs:x.1∈a8 p (vD p i):=by rw[<-mM hf,c8];exact X9 hx
 obtain⟨h1,h2⟩:=Xs.1 hs;obtain⟨j,hj,hv⟩:=Go.Rg.ki h1;have a0:vD p j=x.1:=hv;refine⟨j,hj,hv,Go.Rg.j9.2 ⟨hi,hj,?_⟩,?_⟩
 ·show eg p (vD p i) (vD p j)=true;rw[a0];exact h2
 ·have h3:=F6 hx;have h4:=F7 hf hx;unfold Go.Lv.wt sD;show x.2=((if EB p (vD p i) (vD p j)=true then 1 else 0:Nat):Int)+1;rw[a0];unfold EB;by_cases h5:gD (aK p) (vD p i) x.1=2
  ·rw[am (by simpa using h5)];omega
  ·rw[be (by simpa using h5)];omega
theorem Lf(hf:jN p){i j:Nat}(h:eD p i j=true): ∃x∈cY (aK p) (vD p i),x.1=vD p j∧x.2=(Go.Lv.wt (sD p) i j:Int)+1:=by
 obtain⟨hi,hj,he⟩:=Go.Rg.j9.1 h;have hs:vD p j∈a8 p (vD p i):=Xs.2 ⟨Go.Rg.get_mem hj,he⟩;rw[<-mM hf,c8]at hs;obtain⟨x,hx,a0⟩:=Xt.1 hs;obtain⟨j',b0,hv,_,hw⟩:=nM hf hi hx;have:j'=j:=w5 hf b0 hj (hv.trans a0);subst this;exact⟨x,hx,a0,hw⟩
def Ay(p:Prog)(H:NM)(c:List aj)(v:Int):Prop:=0<=v∧(∀a∈c,∀x∈cY (aK p) a,bQ .str H x.1 0+x.2-1<=v)∧(v=0∨ ∃a∈c,∃x∈cY (aK p) a,v=bQ .str H x.1 0+x.2-1)
theorem No(H:NM):Ay p H [] 0:=⟨YU _,fun _ h=>(nomatch h), .inl Z⟩
def rb(H a0:NM)(v:Int)(vs:List Nat):Int:=vs.foldr (fun j m=>max m (bQ .str H (a0.getD j default).1 0+(a0.getD j default).2-1)) v
theorem uw(H a0:NM)(v:Int): ∀vs:List Nat,v<=rb H a0 v vs∧(∀j∈vs,bQ .str H (a0.getD j default).1 0+(a0.getD j default).2-1<=rb H a0 v vs)∧
  (rb H a0 v vs=v∨ ∃j∈vs,rb H a0 v vs=bQ .str H (a0.getD j default).1 0+(a0.getD j default).2-1)
 | []=>⟨YU _,fun _ h=>(nomatch h), .inl Z⟩
 |j::vs=>by
  obtain⟨h1,h2,h3⟩:=uw H a0 v vs;show v<=max (rb H a0 v vs) _∧(∀i∈j::vs,_<=max (rb H a0 v vs) _)∧(max (rb H a0 v vs) _=v∨ ∃i∈j::vs,max (rb H a0 v vs) _=_)
  generalize hg:bQ .str H (a0.getD j default).1 0+(a0.getD j default).2-1=g;refine⟨by omega,fun i hi=>?_,?_⟩
  ·rcases Xb.1 hi with rfl|hi
   ·rw[hg];omega
   ·have:=h2 i hi;omega
  ·rcases Int.le_total (rb H a0 v vs) g with h4|h4
   ·exact .inr ⟨j,by simp,by rw[hg];omega⟩
   ·rcases h3 with h3|⟨i,hi,h3⟩
    ·exact .inl (by omega)
    ·exact .inr ⟨i,W8 _ hi,by omega⟩
theorem I9{H:NM}{c:List aj}{a:aj}{v:Int}(h:Ay p H c v){vs:List Nat}(h1: ∀j∈vs,j<(cY (aK p) a).length)(h2: ∀j,j<(cY (aK p) a).length->j∈vs):Ay p H (c++ [a]) (rb H (cY (aK p) a) v vs):=by
 obtain⟨g1,g2,g3⟩:=uw H (cY (aK p) a) v vs;refine⟨Int.le_trans h.1 g1,fun b hb x hx=>?_,?_⟩
 ·rcases W7.1 hb with hb|hb
  ·exact Int.le_trans (h.2.1 b hb x hx) g1
  ·rw[W5]at hb;subst hb;obtain⟨j,hj⟩:=XP hx;have a0:=(WX.1 hj).1;have:=g2 j (h2 j a0);rw[WU,hj]at this;exact this
 ·rcases g3 with g3|⟨j,hj,g3⟩
  ·rcases h.2.2 with h3|⟨b,hb,x,hx,h3⟩
   ·exact .inl (g3.trans h3)
   ·exact .inr ⟨b,Xv _ hb,x,hx,g3.trans h3⟩
  ·exact .inr ⟨a,by simp,_,bZ (h1 j hj),g3⟩
theorem Nn(hf:jN p){k:Nat}{H:NM}(hH:L8 p k H){c:List Nat}(hc:c∈yO p){v:Int}(h:Ay p H (c.map (vD p)) v):v=(Go.Le.top (ns p).length (eD p) (sD p) (IQ p k) c:Int):=by
 obtain⟨h1,h2,h3⟩:=h;apply Int.le_antisymm
 ·rcases h3 with h3|⟨a,ha,x,hx,h3⟩
  ·omega
  ·obtain⟨i,hi,rfl⟩:=Xt.1 ha;obtain⟨j,hj,hv,he,hw⟩:=nM hf (Ls hc hi) hx;have:=Go.Le.Ja (s:=sD p) (h:=IQ p k) hi hj he;rw[<-hv,hH.is j hj]at h3;omega
 ·rcases Go.Le.Er (n:=(ns p).length) (e:=eD p) (s:=sD p) (IQ p k) c with h4|⟨i,hi,j,hj,he,h4⟩
  ·rw[h4];exact h1
  ·obtain⟨x,hx,a0,hw⟩:=Lf hf he;have:=h2 _ (X9 hi) x hx;rw[a0,hH.is j hj]at this;omega
theorem RS{k:Nat}{H:NM}(hH:L8 p k H)(c:List Nat):Go.Le.top (ns p).length (eD p) (sD p) (IQ p k) c<=k+1:=by
 rcases Go.Le.Er (n:=(ns p).length) (e:=eD p) (s:=sD p) (IQ p k) c with h4|⟨i,hi,j,hj,he,h4⟩
 ·omega
 ·have:=hH.le j;have h5:Go.Lv.wt (sD p) i j<=1:=by unfold Go.Lv.wt;split<;>omega
  omega
theorem L8.step(hf:jN p){k:Nat}{H H':NM}(hH:L8 p k H)(hk:k<(yO p).length){v:Int}(h:Ay p H (((yO p).getD k default).map (vD p)) v)
  (h':(∀b∈((yO p).getD k default).map (vD p),bQ .str H' b 0=v)∧ ∀b:aj,b∉((yO p).getD k default).map (vD p)->bQ .str H' b 0=bQ .str H b 0):L8 p (k+1) H':=by
 have hc:(yO p).getD k default∈yO p:=bZ hk;have hv:=Nn hf hH hc h;have b0:=RS hH ((yO p).getD k default);have a0:IQ p (k+1)=fun x=>if x∈(yO p).getD k default then Go.Le.top (ns p).length (eD p) (sD p) (IQ p k) ((yO p).getD k default) else IQ p k x:=by
  unfold IQ;rw[aN hk,C9]
 refine⟨fun i hi=>?_,fun i=>?_⟩
 ·rw[a0];by_cases hm:i∈(yO p).getD k default
  ·rw[h'.1 _ (X9 hm),hv];simp only[hm,if_true]
  ·rw[h'.2 _ ?_,hH.is i hi]
   ·simp only[hm,if_false]
   ·intro h2;obtain⟨j,hj,he⟩:=Xt.1 h2;have:=w5 hf (Ls hc hj) hi he;subst this;exact hm hj
 ·rw[a0];simp only;split
  ·exact b0
  ·have:=hH.le i;omega
end
end Go.Proofs.YtflegjieadkonaaGreatDoor
namespace Go.Proofs.YtflegjieadkonaaGreatDoor
open Go Go.Al Go.Proofs.Tryz
def Uk(x:aj×Nat):List IV:=[iS x.1,iI x.2]
def tL(p:Prog):List (aj×Nat):=if(iy p).1=0 then dJ p else[]
theorem DR{p:Prog}(h:(iy p).1=0):(bF p).1=0∧iy p=aZ.z:=by
 unfold iy at h ⊢;by_cases k1:(bF p).1=0
 ·rw[be (by simpa using k1)]at h ⊢;refine⟨k1,?_⟩;cases hf:(p.rules.map (kH p)).find? fun d=>decide (d.1≠0) with
  |none=>rfl
  |some d=>
   rw[hf]at h;have:=ZK hf;simp only[decide_eq_true_eq]at this;exact absurd h this
 ·rw[am k1]at h;exact absurd h k1
theorem sT{n:Nat}{F:(Nat->Bool)->Nat->Bool}{K:Nat->Nat->Bool}: ∀(f:Nat) (d:Nat->Bool),(Go.Co.fo n F K f d).length<=f∧ ∀c∈Go.Co.fo n F K f d,c.length<=n
 |0,_=>⟨W0 _,fun _ h=>(nomatch h)⟩
 |f+1,d=>by
  unfold Go.Co.fo;split
  ·exact⟨W3 _,fun _ h=>(nomatch h)⟩
  ·obtain⟨h1,h2⟩:=sT (n:=n) (F:=F) (K:=K) f _;refine⟨Nat.succ_le_succ h1,fun c hc=>?_⟩;rcases Xb.1 hc with rfl|hc
   ·exact Xz (X6 _ _) (by simp)
   ·exact h2 c hc
theorem L8.bd{p:Prog}(hf:jN p){k:Nat}{H:NM}(h:L8 p k H){i:Nat}(hi:i<(ns p).length){x:(KC.str).K×Int}(hx:x∈cY (aK p) (vD p i)):0<=bQ .str H x.1 0∧bQ .str H x.1 0<=k:=by
 obtain⟨j,hj,hv,_⟩:=nM hf hi hx;have:=h.is j hj;have h2:=h.le j;rw[hv]at this;omega
theorem Uj{p:Prog}(h0:(iy p).1=0){H:NM}(h:L8 p (yO p).length H){i:Nat}(hi:i<(ns p).length):bQ .str H (vD p i) 0=(xN p i:Int):=by
 have h1:=Bj (Cb fun r hr=>vV (wW (DR h0).1 h0 r hr)) hi;rw[h.is i hi,h1];unfold IQ;rw[W2 (W0 _)];rfl
theorem E5(p:Prog){i:Nat}(hi:i<(ns p).length):(dJ p).getD i default=(vD p i,xN p i):=by
 unfold dJ;rw[WU,W1,YF hi];rfl
theorem sL(p:Prog):(dJ p).length=(ns p).length:=by simp[dJ]
theorem NN(hS:ft)(p:Prog)(hb:p.fit)(hs:p.size<=10000000):Pure prog 15 [ag p.c] (.bT [.iv (dy 2 (tL p) Uk),ag (iy p).c]):=by
 by_cases k1:(iy p).1=0;rotate_left
 ·rw[tL,be k1];refine ad ab func15 Z (by decide) ntmps15 Z (by simp) Z ?_;refine gA Z (zp (ED hS p hb hs) ?_);refine gA Z (zI (fun k2=>?_) fun k2=>?_)
  ·refine gA Z (zL ?_);exact .bT ⟨.nil _ _, .refl _,ac⟩
  ·exact absurd (by simpa using k2) k1
 obtain⟨k0,kz⟩:=DR k1;have hf:=oM k0;have hn:=pK hf;have d1:(yO p).length<=(ns p).length:=(sT _ _).1;have s0: ∀c∈yO p,c.length<=(ns p).length:=(sT _ _).2;have z0:(eB p).length=(yO p).length:=by rw[DO,Xr]
 rw[tL,am k1];refine ad ab func15 Z (by decide) ntmps15 Z (by simp) Z ?_;refine gA Z (zp (ED hS p hb hs) ?_);refine gA Z (zI (fun k2=>?_) fun k2=>?_)
 ·exact absurd k1 (by simpa using k2)
 refine gA Z (zp (xh hS hb k0) ?_);refine gA Z (zp (F4 hS hb hs k0) ?_);refine gA Z ?_;refine tU 0 (eB p).length (W3 _) (fun k (H:NM)=>⟨[(3, .ptr 1 0),(5, .iv (qV (bA p (aK p)))),(7, .mp 3),(33, .iv (dy 1 (eB p) yQ)),(34,pI (eB p).length),(35,pI k)],[(1,some (an aZ.z.c)),(3,some (c9 H))],4⟩) (fun k H=>L8 p k H) [] [] Sn
  (zW (zK (KF Z (fun _=> .v _) Z trivial))) fun k H hk hH=>?_
 refine gA Z (zI (fun h1=>?_) fun h1=>?_)
 ·have h1:=ci h1;have a0:k<(yO p).length:=by omega
  let c:List aj:=(eB p).getD k default
  have b0:c=((yO p).getD k default).map (vD p):=by
   show(eB p).getD k default=_;rw[DO,WU,W1,WY a0,WU,WY a0];rfl
  have e1:=s0 _ (bZ a0);have t0:c.length<=64:=by rw[b0,Xr];omega
  have o0: ∀b∈c,∃i,i<(ns p).length∧vD p i=b:=fun b hb=>by
   rw[b0]at hb;obtain⟨i,hi,e⟩:=Xt.1 hb;exact⟨i,Ls (bZ a0) hi,e⟩
  refine gA Z ?_;refine tU 0 c.length (W3 _) (fun t (v:Int)=>⟨[(3, .ptr 1 0),(5, .iv (qV (bA p (aK p)))),(7, .mp 3),(33, .iv (dy 1 (eB p) yQ)),(34,pI (eB p).length),(35,pI k),(9, .iv (strs c)),(10,pI v),(39, .iv (strs c)),(40,pI c.length),(41,pI t)],[(1,some (an aZ.z.c)),(3,some (c9 H))],4⟩) (fun t v=>Ay p H (c.take t) v∧v<=1000) 0 [] ⟨No H,by decide⟩
   (zW (zK (hM Z Z Z trivial))) fun t v ht hV=>?_
  obtain⟨hV,y0⟩:=hV;have a1:=hV.1;refine gA Z (zI (fun h2=>?_) fun h2=>?_)
  ·have h2:=ci h2;obtain⟨ia,j0,i0⟩:=o0 _ (bZ h2);have n0:c.getD t default∈p.aB.map Decl.name:=by
    rw[<-i0];have:=Go.Rg.get_mem j0;rwa[ns,c8]at this
   have m0: ∀x∈cY (aK p) (c.getD t default),(0<=bQ .str H x.1 0∧bQ .str H x.1 0<=64)∧1<=x.2∧x.2<=2:=fun x hx=>by
    have h3:=F7 hf hx;rw[<-i0]at hx;have h4:=hH.bd hf j0 hx;omega
   refine gM 13 Z (tT ab (.iv (td (cY (aK p) (c.getD t default)))) Z Z Z Z (pY p _ n0) Z ?_);refine gA Z ?_;refine gG (cY (aK p) (c.getD t default)) (fun vs=>⟨[(3, .ptr 1 0),(5, .iv (qV (bA p (aK p)))),(7, .mp 3),(33, .iv (dy 1 (eB p) yQ)),(34,pI (eB p).length),(35,pI k),(9, .iv (strs c)),(10,pI (rb H (cY (aK p) (c.getD t default)) v vs)),(39, .iv (strs c)),(40,pI c.length),(41,pI t),(48, .ptr 4 0)],[(1,some (an aZ.z.c)),(3,some (c9 H)),(4,some (.bS .str xY (cY (aK p) (c.getD t default)) vs none))],5⟩)
    (fun vs=> ∀j∈vs,j<(cY (aK p) (c.getD t default)).length) [] (fun j hj=>(nomatch hj))
    (zW (zK (hM Z Z Z (hI Z Z (.inl Z) Z trivial)))) fun vs hJ=>?_
   obtain⟨g1,g2,g3⟩:=uw H (cY (aK p) (c.getD t default)) v vs;have p0:rb H (cY (aK p) (c.getD t default)) v vs<=1000:=by
    rcases g3 with g3|⟨j,hj,g3⟩
    ·omega
    ·have:=m0 _ (bZ (hJ j hj));omega
   refine nX Z ac (eN Z Z Z Z Z (by decide) (fun f0=>?_) fun j x hx hj=>?_)
   ·refine gA Z ?_;exact⟨h2,rb H (cY (aK p) (c.getD t default)) v vs,[],⟨by rw[aN h2];exact I9 hV hJ f0,p0⟩,zW (zK (hM Z Z Z ac))⟩
   ·have b1:=m0 x (Xo hx);have q0:(cY (aK p) (c.getD t default)).getD j default=x:=by rw[WU,hx];rfl
    have v0:max (rb H (cY (aK p) (c.getD t default)) v vs) (bQ .str H x.1 0+x.2-1)=rb H (cY (aK p) (c.getD t default)) v (j::vs):=by
     show _=max (rb H (cY (aK p) (c.getD t default)) v vs) _;rw[q0]
    refine gA Z ⟨j,x,hx,hj,fun i hi=>(Xb.1 hi).elim (fun h=>h▸(WX.1 hx).1) (hJ i),[],zM (bv (bv (bv (bv (bv (bv (bv ⟨.of_eq (by rw[<-v0];rfl),rfl,bv (bv (bv (bv ac)))⟩))))))) (zK (hM Z Z Z (hI Z Z (.inr Z) Z ac)))⟩
  ·have h2:=co h2;rw[W2 h2]at hV;refine gA Z ?_;refine tU 0 c.length (W3 _) (fun t (H2:NM)=>⟨[(3, .ptr 1 0),(5, .iv (qV (bA p (aK p)))),(7, .mp 3),(33, .iv (dy 1 (eB p) yQ)),(34,pI (eB p).length),(35,pI k),(10,pI v),(63, .iv (strs c)),(64,pI c.length),(65,pI t)],[(1,some (an aZ.z.c)),(3,some (c9 H2))],4⟩) (fun t H2=>(∀b∈c.take t,bQ .str H2 b 0=v)∧ ∀b:aj,b∉c.take t->bQ .str H2 b 0=bQ .str H b 0) H [] ⟨fun b hb=>(nomatch hb),fun b _=>rfl⟩
    (zW (zK (hM Z Z Z trivial))) fun t H2 ht hJ=>?_
   obtain⟨c0,e0⟩:=hJ;refine gA Z (zI (fun h3=>?_) fun h3=>?_)
   ·have h3:=ci h3;refine gA Z ?_;refine⟨h3,b6 .str H2 (c.getD t default) v,[],⟨fun b hb=>?_,fun b hb=>?_⟩,zW (zK (hM Z Z Z ac))⟩
    ·rw[iG];by_cases d0:c.getD t default=b
     ·rw[am d0]
     ·rw[be d0];rw[aN h3]at hb;rcases W7.1 hb with hb|hb
      ·exact c0 b hb
      ·exact absurd (W5.1 hb).symm d0
    ·rw[aN h3,W7,not_or]at hb;rw[iG,be (fun e=>hb.2 (by rw[e];simp)),e0 b hb.1]
   ·have h3:=co h3;rw[W2 h3]at c0 e0;refine gA Z ⟨h1,H2,[],hH.step hf a0 (b0▸hV) (b0▸⟨c0,e0⟩),zW (zK (hM Z Z Z ac))⟩
 ·have h1:=co h1;have r0:k=(yO p).length:=by omega
  subst r0;refine gA Z (zp (nJ hS hf (aK p)) ?_);refine gA Z ?_;refine fb 17 2 Z ?_;refine aA 0 (ns p).length (W3 _) (fun i=>⟨[(3, .ptr 1 0),(7, .mp 3),(17, .sl 5 0 ((dJ p).take i).length 2),(75, .iv (strs (ns p))),(76,pI (ns p).length),(77,pI i)],[(1,some (an aZ.z.c)),(3,some (c9 H)),(5,some (aD 2 ((dJ p).take i) Uk))],6⟩) (fun _=>True) [4] ac
   (zW (zK (hM Z Z Z (zS trivial)))) fun i hi _=>?_
  refine gA Z (zI (fun h2=>?_) fun h2=>?_)
  ·have h2:=ci h2;have x0:((dJ p).take i).length<=64:=by rw[XH,sL];omega
   have g0:(dJ p).take (i+1)=(dJ p).take i++ [(vD p i,xN p i)]:=by rw[aN (by rw[sL];exact h2),E5 p h2]
   have w0:=Uj k1 hH h2;refine gA Z ?_
   exact⟨h2,ac,[7],zM (bv (bv ⟨.row (by rw[g0,WW];rfl),rfl,bv (bv (bv ac))⟩)) (zK (hM Z Z Z (hR Z (by
    rw[g0,WZ];show _=_++ [[PV.iv (iS (vD p i)),PV.iv (iI (xN p i:Int))]]
    rw[<-w0];rfl) Z ac)))⟩
  ·have h2:=co h2;have e:(dJ p).take i=dJ p:=W2 (by rw[sL];exact h2);rw[kz];refine gA Z ⟨.inr Z,_,rfl,?_⟩;rw[e];refine .row 5 (fun k=>Uk ((dJ p).getD k default)) Z (cX Z) ?_ (.done (.bT ⟨?_, .refl _,ac⟩))
   ·refine⟨?_,⟨ac,ac,ac,ac⟩,ac⟩;show PV.bH 5 2 _ (.sl 5 0 (dJ p).length 2);simp[PV.bH]
   ·show aH (.iv (.dq 2 (dJ p).length fun k=>Uk ((dJ p).getD (0+k) default))) (.iv (dy 2 (dJ p) Uk));simp only[Xk];exact .refl _
end Go.Proofs.YtflegjieadkonaaGreatDoor
namespace Go.Proofs.YtflegjieadkonaaGreatDoor
open Go Go.Al
section
variable (l:List (aj×Nat)) (c:List (List aj)) (rel:aj)
theorem fold_eq{α γ:Type}{g g':γ->α->γ}: ∀(l:List α) (b:γ),(∀x∈l,∀b,g b x=g' b x)->l.foldl g b=l.foldl g' b
 | [],_,_=>rfl
 |x::l,b,h=>by
  rw[Xq,Xq,h x (Xd ..)];exact fold_eq l _ fun y hy=>h y (W8 _ hy)
end
section
variable {p:Prog}
end
end Go.Proofs.YtflegjieadkonaaGreatDoor
namespace Go.Proofs.YtflegjieadkonaaGreatDoor
open Go Go.Al
structure LX (p q:Prog):Prop where
 aB:q.aB=p.aB
 len:q.rules.length=p.rules.length
 mem: ∀r,r∈q.rules↔r∈p.rules
section
variable {p q:Prog}
theorem LX.symm(h:LX p q):LX q p:=⟨h.aB.symm,h.len.symm,fun r=>(h.mem r).symm⟩
structure LessR (p q:Prog):Prop where
 aB:q.aB=p.aB
 len:q.rules.length<=p.rules.length
 mem: ∀r∈q.rules,r∈p.rules
end
end Go.Proofs.YtflegjieadkonaaGreatDoor
namespace Go.Proofs.YtflegjieadkonaaGreatDoor
open Go Go.Al
def dQ{β:Type}(n:Nat)(f:Nat->Nat->β):List (List β):=(Xc n).map fun i=>(Xc n).map fun j=>f i j
section
variable {β:Type} {n:Nat} {f f':Nat->Nat->β}
theorem fK(n:Nat)(f:Nat->Nat->β):(dQ n f).length=n:=by simp[dQ]
theorem lM{i:Nat}(hi:i<n):(dQ n f)[i]? =some ((Xc n).map fun j=>f i j):=by
 unfold dQ;rw[W1,YF hi];rfl
theorem qM{g:Nat->β}{j:Nat}(hj:j<n):((Xc n).map g)[j]? =some (g j):=by
 rw[W1,YF hj];rfl
theorem xm{g g':Nat->β}{b:Nat}(hb:b<n)(h: ∀j,j<n->g' j=if j=b then g' b else g j):((Xc n).map g).set b (g' b)=(Xc n).map g':=by
 apply YH;intro j;rw[XK];rcases X3 j n with hj|hj
 ·rw[qM hj,qM hj];by_cases a0:b=j
  ·subst a0;rw[am Z,am (by simpa using hb)]
  ·rw[be a0,h j hj,be (fun e=>a0 e.symm)]
 ·rw[be (by omega),Zc (by simpa using hj),Zc (by simpa using hj)]
theorem B7{a b:Nat}(ha:a<n)(hb:b<n)(h: ∀i j,i<n->j<n->f' i j=if i=a∧j=b then f' a b else f i j):(dQ n f).set a (((Xc n).map fun j=>f a j).set b (f' a b))=dQ n f':=by
 have e:((Xc n).map fun j=>f a j).set b (f' a b)=(Xc n).map fun j=>f' a j:=xm hb fun j hj=>by
  rw[h a j ha hj];by_cases b0:j=b
  ·simp[b0]
  ·simp[b0]
 rw[e];unfold dQ;refine xm (g:=fun i=>(Xc n).map fun j=>f i j) (g':=fun i=>(Xc n).map fun j=>f' i j) ha fun i hi=>?_;by_cases a0:i=a
 ·rw[am a0,a0]
 ·rw[be a0];refine Yx fun j hj=>?_;rw[h i j hi (Xu.1 hj),be (fun g=>a0 g.1)]
theorem lN(h: ∀i j,i<n->j<n->f i j=f' i j):dQ n f=dQ n f':=by
 unfold dQ;exact Yx fun i hi=>Yx fun j hj=>h i j (Xu.1 hi) (Xu.1 hj)
end
def gF(p:Prog)(hs:List (aj×aj×Nat))(i j:Nat):Int:=gD hs (vD p i) (vD p j)
theorem SA{hs:List (aj×aj×Nat)}(h: ∀x∈hs,x.2.2<=2)(a b:aj):gD hs a b<=2:=by
 rcases GS hs a b with h1|h1
 ·omega
 ·exact h _ h1
theorem GR{p:Prog}(hf:jN p){hs:List (aj×aj×Nat)}{a b k:Nat}(ha:a<(ns p).length)(hb:b<(ns p).length)(i j:Nat)(hi:i<(ns p).length)(hj:j<(ns p).length):
  gF p (hs++ [(vD p a,vD p b,k)]) i j=if i=a∧j=b then gF p (hs++ [(vD p a,vD p b,k)]) a b else gF p hs i j:=by
 by_cases h:i=a∧j=b
 ·rw[am h,h.1,h.2]
 ·rw[be h];unfold gF;rw[BD,be];rintro⟨h1,h2⟩;exact h ⟨(w5 hf ha hi h1).symm,(w5 hf hb hj h2).symm⟩
theorem QU{p:Prog}{hs:List (aj×aj×Nat)}{a b k:Nat}:gF p (hs++ [(vD p a,vD p b,k)]) a b=max (gF p hs a b) k:=by
 unfold gF;rw[BD,am ⟨rfl,rfl⟩];show((max (gD hs (vD p a) (vD p b)) k:Nat):Int)=max (gD hs (vD p a) (vD p b):Int) (k:Int);omega
end Go.Proofs.YtflegjieadkonaaGreatDoor
namespace Go.Proofs.YtflegjieadkonaaGreatDoor
open Go Go.Al Go.Proofs.Tryz
theorem Ma{s x:aj}{a:List aj}(h:Op.bytesLess s.toList x.toList=true):bJ s (a,false) x=(a++ [s]++ [x],true):=by
 have h1:IS s x:=(Ao s x).1 h;have h2: ¬x=s:=fun e=>jY s (e▸h1)
 have h3:Op.bytesLess x.toList s.toList=false:=by
  cases hc:Op.bytesLess x.toList s.toList with
  |false=>rfl
  |true=>exact absurd (uU h1 ((Ao x s).1 hc)) (jY s)
 simp[bJ,h2,h3]
theorem Mc{s x:aj}{a:List aj}(h:s=x):bJ s (a,false) x=(a++ [x],true):=by
 simp[bJ,h]
theorem Mb{s x:aj}{a:List aj}(h:Op.bytesLess s.toList x.toList=false)(h2: ¬s=x):bJ s (a,false) x=(a++ [x],false):=by
 have h1:IS x s:=Gl h2 fun g=>by rw[(Ao s x).2 g]at h;cases h
 have h3: ¬x=s:=fun e=>h2 e.symm;simp[bJ,h3,(Ao x s).2 h1]
theorem IW{s x:aj}{a:List aj}:bJ s (a,true) x=(a++ [x],true):=by simp[bJ]
theorem Vw(l:List aj)(s:aj)(hb:l.length<=1000000000000):Pure prog 93 [.iv (strs l),pS s] (.iv (strs (bR l s))):=by
 refine ad ab func93 Z (by decide) ntmps93 Z (by simp) Z ?_;refine gA Z ?_;refine fb 5 1 Z ?_;refine aA 0 l.length (W3 _) (fun i=>⟨[(0, .iv (strs l)),(1,pS s),(5, .sl 1 0 (ik l s i).1.length 1),(6,pB (ik l s i).2),(7,pI i)],[(1,some (aD 1 (ik l s i).1 cW))],2⟩) (fun _=>True) [0] ac
  (zM (bv (bv (bv ⟨.te Z,rfl,bv trivial⟩))) (zS trivial)) fun i hi _=>?_
 have c0:=qG l s i hi;have d0:(ik l s i).1.length<=i+1:=by split at c0<;>omega
 have f0:=rY (l:=l) (s:=s) (i:=i);have e0:=rX (l:=l) (s:=s) (i:=i);generalize ik l s i=A at*
 obtain⟨a,b⟩:=A;refine gA Z (zI (fun h1=>?_) fun h1=>?_)
 ·have h1:=ci h1;have hs:=e0 h1;refine gA Z (zI (fun h2=>?_) fun h2=>?_)
  ·have h2:(!b)=true:=h2;have a0:b=false:=by simpa using h2
   subst a0;refine gA Z (zI (fun h3=>?_) fun h3=>?_)
   ·have h3:(Op.bytesLess s.toList (l.getD i default).toList||decide (s=l.getD i default))=true:=h3;refine gA Z (zI (fun h4=>?_) fun h4=>?_)
    ·have h4:Op.bytesLess s.toList (l.getD i default).toList=true:=h4;rw[Ma h4]at hs;refine gA Z ⟨h1,ac,[5],zM (bv (bv ⟨.row (by rw[hs];simp),rfl,.te (by rw[hs]),rfl,bv ac⟩)) (hR Z (by rw[hs,WZ,WZ];rfl) Z ac)⟩
    ·have h4:Op.bytesLess s.toList (l.getD i default).toList=false:=h4;rw[h4,Ya,decide_eq_true_eq]at h3;rw[Mc h3]at hs;refine gA Z ⟨h1,ac,[3],zM (bv (bv ⟨.row (by rw[hs];simp),rfl,.te (by rw[hs]),rfl,bv ac⟩)) (hR Z (by rw[hs];simp;rfl) Z ac)⟩
   ·have h3:(Op.bytesLess s.toList (l.getD i default).toList||decide (s=l.getD i default))=false:=h3;rw[XL,decide_eq_false_iff_not]at h3;rw[Mb h3.1 h3.2]at hs;refine gA Z ⟨h1,ac,[3],zM (bv (bv ⟨.row (by rw[hs];simp),rfl,.of_eq (by rw[hs];rfl),rfl,bv ac⟩)) (hR Z (by rw[hs];simp;rfl) Z ac)⟩
  ·have h2:(!b)=false:=h2;have b0:b=true:=by simpa using h2
   subst b0;rw[IW]at hs;refine gA Z ⟨h1,ac,[3],zM (bv (bv ⟨.row (by rw[hs];simp),rfl,.of_eq (by rw[hs];rfl),rfl,bv ac⟩)) (hR Z (by rw[hs];simp;rfl) Z ac)⟩
 ·have h1:=co h1;rw[f0 h1];refine gA Z (zI (fun h2=>?_) fun h2=>?_)
  ·have h2:(!b)=true:=h2;have a0:b=false:=by simpa using h2
   subst a0;show GO _ _ _ (FE pn f93.results.toList (.iv (strs (a++ [s])))) _;refine gA Z (cU (by first|exact .inr Z|exact .inl Z) Z Z ((by rw[WZ];rfl)) ((by rw[WW];rfl)))
  ·have h2:(!b)=false:=h2;have b0:b=true:=by simpa using h2
   subst b0;show GO _ _ _ (FE pn f93.results.toList (.iv (strs a))) _;refine gA Z (cU (by first|exact .inr Z|exact .inl Z) Z Z (rfl) (rfl))
theorem EU(p:Prog)(i:Nat):(((p.aB.take i).map Decl.name).foldl bR []).length<=i:=by
 have h:=eG ((p.aB.take i).map Decl.name) [];unfold cm at h;simp only[YB,Xk,Xr,XH]at h;omega
theorem NL(p:Prog)(hb:p.aB.length<=1000000000):Pure prog 54 [ag p.c] (.iv (strs ((p.aB.map Decl.name).foldl bR []))):=by
 refine ad ab func54 Z (by decide) ntmps54 Z (by simp) Z ?_;refine gA Z ?_;refine aA 0 p.aB.length (W3 _) (fun i=>⟨[(1, .ptr 0 0),(3, .iv (strs (((p.aB.take i).map Decl.name).foldl bR []))),(4,pI i)],[(0,some (an p.c))],1⟩) (fun _=>True) [] ac
  (zM (bv ⟨.nil _ _,rfl,bv trivial⟩) (zK trivial)) fun i hi _=>?_
 have hl:=EU p i;refine gA Z (zI (fun h1=>?_) fun h1=>?_)
 ·have h1:=ci h1;have a0:((p.aB.take (i+1)).map Decl.name).foldl bR []=bR (((p.aB.take i).map Decl.name).foldl bR []) (p.aB.getD i default).name:=by
   rw[aN h1,WZ,YI];rfl
  refine gA Z (zp (Vw (((p.aB.take i).map Decl.name).foldl bR []) (p.aB.getD i default).name (by omega)) ?_);refine gA Z ⟨h1,ac,[],zM (bv ⟨.of_eq (by rw[a0];rfl),rfl,bv ac⟩) (zK ac)⟩
 ·have h1:=co h1;rw[W2 h1];refine gA Z (zL (.of_eq ?_));rfl
theorem NK{p:Prog}(hf:jN p):Pure prog 54 [ag p.c] (.iv (strs (ns p))):=by
 have h:=NL p (by have:=hf.len;omega);have e:(p.aB.map Decl.name).foldl bR []=ns p:=by
  rw[<-HZ hf.nodup];exact fold_eq _ _ fun x _ b=>qF b x
 rwa[e]at h
abbrev QK(l:List aj)(s:aj):Int:=sQ (fun x:aj=>decide (x=s)) l
theorem A1(l:List aj)(s:aj):Pure prog 94 [.iv (strs l),pS s] (pI (QK l s)):=by
 refine pE (bI func94 Z (by decide)) ⟨_,_,Xd⟩ fun a0=>?_;simp only[maxLen]at a0;refine ad ab func94 Z (by decide) ntmps94 Z (by simp) Z ?_;refine gA Z ?_
 refine aA 0 l.length (W3 _) (fun i=>⟨[(0, .iv (strs l)),(1,pS s),(5,pI i)],[],0⟩) (fun i=>(l.take i).any (fun x=>decide (x=s))=false) [] Z
  (mH Z Z (bv (bv (bv trivial))) Z) fun i hi hJ=>?_
 refine gA Z (zI (fun h1=>?_) fun h1=>?_)
 ·have h1:=ci h1;refine gA Z (zI (fun h2=>?_) fun h2=>?_)
  ·have h2:l.getD i default=s:=zT h2;refine gA Z (zL (.of_eq ?_));rw[QK,iL hJ h1 (decide_eq_true h2)];rfl
  ·have h2: ¬l.getD i default=s:=zF h2;refine gA Z ⟨h1,(bq hJ h1).2 (by simpa using h2),[],mH Z Z (bv (bv (bv ac))) Z⟩
 ·have h1:=co h1;refine gA Z (zL (.of_eq ?_));rw[QK,ib (any_none hJ h1)];rfl
theorem F1(l:List aj)(s:aj)(_:l.length<=1000000000000):Pure prog 94 [.iv (strs l),pS s] (pI (QK l s)):=A1 l s
theorem JX{p:Prog}(hf:jN p){i:Nat}(hi:i<(ns p).length):QK (ns p) (vD p i)=i:=by
 refine iL ?_ hi (decide_eq_true Z);rw[XO];intro y hy;obtain⟨j,hj,rfl⟩:=Zf.1 hy;rw[decide_eq_true_eq];intro g;have a0:j<(ns p).length:=by omega
 have:vD p j=vD p i:=by
  rw[<-g];unfold vD;rw[WU,WY a0];rfl
 have:=w5 hf a0 hi this;omega
theorem FA{b:List Lit}{i:Nat}(h:i<b.length):((b.take (i+1)).filter fun x=>decide (x.kind=1∨x.kind=2)).map (fun x=>x.atom.rel)=((b.take i).filter fun x=>decide (x.kind=1∨x.kind=2)).map (fun x=>x.atom.rel)++(if(b.getD i default).kind=1∨(b.getD i default).kind=2 then[(b.getD i default).atom.rel] else[]):=by
 rw[aN h,List.filter_append,WZ];congr 1;by_cases h3:(b.getD i default).kind=1∨(b.getD i default).kind=2
 ·simp only[YD,h3,decide_true,if_true,List.filter_nil,Xe,XN]
 ·simp only[YD,h3,decide_false,if_false,List.filter_nil,XN,Yn]
end Go.Proofs.YtflegjieadkonaaGreatDoor
namespace Go.Proofs.YtflegjieadkonaaGreatDoor
open Go Go.Al
section
variable {β:Type} (el:β->List IV)
abbrev vS(β:Type):=List (Nat×Nat×Nat×List β)
def fT(x:Nat×List β):AO:=aD 1 x.2 el
def HK(n:Nat)(L:vS β):List (List PV):=L.map fun y=> [PV.iv (Oa (some (y.1,n,y.2.2.1)))]
def sx(n:Nat)(y:Nat×Nat×Nat×List β):List IV:=[Oa (some (y.1,n,y.2.2.1))]
abbrev rO(n:Nat)(L:vS β):AO:=aD 1 L (sx n)
def dz(L:vS β):List (List β):=L.map fun y=>y.2.2.2
abbrev kW[Inhabited β](r:List β):List IV:=[dy 1 r el]
structure yz (n:Nat) (L:vS β):Prop where
 nd:(L.map Xl).Nodup
 ok: ∀y∈L,y.2.2.2.length=n∧n<=y.2.2.1∧y.2.2.1<=maxLen∧y.2.2.1*1=y.2.1
theorem FO(n:Nat):yz n ([]:vS β):=⟨XT,fun _ h=>(nomatch h)⟩
theorem B2{n:Nat}{L:vS β}{y:Nat×Nat×Nat×List β}(h:yz n L)(hb:y.1∉L.map Xl)(hy:y.2.2.2.length=n∧n<=y.2.2.1∧y.2.2.1<=maxLen∧y.2.2.1*1=y.2.1):yz n (L++ [y]):=
 ⟨pL h.nd hb,fun z hz=>by
  rcases W7.1 hz with hz|hz
  ·exact h.ok z hz
  ·rw[W5]at hz;subst hz;exact hy⟩
def pq(L:vS β)(a:Nat)(y:Nat×Nat×Nat×List β)(r:List β):vS β:=L.set a (y.1,y.2.1,y.2.2.1,r)
theorem AJ{n a:Nat}{L:vS β}{y:Nat×Nat×Nat×List β}{r:List β}(h:yz n L)(hy:L[a]? =some y)(hr:r.length=n):yz n (pq L a y r):=
 ⟨oD h.nd hy (.inr Z),fun z hz=>by
  rcases Zw hz with hz|rfl
  ·exact h.ok z hz
  ·exact⟨hr,(h.ok y (Xo hy)).2⟩⟩
theorem N9{n a:Nat}{L:vS β}{y:Nat×Nat×Nat×List β}{r:List β}(hy:L[a]? =some y):HK n (pq L a y r)=HK n L:=by
 apply YH;intro j;unfold HK pq;rw[W1,W1,XK];by_cases h:a=j
 ·subst h;rw[am Z,am (WX.1 hy).1,hy];rfl
 ·rw[be h]
theorem EJ{n a:Nat}{L:vS β}{y:Nat×Nat×Nat×List β}{r:List β}(hy:L[a]? =some y):(pq L a y r).map (fun x=>(sx n x).map PV.iv)=L.map fun x=>(sx n x).map PV.iv:=N9 (n:=n) hy
theorem nI{n a j e:Nat}{L:vS β}{y:Nat×Nat×Nat×List β}{r:List β}(h:yz n L)(hy:L[a]? =some y):((eW (fT el) L).put y.1 (.out j e)).put y.1 (.obj (aD 1 r el) y.2.1)=eW (fT el) (pq L a y r):=by
 have a0:=oD (y':=(y.1,y.2.1,y.2.2.1,r)) h.nd hy (.inr Z);have ha:=(WX.1 hy).1;rw[bc.Gf]
 funext c
 unfold bc.put;by_cases hc:c=y.1
 ·subst hc;rw[am Z];exact(db (fT el) a0 (j:=a) (y:=(y.1,y.2.1,y.2.2.1,r)) (by rw[XK,am Z,am ha])).symm
 ·rw[be hc];by_cases hm:c∈L.map Xl
  ·obtain⟨z,hz,rfl⟩:=Xt.1 hm;obtain⟨k,hk⟩:=XP hz;have c0: ¬a=k:=fun g=>hc (by subst g;rw[hy]at hk;cases hk;rfl);rw[db (fT el) h.nd hk];exact(db (fT el) a0 (j:=k) (by rw[XK,be c0];exact hk)).symm
  ·rw[jW (fT el) hm];refine(jW (fT el) ?_).symm;unfold pq;rw[YN];intro b0;obtain⟨k,hk⟩:=XP b0;rw[XK]at hk;split at hk
   ·rw[am (by simpa using ha)]at hk;cases hk;exact hc Z
   ·exact hm (Xo hk)
theorem AP{a:Nat}{L:vS β}{y:Nat×Nat×Nat×List β}{r:List β}:dz (pq L a y r)=(dz L).set a r:=by
 unfold dz pq;rw[YN]
theorem Ev{a:Nat}{L:vS β}{y:Nat×Nat×Nat×List β}(hy:L[a]? =some y):(dz L)[a]? =some y.2.2.2:=by
 unfold dz;rw[W1,hy];rfl
theorem Tm[Inhabited β]{n:Nat}{L:vS β}(h:yz n L):L7 (eW (fT el) L) (.row 1 (HK n L)) (aD 1 (dz L) (kW el)):=by
 refine .row 1 _ _ (by simp[HK,dz]) fun k e' hk=>?_;unfold dz at hk;rw[Y0,W1,W6]at hk;obtain⟨y,hy,rfl⟩:=hk;refine⟨[PV.iv (Oa (some (y.1,n,y.2.2.1)))],by unfold HK;rw[W1,hy];rfl,rfl,fun j p' hj=>?_⟩
 match j,hj with
 |0,hj=>
  cases hj;obtain⟨h1,h2,h3,h4⟩:=h.ok y (Xo hy);refine⟨_,rfl, .inr ⟨_,_,rfl,rfl,?_⟩⟩;show Up _ (.slice (some ⟨y.1,0,none⟩) n y.2.2.1) (dy 1 y.2.2.2 el);rw[<-h1];exact .row y.1 _ _ 1 y.2.1 _ _ (db (fT el) h.nd hy) (by simp) (by rw[h1];exact h2) h3 (cX Z)
 |j+1,hj=>exact nomatch hj
theorem jk{r:List β}:(aD 1 r el).all PV.flat:=by
 intro e he q hq;obtain⟨s,_,rfl⟩:=Xt.1 he;obtain⟨x,_,rfl⟩:=Xt.1 hq;trivial
end
end Go.Proofs.YtflegjieadkonaaGreatDoor
namespace Go.Proofs.YtflegjieadkonaaGreatDoor
open Go Go.Al Go.Proofs.Tryz
theorem T7(l:Lit)(h:l.size<=100000000000):Pure prog 95 [ag l.c] (.iv (strs (Bi l))):=by
 have b0:=Lit.aw l.ar;have d0:=l.size_eq;refine Al.Pure.le (aa:=[ag l.c]) (args:=[ag l.c1]) ?_ ⟨l.xG,ac⟩;unfold Bi;refine ad ab func95 Z (by decide) ntmps95 Z (by simp) Z ?_;refine gA Z (zI (fun k1=>?_) fun k1=>?_)
 ·have k1:l.kind=1:=zT k1;rw[am (.inl k1)];refine gA Z (cU (by first|exact .inr Z|exact .inl Z) Z Z (rfl) (rfl))
 have k1: ¬l.kind=1:=zF k1;refine gA Z (zI (fun k2=>?_) fun k2=>?_)
 ·have k2:l.kind=2:=zT k2;rw[am (.inr k2)];refine gA Z (cU (by first|exact .inr Z|exact .inl Z) Z Z (rfl) (rfl))
 have k2: ¬l.kind=2:=zF k2;rw[be (by omega)];refine gA Z (zI (fun k4=>?_) fun k4=>?_);rotate_left
 ·have k4: ¬l.kind=4:=zF k4;rw[be k4];refine gA Z (zL ?_);exact .nil _ _
 have k4:l.kind=4:=zT k4;rw[am k4]
 let B:List Lit->List aj:=fun b=>(b.filter fun x=>decide (x.kind=1∨x.kind=2)).map fun x=>x.atom.rel
 refine gA Z ?_;refine fb 3 1 Z ?_;refine aA 0 l.ar.length (W3 _) (fun i=>⟨[(1, .ptr 0 0),(3, .sl 2 0 (B (l.ar.take i)).length 1),(4,pI i)],[(0,some (an l.c1)),(2,some (aD 1 (B (l.ar.take i)) cW))],3⟩) (fun _=>True) [1] ac
  (zW (zK (zS trivial))) fun i hi _=>?_
 have c0:(B (l.ar.take i)).length<=l.ar.length:=by
  show((List.filter _ (l.ar.take i)).map _).length<=_;rw[Xr];exact Xz (X6 _ _) (by rw[XH];omega)
 refine gA Z (zI (fun h1=>?_) fun h1=>?_)
 ·have h1:=ci h1;have a0:B (l.ar.take (i+1))=B (l.ar.take i)++(if(l.ar.getD i default).kind=1∨(l.ar.getD i default).kind=2 then[(l.ar.getD i default).atom.rel] else[]):=FA h1;refine gA Z (zI (fun h2=>?_) fun h2=>?_)
  ·have h2: ¬(l.ar.getD i default).kind=1:=zF h2;refine gA Z (zI (fun h3=>?_) fun h3=>?_)
   ·have h3:(l.ar.getD i default).kind=2:=zT h3;rw[am (.inr h3)]at a0;refine gA Z ⟨h1,ac,[4],zM (bv ⟨.row (by rw[a0,WW];rfl),rfl,bv ac⟩) (zK (hR Z (by rw[a0,WZ];rfl) Z ac))⟩
   ·have h3: ¬(l.ar.getD i default).kind=2:=zF h3;rw[be (by omega),XE]at a0;refine gA Z ⟨h1,ac,[2],zM (bv ⟨.row (by rw[a0]),rfl,bv ac⟩) (zK (hR Z (by rw[a0]) Z ac))⟩
  ·have h2:(l.ar.getD i default).kind=1:=zT h2;rw[am (.inl h2)]at a0;refine gA Z ⟨h1,ac,[4],zM (bv ⟨.row (by rw[a0,WW];rfl),rfl,bv ac⟩) (zK (hR Z (by rw[a0,WZ];rfl) Z ac))⟩
 ·have h1:=co h1;rw[W2 h1];refine gA Z (cU (by first|exact .inr Z|exact .inl Z) Z Z (rfl) (rfl))
theorem uA{β:Type}{a:Nat}{L:vS β}{y:Nat×Nat×Nat×List β}(hy:L[a]? =some y):pq L a y y.2.2.2=L:=by
 unfold pq;apply YH;intro j;rw[XK];by_cases h:a=j
 ·subst h;rw[am Z,am (WX.1 hy).1,hy]
 ·rw[be h]
theorem GC{x:aj×aj×Nat}{r:aq}{l:Lit}(h:x∈mj r l):x.2.2<=2:=by
 obtain⟨t,_,rfl⟩:=Xt.1 h;exact Bv l
theorem KE{x:aj×aj×Nat}{r:aq}(h:x∈tP r):x.2.2<=2:=by
 obtain⟨l,_,h⟩:=Yw.1 h;exact GC h
theorem NO{p:Prog}(hf:jN p)(hb:p.fit):Pure prog 55 [ag p.c, .iv (strs (ns p))] (.iv (dy 1 (dQ (ns p).length (gF p (aK p))) (kW ba))):=by
 have hn:=pK hf;refine ad ab func55 Z (by decide) ntmps55 Z (by simp) Z ?_
 let n:=(ns p).length
 refine GD ?_;refine aG (bW ?_);refine gA Z ?_;refine aG (bW ?_);refine gA Z ?_;refine aG (aG (fZ ⟨[(1, .iv (strs (ns p))),(2, .ptr 0 0),(5, .sl 1 0 0 1),(6,pI 0)],[(0,some (an p.c)),(1,some (rO n ([]:vS Int)))],2⟩ ?_ ?_))
 ·refine fb 5 1 Z ?_;refine gA Z (jB [1] ?_);exact zW (zK (zS ac))
 refine bP (j7 0 n (W3 _) (fun i (x:ULift.{1} (vS Int))=>⟨[(1, .iv (strs (ns p))),(2, .ptr 0 0),(5, .sl 2 0 i 1),(6,pI i)],[(0,some (an p.c)),(2,some (rO n x.down))],3⟩)
  (fun i x Y=>Y=eW (fT ba) x.down∧yz n x.down∧dz x.down=(dQ n fun _ _=>(0:Int)).take i) ⟨[]⟩ [1] ⟨rfl,FO n,rfl⟩
  (zW (zK (zS ac))) (fun _ _ _ h=>h.1▸cQ (fT ba) _) fun i x Y hi hJ=>?_)
 obtain⟨rfl,b0,a0⟩:=hJ;obtain⟨L⟩:=x;have b0:yz n L:=b0;have a0:dz L=(dQ n fun _ _=>(0:Int)).take i:=a0;have o1:L.length=i:=by
  have:=congrArg Zn a0;rw[XH,fK]at this;unfold dz at this;rw[Xr]at this;omega
 refine aG (aG (bW ?_));refine gA Z ?_;refine eM Z (fun h1=>fa ?_) (fun h1=>ie ?_)
 ·have h1:=ci h1;refine aG (bP (ic (bx 3 ?_)));refine gA Z ?_;refine bx 1 ?_;refine GJ ab n n Z Z Z Z Z Z Z Z Z (by omega) (by omega) (by show 8*n<=_;omega) Z (by decide) (z:=[pI 0]) Z (.inr ⟨rfl,rfl⟩) Z ?_;refine gA Z ?_;refine eA (xb (i:=3) (o':=aD 1 ((Xc n).map fun _=>(0:Int)) ba) Z (.of_eq ?_)) fun t Y ht=>?_
  ·show AO.row 1 (Zb n [pI 0])=AO.row 1 (((Xc n).map fun _=>(0:Int)).map fun x=>(ba x).map PV.iv);rw[Y0];congr 1;apply YH;intro j;rw[Zj,W1];rcases X3 j n with hj|hj
   ·rw[am hj,YF hj];rfl
   ·rw[be (by omega),Zc (by simpa using hj)];rfl
  obtain⟨rfl,rfl⟩:=ht
  refine eA (qI (i:=3) (d:=23) (cQ (fT ba) L) Z (by
   show(AO.row 1 (((Xc n).map fun _=>(0:Int)).map fun x=>(ba x).map PV.iv)).real=true;have:0<n:=by omega
   obtain⟨m,hm⟩: ∃m,n=m+1:=⟨n-1,by omega⟩
   rw[hm,Zl];rfl) (jk ba) Z (by omega)) fun t Y ht=>?_
  obtain⟨b,e,cap,r1,g1,g2,g3,rfl,rfl⟩:=ht;refine bx 3 ?_;refine gA Z ?_;refine eU (kR (bW ?_));refine gA Z ?_;have a1:=tw (fT ba) r1
  exact⟨h1,⟨L++ [(b,e,cap,(Xc n).map fun _=>(0:Int))]⟩,[5],⟨sj (fT ba) (y:=(b,e,cap,(Xc n).map fun _=>(0:Int))) b0.nd a1,B2 b0 a1 ⟨by simp,g1,g2,g3⟩,by
   show dz (L++ [_])=_;rw[aN (by rw[fK];exact h1),<-a0];unfold dz;rw[WZ];congr 1
   rw[WU,lM h1];rfl⟩,zM (bv (bv ⟨.row Z,rfl,bv ac⟩)) (zK (hR Z (by rw[WZ];rfl) Z ac))⟩
 have h1:=co h1;have a0:dz L=dQ n (gF p []):=by rw[a0,W2 (by rw[fK];exact h1)];rfl
 clear o1;have hrl:p.rules.length<=1000000000:=hb.2.1
 let G:Nat->List (aj×aj×Nat):=fun r=>(p.rules.take r).flatMap tP
 change GX _ _ [.code _] _ _ _;refine aG (aG (fZ ⟨[(1, .iv (strs (ns p))),(2, .ptr 0 0),(5, .sl 2 0 n 1),(7,pI 0)],[(0,some (an p.c)),(2,some (rO n L))],3⟩ ?_ ?_))
 ·have hin:i=n:=by omega
  subst hin;refine gA Z (jB [] ?_);exact zW (zK (zS ac))
 refine bP (j7 0 p.rules.length (W3 _) (fun r (x:ULift.{1} (vS Int))=>⟨[(1, .iv (strs (ns p))),(2, .ptr 0 0),(5, .sl 2 0 n 1),(7,pI r)],[(0,some (an p.c)),(2,some (rO n x.down))],3⟩)
  (fun r x Y=>Y=eW (fT ba) x.down∧yz n x.down∧dz x.down=dQ n (gF p (G r))) ⟨L⟩ [] ⟨rfl,b0,a0⟩
  (zW (zK (zS ac))) (fun _ _ _ h=>h.1▸cQ (fT ba) _) fun r x Y hr hJ=>?_)
 clear b0 a0;obtain⟨rfl,b0,a0⟩:=hJ;obtain⟨L⟩:=x;have b0:yz n L:=b0;have a0:dz L=dQ n (gF p (G r)):=a0;refine aG (aG (bW ?_));refine gA Z ?_;refine eM Z (fun h2=>fa ?_) (fun h2=>ie ?_);rotate_left
 ·have h2:p.rules.length<=r:=by simpa using h2
  have m1:G r=aK p:=by show((p.rules.take r).flatMap tP)=_;rw[W2 h2];rfl
  rw[m1]at a0;change GX _ _ [.code _] _ _ _;refine Dm (AT (i:=2) (o':=aD 1 (dz L) (kW ba)) Z (Tm ba b0)) fun t Y ht=>?_;obtain⟨rfl,rfl⟩:=ht;have e1:(dz L).length=n:=by rw[a0,fK]
  refine bW ?_;rw[<-a0];refine gA Z (jH (.inr Z) Z (iz.v7 2 (dz L) (kW ba) Z Z (by rw[e1];show PV.bH 2 1 n (.sl 2 0 n 1);simp[PV.bH]) (.done ?_)));have e:dy 1 (dz L) (kW ba)= .dq 1 n fun k=>kW ba ((dz L).getD k default):=by unfold dy;rw[e1]
  rw[e];show aH (.iv (.dq 1 n fun k=>kW ba ((dz L).getD (0+k) default))) _;simp only[Xk];exact .refl _
 have h2:r<p.rules.length:=by simpa using h2
 have p0:p.rules.getD r default∈p.rules:=bZ h2;have d1:G (r+1)=G r++tP (p.rules.getD r default):=by show((p.rules.take (r+1)).flatMap tP)=_;rw[aN h2,YT];simp;rfl
 have q0:=hb.2.2 _ p0;have j0:=q0.1;have f0:=hf.zP _ p0;have e0:=hf.lits _ p0;have g0:=hf.flat _ p0;have n1:(p.rules.getD r default).body.length<=10000000:=by have:=Lit.aw (p.rules.getD r default).body;unfold aq.size at j0;omega
 obtain⟨ai,o0,s0⟩:=Go.Rg.ki (V:=ns p) (a:=(p.rules.getD r default).head.rel) (by rw[ns,c8];exact f0);have s0:vD p ai=(p.rules.getD r default).head.rel:=s0;have i1:=F1 (ns p) (p.rules.getD r default).head.rel (by omega);have b1:=JX hf o0;rw[s0]at b1;rw[show QK (ns p) (p.rules.getD r default).head.rel=(ai:Int) from b1]at i1;refine aG (bP (aG (bW ?_)));refine gA Z (zp (i1) ?_);refine gA Z ?_;refine aG (fZ ⟨[(1, .iv (strs (ns p))),(2, .ptr 0 0),(5, .sl 2 0 n 1),(7,pI r),(8,pI ai),(9,pI 0)],[(0,some (an p.c)),(2,some (rO n L))],3⟩ ?_ ?_)
 ·refine gA Z (jB [] ?_);exact zW (zK (zS ac))
 generalize j1:p.rules.getD r default=R at p0 d1 q0 j0 f0 e0 g0 n1 s0
 refine bP (j7 0 R.body.length (W3 _) (fun i (x:ULift.{1} (vS Int))=>⟨[(1, .iv (strs (ns p))),(2, .ptr 0 0),(5, .sl 2 0 n 1),(7,pI r),(8,pI ai),(9,pI i)],[(0,some (an p.c)),(2,some (rO n x.down))],3⟩)
  (fun i x Y=>Y=eW (fT ba) x.down∧yz n x.down∧dz x.down=dQ n (gF p (G r++(R.body.take i).flatMap (mj R)))) ⟨L⟩ [] ⟨rfl,b0,by rw[List.take_zero,List.flatMap_nil,XE];exact a0⟩
  (zW (zK (zS ac))) (fun _ _ _ h=>h.1▸cQ (fT ba) _) fun i x Y s1 hJ=>?_)
 clear b0 a0;obtain⟨rfl,b0,a0⟩:=hJ;obtain⟨L⟩:=x;have b0:yz n L:=b0;have a0:dz L=dQ n (gF p (G r++(R.body.take i).flatMap (mj R))):=a0;refine aG (aG (bW ?_));subst j1;refine gA Z ?_;refine eM Z (fun h3=>fa ?_) (fun h3=>ie ?_);rotate_left
 ·have h3:(p.rules.getD r default).body.length<=i:=by simpa using h3
  rw[W2 h3,show G r++(p.rules.getD r default).body.flatMap (mj (p.rules.getD r default))=G (r+1) from d1.symm]at a0;change GX _ _ (.code _::_) _ _ _;refine bW ?_;refine gA Z ⟨h2,⟨L⟩,[],⟨rfl,b0,a0⟩,zW (zK (zS ac))⟩
 have h3:i<(p.rules.getD r default).body.length:=by simpa using h3
 have hl:(p.rules.getD r default).body.getD i default∈(p.rules.getD r default).body:=bZ h3;have f1:((p.rules.getD r default).body.take (i+1)).flatMap (mj (p.rules.getD r default))=((p.rules.getD r default).body.take i).flatMap (mj (p.rules.getD r default))++mj (p.rules.getD r default) ((p.rules.getD r default).body.getD i default):=by rw[aN h3,YT];simp
 have y0:((p.rules.getD r default).body.getD i default).size<=10000000:=by have:=Lit.aT (p.rules.getD r default).body i h3;unfold aq.size at j0;omega
 have m0:=e0 _ hl;have l1:=CY _ (g0 _ hl);have p1:=lE ((p.rules.getD r default).body.getD i default);refine aG (bP (aG (bW ?_)));refine gA Z ?_;refine aG (bW ?_);refine gA Z (zp (T7 ((p.rules.getD r default).body.getD i default) (by omega)) ?_);refine gA Z ?_;rw[<-l1];refine aG (fZ ⟨[(1, .iv (strs (ns p))),(2, .ptr 0 0),(5, .sl 2 0 n 1),(7,pI r),(8,pI ai),(9,pI i),(10, .ptr 3 0),(11, .iv (strs (named ((p.rules.getD r default).body.getD i default)))),(12,pI 0)],[(0,some (an p.c)),(2,some (rO n L)),(3,some (an ((p.rules.getD r default).body.getD i default).c))],4⟩ ?_ ?_)
 ·refine gA Z (jB [] ?_);exact zW (zK (zS (zK ac)))
 generalize u1:(p.rules.getD r default).body.getD i default=l at hl f1 y0 m0 p1;generalize z0:G r++((p.rules.getD r default).body.take i).flatMap (mj (p.rules.getD r default))=hs0 at a0
 refine bP (j7 0 (named l).length (W3 _) (fun k (x:ULift.{1} (vS Int))=>⟨[(1, .iv (strs (ns p))),(2, .ptr 0 0),(5, .sl 2 0 n 1),(7,pI r),(8,pI ai),(9,pI i),(10, .ptr 3 0),(11, .iv (strs (named l))),(12,pI k)],[(0,some (an p.c)),(2,some (rO n x.down)),(3,some (an l.c))],4⟩)
  (fun k x Y=>Y=eW (fT ba) x.down∧yz n x.down∧dz x.down=dQ n (gF p (hs0++((named l).take k).map fun t=>((p.rules.getD r default).head.rel,t,fN l)))) ⟨L⟩ [] ⟨rfl,b0,by rw[List.take_zero,XN,XE];exact a0⟩
  (zW (zK (zS (zK ac)))) (fun _ _ _ h=>h.1▸cQ (fT ba) _) fun k x Y hk hJ=>?_)
 clear b0 a0;obtain⟨rfl,b0,a0⟩:=hJ;obtain⟨L⟩:=x;have b0:yz n L:=b0;have a0:dz L=dQ n (gF p (hs0++((named l).take k).map fun t=>((p.rules.getD r default).head.rel,t,fN l))):=a0;refine aG (aG (bW ?_));refine gA Z ?_;refine eM Z (fun h4=>fa ?_) (fun h4=>ie ?_);rotate_left
 ·have h4:=co h4;rw[W2 h4,<-z0,Xa,show(named l).map (fun t=>((p.rules.getD r default).head.rel,t,fN l))=mj (p.rules.getD r default) l from rfl,<-f1]at a0;change GX _ _ (.code _::_) _ _ _;refine bW ?_;refine gA Z ⟨h3,⟨L⟩,[],⟨rfl,b0,a0⟩,zW (zK (zS ac))⟩
 have h4:=ci h4;obtain⟨bi,k0,w0⟩:=Go.Rg.ki (V:=ns p) (a:=(named l).getD k default) (by rw[ns,c8];exact m0 _ (bZ h4));have w0:vD p bi=(named l).getD k default:=w0;have hpb:=F1 (ns p) ((named l).getD k default) (by omega);have r0:=JX hf k0;rw[w0]at r0;rw[show QK (ns p) ((named l).getD k default)=(bi:Int) from r0]at hpb
 let T2:AS:=⟨[(1, .iv (strs (ns p))),(2, .ptr 0 0),(5, .sl 2 0 n 1),(7,pI r),(8,pI ai),(9,pI i),(10, .ptr 3 0),(11, .iv (strs (named l))),(12,pI k),(13,pI bi)],[(0,some (an p.c)),(2,some (rO n L)),(3,some (an l.c))],4⟩
 refine aG (bP (aG (fZ T2 ?_ ?_)))
 ·refine gA Z (zp (hpb) ?_);refine gA Z (jB [] ?_);exact zW (zK (zS (zK ac)))
 refine aG (fZ T2 ?_ ?_)
 ·refine gA Z (zI (fun q1=>?_) fun q1=>?_);rotate_left
  ·have:=zT (show decide ((ai:Int)<0)=true from q1);omega
  refine gA Z (zI (fun q2=>?_) fun q2=>?_)
  ·have:=zT (show decide ((bi:Int)<0)=true from q2);omega
  refine gA Z (jB [] ?_);exact zW (zK (zS (zK ac)))
 have hL:L.length=n:=by
  have:=congrArg Zn a0;rw[fK]at this;unfold dz at this;rwa[Xr]at this
 have hlt:ai<L.length:=by omega
 obtain⟨y,hy⟩: ∃y,L[ai]? =some y:=⟨_,WY hlt⟩
 obtain⟨k1,k2,k3,k4⟩:=b0.ok y (Xo hy);have d0:(hs0++((named l).take k).map fun t=>((p.rules.getD r default).head.rel,t,fN l))++ [(vD p ai,vD p bi,fN l)]=hs0++((named l).take (k+1)).map fun t=>((p.rules.getD r default).head.rel,t,fN l):=by
  rw[aN h4,WZ,Xa,s0,w0];rfl
 have n0: ∀x∈hs0++((named l).take k).map (fun t=>((p.rules.getD r default).head.rel,t,fN l)),x.2.2<=2:=fun x hx=>by
  rw[<-z0]at hx;rcases W7.1 hx with hx|hx
  ·rcases W7.1 hx with hx|hx
   ·obtain⟨_,_,hx⟩:=Yw.1 hx;exact KE hx
   ·obtain⟨_,_,hx⟩:=Yw.1 hx;exact GC hx
  ·obtain⟨t,_,rfl⟩:=Xt.1 hx;exact Bv l
 generalize hs0++((named l).take k).map (fun t=>((p.rules.getD r default).head.rel,t,fN l))=hs1 at a0 d0 n0;have x0:y.2.2.2=(Xc n).map fun j=>gF p hs1 ai j:=by
  have:=Ev hy;rw[a0,lM o0]at this;exact(XX this).symm
 have i0:=B7 (n:=n) (f:=gF p hs1) (f':=gF p (hs1++ [(vD p ai,vD p bi,fN l)])) o0 k0 (GR hf o0 k0);rw[QU]at i0;have t1:0<=gF p hs1 ai bi:=Int.natCast_nonneg _;have v1:gF p hs1 ai bi<=2:=by
  have:=SA n0 (vD p ai) (vD p bi);unfold gF;omega
 have c0: ∀r:List Int,r.length=n->(aD 1 r ba).real=true:=fun r hr=>by
  cases r with
  |nil=>simp at hr;omega
  |cons=>rfl
 refine aG (bW ?_);refine gA Z ?_;refine eM Z (fun q3=>?_) (fun q3=>?_)
 ·have q3: ¬l.kind=1:=by
   have q3:(!decide (l.kind=1))=true:=q3;simpa using q3
  have hh:fN l=2:=by rw[fN,be q3]
  have hm:max (gF p hs1 ai bi) (fN l:Int)=2:=by rw[hh];omega
  refine ic (bx 3 ?_);refine gA Z ?_;refine bx 1 ?_;refine b4 ab Z Z Z Z Z (show(L.map fun x=>(sx n x).map PV.iv)[0+ai]? =some ((sx n y).map PV.iv) by rw[Xk,W1,hy];rfl) Z Z ?_;refine gA Z ?_;refine eA (jT (d:=88) (sz:=1) (db (fT ba) b0.nd hy) Z (by omega) k2 k3 k4) fun t Y ht=>?_;obtain⟨rfl,rfl⟩:=ht;refine bx 2 ?_;refine gA Z ?_;refine bx 1 ?_;refine mo ab Z Z Z (i:=4) (sz:=1) (q:=0+bi) Z Z Z Z (by simp only[Xr];omega) Z Z Z Z ?_;refine gA Z ?_;refine eA (xb (i:=4) (o':=aD 1 (y.2.2.2.set bi 2) ba) Z (.of_eq ?_)) fun t Y ht=>?_
  ·show AO.row 1 ((y.2.2.2.map fun x=>(ba x).map PV.iv).set (0+bi) ((ba 2).map PV.iv))=AO.row 1 ((y.2.2.2.set bi 2).map fun x=>(ba x).map PV.iv);rw[Xk,YN]
  obtain⟨rfl,rfl⟩:=ht;refine eA (xc (b:=y.1) (e:=y.2.1) (i:=4) (o:=aD 1 (y.2.2.2.set bi 2) ba) (bc.du _ _ _) Z (c0 _ (by rw[YM];exact k1)) (jk ba)) fun t Y ht=>?_;obtain⟨rfl,rfl⟩:=ht;refine eU (kR (bW ?_));refine gA Z ?_
  exact⟨h4,⟨pq L ai y (y.2.2.2.set bi 2)⟩,[],⟨nI ba b0 hy,AJ b0 hy (by rw[YM];exact k1),by
   show dz (pq L ai y (y.2.2.2.set bi 2))=_
   rw[AP,a0,<-d0,x0,<-hm];exact i0⟩,zW (zK (hR Z (EJ hy).symm Z (zK ac)))⟩
 ·have q3:l.kind=1:=by
   have q3:(!decide (l.kind=1))=false:=q3;simpa using q3
  have hh:fN l=1:=by rw[fN,am q3]
  refine aG (ic (bx 3 ?_));refine gA Z ?_;refine bx 1 ?_;refine b4 ab Z Z Z Z Z (show(L.map fun x=>(sx n x).map PV.iv)[0+ai]? =some ((sx n y).map PV.iv) by rw[Xk,W1,hy];rfl) Z Z ?_;refine gA Z ?_;refine eA (jT (d:=94) (sz:=1) (db (fT ba) b0.nd hy) Z (by omega) k2 k3 k4) fun t Y ht=>?_;obtain⟨rfl,rfl⟩:=ht;refine bx 2 ?_;refine gA Z ?_;refine bx 1 ?_;refine b4 ab Z Z Z Z Z (show(y.2.2.2.map fun x=>(ba x).map PV.iv)[0+bi]? =some ((ba (y.2.2.2.getD bi default)).map PV.iv) from jt (by omega)) Z Z ?_;refine gA Z ?_;refine bx 1 ?_;refine gA Z ?_;refine eA (xc (b:=y.1) (e:=y.2.1) (i:=4) (o:=aD 1 y.2.2.2 ba) (bc.du _ _ _) Z (c0 _ k1) (jk ba)) fun t Y ht=>?_;obtain⟨rfl,rfl⟩:=ht;rw[nI ba b0 hy,uA hy];have t0:y.2.2.2.getD bi default=gF p hs1 ai bi:=by rw[x0,WU,qM k0];rfl
  refine eU (eM Z (fun q4=>?_) (fun q4=>?_))
  ·have q4:gF p hs1 ai bi=0:=by rw[<-t0];exact zT q4
   have hm:max (gF p hs1 ai bi) (fN l:Int)=1:=by rw[hh];omega
   refine ic (bx 3 ?_);refine gA Z ?_;refine bx 1 ?_;refine b4 ab Z Z Z Z Z (show(L.map fun x=>(sx n x).map PV.iv)[0+ai]? =some ((sx n y).map PV.iv) by rw[Xk,W1,hy];rfl) Z Z ?_;refine gA Z ?_;refine eA (jT (d:=102) (sz:=1) (db (fT ba) b0.nd hy) Z (by omega) k2 k3 k4) fun t Y ht=>?_;obtain⟨rfl,rfl⟩:=ht;refine bx 2 ?_;refine gA Z ?_;refine bx 1 ?_;refine mo ab Z Z Z (i:=5) (sz:=1) (q:=0+bi) Z Z Z Z (by simp only[Xr];omega) Z Z Z Z ?_;refine gA Z ?_;refine eA (xb (i:=5) (o':=aD 1 (y.2.2.2.set bi 1) ba) Z (.of_eq ?_)) fun t Y ht=>?_
   ·show AO.row 1 ((y.2.2.2.map fun x=>(ba x).map PV.iv).set (0+bi) ((ba 1).map PV.iv))=AO.row 1 ((y.2.2.2.set bi 1).map fun x=>(ba x).map PV.iv);rw[Xk,YN]
   obtain⟨rfl,rfl⟩:=ht;refine eA (xc (b:=y.1) (e:=y.2.1) (i:=5) (o:=aD 1 (y.2.2.2.set bi 1) ba) (bc.du _ _ _) Z (c0 _ (by rw[YM];exact k1)) (jk ba)) fun t Y ht=>?_;obtain⟨rfl,rfl⟩:=ht;refine eU (kR (bW ?_));refine gA Z ?_
   exact⟨h4,⟨pq L ai y (y.2.2.2.set bi 1)⟩,[],⟨nI ba b0 hy,AJ b0 hy (by rw[YM];exact k1),by
    show dz (pq L ai y (y.2.2.2.set bi 1))=_
    rw[AP,a0,<-d0,x0,<-hm];exact i0⟩,zW (zK (hR Z (EJ hy).symm Z (zK ac)))⟩
  ·have q4: ¬gF p hs1 ai bi=0:=by rw[<-t0];exact zF q4
   have hm:max (gF p hs1 ai bi) (fN l:Int)=gF p hs1 ai bi:=by rw[hh];omega
   refine fa (kR (bW ?_));refine gA Z ?_
   exact⟨h4,⟨L⟩,[],⟨rfl,b0,by
    show dz L=_;rw[a0,<-d0];refine lN fun i j hi hj=>?_;rw[GR hf o0 k0 i j hi hj];by_cases v0:i=ai∧j=bi
    ·rw[am v0,QU,hm,v0.1,v0.2]
    ·rw[be v0]⟩,zW (zK (zS (zK ac)))⟩
abbrev iB(b:Bool):IV:= .v (.bool b)
def cA(b:Bool):List IV:=[iB b]
abbrev wI(n:Nat)(f:Nat->Nat->Bool):IV:=dy 1 (dQ n f) (kW cA)
abbrev gI(n:Nat)(g:Nat->Nat->Int):IV:=dy 1 (dQ n g) (kW ba)
theorem AR{β:Type}[Inhabited β]{n:Nat}{f:Nat->Nat->β}{a b:Nat}(ha:a<n)(hb:b<n):((dQ n f).getD a default).getD b default=f a b:=by
 rw[WU,WU,lM ha,Yl,qM hb];rfl
theorem w9{β:Type}[Inhabited β]{n:Nat}{f:Nat->Nat->β}{a:Nat}(ha:a<n):((dQ n f).getD a default).length=n:=by
 rw[WU,lM ha];simp
theorem HF{sz q:Nat}{es:List (List PV)}{p p':PV}(h:aH p p'):fQ (.row sz (es.set q [p])) (.row sz (es.set q [p'])):=by
 refine⟨fun hr=>?_,fun M N U w i ho=>?_⟩
 ·cases es with
  |nil=>exact hr
  |cons a r=>cases q<;>rfl
 ·have key: ∀(k:Nat) (e:List PV),(es.set q [p'])[k]? =some e-> ∃e0,(es.set q [p])[k]? =some e0∧e0.length=e.length∧ ∀(j:Nat) (x:PV),e[j]? =some x-> ∃x0,e0[j]? =some x0∧aH x0 x:=by
   intro k e he;rw[XK]at he;by_cases hk:q=k
   ·rw[am hk]at he;by_cases hl:q<es.length
    ·rw[am hl]at he;cases he;refine⟨[p],by rw[XK,am hk,am hl],rfl,fun j x hx=>?_⟩;cases j with
     |zero=>cases hx;exact⟨p,rfl,h⟩
     |succ j=>simp at hx
    ·rw[be hl]at he;cases he
   ·rw[be hk]at he;exact⟨e,by rw[XK,be hk];exact he,rfl,fun j x hx=>⟨x,hx, .refl x⟩⟩
  rcases ho with ho|⟨h0,c,T,h1,h2,h3,h4,h5⟩
  ·refine .inl ?_;have hz:es.length=0:=by have:=congrArg Zn ho;rw[YM]at this;exact this
   rw[Ys hz];rfl
  ·refine .inr ⟨h0,c,T,h1,h2,by rw[YM]at h3 ⊢;exact h3,fun k e he=>?_,fun k e j x he hx=>?_⟩
   ·obtain⟨e0,ha,hb,_⟩:=key k e he;rw[<-hb];exact h4 k e0 ha
   ·obtain⟨e0,ha,_,hc⟩:=key k e he;obtain⟨x0,hd,a0⟩:=hc j x hx;exact a0 M N U _ (h5 k e0 j x0 ha hd)
theorem Uv{P:Program}{nt:Nat}{Q:XQ}{k:List XI}{s:AS}{X:bc}{c:Code}{L:List Nat}{t:AS}(hw:Wk s.nx L s t)(h:GX P nt (.code c::k) Q t X):GX P nt (.code c::k) Q s X:=by
 intro M N a w hf hs;obtain⟨g1,g2⟩:=jd.frame (hw.ext (.refl _ _ _ _ _)) hs;exact AX.then h (hw.fits hf) g2 fun e a2 w2 M2 N2 s2 X2 a0 d0 c0 b0=>⟨M2,N2,s2,X2,g1.trans a0,d0,c0,b0⟩
set_option maxHeartbeats 1000000 in
theorem T4{n:Nat}(hn:n<=64)(g:Nat->Nat->Int)(E:Nat->Nat->Bool)(hE: ∀i j,i<n->j<n->E i j=decide (g i j>0)):Pure prog 63 [.iv (gI n g)] (.iv (dy 1 (dQ n (Go.Wa.W E n)) (kW cA))):=by
 have y0:=fK n g;refine ad ab func63 Z (by decide) ntmps63 Z (by simp) Z ?_;refine GD ?_;refine aG (bW ?_);refine gA Z ?_;refine aG (bW ?_);refine gA Z ?_;refine aG (aG (fZ ⟨[(0, .iv (gI n g)),(3, .sl 0 0 0 1),(4,pI 0)],[(0,some (rO n ([]:vS Bool)))],1⟩ ?_ ?_))
 ·refine fb 3 1 Z ?_;refine gA Z (jB [0] ?_);exact zW (zS ac)
 refine bP (j7 0 n (W3 _) (fun i (x:ULift.{1} (vS Bool))=>⟨[(0, .iv (gI n g)),(3, .sl 1 0 i 1),(4,pI i)],[(1,some (rO n x.down))],2⟩)
  (fun i x Y=>Y=eW (fT cA) x.down∧yz n x.down∧dz x.down=(dQ n (Go.Wa.W E 0)).take i) ⟨[]⟩ [0] ⟨rfl,FO n,rfl⟩
  (zW (zS ac)) (fun _ _ _ h=>h.1▸cQ (fT cA) _) fun i x Y hi hJ=>?_)
 obtain⟨rfl,a0,b0⟩:=hJ;obtain⟨L⟩:=x;have a0:yz n L:=a0;have b0:dz L=(dQ n (Go.Wa.W E 0)).take i:=b0;have d1:L.length=i:=by
  have:=congrArg Zn b0;rw[XH,fK]at this;unfold dz at this;rw[Xr]at this;omega
 refine aG (aG (bW ?_));refine gA Z ?_;refine eM Z (fun h1=>fa ?_) (fun h1=>ie ?_)
 ·have h1:i<n:=by
   have h:i<(dQ n g).length:=by simpa using h1
   omega
  let c0:Nat->List Bool:=fun k=>(Xc n).map fun j=>if j<k then Go.Wa.W E 0 i j else false
  refine aG (bP (aG (fZ ⟨[(0, .iv (gI n g)),(3, .sl 1 0 i 1),(4,pI i),(5, .sl 2 0 n 1)],[(1,some (rO n L)),(2,some (aD 1 (c0 0) cA))],3⟩ ?_ ?_)))
  ·refine gA Z (GJ ab n n Z Z Z Z Z Z Z (by rw[y0]) (by rw[y0]) (by omega) (by omega) (by show 1*n<=_;omega) Z (by decide) (z:=[pB false]) Z (.inr ⟨rfl,rfl⟩) Z ?_);refine gA Z (jB [2] ?_)
   exact zW (zS (hR Z (by
    show Zb n [pB false]=((Xc n).map fun j=>if j<0 then Go.Wa.W E 0 i j else false).map fun x=>(cA x).map PV.iv;rw[Y0];apply YH;intro j;rw[Zj,W1];rcases X3 j n with hj|hj
    ·rw[am hj,YF hj];rfl
    ·rw[be (by omega),Zc (by simpa using hj)];rfl) Z ac))
  refine aG (fZ ⟨[(0, .iv (gI n g)),(3, .sl 1 0 i 1),(4,pI i),(5, .sl 2 0 n 1)],[(1,some (rO n L)),(2,some (aD 1 (c0 n) cA))],3⟩ ?_ ?_)
  ·refine gA Z ?_;refine aA 0 n (W3 _) (fun k=>⟨[(0, .iv (gI n g)),(3, .sl 1 0 i 1),(4,pI i),(5, .sl 2 0 n 1),(6,pI k)],[(1,some (rO n L)),(2,some (aD 1 (c0 k) cA))],3⟩) (fun _=>True) [] ac
    (zW (zS (zS trivial))) fun k hk _=>?_
   refine gA Z (zI (fun h2=>?_) fun h2=>?_);rotate_left
   ·have h2:n<=k:=by
     have h:(dQ n g).length<=k:=by simpa using h2
     omega
    have z0:k=n:=by omega
    subst z0;refine gA Z (jB [] ?_);exact zW (zS (zS ac))
   have h2:k<n:=by
    have h:k<(dQ n g).length:=by simpa using h2
    omega
   have hrl:=w9 (f:=g) h1;have x0:=AR (f:=g) h1 h2;have hw:Go.Wa.W E 0 i k=(decide (g i k>0)||decide (i=k)):=by
    show(E i k||i==k)=_;rw[hE i k h1 h2];rfl
   have e0:(c0 k).set k (Go.Wa.W E 0 i k)=c0 (k+1):=by
    have:=xm (n:=n) (g:=fun j=>if j<k then Go.Wa.W E 0 i j else false) (g':=fun j=>if j<k+1 then Go.Wa.W E 0 i j else false) h2 fun j hj=>by
     by_cases r0:j=k
     ·simp[r0]
     ·rw[be r0];by_cases hlt:j<k
      ·rw[am hlt,am (by omega)]
      ·rw[be hlt,be (by omega)]
    rw[am (YC k)]at this;exact this
   have e1:(c0 k).length=n:=by simp[c0]
   refine gA Z (zI (fun q1=>?_) fun q1=>?_)
   ·have q1:decide (((dQ n g).getD i default).getD k default>0)=false:=q1;rw[x0]at q1;refine gA Z (KT (d:=39) (p:=pB (Go.Wa.W E 0 i k)) (.of_eq (fu (by rw[hw,q1,Ya,decide_eq_decide];omega))) ?_);refine mo ab Z Z Z (i:=2) (sz:=1) (q:=0+k) Z Z Z Z (by simp only[Xr];omega) Z Z Z Z ?_;refine gA Z ⟨h2,ac,[],zW (zS (hR Z (by rw[Xk,<-e0,YN];rfl) Z ac))⟩
   ·have q1:decide (((dQ n g).getD i default).getD k default>0)=true:=q1;rw[x0]at q1;refine gA Z (KT (d:=39) (p:=pB (Go.Wa.W E 0 i k)) (.te (by rw[hw,q1];rfl)) ?_);refine mo ab Z Z Z (i:=2) (sz:=1) (q:=0+k) Z Z Z Z (by simp only[Xr];omega) Z Z Z Z ?_;refine gA Z ⟨h2,ac,[],zW (zS (hR Z (by rw[Xk,<-e0,YN];rfl) Z ac))⟩
  have o0:c0 n=(Xc n).map fun j=>Go.Wa.W E 0 i j:=Yx fun j hj=>am (Xu.1 hj);rw[o0];refine ic (bx 2 ?_);refine gA Z ?_
  refine eA (qI (i:=2) (d:=42) (cQ (fT cA) L) Z (by
   have:0<n:=by omega
   obtain⟨m,hm⟩: ∃m,n=m+1:=⟨n-1,by omega⟩
   rw[hm,Zl];rfl) (jk cA) Z (by omega)) fun t Y ht=>?_
  obtain⟨b,e,cap,g0,g1,g2,g3,rfl,rfl⟩:=ht;refine bx 3 ?_;refine gA Z ?_;refine eU (kR (bW ?_));refine gA Z ?_;have v0:=tw (fT cA) g0
  exact⟨h1,⟨L++ [(b,e,cap,(Xc n).map fun j=>Go.Wa.W E 0 i j)]⟩,[4],⟨sj (fT cA) (y:=(b,e,cap,(Xc n).map fun j=>Go.Wa.W E 0 i j)) a0.nd v0,B2 a0 v0 ⟨by simp,g1,g2,g3⟩,by
   show dz (L++ [_])=_;rw[aN (by rw[fK];exact h1),<-b0];unfold dz;rw[WZ];congr 1
   rw[WU,lM h1];rfl⟩,zM (bv ⟨.row Z,rfl,bv ac⟩) (hR Z (by rw[WZ];rfl) Z ac)⟩
 have h1:n<=i:=by
  have h:(dQ n g).length<=i:=by simpa using h1
  omega
 have hin:i=n:=by omega
 have b0:dz L=dQ n (Go.Wa.W E 0):=by rw[b0,W2 (by rw[fK];exact h1)]
 clear d1;change GX _ _ [.code _] _ _ _;refine aG (aG (fZ ⟨[(0, .iv (gI n g)),(3, .sl 1 0 n 1),(7,pI 0)],[(1,some (rO n L))],2⟩ ?_ ?_))
 ·subst hin;refine gA Z (jB [] ?_);exact zW (zS ac)
 refine bP (j7 0 n (W3 _) (fun m (x:ULift.{1} (vS Bool))=>⟨[(0, .iv (gI n g)),(3, .sl 1 0 n 1),(7,pI m)],[(1,some (rO n x.down))],2⟩)
  (fun m x Y=>Y=eW (fT cA) x.down∧yz n x.down∧dz x.down=dQ n (Go.Wa.W E m)) ⟨L⟩ [] ⟨rfl,a0,b0⟩
  (zW (zS ac)) (fun _ _ _ h=>h.1▸cQ (fT cA) _) fun m x Y hm hJ=>?_)
 clear a0 b0;obtain⟨rfl,a0,b0⟩:=hJ;obtain⟨L⟩:=x;have a0:yz n L:=a0;have b0:dz L=dQ n (Go.Wa.W E m):=b0;refine aG (aG (bW ?_));refine gA Z ?_;refine eM Z (fun qm=>fa ?_) (fun qm=>ie ?_);rotate_left
 ·have h2:n<=m:=by
   have h:(dQ n g).length<=m:=by simpa using qm
   omega
  have n0:m=n:=by omega
  rw[n0]at b0;change GX _ _ [.code _] _ _ _;refine Dm (AT (i:=1) (o':=aD 1 (dz L) (kW cA)) Z (Tm cA a0)) fun t Y ht=>?_;obtain⟨rfl,rfl⟩:=ht;have m0:(dz L).length=n:=by rw[b0,fK]
  refine bW ?_;rw[<-b0];refine gA Z (jH (.inr Z) Z (iz.v7 1 (dz L) (kW cA) Z Z (by rw[m0];show PV.bH 1 1 n (.sl 1 0 n 1);simp[PV.bH]) (.done ?_)));have e:dy 1 (dz L) (kW cA)= .dq 1 n fun k=>kW cA ((dz L).getD k default):=by unfold dy;rw[m0]
  rw[e];show aH (.iv (.dq 1 n fun k=>kW cA ((dz L).getD (0+k) default))) _;simp only[Xk];exact .refl _
 have n0:m<n:=by
  have h:m<(dQ n g).length:=by simpa using qm
  omega
 refine aG (bP (aG (fZ ⟨[(0, .iv (gI n g)),(3, .sl 1 0 n 1),(7,pI m),(8,pI 0)],[(1,some (rO n L))],2⟩ ?_ ?_)))
 ·refine gA Z (jB [] ?_);exact zW (zS ac)
 refine bP (j7 0 n (W3 _) (fun a (x:ULift.{1} (vS Bool))=>⟨[(0, .iv (gI n g)),(3, .sl 1 0 n 1),(7,pI m),(8,pI a)],[(1,some (rO n x.down))],2⟩)
  (fun a x Y=>Y=eW (fT cA) x.down∧yz n x.down∧dz x.down=dQ n (Go.Wa.V E m a 0)) ⟨L⟩ [] ⟨rfl,a0,b0.trans (lN fun x y _ _=>(Go.Wa.V.zero m x y).symm)⟩
  (zW (zS ac)) (fun _ _ _ h=>h.1▸cQ (fT cA) _) fun a x Y ha hJ=>?_)
 clear a0 b0;obtain⟨rfl,a0,b0⟩:=hJ;obtain⟨L⟩:=x;have a0:yz n L:=a0;have b0:dz L=dQ n (Go.Wa.V E m a 0):=b0;refine aG (aG (bW ?_));refine gA Z ?_;refine eM Z (fun qa=>fa ?_) (fun qa=>ie ?_);rotate_left
 ·have h2:n<=a:=by
   have h:(dQ n g).length<=a:=by simpa using qa
   omega
  have k0:a=n:=by omega
  rw[k0]at b0;change GX _ _ (.code _::_) _ _ _;refine bW ?_;refine gA Z ⟨n0,⟨L⟩,[],⟨rfl,a0,b0.trans (lN fun x y hx _=>Go.Wa.V.full m n x y hx)⟩,zW (zS ac)⟩
 have k0:a<n:=by
  have h:a<(dQ n g).length:=by simpa using qa
  omega
 refine aG (bP (aG (fZ ⟨[(0, .iv (gI n g)),(3, .sl 1 0 n 1),(7,pI m),(8,pI a),(9,pI 0)],[(1,some (rO n L))],2⟩ ?_ ?_)))
 ·refine gA Z (jB [] ?_);exact zW (zS ac)
 refine bP (j7 0 n (W3 _) (fun b (x:ULift.{1} (vS Bool))=>⟨[(0, .iv (gI n g)),(3, .sl 1 0 n 1),(7,pI m),(8,pI a),(9,pI b)],[(1,some (rO n x.down))],2⟩)
  (fun b x Y=>Y=eW (fT cA) x.down∧yz n x.down∧dz x.down=dQ n (Go.Wa.V E m a b)) ⟨L⟩ [] ⟨rfl,a0,b0⟩
  (zW (zS ac)) (fun _ _ _ h=>h.1▸cQ (fT cA) _) fun b x Y hb hJ=>?_)
 clear a0 b0;obtain⟨rfl,a0,b0⟩:=hJ;obtain⟨L⟩:=x;have a0:yz n L:=a0;have b0:dz L=dQ n (Go.Wa.V E m a b):=b0;refine aG (aG (bW ?_));refine gA Z ?_;refine eM Z (fun qb=>fa ?_) (fun qb=>ie ?_);rotate_left
 ·have h2:n<=b:=by
   have h:(dQ n g).length<=b:=by simpa using qb
   omega
  have g0:b=n:=by omega
  rw[g0]at b0;change GX _ _ (.code _::_) _ _ _;refine bW ?_;refine gA Z ⟨k0,⟨L⟩,[],⟨rfl,a0,b0.trans (lN fun x y _ hy=>Go.Wa.V.line m a n x y hy)⟩,zW (zS ac)⟩
 have g0:b<n:=by
  have h:b<(dQ n g).length:=by simpa using qb
  omega
 have hL:L.length=n:=by
  have:=congrArg Zn b0;rw[fK]at this;unfold dz at this;rwa[Xr]at this
 have f0: ∀r:List Bool,r.length=n->(aD 1 r cA).real=true:=fun r hr=>by
  cases r with
  |nil=>simp at hr;omega
  |cons=>rfl
 have b1:a<L.length:=by omega
 have hlm:m<L.length:=by omega
 obtain⟨ya,d0⟩: ∃y,L[a]? =some y:=⟨_,WY b1⟩
 obtain⟨ym,j0⟩: ∃y,L[m]? =some y:=⟨_,WY hlm⟩
 obtain⟨k1,k2,k3,k4⟩:=a0.ok ya (Xo d0);obtain⟨j1,j2,j3,j4⟩:=a0.ok ym (Xo j0);have p0:ya.2.2.2=(Xc n).map fun j=>Go.Wa.V E m a b a j:=by
  have:=Ev d0;rw[b0,lM k0]at this;exact(XX this).symm
 have a1:ym.2.2.2=(Xc n).map fun j=>Go.Wa.V E m a b m j:=by
  have:=Ev j0;rw[b0,lM n0]at this;exact(XX this).symm
 have w0:ya.2.2.2.getD m default=Go.Wa.V E m a b a m:=by rw[p0,WU,qM n0];rfl
 have s0:ym.2.2.2.getD b default=Go.Wa.V E m a b m b:=by rw[a1,WU,qM g0];rfl
 have q0:(Go.Wa.V E m a b a m&&Go.Wa.V E m a b m b)=false->dz L=dQ n (Go.Wa.V E m a (b+1)):=fun h=>b0.trans (lN fun x y _ _=>by
  rw[Go.Wa.V.next,h,YR];by_cases t0:x=a∧y=b
  ·rw[am t0]
  ·rw[be t0])
 refine aG (bP (aG (ic (bx 3 ?_))));refine gA Z ?_;refine bx 1 ?_;refine b4 ab Z Z Z Z Z (show(L.map fun x=>(sx n x).map PV.iv)[0+a]? =some ((sx n ya).map PV.iv) by rw[Xk,W1,d0];rfl) Z Z ?_;refine gA Z ?_;refine eA (jT (d:=66) (sz:=1) (db (fT cA) a0.nd d0) Z (by omega) k2 k3 k4) fun t Y ht=>?_;obtain⟨rfl,rfl⟩:=ht;refine bx 2 ?_;refine gA Z ?_;refine bx 1 ?_;refine b4 ab Z Z Z Z Z (show(ya.2.2.2.map fun x=>(cA x).map PV.iv)[0+m]? =some ((cA (ya.2.2.2.getD m default)).map PV.iv) from jt (by omega)) Z Z ?_;refine gA Z ?_;refine bx 1 ?_;refine gA Z ?_;refine eA (xc (b:=ya.1) (e:=ya.2.1) (i:=2) (o:=aD 1 ya.2.2.2 cA) (bc.du _ _ _) Z (f0 _ k1) (jk cA)) fun t Y ht=>?_;obtain⟨rfl,rfl⟩:=ht;rw[nI cA a0 d0,uA d0];refine bx 3 ?_;refine gA Z (zI (fun q1=>?_) fun q1=>?_)
 ·have q1:Go.Wa.V E m a b a m=true:=by rw[<-w0];exact q1
  refine gA Z ?_;refine bx 1 ?_;refine gM 1 Z (b4 ab Z Z Z Z Z (show(L.map fun x=>(sx n x).map PV.iv)[0+m]? =some ((sx n ym).map PV.iv) by rw[Xk,W1,j0];rfl) Z Z ?_);refine gA Z ?_;refine eA (jT (d:=74) (sz:=1) (db (fT cA) a0.nd j0) Z (by omega) j2 j3 j4) fun t Y ht=>?_;obtain⟨rfl,rfl⟩:=ht;refine bx 2 ?_;refine gA Z ?_;refine bx 1 ?_;refine gM 1 Z (b4 ab Z Z Z Z Z (show(ym.2.2.2.map fun x=>(cA x).map PV.iv)[0+b]? =some ((cA (ym.2.2.2.getD b default)).map PV.iv) from jt (by omega)) Z Z ?_);refine gA Z ?_;refine eA (xc (b:=ym.1) (e:=ym.2.1) (i:=3) (o:=aD 1 ym.2.2.2 cA) (bc.du _ _ _) Z (f0 _ j1) (jk cA)) fun t Y ht=>?_;obtain⟨rfl,rfl⟩:=ht;rw[nI cA a0 j0,uA j0];refine bx 1 ?_;refine gA Z ?_;refine eU (eM Z (fun q2=>?_) (fun q2=>?_))
  ·have q2:Go.Wa.V E m a b m b=true:=by rw[<-s0];exact q2
   have hw:Go.Wa.V E m a (b+1) a b=true:=by rw[Go.Wa.V.next,am ⟨rfl,rfl⟩,q1,q2];simp
   have e0:=B7 (n:=n) (f:=Go.Wa.V E m a b) (f':=Go.Wa.V E m a (b+1)) k0 g0 fun i j _ _=>by
    rw[Go.Wa.V.next m a b i j];by_cases i0:i=a∧j=b
    ·rw[am i0,am i0,Go.Wa.V.next,am ⟨rfl,rfl⟩,i0.1,i0.2]
    ·rw[be i0,be i0]
   rw[hw]at e0;refine Uv (L:=[]) (t:=⟨[(0, .iv (gI n g)),(3, .sl 1 0 n 1),(7,pI m),(8,pI a),(9,pI b)],[(1,some (rO n L))],4⟩) (zW (zS ac)) ?_;refine ic (bx 3 ?_);refine gA Z ?_;refine bx 1 ?_;refine b4 ab Z Z Z Z Z (show(L.map fun x=>(sx n x).map PV.iv)[0+a]? =some ((sx n ya).map PV.iv) by rw[Xk,W1,d0];rfl) Z Z ?_;refine gA Z ?_;refine eA (jT (d:=82) (sz:=1) (db (fT cA) a0.nd d0) Z (by omega) k2 k3 k4) fun t Y ht=>?_;obtain⟨rfl,rfl⟩:=ht;refine bx 2 ?_;refine gA Z ?_;refine bx 1 ?_;refine mo ab Z Z Z (i:=4) (sz:=1) (q:=0+b) Z Z Z Z (by simp only[Xr];omega) Z Z Z Z ?_;refine gA Z ?_;refine eA (xb (i:=4) (o':=aD 1 (ya.2.2.2.set b true) cA) Z ((HF (sz:=1) (es:=ya.2.2.2.map fun x=>(cA x).map PV.iv) (q:=0+b) (p:= .kb true) (p':= .iv (iB true)) (.kb true)).trans (.of_eq ?_))) fun t Y ht=>?_
   ·show AO.row 1 ((ya.2.2.2.map fun x=>(cA x).map PV.iv).set (0+b) ((cA true).map PV.iv))=AO.row 1 ((ya.2.2.2.set b true).map fun x=>(cA x).map PV.iv);rw[Xk,YN]
   obtain⟨rfl,rfl⟩:=ht;refine eA (xc (b:=ya.1) (e:=ya.2.1) (i:=4) (o:=aD 1 (ya.2.2.2.set b true) cA) (bc.du _ _ _) Z (f0 _ (by rw[YM];exact k1)) (jk cA)) fun t Y ht=>?_;obtain⟨rfl,rfl⟩:=ht;refine eU (kR (bW (o7 (L:=[]) (t:=⟨[(0, .iv (gI n g)),(3, .sl 1 0 n 1),(7,pI m),(8,pI a),(9,pI b)],[(1,some (rO n (pq L a ya (ya.2.2.2.set b true))))],5⟩) (zW (hR Z (EJ d0).symm Z ac)) ?_)));refine gA Z ?_
   exact⟨g0,⟨pq L a ya (ya.2.2.2.set b true)⟩,[],⟨nI cA a0 d0,AJ a0 d0 (by rw[YM];exact k1),by
    show dz (pq L a ya (ya.2.2.2.set b true))=_
    rw[AP,b0,p0];exact e0⟩,zW (zS ac)⟩
  ·have q2:Go.Wa.V E m a b m b=false:=by rw[<-s0];exact q2
   refine fa (kR (bW ?_));refine gA Z ⟨g0,⟨L⟩,[],⟨rfl,a0,q0 (by rw[q2,Yz])⟩,zW (zS ac)⟩
 ·have q1:Go.Wa.V E m a b a m=false:=by rw[<-w0];exact q1
  refine gA Z ?_;refine bx 5 ?_;refine gA Z ?_;refine eU ?_
  first
   |refine Fe (t:=false) Z ?_
   |refine eM (t:=false) Z (fun q=>nomatch q) (fun _=>?_)
  refine fa (kR (bW ?_));refine gA Z ⟨g0,⟨L⟩,[],⟨rfl,a0,q0 (by rw[q1,Yi])⟩,zW (zS ac)⟩
theorem HI{p:Prog}(hf:jN p){i j:Nat}(hi:i<(ns p).length)(hj:j<(ns p).length):ringEq p (vD p i) (vD p j)=(ig p i j&&ig p j i):=by
 rw[Xy,sr,Xg];constructor
 ·rintro⟨i',j',hi',hj',h1,h2,h3,h4⟩;obtain rfl:=w5 hf hi' hi h1;obtain rfl:=w5 hf hj' hj h2;exact⟨h3,h4⟩
 ·exact fun h=>⟨i,j,hi,hj,rfl,rfl,h.1,h.2⟩
theorem Rb{p:Prog}(hf:jN p){a:aj}(ha:a∈p.aB.map Decl.name): ∃i,i<(ns p).length∧vD p i=a∧QK (ns p) a=(i:Int):=by
 obtain⟨i,hi,hv⟩:=Go.Rg.ki (V:=ns p) (a:=a) (by rw[ns,c8];exact ha);refine⟨i,hi,hv,?_⟩;have:=JX hf hi;rwa[show vD p i=a from hv]at this
theorem ge0{i:Nat}{α:Prop}(h:decide ((i:Int)>=0)=false):α:=by
 have:=zF h;omega
theorem A2{r:aq}(h:r.size<=10000000):r.body.length<=10000000∧r.head.ae.length<=10000000:=by
 have:=Lit.aw r.body;unfold aq.size at h;exact⟨by omega,by omega⟩
abbrev fI(p:Prog):IV:=wI (ns p).length (ig p)
theorem NC{p:Prog}(hf:jN p){r:aq}(hr:r∈p.rules)(f0:r.size<=10000000):Pure prog 62 [ag r.c, .iv (strs (ns p)), .iv (fI p)] (pB (kM p r)):=by
 have hn:=pK hf;have j0:=fK (ns p).length (ig p);have g0:=(A2 f0).1;obtain⟨a,ha,c0,d0⟩:=Rb hf (hf.zP r hr);have b0:=A1 (ns p) r.head.rel;rw[d0]at b0;have i0:=w9 (f:=ig p) ha;refine ad ab func62 Z (by decide) ntmps62 Z (by simp) Z ?_;refine gA Z (zp (b0) ?_);refine gA Z ?_;refine aA 0 r.body.length (W3 _) (fun i=>⟨[(1, .iv (strs (ns p))),(2, .iv (fI p)),(3, .ptr 0 0),(7,pI a),(8,pI i)],[(0,some (an r.c))],1⟩) (fun i=>(r.body.take i).any (fun l=>decide (l.kind=1)&&ringEq p l.atom.rel r.head.rel)=false) [] Z
  (zW (zK trivial)) fun i hi hJ=>?_
 refine gA Z (zI (fun h1=>?_) fun h1=>?_);rotate_left
 ·have h1:=co h1;rw[show kM p r=false from any_none hJ h1];refine gA Z (zL (.of_eq ?_));rfl
 have h1:=ci h1;have hl:=bZ h1;refine gA Z (zI (fun q1=>?_) fun q1=>?_)
 ·have q1:(!decide ((r.body.getD i default).kind=1))=true:=q1;refine gA Z ⟨h1,(bq hJ h1).2 (by simp only[YJ];exact .inl (by simpa using q1)),[],zW (zK ac)⟩
 have q1:(r.body.getD i default).kind=1:=by
  have q1:(!decide ((r.body.getD i default).kind=1))=false:=q1;simpa using q1
 have hm:(r.body.getD i default).atom.rel∈named (r.body.getD i default):=by rw[pO,am (.inl q1)];exact YP _
 obtain⟨b,hb,e0,a0⟩:=Rb hf (hf.lits r hr _ hl _ hm);have hpb:=A1 (ns p) (r.body.getD i default).atom.rel;rw[a0]at hpb;have k0:=w9 (f:=ig p) hb;have e1:=AR (f:=ig p) ha hb;have e2:=AR (f:=ig p) hb ha;have hQ:(decide ((r.body.getD i default).kind=1)&&ringEq p (r.body.getD i default).atom.rel r.head.rel)=(ig p b a&&ig p a b):=by
  rw[decide_eq_true q1,XV,<-c0,<-e0,HI hf hb ha]
 refine gA Z (zp (hpb) ?_);refine gA Z (zI (fun g1=>?_) fun g1=>?_);rotate_left
 ·exact ge0 g1
 refine gA Z (zI (fun g2=>?_) fun g2=>?_);rotate_left
 ·exact ge0 g2
 refine gA Z (zI (fun g3=>?_) fun g3=>?_);rotate_left
 ·have g3:ig p a b=false:=by rw[<-e1];exact g3
  refine gA Z ⟨h1,(bq hJ h1).2 (by rw[hQ,g3,Yz]),[],zW (zK ac)⟩
 have g3:ig p a b=true:=by rw[<-e1];exact g3
 refine gA Z (zI (fun g4=>?_) fun g4=>?_)
 ·have g4:ig p b a=true:=by rw[<-e2];exact g4
  rw[show kM p r=true from kn h1 (by rw[hQ,g3,g4];rfl)];refine gA Z (zL (.of_eq ?_));rfl
 ·have g4:ig p b a=false:=by rw[<-e2];exact g4
  refine gA Z ⟨h1,(bq hJ h1).2 (by rw[hQ,g4,Yi]),[],zW (zK ac)⟩
theorem UU(a:Atom)(hb:a.ae.length<=100000000000):Pure prog 58 [ag a.c,ag a.c] (pB true):=by
 refine ad ab func58 Z (by decide) ntmps58 Z (by simp) Z ?_
 repeat(refine gA Z (zI (fun q=>?_) (fun q=>?_));all_goals(try(simp at q;done)))
 refine gA Z ?_;refine aA 0 a.ae.length (W3 _) (fun i=>⟨[(2, .ptr 0 0),(3, .ptr 1 0),(5,pI i)],[(0,some (an a.c)),(1,some (an a.c))],2⟩) (fun _=>True) [] ac
  (zW (zK (zK trivial))) fun i hi _=>?_
 refine gA Z (zI (fun h1=>?_) fun h1=>?_)
 ·have h1:=ci h1
  repeat(refine gA Z (zI (fun q=>?_) (fun q=>?_));all_goals(try(simp at q;done)))
  refine gA Z ⟨h1,ac,[],zW (zK (zK ac))⟩
 ·have h1:=co h1;refine gA Z (zL (.of_eq ?_));rfl
theorem Q8: ∀(n:Nat) (e:Expr),e.size<=n->e.size<=100000000000->Pure prog 100 [ag e.c,ag e.c] (pB true)
 |0,e,h,_=>absurd e.size_pos (by omega)
 |n+1,e,h,hb=>by
  have c0:=e.size_eq;have b0:=Expr.aw e.args;refine Al.Pure.le (aa:=[ag e.c,ag e.c]) (args:=[ag e.c1,ag e.c1]) ?_ ⟨e.xG,e.xG,ac⟩;refine ad ab func100 Z (by decide) ntmps100 Z (by simp) Z ?_
  repeat(refine gA Z (zI (fun q=>?_) (fun q=>?_));all_goals(try(simp at q;done)))
  refine gA Z ?_;refine aA 0 e.args.length (W3 _) (fun i=>⟨[(2, .ptr 0 0),(3, .ptr 1 0),(5,pI i)],[(0,some (an e.c1)),(1,some (an e.c1))],2⟩) (fun _=>True) [] ac
   (zW (zK (zK trivial))) fun i hi _=>?_
  refine gA Z (zI (fun h1=>?_) fun h1=>?_)
  ·have h1:=ci h1;have a0:=Expr.aT e.args i h1;refine gA Z (nB (Q8 n (e.args.getD i default) (by omega) (by omega)) ?_)
   repeat(refine gA Z (zI (fun q=>?_) (fun q=>?_));all_goals(try(simp at q;done)))
   refine gA Z ⟨h1,ac,[],zW (zK (zK ac))⟩
  ·have h1:=co h1;refine gA Z (zL (.of_eq ?_));rfl
theorem LG(e:Expr)(hb:e.size<=100000000000):Pure prog 100 [ag e.c,ag e.c] (pB true):=Q8 e.size e (W0 _) hb
theorem VS: ∀(n:Nat) (l:List Lit),Lit.ax l<=n->Lit.ax l<=100000000000->Pure prog 59 [.iv (lits l), .iv (lits l)] (pB true):=by
 intro n
 induction n with
 |zero=>
  intro l h hb;have hl:=Lit.aw l;have a0:l=[]:=YO.1 (by omega);subst a0;refine ad ab func59 Z (by decide) ntmps59 Z (by simp) Z ?_
  repeat(refine gA Z (zI (fun q=>?_) (fun q=>?_));all_goals(try(simp at q;done)))
  refine gA Z ?_;refine aA 0 0 (W3 _) (fun i=>⟨[(0, .iv (lits [])),(1, .iv (lits [])),(5,pI i)],[],0⟩) (fun _=>True) [] ac (mH Z Z (bv (bv (bv ac))) Z) fun i hi _=>?_;refine gA Z (zI (fun h1=>?_) fun h1=>?_)
  ·simp at h1;omega
  ·refine gA Z (zL (.of_eq ?_));rfl
 |succ n ih=>
  intro l h hb;have hl:=Lit.aw l;refine ad ab func59 Z (by decide) ntmps59 Z (by simp) Z ?_
  repeat(refine gA Z (zI (fun q=>?_) (fun q=>?_));all_goals(try(simp at q;done)))
  refine gA Z ?_;refine aA 0 l.length (W3 _) (fun i=>⟨[(0, .iv (lits l)),(1, .iv (lits l)),(5,pI i)],[],0⟩) (fun _=>True) [] ac (mH Z Z (bv (bv (bv ac))) Z) fun i hi _=>?_;refine gA Z (zI (fun h1=>?_) fun h1=>?_)
  ·have h1:=ci h1;have b0:=Lit.aT l i h1;have c0:=(l.getD i default).size_eq
   repeat(refine gA Z (zI (fun q=>?_) (fun q=>?_));all_goals(try(simp at q;done)))
   refine gA Z (zp (UU (l.getD i default).atom (by omega)) ?_)
   repeat(refine gA Z (zI (fun q=>?_) (fun q=>?_));all_goals(try(simp at q;done)))
   refine gA Z (zp (LG (l.getD i default).left (by omega)) ?_)
   repeat(refine gA Z (zI (fun q=>?_) (fun q=>?_));all_goals(try(simp at q;done)))
   refine gA Z (zp (LG (l.getD i default).right (by omega)) ?_)
   repeat(refine gA Z (zI (fun q=>?_) (fun q=>?_));all_goals(try(simp at q;done)))
   repeat(refine gA Z (zI (fun q=>?_) (fun q=>?_));all_goals(try(simp at q;done)))
   refine gA Z (zp (LG (l.getD i default).km (by omega)) ?_)
   repeat(refine gA Z (zI (fun q=>?_) (fun q=>?_));all_goals(try(simp at q;done)))
   refine gA Z (bn (Al.Pure.le (aa:=[.iv (uh (l.getD i default).ar), .iv (uh (l.getD i default).ar)]) (ih (l.getD i default).ar (by omega) (by omega)) ⟨.iv (kP _), .iv (kP _),ac⟩) Z Z Z Z Z Z ?_)
   repeat(refine gA Z (zI (fun q=>?_) (fun q=>?_));all_goals(try(simp at q;done)))
   refine gA Z ⟨h1,ac,[],zW ac⟩
  ·have h1:=co h1;refine gA Z (zL (.of_eq ?_));rfl
theorem VQ(l:List Lit)(hb:Lit.ax l<=100000000000):Pure prog 59 [.iv (lits l), .iv (lits l)] (pB true):=VS _ l (W0 _) hb
set_option maxHeartbeats 800000 in
theorem Wh(p:Prog)(hb:p.size<=100000000000):Pure prog 19 [ag p.c,ag p.c] (pB true):=by
 have b0:p.size=p.aB.length+(p.aB.map fun d=>d.types.length).sum+p.rules.length+(p.rules.map aq.size).sum:=rfl;refine ad ab func19 Z (by decide) ntmps19 Z (by simp) Z ?_
 repeat(refine gA Z (zI (fun q=>?_) (fun q=>?_));all_goals(try(simp at q;done)))
 refine gA Z ?_;refine aA 0 p.aB.length (W3 _) (fun i=>⟨[(2, .ptr 0 0),(3, .ptr 1 0),(5,pI i)],[(0,some (an p.c)),(1,some (an p.c))],2⟩) (fun _=>True) [] ac
  (zW (zK (zK trivial))) fun i hi _=>?_
 refine gA Z (zI (fun h1=>?_) fun h1=>?_)
 ·have h1:=ci h1;have a0:=qJ (fun d:Decl=>d.types.length) p.aB i h1
  repeat(refine gA Z (zI (fun q=>?_) (fun q=>?_));all_goals(try(simp at q;done)))
  refine gA Z ?_;refine aA 0 (p.aB.getD i default).types.length (W3 _) (fun k=>⟨[(2, .ptr 0 0),(3, .ptr 1 0),(5,pI i),(6, .ptr 2 0),(7, .ptr 3 0),(8,pI k)],[(0,some (an p.c)),(1,some (an p.c)),(2,some (an (p.aB.getD i default).c)),(3,some (an (p.aB.getD i default).c))],4⟩) (fun _=>True) [] ac
   (zW (zK (zK (zK (zK trivial))))) fun k hk _=>?_
  refine gA Z (zI (fun h2=>?_) fun h2=>?_)
  ·have h2:k<(p.aB.getD i default).types.length:=by simpa using h2
   repeat(refine gA Z (zI (fun q=>?_) (fun q=>?_));all_goals(try(simp at q;done)))
   refine gA Z ⟨h2,ac,[],zW (zK (zK (zK (zK ac))))⟩
  ·have h2:(p.aB.getD i default).types.length<=k:=by simpa using h2
   refine gA Z ⟨h1,ac,[],zW (zK (zK ac))⟩
 ·have h1:=co h1;refine gA Z ?_;refine aA 0 p.rules.length (W3 _) (fun i=>⟨[(2, .ptr 0 0),(3, .ptr 1 0),(9,pI i)],[(0,some (an p.c)),(1,some (an p.c))],2⟩) (fun _=>True) [] ac
   (zW (zK (zK trivial))) fun i hi _=>?_
  refine gA Z (zI (fun h2=>?_) fun h2=>?_)
  ·have h2:=ci h2;have a0:=qJ aq.size p.rules i h2;have c0:(p.rules.getD i default).size=(p.rules.getD i default).head.ae.length+Lit.ax (p.rules.getD i default).body:=rfl
   repeat(refine gA Z (zI (fun q=>?_) (fun q=>?_));all_goals(try(simp at q;done)))
   refine gA Z (zp (UU (p.rules.getD i default).head (by omega)) ?_)
   repeat(refine gA Z (zI (fun q=>?_) (fun q=>?_));all_goals(try(simp at q;done)))
   refine gA Z (zp (VQ (p.rules.getD i default).body (by omega)) ?_)
   repeat(refine gA Z (zI (fun q=>?_) (fun q=>?_));all_goals(try(simp at q;done)))
   refine gA Z ⟨h2,ac,[],zW (zK (zK ac))⟩
  ·have h2:=co h2;refine gA Z (zL (.of_eq ?_));rfl
abbrev pU(n:Int):PV:= .iv (.v (.int .u8 n))
def gp(c:Int):Bool:=decide (c>=97)&&decide (c<=122)
def tc(c:Int):Bool:=decide (c>=65)&&decide (c<=90)
def Fv(c:Int):Bool:=(decide (c>=48)&&decide (c<=57))||decide (c=95)
theorem Ve(c:Int):Pure prog 206 [pU c] (pB (gp c)):=by
 refine ad ab func206 Z (by decide) ntmps206 Z (by simp) Z ?_
 repeat' (first|(refine gA Z (zI (fun _=>?_) (fun _=>?_)))|(refine gA Z (zL (.of_eq ?_))))
 all_goals(refine(fu ?_:pB _=pB _);simp_all [gp];try omega)
theorem Ws(c:Int):Pure prog 231 [pU c] (pB (tc c)):=by
 refine ad ab func231 Z (by decide) ntmps231 Z (by simp) Z ?_
 repeat' (first|(refine gA Z (zI (fun _=>?_) (fun _=>?_)))|(refine gA Z (zL (.of_eq ?_))))
 all_goals(refine(fu ?_:pB _=pB _);simp_all [tc];try omega)
theorem Wt(c:Int):Pure prog 230 [pU c] (pB (Fv c)):=by
 refine ad ab func230 Z (by decide) ntmps230 Z (by simp) Z ?_
 repeat' (first|(refine gA Z (zI (fun _=>?_) (fun _=>?_)))|(refine gA Z (zL (.of_eq ?_))))
 all_goals(refine(fu ?_:pB _=pB _);simp_all [Fv];try omega)
theorem Gh(b:UInt8):okB b=(Fv (b.toNat:Int)||(gp (b.toNat:Int)||tc (b.toNat:Int))):=by
 unfold okB L6 Fv gp tc;rw[Xy];simp only[XJ,Xg,decide_eq_true_iff];omega
def cy(s:aj)(i:Nat):UInt8:=s.data.toList.getD i 0
def fz(s:aj):Bool:=decide (1<=s.size)&&(decide (s.size<=32)&&(Xc s.size).all fun i=>decide (i=0)||okB (cy s i))
theorem F9{s:aj}(h0: ¬s.size<1)(h1: ¬s.size>32)(h: ∀j,1<=j->j<s.size->okB (cy s j)=true):fz s=true:=by
 unfold fz;rw[decide_eq_true (show 1<=s.size by omega),decide_eq_true (show s.size<=32 by omega),XV,XV,Xm];intro j hj;by_cases hz:j=0
 ·simp[hz]
 ·rw[h j (by omega) (Xu.1 hj)];simp
theorem Ga{s:aj}{j:Nat}(hj:1<=j)(h1:j<s.size)(h:okB (cy s j)=false):fz s=false:=by
 rw[<-Yv];intro hr;unfold fz at hr;simp only[Xg,Xm]at hr;have:=hr.2.2 j (Xu.2 h1);rw[h,decide_eq_false (by omega)]at this;cases this
theorem c99(s:aj):Pure prog 204 [pS s] (pB (fz s)):=by
 refine ad ab func204 Z (by decide) ntmps204 Z (by simp) Z ?_;refine gA Z (zI (fun g1=>?_) fun g1=>?_);rotate_left
 ·have g1:s.size<1:=by
   have:=zT (show decide ((s.size:Int)<1)=true from g1);omega
  refine gA Z (zL (.of_eq ?_));refine(fu ?_:pB false=_);unfold fz;rw[decide_eq_false (show¬1<=s.size by omega)];rfl
 have g1: ¬s.size<1:=by
  have:=zF (show decide ((s.size:Int)<1)=false from g1);omega
 refine gA Z (zI (fun g2=>?_) fun g2=>?_)
 ·have g2:s.size>32:=by
   have:=zT (show decide ((s.size:Int)>32)=true from g2);omega
  refine gA Z (zL (.of_eq ?_));refine(fu ?_:pB false=_);unfold fz;rw[decide_eq_false (show¬s.size<=32 by omega)];simp
 have g2: ¬s.size>32:=by
  have:=zF (show decide ((s.size:Int)>32)=false from g2);omega
 refine gA Z ?_;refine aA 1 s.size (by omega) (fun i=>⟨[(0,pS s),(3,pI i)],[],0⟩) (fun i=>1<=i∧ ∀j,1<=j->j<i->okB (cy s j)=true) [] ⟨W0 _,fun j h1 h2=>by omega⟩ (mH Z Z (bv (bv ac)) Z) fun i hi hJ=>?_;obtain⟨b0,hJ⟩:=hJ;refine gA Z (zI (fun h1=>?_) fun h1=>?_)
 ·have h1:=ci h1;have hz:=Gh (cy s i);have a0:okB (cy s i)=true-> ∀j,1<=j->j<i+1->okB (cy s j)=true:=fun h j a b=>by
   by_cases d0:j=i
   ·subst d0;exact h
   ·exact hJ j a (by omega)
  refine gA Z (zp (Wt ((cy s i).toNat:Int)) ?_);refine gA Z (zp (Ve ((cy s i).toNat:Int)) ?_);refine gA Z (zp (Ws ((cy s i).toNat:Int)) ?_);refine gA Z (zI (fun q1=>?_) fun q1=>?_)
  ·have q1:Fv ((cy s i).toNat:Int)=false:=by simpa using q1
   refine gA Z (zI (fun q2=>?_) fun q2=>?_)
   ·have q2:gp ((cy s i).toNat:Int)=false:=by simpa using q2
    refine gA Z (zI (fun q3=>?_) fun q3=>?_)
    ·have q3:tc ((cy s i).toNat:Int)=false:=by simpa using q3
     rw[q1,q2,q3]at hz;rw[Ga b0 h1 hz];refine gA Z (zL (.of_eq ?_));rfl
    ·have q3:tc ((cy s i).toNat:Int)=true:=by simpa using q3
     rw[q3]at hz;refine gA Z ⟨h1,⟨by omega,a0 (by rw[hz];simp)⟩,[],mH Z Z (bv (bv ac)) Z⟩
   ·have q2:gp ((cy s i).toNat:Int)=true:=by simpa using q2
    rw[q2]at hz
    repeat(refine gA Z (zI (fun q=>?_) (fun q=>?_));all_goals(try(simp at q;done)))
    refine gA Z ⟨h1,⟨by omega,a0 (by rw[hz];simp)⟩,[],mH Z Z (bv (bv ac)) Z⟩
  ·have q1:Fv ((cy s i).toNat:Int)=true:=by simpa using q1
   rw[q1]at hz
   repeat(refine gA Z (zI (fun q=>?_) (fun q=>?_));all_goals(try(simp at q;done)))
   refine gA Z ⟨h1,⟨by omega,a0 (by rw[hz];simp)⟩,[],mH Z Z (bv (bv ac)) Z⟩
 ·have h1:=co h1;have c0:i=s.size:=by omega
  subst c0;rw[F9 g1 g2 hJ];refine gA Z (zL (.of_eq ?_));rfl
theorem WH(s:aj):Pure prog 205 [pS s] (pB (Cw s)):=by
 refine ad ab func205 Z (by decide) ntmps205 Z (by simp) Z ?_
 repeat' (first|(refine gA Z (zI (fun _=>?_) (fun _=>?_)))|(refine gA Z (zL (.of_eq ?_))))
 all_goals(refine(fu ?_:pB _=pB _))
 all_goals(simp only[Cw,NW,ZS,List.any_nil, *];rfl)
theorem uJ(s:aj)(h:fz s=true):oV s 97 122=gp (hd s):=by
 unfold fz at h;simp only[Xg,Xm,decide_eq_true_iff]at h;obtain⟨h1,h2,h3⟩:=h;have hne: ¬s=⟨#[]⟩:=fun e=>by rw[e]at h1;exact absurd h1 (by decide)
 unfold oV gp;rw[decide_eq_false hne,decide_eq_true h2,Zi,XV,XV];rw[Xy];simp only[Xg,decide_eq_true_iff,Xm];constructor
 ·rintro⟨a,b,_⟩;exact⟨a,b⟩
 ·rintro⟨a,b⟩;refine⟨a,b,fun x hx=>?_⟩;obtain⟨j,hj,rfl⟩:=Ye.1 hx;have a0:j<s.size:=by simpa using hj
  have:=h3 j (Xu.2 a0);rw[XJ,decide_eq_true_iff]at this;have hb:cy s j=s.data.toList[j]:=by
   unfold cy;rw[WU,WY hj];rfl
  rcases this with rfl|this
  ·rw[<-hb,Gh];have:hd s=((cy s 0).toNat:Int):=rfl;rw[<-this];have:gp (hd s)=true:=by unfold gp;simp[a,b]
   rw[this];simp
  ·rw[<-hb];exact this
theorem uI(s:aj)(lo hi:Int)(h:fz s=false):oV s lo hi=false:=by
 rw[<-Yv];intro hw;rw[<-Yv]at h;apply h;unfold oV at hw;simp only[Xg,Xm,decide_eq_true_iff]at hw;obtain⟨h0,h2,_,_,h5⟩:=hw;have hs:1<=s.size:=FV (by simpa using h0);refine F9 (by omega) (by omega) fun j hj b0=>?_;have a0:j<s.data.toList.length:=by simpa using b0
 have:cy s j=s.data.toList[j]:=by
  unfold cy;rw[WU,WY a0];rfl
 rw[this];exact h5 _ (XD a0)
theorem c56(s:aj):Pure prog 173 [pS s] (pB (eh s)):=by
 refine ad ab func173 Z (by decide) ntmps173 Z (by simp) Z ?_;refine gA Z (zp (c99 s) ?_);refine gA Z (zp (WH s) ?_);refine gA Z (zI (fun g1=>?_) fun g1=>?_)
 ·have g1:fz s=true:=g1;have a0:0<s.size:=by
   unfold fz at g1;simp only[Xg,decide_eq_true_iff]at g1;omega
  refine gA Z (zI (fun g2=>?_) fun g2=>?_)
  ·have g2:Cw s=false:=by simpa using g2
   refine gA Z (zp (Ve (hd s)) ?_);refine gA Z (zL (.of_eq ?_));refine(fu ?_:pB _=pB _);rw[eh,g2,uJ s g1];rfl
  ·have g2:Cw s=true:=by simpa using g2
   refine gA Z (zL (.of_eq ?_));refine(fu ?_:pB _=pB _);rw[eh,g2];rfl
 ·have g1:fz s=false:=by simpa using g1
  repeat(refine gA Z (zI (fun q=>?_) (fun q=>?_));all_goals(try(simp at q;done)))
  refine gA Z (zL (.of_eq ?_));refine(fu ?_:pB _=pB _);rw[eh,uI s 97 122 g1];simp
def findD(l:List Decl)(s:aj):Option Decl:=l.find? fun d=>decide (d.name=s)
theorem Ig{V:Type}{m:List ((KC.str).K×V)}{k s:aj}{v:V}:dV .str (b6 .str m k v) s=(decide (k=s)||dV .str m s):=by
 rw[Xy,XJ,decide_eq_true_iff,pX,pX];by_cases h:k∈m.map Xl
 ·rw[oL h];constructor
  ·exact .inr
  ·rintro(rfl|h2)
   ·exact h
   ·exact h2
 ·rw[dN h,W7,W5];constructor
  ·rintro(h2|h2)
   ·exact .inr h2
   ·exact .inl h2.symm
  ·rintro(h2|h2)
   ·exact .inr h2.symm
   ·exact .inl h2
theorem uL(s:aj): ∀(l:List Decl) (m:DM),dV .str (l.foldl gY m) s=(dV .str m s||(findD l s).isSome)∧bQ .str (l.foldl gY m) s Decl.z=if dV .str m s=true then bQ .str m s Decl.z else(findD l s).getD Decl.z
 | [],m=>by
  refine⟨by simp[findD],?_⟩;simp only[List.foldl_nil,findD,List.find?_nil,Option.getD_none];cases h:dV .str m s with
  |true=>rfl
  |false=>
   rw[be (by simp)];refine xE fun h2=>?_
   rw[pX.2 h2]at h;cases h
 |d::l,m=>by
  rw[Xq];obtain⟨h1,h2⟩:=uL s l (gY m d);rw[h1,h2];have hf:findD (d::l) s=if d.name=s then some d else findD l s:=by
   unfold findD;rw[Yq];by_cases h:d.name=s
   ·rw[decide_eq_true h,am h]
   ·rw[decide_eq_false h,be h]
  rw[hf];unfold gY;cases hk:dV .str m d.name with
  |true=>
   simp only[if_true];by_cases h:d.name=s
   ·subst h;simp[hk]
   ·rw[be h];exact⟨rfl,rfl⟩
  |false=>
   simp only[Yn,if_false];rw[Ig,iG];by_cases h:d.name=s
   ·subst h;simp[hk]
   ·rw[be h,be h,decide_eq_false h];exact⟨rfl,rfl⟩
theorem NY(p:Prog)(s:aj):dV .str (zb p) s=(findD p.aB s).isSome:=by
 have:=(uL s p.aB []).1;rw[show dV .str ([]:DM) s=false from rfl,Ya]at this;exact this
theorem JP(p:Prog)(s:aj):gP p s=(findD p.aB s).getD Decl.z:=by
 have:=(uL s p.aB []).2;rw[show dV .str ([]:DM) s=false from rfl,be (by simp)]at this;exact this
theorem Iq{l:List Decl}{s:aj}{i:Nat}(hJ:findD (l.take i) s=none)(hi:i<l.length)(h: ¬(l.getD i default).name=s):findD (l.take (i+1)) s=none:=by
 unfold findD at*
 rw[aN hi,ZE,hJ,Yq,decide_eq_false h];rfl
theorem K9{l:List Decl}{s:aj}{i:Nat}(hJ:findD (l.take i) s=none)(hi:i<l.length)(h:(l.getD i default).name=s):findD l s=some (l.getD i default):=by
 unfold findD at*
 have e:l=l.take i++(l.getD i default::l.drop (i+1)):=by
  rw[WU,WY hi,Yl,List.getElem_cons_drop,Zd]
 have key:(l.take i++(l.getD i default::l.drop (i+1))).find? (fun d=>decide (d.name=s))=some (l.getD i default):=by
  rw[ZE,hJ,Yq,decide_eq_true h];rfl
 rwa[<-e]at key
theorem VT(p:Prog)(s:aj)(hb:p.aB.length<=1000000000000):Pure prog 235 [ag p.c,pS s] (.bT [ag (gP p s).c,pB (dV .str (zb p) s)]):=by
 rw[NY,JP];refine ad ab func235 Z (by decide) ntmps235 Z (by simp) Z ?_;refine gA Z ?_;refine aA 0 p.aB.length (W3 _) (fun i=>⟨[(1,pS s),(2, .ptr 0 0),(4, .ptr 1 0),(6,pI i)],[(0,some (an p.c)),(1,some (.cells [pS W4, .iv (.v (.slice none 0 0)),pI 0,pI 0]))],2⟩) (fun i=>findD (p.aB.take i) s=none) [] Z
  (zW (zK (zO trivial))) fun i hi hJ=>?_
 refine gA Z (zI (fun h1=>?_) fun h1=>?_)
 ·have h1:=ci h1;refine gA Z (zI (fun h2=>?_) fun h2=>?_)
  ·have h2:(p.aB.getD i default).name=s:=by simpa using h2
   refine gA Z (zL ?_);rw[K9 hJ h1 h2];exact .refl _
  ·have h2: ¬(p.aB.getD i default).name=s:=by simpa using h2
   refine gA Z ⟨h1,Iq hJ h1 h2,[],zW (zK (zO ac))⟩
 ·have h1:=co h1;have a0:i=p.aB.length:=by omega
  subst a0;rw[W2 (W0 _)]at hJ;rw[hJ];refine gA Z (zL ?_);exact .bT ⟨.agg ⟨.refl _, .nil _ _, .refl _, .refl _,ac⟩, .refl _,ac⟩
theorem U0(c:Int):Pure prog 287 [pU c] (pB (gp c)):=by
 refine ad ab func287 Z (by decide) ntmps287 Z (by simp) Z ?_
 repeat' (first|(refine gA Z (zI (fun _=>?_) (fun _=>?_)))|(refine gA Z (zL (.of_eq ?_))))
 all_goals(refine(fu ?_:pB _=pB _);simp_all [gp];try omega)
theorem UW(c:Int):Pure prog 298 [pU c] (pB (tc c)):=by
 refine ad ab func298 Z (by decide) ntmps298 Z (by simp) Z ?_
 repeat' (first|(refine gA Z (zI (fun _=>?_) (fun _=>?_)))|(refine gA Z (zL (.of_eq ?_))))
 all_goals(refine(fu ?_:pB _=pB _);simp_all [tc];try omega)
def Iy(c:Int):Bool:=decide (c>=48)&&decide (c<=57)
theorem V8(c:Int):Pure prog 299 [pU c] (pB (Iy c)):=by
 refine ad ab func299 Z (by decide) ntmps299 Z (by simp) Z ?_
 repeat' (first|(refine gA Z (zI (fun _=>?_) (fun _=>?_)))|(refine gA Z (zL (.of_eq ?_))))
 all_goals(refine(fu ?_:pB _=pB _);simp_all [Iy];try omega)
theorem Wc(s:aj):Pure prog 288 [pS s] (pB (Cw s)):=by
 refine ad ab func288 Z (by decide) ntmps288 Z (by simp) Z ?_
 repeat' (first|(refine gA Z (zI (fun _=>?_) (fun _=>?_)))|(refine gA Z (zL (.of_eq ?_))))
 all_goals(refine(fu ?_:pB _=pB _))
 all_goals(simp only[Cw,NW,ZS,List.any_nil, *];rfl)
theorem NV{s:aj}(h: ∀j,1<=j->j<s.size->okB (cy s j)=true):fz s=(decide (1<=s.size)&&decide (s.size<=32)):=by
 unfold fz;have:((Xc s.size).all fun i=>decide (i=0)||okB (cy s i))=true:=by
  rw[Xm];intro j hj;by_cases hz:j=0
  ·simp[hz]
  ·rw[h j (by omega) (Xu.1 hj)];simp
 rw[this,Bool.and_true]
theorem U3(s:aj)(hs:s.size<=1000000000000):Pure prog 286 [pS s] (pB (fz s)):=by
 refine ad ab func286 Z (by decide) ntmps286 Z (by simp) Z ?_;refine gA Z ?_;by_cases d0:s.size=0
 ·have hr:fz s=false:=by unfold fz;rw[decide_eq_false (by omega)];rfl
  rw[hr];refine aA 1 1 (by omega) (fun i=>⟨[(0,pS s),(3,pI i)],[],0⟩) (fun i=>i=1) [] Z (mH Z Z (bv (bv ac)) Z) fun i hi hJ=>?_;subst hJ;refine gA Z (zI (fun h1=>?_) fun h1=>?_)
  ·have h1:(1:Int)<s.size:=zT h1;omega
  ·refine gA Z (zI (fun h2=>?_) fun h2=>?_)
   ·have:=zT (show decide ((s.size:Int)>=1)=true from h2);omega
   ·refine gA Z (zL (.of_eq ?_));rfl
 refine aA 1 s.size (by omega) (fun i=>⟨[(0,pS s),(3,pI i)],[],0⟩) (fun i=>1<=i∧ ∀j,1<=j->j<i->okB (cy s j)=true) [] ⟨W0 _,fun j h1 h2=>by omega⟩ (mH Z Z (bv (bv ac)) Z) fun i hi hJ=>?_;obtain⟨b0,hJ⟩:=hJ;refine gA Z (zI (fun h1=>?_) fun h1=>?_)
 ·have h1:=ci h1;have hz:okB (cy s i)=(gp ((cy s i).toNat:Int)||(tc ((cy s i).toNat:Int)||(Iy ((cy s i).toNat:Int)||decide (((cy s i).toNat:Int)=95)))):=by
   rw[Gh];unfold Fv;rw[Xy];simp only[Iy,XJ,Xg,decide_eq_true_iff];constructor
   ·rintro((h|h)|(h|h))
    ·exact .inr (.inr (.inl h))
    ·exact .inr (.inr (.inr h))
    ·exact .inl h
    ·exact .inr (.inl h)
   ·rintro(h|(h|(h|h)))
    ·exact .inr (.inl h)
    ·exact .inr (.inr h)
    ·exact .inl (.inl h)
    ·exact .inl (.inr h)
  have a0:okB (cy s i)=true-> ∀j,1<=j->j<i+1->okB (cy s j)=true:=fun h j a b=>by
   by_cases c0:j=i
   ·subst c0;exact h
   ·exact hJ j a (by omega)
  refine gA Z (zp (U0 ((cy s i).toNat:Int)) ?_);refine gA Z (zI (fun q1=>?_) fun q1=>?_)
  ·have q1:gp ((cy s i).toNat:Int)=false:=by simpa using q1
   refine gA Z (zp (UW ((cy s i).toNat:Int)) ?_);refine gA Z (zI (fun q2=>?_) fun q2=>?_)
   ·have q2:tc ((cy s i).toNat:Int)=false:=by simpa using q2
    refine gA Z (zp (V8 ((cy s i).toNat:Int)) ?_);refine gA Z (zI (fun q3=>?_) fun q3=>?_)
    ·have q3:Iy ((cy s i).toNat:Int)=false:=by simpa using q3
     refine gA Z (zI (fun q4=>?_) fun q4=>?_)
     ·have q4: ¬((cy s i).toNat:Int)=95:=by
       have g:(!decide (((cy s i).toNat:Int)=95))=true:=q4;simpa only[XF,decide_eq_false_iff_not]using g
      rw[q1,q2,q3,decide_eq_false q4]at hz;rw[Ga b0 h1 hz];refine gA Z (zL (.of_eq ?_));rfl
     ·have q4:((cy s i).toNat:Int)=95:=by
       have g:(!decide (((cy s i).toNat:Int)=95))=false:=q4;simpa only[YA,decide_eq_true_eq]using g
      rw[decide_eq_true q4]at hz;refine gA Z ⟨h1,⟨by omega,a0 (by rw[hz];simp)⟩,[],mH Z Z (bv (bv ac)) Z⟩
    ·have q3:Iy ((cy s i).toNat:Int)=true:=by simpa using q3
     rw[q3]at hz
     repeat(refine gA Z (zI (fun q=>?_) (fun q=>?_));all_goals(try(simp at q;done)))
     refine gA Z ⟨h1,⟨by omega,a0 (by rw[hz];simp)⟩,[],mH Z Z (bv (bv ac)) Z⟩
   ·have q2:tc ((cy s i).toNat:Int)=true:=by simpa using q2
    rw[q2]at hz
    repeat(refine gA Z (zI (fun q=>?_) (fun q=>?_));all_goals(try(simp at q;done)))
    refine gA Z ⟨h1,⟨by omega,a0 (by rw[hz];simp)⟩,[],mH Z Z (bv (bv ac)) Z⟩
  ·have q1:gp ((cy s i).toNat:Int)=true:=by simpa using q1
   rw[q1]at hz
   repeat(refine gA Z (zI (fun q=>?_) (fun q=>?_));all_goals(try(simp at q;done)))
   refine gA Z ⟨h1,⟨by omega,a0 (by rw[hz];simp)⟩,[],mH Z Z (bv (bv ac)) Z⟩
 ·have h1:=co h1;have hr:=NV (s:=s) fun j a b=>hJ j a (by omega);have e1:((s.size:Int)>=1)=(1<=s.size):=propext ⟨fun h=>by omega,fun h=>by omega⟩;have e2:((s.size:Int)<=32)=(s.size<=32):=propext ⟨fun h=>by omega,fun h=>by omega⟩
  repeat' (first|(refine gA Z (zI (fun _=>?_) (fun _=>?_)))|(refine gA Z (zL (.of_eq ?_))))
  all_goals(refine(fu ?_:pB _=pB _);simp_all;try omega)
theorem JO(s:aj)(h:fz s=true):dY s=tc (hd s):=by
 unfold fz at h;simp only[Xg,Xm,decide_eq_true_iff]at h;obtain⟨h1,h2,h3⟩:=h;have hne: ¬s=⟨#[]⟩:=fun e=>by rw[e]at h1;exact absurd h1 (by decide)
 unfold dY oV tc;rw[decide_eq_false hne,decide_eq_true h2,Zi,XV,XV];rw[Xy];simp only[Xg,decide_eq_true_iff,Xm];constructor
 ·rintro⟨a,b,_⟩;exact⟨a,b⟩
 ·rintro⟨a,b⟩;refine⟨a,b,fun x hx=>?_⟩;obtain⟨j,hj,rfl⟩:=Ye.1 hx;have a0:j<s.size:=by simpa using hj
  have:=h3 j (Xu.2 a0);rw[XJ,decide_eq_true_iff]at this;have hb:cy s j=s.data.toList[j]:=by
   unfold cy;rw[WU,WY hj];rfl
  rcases this with rfl|this
  ·rw[<-hb,Gh];have:hd s=((cy s 0).toNat:Int):=rfl;rw[<-this];have:tc (hd s)=true:=by unfold tc;simp[a,b]
   rw[this];simp
  ·rw[<-hb];exact this
theorem Cv{s:aj}(h:fz s=true):0<s.size:=by
 unfold fz at h;simp only[Xg,decide_eq_true_iff]at h;omega
theorem U6(s:aj)(hs:s.size<=1000000000000):Pure prog 275 [pS s] (pB (eh s)):=by
 refine ad ab func275 Z (by decide) ntmps275 Z (by simp) Z ?_;refine gA Z (zp (U3 s hs) ?_);refine gA Z (zI (fun g1=>?_) fun g1=>?_)
 ·have g1:fz s=true:=g1;have a0:=Cv g1;refine gA Z (zp (U0 (hd s)) ?_);refine gA Z (zI (fun g2=>?_) fun g2=>?_)
  ·have g2:gp (hd s)=true:=g2;refine gA Z (zp (Wc s) ?_);refine gA Z (zL (.of_eq ?_));refine(fu ?_:pB _=pB _);rw[eh,uJ s g1,g2,Bool.and_true]
  ·have g2:gp (hd s)=false:=by simpa using g2
   repeat(refine gA Z (zI (fun q=>?_) (fun q=>?_));all_goals(try(simp at q;done)))
   refine gA Z (zL (.of_eq ?_));refine(fu ?_:pB _=pB _);rw[eh,uJ s g1,g2,Yz]
 ·have g1:fz s=false:=by simpa using g1
  repeat(refine gA Z (zI (fun q=>?_) (fun q=>?_));all_goals(try(simp at q;done)))
  refine gA Z (zL (.of_eq ?_));refine(fu ?_:pB _=pB _);rw[eh,uI s 97 122 g1];simp
theorem UZ(s:aj)(hs:s.size<=1000000000000):Pure prog 289 [pS s] (pB (dY s)):=by
 refine ad ab func289 Z (by decide) ntmps289 Z (by simp) Z ?_;refine gA Z (zp (U3 s hs) ?_);refine gA Z (zI (fun g1=>?_) fun g1=>?_)
 ·have g1:fz s=true:=g1;have a0:=Cv g1;refine gA Z (zp (UW (hd s)) ?_);refine gA Z (zL (.of_eq ?_));refine(fu ?_:pB _=pB _);rw[JO s g1]
 ·have g1:fz s=false:=by simpa using g1
  repeat(refine gA Z (zI (fun q=>?_) (fun q=>?_));all_goals(try(simp at q;done)))
  refine gA Z (zL (.of_eq ?_));refine(fu ?_:pB _=pB _);rw[dY,uI s 65 90 g1]
theorem V7(v:tg):Pure prog 300 [ag v.c] (pI (dt v)):=by
 refine ad ab func300 Z (by decide) ntmps300 Z (by simp) Z ?_
 repeat' (first|(refine gA Z (zI (fun _=>?_) (fun _=>?_)))|(refine gA Z (zL (.of_eq ?_))))
 all_goals(have hE:(⟨#[]⟩:ByteArray)=W4:=rfl;refine congrArg pI ?_;simp_all [dt];try omega)
theorem yk(a b:List UInt8):(⟨a.toArray⟩:ByteArray)++⟨b.toArray⟩=⟨(a++b).toArray⟩:=by
 apply aan;rw[ByteArray.data_append];simp
theorem bsize(a:List UInt8):(⟨a.toArray⟩:ByteArray).size=a.length:=by simp[ZM]
theorem Ra{s:aj}{i:Nat}(h:i<s.data.toList.length):s.extract i (i+1)=⟨[s.data.toList.getD i default].toArray⟩:=by
 apply aan;rw[ByteArray.data_extract];apply Array.ext';simp only[Array.toList_extract];rw[List.extract_eq_take_drop,WU,WY h];have e:s.data.toList.drop i=s.data.toList[i]::s.data.toList.drop (i+1):=ZO h;rw[e,show i+1-i=1 by omega];simp
theorem VA: ∀k:Nat,k<16->OK.extract k (k+1)=⟨[Bw (k:Int)].toArray⟩:=fun k h=>Ra (by
 have:OK.data.toList.length=16:=rfl
 omega)
theorem UT(n:Int)(h0:0<=n)(h1:n<16):Pure prog 306 [pU n] (pS ⟨[Bw n].toArray⟩):=by
 have hw:IntKind.u8.wrap (n+1)=n+1:=IntWalk.u8_in _ (by omega);obtain⟨k,rfl⟩: ∃k:Nat,n=(k:Int):=⟨n.toNat,by omega⟩
 have hk:=VA k (by omega);have hl:OK.size=16:=rfl;refine ad ab func306 Z (by decide) ntmps306 Z (by simp) Z ?_;refine nX Z (by simp only[hw];refine⟨?_,?_⟩<;>first|trivial|omega|(refine⟨?_,?_⟩<;>first|trivial|omega|(refine⟨?_,?_⟩<;>first|trivial|omega))) (zL (.of_eq ?_));rw[hw,<-hk];rfl
theorem V6(s:aj)(hs:s.size<=1000):Pure prog 301 [pS s] (pS (pD s)):=by
 have hl:s.data.toList.length=s.size:=by simp
 refine ad ab func301 Z (by decide) ntmps301 Z (by simp) Z ?_;refine gA Z ?_;refine aA 0 s.data.toList.length (W3 _) (fun i=>⟨[(0,pS s),(3,pS ⟨(mI s i).toArray⟩),(4,pI i)],[],0⟩) (fun _=>True) [] ac
  (mH Z Z (bv (bv (bv trivial))) Z) fun i hi _=>?_
 have hq:=tG s i;have hz:=bsize (mI s i);have z1:(⟨#[34]⟩:ByteArray).size=1:=rfl;have z2:(⟨#[92,34]⟩:ByteArray).size=2:=rfl;have z3:(⟨#[92,92]⟩:ByteArray).size=2:=rfl;have z4:(⟨#[92,110]⟩:ByteArray).size=2:=rfl;have z5:(⟨#[92,120]⟩:ByteArray).size=2:=rfl;refine gA Z (zI (fun h1=>?_) fun h1=>?_);rotate_left
 ·have h1:s.data.toList.length<=i:=by
   have:=zF (show decide ((i:Int)<(s.size:Int))=false from h1);omega
  refine gA Z (zL (.of_eq ?_));rw[show(⟨#[34]⟩:ByteArray)=⟨[34].toArray⟩ from rfl,yk];simp only[mI,pD,W2 h1];rfl
 have h1:i<s.data.toList.length:=by
  have:=zT (show decide ((i:Int)<(s.size:Int))=true from h1);omega
 have a0:=zj h1;have b0:s.data.toList.getD (i:Int).toNat 0=s.data.toList.getD i default:=rfl;have c0:=Ra h1;generalize hc:s.data.toList.getD i default=c at a0 b0 c0;refine gA Z (zI (fun h2=>?_) fun h2=>?_)
 ·have h2:c.toNat=34:=by have:=zT h2;rw[b0]at this;omega
  rw[qB,am (.inl h2)]at a0;have g0:c=34:=UInt8.toNat_inj.1 h2;refine gA Z ⟨h1,ac,[],mH Z Z (bv ⟨.of_eq (by rw[a0,g0,show(⟨#[92,34]⟩:ByteArray)=⟨[92,34].toArray⟩ from rfl,yk];rfl),rfl,bv ac⟩) Z⟩
 have h2: ¬c.toNat=34:=by have:=zF h2;rw[b0]at this;omega
 refine gA Z (zI (fun h3=>?_) fun h3=>?_)
 ·have h3:c.toNat=92:=by have:=zT h3;rw[b0]at this;omega
  rw[qB,am (.inr h3)]at a0;have f0:c=92:=UInt8.toNat_inj.1 h3;refine gA Z ⟨h1,ac,[],mH Z Z (bv ⟨.of_eq (by rw[a0,f0,show(⟨#[92,92]⟩:ByteArray)=⟨[92,92].toArray⟩ from rfl,yk];rfl),rfl,bv ac⟩) Z⟩
 have h3: ¬c.toNat=92:=by have:=zF h3;rw[b0]at this;omega
 rw[qB,be (by omega)]at a0;refine gA Z (zI (fun h4=>?_) fun h4=>?_)
 ·have h4:c.toNat=10:=by have:=zT h4;rw[b0]at this;omega
  rw[am h4]at a0;refine gA Z ⟨h1,ac,[],mH Z Z (bv ⟨.of_eq (by rw[a0,show(⟨#[92,110]⟩:ByteArray)=⟨[92,110].toArray⟩ from rfl,yk];rfl),rfl,bv ac⟩) Z⟩
 have h4: ¬c.toNat=10:=by have:=zF h4;rw[b0]at this;omega
 rw[be h4]at a0;have j0:=KD c;have n0:=Kh c;have e0:=UT (OJ c) j0.1 j0.2;have d0:=UT (QQ c) n0.1 n0.2;rw[<-hc]at e0 d0;have k0:c.toNat<32∨126<c.toNat-> ∀x:ByteArray,x=((⟨(mI s i).toArray⟩++(⟨#[92,120]⟩:ByteArray))++⟨[Bw (OJ c)].toArray⟩)++⟨[Bw (QQ c)].toArray⟩->pS x=pS ⟨(mI s (i+1)).toArray⟩:=fun h x e=>by
  rw[am h]at a0;rw[e,a0,show(⟨#[92,120]⟩:ByteArray)=⟨[92,120].toArray⟩ from rfl,yk,yk,yk];simp
 have m0:((⟨(mI s i).toArray⟩:ByteArray)++(⟨#[92,120]⟩:ByteArray)).size=(mI s i).length+2:=by
  rw[show(⟨#[92,120]⟩:ByteArray)=⟨[92,120].toArray⟩ from rfl,yk,bsize,WW];rfl
 have i0: ∀z,((⟨(mI s i).toArray⟩:ByteArray)++(⟨#[92,120]⟩:ByteArray)++⟨[Bw z].toArray⟩).size=(mI s i).length+3:=fun z=>by
  rw[show(⟨#[92,120]⟩:ByteArray)=⟨[92,120].toArray⟩ from rfl,yk,yk,bsize,WW,WW];rfl
 have e1: ∀z,(⟨[Bw z].toArray⟩:ByteArray).size=1:=fun z=>rfl;have e2:(⟨[Bw (OJ (s.data.toList.getD i default))].toArray⟩:ByteArray).size=1:=rfl;refine gA Z (zI (fun h5=>?_) fun h5=>?_)
 ·have h5: ¬c.toNat<32:=by have:=zF h5;rw[b0]at this;omega
  refine gA Z (zI (fun h6=>?_) fun h6=>?_)
  ·have h6:126<c.toNat:=by have:=zT h6;rw[b0]at this;omega
   refine gA Z (zp (e0) ?_);refine gA Z (zp (d0) ?_);refine nX Z (by(repeat' (first|exact ac|exact rfl|apply XA))<;>first|omega|(rw[m0,e1];omega)|(rw[i0,e1];omega)) ?_;exact⟨h1,ac,[],mH Z Z (bv ⟨.of_eq (k0 (.inr h6) _ (by rw[<-hc])),rfl,bv ac⟩) Z⟩
  have h6: ¬126<c.toNat:=by have:=zF h6;rw[b0]at this;omega
  rw[be (by omega)]at a0;have o0:(s.extract i (i+1)).size=1:=by rw[c0];rfl
  refine nX Z (by(repeat' (first|exact ac|exact rfl|apply XA))<;>first|omega|(rw[show((i:Int)+1).toNat=i+1 by omega,show(i:Int).toNat=i by omega,o0];omega)) ?_;exact⟨h1,ac,[],mH Z Z (bv ⟨.of_eq (by show pS _=pS _;rw[show((i:Int)+1).toNat=i+1 by omega,show(i:Int).toNat=i by omega,c0,a0,yk]),rfl,bv ac⟩) Z⟩
 ·have h5:c.toNat<32:=by have:=zT h5;rw[b0]at this;omega
  refine gA Z (zp (e0) ?_);refine gA Z (zp (d0) ?_);refine nX Z (by(repeat' (first|exact ac|exact rfl|apply XA))<;>first|omega|(rw[m0,e1];omega)|(rw[i0,e1];omega)) ?_;exact⟨h1,ac,[],mH Z Z (bv ⟨.of_eq (k0 (.inl h5) _ (by rw[<-hc])),rfl,bv ac⟩) Z⟩
theorem Wb(v:tg):Pure prog 290 [ag v.c] (.bT [pS (nE v),pI (dt v)]):=by
 refine ad ab func290 Z (by decide) ntmps290 Z (by simp) Z ?_;refine gA Z (zp (V7 v) ?_);refine gA Z (zI (fun h1=>?_) fun h1=>?_)
 ·have h1: ¬dt v=0:=by simpa using h1
  refine gA Z (zL (.of_eq ?_));rw[nE,be h1];rfl
 have h1:dt v=0:=by simpa using h1
 rw[nE,am h1,h1];refine gA Z (zI (fun h2=>?_) fun h2=>?_)
 ·have h2:v.kind=1:=by simpa using h2
  have:=r6 h1 h2;refine gA Z (zp (UX v.num (by omega) (by omega)) ?_);refine gA Z (zL (.of_eq ?_));rw[tp,am h2];rfl
 have h2: ¬v.kind=1:=by simpa using h2
 have hs:=r5 h1 h2;refine gA Z (zp (U6 v.sym (by omega)) ?_);refine gA Z (zI (fun h3=>?_) fun h3=>?_)
 ·have h3:eh v.sym=true:=h3;refine gA Z (zL (.of_eq ?_));rw[tp,be h2,am h3];rfl
 ·have h3: ¬eh v.sym=true:=by simpa using h3
  refine gA Z (zp (V6 v.sym (by omega)) ?_);refine gA Z (zL (.of_eq ?_));rw[tp,be h2,be h3];rfl
abbrev nC:=aj×Bool
def nC.c(t:nC):List IV:=[iS t.1, .v (.bool t.2)]
def eS(b0:Int)(a0:aj)(v:tg):nC:=if b0=1 then(a0,!dY a0||!cK v) else(nE v,!decide (dt v=0)||!decide (a0=W4))
theorem U5(b0:Int)(a0:aj)(v:tg)(hs:a0.size<=1000000000000):Pure prog 276 [pI b0,pS a0,ag v.c] (ag (eS b0 a0 v).c):=by
 refine ad ab func276 Z (by decide) ntmps276 Z (by simp) Z ?_;refine gA Z (zI (fun h1=>?_) fun h1=>?_)
 ·have h1:b0=1:=by simpa using h1
  refine gA Z (zp (UZ a0 hs) ?_);unfold eS;rw[am h1];refine gA Z (zI (fun g=>?_) fun g=>?_)
  ·have g:dY a0=true:=by simpa using g
   refine gA Z (zL ?_);exact .agg ⟨.refl _, .of_eq (fu (by rw[g];simp[cK])),ac⟩
  ·have g:dY a0=false:=by simpa using g
   refine gA Z (zL ?_);exact .agg ⟨.refl _, .te (by rw[g];rfl),ac⟩
 ·have h1: ¬b0=1:=by simpa using h1
  refine gA Z (zp (Wb v) ?_);unfold eS;rw[be h1];refine gA Z (zI (fun g=>?_) fun g=>?_)
  ·have g:dt v=0:=by simpa using g
   refine gA Z (zL ?_);exact .agg ⟨.refl _, .of_eq (fu (by rw[g];rfl)),ac⟩
  ·have g: ¬dt v=0:=by simpa using g
   refine gA Z (zL ?_);exact .agg ⟨.refl _, .te (by simp[g]),ac⟩
def LR(x:Term):nC:=(Jy,!decide (x.var=W4)||!cK x.val)
def oX(x:Term):nC:=if x.kind=3 then LR x else((eS x.kind x.var x.val).1,(eS x.kind x.var x.val).2||(!decide (x.kind=1)&&!decide (x.kind=2)))
def eC(a:Atom):Nat->nC
 |0=>(a.rel++sO,!eh a.rel)
 |i+1=>((if(i:Int)>0 then(eC a i).1++vZ else(eC a i).1)++(oX (a.ae.getD i default)).1,(eC a i).2||(oX (a.ae.getD i default)).2)
def eZ(a:Atom):nC:=((eC a a.ae.length).1++sC,(eC a a.ae.length).2)
theorem sB(k:Int)(s:aj)(v:tg):(eS k s v).1.size<=s.size+300:=by
 have:=nD v;unfold eS;split
 ·show s.size<=_;omega
 ·show(nE v).size<=_;omega
theorem Ho(x:Term):(oX x).1.size<=x.var.size+300:=by
 have:=sB x.kind x.var x.val;unfold oX;split
 ·show Jy.size<=_;have:Jy.size=1:=rfl;omega
 ·exact this
theorem oT(a:Atom): ∀i,i<=a.ae.length->(eC a i).1.size<=a.rel.size+1+((a.ae.take i).map Term.ts).sum
 |0,_=>by
  show(a.rel++sO).size<=_;rw[XU];have:sO.size=1:=rfl;omega
 |i+1,h=>by
  have h1:=oT a i (by omega);have h2:=Ho (a.ae.getD i default);have h3:vZ.size=2:=rfl;have h4:(a.ae.getD i default).ts=(a.ae.getD i default).var.size+310:=rfl;have h5:((a.ae.take (i+1)).map Term.ts).sum=((a.ae.take i).map Term.ts).sum+(a.ae.getD i default).ts:=by
   rw[aN (by omega),WZ,List.sum_append];simp
  show((if(i:Int)>0 then(eC a i).1++vZ else(eC a i).1)++(oX (a.ae.getD i default)).1).size<=_;rw[XU];split
  ·rw[XU];omega
  ·omega
theorem gx: ∀(ss:List aj) (w:WS),(a7 w ss).bad=w.bad
 | [],w=>rfl
 |s::r,w=>gx r (A7 w s)
theorem w4(w:WS)(v:tg):(nh w v).bad=(w.bad||!decide (dt v=0)):=by
 rw[nh,gx];rfl
theorem de(w:WS)(b:Bool):(aV w b).bad=(w.bad||!b):=rfl
theorem y7(w:WS)(t:Term):(kV w t).bad=(w.bad||(oX t).2):=by
 have hE:(⟨#[]⟩:ByteArray)=W4:=rfl;unfold kV oX eS LR;by_cases h1:t.kind=1
 ·rw[am h1,gx,de,be (by omega),am h1,yI];simp[h1]
 rw[be h1];by_cases h2:t.kind=2
 ·rw[am h2,w4,de,be (by omega),be h1];simp[h2,hE];cases w.bad<;>cases decide (t.var=W4)<;>cases decide (dt t.val=0)<;>rfl
 rw[be h2];by_cases h3:t.kind=3
 ·rw[am h3,gx,de,am h3,yJ];simp[hE]
 ·rw[be h3,be h3,be h1];simp[h1,h2,og]
theorem sZ(i:Nat)(w:WS):(iw i w).bad=w.bad:=by
 unfold iw;split
 ·rfl
 ·exact gx _ _
theorem w8(a:Atom): ∀i,(ew a.ae (a7 (aV WS.o (eh a.rel)) [a.rel,sO]) i).bad=(eC a i).2
 |0=>by rw[ew,gx];rfl
 |i+1=>by rw[ew,y7,sZ,w8 a i];rfl
theorem D8(a:Atom):lx a=(eZ a).2:=by
 unfold lx jQ eZ;rw[gx,w8]
abbrev Vm(a:Atom)(i:Nat):Term:=a.ae.getD i default
structure GInv (p:Prog) (a:Atom) (n:Nat) (m:NM):Prop where
 is:QS p a n=some m
 has: ∀s,dV .str m s=true↔ ∃k,k<n∧(Vm a k).kind=1∧(Vm a k).var=s
 val: ∀k,k<n->(Vm a k).kind=1->bQ .str m (Vm a k).var 0=GH p a k
abbrev ny:nC:=(⟨#[]⟩,true)
def bw(e:Expr):Int:=if e.kind=4 then(if e.op=1∨e.op=2 then 1 else if e.op=3∨e.op=4∨e.op=5 then 2 else 3) else 4
def xf(op:Int):aj:=if op=1 then⟨#[32,43,32]⟩ else if op=2 then⟨#[32,45,32]⟩ else if op=3 then⟨#[32,42,32]⟩ else if op=4 then⟨#[32,47,32]⟩ else⟨#[32,109,111,100,32]⟩
def zE(e:Expr)(b:Bool):nC:=((eS e.kind e.var e.val).1,(eS e.kind e.var e.val).2||(b||(!decide (e.op=0)||decide ((e.args.length:Int)>0))))
def J7(a:Expr):Bool:=pe a&&decide (a.val.num>0)
def pQ(a:Expr):Bool:=decide (bw a<3)||J7 a
def ES(a:Expr):Bool:=pe a&&decide (a.val.num=0)
def nP(a0:Bool->Expr->nC)(e:Expr):nC:=
 if e.op=6 then
  (if e.args.length=1 then(sM++(if ES (aO e)=true then(⟨#[45,48]⟩:ByteArray) else(a0 (pQ (aO e)) (aO e)).1),(a0 (pQ (aO e)) (aO e)).2) else ny)
 else if e.args.length=2 then((a0 (decide (bw (aO e)<bw e)) (aO e)).1++xf e.op++(a0 (decide (bw (kE e)<=bw e)) (kE e)).1,(a0 (decide (bw (aO e)<bw e)) (aO e)).2||(a0 (decide (bw (kE e)<=bw e)) (kE e)).2) else ny
def il(e:Expr)(b:Bool)(k:nC):nC:=
 if e.kind=1∨e.kind=2 then zE e b
 else if¬e.kind=4∨b=true∨ ¬e.var=⟨#[]⟩∨cK e.val=false∨e.op<1∨e.op>6 then ny else k
def bE:Nat->Expr->nC
 |0,e=>il e true ny
 |1,e=>il e false ny
 |m+2,e=>il e false (nP (fun a0 a=>if a0=true then(sO++(bE m a).1++sC,(bE m a).2||decide (m<1)) else bE (m+1) a) e)
def kf(m:Nat)(a0:Bool)(a:Expr):nC:=if a0=true then(sO++(bE m a).1++sC,(bE m a).2||decide (m<1)) else bE (m+1) a
theorem Ae(m:Nat)(e:Expr):bE (m+2) e=il e false (nP (kf m) e):=rfl
theorem Is(m:Nat)(w:WS)(e:Expr):cG (m+2) w e=jm w e (jP (qv m) (aV w (lZ e)) e):=rfl
theorem Ib(e:Expr)(b:Bool):(zE e b).1.size<=e.var.size+300:=sB _ _ _
theorem y9(op:Int):(xf op).size<=5:=by
 unfold xf
 repeat' split
 all_goals decide
theorem HR(b0:Bool->Expr->nC)(a0: ∀b a,(b0 b a).1.size<=2+a.ts)(e:Expr):(nP b0 e).1.size<=e.ts:=by
 have h0:=e.lK;have hz:(⟨#[]⟩:ByteArray).size=0:=rfl;unfold nP;split
 ·split
  ·rename_i h1;have hg:=Expr.tn e.args 0 (by omega);have h2:=a0 (pQ (aO e)) (aO e);have e1:sM.size=1:=rfl;have e2:(⟨#[45,48]⟩:ByteArray).size=2:=rfl;show(sM++_).size<=_;rw[XU];have hq:(if ES (aO e)=true then(⟨#[45,48]⟩:ByteArray) else(b0 (pQ (aO e)) (aO e)).1).size<=2+(aO e).ts:=by
    by_cases hn:ES (aO e)=true
    ·rw[am hn];omega
    ·rw[be hn];exact h2
   simp only[aO] at*;omega
  ·show(⟨#[]⟩:ByteArray).size<=_;omega
 ·split
  ·rename_i h1;have hg:=Expr.wi e.args h1;have h2:=a0 (decide (bw (aO e)<bw e)) (aO e);have h3:=a0 (decide (bw (kE e)<=bw e)) (kE e);have h4:=y9 e.op;show((_++_)++_:ByteArray).size<=_;rw[XU,XU];simp only[aO,kE] at*;omega
  ·show(⟨#[]⟩:ByteArray).size<=_;omega
theorem u4(e:Expr)(b:Bool)(k:nC)(h:k.1.size<=e.ts):(il e b k).1.size<=e.ts:=by
 have h0:=e.lK;have hz:(⟨#[]⟩:ByteArray).size=0:=rfl;unfold il;split
 ·have:=Ib e b;omega
 split
 ·show(⟨#[]⟩:ByteArray).size<=_;omega
 ·exact h
theorem fp: ∀(n:Nat) (e:Expr),(bE n e).1.size<=e.ts
 |0,e=>u4 _ _ _ (by show(⟨#[]⟩:ByteArray).size<=_;exact W3 _)
 |1,e=>u4 _ _ _ (by show(⟨#[]⟩:ByteArray).size<=_;exact W3 _)
 |m+2,e=>by
  refine u4 _ _ _ (HR _ (fun b a=>?_) e);have e1:sO.size=1:=rfl;have e2:sC.size=1:=rfl;split
  ·have:=fp m a;show((sO++(bE m a).1)++sC).size<=_;rw[XU,XU];omega
  ·have:=fp (m+1) a;omega
theorem qw(m:Nat)(b:Bool)(a:Expr):(kf m b a).1.size<=2+a.ts:=by
 have e1:sO.size=1:=rfl;have e2:sC.size=1:=rfl;unfold kf;split
 ·have:=fp m a;show((sO++(bE m a).1)++sC).size<=_;rw[XU,XU];omega
 ·have:=fp (m+1) a;omega
theorem qK{op:Int}:bm op=0↔op<1∨op>6:=by
 unfold bm
 repeat' split
 all_goals omega
theorem AU(op:Int):0<=bm op:=by
 unfold bm
 repeat' split
 all_goals decide
theorem Bf{e:Expr}(h:bm e.op=0):lZ e=false:=by
 unfold lZ;rw[h];simp
theorem Af{e:Expr}(h4:e.kind=4)(h:bm e.op=0): ∀n,(bE n e).2=true:=by
 have hk: ∀b k,(il e b k).2=true:=fun b k=>by
  unfold il;rw[be (by omega),am];have:=qK.1 h;rcases this with h|h
  ·exact .inr (.inr (.inr (.inr (.inl h))))
  ·exact .inr (.inr (.inr (.inr (.inr h))))
 intro n
 match n with
 |0=>exact hk _ _
 |1=>exact hk _ _
 |m+2=>exact hk _ _
theorem zD(w:WS)(e:Expr)(k:WS)(hk:(aV w (lZ e)).bad=true->k.bad=true)(ho:lZ e=false)(h4:e.kind=4):(jm w e k).bad=true:=by
 unfold jm;split
 ·rfl
 rw[be (show¬e.kind=1 by omega),be (show¬e.kind=2 by omega)];exact hk (by rw[de,ho];simp)
theorem zm(a0:Bool->WS->Expr->WS)(w:WS)(e:Expr)(h:w.bad=true):jP a0 w e=og w:=by
 unfold jP;rw[am h]
theorem Ad{e:Expr}(h4:e.kind=4)(h:bm e.op=0): ∀n w,(cG n w e).bad=true:=by
 intro n w
 match n with
 |0=>rfl
 |1=>exact zD _ _ _ (fun _=>rfl) (Bf h) h4
 |m+2=>exact zD _ _ _ (fun g=>by rw[zm _ _ _ g];rfl) (Bf h) h4
theorem q9{e:Expr}(h: ¬(e.kind=4∧bm e.op=0)):bw e=ej e:=by
 unfold bw ej;split
 ·rename_i h4;have:=mt qK.2 fun g=>h ⟨h4,g⟩;unfold bm;split
  ·rfl
  split
  ·rfl
  rw[am (by omega)]
 ·rfl
theorem gZ(w:WS)(s:aj):(a7 w [s]).bad=w.bad:=rfl
theorem Ea(e:Expr):decide ((e.args.length:Int)>0)=!decide ((e.args.length:Int)=0):=by
 by_cases h:e.args.length=0
 ·rw[h];rfl
 ·rw[decide_eq_true (by omega),decide_eq_false (by omega)];rfl
theorem Dk{w:WS}{e:Expr}{k:WS}{t:nC}(h:w.bad=false->lZ e=true->e.kind=4->k.bad=t.2)(hb:(aV w (lZ e)).bad=true->k.bad=true):(jm w e k).bad=(w.bad||(il e false t).2):=by
 unfold jm il;cases hw:w.bad with
 |true=>rfl
 |false=>
  rw[be (by decide),Ya];by_cases h1:e.kind=1
  ·rw[am h1,am (.inl h1),gZ,de,hw];unfold zE eS pJ;rw[am h1,Ea];cases dY e.var<;>cases cK e.val<;>cases decide (e.op=0)<;>cases decide ((e.args.length:Int)=0)<;>rfl
  by_cases h2:e.kind=2
  ·rw[be h1,am h2,am (.inr h2),w4,de,hw];unfold zE eS rC;rw[be h1,Ea];show(false||!(decide (e.var=W4)&&_)||_)=_;cases decide (dt e.val=0)<;>cases decide (e.var=W4)<;>cases decide (e.op=0)<;>cases decide ((e.args.length:Int)=0)<;>rfl
  have a0: ¬(e.kind=1∨e.kind=2):=by omega
  rw[be h1,be h2,be a0];by_cases h4:e.kind=4
  ·rw[am h4];cases ho:lZ e with
   |true=>
    rw[h hw ho h4,be];unfold lZ at ho;rw[Xg,Xg,decide_eq_true_iff,decide_eq_true_iff]at ho;rintro(g|g|g|g|g)
    ·exact g h4
    ·cases g
    ·exact g ho.1
    ·rw[g]at ho;cases ho.2.1
    ·have:=qK.2 g;omega
   |false=>
    rw[hb (by rw[de,ho];simp),am];unfold lZ at ho;by_cases g1:e.var=⟨#[]⟩
    ·by_cases g2:cK e.val=true
     ·rw[decide_eq_true g1,g2,XV,XV,decide_eq_false_iff_not]at ho;have:=AU e.op;have:=qK.1 (show bm e.op=0 by omega);exact .inr (.inr (.inr (.inr this)))
     ·exact .inr (.inr (.inr (.inl (by simpa using g2))))
    ·exact .inr (.inr (.inl g1))
  ·rw[be h4,am (.inl h4)];rfl
theorem LM{m:Nat}(i0: ∀w e,(cG m w e).bad=(w.bad||(bE m e).2))(i1: ∀w e,(cG (m+1) w e).bad=(w.bad||(bE (m+1) e).2))(b:Bool)(w:WS)(a:Expr):(qv m b w a).bad=(w.bad||(kf m b a).2):=by
 unfold qv kf;split
 ·rw[gZ,i0,gZ];show _=(w.bad||((bE m a).2||_))
  cases m with
  |zero=>
   have:(bE 0 a).2=true:=by
    have:=i0 ⟨false,[],false,0⟩ a;exact this.symm
   rw[this];rfl
  |succ m=>rw[decide_eq_false (by omega),YR]
 ·exact i1 w a
theorem BO{m:Nat}(i0: ∀w e,(cG m w e).bad=(w.bad||(bE m e).2))(i1: ∀w e,(cG (m+1) w e).bad=(w.bad||(bE (m+1) e).2)){b b':Bool}(w:WS)(a:Expr)(h: ¬(a.kind=4∧bm a.op=0)->b=b'):(qv m b w a).bad=(w.bad||(kf m b' a).2):=by
 by_cases g:a.kind=4∧bm a.op=0
 ·have e1:(qv m b w a).bad=true:=by
   unfold qv;split
   ·rw[gZ];exact Ad g.1 g.2 _ _
   ·exact Ad g.1 g.2 _ _
  have e2:(kf m b' a).2=true:=by
   unfold kf;split
   ·show((bE m a).2||_)=true;rw[Af g.1 g.2];rfl
   ·exact Af g.1 g.2 _
  rw[e1,e2,Zr]
 ·rw[h g];exact LM i0 i1 _ _ _
theorem J1{m:Nat}(i0: ∀w e,(cG m w e).bad=(w.bad||(bE m e).2))(i1: ∀w e,(cG (m+1) w e).bad=(w.bad||(bE (m+1) e).2))(w:WS)(e:Expr)(hw:w.bad=false)(h4:e.kind=4)(ho:lZ e=true):(jP (qv m) w e).bad=(nP (kf m) e).2:=by
 have hs: ¬(e.kind=4∧bm e.op=0):=fun g=>by rw[Bf g.2]at ho;cases ho
 have he:bw e=bm e.op:=by rw[q9 hs];exact am h4
 unfold jP nP;rw[be (by rw[hw];decide)];split
 ·split
  ·rw[BO i0 i1 (b':=pQ (aO e)) _ _ fun g=>by unfold nR pQ J7;rw[q9 g]];have:(if(pe (aO e)&&decide ((aO e).val.num=0))=true then a7 (a7 w [sM]) [sM] else a7 w [sM]).bad=false:=by
    split
    ·exact hw
    ·exact hw
   rw[this];rfl
  ·rfl
 ·split
  ·rw[BO i0 i1 (b':=decide (bw (kE e)<=bw e)) _ _ fun g=>by rw[he,q9 g]];rw[gx,BO i0 i1 (b':=decide (bw (aO e)<bw e)) _ _ fun g=>by rw[he,q9 g],hw];rfl
  ·rfl
theorem qi: ∀(n:Nat) (w:WS) (e:Expr),(cG n w e).bad=(w.bad||(bE n e).2)
 |0,w,e=>by
  have:(bE 0 e).2=true:=by
   show(il e true ny).2=true;unfold il;split
   ·unfold zE;simp
   split<;>rfl
  rw[this,Zr];rfl
 |1,w,e=>Dk (fun _ _ _=>rfl) (fun _=>rfl)
 |m+2,w,e=>by
  rw[Ae,Is];exact Dk (fun h1 h2 h3=>J1 (qi m) (qi (m+1)) _ _ (by rw[de,h1,h2];rfl) h3 h2) (fun g=>by rw[zm _ _ _ g];rfl)
def fD(a:Atom):Bool:=decide (a.rel=⟨#[]⟩)&&decide ((a.ae.length:Int)=0)
def iX(a:eQ):Bool:=decide (a.func=0)&&(decide (a.var=⟨#[]⟩)&&(c4 a.dT&&decide ((a.body.length:Int)=0)))
def iT(l:Lit):Bool:=c4 l.left&&(c4 l.right&&decide (l.op=0))
def cx(f:Lit->nC)(l:List Lit):Nat->nC
 |0=>(⟨#[]⟩,false)
 |i+1=>if(cx f l i).2=true then ny else if(f (l.getD i default)).2=true then ny else((if(i:Int)>0 then(cx f l i).1++vZ else(cx f l i).1)++(f (l.getD i default)).1,false)
def HW(a:eQ):nC:=
 if a.func=1 then(((a.var++pt)++fx a.func)++px,!dY a.var||!c4 a.dT) else(((((a.var++pt)++fx a.func)++px)++(bE 17 a.dT).1)++Ek,!dY a.var||(bE 17 a.dT).2)
def oU(f:Lit->nC)(a:eQ)(br:Int):nC:=
 if a.func<1∨a.func>4∨br<1∨(a.body.length:Int)=0 then ny
 else(((HW a).1++(cx f a.body a.body.length).1)++vY,(HW a).2||(cx f a.body a.body.length).2)
def jz(f:Int->Lit->nC)(br:Int)(l:Lit):nC:=
 if l.kind=1∨l.kind=2 then(if l.kind=2 then xi++(eZ l.atom).1 else(eZ l.atom).1,(eZ l.atom).2||(!iT l||!iX l.agg))
 else if l.kind=3 then(((bE 17 l.left).1++qn l.op)++(bE 17 l.right).1,(bE 17 l.left).2||((bE 17 l.right).2||(!fD l.atom||(!iX l.agg||(decide (l.op<1)||decide (l.op>6))))))
 else if l.kind=4 then((oU (f (br-1)) l.agg br).1,(oU (f (br-1)) l.agg br).2||(!fD l.atom||!iT l)) else ny
def fj:Nat->Int->Lit->nC
 |0,_,_=>ny
 |n+1,br,l=>jz (fj n) br l
theorem yg{f:Lit->WS->WS}{l:List Lit}{w:WS}(h:w.bad=true): ∀i,dh f l w i=w
 |0=>rfl
 |i+1=>by rw[dh,yg h i,am h]
theorem DY{f:Lit->WS->WS}{g:Lit->nC}{l:List Lit}{br:Int}(a0: ∀l w,(f l w).br=w.br)(h: ∀i,i<l.length-> ∀w:WS,w.br=br->(f (l.getD i default) w).bad=(w.bad||(g (l.getD i default)).2))(w:WS)(hw:w.br=br): ∀i,i<=l.length->(dh f l w i).bad=(w.bad||(cx g l i).2)
 |0,_=>by show w.bad=(w.bad||false);rw[YR]
 |i+1,hi=>by
  have ih:=DY a0 h w hw i (by omega);cases hb:w.bad with
  |true=>rw[yg hb,hb];rfl
  |false=>
   rw[hb,Ya]at ih;rw[dh,ih,cx,Ya];split
   ·rw[ih];assumption
   ·rename_i hn;rw[h i (by omega) _ (by rw[qY,od f a0];exact hw),sZ,ih];rw[Yv]at hn;rw[hn,Ya];split
    ·assumption
    ·rename_i h2;rw[Yv]at h2;rw[h2]
theorem Ha(w:WS)(n:Int):(wP w n).bad=w.bad:=rfl
theorem Si(w:WS)(a:eQ):(rf (a7 (aV w (dY a.var)) [a.var,pt,fx a.func,px]) a).bad=(w.bad||(HW a).2):=by
 unfold rf HW;split
 ·rw[de,gx,de,ZV]
 ·rw[gZ,qi,gx,de,ZV]
theorem Pl{f:Lit->WS->WS}{g:Int->Lit->nC}(a0: ∀l w,(f l w).br=w.br)(w:WS)(a:eQ)(h: ∀i,i<a.body.length-> ∀v:WS,(f (a.body.getD i default) v).bad=(v.bad||(g (16-v.br) (a.body.getD i default)).2)):(yy f w a).bad=(w.bad||(oU (g (16-w.br-1)) a (16-w.br)).2):=by
 unfold yy oU;split
 ·rw[am (by omega),Zr];rfl
 ·rw[be (by omega),gZ,Ha,DY (g:=g (16-w.br-1)) a0 (br:=w.br+1) (fun i hi v hv=>by rw[h i hi v,hv,show(16:Int)-(w.br+1)=16-w.br-1 by omega]) _ (by show(wP _ 1).br=_;show(rf _ _).br+1=_;rw[ER,di,pP]) _ (W0 _),Ha,Si,ZV]
theorem Kd(n:Nat):decide ((n:Int)>0)=!decide ((n:Int)=0):=by
 by_cases h:n=0
 ·rw[h];rfl
 ·rw[decide_eq_true (by omega),decide_eq_false (by omega)];rfl
theorem Ar(w:WS)(a:Atom):(jQ w a).bad=(w.bad||(eZ a).2):=by
 unfold jQ eZ;rw[gZ];have: ∀i,(ew a.ae (a7 (aV w (eh a.rel)) [a.rel,sO]) i).bad=(w.bad||(eC a i).2):=by
  intro i
  induction i with
  |zero=>rw[ew,gx];rfl
  |succ i ih=>rw[ew,y7,sZ,ih,eC,ZV]
 exact this _
theorem Gs: ∀(n:Nat) (l:Lit) (w:WS),l.size<=n->(en n l w).bad=(w.bad||(fj n (16-w.br) l).2)
 |0,l,w,h=>by have:=l.size_pos;omega
 |n+1,l,w,h=>by
  have hs:=l.size_eq;have hag:=Pl (f:=en n) (g:=fj n) (wC n) (aV w (j6 l)) l.agg fun i hi v=>by
   have hi:i<l.ar.length:=hi;have:=Lit.aT l.ar i hi;have:=l.left.size_pos;exact Gs n (l.ar.getD i default) v (by omega)
  rw[pP]at hag;rw[en,fj];have n1:fD l.atom=(decide (l.atom.rel=⟨#[]⟩)&&decide ((l.atom.ae.length:Int)=0)):=rfl;have n2:iX l.agg=(decide (l.dP=0)&&(decide (l.bp=⟨#[]⟩)&&(c4 l.km&&decide ((l.ar.length:Int)=0)))):=rfl;have n3:iT l=(c4 l.left&&(c4 l.right&&decide (l.op=0))):=rfl;have n4:(!(!decide (l.atom.rel=⟨#[]⟩)||!decide ((l.atom.ae.length:Int)=0)))=fD l.atom:=by rw[n1];simp
  have n5:(!(!decide (l.op=0)||(!c4 l.left||!c4 l.right)))=iT l:=by
   rw[n3];cases decide (l.op=0)<;>cases c4 l.left<;>cases c4 l.right<;>rfl
  have hl:j6 l=((decide (l.kind=1)||decide (l.kind=2)||fD l.atom)&&((!!decide (l.kind=3)||iT l)&&(decide (l.kind=4)||iX l.agg))):=by
   unfold j6;rw[Kd,n4,n5,n2]
  unfold C8 jz;rw[hl]at hag ⊢;generalize fD l.atom=A at*
  generalize iX l.agg=G at*
  generalize iT l=S at*
  by_cases k2:l.kind=2
  ·rw[am k2,am (.inr k2),Ar,gZ,de];simp only[k2];cases w.bad<;>cases(eZ l.atom).2<;>cases A<;>cases G<;>cases S<;>rfl
  by_cases k1:l.kind=1
  ·rw[be k2,am k1,am (.inl k1),Ar,de];simp only[k1];cases w.bad<;>cases(eZ l.atom).2<;>cases A<;>cases G<;>cases S<;>rfl
  have a0: ¬(l.kind=1∨l.kind=2):=by omega
  rw[be k2,be k1,be a0];by_cases k3:l.kind=3
  ·rw[am k3,am k3];have b0:decide (l.op<1)=true∨decide (l.op>6)=true∨ ¬(l.op<1∨7<=l.op):=by
    simp only[decide_eq_true_eq];omega
   split
   ·rename_i ho;have:(decide (l.op<1)||decide (l.op>6))=true:=by simp;omega
    rw[this];simp[og]
   ·rename_i ho;have:(decide (l.op<1)||decide (l.op>6))=false:=by simp;omega
    rw[this,qi,gZ,qi,de];simp only[k3];cases w.bad<;>cases(bE 17 l.left).2<;>cases(bE 17 l.right).2<;>cases A<;>cases G<;>rfl
  rw[be k3,be k3];by_cases k4:l.kind=4
  ·rw[am k4,am k4,hag,de];simp only[k4];cases w.bad<;>cases(oU (fj n (16-w.br-1)) l.agg (16-w.br)).2<;>cases A<;>cases G<;>cases S<;>rfl
  ·rw[be k4,be k4];show true=(_||true)
   rw[Zr]
def o6(l:Lit):nC:=fj l.size 16 l
theorem zA(l:Lit):jA l=(o6 l).2:=by
 unfold jA o6;rw[Gs l.size l WS.o (W0 _)];show(false||(fj l.size (16-0) l).2)=_;rw[Ya];rfl
end Go.Proofs.YtflegjieadkonaaGreatDoor
namespace Go.Proofs.YtflegjieadkonaaGreatDoor
open Go Go.Al
structure Ask where
 place:Int
 item:Int
 type:Int
 pW:Int
 deriving Inhabited
def Ask.c(a:Ask):List IV:=[iI a.place,iI a.item,iI a.type,iI a.pW]
structure AK where
 items:List aL
 root:List Int
 l:List Ask
def yL:List aL->aL->Nat
 | [],_=>0
 |a::r,u=>if a=u then 0 else yL r u+1
def AK.ix(A:AK)(u:aL):Int:=((yL A.items u:Nat):Int)
def AK.item(A:AK)(u:aL):AK:=if yL A.items u<A.items.length then A else⟨A.items++ [u],A.root++ [(A.root.length:Int)],A.l⟩
def AK.ask(A:AK)(k:Ask):AK:=if k.type=1∨k.type=2 then⟨A.items,A.root,A.l++ [k]⟩ else A
def AK.want(A:AK)(a0:Int)(u:aL)(b0:Int):AK:=(A.item u).ask ⟨a0,A.ix u,b0,0⟩
def AK.rt(A:AK)(i:Int):Int:=A.root.getD i.toNat 0
def AK.tie(A:AK)(x y:Int):AK:=⟨A.items,A.root.map fun z=>if z=A.rt x then A.rt y else z,A.l⟩
section
variable (r:aq) (lit w:Int)
def mb(e:Expr)(A:AK):AK:=if e.kind=1 then A.want lit (bh r e.var w) 1 else if e.kind=2 then A.ask ⟨lit, -1,1,e.val.kind⟩ else A
mutual
def gk:Expr->AK->AK
 | .mk k v val op args=>fun A=>if k=4 then xw args (mb r lit w (.mk k v val op args) A) else mb r lit w (.mk k v val op args) A
def xw:List Expr->AK->AK
 | []=>fun A=>A
 |e::s=>fun A=>xw s (gk e A)
end
theorem CW: ∀(l:List Expr) (A:AK),xw r lit w l A=l.foldl (fun A e=>gk r lit w e A) A
 | [],A=>by rw[xw];rfl
 |e::s,A=>by
  rw[xw];show xw r lit w s (gk r lit w e A)=_;rw[CW s];rfl
def ll(e:Expr)(A:AK):AK:=if e.kind=4 then e.args.foldl (fun A x=>gk r lit w x A) A else A
theorem wz(e:Expr)(A:AK):gk r lit w e A=ll r lit w e (mb r lit w e A):=by
 cases e;rw[gk];show(if _ then xw r lit w _ _ else _)=_;rw[CW];rfl
end
def bX(e:Expr):Int:=if e.kind=2 then e.val.kind else if e.kind=4 then 1 else 0
def jJ(p:Prog)(r:aq)(a:Atom)(lit w:Int)(i:Nat)(A:AK):AK:=
 if i<(gP p a.rel).types.length then
  (if(a.ae.getD i default).kind=1 then A.want lit (bh r (a.ae.getD i default).var w) (typeAt p a i)
  else if(a.ae.getD i default).kind=2 then A.ask ⟨lit, -1,typeAt p a i,(a.ae.getD i default).val.kind⟩ else A) else A
def fA(p:Prog)(r:aq)(a:Atom)(lit w:Int)(A:AK):Nat->AK
 |0=>A
 |i+1=>jJ p r a lit w i (fA p r a lit w A i)
def kU(r:aq)(lit w:Int)(x y:Expr)(A:AK):AK:=
 if bX x=0 then(if bX y=0 then((A.item (bh r x.var w)).item (bh r y.var w)).tie (A.ix (bh r x.var w)) ((A.item (bh r x.var w)).ix (bh r y.var w)) else A.want lit (bh r x.var w) (bX y))
 else if bX y=0 then A.want lit (bh r y.var w) (bX x) else A.ask ⟨lit, -1,bX x,bX y⟩
def kX(p:Prog)(r:aq)(lit w:Int)(l:Lit)(A:AK):AK:=
 if l.kind=1∨l.kind=2 then fA p r l.atom lit w A l.atom.ae.length
 else if l.kind=3 then(if l.op=1∨l.op=2 then kU r lit w l.left l.right (ll r lit w l.right (ll r lit w l.left A)) else gk r lit w l.right (gk r lit w l.left A)) else A
def El(p:Prog)(r:aq)(i:Int)(A:AK)(ls:List Lit):Nat->AK
 |0=>A
 |k+1=>kX p r i i (ls.getD k default) (El p r i A ls k)
def ux(r:aq)(i:Int)(f:Int)(v:aj)(o:Expr)(A:AK):AK:=
 if f=1 then gk r i i (iQ v) A else if f=2 then gk r i i o (gk r i i (iQ v) A) else kU r i i (iQ v) o (ll r i i o A)
def rz(p:Prog)(r:aq)(i:Int)(l:Lit)(A:AK):AK:=
 if l.kind=4 then El p r i (ux r i l.dP l.bp l.km A) l.ar l.ar.length else kX p r i (-1) l A
def AK.o:AK:=⟨[],[],[]⟩
def kZ(p:Prog)(r:aq):Nat->AK
 |0=>fA p r r.head (-1) (-1) AK.o r.head.ae.length
 |k+1=>rz p r k (r.body.getD k default) (kZ p r k)
def mX(p:Prog)(r:aq):AK:=kZ p r r.body.length
inductive F2 {α β:Type} (R:α->β->Prop):List α->List β->Prop
 |nil:F2 R [] []
 |cons {a b l m}:R a b->F2 R l m->F2 R (a::l) (b::m)
theorem F2.snoc{α β:Type}{R:α->β->Prop}{l:List α}{m:List β}{a:α}{b:β}(h:F2 R l m)(hr:R a b):F2 R (l++ [a]) (m++ [b]):=by
 induction h with
 |nil=>exact .cons hr .nil
 |cons h1 _ ih=>exact .cons h1 ih
theorem F2.imp{α β:Type}{R S:α->β->Prop}(f: ∀a b,R a b->S a b){l:List α}{m:List β}(h:F2 R l m):F2 S l m:=by
 induction h with
 |nil=>exact .nil
 |cons h1 _ ih=>exact .cons (f _ _ h1) ih
theorem F2.find{α β γ:Type}{R:α->β->Prop}{p:α->Bool}{q:β->Bool}{f:α->γ}{g:β->γ}(h1: ∀a b,R a b->p a=q b)(h2: ∀a b,R a b->p a=true->f a=g b){l:List α}{m:List β}(h:F2 R l m):(l.find? p).map f=(m.find? q).map g:=by
 induction h with
 |nil=>rfl
 | @cons a b l m hr _ ih=>
  rw[Yq,Yq,<-h1 a b hr];cases hp:p a with
  |true=>exact congrArg some (h2 a b hr hp)
  |false=>exact ih
theorem F2.mem{α β:Type}{R:α->β->Prop}{l:List α}{m:List β}(h:F2 R l m): ∀a∈l,∃b∈m,R a b:=by
 induction h with
 |nil=>intro a ha;cases ha
 |cons h1 _ ih=>
  intro x hx;rcases Xb.1 hx with e|e
  ·subst e;exact⟨_,Xd,h1⟩
  ·obtain⟨b,hb,hr⟩:=ih x e;exact⟨b,W8 _ hb,hr⟩
theorem F2.Ui{α β:Type}{R:α->β->Prop}{l:List α}{m:List β}(h:F2 R l m): ∀b∈m,∃a∈l,R a b:=by
 induction h with
 |nil=>intro a ha;cases ha
 |cons h1 _ ih=>
  intro x hx;rcases Xb.1 hx with e|e
  ·subst e;exact⟨_,Xd,h1⟩
  ·obtain⟨b,hb,hr⟩:=ih x e;exact⟨b,W8 _ hb,hr⟩
def CK(a0:List aL)(k:Ask)(x:Want):Prop:=k.place=x.lit∧((∃i:Nat,k.item=i∧a0[i]? =some x.at_∧x.has=0∧k.type=x.kind∧(x.kind=1∨x.kind=2))∨(k.item= -1∧ ¬x.has=0∧(k.pW=k.type↔x.has=x.kind)))
theorem CK.mono{a0 more:List aL}{k:Ask}{x:Want}(h:CK a0 k x):CK (a0++more) k x:=by
 obtain⟨h1,h2⟩:=h;refine⟨h1,h2.imp (fun⟨i,g1,g2,g3⟩=>⟨i,g1,?_,g3⟩) id⟩;have hi:i<a0.length:=by
  rcases WX.1 g2 with⟨h,_⟩;exact h
 rw[Xf hi];exact g2
structure yT (up:UM) (W:List Want) (A:AK):Prop where
 len:A.root.length=A.items.length
 lt: ∀z∈A.root,0<=z∧z<A.items.length
 cls: ∀(i j:Nat) (u v:aL),A.items[i]? =some u->A.items[j]? =some v->(A.root.getD i 0=A.root.getD j 0↔aP up u=aP up v)
 up: ∀q∈up,q.1∈A.items∧q.2∈A.items
 ws:F2 (CK A.items) A.l W
theorem tB{a0:List aL}: ∀{up:UM} {v:aL},(∀q∈up,q.1∈a0∧q.2∈a0)->v∈a0->aP up v∈a0
 | [],v,_,h=>h
 |(x,y)::r,v,hu,h=>by
  rw[aP];split
  ·exact tB (fun q hq=>hu q (W8 _ hq)) (hu _ Xd).2
  ·exact tB (fun q hq=>hu q (W8 _ hq)) h
theorem zY{l:List Int}{i:Nat}(h:i<l.length):l.getD i 0∈l:=by
 rw[WU,WY h];exact XD h
theorem Gy: ∀{l:List aL} {u:aL},yL l u<l.length->l[yL l u]? =some u
 | [],u,h=>by cases h
 |a::r,u,h=>by
  rw[yL]at h ⊢;split
  ·rename_i e;rw[e];rfl
  ·rename_i e;rw[be e,Xx]at h;rw[Y3];exact Gy (by omega)
theorem Bo: ∀{l:List aL} {u:aL},¬yL l u<l.length->u∉l∧yL l u=l.length
 | [],u,_=>⟨fun h=>(nomatch h),rfl⟩
 |a::r,u,h=>by
  rw[yL]at h ⊢;split
  ·rename_i e;rw[am e]at h;exact absurd (Nat.succ_pos _) h
  ·rename_i e;rw[be e,Xx]at h;obtain⟨h1,h2⟩:=Bo (l:=r) (u:=u) (by omega)
   exact⟨fun hm=>by
    rcases Xb.1 hm with g|g
    ·exact e g.symm
    ·exact h1 g,by rw[h2,Xx]⟩
theorem E9(A:AK)(u:aL): ∃i:Nat,A.ix u=i∧(A.item u).items[i]? =some u:=by
 refine⟨yL A.items u,rfl,?_⟩;unfold AK.item;split
 ·rename_i h;exact Gy h
 ·rename_i h;rw[(Bo h).2];simp
theorem yT.item{up:UM}{W:List Want}{A:AK}(h:yT up W A)(u:aL):yT up W (A.item u):=by
 unfold AK.item;split
 ·exact h
 rename_i hu;have hu:=(Bo hu).1;obtain⟨h1,h2,h3,h4,h5⟩:=h;have hn:aP up u=u:=NS fun q hq e=>hu (e▸(h4 q hq).1)
 have a0: ∀(i:Nat) (v:aL),(A.items++ [u])[i]? =some v->(i<A.items.length∧A.items[i]? =some v)∨(i=A.items.length∧v=u):=fun i v hv=>by
  by_cases hi:i<A.items.length
  ·rw[Xf hi]at hv;exact .inl ⟨hi,hv⟩
  ·rw[Xj (by omega)]at hv;rcases WX.1 hv with⟨g1,g2⟩;simp only[XC]at g1;have:i-A.items.length=0:=by omega
   have c0:([u]:List aL)[0]? =some v:=this▸hv;exact .inr ⟨by omega,by simpa using c0.symm⟩
 have hr: ∀i,i<A.items.length->(A.root++ [(A.root.length:Int)]).getD i 0=A.root.getD i 0:=fun i hi=>by
  rw[WU,WU,Xf (by omega)]
 have b0:(A.root++ [(A.root.length:Int)]).getD A.items.length 0=A.items.length:=by
  rw[<-h1,WU];simp
 have hnew: ∀(i:Nat) (v:aL),i<A.items.length->A.items[i]? =some v-> ¬A.root.getD i 0=A.items.length∧ ¬aP up v=u:=fun i v hi hv=>by
  have:=h2 _ (zY (l:=A.root) (i:=i) (by omega));refine⟨by omega,fun e=>hu ?_⟩;rw[<-e];exact tB h4 (Xo hv)
 refine⟨by simp[h1],fun z hz=>?_,fun i j v w hv hw=>?_,fun q hq=>⟨Xv _ (h4 q hq).1,Xv _ (h4 q hq).2⟩,h5.imp fun a b=>CK.mono⟩
 ·simp only[WW,XC];rcases W7.1 hz with g|g
  ·have:=h2 z g;omega
  ·simp only[W5]at g;omega
 ·rcases a0 i v hv with⟨g1,g2⟩|⟨g1,g2⟩<;>rcases a0 j w hw with⟨k1,k2⟩|⟨k1,k2⟩
  ·rw[hr i g1,hr j k1];exact h3 i j v w g2 k2
  ·have:=hnew i v g1 g2;subst k1;subst k2;rw[hr i g1,b0,hn];exact⟨fun e=>absurd e this.1,fun e=>absurd e this.2⟩
  ·have:=hnew j w k1 k2;subst g1;subst g2;rw[hr j k1,b0,hn];exact⟨fun e=>absurd e.symm this.1,fun e=>absurd e.symm this.2⟩
  ·subst g1;subst g2;subst k1;subst k2;exact⟨fun _=>rfl,fun _=>rfl⟩
theorem yT.ask{up:UM}{W:List Want}{A:AK}(h:yT up W A){k:Ask}{x:Want}(hk:k.type=1∨k.type=2)(hx:CK A.items k x):yT up (W++ [x]) (A.ask k):=by
 unfold AK.ask;rw[am hk];exact⟨h.len,h.lt,h.cls,h.up,h.ws.snoc hx⟩
theorem yT.want{up:UM}{W:List Want}{A:AK}(h:yT up W A)(lit:Int)(u:aL){t:Int}(ht:t=1∨t=2):yT up (W++ [⟨lit,u,t,0⟩]) (A.want lit u t):=by
 obtain⟨i,h1,h2⟩:=E9 A u;exact(h.item u).ask ht ⟨rfl, .inl ⟨i,h1,h2,rfl,rfl,ht⟩⟩
theorem yT.val{up:UM}{W:List Want}{A:AK}(h:yT up W A)(lit:Int){t hv t' a0:Int}(ht:t=1∨t=2)(hh: ¬a0=0)(he:hv=t↔a0=t'):yT up (W++ [⟨lit,aL.z,t',a0⟩]) (A.ask ⟨lit, -1,t,hv⟩):=
 h.ask ht ⟨rfl, .inr ⟨rfl,hh,he⟩⟩
theorem uG: ∀(m:UM) (p q v:aL),aP (m++ [(p,q)]) v=if aP m v=p then q else aP m v
 | [],p,q,v=>by
  show(if p=v then q else v)=if v=p then q else v;by_cases h:p=v
  ·rw[am h,am h.symm]
  ·rw[be h,be fun e=>h e.symm]
 |(x,y)::r,p,q,v=>by
  rw[Ym,aP,aP];split
  ·exact uG r p q y
  ·exact uG r p q v
theorem B3{t:TS}(ok:iA t.up)(a b v:aL):aP (r8 t (aP t.up a) (aP t.up b)).up v=if aP t.up v=aP t.up a then aP t.up b else aP t.up v:=by
 unfold r8;split
 ·rename_i h;by_cases g:aP t.up v=aP t.up a
  ·rw[am g,<-h,g]
  ·rw[be g]
 ·show aP (b6 (.si .i64) t.up (aP t.up a) (aP t.up b)) v=_;rw[tD _ _ _ (lR _ t.up a ok (W0 _)),uG]
theorem RU{t:TS}(ok:iA t.up)(a b:aL): ∀q∈(r8 t (aP t.up a) (aP t.up b)).up,q∈t.up∨q=(aP t.up a,aP t.up b):=by
 unfold r8;split
 ·exact fun q hq=> .inl hq
 ·intro q hq;have hq:q∈b6 (.si .i64) t.up (aP t.up a) (aP t.up b):=hq;rw[tD _ _ _ (lR _ t.up a ok (W0 _))]at hq;rcases W7.1 hq with g|g
  ·exact .inl g
  ·exact .inr (by simpa using g)
theorem mrg{α:Type}[DecidableEq α](x y p q:α):((if x=p then q else x)=(if y=p then q else y))↔(x=y∨(x=p∧y=q)∨(x=q∧y=p)):=by
 by_cases h1:x=p<;>by_cases h2:y=p
 ·rw[am h1,am h2,h1,h2];exact⟨fun _=> .inl Z,fun _=>rfl⟩
 ·rw[am h1,be h2,h1]
  exact⟨fun e=> .inr (.inl ⟨rfl,e.symm⟩),fun e=>by
   rcases e with e|⟨_,e⟩|⟨_,e⟩
   ·exact absurd e.symm h2
   ·exact e.symm
   ·exact absurd e h2⟩
 ·rw[be h1,am h2,h2]
  exact⟨fun e=> .inr (.inr ⟨e,rfl⟩),fun e=>by
   rcases e with e|⟨e,_⟩|⟨e,_⟩
   ·exact absurd e h1
   ·exact absurd e h1
   ·exact e⟩
 ·rw[be h1,be h2]
  exact⟨fun e=> .inl e,fun e=>by
   rcases e with e|⟨e,_⟩|⟨_,e⟩
   ·exact e
   ·exact absurd e h1
   ·exact absurd e h2⟩
theorem yT.tie{t:TS}{W:List Want}{A:AK}(h:yT t.up W A)(ok:iA t.up){x y:Nat}{u v:aL}(hx:A.items[x]? =some u)(hy:A.items[y]? =some v){a b:aL}(c0:(a=u∧b=v)∨(a=v∧b=u)):yT (r8 t (aP t.up a) (aP t.up b)).up W (A.tie x y):=by
 have hlt: ∀{i:Nat} {w:aL},A.items[i]? =some w->i<A.root.length:=fun g=>by
  rcases WX.1 g with⟨h',_⟩;rw[h.len];exact h'
 have d0: ∀n:Nat,A.rt n=A.root.getD n 0:=fun n=>rfl
 have b0: ∀i:Nat,i<A.root.length->(A.tie x y).root.getD i 0=if A.root.getD i 0=A.rt x then A.rt y else A.root.getD i 0:=fun i hi=>by
  show(A.root.map _).getD i 0=_;rw[WU,W1,WY hi,WU,WY hi];rfl
 have a0: ∀c,c=u∨c=v->aP t.up c∈A.items:=fun c hc=>tB h.up (by
  rcases hc with e|e
  ·rw[e];exact Xo hx
  ·rw[e];exact Xo hy)
 refine⟨by show(A.root.map _).length=_;rw[Xr];exact h.len,fun z hz=>?_,fun i j c d hc hd=>?_,fun q hq=>?_,h.ws⟩
 ·have hz:z∈A.root.map _:=hz;rcases Xt.1 hz with⟨z0,g1,g2⟩;have:=h.lt z0 g1;have h2:=h.lt _ (zY (hlt hy));subst g2;show 0<=_∧_<(A.items.length:Int)
  split
  ·exact h2
  ·exact this
 ·rw[b0 i (hlt hc),b0 j (hlt hd),d0,d0,mrg,B3 ok,B3 ok,mrg];have e1:=h.cls i j c d hc hd;have e2:=h.cls i x c u hc hx;have e3:=h.cls i y c v hc hy;have e4:=h.cls j x d u hd hx;have e5:=h.cls j y d v hd hy;rw[e1,e2,e3,e4,e5];rcases c0 with⟨rfl,rfl⟩|⟨rfl,rfl⟩
  ·exact Iff.rfl
  ·exact⟨fun e=>e.imp id Or.symm,fun e=>e.imp id Or.symm⟩
 ·rcases RU ok a b q hq with g|g
  ·exact h.up q g
  ·subst g;rcases c0 with⟨rfl,rfl⟩|⟨rfl,rfl⟩
   ·exact⟨a0 _ (.inl Z),a0 _ (.inr Z)⟩
   ·exact⟨a0 _ (.inr Z),a0 _ (.inl Z)⟩
def tY(l:List Want)(q:aL->Bool):Option Int:=(l.find? fun x=>decide (x.has=0)&&q x.at_).map Want.kind
theorem mU(l m:List Want)(q:aL->Bool):tY (l++m) q=(tY l q).or (tY m q):=by
 unfold tY;rw[ZE,Option.map_or]
def Sw(l m:List Want):Prop:=(∀q,tY l q=tY m q)∧ ∀x,x∈l↔x∈m
theorem Sw.refl(l:List Want):Sw l l:=⟨fun _=>rfl,fun _=>Iff.rfl⟩
theorem Sw.app{l m l' m':List Want}(h:Sw l l')(g:Sw m m'):Sw (l++m) (l'++m'):=
 ⟨fun q=>by rw[mU,mU,h.1,g.1],fun x=>by rw[W7,W7,h.2,g.2]⟩
theorem Dz{l:List Want}(h: ∀x∈l,x.kind=1)(q:aL->Bool):tY l q=none∨tY l q=some 1:=by
 unfold tY;cases hf:l.find? fun x=>decide (x.has=0)&&q x.at_ with
 |none=>exact .inl Z
 |some x=>exact .inr (congrArg some (h x (YV hf)))
theorem Sw.swap{l m:List Want}(h1: ∀x∈l,x.kind=1)(h2: ∀x∈m,x.kind=1):Sw (l++m) (m++l):=by
 refine⟨fun q=>?_,fun x=>by rw[W7,W7,or_comm]⟩;rw[mU,mU];rcases Dz h1 q with a|a<;>rcases Dz h2 q with b|b<;>rw[a,b]<;>rfl
theorem E7(r:aq)(lit w:Int)(e:Expr): ∀x∈j5 r lit w e,x.kind=1:=by
 unfold j5;split
 ·intro x hx;rw[W5.1 hx]
 split
 ·intro x hx;rw[W5.1 hx]
 ·intro x hx;cases hx
theorem xv(r:aq)(lit w:Int): ∀(n:Nat) (e:Expr),e.size<=n-> ∀x∈fX r lit w e,x.kind=1
 |0,e,h=>by have:=e.size_pos;omega
 |n+1,e,h=>by
  intro x hx;rw[wy]at hx;rcases W7.1 hx with g|g
  ·exact E7 r lit w e x g
  ·unfold iJ at g;split at g
   ·rcases Yw.1 g with⟨y,hy,hm⟩;obtain⟨k,hk,rfl⟩:=Ye.1 hy;have h1:=Expr.aT e.args k hk;rw[WU,WY hk]at h1;have h1:(e.args[k]).size<=Expr.ax e.args:=h1;have:=e.size_eq;exact xv r lit w n _ (by omega) x hm
   ·cases g
def yB(t:TS)(A:AK):Prop:=iA t.up∧ ∃W,Sw t.ws W∧yT t.up W A
def yA(X:List Want)(A B:AK):Prop:= ∀up W,yT up W A->yT up (W++X) B
theorem yA.nil(A:AK):yA [] A A:=fun up W h=>by rw[XE];exact h
theorem yA.app{X Y:List Want}{A B C:AK}(h:yA X A B)(g:yA Y B C):yA (X++Y) A C:=fun up W hc=>by
 rw[<-Xa];exact g _ _ (h _ _ hc)
theorem yB.add{t:TS}{A B:AK}(h:yB t A){X:List Want}(g:yA X A B):yB (t.add X) B:=by
 obtain⟨ok,W,h1,h2⟩:=h;exact⟨ok,_,h1.app (Sw.refl X),g _ _ h2⟩
theorem yB.swap{t:TS}{A B:AK}(h:yB t A){X Y:List Want}(h1: ∀x∈X,x.kind=1)(h2: ∀x∈Y,x.kind=1)(g:yA (Y++X) A B):yB (t.add (X++Y)) B:=by
 obtain⟨ok,W,k1,k2⟩:=h;exact⟨ok,_,k1.app (Sw.swap h1 h2),g _ _ k2⟩
mutual
def zn:Expr->Prop
 | .mk k _ val _ args=>k=1∨(k=2∧(val.kind=1∨val.kind=2))∨(k=4∧J6 args)
def J6:List Expr->Prop
 | []=>True
 |e::s=>zn e∧J6 s
end
theorem CU: ∀{l:List Expr},J6 l↔ ∀e∈l,zn e
 | []=>by rw[J6];exact⟨fun _ e he=>(nomatch he),fun _=>trivial⟩
 |e::s=>by
  rw[J6,CU]
  exact⟨fun h x hx=>by
   rcases Xb.1 hx with g|g
   ·rw[g];exact h.1
   ·exact h.2 x g,fun h=>⟨h e Xd,fun x hx=>h x (W8 _ hx)⟩⟩
theorem sE(e:Expr):zn e↔(e.kind=1∨(e.kind=2∧(e.val.kind=1∨e.val.kind=2))∨(e.kind=4∧ ∀x∈e.args,zn x)):=by
 cases e;rw[zn,CU];rfl
theorem vi{v:tg}(h:dt v=0):v.kind=1∨v.kind=2:=by
 unfold dt at h
 repeat' split at h
 all_goals first|omega|(simp at h;done)|(simp_all;done)|(simp_all;omega)
theorem Un{l:List Expr}(h:l.length=1):l=[l.getD 0 default]:=by
 match l,h with
 | [a],_=>rfl
theorem Um{l:List Expr}(h:l.length=2):l=[l.getD 0 default,l.getD 1 default]:=by
 match l,h with
 | [a,b],_=>rfl
theorem xX: ∀(n:Nat) (e:Expr),(bE n e).2=false->zn e:=by
 intro n
 induction n using Nat.strongRecOn with
 |_ n ih=>
 intro e h;have hh: ∀b k,(il e b k).2=false->(k.2=false->e.kind=4->zn e)->zn e:=fun b k g1 g2=>by
  unfold il at g1;split at g1
  ·rename_i hk;rw[sE];by_cases k1:e.kind=1
   ·exact .inl k1
   have k2:e.kind=2:=by omega
   refine .inr (.inl ⟨k2,?_⟩);unfold zE eS at g1;rw[be k1]at g1;simp only[XL]at g1;exact vi (by simpa using g1.1.1)
  split at g1
  ·cases g1
  ·rename_i k1 k2;exact g2 g1 (Yb fun g=>k2 (.inl g))
 match n,ih,h with
 |0,ih,h=>exact hh _ _ h fun g _=>by cases g
 |1,ih,h=>exact hh _ _ h fun g _=>by cases g
 |m+2,ih,h=>
  have a0: ∀b a,(kf m b a).2=false->zn a:=fun b a g=>by
   unfold kf at g;split at g
   ·have g:((bE m a).2||decide (m<1))=false:=g;rw[XL]at g;exact ih m (by omega) a g.1
   ·exact ih (m+1) (by omega) a g
  refine hh _ _ h fun g k4=>?_;rw[sE];refine .inr (.inr ⟨k4,?_⟩);have g:(nP (kf m) e).2=false:=g;unfold nP at g;split at g
  ·split at g
   ·rename_i h1;rw[Un h1];intro x hx;rw[W5.1 hx];exact a0 _ _ g
   ·cases g
  ·split at g
   ·rename_i h1;have g:((kf m _ (aO e)).2||(kf m _ (kE e)).2)=false:=g;rw[XL]at g;rw[Um h1];intro x hx;rcases Xb.1 hx with q|q
    ·rw[q];exact a0 _ _ g.1
    ·rw[W5.1 q];exact a0 _ _ g.2
   ·cases g
theorem Kn(r:aq)(lit w:Int){e:Expr}(h:zn e)(A:AK):yA (j5 r lit w e) A (mb r lit w e A):=by
 rw[sE]at h;unfold j5 mb;by_cases k1:e.kind=1
 ·rw[am k1,am k1];exact fun up W hc=>hc.want lit _ (.inl Z)
 rw[be k1,be k1];by_cases k2:e.kind=2
 ·rw[am k2,am k2];refine fun up W hc=>hc.val lit (.inl Z) ?_ Iff.rfl;omega
 ·rw[be k2,be k2];exact yA.nil A
theorem yq(r:aq)(lit w:Int): ∀(l:List Expr),(∀x∈l,∀A,yA (fX r lit w x) A (gk r lit w x A))-> ∀A,yA (l.flatMap (fX r lit w)) A (l.foldl (fun A x=>gk r lit w x A) A)
 | [],_,A=>yA.nil A
 |e::s,h,A=>by
  rw[XZ,Xq];exact(h e Xd A).app (yq r lit w s (fun x hx=>h x (W8 _ hx)) _)
theorem oB(r:aq)(lit w:Int): ∀(n:Nat) (e:Expr),e.size<=n->zn e-> ∀A,yA (fX r lit w e) A (gk r lit w e A)
 |0,e,h,_=>by have:=e.size_pos;omega
 |n+1,e,h,ok=>by
  intro A;rw[wy,wz];refine(Kn r lit w ok A).app ?_;rw[sE]at ok;unfold iJ ll;split
  ·rename_i k4;refine yq r lit w _ (fun x hx=>?_) _;obtain⟨k,hk,rfl⟩:=Ye.1 hx;have h1:=Expr.aT e.args k hk;rw[WU,WY hk]at h1;have h1:(e.args[k]).size<=Expr.ax e.args:=h1;have:=e.size_eq;refine oB r lit w n _ (by omega) ?_;rcases ok with g|g|g
   ·omega
   ·omega
   ·exact g.2 _ hx
  ·exact yA.nil _
theorem Br(r:aq)(lit w:Int)(e:Expr)(ok:zn e)(A:AK):yA (iJ r lit w e) A (ll r lit w e A):=by
 rw[sE]at ok;unfold iJ ll;split
 ·refine yq r lit w _ (fun x hx=>oB r lit w _ x (W0 _) ?_) _;rcases ok with g|g|g
  ·omega
  ·omega
  ·exact g.2 _ hx
 ·exact yA.nil _
def J4(x:Term):Prop:=x.kind=2->(x.val.kind=1∨x.val.kind=2)
def Tb(a:Atom):Prop:= ∀i,i<a.ae.length->J4 (a.ae.getD i default)
theorem yn(p:Prog)(r:aq)(a:Atom)(lit w:Int)(ok:Tb a)(A:AK): ∀i,i<=a.ae.length->yA (gf p r a lit w i) A (fA p r a lit w A i)
 |0,_=>yA.nil A
 |i+1,hi=>by
  rw[gf,fA];refine(yn p r a lit w ok A i (by omega)).app ?_;have ok:=ok i (by omega);generalize fA p r a lit w A i=B;unfold lL jJ nj;by_cases h1:i<(gP p a.rel).types.length
  ·rw[am h1,decide_eq_true h1,XV];by_cases h2:typeAt p a i=1∨typeAt p a i=2
   ·have:(decide (typeAt p a i=1)||decide (typeAt p a i=2))=true:=by simpa using h2
    rw[this,be (by decide)];by_cases k1:(a.ae.getD i default).kind=1
    ·rw[am k1,am k1];exact fun up W hc=>hc.want lit _ h2
    rw[be k1,be k1];by_cases k2:(a.ae.getD i default).kind=2
    ·rw[am k2,am k2];refine fun up W hc=>hc.val lit h2 ?_ Iff.rfl;have:=ok k2;omega
    ·rw[be k2,be k2];exact yA.nil B
   ·have:(decide (typeAt p a i=1)||decide (typeAt p a i=2))=false:=by simpa using h2
    rw[this,am Z];have a0: ∀(C:AK) (k:Ask),k.type=typeAt p a i->C.ask k=C:=fun C k hk=>by unfold AK.ask;rw[be (by rw[hk];exact h2)]
    split
    ·intro up W hc;unfold AK.want;rw[a0 _ _ Z,XE];exact hc.item _
    split
    ·rw[a0 _ _ Z];exact yA.nil B
    ·exact yA.nil B
  ·rw[be h1,decide_eq_false h1,Yi,am Z];exact yA.nil B
theorem Bx{e:Expr}(ok:zn e)(h: ¬e.kind=1):bX e=lq e∧(lq e=1∨lq e=2):=by
 rw[sE]at ok;unfold bX lq;by_cases k2:e.kind=2
 ·rw[am k2,am k2];exact⟨rfl,by omega⟩
 ·rw[be k2,be k2];have:e.kind=4:=by omega
  rw[am this];exact⟨rfl, .inl Z⟩
theorem r7{e:Expr}(h:e.kind=1):bX e=0:=by
 unfold bX;rw[be (by omega),be (by omega)]
theorem Ie{A:AK}{i:Nat}{u v:aL}(h:A.items[i]? =some v):(A.item u).items[i]? =some v:=by
 unfold AK.item;split
 ·exact h
 ·show(_++_)[i]? =_;rcases WX.1 h with⟨g,_⟩;rw[Xf g];exact h
theorem Au{r:aq}{lit w:Int}{t:TS}{A:AK}{a b:Expr}(oa:zn a)(ob:zn b)(h:yB t A):yB (if b.kind=1 then fJ r lit w t b a else fJ r lit w t a b) (kU r lit w a b A):=by
 unfold fJ kU;by_cases kb:b.kind=1
 ·rw[am kb,r7 kb];by_cases ka:a.kind=1
  ·rw[am ka,r7 ka,am Z,am Z];obtain⟨ok,W,h1,h2⟩:=h;obtain⟨i,i1,i2⟩:=E9 A (bh r a.var w);obtain⟨j,j1,j2⟩:=E9 (A.item (bh r a.var w)) (bh r b.var w);have hc:=(h2.item (bh r a.var w)).item (bh r b.var w);rw[i1,j1];refine⟨Jc ok _ _,W,by rw[Jb];exact h1,hc.tie ok (x:=i) (y:=j) ?_ j2 (.inr ⟨rfl,rfl⟩)⟩;exact Ie i2
  ·obtain⟨g1,g2⟩:=Bx oa ka;have g0: ¬lq a=0:=by omega
   rw[be ka,g1,be g0,am Z,am kb];exact h.add fun up W hc=>hc.want lit _ g2
 ·rw[be kb];obtain⟨g1,g2⟩:=Bx ob kb;have g0: ¬lq b=0:=by omega
  rw[be kb,g1];by_cases ka:a.kind=1
  ·rw[am ka,r7 ka,am Z,be g0];exact h.add fun up W hc=>hc.want lit _ g2
  ·obtain⟨k1,k2⟩:=Bx oa ka;have k0: ¬lq a=0:=by omega
   rw[be ka,k1,be k0,be g0];have e2:(if a.kind=2 then[⟨lit,aL.z,lq b,a.val.kind⟩] else[⟨lit,aL.z,lq b,1⟩]:List Want)=[⟨lit,aL.z,lq b,lq a⟩]:=by
    have e0:lq a=if a.kind=2 then a.val.kind else 1:=rfl;rw[e0];split<;>rfl
   rw[e2];exact h.add fun up W hc=>hc.val lit k2 (by omega) ⟨fun e=>e.symm,fun e=>e.symm⟩
def HV(l:Lit):Prop:=((l.kind=1∨l.kind=2)->Tb l.atom)∧(l.kind=3->zn l.left∧zn l.right)
theorem Gn{p:Prog}{r:aq}{lit w:Int}{t:TS}{A:AK}{l:Lit}(ok:HV l)(h:yB t A):yB (pf p r lit w t l) (kX p r lit w l A):=by
 unfold pf kX;split
 ·rename_i k;exact h.add (yn p r l.atom lit w (ok.1 k) A _ (W0 _))
 split
 ·rename_i k;obtain⟨o1,o2⟩:=ok.2 k;split
  ·unfold jc;exact Au o1 o2 ((h.add (Br r lit w l.left o1 A)).add (Br r lit w l.right o2 _))
  ·exact(h.add (oB r lit w _ l.left (W0 _) o1 A)).add (oB r lit w _ l.right (W0 _) o2 _)
 ·exact h
theorem Kz{p:Prog}{r:aq}{i:Int}{t:TS}{A:AK}{ls:List Lit}(ok: ∀k,k<ls.length->HV (ls.getD k default))(h:yB t A): ∀k,k<=ls.length->yB (rM p r i t ls k) (El p r i A ls k)
 |0,_=>h
 |k+1,hk=>Gn (ok k hk) (Kz ok h k (by omega))
theorem AD(v:aj):zn (iQ v):=by rw[sE];exact .inl Z
theorem Kx(r:aq)(i w:Int)(v:aj):iJ r i w (iQ v)=[]:=rfl
theorem Mf{r:aq}{i f:Int}{v:aj}{o:Expr}{t:TS}{A:AK}(ok: ¬f=1->zn o)(h:yB t A):yB (vT r i t f v o) (ux r i f v o A):=by
 unfold vT ux;by_cases f1:f=1
 ·rw[be (by omega),am f1,am f1];exact h.add (oB r i i _ _ (W0 _) (AD v) A)
 have ok:=ok f1;by_cases f2:f=2
 ·simp only[be f1,am f2];rw[TS.add_add];exact h.swap (xv r i i _ _ (W0 _)) (xv r i i _ _ (W0 _)) ((oB r i i _ _ (W0 _) (AD v) A).app (oB r i i _ _ (W0 _) ok _))
 ·simp only[be f1,be f2];unfold jc;rw[Kx,TS.add_nil];exact Au (AD v) ok (h.add (Br r i i o ok A))
def Ud(l:Lit):Prop:=HV l∧(l.kind=4->(¬l.dP=1->zn l.km)∧ ∀k,k<l.ar.length->HV (l.ar.getD k default))
theorem Jn{p:Prog}{r:aq}{i:Int}{t:TS}{A:AK}{l:Lit}(ok:Ud l)(h:yB t A):yB (stepT p r i t l) (rz p r i l A):=by
 unfold stepT rz;split
 ·rename_i k4;exact Kz (ok.2 k4).2 (Mf (ok.2 k4).1 h) _ (W0 _)
 ·exact Gn ok.1 h
theorem Uf:yB TS.o AK.o:=⟨ac,[],Sw.refl _,rfl,fun z hz=>(nomatch hz),fun i j u v hu=>by simp[AK.o]at hu,fun q hq=>(nomatch hq), .nil⟩
theorem DX{p:Prog}{r:aq}(oh:Tb r.head)(ok: ∀k,k<r.body.length->Ud (r.body.getD k default)): ∀k,k<=r.body.length->yB (eY p r k) (kZ p r k)
 |0,_=>Uf.add (yn p r r.head _ _ oh _ _ (W0 _))
 |k+1,hk=>Jn (ok k hk) (DX oh ok k (by omega))
end Go.Proofs.YtflegjieadkonaaGreatDoor
namespace Go.Proofs.YtflegjieadkonaaGreatDoor
open Go Go.Al
def mK(lit:Int)(A B:AK):Prop:= ∃m,B.l=A.l++m∧ ∀k∈m,k.place=lit
theorem mK.refl(lit:Int)(A:AK):mK lit A A:=⟨[],by simp,fun k hk=>(nomatch hk)⟩
theorem mK.trans{lit:Int}{A B C:AK}(h:mK lit A B)(g:mK lit B C):mK lit A C:=by
 obtain⟨m,h1,h2⟩:=h;obtain⟨n,g1,g2⟩:=g;exact⟨m++n,by rw[g1,h1,Xa],fun k hk=>(W7.1 hk).elim (h2 k) (g2 k)⟩
theorem xJ(lit:Int)(A:AK)(u:aL):mK lit A (A.item u):=by
 unfold AK.item;split
 ·exact .refl _ _
 ·exact⟨[],by simp,fun k hk=>(nomatch hk)⟩
theorem wR{lit:Int}(A:AK){k:Ask}(h:k.place=lit):mK lit A (A.ask k):=by
 unfold AK.ask;split
 ·exact⟨[k],rfl,fun x hx=>by rw[W5.1 hx];exact h⟩
 ·exact .refl _ _
theorem ti(lit:Int)(A:AK)(u:aL)(t:Int):mK lit A (A.want lit u t):=(xJ lit A u).trans (wR _ Z)
theorem Nr(lit:Int)(A:AK)(x y:Int):mK lit A (A.tie x y):=⟨[],by simp[AK.tie],fun k hk=>(nomatch hk)⟩
theorem Ko(r:aq)(lit w:Int)(e:Expr)(A:AK):mK lit A (mb r lit w e A):=by
 unfold mb;split
 ·exact ti _ _ _ _
 split
 ·exact wR _ Z
 ·exact .refl _ _
theorem yr(r:aq)(lit w:Int): ∀(l:List Expr),(∀x∈l,∀A,mK lit A (gk r lit w x A))-> ∀A,mK lit A (l.foldl (fun A x=>gk r lit w x A) A)
 | [],_,A=> .refl _ _
 |e::s,h,A=>(h e Xd A).trans (yr r lit w s (fun x hx=>h x (W8 _ hx)) _)
theorem oC(r:aq)(lit w:Int): ∀(n:Nat) (e:Expr),e.size<=n-> ∀A,mK lit A (gk r lit w e A)
 |0,e,h=>by have:=e.size_pos;omega
 |n+1,e,h=>by
  intro A;rw[wz];refine(Ko r lit w e A).trans ?_;unfold ll;split
  ·refine yr r lit w _ (fun x hx=>?_) _;obtain⟨k,hk,rfl⟩:=Ye.1 hx;have h1:=Expr.aT e.args k hk;rw[WU,WY hk]at h1;have h1:(e.args[k]).size<=Expr.ax e.args:=h1;have:=e.size_eq;exact oC r lit w n _ (by omega)
  ·exact .refl _ _
theorem Bt(r:aq)(lit w:Int)(e:Expr)(A:AK):mK lit A (ll r lit w e A):=by
 unfold ll;split
 ·exact yr r lit w _ (fun x _=>oC r lit w _ x (W0 _)) _
 ·exact .refl _ _
theorem IH(p:Prog)(r:aq)(a:Atom)(lit w:Int)(i:Nat)(A:AK):mK lit A (jJ p r a lit w i A):=by
 unfold jJ;split
 ·split
  ·exact ti _ _ _ _
  split
  ·exact wR _ Z
  ·exact .refl _ _
 ·exact .refl _ _
theorem yo(p:Prog)(r:aq)(a:Atom)(lit w:Int)(A:AK): ∀i,mK lit A (fA p r a lit w A i)
 |0=> .refl _ _
 |i+1=>(yo p r a lit w A i).trans (IH _ _ _ _ _ _ _)
theorem Aw(r:aq)(lit w:Int)(x y:Expr)(A:AK):mK lit A (kU r lit w x y A):=by
 unfold kU;split
 ·split
  ·exact((xJ _ _ _).trans (xJ _ _ _)).trans (Nr _ _ _ _)
  ·exact ti _ _ _ _
 split
 ·exact ti _ _ _ _
 ·exact wR _ Z
theorem Gq(p:Prog)(r:aq)(lit w:Int)(l:Lit)(A:AK):mK lit A (kX p r lit w l A):=by
 unfold kX;split
 ·exact yo _ _ _ _ _ _ _
 split
 ·split
  ·exact((Bt _ _ _ _ _).trans (Bt _ _ _ _ _)).trans (Aw _ _ _ _ _ _)
  ·exact(oC _ _ _ _ _ (W0 _) _).trans (oC _ _ _ _ _ (W0 _) _)
 ·exact .refl _ _
theorem KA(p:Prog)(r:aq)(i:Int)(A:AK)(ls:List Lit): ∀k,mK i A (El p r i A ls k)
 |0=> .refl _ _
 |k+1=>(KA p r i A ls k).trans (Gq _ _ _ _ _ _)
theorem Mg(r:aq)(i f:Int)(v:aj)(o:Expr)(A:AK):mK i A (ux r i f v o A):=by
 unfold ux;split
 ·exact oC _ _ _ _ _ (W0 _) _
 split
 ·exact(oC _ _ _ _ _ (W0 _) _).trans (oC _ _ _ _ _ (W0 _) _)
 ·exact(Bt _ _ _ _ _).trans (Aw _ _ _ _ _ _)
theorem Jp(p:Prog)(r:aq)(i:Int)(l:Lit)(A:AK):mK i A (rz p r i l A):=by
 unfold rz;split
 ·exact(Mg _ _ _ _ _ _).trans (KA _ _ _ _ _ _)
 ·exact Gq _ _ _ _ _ _
theorem JT{l:List Ask}{i:Int}(h: ∀a∈l,a.place=i):l.Pairwise fun a b=>a.place<=b.place:=by
 induction l with
 |nil=>exact .nil
 |cons a r ih=>
  refine .cons (fun b hb=>?_) (ih fun b hb=>h b (W8 _ hb));rw[h a Xd,h b (W8 _ hb)];exact YU _
theorem mW(p:Prog)(r:aq): ∀k:Nat,((kZ p r k).l.Pairwise fun a b=>a.place<=b.place)∧ ∀a∈(kZ p r k).l, -1<=a.place∧a.place<k
 |0=>by
  obtain⟨m,h1,h2⟩:=yo p r r.head (-1) (-1) AK.o r.head.ae.length;have h1:(kZ p r 0).l=m:=by show(fA _ _ _ _ _ _ _).l=m;rw[h1];rfl
  rw[h1];exact⟨JT h2,fun a ha=>by rw[h2 a ha];omega⟩
 |k+1=>by
  obtain⟨i1,i2⟩:=mW p r k;obtain⟨m,h1,h2⟩:=Jp p r k (r.body.getD k default) (kZ p r k);have h1:(kZ p r (k+1)).l=(kZ p r k).l++m:=h1;rw[h1];refine⟨Y2.2 ⟨i1,JT h2,fun a ha b hb=>?_⟩,fun a ha=>?_⟩
  ·have:=i2 a ha;rw[h2 b hb];omega
  ·rcases W7.1 ha with g|g
   ·have:=i2 a g;omega
   ·rw[h2 a g];omega
def AK.kind(A:AK)(i:Int):Int:=((A.l.find? fun k=>decide (k.item>=0)&&decide (A.rt k.item=A.rt i)).map Ask.type).getD 0
theorem OH{up:UM}{W:List Want}{A:AK}(h:yT up W A){i:Nat}{u:aL}(hi:A.items[i]? =some u):A.kind i=(tY W fun s=>decide (aP up s=aP up u)).getD 0:=by
 unfold AK.kind tY;refine congrArg (fun o:Option Int=>o.getD 0) (F2.find ?_ ?_ h.ws)
 ·rintro k x ⟨_,⟨j,g1,g2,g3,_⟩|⟨g1,g2,_⟩⟩
  ·rw[g1,decide_eq_true (by omega:(j:Int)>=0),XV,g3,decide_eq_true Z,XV];exact decide_eq_decide.2 (h.cls j i _ _ g2 hi)
  ·rw[g1,decide_eq_false (by omega),decide_eq_false g2];rfl
 ·rintro k x ⟨_,⟨j,g1,g2,g3,g4,_⟩|⟨g1,g2,_⟩⟩ hp
  ·exact g4
  ·rw[g1]at hp;simp at hp
theorem OA{m:KM}{a c:aL}{v:Int}:bQ (.si .i64) (b6 (.si .i64) m a v) c 0=if a=c then v else bQ (.si .i64) m c 0:=by
 induction m with
 |nil=>simp only[b6,bQ]
 |cons x r ih=>
  obtain⟨y,b⟩:=x;simp only[b6];by_cases h:y=a
  ·rw[am h];simp only[bQ];by_cases h2:a=c
   ·simp[h2]
   ·have: ¬y=c:=fun e=>h2 (h▸e)
    rw[be h2,be h2,be this]
  ·rw[be h];simp only[bQ,ih];by_cases h2:y=c
   ·have: ¬a=c:=fun e=>h (h2.trans e.symm)
    rw[am h2,be this,am h2]
   ·rw[be h2,be h2]
theorem zH(up:UM)(c:aL): ∀(ws:List Want) (m:KM),(∀x∈ws,x.has=0-> ¬x.kind=0)->bQ (.si .i64) (ws.foldl (cE up) m) c 0=if bQ (.si .i64) m c 0=0 then(tY ws fun s=>decide (aP up s=c)).getD 0 else bQ (.si .i64) m c 0
 | [],m,_=>by
  show bQ (.si .i64) m c 0=if bQ (.si .i64) m c 0=0 then 0 else _;split<;>first|assumption|rfl
 |x::s,m,h=>by
  have hx:=h x Xd;rw[Xq,zH up c s _ fun y hy=>h y (W8 _ hy)];unfold tY;rw[Yq];unfold cE;by_cases g:x.has=0∧bQ (.si .i64) m (aP up x.at_) 0=0
  ·obtain⟨g1,g2⟩:=g;rw[am (show x.has=0∧bQ (.si .i64) m (aP up x.at_) 0=0 from⟨g1,g2⟩),OA,decide_eq_true g1,XV];by_cases e:aP up x.at_=c
   ·rw[am e,be (hx g1),show(fun s=>decide (aP up s=c)) x.at_=true from decide_eq_true e,am (e▸g2)];rfl
   ·rw[be e,show(fun s=>decide (aP up s=c)) x.at_=false from decide_eq_false e]
  ·rw[be g];by_cases k:bQ (.si .i64) m c 0=0
   ·rw[am k,am k];have:(decide (x.has=0)&&decide (aP up x.at_=c))=false:=by
     cases hd:decide (x.has=0) with
     |false=>rfl
     |true=>
      rw[XV,decide_eq_false];intro e;exact g ⟨zT hd,e▸k⟩
    rw[this]
   ·rw[be k,be k]
abbrev Bl(t:TS):TS:=⟨t.up,t.ws,t.ws.foldl (cE t.up) []⟩
theorem Ks{t:TS}{W:List Want}{A:AK}(h1:Sw t.ws W)(h:yT t.up W A)(u:aL):bQ (.si .i64) (Bl t).kind (aP t.up u) 0=(tY W fun s=>decide (aP t.up s=aP t.up u)).getD 0:=by
 show bQ (.si .i64) (t.ws.foldl (cE t.up) []) (aP t.up u) 0=_;rw[zH,<-h1.1]
 ·exact am Z
 ·intro x hx h0;obtain⟨k,_,_,⟨j,_,_,_,_,g⟩|⟨_,g,_⟩⟩:=h.ws.Ui x ((h1.2 x).1 hx)
  ·omega
  ·exact absurd h0 g
theorem yB.item{t:TS}{A:AK}(h:yB t A)(u:aL):yB t (A.item u):=by
 obtain⟨ok,W,h1,h2⟩:=h;exact⟨ok,W,h1,h2.item u⟩
def AK.bad(A:AK)(k:Ask):Bool:=!decide ((if k.item>=0 then A.kind k.item else k.pW)=k.type)
def iR(r:aq)(A:AK):aZ:=match A.l.find? A.bad with
 |some k=>(63,fh r k.place)
 |none=>aZ.z
theorem LK{t:TS}{W:List Want}{A:AK}(h1:Sw t.ws W)(h:yT t.up W A){k:Ask}{x:Want}(hk:CK A.items k x):A.bad k=!decide (tj (Bl t) x=x.kind):=by
 unfold AK.bad tj;obtain⟨_,⟨j,g1,g2,g3,g4,_⟩|⟨g1,g2,g3⟩⟩:=hk
 ·rw[g1,am (by omega),am g3,g4,Ks h1 h,OH h g2]
 ·rw[be (by omega),be g2];exact congrArg _ (decide_eq_decide.2 g3)
theorem uu{t:TS}{A:AK}(h:yB t A)(lit:Int):nf (Bl t) lit=true↔ ∃k∈A.l,k.place=lit∧A.bad k=true:=by
 obtain⟨_,W,h1,h2⟩:=h;unfold nf;rw[XM];constructor
 ·rintro⟨x,hx,hb⟩;obtain⟨k,hk,hc⟩:=h2.ws.Ui x ((h1.2 x).1 hx);unfold ru at hb;rw[Xg,decide_eq_true_iff]at hb;exact⟨k,hk,hc.1.trans hb.1,by rw[LK h1 h2 hc];exact hb.2⟩
 ·rintro⟨k,hk,hp,hb⟩;obtain⟨x,hx,hc⟩:=h2.ws.mem k hk;refine⟨x,(h1.2 x).2 hx,?_⟩;unfold ru;rw[Xg,decide_eq_true_iff];exact⟨hc.1.symm.trans hp,by rw[<-LK h1 h2 hc];exact hb⟩
theorem Ox{r:aq}{e:Int}{f:Int->Bool}{k:aZ}(h: ∀lit,f lit=false):bB r e f k=k:=by
 rw[bB,vc,fV];exact XO.2 fun x _=>by rw[h x];decide
theorem Hk{r:aq}{t:TS}{A:AK}(h:yB t A)(h1:A.l.Pairwise fun a b=>a.place<=b.place)(h2: ∀a∈A.l, -1<=a.place∧a.place<r.body.length):iR r A=bB r 63 (nf (Bl t)) aZ.z:=by
 unfold iR;cases hf:A.l.find? A.bad with
 |none=>
  rw[Ox];intro lit;rw[<-Yv,uu h];rintro⟨k,hk,_,hb⟩;rw[Yg]at hf;exact hf k hk hb
 |some k=>
  obtain⟨hb,l1,l2,he,has⟩:=List.find?_eq_some_iff_append.1 hf;have hk:k∈A.l:=YV hf;have hr:=h2 k hk;obtain⟨n,hn⟩: ∃n:Nat,k.place=(n:Int)-1:=⟨(k.place+1).toNat,by omega⟩
  have b0: ∀y∈A.l,A.bad y=true->k.place<=y.place:=fun y hy a0=>by
   rw[he]at hy h1;rcases W7.1 hy with g|g
   ·have:=has y g;rw[a0]at this;cases this
   ·rcases Xb.1 g with e|e
    ·rw[e];exact YU _
    ·exact(Yo.1 (Y2.1 h1).2.1).1 y e
  show(63,fh r k.place)=_;rw[hn,l5 (i:=n) ?_ (by omega) ?_]
  ·refine XO.2 fun x hx=>?_
   rw[uu h];rintro⟨y,hy,hp,a0⟩;have:=b0 y hy a0;obtain⟨j,hj⟩:=List.mem_iff_getElem?.1 hx;have c0:j<n:=by
    rcases WX.1 hj with⟨g,_⟩;rw[XH]at g;omega
   rw[XY,am c0]at hj;have hg:=qS r.body.length j (by omega);rw[WU,hj]at hg;have hg:x=(j:Int)-1:=hg;omega
  ·rw[uu h];exact⟨k,hk,hn,hb⟩
theorem I5{p:Prog}{r:aq}(oh:Tb r.head)(ok: ∀k,k<r.body.length->Ud (r.body.getD k default)):iR r (mX p r)=bB r 63 (nf (ov p r)) aZ.z:=
 Hk (t:=eY p r r.body.length) (DX oh ok _ (W0 _)) (mW p r _).1 (mW p r _).2
theorem D7{a:Atom}(h:(eZ a).2=false):Tb a:=by
 have hn: ∀i,i<=a.ae.length->(eC a i).2=false-> ∀k,k<i->J4 (a.ae.getD k default):=by
  intro i
  induction i with
  |zero=>intro _ _ k hk;omega
  |succ i ih=>
   intro hi hb k hk;have hb:((eC a i).2||(oX (a.ae.getD i default)).2)=false:=hb;rw[XL]at hb;rcases Y1.1 hk with g|g
   ·exact ih (by omega) hb.1 k g
   ·subst g;intro k2;have h2:=hb.2;unfold oX eS at h2;rw[be (by omega),be (by omega)]at h2;simp only[XL]at h2;exact vi (by simpa using h2.1.1)
 exact fun i hi=>hn a.ae.length (W0 _) h i hi
theorem C5{f:Lit->nC}{l:List Lit}: ∀i,(cx f l i).2=false-> ∀k,k<i->(f (l.getD k default)).2=false
 |0,_,k,hk=>by omega
 |i+1,h,k,hk=>by
  rw[cx]at h;split at h
  ·cases h
  rename_i h1;split at h
  ·cases h
  rename_i h2;rcases Y1.1 hk with g|g
  ·exact C5 i (by simpa using h1) k g
  ·subst g;simpa using h2
theorem Kk{f:Int->Lit->nC}{br:Int}{l:Lit}(h:(jz f br l).2=false):HV l:=by
 unfold jz at h;refine⟨fun k=>?_,fun k=>?_⟩
 ·rw[am k]at h;have h:((eZ l.atom).2||_)=false:=h;rw[XL]at h;exact D7 h.1
 ·rw[be (by omega),am k]at h;have h:((bE 17 l.left).2||((bE 17 l.right).2||_))=false:=h;rw[XL,XL]at h;exact⟨xX _ _ h.1,xX _ _ h.2.1⟩
theorem zy{n:Nat}{br:Int}{l:Lit}(h:(fj n br l).2=false):HV l:=by
 match n,h with
 |0,h=>cases h
 |n+1,h=>exact Kk h
theorem OD{l:Lit}(h:jA l=false):Ud l:=by
 rw[zA]at h;unfold o6 at h;refine⟨zy h,fun k4=>?_⟩;have hs:=l.size_pos;obtain⟨n,hn⟩: ∃n,l.size=n+1:=⟨l.size-1,by omega⟩
 rw[hn]at h;have h:(jz (fj n) 16 l).2=false:=h;unfold jz at h;rw[be (by omega),be (by omega),am k4]at h;have h:((oU (fj n (16-1)) l.agg 16).2||_)=false:=h;rw[XL]at h;have h:=h.1;unfold oU at h;split at h
 ·cases h
 have h:((HW l.agg).2||(cx (fj n (16-1)) l.agg.body l.agg.body.length).2)=false:=h;rw[XL]at h;refine⟨fun f1=>?_,fun k hk=>?_⟩
 ·have h:=h.1;unfold HW at h;rw[be (show¬l.agg.func=1 from f1)]at h;have h:(_||(bE 17 l.km).2)=false:=h;rw[XL]at h;exact xX _ _ h.2
 ·exact zy (C5 _ h.2 k hk)
end Go.Proofs.YtflegjieadkonaaGreatDoor
namespace Go.Proofs.YtflegjieadkonaaGreatDoor
open Go Go.Al
abbrev AK.cell(o:List aj)(a b c na nb nc:Nat):AO:= .cells [.sl a 0 na 2, .sl b 0 nb 1, .sl c 0 nc 4, .iv (strs o)]
abbrev AK.O(A:AK)(o:List aj):List AO:=[AK.cell o 1 2 3 A.items.length A.root.length A.l.length,aD 2 A.items aL.c,aD 1 A.root ba,aD 4 A.l Ask.c]
abbrev AK.K(A:AK)(o:List aj):AH:=[(0,some (AK.cell o 1 2 3 A.items.length A.root.length A.l.length)),(1,some (aD 2 A.items aL.c)),(2,some (aD 1 A.root ba)),(3,some (aD 4 A.l Ask.c))]
abbrev AK.H(A:AK)(o:List aj):AH:=[(0,some (AK.cell o 4 5 6 A.items.length A.root.length A.l.length)),(4,some (aD 2 A.items aL.c)),(5,some (aD 1 A.root ba)),(6,some (aD 4 A.l Ask.c))]
abbrev AK.st(A:AK)(o:List aj)(i n0:Nat)(X:AH):AH:=(i,some (AK.cell o n0 (n0+1) (n0+2) A.items.length A.root.length A.l.length))::(n0,some (aD 2 A.items aL.c))::(n0+1,some (aD 1 A.root ba))::(n0+2,some (aD 4 A.l Ask.c))::X
section
variable {P:Program} {nt:Nat} {Q:AQ} {k:List KI} {s:AS}
def kS(s:AS)(o:List aj)(A:AK)(i a b c:Nat):AS:=match s with|⟨f,h,n⟩=>⟨f,(i,some (AK.cell o n (n+1) (n+2) A.items.length A.root.length A.l.length))::(n,some (aD 2 A.items aL.c))::(n+1,some (aD 1 A.root ba))::(n+2,some (aD 4 A.l Ask.c))::(i,none)::(a,none)::(b,none)::(c,none)::h,n+3⟩
theorem Ur(s:AS)(o:List aj)(A:AK)(i a b c:Nat):kS s o A i a b c=⟨s.f,(i,some (AK.cell o s.nx (s.nx+1) (s.nx+2) A.items.length A.root.length A.l.length))::(s.nx,some (aD 2 A.items aL.c))::(s.nx+1,some (aD 1 A.root ba))::(s.nx+2,some (aD 4 A.l Ask.c))::(i,none)::(a,none)::(b,none)::(c,none)::s.h,s.nx+3⟩:=by cases s;rfl
theorem De{op:Oper}{cl:Call}{g:FuncId}{args al:List PV}{o:List aj}{A A':AK}{b0:PV}{i a b c na nb nc:Nat}{ea eb ec:List (List PV)}{s':AS}(hc:b8 P g (.ptr 0 0::args) (A.O o) b0 (A'.H o) 7)(ho:op.op= .call cl)(ha:bK s.f cl=some (g, .ptr i 0::al))
  (hi:s.h.get i=some (AK.cell o a b c na nb nc)) (h1:s.h.get a=some (.row 2 ea)) (h2:s.h.get b=some (.row 1 eb)) (h3:s.h.get c=some (.row 4 ec)) (n1:na=A.items.length) (n2:nb=A.root.length) (n3:nc=A.l.length)
  (e1:ea=A.items.map fun x=>(aL.c x).map .iv) (e2:eb=A.root.map fun x=>(ba x).map .iv) (e3:ec=A.l.map fun x=>(Ask.c x).map .iv)
  (hlt:[i,a,b,c].all (fun x=>Xi x s.nx)=true) (hnd:bN [i,a,b,c]=true) (has:al=args) (hlow:bs 0 args=true) (hr:b0.low 0=true)
  (hp:putDst nt op b0 (kS s o A' i a b c)=some s'):OT P nt op s (fun t=>t=s'):=by
 subst has;subst n1;subst n2;subst n3;subst e1;subst e2;subst e3;have a0: ∀σ,dS σ al=al:=fun σ=>iC σ al hlow;refine lv ho ha hc (dd hnd) (fun j hj=>WR (Xm.1 hlt j hj)) ?_ ?_ ?_
 ·simp only[Xe,XN,hi,h1,h2,h3,bC];rfl
 ·simp only[dS,a0];rfl
 ·rintro q h0 n0 ⟨rfl,rfl,rfl⟩;rw[PV.ju _ _ hr];rw[Ur]at hp;refine⟨s',?_,rfl⟩;rw[<-hp];simp only[AK.H,aM,sv,XW,bC];rfl
theorem VB{all rest:List Oper}{op:Oper}{cl:Call}{g:FuncId}{args al:List PV}{o:List aj}{A A':AK}{a0:PV}{i a b c na nb nc:Nat}{ea eb ec:List (List PV)}{s':AS}(hc:b8 P g (.ptr 0 0::args) (A.O o) a0 (A'.H o) 7)(ho:op.op= .call cl)(hg:op.guard=none)(ha:bK s.f cl=some (g, .ptr i 0::al))
  (hi:s.h.get i=some (AK.cell o a b c na nb nc)) (h1:s.h.get a=some (.row 2 ea)) (h2:s.h.get b=some (.row 1 eb)) (h3:s.h.get c=some (.row 4 ec)) (n1:na=A.items.length) (n2:nb=A.root.length) (n3:nc=A.l.length)
  (e1:ea=A.items.map fun x=>(aL.c x).map .iv) (e2:eb=A.root.map fun x=>(ba x).map .iv) (e3:ec=A.l.map fun x=>(Ask.c x).map .iv)
  (hlt:[i,a,b,c].all (fun x=>Xi x s.nx)=true) (hnd:bN [i,a,b,c]=true) (has:al=args) (hlow:bs 0 args=true) (hr:a0.low 0=true)
  (hp:putDst nt op a0 (kS s o A' i a b c)=some s') (h:GO P nt (.ops all rest::k) Q s'):GO P nt (.ops all (op::rest)::k) Q s:=
 ep hg (De hc ho ha hi h1 h2 h3 n1 n2 n3 e1 e2 e3 hlt hnd has hlow hr hp) fun t ht=>by subst ht;exact h
theorem rn{all rest:List Oper}{op:Oper}{cl:Call}{g:FuncId}{args al:List PV}{o:List aj}{A A':AK}{a0:PV}{i a b c na nb nc:Nat}{ea eb ec:List (List PV)}{s':AS}(hc:b8 P g (.ptr 0 0::args) (A.O o) a0 (A'.H o) 7)(h:GO P nt (.ops all rest::k) Q s')(ho:op.op= .call cl:=by exact rfl)(hg:op.guard=none:=by exact rfl)(ha:bK s.f cl=some (g, .ptr i 0::al):=by exact rfl)(hi:s.h.get i=some (AK.cell o a b c na nb nc):=by exact rfl)(h1:s.h.get a=some (.row 2 ea):=by exact rfl)(h2:s.h.get b=some (.row 1 eb):=by exact rfl)(h3:s.h.get c=some (.row 4 ec):=by exact rfl)(n1:na=A.items.length:=by first|rfl|(rw[WW];rfl)|simp)(n2:nb=A.root.length:=by first|rfl|(rw[WW];rfl)|simp)(n3:nc=A.l.length:=by first|rfl|(rw[WW];rfl)|simp)(e1:ea=A.items.map fun x=>(aL.c x).map .iv:=by first|rfl|(rw[WZ];rfl)|(simp only[WZ,Xa];rfl))(e2:eb=A.root.map fun x=>(ba x).map .iv:=by first|rfl|(rw[WZ];rfl)|(simp only[WZ,Xa];rfl))(e3:ec=A.l.map fun x=>(Ask.c x).map .iv:=by first|rfl|(rw[WZ];rfl)|(simp only[WZ,Xa];rfl))(hlt:[i,a,b,c].all (fun x=>Xi x s.nx)=true:=by exact rfl)(hnd:bN [i,a,b,c]=true:=by exact rfl)(has:al=args:=by exact rfl)(hlow:bs 0 args=true:=by exact rfl)(hr:a0.low 0=true:=by exact rfl)(hp:putDst nt op a0 (kS s o A' i a b c)=some s':=by exact rfl):GO P nt (.ops all (op::rest)::k) Q s:=VB (hc:=hc) (ho:=ho) (hg:=hg) (ha:=ha) (hi:=hi) (h1:=h1) (h2:=h2) (h3:=h3) (n1:=n1) (n2:=n2) (n3:=n3) (e1:=e1) (e2:=e2) (e3:=e3) (hlt:=hlt) (hnd:=hnd) (has:=has) (hlow:=hlow) (hr:=hr) (hp:=hp) (h:=h)
theorem Uz{ty:Ty}(b0:cz P ty){all:List Oper}{todo pend:List (Nat×Oper)}{j':Nat}{CA C2:Prop}{op:Oper}{cl:Call}{g:FuncId}{args al:List PV}{o:List aj}{A A':AK}{a0:PV}{i a b c na nb nc:Nat}{ea eb ec:List (List PV)}{s':AS}(hc:b8 P g (.ptr 0 0::args) (A.O o) a0 (A'.H o) 7)
  (hrd:ey todo=[(j',op)]) (ho:op.op= .call cl) (ha:bK s.f cl=some (g, .ptr i 0::al))
  (hi:s.h.get i=some (AK.cell o a b c na nb nc)) (h1:s.h.get a=some (.row 2 ea)) (h2:s.h.get b=some (.row 1 eb)) (h3:s.h.get c=some (.row 4 ec)) (n1:na=A.items.length) (n2:nb=A.root.length) (n3:nc=A.l.length)
  (e1:ea=A.items.map fun x=>(aL.c x).map .iv) (e2:eb=A.root.map fun x=>(ba x).map .iv) (e3:ec=A.l.map fun x=>(Ask.c x).map .iv)
  (hlt:[i,a,b,c].all (fun x=>Xi x s.nx)=true) (hnd:bN [i,a,b,c]=true) (has:al=args) (hlow:bs 0 args=true) (hr:a0.low 0=true)
  (hp:putDst nt op a0 (kS s o A' i a b c)=some s')
  (hg:cC nt all s.f op=some true) (hpb:iD all pend op=true) (hE:n8 todo [j']=true)
  (hag:qC ty nt all s todo pend=some CA) (hCA:CA) (hag2:dD ty nt all s' (bg pend op)=some C2) (hC2:C2)
  (h:GO P nt (.cJ all (todo.filter fun x=>!Xn x.1 j') (bg pend op)::k) Q s'):GO P nt (.cJ all todo pend::k) Q s:=
 xR b0 hrd hg hpb hE hag hCA (De hc ho ha hi h1 h2 h3 n1 n2 n3 e1 e2 e3 hlt hnd has hlow hr hp) hag2 hC2 h
theorem Im{all:List Oper}{todo pend:List (Nat×Oper)}{j':Nat}{CA C2:Prop}{op:Oper}{cl:Call}{g:FuncId}{args al:List PV}{o:List aj}{A A':AK}{a0:PV}{i a b c na nb nc:Nat}{ea eb ec:List (List PV)}{s':AS}(hc:b8 Tryz.prog g (.ptr 0 0::args) (A.O o) a0 (A'.H o) 7)(h:GO Tryz.prog nt (.cJ all (todo.filter fun x=>!Xn x.1 j') (bg pend op)::k) Q s')(hrd:ey todo=[(j',op)]:=by exact rfl)(ho:op.op= .call cl:=by exact rfl)(ha:bK s.f cl=some (g, .ptr i 0::al):=by exact rfl)(hi:s.h.get i=some (AK.cell o a b c na nb nc):=by exact rfl)(h1:s.h.get a=some (.row 2 ea):=by exact rfl)(h2:s.h.get b=some (.row 1 eb):=by exact rfl)(h3:s.h.get c=some (.row 4 ec):=by exact rfl)(n1:na=A.items.length:=by first|rfl|(rw[WW];rfl)|simp)(n2:nb=A.root.length:=by first|rfl|(rw[WW];rfl)|simp)(n3:nc=A.l.length:=by first|rfl|(rw[WW];rfl)|simp)(e1:ea=A.items.map fun x=>(aL.c x).map .iv:=by first|rfl|(rw[WZ];rfl)|(simp only[WZ,Xa];rfl))(e2:eb=A.root.map fun x=>(ba x).map .iv:=by first|rfl|(rw[WZ];rfl)|(simp only[WZ,Xa];rfl))(e3:ec=A.l.map fun x=>(Ask.c x).map .iv:=by first|rfl|(rw[WZ];rfl)|(simp only[WZ,Xa];rfl))(hlt:[i,a,b,c].all (fun x=>Xi x s.nx)=true:=by exact rfl)(hnd:bN [i,a,b,c]=true:=by exact rfl)(has:al=args:=by exact rfl)(hlow:bs 0 args=true:=by exact rfl)(hr:a0.low 0=true:=by exact rfl)(hp:putDst nt op a0 (kS s o A' i a b c)=some s':=by exact rfl)(hg:cC nt all s.f op=some true:=by exact rfl)(hpb:iD all pend op=true:=by exact rfl)(hE:n8 todo [j']=true:=by exact rfl)(hag:qC pn nt all s todo pend=some CA:=by exact rfl)(hCA:CA:=by(repeat' (first|exact ac|exact rfl|exact aH.refl _|exact aH.bk (by assumption)|apply XA))<;>first|omega|(simp only[Xp];omega)|(simp;done)|(simp;omega))(hag2:dD pn nt all s' (bg pend op)=some C2:=by exact rfl)(hC2:C2:=by(repeat' (first|exact ac|exact rfl|exact aH.refl _|exact aH.bk (by assumption)|apply XA))<;>first|omega|(simp only[Xp];omega)|(simp;done)|(simp;omega)):GO Tryz.prog nt (.cJ all todo pend::k) Q s:=Uz ab (hc:=hc) (hrd:=hrd) (ho:=ho) (ha:=ha) (hi:=hi) (h1:=h1) (h2:=h2) (h3:=h3) (n1:=n1) (n2:=n2) (n3:=n3) (e1:=e1) (e2:=e2) (e3:=e3) (hlt:=hlt) (hnd:=hnd) (has:=has) (hlow:=hlow) (hr:=hr) (hp:=hp) (hg:=hg) (hpb:=hpb) (hE:=hE) (hag:=hag) (hCA:=hCA) (hag2:=hag2) (hC2:=hC2) (h:=h)
theorem UE{ty:TypeId->Option cI}{l:List ResultVar}{r0:PV}{e:Exit}{o:List aj}{A:AK}{a0:PV}{a b c na nb nc:Nat}{ea eb ec:List (List PV)}(he:e= .normal∨e= .ret)(hr:lS ty s l=some r0)(hi:s.h.get 0=some (AK.cell o a b c na nb nc))(h1:s.h.get a=some (.row 2 ea))(h2:s.h.get b=some (.row 1 eb))(h3:s.h.get c=some (.row 4 ec))
  (n1:na=A.items.length) (n2:nb=A.root.length) (n3:nc=A.l.length)
  (e1:ea=A.items.map fun x=>(aL.c x).map .iv) (e2:eb=A.root.map fun x=>(ba x).map .iv) (e3:ec=A.l.map fun x=>(Ask.c x).map .iv)
  (hlt:[a,b,c].all (fun x=>Xi x s.nx)=true) (hnd:bN [0,a,b,c]=true) (hns:YQ 4 s.nx=true) (hrl:aH r0 a0) (hlow:a0.low 0=true) (hlow7:a0.low 7=true):Ei ty l 4 a0 (A.H o) 7 e s:=by
 subst n1;subst n2;subst n3;subst e1;subst e2;subst e3;refine aC [a,b,c] he hr ⟨rfl,WR hns,fun x hx=>WR (Xm.1 hlt x hx),⟨?_,hlow7,ac⟩,⟨⟨_,hi, .of_eq Z⟩,WR Z,rfl,⟨_,h1, .of_eq (bC _).symm⟩,WR Z,cL _,⟨_,h2, .of_eq (bC _).symm⟩,WR Z,cL _,⟨_,h3, .of_eq (bC _).symm⟩,WR Z,cL _,ac⟩,dd hnd⟩;rw[PV.ju _ _ hlow];exact hrl
theorem uq{ty:TypeId->Option cI}{l:List ResultVar}{r0:PV}{e:Exit}{o:List aj}{A:AK}{a0:PV}{a b c na nb nc:Nat}{ea eb ec:List (List PV)}(he:e= .normal∨e= .ret:=by first|exact .inr Z|exact .inl Z)(hr:lS ty s l=some r0:=by exact rfl)(hi:s.h.get 0=some (AK.cell o a b c na nb nc):=by exact rfl)(h1:s.h.get a=some (.row 2 ea):=by exact rfl)(h2:s.h.get b=some (.row 1 eb):=by exact rfl)(h3:s.h.get c=some (.row 4 ec):=by exact rfl)(n1:na=A.items.length:=by first|rfl|(rw[WW];rfl)|simp)(n2:nb=A.root.length:=by first|rfl|(rw[WW];rfl)|simp)(n3:nc=A.l.length:=by first|rfl|(rw[WW];rfl)|simp)(e1:ea=A.items.map fun x=>(aL.c x).map .iv:=by first|rfl|(rw[WZ];rfl)|(simp only[WZ,Xa];rfl))(e2:eb=A.root.map fun x=>(ba x).map .iv:=by first|rfl|(rw[WZ];rfl)|(simp only[WZ,Xa];rfl))(e3:ec=A.l.map fun x=>(Ask.c x).map .iv:=by first|rfl|(rw[WZ];rfl)|(simp only[WZ,Xa];rfl))(hlt:[a,b,c].all (fun x=>Xi x s.nx)=true:=by exact rfl)(hnd:bN [0,a,b,c]=true:=by exact rfl)(hns:YQ 4 s.nx=true:=by exact rfl)(hrl:aH r0 a0:=by exact .refl _)(hlow:a0.low 0=true:=by exact rfl)(hlow7:a0.low 7=true:=by exact rfl):Ei ty l 4 a0 (A.H o) 7 e s:=UE (he:=he) (hr:=hr) (hi:=hi) (h1:=h1) (h2:=h2) (h3:=h3) (n1:=n1) (n2:=n2) (n3:=n3) (e1:=e1) (e2:=e2) (e3:=e3) (hlt:=hlt) (hnd:=hnd) (hns:=hns) (hrl:=hrl) (hlow:=hlow) (hlow7:=hlow7)
theorem L9{n0 i a b c na nb nc:Nat}{ea eb ec:List (List PV)}{tf:AF}{o:List aj}{A A':AK}(hw:A=A')(hi:s.h.get i=some (AK.cell o a b c na nb nc))(h1:s.h.get a=some (.row 2 ea))(h2:s.h.get b=some (.row 1 eb))(h3:s.h.get c=some (.row 4 ec))
  (n1:na=A.items.length) (n2:nb=A.root.length) (n3:nc=A.l.length)
  (e1:ea=A.items.map fun x=>(aL.c x).map .iv) (e2:eb=A.root.map fun x=>(ba x).map .iv) (e3:ec=A.l.map fun x=>(Ask.c x).map .iv)
  (hlt:[a,b,c].all (fun x=>Xi x s.nx)=true) (hnd:bN [i,a,b,c]=true) (h0:Xi i n0=true) (hns:YQ n0 s.nx=true) (hf:FI (n0+3) (sg n0 [a,b,c]) s.f tf):
  Wk n0 [a,b,c] s ⟨tf,[(i,some (AK.cell o n0 (n0+1) (n0+2) A'.items.length A'.root.length A'.l.length)),(n0,some (aD 2 A'.items aL.c)),(n0+1,some (aD 1 A'.root ba)),(n0+2,some (aD 4 A'.l Ask.c))],n0+3⟩:=by
 subst hw;subst n1;subst n2;subst n3;subst e1;subst e2;subst e3;have a0:i<n0:=WR h0;have s0:sg n0 [a,b,c] i=i:=gh a0;have bt: ∀m,Xi (n0+m) n0=false:=fun m=>X7.2 fun e=>absurd (WR e) (by omega);have s1:sg n0 [a,b,c] n0=a:=by have:=bt 0;simp only[Y8]at this;simp[sg,this]
 have s2:sg n0 [a,b,c] (n0+1)=b:=by simp[sg,bt]
 have s3:sg n0 [a,b,c] (n0+2)=c:=by simp[sg,bt]
 have c0:Xi n0 (n0+3)=true:=XB (by omega);have c1:Xi (n0+1) (n0+3)=true:=XB (by omega);have c2:Xi (n0+2) (n0+3)=true:=XB (by omega);refine⟨rfl,WR hns,fun x hx=>WR (Xm.1 hlt x hx),hf,⟨⟨_,by rw[s0];exact hi,?_⟩,by show i<n0+3;omega,?_,⟨_,by rw[s1];exact h1, .of_eq (bC _).symm⟩,by show n0<n0+3;omega,cL _,⟨_,by rw[s2];exact h2, .of_eq (bC _).symm⟩,by show n0+1<n0+3;omega,cL _,⟨_,by rw[s3];exact h3, .of_eq (bC _).symm⟩,by show n0+2<n0+3;omega,cL _,ac⟩,?_⟩
 ·simp only[AO.c7,dS,PV.c7,s1,s2,s3];exact .of_eq Z
 ·simp[AO.low,bs,PV.low,c0,c1,c2]
 ·simp only[ef,s0,s1,s2,s3];exact dd hnd
theorem Rj{X:AH}{n0 i a b c na nb nc:Nat}{ea eb ec:List (List PV)}{tf:AF}{o:List aj}{A A':AK}(hw:A=A')(hi:s.h.get i=some (AK.cell o a b c na nb nc))(h1:s.h.get a=some (.row 2 ea))(h2:s.h.get b=some (.row 1 eb))(h3:s.h.get c=some (.row 4 ec))
  (n1:na=A.items.length) (n2:nb=A.root.length) (n3:nc=A.l.length)
  (e1:ea=A.items.map fun x=>(aL.c x).map .iv) (e2:eb=A.root.map fun x=>(ba x).map .iv) (e3:ec=A.l.map fun x=>(Ask.c x).map .iv)
  (hlt:[a,b,c].all (fun x=>Xi x s.nx)=true) (hnd:bN [i,a,b,c]=true) (h0:Xi i n0=true) (hns:YQ n0 s.nx=true) (hf:FI (n0+3) (sg n0 [a,b,c]) s.f tf) (hX:rr (n0+3) (sg n0 [a,b,c]) s.h X)
  (hin:bN (ef (sg n0 [a,b,c]) ((i,some (AK.cell o n0 (n0+1) (n0+2) A'.items.length A'.root.length A'.l.length))::(n0,some (aD 2 A'.items aL.c))::(n0+1,some (aD 1 A'.root ba))::(n0+2,some (aD 4 A'.l Ask.c))::X))=true):
  Wk n0 [a,b,c] s ⟨tf,(i,some (AK.cell o n0 (n0+1) (n0+2) A'.items.length A'.root.length A'.l.length))::(n0,some (aD 2 A'.items aL.c))::(n0+1,some (aD 1 A'.root ba))::(n0+2,some (aD 4 A'.l Ask.c))::X,n0+3⟩:=by
 subst hw;subst n1;subst n2;subst n3;subst e1;subst e2;subst e3;have a0:i<n0:=WR h0;have s0:sg n0 [a,b,c] i=i:=gh a0;have bt: ∀m,Xi (n0+m) n0=false:=fun m=>X7.2 fun e=>absurd (WR e) (by omega);have s1:sg n0 [a,b,c] n0=a:=by have:=bt 0;simp only[Y8]at this;simp[sg,this]
 have s2:sg n0 [a,b,c] (n0+1)=b:=by simp[sg,bt]
 have s3:sg n0 [a,b,c] (n0+2)=c:=by simp[sg,bt]
 have c0:Xi n0 (n0+3)=true:=XB (by omega);have c1:Xi (n0+1) (n0+3)=true:=XB (by omega);have c2:Xi (n0+2) (n0+3)=true:=XB (by omega);refine⟨rfl,WR hns,fun x hx=>WR (Xm.1 hlt x hx),hf,⟨⟨_,by rw[s0];exact hi,?_⟩,by show i<n0+3;omega,?_,⟨_,by rw[s1];exact h1, .of_eq (bC _).symm⟩,by show n0<n0+3;omega,cL _,⟨_,by rw[s2];exact h2, .of_eq (bC _).symm⟩,by show n0+1<n0+3;omega,cL _,⟨_,by rw[s3];exact h3, .of_eq (bC _).symm⟩,by show n0+2<n0+3;omega,cL _,hX⟩,dd hin⟩
 ·simp only[AO.c7,dS,PV.c7,s1,s2,s3];exact .of_eq Z
 ·simp[AO.low,bs,PV.low,c0,c1,c2]
theorem Az{X:AH}{n0 i a b c na nb nc:Nat}{ea eb ec:List (List PV)}{tf:AF}{o:List aj}{A A':AK}(hw:A=A')(hX:rr (n0+3) (sg n0 [a,b,c]) s.h X)(hi:s.h.get i=some (AK.cell o a b c na nb nc):=by exact rfl)(h1:s.h.get a=some (.row 2 ea):=by exact rfl)(h2:s.h.get b=some (.row 1 eb):=by exact rfl)(h3:s.h.get c=some (.row 4 ec):=by exact rfl)(n1:na=A.items.length:=by first|rfl|(rw[WW];rfl)|simp)(n2:nb=A.root.length:=by first|rfl|(rw[WW];rfl)|simp)(n3:nc=A.l.length:=by first|rfl|(rw[WW];rfl)|simp)(e1:ea=A.items.map fun x=>(aL.c x).map .iv:=by first|rfl|(rw[WZ];rfl)|(simp only[WZ,Xa];rfl))(e2:eb=A.root.map fun x=>(ba x).map .iv:=by first|rfl|(rw[WZ];rfl)|(simp only[WZ,Xa];rfl))(e3:ec=A.l.map fun x=>(Ask.c x).map .iv:=by first|rfl|(rw[WZ];rfl)|(simp only[WZ,Xa];rfl))(hlt:[a,b,c].all (fun x=>Xi x s.nx)=true:=by exact rfl)(hnd:bN [i,a,b,c]=true:=by exact rfl)(h0:Xi i n0=true:=by exact rfl)(hns:YQ n0 s.nx=true:=by exact rfl)(hf:FI (n0+3) (sg n0 [a,b,c]) s.f tf:=by repeat' (first|exact ac|exact aH.refl _|exact rfl|apply XA))(hin:bN (ef (sg n0 [a,b,c]) ((i,some (AK.cell o n0 (n0+1) (n0+2) A'.items.length A'.root.length A'.l.length))::(n0,some (aD 2 A'.items aL.c))::(n0+1,some (aD 1 A'.root ba))::(n0+2,some (aD 4 A'.l Ask.c))::X))=true:=by exact rfl):Wk n0 [a,b,c] s ⟨tf,(i,some (AK.cell o n0 (n0+1) (n0+2) A'.items.length A'.root.length A'.l.length))::(n0,some (aD 2 A'.items aL.c))::(n0+1,some (aD 1 A'.root ba))::(n0+2,some (aD 4 A'.l Ask.c))::X,n0+3⟩:=Rj (hw:=hw) (hi:=hi) (h1:=h1) (h2:=h2) (h3:=h3) (n1:=n1) (n2:=n2) (n3:=n3) (e1:=e1) (e2:=e2) (e3:=e3) (hlt:=hlt) (hnd:=hnd) (h0:=h0) (hns:=hns) (hf:=hf) (hX:=hX) (hin:=hin)
end
end Go.Proofs.YtflegjieadkonaaGreatDoor
namespace Go.Proofs.YtflegjieadkonaaGreatDoor
open Go Go.Al Go.Proofs.Tryz
def AK.ok(A:AK):Prop:=A.root.length=A.items.length∧ ∀k∈A.l,k.item<A.items.length
structure Gr (n:Nat) (A B:AK):Prop where
 ok:A.ok->B.ok
 it:B.items.length<=A.items.length+n
 ln:B.l.length<=A.l.length+n
 mn:A.items.length<=B.items.length
def AK.fit(A:AK)(n:Nat):Prop:=A.ok∧A.items.length+n<=1000000000∧A.l.length+n<=1000000000
theorem Gr.refl(A:AK):Gr 0 A A:=⟨id,W0 _,W0 _,W0 _⟩
theorem Gr.trans{n m:Nat}{A B C:AK}(h:Gr n A B)(g:Gr m B C):Gr (n+m) A C:=
 ⟨fun o=>g.ok (h.ok o),by have:=h.it;have:=g.it;omega,by have:=h.ln;have:=g.ln;omega,by have:=h.mn;have:=g.mn;omega⟩
theorem Gr.le{n m:Nat}{A B:AK}(h:Gr n A B)(hm:n<=m):Gr m A B:=⟨h.ok,by have:=h.it;omega,by have:=h.ln;omega,h.mn⟩
theorem AK.fit.step{A B:AK}{a b n:Nat}(h:A.fit n)(g:Gr a A B)(hn:a+b<=n):B.fit b:=by
 obtain⟨h1,h2,h3⟩:=h;have:=g.it;have:=g.ln;exact⟨g.ok h1,by omega,by omega⟩
theorem AK.fit.le{A:AK}{n m:Nat}(h:A.fit n)(hm:m<=n):A.fit m:=⟨h.1,by have:=h.2.1;omega,by have:=h.2.2;omega⟩
theorem tQ(A:AK)(u:aL):Gr 1 A (A.item u):=by
 unfold AK.item;split
 ·exact(Gr.refl A).le (by omega)
 ·refine⟨fun⟨h1,h2⟩=>⟨?_,fun k hk=>?_⟩,?_,by show A.l.length<=_;omega,?_⟩
  ·show(A.root++_).length=(A.items++_).length;rw[WW,WW,h1];rfl
  ·have:=h2 k hk;show _<(((A.items++_).length:Nat):Int)
   rw[WW,XC];omega
  ·show(A.items++_).length<=_;rw[WW,XC];omega
  ·show _<=(A.items++_).length;rw[WW,XC];omega
theorem Bq(A:AK)(u:aL):A.ix u<(A.item u).items.length:=by
 unfold AK.item AK.ix;split
 ·omega
 ·rename_i h;show _<(((A.items++_).length:Nat):Int)
  have: ∀l:List aL,yL l u<=l.length:=by
   intro l
   induction l with
   |nil=>exact W0 _
   |cons a r ih=>unfold yL;split<;>simp<;>omega
  have:=this A.items;rw[WW,XC];omega
theorem KO(A:AK)(k:Ask)(hk:k.item<A.items.length):Gr 1 A (A.ask k):=by
 unfold AK.ask;split
 ·refine⟨fun⟨h1,h2⟩=>⟨h1,fun x hx=>?_⟩,by show A.items.length<=_;omega,?_,W0 _⟩
  ·rcases W7.1 hx with g|g
   ·exact h2 x g
   ·rw[W5]at g;subst g;exact hk
  ·show(A.l++_).length<=_;rw[WW,XC];omega
 ·exact(Gr.refl A).le (by omega)
theorem Kv(A:AK)(u:aL):(A.item u).l=A.l:=by unfold AK.item;split<;>rfl
theorem II(A:AK)(k:Ask):(A.ask k).items=A.items:=by unfold AK.ask;split<;>rfl
theorem wF(A:AK)(a0:Int)(u:aL)(b0:Int):Gr 1 A (A.want a0 u b0):=by
 have h1:=tQ A u;have h2:=KO (A.item u) ⟨a0,A.ix u,b0,0⟩ (Bq A u);refine⟨fun o=>h2.ok (h1.ok o),?_,?_,Xz h1.mn h2.mn⟩
 ·show((A.item u).ask _).items.length<=_;rw[II];exact h1.it
 ·have:=h2.ln;rw[Kv]at this;exact this
theorem KK(A:AK)(a0 b0 pW:Int):Gr 1 A (A.ask ⟨a0, -1,b0,pW⟩):=KO A _ (by show(-1:Int)<_;omega)
theorem Ss(A:AK)(x y:Int):Gr 0 A (A.tie x y):=by
 refine⟨fun⟨h1,h2⟩=>⟨?_,h2⟩,W0 _,W0 _,W0 _⟩;show(A.root.map _).length=A.items.length;rw[Xr,h1]
theorem GG(r:aq)(lit w:Int)(e:Expr)(A:AK):Gr 1 A (mb r lit w e A):=by
 unfold mb;split
 ·exact wF _ _ _ _
 split
 ·exact KK _ _ _ _
 ·exact(Gr.refl A).le (by omega)
theorem Bz(r:aq)(lit w:Int)(l:List Expr)(h: ∀x∈l,∀A,Gr x.size A (gk r lit w x A)): ∀A,Gr (Expr.ax l) A (l.foldl (fun A x=>gk r lit w x A) A):=by
 induction l with
 |nil=>exact fun A=>Gr.refl A
 |cons e s ih=>
  intro A;exact(h e Xd A).trans (ih (fun x hx=>h x (W8 _ hx)) _)
theorem nr(r:aq)(lit w:Int): ∀(n:Nat) (e:Expr) (A:AK),e.size<=n->Gr e.size A (gk r lit w e A)
 |0,e,A,h=>by have:=e.size_pos;omega
 |n+1,e,A,h=>by
  have hz:=e.size_eq;rw[wz];refine Gr.le ((GG r lit w e A).trans (m:=Expr.ax e.args) ?_) (by omega);unfold ll;split
  ·refine Bz r lit w e.args (fun x hx A=>nr r lit w n x A ?_) _;obtain⟨k,hk,rfl⟩:=Ye.1 hx;have h1:=Expr.aT e.args k hk;rw[WU,WY hk]at h1;have h1:(e.args[k]).size<=Expr.ax e.args:=h1;omega
  ·exact(Gr.refl _).le (by omega)
theorem sU(r:aq)(lit w:Int)(e:Expr)(A:AK):Gr (Expr.ax e.args) A (ll r lit w e A):=by
 unfold ll;split
 ·exact Bz r lit w e.args (fun x hx A=>nr r lit w x.size x A (W0 _)) _
 ·exact(Gr.refl _).le (by omega)
theorem KP(r:aq)(lit w:Int)(l:List Expr)(i:Nat)(A:AK):Gr (Expr.ax (l.take i)) A ((l.take i).foldl (fun A x=>gk r lit w x A) A):=
 Bz r lit w _ (fun x hx A=>nr r lit w x.size x A (W0 _)) _
theorem KN(p:Prog)(r:aq)(a:Atom)(lit w:Int)(i:Nat)(A:AK):Gr 1 A (jJ p r a lit w i A):=by
 unfold jJ;split
 ·split
  ·exact wF _ _ _ _
  split
  ·exact KK _ _ _ _
  ·exact(Gr.refl A).le (by omega)
 ·exact(Gr.refl A).le (by omega)
theorem wG(p:Prog)(r:aq)(a:Atom)(lit w:Int)(A:AK): ∀i,Gr i A (fA p r a lit w A i)
 |0=> .refl _
 |i+1=>(wG p r a lit w A i).trans (KN p r a lit w i _)
theorem Dq(r:aq)(lit w:Int)(x y:Expr)(A:AK):Gr 2 A (kU r lit w x y A):=by
 unfold kU;split
 ·split
  ·exact((tQ _ _).trans (tQ _ _)).trans (Ss _ _ _)
  ·exact(wF _ _ _ _).le (by omega)
 split
 ·exact(wF _ _ _ _).le (by omega)
 ·exact(KK _ _ _ _).le (by omega)
theorem KL(p:Prog)(r:aq)(lit w:Int)(l:Lit)(A:AK):Gr l.size A (kX p r lit w l A):=by
 have hs:=l.size_eq;have hx:=l.left.size_eq;have hy:=l.right.size_eq;unfold kX;split
 ·exact(wG p r l.atom lit w A _).le (by omega)
 split
 ·split
  ·exact(((sU r lit w l.left A).trans (sU r lit w l.right _)).trans (Dq r lit w _ _ _)).le (by omega)
  ·exact((nr r lit w _ l.left A (W0 _)).trans (nr r lit w _ l.right _ (W0 _))).le (by omega)
 ·exact(Gr.refl A).le (by omega)
theorem Dp(p:Prog)(r:aq)(i:Int)(A:AK)(ls:List Lit): ∀k,k<=ls.length->Gr (Lit.ax (ls.take k)) A (El p r i A ls k)
 |0,_=> .refl _
 |k+1,h=>by
  rw[Lit.jV ls k (by omega)];exact(Dp p r i A ls k (by omega)).trans (KL p r i i _ _)
theorem KJ(r:aq)(i f:Int)(v:aj)(o:Expr)(A:AK):Gr (o.size+2) A (ux r i f v o A):=by
 have ho:=o.size_eq;unfold ux;split
 ·exact(nr r i i _ (iQ v) A (W0 _)).le (by rw[jh];omega)
 split
 ·exact((nr r i i _ (iQ v) A (W0 _)).trans (nr r i i _ o _ (W0 _))).le (by rw[jh];omega)
 ·exact((sU r i i o A).trans (Dq r i i _ _ _)).le (by omega)
theorem OL(p:Prog)(r:aq)(i:Int)(l:Lit)(A:AK):Gr l.size A (rz p r i l A):=by
 have hs:=l.size_eq;unfold rz;split
 ·have h1:=Dp p r i (ux r i l.dP l.bp l.km A) l.ar l.ar.length (W0 _);rw[YE]at h1;exact((KJ r i l.dP l.bp l.km A).trans h1).le (by omega)
 ·exact KL p r i (-1) l A
theorem By(p:Prog)(r:aq): ∀k,k<=r.body.length->Gr (r.head.ae.length+Lit.ax (r.body.take k)) AK.o (kZ p r k)
 |0,_=>wG p r r.head (-1) (-1) AK.o _
 |k+1,h=>by
  rw[Lit.jV r.body k (by omega),<-Yu];exact(By p r k (by omega)).trans (OL p r k _ _)
theorem Uc:AK.o.ok:=⟨rfl,fun k hk=>nomatch hk⟩
def uj(r:aq)(lit:Int):Bool:=if lit<0 then(eZ r.head).2 else(o6 (ah r lit)).2
def rh(r:aq)(n:Int):aZ:=
 if n>256∨(r.body.length:Int)>12 then(66,r.at_) else if(tt r:Int)>24 then(66,r.at_) else match r.body.find? oW with
  |some l=>(66,l.at)
  |none=>aZ.z
def mG(a b:aZ):aZ:=if a.1=0 then b else a
def JE(p:Prog)(r:aq)(n:Int):aZ:=
 mG (bB r 1 (uj r) aZ.z)<|mG (rh r n)<|mG (bB r 61 (fun lit=>(bu r lit).any fun x=>lz p x) aZ.z)<|mG (bB r 62 (fun lit=>(bu r lit).any fun x=>mJ p x) aZ.z)<|mG (bB r 65 (dA r) aZ.z)<|mG (iR r (mX p r))<|bB r 64 (dI r) aZ.z
theorem pH{r:aq}{e:Int}(he: ¬e=0)(f:Int->Bool)(k:aZ):mG (bB r e f aZ.z) k=bB r e f k:=by
 unfold mG bB;split
 ·exact be he
 ·exact am Z
theorem E1(n:Nat):iH n=(-1)::(Xc n).map fun k:Nat=>(k:Int):=by
 unfold iH;rw[Zl,Xe,Y0];refine congr (congrArg _ Z) (Yx fun k _=>?_);show((k+1:Nat):Int)-1=k;omega
theorem Fm{α:Type}[Inhabited α](q:α->Bool): ∀(l:List α) (m:Nat) (g:Nat->Int),∀f:Int->Bool,(∀k,k<l.length->f (g k)=q (l.getD k default))->((Xc l.length).map g).find? f=(l.findIdx? q).map g:=by
 intro l _
 induction l with
 |nil=>intro g f _;rfl
 |cons a r ih=>
  intro g f h;have h0:=h 0 (by simp);rw[Xx,Zl,Xe,Yq,h0];rw[List.findIdx?_cons];show(match q a with|true=>_|false=>_)=_;cases hq:q a with
  |true=>rfl
  |false=>
   show((List.map Nat.succ (Xc r.length)).map g).find? f=_;rw[Y0];have:=ih (fun k=>g (k+1)) f fun k hk=>h (k+1) (by simpa using hk);show((Xc r.length).map fun k=>g (k+1)).find? f=_;rw[this];simp only[Yn,if_false];cases r.findIdx? q<;>rfl
theorem EY(r:aq)(e:Int)(f:Int->Bool)(q:Lit->Bool)(k:aZ)(hq: ∀i:Nat,i<r.body.length->f i=q (r.body.getD i default)):bB r e f k=if f (-1)=true then(e,r.at_) else match r.body.find? q with
  |some l=>(e,l.at)
  |none=>k:=by
 unfold bB vc;rw[E1,Yq];cases h:f (-1) with
 |true=>rfl
 |false=>
  rw[be (by decide)];have:=Fm q r.body 0 (fun k:Nat=>(k:Int)) f hq;show(match((Xc r.body.length).map fun k:Nat=>(k:Int)).find? f with|some lit=>(e,fh r lit)|none=>k)=_;rw[this];cases hi:r.body.findIdx? q with
  |none=>
   rw[Zv]at hi;have:r.body.find? q=none:=by
    rw[Yg];intro x hx;rw[hi x hx];decide
   rw[this];rfl
  |some i=>
   obtain⟨h1,h2,h3⟩:=Ze.1 hi;have:r.body.find? q=some r.body[i]:=by
    rw[YZ];exact⟨h2,i,h1,rfl,fun j hj=>by rw[XF];exact X7.2 (h3 j hj)⟩
   rw[this];show(e,fh r i)=(e,(r.body[i]).at)
   have hp:fh r i=(r.body[i]).at:=by
    unfold fh ah;rw[be (by omega),WU,show((i:Int)).toNat=i by omega,WY h1];rfl
   rw[hp]
theorem H6(r:aq)(i:Nat):ah r i=r.body.getD i default:=rfl
theorem Kg(r:aq)(k:aZ):bB r 1 (uj r) k=if lx r.head=true then(1,r.at_) else match r.body.find? jA with
  |some l=>(1,l.at)
  |none=>k:=by
 have hq: ∀i:Nat,i<r.body.length->uj r i=jA (r.body.getD i default):=fun i _=>by
  unfold uj;rw[be (by omega),H6,zA]
 rw[EY r 1 (uj r) jA k hq];have:uj r (-1)=lx r.head:=by rw[D8];rfl
 rw[this]
theorem Oi(r:aq)(n:Int)(k:aZ):mG (rh r n) k=if n>256∨(r.body.length:Int)>12 then(66,r.at_) else if(tt r:Int)>24 then(66,r.at_) else match r.body.find? oW with
  |some l=>(66,l.at)
  |none=>k:=by
 unfold mG rh;split
 ·rfl
 split
 ·rfl
 split
 ·rfl
 ·rfl
theorem Sh{r:aq}(h: ¬lx r.head=true)(hb:r.body.find? jA=none):Tb r.head∧ ∀k,k<r.body.length->Ud (r.body.getD k default):=by
 refine⟨D7 (by rw[<-D8];simpa using h),fun k hk=>OD ?_⟩;rw[Yg]at hb;have:=hb (r.body.getD k default) (by rw[WU,WY hk];exact XD hk);simpa using this
theorem NQ(p:Prog)(r:aq)(n:Int):JE p r n=tz p r n:=by
 unfold JE tz xC;rw[pH (by decide),Kg];split
 ·rfl
 rename_i h1;cases h2:r.body.find? jA with
 |some l=>rfl
 |none=>
  obtain⟨o1,o2⟩:=Sh h1 h2;show mG (rh r n) _=_;rw[I5 o1 o2,Oi,pH (by decide),pH (by decide),pH (by decide),pH (by decide)];rfl
def kK(r:aq)(lit:Int):List aj:=if lit<0 then dx r.head else if(ah r lit).kind=4 then bR (aF (ah r lit).agg) (ah r lit).bp else cf (ah r lit)
def nq(r:aq)(lit:Int):List aj:=if lit<0 then[] else if(ah r lit).kind=4 then ma r lit else[]
def Aa(r:aq)(a0:List aj)(x:aj):Bool:=!(if cj (outer r) x=true then cj (kv r) x else cj a0 x)
def EX(r:aq)(lit:Int):Bool:=(kK r lit).any (Aa r (nq r lit))
theorem uN{t a:aj}{v:Int}: ∀{m:NM},t∈(b6 .str m a v).map Xl↔t=a∨t∈m.map Xl
 | []=>by simp[b6]
 |(x,y)::r=>by
  show t∈(if x=a then(a,v)::r else(x,y)::b6 .str r a v).map Xl↔_;split
  ·rename_i h;subst h;simp
  ·rw[Xe,Xb,uN,Xe,Xb];constructor
   ·rintro(h|h|h)
    ·exact .inr (.inl h)
    ·exact .inl h
    ·exact .inr (.inr h)
   ·rintro(h|h|h)
    ·exact .inr (.inl h)
    ·exact .inl h
    ·exact .inr (.inr h)
theorem CZ{x:aj}{r:aq}:x∈kv r↔x∈bV r:=by
 unfold kv sS;rw[xP];exact pr (may:=fun occ=>aW occ) (more:=fun occ=>iE (az r) occ) (HY r) lu (EV (az r)) (fun y=>by rw[tK];simp) x
theorem Ka(k:List aj)(l:Lit):l4 (aW k) (fun _=>false) k l=if(fy false [] k l).2=true then some (fy false [] k l).1 else none:=by
 unfold l4 fy;rw[be (c:=l.kind=4∧_) (fun h=>Bool.noConfusion h.2.2),be (c:=false=true∧_) (fun h=>Bool.noConfusion h.1),Cm]
theorem C3{x:aj}(o:List aj): ∀{l k:List aj},x∈l.foldl (fun k y=>if cj o y then bR k y else k) k↔x∈k∨(x∈l∧x∈o)
 | [],k=>by simp
 |y::r,k=>by
  rw[Xq,C3 o];by_cases h:cj o y=true
  ·rw[am h,ch,Xb];constructor
   ·rintro((g|g)|g)
    ·exact .inl g
    ·exact .inr ⟨.inl g,by rw[g];exact aQ.1 h⟩
    ·exact .inr ⟨.inr g.1,g.2⟩
   ·rintro(g|⟨g|g,q⟩)
    ·exact .inl (.inl g)
    ·exact .inl (.inr g)
    ·exact .inr ⟨g,q⟩
  ·rw[be h,Xb];constructor
   ·rintro(g|g)
    ·exact .inl g
    ·exact .inr ⟨.inr g.1,g.2⟩
   ·rintro(g|⟨g|g,q⟩)
    ·exact .inl g
    ·subst g;exact absurd (aQ.2 q) h
    ·exact .inr ⟨g,q⟩
theorem rG{x:aj}{r:aq}{lit:Int}:x∈ma r lit↔x∈Bg r (ah r lit).agg:=by
 unfold ma sS;rw[xP];refine pr (may:=fun occ=>aW occ) (more:=fun _=>fun _=>false) Ka lu (fun _ _ _ _ h=>h) (fun y=>?_) x;rw[tK];have:y∈uX r lit↔y∈xM r (ah r lit).agg:=by
  unfold uX xM;rw[C3,Xs,(bY _).2,hP,aQ,jl];simp
 rw[this,W7]
theorem sG{r:aq}{m:NM}:sI r m=true↔ ∃x∈m.map Xl,x∉bV r:=by
 unfold sI;rw[XM];constructor
 ·rintro⟨y,hy,h⟩;exact⟨y.1,Xt.2 ⟨y,hy,rfl⟩,fun g=>by rw[aQ.2 g]at h;cases h⟩
 ·rintro⟨x,hx,h⟩;obtain⟨y,hy,rfl⟩:=Xt.1 hx;refine⟨y,hy,?_⟩;cases hi:cj (bV r) y.1 with
  |true=>exact absurd (aQ.1 hi) h
  |false=>rfl
theorem jn{r:aq}{a0:List aj}{x:aj}:Aa r a0 x=true↔(x∈az r∧x∉bV r)∨(x∉az r∧x∉a0):=by
 unfold Aa;rw[XF];by_cases h:cj (outer r) x=true
 ·have ho:x∈az r:=jl.1 (aQ.1 h);rw[am h,<-Yv,aQ,CZ];exact⟨fun g=> .inl ⟨ho,g⟩,fun g=>g.elim (fun q=>q.2) fun q=>absurd ho q.1⟩
 ·have ho:x∉az r:=fun g=>h (aQ.2 (jl.2 g))
  rw[be h,<-Yv,aQ];exact⟨fun g=> .inr ⟨ho,g⟩,fun g=>g.elim (fun q=>absurd q.1 ho) fun q=>q.2⟩
theorem oI{r:aq}{lit:Int}(h0: ¬lit<0)(h1:lit<r.body.length){x:aj}(hx:x∈eT (ah r lit)):x∈az r:=by
 unfold az;refine Yp _ (Yw.2 ⟨ah r lit,?_,hx⟩);have:lit.toNat<r.body.length:=by omega
 unfold ah;rw[WU,WY this];exact XD this
theorem Kf(r:aq)(lit:Int)(h1:lit<r.body.length):EX r lit=dI r lit:=by
 unfold EX dI kK nq;by_cases h0:lit<0
 ·rw[am h0,am h0,am h0,Xy,sG,XM];constructor
  ·rintro⟨x,hx,g⟩;have hm:x∈da r.head:=jy.1 hx;have ho:x∈az r:=by unfold az;exact Xv _ hm
   refine⟨x,((bY _).2 x).2 hm,?_⟩;rcases jn.1 g with q|q
   ·exact q.2
   ·exact absurd ho q.1
  ·rintro⟨x,hx,g⟩;have hm:=((bY _).2 x).1 hx;have ho:x∈az r:=by unfold az;exact Xv _ hm
   exact⟨x,jy.2 hm,jn.2 (.inl ⟨ho,g⟩)⟩
 rw[be h0,be h0,be h0];by_cases h4:(ah r lit).kind=4
 ·rw[am h4,am h4,am h4,Xy,XJ,sG,XM,XM];have c0:(ah r lit).bp∈az r:=oI h0 h1 (by unfold eT;rw[am h4];exact Yp _ Xd);have a0: ∀x,x∈(lj r (ah r lit).agg).map Xl↔x∈bj (ah r lit).agg∧x∉az r:=fun x=>by
   unfold lj;rw[<-(bY (bj (ah r lit).agg)).2 x,Xt,Xt];constructor
   ·rintro⟨y,hy,rfl⟩;obtain⟨g1,g2⟩:=Xs.1 hy;exact⟨⟨y,g1,rfl⟩,fun g=>by rw[aQ.2 g]at g2;cases g2⟩
   ·rintro⟨⟨y,g1,rfl⟩,g2⟩;refine⟨y,Xs.2 ⟨g1,?_⟩,rfl⟩;cases hi:cj (az r) y.1 with
    |true=>exact absurd (aQ.1 hi) g2
    |false=>rfl
  have b0: ∀x,x∈(me r (ah r lit).agg).map Xl↔x∈bj (ah r lit).agg∧x∈az r:=fun x=>by
   unfold me;constructor
   ·intro hx;obtain⟨y,hy,rfl⟩:=Xt.1 hx;obtain⟨g1,g2⟩:=Xs.1 hy;have ha:=((bY (bj (ah r lit).agg)).2 y.1).1 (Xt.2 ⟨y,g1,rfl⟩);refine⟨ha,Yb fun hc=>?_⟩;rw[aQ.2 ((a0 y.1).2 ⟨ha,hc⟩)]at g2;cases g2
   ·rintro⟨g1,g2⟩;obtain⟨y,hy,rfl⟩:=Xt.1 (((bY (bj (ah r lit).agg)).2 x).2 g1);refine Xt.2 ⟨y,Xs.2 ⟨hy,?_⟩,rfl⟩;cases hi:cj ((lj r (ah r lit).agg).map (·.1)) y.1 with
    |true=>exact absurd g2 ((a0 y.1).1 (aQ.1 hi)).2
    |false=>rfl
  constructor
  ·rintro⟨x,hx,g⟩;rcases jn.1 g with⟨q1,q2⟩|⟨q1,q2⟩
   ·refine .inr ⟨x,?_,q2⟩;unfold bump;rw[uN,b0];rcases ch.1 hx with e|e
    ·exact .inr ⟨hP.1 e,q1⟩
    ·exact .inl e
   ·rcases ch.1 hx with e|e
    ·obtain⟨y,hy,rfl⟩:=Xt.1 ((a0 x).2 ⟨hP.1 e,q1⟩);refine .inl ⟨y,hy,?_⟩;cases hi:cj (Bg r (ah r lit).agg) y.1 with
     |true=>exact absurd (rG.2 (aQ.1 hi)) q2
     |false=>rfl
    ·rw[e]at q1;exact absurd c0 q1
  ·rintro(⟨y,hy,g⟩|⟨x,hx,g⟩)
   ·obtain⟨g1,g2⟩:=(a0 y.1).1 (Xt.2 ⟨y,hy,rfl⟩);refine⟨y.1,ch.2 (.inl (hP.2 g1)),jn.2 (.inr ⟨g2,fun q=>?_⟩)⟩;rw[aQ.2 (rG.1 q)]at g;cases g
   ·unfold bump at hx;rw[uN,b0]at hx;rcases hx with e|⟨e1,e2⟩
    ·exact⟨x,ch.2 (.inr e),jn.2 (.inl ⟨by rw[e];exact c0,g⟩)⟩
    ·exact⟨x,ch.2 (.inl (hP.2 e1)),jn.2 (.inl ⟨e2,g⟩)⟩
 ·rw[be h4,be h4,be h4,Xy,sG,XM];constructor
  ·rintro⟨x,hx,g⟩;have hm:=iF.1 hx;have ho:=oI h0 h1 (x:=x) (by unfold eT;exact Xv _ hm);refine⟨x,((bY _).2 x).2 hm,?_⟩;rcases jn.1 g with q|q
   ·exact q.2
   ·exact absurd ho q.1
  ·rintro⟨x,hx,g⟩;have hm:=((bY _).2 x).1 hx;have ho:=oI h0 h1 (x:=x) (by unfold eT;exact Xv _ hm);exact⟨x,iF.2 hm,jn.2 (.inl ⟨ho,g⟩)⟩
theorem Bp: ∀{l:List aL} {u:aL} {i:Nat},i<l.length->l.getD i default=u->(∀j,j<i-> ¬l.getD j default=u)->yL l u=i
 | [],_,i,h,_,_=>absurd h (Y6 i)
 |a::r,u,0,_,h,_=>am h
 |a::r,u,i+1,hi,h,hJ=>by
  have h0: ¬a=u:=hJ 0 (Nat.succ_pos i);unfold yL;rw[be h0,Bp (i:=i) (by simpa using hi) h fun j hj=>hJ (j+1) (by omega)]
theorem xI: ∀{l:List aL} {u:aL},(∀j,j<l.length-> ¬l.getD j default=u)->yL l u=l.length
 | [],_,_=>rfl
 |a::r,u,hJ=>by
  have h0: ¬a=u:=hJ 0 (by simp);unfold yL;rw[be h0,xI (l:=r) fun j hj=>hJ (j+1) (by simpa using hj)];rfl
theorem Jr(r:aq)(s:aj)(w:Int):bh r s w=(s,if cj (outer r) s=true then-1 else w):=by
 unfold bh;rw[bL];by_cases h:s∈az r
 ·rw[am (by have:=oc.2 h;omega),am (aQ.2 (jl.2 h))]
 ·rw[be (by have:=qZ.2 h;omega),be fun g=>h (jl.1 (aQ.1 g))]
theorem Dg{A:AK}{u:aL}{i:Nat}(h:yL A.items u=i)(hi:i<A.items.length):A.item u=A:=am (by omega)
theorem Dh{A:AK}{u:aL}(h:yL A.items u=A.items.length):A.item u=⟨A.items++ [u],A.root++ [(A.root.length:Int)],A.l⟩:=be (by omega)
theorem d131(r:aq)(A:AK)(k:Ask)(hb:A.l.length+1<=1000000000):b8 prog 255 [.ptr 0 0,pI k.place,pI k.item,pI k.type,pI k.pW] (A.O (outer r)) (.bT []) ((A.ask k).H (outer r)) 7:=by
 refine aE ab func255 Z (by decide) ntmps255 Z (by simp) ?_;refine gA Z (zI (fun g1=>?_) fun g1=>?_)
 ·have g1: ¬k.type=1:=zF g1;refine gA Z (zI (fun g2=>?_) fun g2=>?_)
  ·have g2:k.type=2:=zT g2;rw[show A.ask k=⟨A.items,A.root,A.l++ [k]⟩ from am (.inr g2)];refine gA Z uq
  ·have g2: ¬k.type=2:=zF g2;rw[show A.ask k=A from be (by rintro(h|h);exact g1 h;exact g2 h)];refine gA Z uq
 ·have g1:k.type=1:=zT g1;rw[show A.ask k=⟨A.items,A.root,A.l++ [k]⟩ from am (.inl g1)];refine gA Z uq
theorem qO{l:List aL}{u:aL}{i:Nat}(hJ: ∀j,j<i-> ¬l.getD j default=u)(h: ¬l.getD i default=u): ∀j,j<i+1-> ¬l.getD j default=u:=fun j hj=>by
 rcases Y1.1 hj with q|q
 ·exact hJ j q
 ·subst q;exact h
theorem AK.Bn{A:AK}{u:aL}{i:Nat}(h:yL A.items u=i):A.ix u=(i:Int):=by unfold AK.ix;rw[h]
abbrev AK.at4(A:AK)(o:List aj):AH:=[(0,some (AK.cell o 4 5 6 A.items.length A.root.length A.l.length)),(4,some (aD 2 A.items aL.c)),(5,some (aD 1 A.root ba)),(6,some (aD 4 A.l Ask.c))]
theorem d46(r:aq)(A:AK)(s:aj)(w:Int)(hf:A.fit 1):b8 prog 254 [.ptr 0 0,pS s,pI w] (A.O (outer r)) (pI (A.ix (bh r s w))) ((A.item (bh r s w)).H (outer r)) 7:=by
 obtain⟨⟨b0,c0⟩,e0,d0⟩:=hf;have hu:=Jr r s w;refine aE ab func254 Z (by decide) ntmps254 Z (by simp) ?_;refine gA Z (zp (LD (outer r) s) ?_);refine gA Z (zI (fun g=>?_) fun g=>?_)
 ·have g:cj (outer r) s=true:=g;rw[am g]at hu;rw[hu];refine gA Z ?_;refine aA 0 A.items.length (W3 _) (fun i=>⟨[(0, .ptr 0 0),(1,pS s),(2,pI (-1)),(8,pI i)],A.at4 (outer r),7⟩) (fun i=> ∀j,j<i-> ¬A.items.getD j default=(s,(-1))) _ (fun j hj=>absurd hj (Y6 j))
   (L9 (A:=A) Z Z Z Z Z Z Z Z Z Z Z Z Z Z Z (bv (bv (bv (bv trivial))))) fun i hi hJ=>?_
  refine gA Z (zI (fun h1=>?_) fun h1=>?_)
  ·have h1:i<A.items.length:=zN h1;refine gM 12 Z (b4 ab Z Z Z Z Z (jt h1) Z Z ?_);refine gA Z (zI (fun g1=>?_) fun g1=>?_)
   ·have g1:(A.items.getD i default).1=s:=zT g1;refine gM 14 Z (b4 ab Z Z Z Z Z (jt h1) Z Z ?_);refine gA Z (zI (fun g2=>?_) fun g2=>?_)
    ·have g2:(A.items.getD i default).2=(-1):=zT g2;have e:=Bp h1 (Prod.ext g1 g2) hJ;rw[Dg e h1,AK.Bn e];refine gA Z uq
    ·have g2: ¬(A.items.getD i default).2=(-1):=zF g2;refine gA Z ⟨h1,qO hJ (fun e=>g2 (by rw[e])),_,L9 (rfl) Z Z Z Z (by first|rfl|(rw[WW];rfl)|simp) (by first|rfl|(rw[WW];rfl)|simp) (by first|rfl|(rw[WW];rfl)|simp) (by first|rfl|(rw[WZ];rfl)|(simp only[WZ,Xa];rfl)) (by first|rfl|(rw[WZ];rfl)|(simp only[WZ,Xa];rfl)) (by first|rfl|(rw[WZ];rfl)|(simp only[WZ,Xa];rfl)) Z Z Z Z (bv (bv (bv (bv ac))))⟩
   ·have g1: ¬(A.items.getD i default).1=s:=zF g1;refine gA Z ⟨h1,qO hJ (fun e=>g1 (by rw[e])),_,L9 (rfl) Z Z Z Z (by first|rfl|(rw[WW];rfl)|simp) (by first|rfl|(rw[WW];rfl)|simp) (by first|rfl|(rw[WW];rfl)|simp) (by first|rfl|(rw[WZ];rfl)|(simp only[WZ,Xa];rfl)) (by first|rfl|(rw[WZ];rfl)|(simp only[WZ,Xa];rfl)) (by first|rfl|(rw[WZ];rfl)|(simp only[WZ,Xa];rfl)) Z Z Z Z (bv (bv (bv (bv ac))))⟩
  ·have h1:A.items.length<=i:=zG h1;have e:yL A.items (s,(-1))=A.items.length:=xI fun j hj=>hJ j (by omega);have a0:((A.items.length:Int)+1-1)=A.ix (s,(-1)):=by rw[AK.Bn e];omega
   rw[Dh e,<-a0];refine gA Z uq
 ·have g:cj (outer r) s=false:=by simpa using g
  rw[be (by rw[g];decide)]at hu;rw[hu];refine gA Z ?_;refine aA 0 A.items.length (W3 _) (fun i=>⟨[(0, .ptr 0 0),(1,pS s),(2,pI w),(8,pI i)],A.at4 (outer r),7⟩) (fun i=> ∀j,j<i-> ¬A.items.getD j default=(s,w)) _ (fun j hj=>absurd hj (Y6 j))
   (L9 (A:=A) Z Z Z Z Z Z Z Z Z Z Z Z Z Z Z (bv (bv (bv (bv trivial))))) fun i hi hJ=>?_
  refine gA Z (zI (fun h1=>?_) fun h1=>?_)
  ·have h1:i<A.items.length:=zN h1;refine gM 12 Z (b4 ab Z Z Z Z Z (jt h1) Z Z ?_);refine gA Z (zI (fun g1=>?_) fun g1=>?_)
   ·have g1:(A.items.getD i default).1=s:=zT g1;refine gM 14 Z (b4 ab Z Z Z Z Z (jt h1) Z Z ?_);refine gA Z (zI (fun g2=>?_) fun g2=>?_)
    ·have g2:(A.items.getD i default).2=w:=zT g2;have e:=Bp h1 (Prod.ext g1 g2) hJ;rw[Dg e h1,AK.Bn e];refine gA Z uq
    ·have g2: ¬(A.items.getD i default).2=w:=zF g2;refine gA Z ⟨h1,qO hJ (fun e=>g2 (by rw[e])),_,L9 (rfl) Z Z Z Z (by first|rfl|(rw[WW];rfl)|simp) (by first|rfl|(rw[WW];rfl)|simp) (by first|rfl|(rw[WW];rfl)|simp) (by first|rfl|(rw[WZ];rfl)|(simp only[WZ,Xa];rfl)) (by first|rfl|(rw[WZ];rfl)|(simp only[WZ,Xa];rfl)) (by first|rfl|(rw[WZ];rfl)|(simp only[WZ,Xa];rfl)) Z Z Z Z (bv (bv (bv (bv ac))))⟩
   ·have g1: ¬(A.items.getD i default).1=s:=zF g1;refine gA Z ⟨h1,qO hJ (fun e=>g1 (by rw[e])),_,L9 (rfl) Z Z Z Z (by first|rfl|(rw[WW];rfl)|simp) (by first|rfl|(rw[WW];rfl)|simp) (by first|rfl|(rw[WW];rfl)|simp) (by first|rfl|(rw[WZ];rfl)|(simp only[WZ,Xa];rfl)) (by first|rfl|(rw[WZ];rfl)|(simp only[WZ,Xa];rfl)) (by first|rfl|(rw[WZ];rfl)|(simp only[WZ,Xa];rfl)) Z Z Z Z (bv (bv (bv (bv ac))))⟩
  ·have h1:A.items.length<=i:=zG h1;have e:yL A.items (s,w)=A.items.length:=xI fun j hj=>hJ j (by omega);have a0:((A.items.length:Int)+1-1)=A.ix (s,w):=by rw[AK.Bn e];omega
   rw[Dh e,<-a0];refine gA Z uq
def kJ(a b:Int)(l:List Int)(i:Nat):List Int:=((l.take i).map fun z=>if z=a then b else z)++l.drop i
theorem w7(a b:Int)(l:List Int)(i:Nat):(kJ a b l i).length=l.length:=by
 unfold kJ;rw[WW,Xr,XH,List.length_drop];omega
theorem B4{a b:Int}{l:List Int}{i:Nat}(h:i<l.length):(kJ a b l i).getD i default=l.getD i default:=by
 unfold kJ;have hl:((l.take i).map fun z=>if z=a then b else z).length=i:=by rw[Xr,XH];omega
 rw[WU,Xj (by omega),hl,ZX,Yc,WU];rfl
theorem y5{a b:Int}{l:List Int}{i:Nat}(h:i<l.length):kJ a b l (i+1)=(kJ a b l i).set i (if l.getD i default=a then b else l.getD i default):=by
 unfold kJ;have hl:((l.take i).map fun z=>if z=a then b else z).length=i:=by rw[Xr,XH];omega
 rw[aN h,WZ,List.set_append_right _ _ (by omega),hl,ZX,ZO h,List.set_cons_zero,Xa,WU,WY h];rfl
theorem Hm{a b:Int}{l:List Int}{i:Nat}(h:i<l.length)(hn: ¬l.getD i default=a):kJ a b l (i+1)=kJ a b l i:=by
 rw[y5 h,be hn,<-B4 (a:=a) (b:=b) h];refine YH fun j=>?_;rw[XK];split
 ·rename_i e;subst e;have hlt:i<(kJ a b l i).length:=by rw[w7];exact h
  rw[am hlt,WU,WY hlt];rfl
 ·rfl
theorem Hl(a b:Int)(l:List Int):kJ a b l 0=l:=by simp[kJ]
theorem Jd{a b:Int}{l:List Int}{i:Nat}(h:l.length<=i):kJ a b l i=l.map fun z=>if z=a then b else z:=by
 unfold kJ;rw[W2 h,List.drop_eq_nil_of_le h,XE]
theorem Ny{l:List Int}{i:Nat}{v:Int}:(l.map fun x=>(ba x).map PV.iv).set (0+i) ([PV.iv (iI v)])=(l.set i v).map fun x=>(ba x).map PV.iv:=by
 rw[Xk,YN];rfl
theorem Cr{l:List Int}{i:Int}(h:i.toNat<l.length):(l.map fun x=>(ba x).map PV.iv)[0+i.toNat]? =some ((ba (l.getD i.toNat default)).map .iv):=jt h
abbrev AK.WI(A:AK)(R:List Int)(o:List aj):AH:=[(0,some (AK.cell o 4 5 6 A.items.length R.length A.l.length)),(4,some (aD 2 A.items aL.c)),(5,some (aD 1 R ba)),(6,some (aD 4 A.l Ask.c))]
theorem d168(r:aq)(A:AK)(x y:Int)(g0:0<=x)(i0:0<=y)(hx:x<A.root.length)(hy:y<A.root.length)(hb:A.root.length<=1000000000):b8 prog 271 [.ptr 0 0,pI x,pI y] (A.O (outer r)) (.bT []) ((A.tie x y).H (outer r)) 7:=by
 have e0:x.toNat<A.root.length:=by omega
 have d0:y.toNat<A.root.length:=by omega
 refine aE ab func271 Z (by decide) ntmps271 Z (by simp) ?_;refine gM 8 Z (b4 ab Z Z Z Z Z (Cr e0) Z Z ?_);refine gM 10 Z (b4 ab Z Z Z Z Z (Cr d0) Z Z ?_);refine gA Z ?_;refine aA 0 A.root.length (W3 _) (fun i=>⟨[(0, .ptr 0 0),(6,pI (A.rt x)),(7,pI (A.rt y)),(8,pI i)],A.WI (kJ (A.rt x) (A.rt y) A.root i) (outer r),7⟩) (fun _=>True) _ ac
  (L9 (A:=A) (A':=⟨A.items,kJ (A.rt x) (A.rt y) A.root 0,A.l⟩) (by rw[Hl]) Z Z Z Z Z Z Z Z Z Z Z Z Z Z (bv (bv (bv (bv trivial))))) fun i hi _=>?_
 have c0:=w7 (A.rt x) (A.rt y) A.root i;refine gA Z (zI (fun h1=>?_) fun h1=>?_)
 ·have h1:i<A.root.length:=by
   have:=zT (show decide ((i:Int)<((kJ (A.rt x) (A.rt y) A.root i).length:Int))=true from h1);omega
  have hg:=B4 (a:=A.rt x) (b:=A.rt y) h1;have hlt:i<(kJ (A.rt x) (A.rt y) A.root i).length:=by omega
  have hs:=y5 (a:=A.rt x) (b:=A.rt y) h1;have hk:=Hm (a:=A.rt x) (b:=A.rt y) h1;have b0:=w7 (A.rt x) (A.rt y) A.root (i+1);have a0:=Ny (l:=kJ (A.rt x) (A.rt y) A.root i) (i:=i) (v:=A.rt y);refine gM 11 Z (b4 ab Z Z Z Z Z (jt hlt) Z Z ?_);refine gA Z (zI (fun g1=>?_) fun g1=>?_)
  ·have g1:A.root.getD i default=A.rt x:=by rw[<-hg];exact zT g1
   rw[am g1]at hs;rw[<-hs]at a0;refine gA Z (Ds ab Z Z Z Z Z (i:=5) (sz:=1) (q:=0+i) (off:=0) (es:=(kJ (A.rt x) (A.rt y) A.root i).map fun x=>(ba x).map PV.iv) Z Z (jt hlt) Z Z Z Z Z ?_);refine gA Z ⟨h1,ac,_,L9 (A:=⟨A.items,kJ (A.rt x) (A.rt y) A.root (i+1),A.l⟩) Z Z Z Z Z Z (by rw[c0,b0]) Z Z a0 Z Z Z Z Z (bv (bv (bv (bv ac))))⟩
  ·have g1: ¬A.root.getD i default=A.rt x:=by rw[<-hg];exact zF g1
   have f0:AK.mk A.items (kJ (A.rt x) (A.rt y) A.root i) A.l=⟨A.items,kJ (A.rt x) (A.rt y) A.root (i+1),A.l⟩:=congrArg (fun q=>AK.mk A.items q A.l) (hk g1).symm;refine gA Z ⟨h1,ac,_,L9 (f0) Z Z Z Z (by first|rfl|(rw[WW];rfl)|simp) (by first|rfl|(rw[WW];rfl)|simp) (by first|rfl|(rw[WW];rfl)|simp) (by first|rfl|(rw[WZ];rfl)|(simp only[WZ,Xa];rfl)) (by first|rfl|(rw[WZ];rfl)|(simp only[WZ,Xa];rfl)) (by first|rfl|(rw[WZ];rfl)|(simp only[WZ,Xa];rfl)) Z Z Z Z (bv (bv (bv (bv ac))))⟩
 ·have h1:A.root.length<=i:=by
   have:=zF (show decide ((i:Int)<((kJ (A.rt x) (A.rt y) A.root i).length:Int))=false from h1);omega
  have e:A.tie x y=⟨A.items,kJ (A.rt x) (A.rt y) A.root i,A.l⟩:=by
   unfold AK.tie;rw[Jd h1]
  rw[e];refine gA Z uq
theorem U7(e:Expr):Pure prog 270 [ag e.c] (pI (bX e)):=by
 refine ad ab func270 Z (by decide) ntmps270 Z (by simp) Z ?_
 repeat' (first|(refine gA Z (zI (fun _=>?_) (fun _=>?_)))|(refine gA Z (zL (.of_eq ?_))))
 all_goals(refine congrArg pI ?_;simp_all [bX])
theorem G4(r:aq)(A:AK)(a0:Int)(s:aj)(w b0:Int)(hf:A.fit 1):b8 prog 255 [.ptr 0 0,pI a0,pI (A.ix (bh r s w)),pI b0,pI 0] ((A.item (bh r s w)).O (outer r)) (.bT []) ((A.want a0 (bh r s w) b0).H (outer r)) 7:=
 d131 r (A.item (bh r s w)) ⟨a0,A.ix (bh r s w),b0,0⟩ (by rw[Kv];exact hf.2.2)
theorem Lr(r:aq)(A:AK)(a0 b0 pW:Int)(hf:A.fit 1):b8 prog 255 [.ptr 0 0,pI a0,pI (-1),pI b0,pI pW] (A.O (outer r)) (.bT []) ((A.ask ⟨a0, -1,b0,pW⟩).H (outer r)) 7:=
 d131 r A ⟨a0, -1,b0,pW⟩ hf.2.2
def Pr(r:aq)(n:Nat):Prop:= ∀(A:AK) (e:Expr) (lit w:Int),e.size<=n->A.fit (Expr.ax e.args)->b8 prog 257 [.ptr 0 0,ag e.c,pI lit,pI w] (A.O (outer r)) (.bT []) ((ll r lit w e A).H (outer r)) 7
def S3(r:aq)(n:Nat):Prop:= ∀(A:AK) (e:Expr) (lit w:Int),e.size<=n->A.fit e.size->b8 prog 256 [.ptr 0 0,ag e.c,pI lit,pI w] (A.O (outer r)) (.bT []) ((gk r lit w e A).H (outer r)) 7
theorem d132(r:aq)(n:Nat)(ih:Pr r n):S3 r n:=by
 intro A e lit w hs hf;have c0:=e.size_eq;rw[wz];have b0:A.fit 1:=hf.le (by omega);have a0:(mb r lit w e A).fit (Expr.ax e.args):=hf.step (GG r lit w e A) (by omega);refine aE ab func256 Z (by decide) ntmps256 Z (by simp) ?_;refine gA Z (zI (fun k1=>?_) fun k1=>?_)
 ·have k1:e.kind=1:=zT k1;have hl:mb r lit w e A=A.want lit (bh r e.var w) 1:=am k1;rw[hl]at a0 ⊢;refine gA Z (rn (d46 r A e.var w b0) ?_);refine gA Z (rn (G4 r A lit e.var w 1 b0) ?_);refine gA Z (zI (fun k2=>?_) fun k2=>?_)
  ·have k2:e.kind=2:=zT k2;omega
  refine gA Z (rn (ih _ e lit w hs a0) ?_);refine gA Z uq
 have k1: ¬e.kind=1:=zF k1;refine gA Z (zI (fun k2=>?_) fun k2=>?_)
 ·have k2:e.kind=2:=zT k2;have hl:mb r lit w e A=A.ask ⟨lit, -1,1,e.val.kind⟩:=by unfold mb;rw[be k1,am k2]
  rw[hl]at a0 ⊢;refine gA Z (rn (Lr r A lit 1 e.val.kind b0) ?_);refine gA Z (rn (ih _ e lit w hs a0) ?_);refine gA Z uq
 ·have k2: ¬e.kind=2:=zF k2;have hl:mb r lit w e A=A:=by unfold mb;rw[be k1,be k2]
  rw[hl]at a0 ⊢;refine gA Z (rn (ih A e lit w hs a0) ?_);refine gA Z uq
theorem Ip{r:aq}{lit w:Int}{l:List Expr}{i:Nat}{A:AK}(h:i<l.length):(l.take (i+1)).foldl (fun A x=>gk r lit w x A) A=gk r lit w (l.getD i default) ((l.take i).foldl (fun A x=>gk r lit w x A) A):=by
 rw[aN h,YI];rfl
theorem vj: ∀(l:List Expr) (i:Nat),i<l.length->Expr.ax (l.take i)+(l.getD i default).size<=Expr.ax l
 | [],i,h=>by simp at h
 |s::r,0,_=>by simp[Expr.ax]
 |s::r,i+1,h=>by
  have:=vj r i (by simpa using h);simp only[Yh,Yk,Expr.ax];omega
theorem d133(r:aq)(n:Nat)(ih:S3 r n):Pr r (n+1):=by
 intro A e lit w hs hf;have d0:=e.size_eq;refine b8.le (args:=[.ptr 0 0,ag e.c1,pI lit,pI w]) ?_ ⟨.refl _,e.xG, .refl _, .refl _,ac⟩;have e0:=Expr.aw e.args;have c0:=hf.2.1;refine aE ab func257 Z (by decide) ntmps257 Z (by simp) ?_;refine gA Z (zI (fun k=>?_) fun k=>?_)
 ·have k: ¬e.kind=4:=by simpa using k
  have hl:ll r lit w e A=A:=be k;rw[hl];refine gA Z uq
 have k:e.kind=4:=by simpa using k
 have hl:ll r lit w e A=e.args.foldl (fun A x=>gk r lit w x A) A:=am k;rw[hl];refine gA Z ?_;have hF: ∀i,i<=e.args.length->Gr (Expr.ax (e.args.take i)) A ((e.args.take i).foldl (fun A x=>gk r lit w x A) A):=fun i _=>KP r lit w e.args i A
 refine aA 0 e.args.length (W3 _) (fun i=>⟨[(0, .ptr 0 0),(2,pI lit),(3,pI w),(5, .ptr 4 0),(8,pI i)],AK.st ((e.args.take i).foldl (fun A x=>gk r lit w x A) A) (outer r) 0 5 [(4,some (an e.c1))],8⟩) (fun _=>True) _ ac
  (Rj (A:=A) Z Z Z Z Z Z Z Z Z Z Z Z Z Z Z (bv (bv (bv (bv (bv trivial))))) (zK trivial) Z) fun i hi _=>?_
 refine gA Z (zI (fun h1=>?_) fun h1=>?_)
 ·have h1:i<e.args.length:=zN h1;have a0:=Ip (r:=r) (lit:=lit) (w:=w) (A:=A) h1;have hn:=vj e.args i h1;have hg:=Expr.aT e.args i h1;have b0:=hf.step (b:=(e.args.getD i default).size) (hF i hi) (by omega);refine gA Z (rn (ih _ (e.args.getD i default) lit w (by omega) b0) ?_);refine gA Z ⟨h1,ac,_,Az (a0.symm) (zK ac)⟩
 ·have h1:e.args.length<=i:=zG h1;rw[W2 h1];refine gA Z uq
theorem uR(r:aq): ∀n,S3 r n∧Pr r n
 |0=>by
  have h0:Pr r 0:=fun A e lit w hs=>by have:=e.size_pos;omega
  exact⟨d132 r 0 h0,h0⟩
 |n+1=>by
  have h1:=d133 r n (uR r n).1;exact⟨d132 r (n+1) h1,h1⟩
theorem DK(r:aq)(A:AK)(e:Expr)(lit w:Int)(hf:A.fit e.size):b8 prog 256 [.ptr 0 0,ag e.c,pI lit,pI w] (A.O (outer r)) (.bT []) ((gk r lit w e A).H (outer r)) 7:=(uR r e.size).1 A e lit w (W0 _) hf
theorem DJ(r:aq)(A:AK)(e:Expr)(lit w:Int)(hf:A.fit e.size):b8 prog 257 [.ptr 0 0,ag e.c,pI lit,pI w] (A.O (outer r)) (.bT []) ((ll r lit w e A).H (outer r)) 7:=(uR r e.size).2 A e lit w (W0 _) (hf.le (by have:=e.size_eq;omega))
theorem Ku(A:AK)(u:aL):0<=A.ix u:=by unfold AK.ix;omega
theorem d134(r:aq)(A:AK)(x y:Expr)(lit w:Int)(hf:A.fit 2):b8 prog 258 [.ptr 0 0,ag x.c,ag y.c,pI lit,pI w] (A.O (outer r)) (.bT []) ((kU r lit w x y A).H (outer r)) 7:=by
 have a0:A.fit 1:=hf.le (by omega);have hA:kU r lit w x y A=if bX x=0 then(if bX y=0 then((A.item (bh r x.var w)).item (bh r y.var w)).tie (A.ix (bh r x.var w)) ((A.item (bh r x.var w)).ix (bh r y.var w)) else A.want lit (bh r x.var w) (bX y))
  else if bX y=0 then A.want lit (bh r y.var w) (bX x) else A.ask ⟨lit, -1,bX x,bX y⟩:=rfl
 rw[hA];refine aE ab func258 Z (by decide) ntmps258 Z (by simp) ?_;refine gA Z (zp (U7 x) ?_);refine gA Z (zp (U7 y) ?_);refine gA Z (zI (fun g1=>?_) fun g1=>?_)
 ·have g1:bX x=0:=zT g1;rw[am g1];refine gA Z (zI (fun g2=>?_) fun g2=>?_)
  ·have g2:bX y=0:=zT g2;rw[am g2];have q1:=tQ A (bh r x.var w);have q2:=tQ (A.item (bh r x.var w)) (bh r y.var w);have c0:(A.item (bh r x.var w)).fit 1:=hf.step q1 (by omega);have b0:=q2.ok (q1.ok hf.1);have l1:=Bq A (bh r x.var w);have l2:=Bq (A.item (bh r x.var w)) (bh r y.var w);have p1:=Ku A (bh r x.var w);have p2:=Ku (A.item (bh r x.var w)) (bh r y.var w);have m2:=q2.mn;have m3:=q1.it;have m4:=q2.it;have d0:=hf.2.1;refine gA Z (rn (d46 r A x.var w a0) ?_);refine gA Z (rn (d46 r _ y.var w c0) ?_);refine gA Z (rn (d168 r _ (A.ix (bh r x.var w)) ((A.item (bh r x.var w)).ix (bh r y.var w)) p1 p2 (by rw[b0.1];omega) (by rw[b0.1];omega) (by rw[b0.1];omega)) ?_);refine gA Z uq
  ·have g2: ¬bX y=0:=zF g2;rw[be g2];refine gA Z (zI (fun g3=>?_) fun g3=>?_)
   ·refine gA Z (rn (d46 r A x.var w a0) ?_);refine gA Z (rn (G4 r A lit x.var w (bX y) a0) ?_);refine gA Z uq
   ·exact absurd g1 (zF g3)
 ·have g1: ¬bX x=0:=zF g1;rw[be g1];refine gA Z (zI (fun g3=>?_) fun g3=>?_)
  ·exact absurd (zT g3) g1
  refine gA Z (zI (fun g2=>?_) fun g2=>?_)
  ·have g2:bX y=0:=zT g2;rw[am g2];refine gA Z (rn (d46 r A y.var w a0) ?_);refine gA Z (rn (G4 r A lit y.var w (bX x) a0) ?_);refine gA Z uq
  ·have g2: ¬bX y=0:=zF g2;rw[be g2];refine gA Z (rn (Lr r A lit (bX x) (bX y) a0) ?_);refine gA Z uq
theorem yp{p:Prog}{r:aq}{a:Atom}{lit w:Int}{A:AK}{i:Nat}(h:(gP p a.rel).types.length<=i): ∀k,fA p r a lit w A (i+k)=fA p r a lit w A i
 |0=>rfl
 |k+1=>by
  rw[<-Yu,fA,yp h k];unfold jJ;rw[be (by omega)]
set_option maxHeartbeats 1000000 in
theorem d85(p:Prog)(r:aq)(A:AK)(a:Atom)(lit w:Int)(hp:p.aB.length<=1000000000)(hf:A.fit a.ae.length):b8 prog 239 [.ptr 0 0,ag p.c,ag a.c,pI lit,pI w] (A.O (outer r)) (.bT []) ((fA p r a lit w A a.ae.length).H (outer r)) 7:=by
 have b0:=hf.2.1;refine aE ab func239 Z (by decide) ntmps239 Z (by simp) ?_;refine gA Z (zp (VT p a.rel (by omega)) ?_);refine gA Z ?_;refine aA 0 a.ae.length (W3 _) (fun i=>⟨[(0, .ptr 0 0),(3,pI lit),(4,pI w),(7, .ptr 5 0),(10, .ptr 6 0),(12,pI i)],AK.st (fA p r a lit w A i) (outer r) 0 7 [(5,some (an a.c)),(6,some (an (gP p a.rel).c))],10⟩) (fun _=>True) _ ac
  (Rj (A:=A) Z Z Z Z Z Z Z Z Z Z Z Z Z Z Z (bv (bv (bv (bv (bv (bv trivial)))))) (zK (zK trivial)) Z) fun i hi _=>?_
 refine gA Z (zI (fun h1=>?_) fun h1=>?_);rotate_left
 ·have h1:a.ae.length<=i:=zG h1;have:i=a.ae.length:=by omega
  subst this;refine gA Z uq
 have h1:i<a.ae.length:=zN h1;refine gA Z (zI (fun h2=>?_) fun h2=>?_);rotate_left
 ·have h2:(gP p a.rel).types.length<=i:=zG h2;have e:fA p r a lit w A a.ae.length=fA p r a lit w A i:=by
   have:=yp (r:=r) (lit:=lit) (w:=w) (A:=A) h2 (a.ae.length-i);rwa[show i+(a.ae.length-i)=a.ae.length by omega]at this
  rw[e];refine gA Z uq
 have h2:i<(gP p a.rel).types.length:=zN h2;have hs:fA p r a lit w A (i+1)=jJ p r a lit w i (fA p r a lit w A i):=rfl
 have hS:jJ p r a lit w i (fA p r a lit w A i)=(if(a.ae.getD i default).kind=1 then(fA p r a lit w A i).want lit (bh r (a.ae.getD i default).var w) (typeAt p a i)
  else if(a.ae.getD i default).kind=2 then(fA p r a lit w A i).ask ⟨lit, -1,typeAt p a i,(a.ae.getD i default).val.kind⟩ else fA p r a lit w A i):=am h2
 rw[hS]at hs;have a0:(fA p r a lit w A i).fit 1:=hf.step (wG p r a lit w A i) (by omega);generalize fA p r a lit w A i=B at*
 refine gA Z (zI (fun k1=>?_) fun k1=>?_)
 ·have k1:(a.ae.getD i default).kind=1:=zT k1;rw[am k1]at hs;refine gA Z (rn (d46 r B (a.ae.getD i default).var w a0) ?_);refine gA Z (rn (G4 r B lit (a.ae.getD i default).var w (typeAt p a i) a0) ?_);refine gA Z (zI (fun k2=>?_) fun k2=>?_)
  ·have k2:(a.ae.getD i default).kind=2:=zT k2;omega
  refine gA Z ⟨h1,ac,_,Az (hs.symm) (zK (zK ac))⟩
 have k1: ¬(a.ae.getD i default).kind=1:=zF k1;rw[be k1]at hs;refine gA Z (zI (fun k2=>?_) fun k2=>?_)
 ·have k2:(a.ae.getD i default).kind=2:=zT k2;rw[am k2]at hs;refine gA Z (Im (Lr r B lit (typeAt p a i) (a.ae.getD i default).val.kind a0) ?_);refine gA Z ⟨h1,ac,_,Az (hs.symm) (zK (zK ac))⟩
 ·have k2: ¬(a.ae.getD i default).kind=2:=zF k2;rw[be k2]at hs;refine gA Z ⟨h1,ac,_,Az (hs.symm) (zK (zK ac))⟩
theorem d87(p:Prog)(r:aq)(A:AK)(l:Lit)(lit w:Int)(hp:p.aB.length<=1000000000)(hf:A.fit l.size):b8 prog 241 [.ptr 0 0,ag p.c,ag l.c,pI lit,pI w] (A.O (outer r)) (.bT []) ((kX p r lit w l A).H (outer r)) 7:=by
 have a0:=l.size_eq;have hx:=l.left.size_eq;have hy:=l.right.size_eq;refine aE ab func241 Z (by decide) ntmps241 Z (by simp) ?_;refine gA Z (zI (fun k1=>?_) fun k1=>?_)
 ·have k1:l.kind=1:=zT k1;have hL:kX p r lit w l A=fA p r l.atom lit w A l.atom.ae.length:=am (.inl k1);rw[hL];refine gA Z (rn (d85 p r A l.atom lit w hp (hf.le (by omega))) ?_);refine gA Z uq
 have k1: ¬l.kind=1:=zF k1;refine gA Z (zI (fun k2=>?_) fun k2=>?_)
 ·have k2:l.kind=2:=zT k2;have hL:kX p r lit w l A=fA p r l.atom lit w A l.atom.ae.length:=am (.inr k2);rw[hL];refine gA Z (rn (d85 p r A l.atom lit w hp (hf.le (by omega))) ?_);refine gA Z uq
 have k2: ¬l.kind=2:=zF k2;have hL:kX p r lit w l A=if l.kind=3 then(if l.op=1∨l.op=2 then kU r lit w l.left l.right (ll r lit w l.right (ll r lit w l.left A)) else gk r lit w l.right (gk r lit w l.left A)) else A:=be (by rintro(h|h);exact k1 h;exact k2 h);rw[hL];refine gA Z (zI (fun k3=>?_) fun k3=>?_);rotate_left
 ·have k3: ¬l.kind=3:=zF k3;rw[be k3];refine gA Z uq
 have k3:l.kind=3:=zT k3;rw[am k3];have f0:A.fit l.left.size:=hf.le (by omega);have f1:(ll r lit w l.left A).fit l.right.size:=hf.step (sU r lit w l.left A) (by omega);have f2:(ll r lit w l.right (ll r lit w l.left A)).fit 2:=hf.step ((sU r lit w l.left A).trans (sU r lit w l.right _)) (by omega);have f3:(gk r lit w l.left A).fit l.right.size:=hf.step (nr r lit w _ l.left A (W0 _)) (by omega);refine gA Z (zI (fun g1=>?_) fun g1=>?_)
 ·have g1: ¬l.op=1:=zF g1;refine gA Z (zI (fun g2=>?_) fun g2=>?_)
  ·have g2:l.op=2:=zT g2;rw[am (.inr g2)];refine gA Z (rn (DJ r A l.left lit w f0) ?_);refine gA Z (rn (DJ r _ l.right lit w f1) ?_);refine gA Z (rn (d134 r _ l.left l.right lit w f2) ?_);refine gA Z uq
  ·have g2: ¬l.op=2:=zF g2;rw[be (by rintro(h|h);exact g1 h;exact g2 h)];refine gA Z (rn (DK r A l.left lit w f0) ?_);refine gA Z (rn (DK r _ l.right lit w f3) ?_);refine gA Z uq
 ·have g1:l.op=1:=zT g1;rw[am (.inl g1)];refine gA Z (rn (DJ r A l.left lit w f0) ?_);refine gA Z (rn (DJ r _ l.right lit w f1) ?_);refine gA Z (rn (d134 r _ l.left l.right lit w f2) ?_);refine gA Z uq
theorem d86(p:Prog)(r:aq)(A:AK)(g:eQ)(i:Int)(hp:p.aB.length<=1000000000)(hf:A.fit (g.dT.size+2+Lit.ax g.body)):b8 prog 240 [.ptr 0 0,ag p.c,ag g.c,pI i] (A.O (outer r)) (.bT []) ((El p r i (ux r i g.func g.var g.dT A) g.body g.body.length).H (outer r)) 7:=by
 have e0:=Lit.aw g.body;have f0:=hf.2.1;have g0:=g.dT.size_eq;have gV:=KJ r i g.func g.var g.dT A;have c0:(ux r i g.func g.var g.dT A).fit (Lit.ax g.body):=hf.step gV (by omega);have hV:ux r i g.func g.var g.dT A=if g.func=1 then gk r i i (iQ g.var) A else if g.func=2 then gk r i i g.dT (gk r i i (iQ g.var) A) else kU r i i (iQ g.var) g.dT (ll r i i g.dT A):=rfl;refine b8.le (args:=[.ptr 0 0,ag p.c,ag g.c1,pI i]) ?_ ⟨.refl _, .refl _,g.xG, .refl _,ac⟩;generalize ux r i g.func g.var g.dT A=V at*
 have i0:=jh g.var;refine aE ab func240 Z (by decide) ntmps240 Z (by simp) ?_;refine gA Z (zI (fun f1=>?_) fun f1=>?_)
 ·have f1:g.func=1:=zT f1;rw[am f1]at hV;refine gA Z (rn (b8.le (aa:=[.ptr 0 0,En g.var,pI i,pI i]) (DK r A (iQ g.var) i i (hf.le (by omega))) ⟨.refl _,qH _, .refl _, .refl _,ac⟩) ?_);refine gA Z ?_;refine aA 0 g.body.length (W3 _) (fun k=>⟨[(0, .ptr 0 0),(3,pI i),(5, .ptr 4 0),(6, .ptr 5 0),(9,pI k)],AK.st (El p r i V g.body k) (outer r) 0 10 [(4,some (an p.c)),(5,some (an g.c1))],13⟩) (fun _=>True) _ ac
   (Rj (A':=V) hV.symm Z Z Z Z Z Z Z Z Z Z Z Z Z Z (bv (bv (bv (bv (bv trivial))))) (zK (zK trivial)) Z) fun k hk _=>?_
  refine gA Z (zI (fun h1=>?_) fun h1=>?_)
  ·have h1:k<g.body.length:=zN h1;have hn:=eI g.body k h1;have hs:El p r i V g.body (k+1)=kX p r i i (g.body.getD k default) (El p r i V g.body k):=rfl;have b0:=c0.step (b:=(g.body.getD k default).size) (Dp p r i V g.body k hk) (by omega);refine gA Z (Im (d87 p r _ (g.body.getD k default) i i hp b0) ?_);refine gA Z ⟨h1,ac,_,Az (hs.symm) (zK (zK ac))⟩
  ·have h1:g.body.length<=k:=zG h1;have a0:k=g.body.length:=by omega
   subst a0;refine gA Z uq
 have f1: ¬g.func=1:=zF f1;rw[be f1]at hV;refine gA Z (zI (fun f2=>?_) fun f2=>?_)
 ·have f2:g.func=2:=zT f2;rw[am f2]at hV;have d0:(gk r i i (iQ g.var) A).fit g.dT.size:=hf.step (nr r i i _ (iQ g.var) A (W0 _)) (by omega);refine gA Z (rn (b8.le (aa:=[.ptr 0 0,En g.var,pI i,pI i]) (DK r A (iQ g.var) i i (hf.le (by omega))) ⟨.refl _,qH _, .refl _, .refl _,ac⟩) ?_);refine gA Z (rn (DK r _ g.dT i i d0) ?_);refine gA Z ?_;refine aA 0 g.body.length (W3 _) (fun k=>⟨[(0, .ptr 0 0),(3,pI i),(5, .ptr 4 0),(6, .ptr 5 0),(9,pI k)],AK.st (El p r i V g.body k) (outer r) 0 13 [(4,some (an p.c)),(5,some (an g.c1))],16⟩) (fun _=>True) _ ac
   (Rj (A':=V) hV.symm Z Z Z Z Z Z Z Z Z Z Z Z Z Z (bv (bv (bv (bv (bv trivial))))) (zK (zK trivial)) Z) fun k hk _=>?_
  refine gA Z (zI (fun h1=>?_) fun h1=>?_)
  ·have h1:k<g.body.length:=zN h1;have hn:=eI g.body k h1;have hs:El p r i V g.body (k+1)=kX p r i i (g.body.getD k default) (El p r i V g.body k):=rfl;have b0:=c0.step (b:=(g.body.getD k default).size) (Dp p r i V g.body k hk) (by omega);refine gA Z (Im (d87 p r _ (g.body.getD k default) i i hp b0) ?_);refine gA Z ⟨h1,ac,_,Az (hs.symm) (zK (zK ac))⟩
  ·have h1:g.body.length<=k:=zG h1;have a0:k=g.body.length:=by omega
   subst a0;refine gA Z uq
 ·have f2: ¬g.func=2:=zF f2;rw[be f2]at hV;have d0:(ll r i i g.dT A).fit 2:=hf.step (sU r i i g.dT A) (by omega);refine gA Z (rn (DJ r A g.dT i i (hf.le (by omega))) ?_);refine gA Z (rn (b8.le (aa:=[.ptr 0 0,En g.var,ag g.dT.c,pI i,pI i]) (d134 r _ (iQ g.var) g.dT i i d0) ⟨.refl _,qH _, .refl _, .refl _, .refl _,ac⟩) ?_);refine gA Z ?_;refine aA 0 g.body.length (W3 _) (fun k=>⟨[(0, .ptr 0 0),(3,pI i),(5, .ptr 4 0),(6, .ptr 5 0),(9,pI k)],AK.st (El p r i V g.body k) (outer r) 0 13 [(4,some (an p.c)),(5,some (an g.c1))],16⟩) (fun _=>True) _ ac
   (Rj (A':=V) hV.symm Z Z Z Z Z Z Z Z Z Z Z Z Z Z (bv (bv (bv (bv (bv trivial))))) (zK (zK trivial)) Z) fun k hk _=>?_
  refine gA Z (zI (fun h1=>?_) fun h1=>?_)
  ·have h1:k<g.body.length:=zN h1;have hn:=eI g.body k h1;have hs:El p r i V g.body (k+1)=kX p r i i (g.body.getD k default) (El p r i V g.body k):=rfl;have b0:=c0.step (b:=(g.body.getD k default).size) (Dp p r i V g.body k hk) (by omega);refine gA Z (Im (d87 p r _ (g.body.getD k default) i i hp b0) ?_);refine gA Z ⟨h1,ac,_,Az (hs.symm) (zK (zK ac))⟩
  ·have h1:g.body.length<=k:=zG h1;have a0:k=g.body.length:=by omega
   subst a0;refine gA Z uq
set_option maxHeartbeats 2000000 in
theorem d45(p:Prog)(r:aq)(hp:p.aB.length<=1000000000)(hs:r.size<=1000000000):b8 prog 210 [ag p.c,ag r.c] [] (.ptr 0 0) ((mX p r).K (outer r)) 4:=by
 have hz:r.size=r.head.ae.length+Lit.ax r.body:=rfl;have c0:AK.o.fit r.size:=⟨Uc,by show 0+_<=_;omega,by show 0+_<=_;omega⟩
 have e0:=Lit.aw r.body;refine aE ab func210 Z (by decide) ntmps210 Z (by simp) ?_;refine gA Z (zp (Td r (by omega)) ?_);refine gM 4 Z (kB 2 0 2 Z Z (kB 2 1 1 Z Z (kB 2 2 4 Z Z ?_)));refine gA Z (rn (d85 p r AK.o r.head (-1) (-1) hp (c0.le (by omega))) ?_);refine gA Z ?_;refine aA 0 r.body.length (W3 _) (fun i=>⟨[(2, .ptr 0 0),(3, .ptr 1 0),(5, .ptr 2 0),(6,pI i)],AK.st (kZ p r i) (outer r) 2 9 [(0,some (an p.c)),(1,some (an r.c))],12⟩) (fun _=>True) _ ac
  (Rj (A':=kZ p r 0) Z Z Z Z Z Z Z Z Z Z Z Z Z Z Z (bv (bv (bv (bv trivial)))) (zK (zK trivial)) Z) fun i hi _=>?_
 refine gA Z (zI (fun h1=>?_) fun h1=>?_);rotate_left
 ·have h1:r.body.length<=i:=zG h1;have d0:i=r.body.length:=by omega
  subst d0;refine gA Z (aC [2,9,10,11] (by first|exact .inr Z|exact .inl Z) Z (zW (zO (zS (zS (zS ac))))))
 have h1:i<r.body.length:=zN h1;have hn:=eI r.body i h1;have f0:=(r.body.getD i default).size_eq;have b0:=c0.step (b:=(r.body.getD i default).size) (By p r i hi) (by omega);have hs:kZ p r (i+1)=rz p r i (r.body.getD i default) (kZ p r i):=rfl;generalize kZ p r i=B at*
 refine gA Z (zI (fun k4=>?_) fun k4=>?_)
 ·have k4:(r.body.getD i default).kind=4:=zT k4;have a0:rz p r i (r.body.getD i default) B=El p r i (ux r i (r.body.getD i default).agg.func (r.body.getD i default).agg.var (r.body.getD i default).agg.dT B) (r.body.getD i default).agg.body (r.body.getD i default).agg.body.length:=am k4;rw[a0]at hs;refine gA Z (Im (d86 p r B (r.body.getD i default).agg i hp (b0.le (by show(r.body.getD i default).km.size+2+Lit.ax (r.body.getD i default).ar<=_;omega))) ?_);refine gA Z ⟨h1,ac,_,Az (hs.symm) (zK (zK ac))⟩
 ·have k4: ¬(r.body.getD i default).kind=4:=zF k4;have a0:rz p r i (r.body.getD i default) B=kX p r i (-1) (r.body.getD i default) B:=be k4;rw[a0]at hs;refine gA Z (Im (d87 p r B (r.body.getD i default) i (-1) hp b0) ?_);refine gA Z ⟨h1,ac,_,Az (hs.symm) (zK (zK ac))⟩
abbrev AK.P(A:AK)(o:List aj):PV:= .iv (.mf [dy 2 A.items aL.c,dy 1 A.root ba,dy 4 A.l Ask.c,strs o])
theorem DC{α:Type}[Inhabited α]{l:List α}{f:α->Bool}{i:Nat}(h:(l.take i).any f=false)(hi:i<l.length)(hf:f (l.getD i default)=true):l.find? f=some (l.getD i default):=by
 rw[WU,WY hi]at hf ⊢;refine YZ.2 ⟨hf,i,hi,rfl,fun j hj=>?_⟩;have:=XO.1 h (l[j]'(by omega)) (Zf.2 ⟨j,by omega,rfl⟩);simpa using this
theorem c47(A:AK)(o:List aj)(i:Int)(h0:0<=i)(hi:i<A.root.length)(hk: ∀k∈A.l,k.item<A.root.length)(hb:A.l.length<=1000000000):Pure prog 211 [A.P o,pI i] (pI (A.kind i)):=by
 refine ad ab func211 Z (by decide) ntmps211 Z (by simp) Z ?_;refine gA Z ?_;refine aA 0 A.l.length (W3 _) (fun n=>⟨[(0,A.P o),(1,pI i),(5,pI n)],[],0⟩) (fun n=>(A.l.take n).any (fun k=>decide (k.item>=0)&&decide (A.rt k.item=A.rt i))=false) [] (by simp) (mH Z Z (bv (bv (bv ac))) Z) fun n hn hJ=>?_;refine gA Z (zI (fun h1=>?_) fun h1=>?_);rotate_left
 ·have h1:A.l.length<=n:=zG h1;have e:A.kind i=0:=by
   unfold AK.kind;rw[fV (any_none hJ h1)];rfl
  rw[e];refine gA Z (zL (.of_eq ?_));rfl
 have h1:n<A.l.length:=zN h1;have hm:=hk (A.l.getD n default) (by rw[WU,WY h1];exact XD h1);refine gA Z (zI (fun g1=>?_) fun g1=>?_);rotate_left
 ·have g1: ¬(A.l.getD n default).item>=0:=zF g1
  repeat(refine gA Z (zI (fun q=>?_) (fun q=>?_));all_goals(try(simp at q;done)))
  refine gA Z ⟨h1,(bq hJ h1).2 (by rw[decide_eq_false g1];rfl),[],mH Z Z (bv (bv (bv ac))) Z⟩
 have g1:(A.l.getD n default).item>=0:=zT g1;refine gA Z (zI (fun g2=>?_) fun g2=>?_)
 ·have g2:A.rt (A.l.getD n default).item=A.rt i:=zT g2;have e:A.kind i=(A.l.getD n default).type:=by
   unfold AK.kind;rw[DC hJ h1 (by rw[decide_eq_true g1,decide_eq_true g2];rfl)];rfl
  rw[e];refine gA Z (zL (.of_eq ?_));rfl
 ·have g2: ¬A.rt (A.l.getD n default).item=A.rt i:=zF g2;refine gA Z ⟨h1,(bq hJ h1).2 (by rw[decide_eq_false g2,Yz]),[],mH Z Z (bv (bv (bv ac))) Z⟩
theorem Rel.sub{M:Mem}{N:Nm}{U:Nat->Prop}{h h':AH}{w:World}(hr:Rel M N U h w)(hs: ∀j o,h'.get j=some o->h.get j=some o):Rel M N U h' w:=
 ⟨hr.dF,fun i o hi=>hr.used i o (hs i o hi),fun i o hi=>hr.eK i o (hs i o hi),fun i o hi=>hr.obj i o (hs i o hi),fun i j o p hi hj=>hr.inj i j o p (hs i o hi) (hs j p hj)⟩
theorem GU(i sz:Nat)(el:Nat->List IV): ∀l:List IV,nY i sz el (l.map .iv)=l.map .iv
 | []=>rfl
 |x::l=>by rw[Xe,nY,GU i sz el l];rfl
theorem sq{α:Type}(i sz:Nat)(el:Nat->List IV)(a0:Nat)(l:List α)(f:α->List IV):(aD a0 l f).gH i sz el=aD a0 l f:=by
 simp only[aD,AO.gH,Y0];congr 1;exact Yx fun x _=>GU i sz el _
theorem lB{α:Type}(i sz n a0:Nat)(l:List α)(f:α->List IV):(aD a0 l f).uQ i sz n:=by
 intro e he;obtain⟨x,_,rfl⟩:=Xt.1 he;exact qT _ _ _ _
theorem FC{a b:Nat}(h: ¬a=b):Xn a b=false:=X7.2 fun e=>h (Xh e)
theorem wQ(a:Nat):Xn a a=true:=Nat.beq_refl a
theorem fzK{M:Mem}{N:Nm}{n:Nat}{h:AH}{w:World}(A:AK)(o:List aj)(rest:List PV){i a b c:Nat}(hb:vP rest=true)
  (hi:h.get i=some (AK.cell o a b c A.items.length A.root.length A.l.length)) (h1:h.get a=some (aD 2 A.items aL.c)) (h2:h.get b=some (aD 1 A.root ba)) (h3:h.get c=some (aD 4 A.l Ask.c)) (hn:bN [i,a,b,c]=true) (hr:Rel M N (· <n) h w):
  ∃M1:Mem,M.le M1∧Rel M1 N (· <n) [] w∧ ∀(j:Nat) (p:PV) (x:Value),(A.P o::rest)[j]? =some p->(∀q,(PV.ptr i 0::rest)[j]? =some q->VR M N (· <n) q x)->VR M1 N (· <n) p x:=by
 have hnd:=dd hn;simp only[X5,Xb,Zs,or_false,not_or]at hnd;obtain⟨⟨e1,e2,e3⟩,⟨e4,e5⟩,e6,_⟩:=hnd;have r0:Rel M N (· <n) [(i,some (AK.cell o a b c A.items.length A.root.length A.l.length)),(a,some (aD 2 A.items aL.c)),(b,some (aD 1 A.root ba)),(c,some (aD 4 A.l Ask.c))] w:=Rel.sub hr fun j x hj=>by
  simp only[AH.au]at hj;split at hj
  ·rename_i e;subst e;rw[<-hj];exact hi
  split at hj
  ·rename_i e;subst e;rw[<-hj];exact h1
  split at hj
  ·rename_i e;subst e;rw[<-hj];exact h2
  split at hj
  ·rename_i e;subst e;rw[<-hj];exact h3
  ·cases hj
 obtain⟨M1,l1,r1,v1⟩:=uM r0 a (fun k=>aL.c (A.items.getD k default)) (es:=A.items.map fun x=>(aL.c x).map .iv) (sz:=2) (by rw[AH.au,be (Ne.symm e1),AH.au,am Z];rfl) (cX Z)
  ⟨by simp[AO.uQ,dw,PV.bH,Ne.symm e4,Ne.symm e5],lB _ _ _ _ _ _,lB _ _ _ _ _ _,lB _ _ _ _ _ _,ac⟩
 have a0:Rel M1 N (· <n) [(i,some (.cells [.iv (dy 2 A.items aL.c), .sl b 0 A.root.length 1, .sl c 0 A.l.length 4, .iv (strs o)])),(b,some (aD 1 A.root ba)),(c,some (aD 4 A.l Ask.c))] w:=Rel.sub r1 fun j x hj=>by
  simp only[AH.au]at hj;rw[AH.au,AH.j8];split at hj
  ·rename_i e;subst e;rw[be e1,AH.au,am Z,<-hj];simp only[XW,AO.gH,nY,PV.dF,wQ,FC (Ne.symm e4),FC (Ne.symm e5),cond_true,cond_false,Xk]
  split at hj
  ·rename_i e;subst e;rw[be (Ne.symm e4),AH.au,be (Ne.symm e2),AH.au,be (Ne.symm e4),AH.au,am Z,<-hj,XW,sq]
  split at hj
  ·rename_i e;subst e;rw[be (Ne.symm e5),AH.au,be (Ne.symm e3),AH.au,be (Ne.symm e5),AH.au,be (Ne.symm e6),AH.au,am Z,<-hj,XW,sq]
  ·cases hj
 obtain⟨M2,l2,r2,v2⟩:=uM a0 b (fun k=>ba (A.root.getD k default)) (es:=A.root.map fun x=>(ba x).map .iv) (sz:=1) (by rw[AH.au,be (Ne.symm e2),AH.au,am Z];rfl) (cX Z)
  ⟨by simp[AO.uQ,dw,PV.bH,Ne.symm e6],lB _ _ _ _ _ _,lB _ _ _ _ _ _,ac⟩
 have b0:Rel M2 N (· <n) [(i,some (.cells [.iv (dy 2 A.items aL.c), .iv (dy 1 A.root ba), .sl c 0 A.l.length 4, .iv (strs o)])),(c,some (aD 4 A.l Ask.c))] w:=Rel.sub r2 fun j x hj=>by
  simp only[AH.au]at hj;rw[AH.au,AH.j8];split at hj
  ·rename_i e;subst e;rw[be e2,AH.au,am Z,<-hj];simp only[XW,AO.gH,nY,PV.dF,wQ,FC (Ne.symm e6),cond_true,cond_false,Xk]
  split at hj
  ·rename_i e;subst e;rw[be (Ne.symm e6),AH.au,be (Ne.symm e3),AH.au,be (Ne.symm e6),AH.au,am Z,<-hj,XW,sq]
  ·cases hj
 obtain⟨M3,l3,r3,v3⟩:=uM b0 c (fun k=>Ask.c (A.l.getD k default)) (es:=A.l.map fun x=>(Ask.c x).map .iv) (sz:=4) (by rw[AH.au,be (Ne.symm e3),AH.au,am Z];rfl) (cX Z)
  ⟨by simp[AO.uQ,dw,PV.bH],lB _ _ _ _ _ _,ac⟩
 have c0:Rel M3 N (· <n) [(i,some (.cells [.iv (dy 2 A.items aL.c), .iv (dy 1 A.root ba), .iv (dy 4 A.l Ask.c), .iv (strs o)]))] w:=Rel.sub r3 fun j x hj=>by
  simp only[AH.au]at hj;rw[AH.au,AH.j8];split at hj
  ·rename_i e;subst e;rw[be e3,AH.au,am Z,<-hj];simp only[XW,AO.gH,nY,PV.dF,wQ,cond_true,Xk]
  ·cases hj
 obtain⟨M4,x4,r4,v4⟩:=z6 (l:=[dy 2 A.items aL.c,dy 1 A.root ba,dy 4 A.l Ask.c,strs o]) c0 (i:=i) (cs:=[.iv (dy 2 A.items aL.c), .iv (dy 1 A.root ba), .iv (dy 4 A.l Ask.c), .iv (strs o)]) (T0:=none) (by rw[AH.au,am Z]) Z;have d0:=(l1.trans l2).trans (l3.trans x4.rF);refine⟨M4,d0,Rel.sub r4 (fun j x hj=>nomatch hj),fun j p x hj hq=>?_⟩;cases j with
 |zero=>
  cases hj;have g1:=v1 _ _ (hq _ Z) ac;have g2:=v2 _ _ g1 ac;have g3:=v3 _ _ g2 ac;have g4:=v4 _ _ g3;simp only[PV.dF,PV.Io,wQ,cond_true,List.drop_zero]at g4;exact g4
 |succ j=>exact ui (hq p hj) (lH hb j p hj)
theorem SW(r:aq)(lit:Int)(h1:lit<r.body.length):Pure prog 208 [ag r.c,pI lit] (ag [iI (fh r lit).line,iI (fh r lit).G6]):=by
 refine ad ab func208 Z (by decide) ntmps208 Z (by simp) Z ?_;refine gA Z (zI (fun h2=>?_) fun h2=>?_)
 ·have h2:lit<0:=by simpa using h2
  refine gA Z (zL (.of_eq ?_));rw[fh,am h2];rfl
 have h2: ¬lit<0:=by simpa using h2
 refine gA Z (zL (.of_eq ?_));rw[fh,be h2];rfl
theorem Q7(e:Int)(q:Pos):Pure prog 132 [pI e,ag [iI q.line,iI q.G6]] (ag (aZ.c (e,q))):=by
 refine ad ab func132 Z (by decide) ntmps132 Z (by simp) Z ?_;refine gA Z (zL (.of_eq ?_));rfl
theorem uD{α:Type}(σ:Nat->Nat)(l:List α)(f:α->List IV):(l.map fun x=>(f x).map PV.iv).map (dS σ)=l.map fun x=>(f x).map PV.iv:=by
 rw[Y0];exact Yx fun x _=>wo σ _
set_option maxHeartbeats 1000000 in
theorem c68(p:Prog)(r:aq)(hp:p.aB.length<=1000000000)(hs:r.size<=1000000000):Pure prog 176 [ag p.c,ag r.c] (ag (iR r (mX p r)).c):=by
 have hz:r.size=r.head.ae.length+Lit.ax r.body:=rfl;have g0:=By p r r.body.length (W0 _);have k0:(mX p r).ok:=g0.ok Uc;have i0: ∀k∈(mX p r).l, -1<=k.place∧k.place<r.body.length:=(mW p r r.body.length).2;have m0:(mX p r).l.length<=1000000000:=by
  have h1:=g0.ln;rw[YE]at h1;have:AK.o.l.length=0:=rfl;show(kZ p r r.body.length).l.length<=_;omega
 refine ad ab func176 Z (by decide) ntmps176 Z (by simp) Z ?_;refine gA Z (zq [] (d45 p r hp hs) ?_);generalize mX p r=A at*
 obtain⟨e0,d0⟩:=k0;refine gA Z ?_;refine aA 0 A.l.length (W3 _) (fun i=>⟨[(3, .ptr 1 0),(4, .ptr 2 0),(5, .ptr 3 0),(6,pI i)],[(1,some (an r.c)),(2,some (an aZ.z.c)),(3,some (AK.cell (outer r) 4 5 6 A.items.length A.root.length A.l.length)),(4,some (aD 2 A.items aL.c)),(5,some (aD 1 A.root ba)),(6,some (aD 4 A.l Ask.c))],7⟩) (fun i=>(A.l.take i).any A.bad=false) [] (by simp)
  (zW (zK (zK (zO (hR Z (uD _ _ _) Z (hR Z (uD _ _ _) Z (hR Z (uD _ _ _) Z trivial))))))) fun i hi hJ=>?_
 refine gA Z (zI (fun h1=>?_) fun h1=>?_);rotate_left
 ·have h1:A.l.length<=i:=zG h1;have e:iR r A=aZ.z:=by
   unfold iR;rw[fV (any_none hJ h1)]
  rw[e];refine gA Z (zL (.of_eq ?_));rfl
 have h1:i<A.l.length:=zN h1;have hm:A.l.getD i default∈A.l:=by rw[WU,WY h1];exact XD h1
 have j0:=d0 _ hm;obtain⟨n0,f0⟩:=i0 _ hm;have a0:A.bad (A.l.getD i default)=!decide ((if(A.l.getD i default).item>=0 then A.kind (A.l.getD i default).item else(A.l.getD i default).pW)=(A.l.getD i default).type):=rfl;have c0:A.bad (A.l.getD i default)=true->iR r A=(63,fh r (A.l.getD i default).place):=fun h=>by
  unfold iR;rw[DC hJ h1 h]
 have b0:A.bad (A.l.getD i default)=false->(A.l.take (i+1)).any A.bad=false:=fun h=>(bq hJ h1).2 h;refine gM 11 Z (b4 ab Z Z Z Z Z (jt h1) Z Z ?_);refine gA Z (zI (fun g1=>?_) fun g1=>?_)
 ·have g1:(A.l.getD i default).item>=0:=zT g1;rw[am g1]at a0;refine gA Z (KZ (asv:=[.ptr 3 0,pI (A.l.getD i default).item]) (Pure.Vq (c47 A (outer r) (A.l.getD i default).item g1 (by rw[e0];exact j0) (fun k hk=>by rw[e0];exact d0 k hk) m0)) Z Z Z Z Z (fun M N w hr=>fzK A (outer r) [pI (A.l.getD i default).item] Z Z Z Z Z Z hr) Z (fun j o hj=>nomatch hj) Z ?_);refine gA Z (zI (fun g2=>?_) fun g2=>?_)
  ·have g2:A.bad (A.l.getD i default)=true:=by
    rw[a0];exact g2
   rw[c0 g2];refine gA Z (zp (SW r (A.l.getD i default).place f0) ?_);refine gA Z (zp (Q7 63 (fh r (A.l.getD i default).place)) ?_);refine gA Z (zL (.of_eq ?_));rfl
  ·have g2:A.bad (A.l.getD i default)=false:=by
    rw[a0];exact g2
   refine gA Z ⟨h1,b0 g2,[],zW (zK (zK (zO (zS (zS (zS ac))))))⟩
 ·have g1: ¬(A.l.getD i default).item>=0:=zF g1;rw[be g1]at a0;refine gA Z (zI (fun g2=>?_) fun g2=>?_)
  ·have g2:A.bad (A.l.getD i default)=true:=by
    rw[a0];exact g2
   rw[c0 g2];refine gA Z (zp (SW r (A.l.getD i default).place f0) ?_);refine gA Z (zp (Q7 63 (fh r (A.l.getD i default).place)) ?_);refine gA Z (zL (.of_eq ?_));rfl
  ·have g2:A.bad (A.l.getD i default)=false:=by
    rw[a0];exact g2
   refine gA Z ⟨h1,b0 g2,[],zW (zK (zK (zO (zS (zS (zS ac))))))⟩
theorem Va(t:nC):Pure prog 266 [ag t.c] (.bT [pS (if t.2=true then⟨#[]⟩ else t.1),pI (if t.2=true then 50 else 0)]):=by
 refine ad ab func266 Z (by decide) ntmps266 Z (by simp) Z ?_;refine gA Z (zI (fun g=>?_) fun g=>?_)
 ·have g:t.2=true:=g;rw[am g,am g];refine gA Z (zL (.of_eq ?_));rfl
 ·have g: ¬t.2=true:=by
   have g:t.2=false:=g;rw[g];decide
  rw[be g,be g];refine gA Z (zL (.of_eq ?_));rfl
set_option maxHeartbeats 4000000 in
theorem SV(a:Atom)(b0:a.ts<=900000000)(hl:a.ae.length<=1000000000):Pure prog 267 [ag a.c] (ag (eZ a).c):=by
 have a0:a.ts=a.rel.size+10+(a.ae.map Term.ts).sum:=rfl;have e1:(⟨#[40]⟩:ByteArray).size=1:=rfl;have e3:(⟨#[44,32]⟩:ByteArray).size=2:=rfl;have e4:(⟨#[95]⟩:ByteArray).size=1:=rfl;have e5:((eC a 0).1++(⟨#[41]⟩:ByteArray)).size=(eC a 0).1.size+1:=XU;refine ad ab func267 Z (by decide) ntmps267 Z (by simp) Z ?_;refine gA Z (zp (U6 a.rel (by omega)) ?_);refine gA Z ?_;refine aA 0 a.ae.length (W3 _) (fun i=>⟨[(1, .ptr 0 0),(2, .ptr 1 0),(4, .ptr 2 0),(5,pI i)],[(0,some (an a.c)),(1,some (.cells [pS W4,pB false])),(2,some (an (eC a i).c))],3⟩) (fun _=>True) [] ac
  (zW (zK (zO (zK trivial)))) fun i hi _=>?_
 refine gA Z (zI (fun h1=>?_) fun h1=>?_);rotate_left
 ·have h1:a.ae.length<=i:=zG h1;have c0:i=a.ae.length:=by omega
  subst c0;have h2:=oT a a.ae.length (W0 _);rw[W2 (W0 _)]at h2;have e2:(⟨#[41]⟩:ByteArray).size=1:=rfl;refine gA Z (zL (.of_eq ?_));rfl
 have h1:i<a.ae.length:=zN h1;have h2:=oT a i (by omega);have h3:=uy a.ae i h1;have h4:(a.ae.getD i default).ts=(a.ae.getD i default).var.size+310:=rfl;have h5:=nD (a.ae.getD i default).val;have h6:((eC a i).1++(⟨#[44,32]⟩:ByteArray)).size=(eC a i).1.size+2:=XU;have hp:=sB (a.ae.getD i default).kind (a.ae.getD i default).var (a.ae.getD i default).val
 repeat' (first
  |(refine gA Z (zI (fun q=>?_) (fun q=>?_)))
  |(refine gA Z (bn (U5 (a.ae.getD i default).kind (a.ae.getD i default).var (a.ae.getD i default).val (by omega)) Z Z Z Z Z Z ?_)))
 all_goals(refine gA Z ?_)
 all_goals clear h2 h3 h4 h5 h6 hp b0 a0 e1 e3 e4 e5 hi
 all_goals have hE:W4=(⟨#[]⟩:ByteArray):=rfl
 all_goals exact⟨h1,ac,[],zW (zK (zO ⟨⟨_,rfl, .cells ⟨.of_eq (congrArg pS (by simp_all [eC,oX,LR,eS,vZ,Jy])),(by first|exact .of_eq (fu (by simp_all [eC,oX,LR,eS,cK]))|exact .te (by simp_all [eC,oX,LR,eS,cK])),ac⟩⟩,WR Z,rfl,ac⟩))⟩
theorem WG(a:Atom)(a0:a.ts<=900000000)(hl:a.ae.length<=1000000000):Pure prog 249 [ag a.c] (.bT [pS (if(eZ a).2=true then⟨#[]⟩ else(eZ a).1),pI (if(eZ a).2=true then 50 else 0)]):=by
 refine ad ab func249 Z (by decide) ntmps249 Z (by simp) Z ?_;refine gA Z (zp (SV a a0 hl) ?_);refine gA Z (zp (Va (eZ a)) ?_);refine gA Z (zL (.of_eq ?_));rfl
theorem c62(a:Atom)(a0:a.ts<=900000000)(hl:a.ae.length<=1000000000):Pure prog 232 [ag a.c] (pB (!(eZ a).2)):=by
 refine ad ab func232 Z (by decide) ntmps232 Z (by simp) Z ?_;refine gA Z (zp (WG a a0 hl) ?_);refine gA Z (zL (.of_eq ?_));refine(fu ?_:pB _=pB _);cases(eZ a).2<;>rfl
theorem Fy(e:Expr):Pure prog 292 [ag e.c] (pI (bw e)):=by
 refine ad ab func292 Z (by decide) ntmps292 Z (by simp) Z ?_
 repeat' (first|(refine gA Z (zI (fun _=>?_) (fun _=>?_)))|(refine gA Z (zL (.of_eq ?_))))
 all_goals(refine congrArg pI ?_;simp_all [bw])
theorem V0(op:Int):Pure prog 293 [pI op] (pS (xf op)):=by
 refine ad ab func293 Z (by decide) ntmps293 Z (by simp) Z ?_
 repeat' (first|(refine gA Z (zI (fun _=>?_) (fun _=>?_)))|(refine gA Z (zL (.of_eq ?_))))
 all_goals(refine congrArg pS ?_;simp_all [xf])
theorem nU{e:Expr}{b:Bool}{k:nC}(a0: ¬(e.kind=1∨e.kind=2))(h: ¬e.kind=4∨b=true∨ ¬e.var=⟨#[]⟩∨cK e.val=false∨e.op<1∨e.op>6):il e b k=ny:=by
 unfold il;rw[be a0,am h]
theorem sR{e:Expr}{b:Bool}{k:nC}(a0:e.kind=1∨e.kind=2):il e b k=((eS e.kind e.var e.val).1,(eS e.kind e.var e.val).2||(b||(!decide (e.op=0)||decide ((e.args.length:Int)>0)))):=by
 unfold il;rw[am a0];rfl
theorem Fc{e:Expr}{k:nC}(h4:e.kind=4)(h:e.var=⟨#[]⟩)(hz:cK e.val=true)(h1: ¬e.op<1)(h6: ¬e.op>6):il e false k=k:=by
 unfold il;rw[be (by omega),be];rintro(g|g|g|g|g|g)
 ·exact g h4
 ·cases g
 ·exact g h
 ·rw[hz]at g;cases g
 ·exact h1 g
 ·exact h6 g
theorem It{e:Expr}{n:Nat}(hn:n<=1)(a0: ¬(e.kind=1∨e.kind=2)):bE n e=ny:=by
 have hk: ∀b,il e b ny=ny:=fun b=>by
  unfold il;rw[be a0];split<;>rfl
 match n,hn with
 |0,_=>exact hk true
 |1,_=>exact hk false
theorem Fp{e:Expr}{n:Nat}(a0:e.kind=1∨e.kind=2):bE n e=((eS e.kind e.var e.val).1,(eS e.kind e.var e.val).2||(decide (n=0)||(!decide (e.op=0)||decide ((e.args.length:Int)>0)))):=by
 match n with
 |0=>exact sR a0
 |1=>exact sR a0
 |m+2=>exact sR a0
theorem fH:aH (.agg [pS W4, .kb true]) (ag ny.c):= .agg ⟨.of_eq Z, .te Z,ac⟩
def PT(n:Nat):Prop:= ∀(d:Int) (e:Expr),d=(n:Int)-1->e.ts<=900000000->Pure prog 280 [ag e.c,pI d] (ag (bE n e).c)
theorem DV(n:Nat)(hn:n<=1000)(hA:PT (n+1))(hB:PT n)(a0:Bool)(d:Int)(hd:d=n)(a:Expr)(b0:a.ts<=900000000):Pure prog 291 [ag a.c,pB a0,pI d] (ag (kf n a0 a).c):=by
 have h0:=fp n a;have e1:(⟨#[40]⟩:ByteArray).size=1:=rfl;have e2:(⟨#[41]⟩:ByteArray).size=1:=rfl;have e3:((⟨#[40]⟩:ByteArray)++(bE n a).1).size=(⟨#[40]⟩:ByteArray).size+(bE n a).1.size:=XU;have c0:decide (d<1)=decide (n<1):=decide_eq_decide.2 (by omega);refine ad ab func291 Z (by decide) ntmps291 Z (by simp) Z ?_;refine gA Z (zI (fun g=>?_) fun g=>?_)
 ·have g:a0=false:=by simpa using g
  rw[kf,be (by rw[g];decide)];refine gA Z (zp (hA d a (by omega) b0) ?_);refine gA Z (zL (.of_eq ?_));rfl
 ·have g:a0=true:=by simpa using g
  rw[kf,am g];refine gA Z (zp (hB (d-1) a (by omega) b0) ?_);refine gA Z (zI (fun q=>?_) fun q=>?_)
  ·have q:(bE n a).2=false:=q;refine gA Z (zL ?_);exact .agg ⟨.refl _, .of_eq (fu (by rw[q,c0];rfl)),ac⟩
  ·have q:(bE n a).2=true:=by simpa using q
   refine gA Z (zL ?_);rw[q]
   first
    |exact .agg ⟨.refl _, .of_eq (fu (by first|rfl|rw[q];rfl)),ac⟩
    |exact .agg ⟨.refl _, .te (by first|rfl|rw[q];rfl),ac⟩
theorem Hf(n:Nat)(d:Int)(e:Expr)(hd:d=(n:Int)-1)(b0:e.kind=1∨e.kind=2)(c0:e.ts<=900000000):Pure prog 280 [ag e.c,pI d] (ag (bE n e).c):=by
 have h0:=e.lK;have a0:decide (n=0)=decide (d<0):=decide_eq_decide.2 (by omega);rw[Fp b0,a0];clear a0 hd;refine ad ab func280 Z (by decide) ntmps280 Z (by simp) Z ?_
 repeat' (first
  |(refine gA Z (zI (fun q=>?_) (fun q=>?_)))
  |(refine gA Z (bn (U5 e.kind e.var e.val (by omega)) Z Z Z Z Z Z ?_)))
 all_goals first
  |(exfalso;simp_all;done)
  |skip
 all_goals(refine gA Z (zL ?_))
 all_goals first
  |refine .agg ⟨.refl _, .of_eq (fu ?_),ac⟩
  |refine .agg ⟨.refl _, .te ?_,ac⟩
 all_goals(simp_all<;>omega)
theorem LY(n:Nat)(hn:n<=1):PT n:=by
 intro d e hd b0;by_cases a0:e.kind=1∨e.kind=2
 ·exact Hf n d e hd a0 b0
 rw[It hn a0];refine ad ab func280 Z (by decide) ntmps280 Z (by simp) Z ?_;refine gA Z (zI (fun k1=>?_) fun k1=>?_);rotate_left
 ·exact absurd (.inl (zT k1)) a0
 refine gA Z (zI (fun k2=>?_) fun k2=>?_)
 ·exact absurd (.inr (zT k2)) a0
 refine gA Z (zI (fun g1=>?_) fun g1=>?_)
 ·refine gA Z (zI (fun g2=>?_) fun g2=>?_)
  ·exact absurd (zF g2) (by omega)
  ·repeat(refine gA Z (zI (fun q=>?_) (fun q=>?_));all_goals(try(simp at q;done)))
   refine gA Z (zL ?_);exact fH
 ·repeat(refine gA Z (zI (fun q=>?_) (fun q=>?_));all_goals(try(simp at q;done)))
  refine gA Z (zL ?_);exact fH
set_option maxHeartbeats 2000000 in
theorem Pp(m:Nat)(hm:m<=100)(hB:PT m)(hA:PT (m+1)):PT (m+2):=by
 intro d e hd k0;by_cases f0:e.kind=1∨e.kind=2
 ·exact Hf (m+2) d e hd f0 k0
 have e0:m<=1000:=by omega
 have h0:=e.lK;rw[Ae];refine Al.Pure.le (aa:=[ag e.c,pI d]) (args:=[ag e.c1,pI d]) ?_ ⟨e.xG, .refl _,ac⟩;refine ad ab func280 Z (by decide) ntmps280 Z (by simp) Z ?_;refine gA Z (zI (fun k1=>?_) fun k1=>?_);rotate_left
 ·exact absurd (.inl (zT k1)) f0
 refine gA Z (zI (fun k2=>?_) fun k2=>?_)
 ·exact absurd (.inr (zT k2)) f0
 refine gA Z (zI (fun g1=>?_) fun g1=>?_);rotate_left
 ·have g1: ¬e.kind=4:=by
   have g:(!decide (e.kind=4))=true:=g1;simpa using g
  rw[nU f0 (.inl g1)]
  repeat(refine gA Z (zI (fun q=>?_) (fun q=>?_));all_goals(try(simp at q;done)))
  refine gA Z (zL ?_);exact fH
 have g1:e.kind=4:=by
  have g:(!decide (e.kind=4))=false:=g1;simpa using g
 refine gA Z (zI (fun g2=>?_) fun g2=>?_);rotate_left
 ·exact absurd (zT g2) (by omega)
 refine gA Z (zI (fun g3=>?_) fun g3=>?_);rotate_left
 ·have g3: ¬e.var=⟨#[]⟩:=by
   have g:(!decide (e.var=⟨#[]⟩))=true:=g3;simpa using g
  rw[nU f0 (.inr (.inr (.inl g3)))]
  repeat(refine gA Z (zI (fun q=>?_) (fun q=>?_));all_goals(try(simp at q;done)))
  refine gA Z (zL ?_);exact fH
 have g3:e.var=⟨#[]⟩:=by
  have g:(!decide (e.var=⟨#[]⟩))=false:=g3;simpa using g
 refine gA Z (zI (fun g4=>?_) fun g4=>?_);rotate_left
 ·have g4:cK e.val=false:=by
   have g:(!cK e.val)=true:=g4;simpa using g
  rw[nU f0 (.inr (.inr (.inr (.inl g4))))]
  repeat(refine gA Z (zI (fun q=>?_) (fun q=>?_));all_goals(try(simp at q;done)))
  refine gA Z (zL ?_);exact fH
 have g4:cK e.val=true:=by
  have g:(!cK e.val)=false:=g4;simpa using g
 refine gA Z (zI (fun g5=>?_) fun g5=>?_);rotate_left
 ·have g5:e.op<1:=zT g5;rw[nU f0 (.inr (.inr (.inr (.inr (.inl g5)))))]
  repeat(refine gA Z (zI (fun q=>?_) (fun q=>?_));all_goals(try(simp at q;done)))
  refine gA Z (zL ?_);exact fH
 have g5: ¬e.op<1:=zF g5;refine gA Z (zI (fun g6=>?_) fun g6=>?_)
 ·have g6:e.op>6:=zT g6;rw[nU f0 (.inr (.inr (.inr (.inr (.inr g6)))))];refine gA Z (zL ?_);exact fH
 have g6: ¬e.op>6:=zF g6;rw[Fc g1 g3 g4 g5 g6];refine gM 1 Z (o7 [] (t:=⟨[(1,pI d),(2, .ptr 0 0),(4, .ptr 1 0)],[(0,some (an e.c1)),(1,some (an [iS W4, .v (.bool false)]))],2⟩) (zW (zK (zK ac))) ?_);refine gA Z (zI (fun h6=>?_) fun h6=>?_)
 ·have h6:e.op=6:=zT h6;refine gA Z (zI (fun h2=>?_) fun h2=>?_)
  ·have h2: ¬e.args.length=1:=by simp at h2;omega
   rw[nP,am h6,be h2];refine gA Z (zL ?_);exact fH
  have h2:e.args.length=1:=by simp at h2;omega
  have hg:(aO e).ts<=_:=Expr.tn e.args 0 (by omega);have i0:(aO e).ts<=900000000:=by omega
  have b0:nP (kf m) e=(sM++(if ES (aO e)=true then(⟨#[45,48]⟩:ByteArray) else(kf m (pQ (aO e)) (aO e)).1),(kf m (pQ (aO e)) (aO e)).2):=by rw[nP,am h6,am h2]
  have e1:(⟨#[45]⟩:ByteArray).size=1:=rfl;have e2:(⟨#[45,48]⟩:ByteArray).size=2:=rfl;have hlt:=qw m true (aO e);have o0:=qw m false (aO e);have q0:=qw m (decide ((aO e).val.num>0)) (aO e);refine gA Z (zI (fun hk=>?_) fun hk=>?_)
  ·have d0:(aO e).kind=2:=zT hk;refine gA Z (zI (fun hv=>?_) fun hv=>?_);rotate_left
   ·have g0: ¬(aO e).val.kind=1:=zF hv;have j0:pe (aO e)=false:=by rw[pe,decide_eq_false g0,Yz]
    rw[ES,pQ,J7,j0,Yi,Yi,YR,be (by decide)]at b0;refine gA Z (nB (Fy (aO e)) ?_);refine gA Z (zI (fun c0=>?_) fun c0=>?_);rotate_left
    ·have a0: ¬bw (aO e)<3:=zF c0;rw[decide_eq_false a0]at b0;rw[b0];refine gA Z (nB (DV m e0 hA hB false (d-1) (by omega) (aO e) i0) ?_);refine gA Z (zI (fun u1=>?_) fun u1=>?_)
     ·refine gA Z (zI (fun u2=>?_) fun u2=>?_)
      ·exact absurd (zT u2) g0
      refine gA Z (zL (.of_eq ?_));rfl
     ·exact absurd d0 (zF u1)
    ·have a0:bw (aO e)<3:=zT c0;rw[decide_eq_true a0]at b0;rw[b0];refine gA Z (nB (DV m e0 hA hB true (d-1) (by omega) (aO e) i0) ?_);refine gA Z (zI (fun u1=>?_) fun u1=>?_)
     ·refine gA Z (zI (fun u2=>?_) fun u2=>?_)
      ·exact absurd (zT u2) g0
      refine gA Z (zL (.of_eq ?_));rfl
     ·exact absurd d0 (zF u1)
   ·have g0:(aO e).val.kind=1:=zT hv;have j0:pe (aO e)=true:=by rw[pe,decide_eq_true g0,decide_eq_true d0];rfl
    rw[ES,pQ,J7,j0,XV,XV]at b0;refine gA Z (nB (Fy (aO e)) ?_);refine gA Z (zI (fun c0=>?_) fun c0=>?_);rotate_left
    ·have a0: ¬bw (aO e)<3:=zF c0;rw[decide_eq_false a0,Ya]at b0;rw[b0];refine gA Z (nB (DV m e0 hA hB (decide ((aO e).val.num>0)) (d-1) (by omega) (aO e) i0) ?_);refine gA Z (zI (fun u1=>?_) fun u1=>?_)
     ·refine gA Z (zI (fun u2=>?_) fun u2=>?_)
      ·refine gA Z (zI (fun u3=>?_) fun u3=>?_)
       ·rw[am (show decide ((aO e).val.num=0)=true from u3)];refine gA Z (zL (.of_eq ?_));rfl
       ·have u3:decide ((aO e).val.num=0)=false:=u3;rw[be (by rw[u3];decide)];refine gA Z (zL (.of_eq ?_));rfl
      ·exact absurd g0 (zF u2)
     ·exact absurd d0 (zF u1)
    ·have a0:bw (aO e)<3:=zT c0;rw[decide_eq_true a0,Zq]at b0;rw[b0];refine gA Z (nB (DV m e0 hA hB true (d-1) (by omega) (aO e) i0) ?_);refine gA Z (zI (fun u1=>?_) fun u1=>?_)
     ·refine gA Z (zI (fun u2=>?_) fun u2=>?_)
      ·refine gA Z (zI (fun u3=>?_) fun u3=>?_)
       ·rw[am (show decide ((aO e).val.num=0)=true from u3)];refine gA Z (zL (.of_eq ?_));rfl
       ·have u3:decide ((aO e).val.num=0)=false:=u3;rw[be (by rw[u3];decide)];refine gA Z (zL (.of_eq ?_));rfl
      ·exact absurd g0 (zF u2)
     ·exact absurd d0 (zF u1)
  ·have d0: ¬(aO e).kind=2:=zF hk;have j0:pe (aO e)=false:=by rw[pe,decide_eq_false d0];rfl
   rw[ES,pQ,J7,j0,Yi,Yi,YR,be (by decide)]at b0;refine gA Z (nB (Fy (aO e)) ?_);refine gA Z (zI (fun c0=>?_) fun c0=>?_);rotate_left
   ·have a0: ¬bw (aO e)<3:=zF c0;rw[decide_eq_false a0]at b0;rw[b0];refine gA Z (nB (DV m e0 hA hB false (d-1) (by omega) (aO e) i0) ?_);refine gA Z (zI (fun u1=>?_) fun u1=>?_)
    ·exact absurd (zT u1) d0
    refine gA Z (zL (.of_eq ?_));rfl
   ·have a0:bw (aO e)<3:=zT c0;rw[decide_eq_true a0]at b0;rw[b0];refine gA Z (nB (DV m e0 hA hB true (d-1) (by omega) (aO e) i0) ?_);refine gA Z (zI (fun u1=>?_) fun u1=>?_)
    ·exact absurd (zT u1) d0
    refine gA Z (zL (.of_eq ?_));rfl
 ·have h6: ¬e.op=6:=zF h6;refine gA Z (zI (fun h2=>?_) fun h2=>?_)
  ·have h2: ¬e.args.length=2:=by simp at h2;omega
   rw[nP,be h6,be h2];refine gA Z (zL ?_);exact fH
  have h2:e.args.length=2:=by simp at h2;omega
  have hg:(aO e).ts+(kE e).ts<=_:=Expr.wi e.args h2;rw[nP,be h6,am h2];have m0:=qw m (decide (bw (aO e)<bw e)) (aO e);have r0:=qw m (decide (bw (kE e)<=bw e)) (kE e);have p0:=y9 e.op;have n0:((kf m (decide (bw (aO e)<bw e)) (aO e)).1++xf e.op).size=(kf m (decide (bw (aO e)<bw e)) (aO e)).1.size+(xf e.op).size:=XU;refine gA Z (nB (Fy (aO e)) ?_);refine gA Z (nB (Al.Pure.le (aa:=[ag e.c1]) (Fy e) ⟨e.Ic,ac⟩) ?_);refine gA Z (nB (DV m e0 hA hB (decide (bw (aO e)<bw e)) (d-1) (by omega) (aO e) (by omega)) ?_);refine gM 3 Z (o7 [] (t:=⟨[(1,pI d),(2, .ptr 0 0),(4, .ptr 1 0),(9, .ptr 2 0)],[(0,some (an e.c1)),(1,some (an [iS W4, .v (.bool false)])),(2,some (an (kf m (decide (bw (aO e)<bw e)) (aO e)).c))],3⟩) (zW (zK (zK (zK ac)))) ?_);refine gA Z (nB (Fy (kE e)) ?_);refine gA Z (nB (Al.Pure.le (aa:=[ag e.c1]) (Fy e) ⟨e.Ic,ac⟩) ?_);refine gA Z (nB (DV m e0 hA hB (decide (bw (kE e)<=bw e)) (d-1) (by omega) (kE e) (by omega)) ?_);refine gM 3 Z (o7 [] (t:=⟨[(1,pI d),(2, .ptr 0 0),(4, .ptr 1 0),(9, .ptr 2 0),(10, .ptr 3 0)],[(0,some (an e.c1)),(1,some (an [iS W4, .v (.bool false)])),(2,some (an (kf m (decide (bw (aO e)<bw e)) (aO e)).c)),(3,some (an (kf m (decide (bw (kE e)<=bw e)) (kE e)).c))],4⟩) (zW (zK (zK (zK (zK ac))))) ?_);refine gA Z (nB (V0 e.op) ?_);refine gA Z (zI (fun q=>?_) fun q=>?_);rotate_left
  ·have q:(kf m (decide (bw (aO e)<bw e)) (aO e)).2=false:=q;rw[q];refine gA Z (zL (.of_eq ?_));rfl
  ·have q:(kf m (decide (bw (aO e)<bw e)) (aO e)).2=true:=by simpa using q
   rw[q];refine gA Z (zL ?_)
   first
    |exact .agg ⟨.refl _, .of_eq (fu (by first|rfl|rw[q];rfl)),ac⟩
    |exact .agg ⟨.refl _, .te (by first|rfl|rw[q];rfl),ac⟩
theorem LZ: ∀n,n<=100->PT n∧PT (n+1)
 |0,_=>⟨LY 0 (by decide),LY 1 (by decide)⟩
 |n+1,h=>by
  obtain⟨h1,h2⟩:=LZ n (by omega);exact⟨h2,Pp n (by omega) h1 h2⟩
theorem SU(e:Expr)(a0:e.ts<=900000000):Pure prog 280 [ag e.c,pI 16] (ag (bE 17 e).c):=(LZ 17 (by decide)).1 16 e Z a0
theorem V4(a:Atom):Pure prog 277 [ag a.c] (pB (fD a)):=by
 refine ad ab func277 Z (by decide) ntmps277 Z (by simp) Z ?_
 repeat' (first|(refine gA Z (zI (fun _=>?_) (fun _=>?_)))|(refine gA Z (zL (.of_eq ?_))))
 all_goals(refine(fu ?_:pB _=pB _))
 all_goals(simp only[fD, *];rfl)
theorem Pa(e:Expr):Pure prog 278 [ag e.c] (pB (c4 e)):=by
 refine ad ab func278 Z (by decide) ntmps278 Z (by simp) Z ?_
 repeat' (first|(refine gA Z (zI (fun _=>?_) (fun _=>?_)))|(refine gA Z (zL (.of_eq ?_))))
 all_goals(refine(fu ?_:pB _=pB _))
 all_goals(simp only[c4,cK, *];rfl)
theorem V3(g:eQ):Pure prog 279 [ag g.c] (pB (iX g)):=by
 refine ad ab func279 Z (by decide) ntmps279 Z (by simp) Z ?_
 repeat' (first|(refine gA Z (zI (fun _=>?_) (fun _=>?_)))|(refine gA Z (zp (Pa g.dT) ?_))|(refine gA Z (zL (.of_eq ?_))))
 all_goals(refine(fu ?_:pB _=pB _))
 all_goals(simp only[iX, *];rfl)
theorem V2(op:Int):Pure prog 281 [pI op] (pS (qn op)):=by
 refine ad ab func281 Z (by decide) ntmps281 Z (by simp) Z ?_
 repeat' (first|(refine gA Z (zI (fun _=>?_) (fun _=>?_)))|(refine gA Z (zL (.of_eq ?_))))
 all_goals(refine congrArg pS ?_;simp_all [qn])
theorem VZ(f:Int):Pure prog 294 [pI f] (pS (fx f)):=by
 refine ad ab func294 Z (by decide) ntmps294 Z (by simp) Z ?_
 repeat' (first|(refine gA Z (zI (fun _=>?_) (fun _=>?_)))|(refine gA Z (zL (.of_eq ?_))))
 all_goals(refine congrArg pS ?_;simp_all [fx])
theorem vU(a b:ByteArray):(a++b).size=a.size+b.size:=XU
theorem S9:(⟨#[]⟩:ByteArray).size=0:=rfl
theorem vu{f:Lit->nC}{l:List Lit}{i:Nat}(h:cx f l i=ny): ∀k,cx f l (i+k)=ny
 |0=>h
 |k+1=>by
  rw[<-Yu,cx,vu h k];exact am Z
theorem E0{f:Lit->nC}{l:List Lit}{i:Nat}(h:(cx f l i).2=false)(hi:i<l.length)(hf:(f (l.getD i default)).2=true):cx f l l.length=ny:=by
 have e:cx f l (i+1)=ny:=by rw[cx,be (by rw[h];decide),am hf]
 have:=vu e (l.length-(i+1));rwa[show i+1+(l.length-(i+1))=l.length by omega]at this
theorem C6{f:Lit->nC}{l:List Lit}{i:Nat}(h:(cx f l i).2=false)(hf:(f (l.getD i default)).2=false):cx f l (i+1)=((if(i:Int)>0 then(cx f l i).1++vZ else(cx f l i).1)++(f (l.getD i default)).1,false):=by
 rw[cx,be (by rw[h];decide),be (by rw[hf];decide)]
theorem BZ: ∀(l:List Lit) (i:Nat),i<l.length->Lit.k9 (l.take (i+1))=Lit.k9 (l.take i)+(l.getD i default).ts
 | [],i,h=>by simp at h
 |s::r,0,_=>by simp[Lit.k9]
 |s::r,i+1,h=>by
  have:=BZ r i (by simpa using h);simp only[Yh,Yk,Lit.k9,this];omega
theorem oG{f:Lit->nC}{l:List Lit}(hf: ∀i,i<l.length->(f (l.getD i default)).1.size+2<=(l.getD i default).ts): ∀i,i<=l.length->(cx f l i).1.size<=Lit.k9 (l.take i)
 |0,_=>by show(⟨#[]⟩:ByteArray).size<=_;rw[S9];exact W3 _
 |i+1,h=>by
  have h1:=oG hf i (by omega);have h2:=hf i (by omega);have h3:vZ.size=2:=rfl;rw[BZ l i (by omega),cx];split
  ·show(⟨#[]⟩:ByteArray).size<=_;rw[S9];exact W3 _
  split
  ·show(⟨#[]⟩:ByteArray).size<=_;rw[S9];exact W3 _
  ·show((if(i:Int)>0 then(cx f l i).1++vZ else(cx f l i).1)++(f (l.getD i default)).1).size<=_;rw[vU];split
   ·rw[vU];omega
   ·omega
theorem As(a:Atom):(eZ a).1.size<=a.ts:=by
 have h1:=oT a a.ae.length (W0 _);rw[W2 (W0 _)]at h1;have h2:a.ts=a.rel.size+10+(a.ae.map Term.ts).sum:=rfl;have h3:sC.size=1:=rfl;show((eC a a.ae.length).1++sC).size<=_;rw[vU];omega
theorem B5(a:Atom):a.ae.length<=a.ts:=by
 have h2:a.ts=a.rel.size+10+(a.ae.map Term.ts).sum:=rfl;have: ∀l:List Term,l.length<=(l.map Term.ts).sum:=by
  intro l
  induction l with
  |nil=>exact W0 _
  |cons x r ih=>
   have:x.ts=x.var.size+310:=rfl;simp only[Xx,Xe,YK];omega
 have:=this a.ae;omega
theorem On(a:eQ):(HW a).1.size<=a.var.size+a.dT.ts+14:=by
 have h1:=tW a.func;have h2:=fp 17 a.dT;have e1:pt.size=3:=rfl;have e2:px.size=3:=rfl;have e3:Ek.size=3:=rfl;unfold HW;split
 ·show(((a.var++pt)++fx a.func)++px).size<=_;rw[vU,vU,vU];omega
 ·show(((((a.var++pt)++fx a.func)++px)++(bE 17 a.dT).1)++Ek).size<=_;rw[vU,vU,vU,vU,vU];omega
theorem LV{f:Lit->nC}{a:eQ}{br:Int}(hf: ∀i,i<a.body.length->(f (a.body.getD i default)).1.size+2<=(a.body.getD i default).ts):(oU f a br).1.size<=a.var.size+a.dT.ts+Lit.k9 a.body+16:=by
 have h1:=On a;have h2:=oG hf a.body.length (W0 _);rw[W2 (W0 _)]at h2;have e1:vY.size=2:=rfl;unfold oU;split
 ·show(⟨#[]⟩:ByteArray).size<=_;rw[S9];exact W3 _
 ·show(((HW a).1++(cx f a.body a.body.length).1)++vY).size<=_;rw[vU,vU];omega
theorem zz: ∀(n:Nat) (br:Int) (l:Lit),(fj n br l).1.size+2<=l.ts
 |0,_,l=>by
  have:=l.lK;show(⟨#[]⟩:ByteArray).size+2<=_;rw[S9];omega
 |n+1,br,l=>by
  have h:=l.lK;have h1:=As l.atom;have h2:=fp 17 l.left;have h3:=fp 17 l.right;have h4:=yb l.op;have h5:=LV (f:=fj n (br-1)) (a:=l.agg) (br:=br) fun i _=>zz n (br-1) _;have h6:l.agg.var.size+l.agg.dT.ts+Lit.k9 l.agg.body=l.bp.size+l.km.ts+Lit.k9 l.ar:=rfl;have e1:xi.size=4:=rfl;rw[fj];unfold jz;split
  ·show(if l.kind=2 then xi++(eZ l.atom).1 else(eZ l.atom).1).size+2<=_;split
   ·rw[vU];omega
   ·omega
  split
  ·show(((bE 17 l.left).1++qn l.op)++(bE 17 l.right).1).size+2<=_;rw[vU,vU];omega
  split
  ·show(oU (fj n (br-1)) l.agg br).1.size+2<=_;omega
  ·show(⟨#[]⟩:ByteArray).size+2<=_;rw[S9];omega
theorem VY(f:Lit->nC)(l:List Lit)(br:Int)(hc: ∀i,i<l.length->Pure prog 268 [ag (l.getD i default).c,pI br] (ag (f (l.getD i default)).c))(hf: ∀i,i<l.length->(f (l.getD i default)).1.size+2<=(l.getD i default).ts)(d0:Lit.k9 l<=900000000):Pure prog 295 [.iv (lits l),pI br] (ag (cx f l l.length).c):=by
 refine pE (bI func295 Z (by decide)) ⟨_,_,Xd⟩ fun a0=>?_;simp only[maxLen]at a0;refine ad ab func295 Z (by decide) ntmps295 Z (by simp) Z ?_;refine gA Z ?_
 refine aA 0 l.length (W3 _) (fun i=>⟨[(0, .iv (lits l)),(1,pI br),(4, .ptr 0 0),(5, .ptr 1 0),(6,pI i)],[(0,some (.cells [pS W4,pB false])),(1,some (.cells [pS (cx f l i).1,pB false]))],2⟩) (fun i=>(cx f l i).2=false) [] Z
  (zW (zO (zO trivial))) fun i hi hJ=>?_
 refine gA Z (zI (fun h1=>?_) fun h1=>?_);rotate_left
 ·have h1:l.length<=i:=zG h1;have b0:i=l.length:=by omega
  subst b0;refine gA Z (zL ?_);exact .agg ⟨.refl _, .of_eq (fu hJ.symm),ac⟩
 have h1:i<l.length:=zN h1;have f0:=oG hf i hi;have e0:=hf i h1;have c0:=Lit.tk l i h1;have e1:(⟨#[44,32]⟩:ByteArray).size=2:=rfl;have e2:=vU (cx f l i).1 ⟨#[44,32]⟩;refine gA Z (zp (hc i h1) ?_);refine gA Z (zI (fun g=>?_) fun g=>?_)
 ·have g:(f (l.getD i default)).2=true:=g;rw[E0 hJ h1 g];refine gA Z (zL ?_);exact fH
 have g:(f (l.getD i default)).2=false:=by simpa using g
 have hs:=C6 hJ g;refine gA Z (zI (fun k=>?_) fun k=>?_)
 ·have k:(i:Int)>0:=zT k;rw[am k]at hs;refine gA Z ⟨h1,by rw[hs],[],zW (zO ⟨⟨_,rfl, .cells ⟨.of_eq (congrArg pS (by rw[hs];rfl)), .refl _,ac⟩⟩,WR Z,rfl,ac⟩)⟩
 ·have k: ¬(i:Int)>0:=zF k;rw[be k]at hs;refine gA Z ⟨h1,by rw[hs],[],zW (zO ⟨⟨_,rfl, .cells ⟨.of_eq (congrArg pS (by rw[hs])), .refl _,ac⟩⟩,WR Z,rfl,ac⟩)⟩
set_option maxHeartbeats 2000000 in
theorem V1(f:Lit->nC)(a:eQ)(br:Int)(hb:br<=16)(hc:1<=br-> ∀i,i<a.body.length->Pure prog 268 [ag (a.body.getD i default).c,pI (br-1)] (ag (f (a.body.getD i default)).c))(hf: ∀i,i<a.body.length->(f (a.body.getD i default)).1.size+2<=(a.body.getD i default).ts)(c0:a.var.size+a.dT.ts+Lit.k9 a.body<=900000000):Pure prog 282 [ag a.c,pI br] (ag (oU f a br).c):=by
 have e0:=tW a.func;have d0:=fp 17 a.dT;have b0:=oG hf a.body.length (W0 _);rw[W2 (W0 _)]at b0;have e1:(⟨#[32,61,32]⟩:ByteArray).size=3:=rfl;have e2:(⟨#[32,123,32]⟩:ByteArray).size=3:=rfl;have e3:(⟨#[32,58,32]⟩:ByteArray).size=3:=rfl;have e4:(⟨#[32,125]⟩:ByteArray).size=2:=rfl;have s1:=vU a.var ⟨#[32,61,32]⟩;have s2:=vU (a.var++⟨#[32,61,32]⟩) (fx a.func);have s3:=vU ((a.var++⟨#[32,61,32]⟩)++fx a.func) ⟨#[32,123,32]⟩;have s4:=vU (((a.var++⟨#[32,61,32]⟩)++fx a.func)++⟨#[32,123,32]⟩) (bE 17 a.dT).1;have s5:=vU ((((a.var++⟨#[32,61,32]⟩)++fx a.func)++⟨#[32,123,32]⟩)++(bE 17 a.dT).1) ⟨#[32,58,32]⟩;have s6:=vU (((((a.var++⟨#[32,61,32]⟩)++fx a.func)++⟨#[32,123,32]⟩)++(bE 17 a.dT).1)++⟨#[32,58,32]⟩) (cx f a.body a.body.length).1;have s7:=vU (((a.var++⟨#[32,61,32]⟩)++fx a.func)++⟨#[32,123,32]⟩) (cx f a.body a.body.length).1;refine Al.Pure.le (aa:=[ag a.c,pI br]) (args:=[ag a.c1,pI br]) ?_ ⟨a.xG, .refl _,ac⟩;refine ad ab func282 Z (by decide) ntmps282 Z (by simp) Z ?_;refine gA Z (zI (fun g1=>?_) fun g1=>?_);rotate_left
 ·have g1:a.func<1:=zT g1;rw[oU,am (.inl g1)]
  repeat(refine gA Z (zI (fun q=>?_) (fun q=>?_));all_goals(try(simp at q;done)))
  refine gA Z (zL ?_);exact fH
 have g1: ¬a.func<1:=zF g1;refine gA Z (zI (fun g2=>?_) fun g2=>?_);rotate_left
 ·have g2:a.func>4:=zT g2;rw[oU,am (.inr (.inl g2))]
  repeat(refine gA Z (zI (fun q=>?_) (fun q=>?_));all_goals(try(simp at q;done)))
  refine gA Z (zL ?_);exact fH
 have g2: ¬a.func>4:=zF g2;refine gA Z (zI (fun g3=>?_) fun g3=>?_);rotate_left
 ·have g3:br<1:=zT g3;rw[oU,am (.inr (.inr (.inl g3)))]
  repeat(refine gA Z (zI (fun q=>?_) (fun q=>?_));all_goals(try(simp at q;done)))
  refine gA Z (zL ?_);exact fH
 have g3: ¬br<1:=zF g3;refine gA Z (zI (fun g4=>?_) fun g4=>?_)
 ·have g4:(a.body.length:Int)=0:=zT g4;rw[oU,am (.inr (.inr (.inr g4)))];refine gA Z (zL ?_);exact fH
 have g4: ¬(a.body.length:Int)=0:=zF g4;have hA:oU f a br=(((HW a).1++(cx f a.body a.body.length).1)++vY,(HW a).2||(cx f a.body a.body.length).2):=by rw[oU,be (by omega)]
 have a0:=VY f a.body (br-1) (hc (by omega)) hf (by omega);rw[hA];refine gA Z (zp (UZ a.var (by omega)) ?_);refine gA Z (nB (VZ a.func) ?_);refine gA Z (zI (fun g5=>?_) fun g5=>?_)
 ·have g5:a.func=1:=zT g5;have hO:HW a=(((a.var++pt)++fx a.func)++px,!dY a.var||!c4 a.dT):=am g5;rw[hO];clear d0 hA hO hf hc
  repeat' (first
   |(refine gA Z (zI (fun q=>?_) (fun q=>?_)))
   |(refine gA Z (bn (Pa a.dT) Z Z Z Z Z Z ?_))
   |(refine gA Z (bn a0 Z Z Z Z Z Z ?_)))
  all_goals(refine gA Z (zL ?_))
  all_goals clear e0 b0 e1 e2 e3 e4 s1 s2 s3 s4 s5 s6 s7 c0 a0
  all_goals first
   |refine .agg ⟨.of_eq Z, .of_eq (fu ?_),ac⟩
   |refine .agg ⟨.of_eq Z, .te ?_,ac⟩
  all_goals simp_all
 ·have g5: ¬a.func=1:=zF g5;have hO:HW a=(((((a.var++pt)++fx a.func)++px)++(bE 17 a.dT).1)++Ek,!dY a.var||(bE 17 a.dT).2):=be g5;rw[hO];have he:=SU a.dT (by omega);clear hA hO hf hc
  repeat' (first
   |(refine gA Z (zI (fun q=>?_) (fun q=>?_)))
   |(refine gA Z (bn he Z Z Z Z Z Z ?_))
   |(refine gA Z (bn a0 Z Z Z Z Z Z ?_)))
  all_goals(refine gA Z (zL ?_))
  all_goals clear e0 d0 b0 e1 e2 e3 e4 s1 s2 s3 s4 s5 s6 s7 c0 a0 he
  all_goals first
   |refine .agg ⟨.of_eq Z, .of_eq (fu ?_),ac⟩
   |refine .agg ⟨.of_eq Z, .te ?_,ac⟩
  all_goals simp_all
set_option maxHeartbeats 4000000 in
theorem UY: ∀(n:Nat) (l:Lit) (br:Int),l.size<=n->br<=16->l.ts<=900000000->Pure prog 268 [ag l.c,pI br] (ag (fj n br l).c)
 |0,l,_,h,_,_=>absurd l.size_pos (by omega)
 |n+1,l,br,hs,hb,hts=>by
  have hz:=l.size_eq;have ht:=l.lK;have ha:=B5 l.atom;have d0:=As l.atom;have a0:=fp 17 l.left;have c0:=fp 17 l.right;have b0:=yb l.op;have e1:(⟨#[110,111,116,32]⟩:ByteArray).size=4:=rfl;have s1:=vU (bE 17 l.left).1 (qn l.op)
  have hag:=V1 (fj n (br-1)) l.agg br hb (fun _ i hi=>by
   have hi:i<l.ar.length:=hi;have h1:=Lit.aT l.ar i hi;have h2:=l.left.size_pos;have h3:=Lit.tk l.ar i hi
   exact UY n (l.ar.getD i default) (br-1) (by omega) (by omega) (by omega)) (fun i _=>zz n (br-1) _) (by show l.bp.size+l.km.ts+Lit.k9 l.ar<=_;omega)
  rw[fj];refine ad ab func268 Z (by decide) ntmps268 Z (by simp) Z ?_;refine gA Z (zp (V4 l.atom) ?_);refine gA Z (zp (Pa l.left) ?_);refine gA Z (zp (Pa l.right) ?_);refine gA Z (zp (V3 l.agg) ?_);refine gM 2 Z (go_cut 1 (fun(_:Unit)=>⟨[(1,pI br),(2, .ptr 0 0),(4, .ptr 1 0),(5,pB (fD l.atom)),(8,pB (iX l.agg)),(9,pB (iT l))],[(0,some (an l.c)),(1,some (.cells [pS W4,pB false]))],2⟩) Z ?_ ?_)
  ·repeat' (first
    |(refine gA Z (zI (fun q=>?_) (fun q=>?_)))
    |fail)
   all_goals(refine gA Z (gd () [] (zM (bv (bv (bv (bv (bv ⟨?_,rfl,ac⟩))))) (zK (zO ac)))))
   all_goals clear d0 a0 c0 b0 e1 s1 hag ht hz ha hts hs
   all_goals first
    |refine .of_eq (fu ?_)
    |refine .te ?_
   all_goals simp_all [iT]
  rintro⟨⟩;have hL:jz (fj n) br l=jz (fj n) br l:=rfl;refine gA Z (zI (fun k1=>?_) fun k1=>?_)
  ·have k1:l.kind=1:=zT k1;have hL:jz (fj n) br l=((eZ l.atom).1,(eZ l.atom).2||(!iT l||!iX l.agg)):=by unfold jz;rw[am (.inl k1),be (by omega)]
   rw[hL];refine gA Z (zp (SV l.atom (by omega) (by omega)) ?_);clear hL;generalize fD l.atom=NA at*
   generalize iX l.agg=NG at*
   generalize iT l=SD at*
   repeat' (first
    |(refine gA Z (zI (fun q=>?_) (fun q=>?_)))
    |fail)
   all_goals first
    |(exfalso;simp_all;done)
    |skip
   all_goals(refine gA Z (zL ?_))
   all_goals clear d0 a0 c0 b0 e1 s1 hag ht hz ha hts hs
   all_goals first
    |refine .agg ⟨.of_eq Z, .of_eq (fu ?_),ac⟩
    |refine .agg ⟨.of_eq Z, .te ?_,ac⟩
   all_goals simp_all
  have k1: ¬l.kind=1:=zF k1;refine gA Z (zI (fun k2=>?_) fun k2=>?_)
  ·have k2:l.kind=2:=zT k2;have hL:jz (fj n) br l=(xi++(eZ l.atom).1,(eZ l.atom).2||(!iT l||!iX l.agg)):=by unfold jz;rw[am (.inr k2),am k2]
   rw[hL];refine gA Z (zp (SV l.atom (by omega) (by omega)) ?_);clear hL;generalize fD l.atom=NA at*
   generalize iX l.agg=NG at*
   generalize iT l=SD at*
   repeat' (first
    |(refine gA Z (zI (fun q=>?_) (fun q=>?_)))
    |fail)
   all_goals first
    |(exfalso;simp_all;done)
    |skip
   all_goals(refine gA Z (zL ?_))
   all_goals clear d0 a0 c0 b0 e1 s1 hag ht hz ha hts hs
   all_goals first
    |refine .agg ⟨.of_eq Z, .of_eq (fu ?_),ac⟩
    |refine .agg ⟨.of_eq Z, .te ?_,ac⟩
   all_goals simp_all
  have k2: ¬l.kind=2:=zF k2;have e0: ¬(l.kind=1∨l.kind=2):=by omega
  refine gA Z (zI (fun k3=>?_) fun k3=>?_)
  ·have k3:l.kind=3:=zT k3;have hL:jz (fj n) br l=(((bE 17 l.left).1++qn l.op)++(bE 17 l.right).1,(bE 17 l.left).2||((bE 17 l.right).2||(!fD l.atom||(!iX l.agg||(decide (l.op<1)||decide (l.op>6)))))):=by unfold jz;rw[be e0,am k3]
   rw[hL];refine gA Z (zp (SU l.left (by omega)) ?_);refine gA Z (zp (SU l.right (by omega)) ?_);refine gA Z (nB (V2 l.op) ?_);clear hL;generalize fD l.atom=NA at*
   generalize iX l.agg=NG at*
   generalize iT l=SD at*
   repeat' (first
    |(refine gA Z (zI (fun q=>?_) (fun q=>?_)))
    |fail)
   all_goals(refine gA Z (zL ?_))
   all_goals clear d0 a0 c0 b0 e1 s1 hag ht hz ha hts hs
   all_goals first
    |refine .agg ⟨.of_eq Z, .of_eq (fu ?_),ac⟩
    |refine .agg ⟨.of_eq Z, .te ?_,ac⟩
   all_goals(simp_all<;>omega)
  have k3: ¬l.kind=3:=zF k3;refine gA Z (zI (fun k4=>?_) fun k4=>?_)
  ·have k4:l.kind=4:=zT k4;have hL:jz (fj n) br l=((oU (fj n (br-1)) l.agg br).1,(oU (fj n (br-1)) l.agg br).2||(!fD l.atom||!iT l)):=by unfold jz;rw[be e0,be k3,am k4]
   rw[hL];refine gA Z (zp (hag) ?_);clear hL;generalize fD l.atom=NA at*
   generalize iX l.agg=NG at*
   generalize iT l=SD at*
   repeat' (first
    |(refine gA Z (zI (fun q=>?_) (fun q=>?_)))
    |fail)
   all_goals(refine gA Z (zL ?_))
   all_goals clear d0 a0 c0 b0 e1 s1 hag ht hz ha hts hs
   all_goals first
    |refine .agg ⟨.of_eq Z, .of_eq (fu ?_),ac⟩
    |refine .agg ⟨.of_eq Z, .te ?_,ac⟩
   all_goals simp_all
  ·have k4: ¬l.kind=4:=zF k4;have hL:jz (fj n) br l=ny:=by unfold jz;rw[be e0,be k3,be k4]
   rw[hL];refine gA Z (zL ?_);exact fH
theorem Wf(l:Lit)(a0:l.ts<=900000000):Pure prog 250 [ag l.c] (.bT [pS (if(o6 l).2=true then⟨#[]⟩ else(o6 l).1),pI (if(o6 l).2=true then 50 else 0)]):=by
 refine ad ab func250 Z (by decide) ntmps250 Z (by simp) Z ?_;refine gA Z (zp (UY l.size l 16 (W0 _) (by decide) a0) ?_);refine gA Z (zp (Va (o6 l)) ?_);refine gA Z (zL (.of_eq ?_));rfl
theorem Wo(l:Lit)(a0:l.ts<=900000000):Pure prog 233 [ag l.c] (pB (!(o6 l).2)):=by
 refine ad ab func233 Z (by decide) ntmps233 Z (by simp) Z ?_;refine gA Z (zp (Wf l a0) ?_);refine gA Z (zL (.of_eq ?_));refine(fu ?_:pB _=pB _);cases(o6 l).2<;>rfl
theorem Lit.Uo(l:Lit):mF (l.c.map .iv) (l.c1.map .iv):=
 ⟨.refl _, .refl _, .refl _, .refl _, .refl _, .refl _, .refl _, .refl _, .refl _, .refl _, .refl _, .refl _, .refl _, .refl _, .refl _, .refl _, .refl _, .refl _, .refl _, .refl _, .refl _, .refl _, .refl _, .refl _, .refl _, .refl _, .refl _, .iv (kP _), .refl _, .refl _,ac⟩
theorem hCL{n i:Nat}{σ:Nat->Nat}{h r:AH}{cs:List PV}{T0:Option TypeId}{c:List IV}(ho:h.get (σ i)=some (.cells cs T0))(he:mF cs (c.map .iv))(hi:Xi i n=true)(hr:rr n σ h r):rr n σ h ((i,some (an c))::r):=
 ⟨⟨_,ho,by rw[ta];exact .trans (.Py cs T0) (.cells he)⟩,WR hi,oe n c,hr⟩
theorem U4(l:Lit):Pure prog 251 [ag l.c] (.iv (dy 2 (bU l) Atom.c)):=by
 refine ad ab func251 Z (by decide) ntmps251 Z (by simp) Z ?_;refine gA Z (zI (fun k1=>?_) fun k1=>?_)
 ·have k1: ¬l.kind=1:=zF k1;refine gA Z (zI (fun k2=>?_) fun k2=>?_)
  ·have k2:l.kind=2:=zT k2;have e:bU l=[l.atom]:=am (.inr k2);refine gA Z (cU (by first|exact .inr Z|exact .inl Z) Z Z (by rw[e];rfl) (by rw[e];rfl))
  ·have k2: ¬l.kind=2:=zF k2;have e:bU l=[]:=be (by omega);rw[e];refine gA Z (zL ?_);exact .nil _ _
 ·have k1:l.kind=1:=zT k1;have e:bU l=[l.atom]:=am (.inl k1)
  repeat(refine gA Z (zI (fun q=>?_) (fun q=>?_));all_goals(try(simp at q;done)))
  refine gA Z (cU (by first|exact .inr Z|exact .inl Z) Z Z (by rw[e];rfl) (by rw[e];rfl))
theorem U9(r:aq)(lit:Int)(h1:lit<r.body.length)(hb:r.size<=100000000):Pure prog 234 [ag r.c,pI lit] (.iv (dy 2 (bu r lit) Atom.c)):=by
 have c0:=Lit.aw r.body;have h0:Lit.ax r.body<=r.size:=Yt _ _;refine ad ab func234 Z (by decide) ntmps234 Z (by simp) Z ?_;refine gA Z (zI (fun h2=>?_) fun h2=>?_)
 ·have h2:lit<0:=by simpa using h2
  refine gA Z (cU (by first|exact .inr Z|exact .inl Z) Z Z (by rw[bu,am h2];rfl) (by rw[bu,am h2];rfl))
 have h2: ¬lit<0:=by simpa using h2
 have hk:lit.toNat<r.body.length:=by omega
 have b0:=Lit.aT r.body lit.toNat hk;have e0:=(ah r lit).size_eq;have g0:=Lit.aw (ah r lit).ar;have j0:(ah r lit).size<=Lit.ax r.body:=b0;refine gA Z (zI (fun h3=>?_) fun h3=>?_)
 ·have h3: ¬(ah r lit).kind=4:=by simpa[ah]using h3
  have a0:bu r lit=bU (ah r lit):=by rw[bu,be h2,oH,be h3];simp
  rw[a0];refine gA Z (zp (U4 (ah r lit)) ?_);refine gA Z (zL (.of_eq ?_));rfl
 have h3:(ah r lit).kind=4:=by simpa[ah]using h3
 have a0:bu r lit=(ah r lit).ar.flatMap bU:=by rw[bu,be h2,oH,am h3]
 refine gA Z ?_;refine fb 6 2 Z ?_;refine aA 0 (ah r lit).ar.length (W3 _) (fun i=>⟨[(5, .ptr 1 0),(6, .sl 3 0 (((ah r lit).ar.take i).flatMap bU).length 2),(7,pI i)],[(1,some (an (ah r lit).c1)),(3,some (aD 2 (((ah r lit).ar.take i).flatMap bU) Atom.c))],4⟩) (fun _=>True) [2] ac
  (zW (hCL Z (ah r lit).Uo Z (zS trivial))) fun i hi _=>?_
 have d0:=lX ((ah r lit).ar.take i);have f0:((ah r lit).ar.take i).length<=(ah r lit).ar.length:=by rw[XH];exact Nat.min_le_right _ _
 refine gA Z (zI (fun h4=>?_) fun h4=>?_)
 ·have h4:i<(ah r lit).ar.length:=zN h4;have hs:=b7 (f:=bU) h4;have i0:(bU ((ah r lit).ar.getD i default)).length<=1:=by unfold bU;split<;>simp
  refine gA Z (zp (U4 ((ah r lit).ar.getD i default)) ?_);refine gA Z ?_
  first
   |exact⟨h4,ac,[4],zM (bv ⟨.row (by rw[hs,WW]),rfl,bv ac⟩) (zK (hR Z (by rw[ox,hs,WZ]) Z ac))⟩
   |exact⟨h4,ac,[5],zM (bv ⟨.row (by rw[hs,WW]),rfl,bv ac⟩) (zK (hR Z (by rw[ox,hs,WZ]) Z ac))⟩
 ·have h4:(ah r lit).ar.length<=i:=zG h4;rw[W2 h4] at*
  refine gA Z (cU (by first|exact .inr Z|exact .inl Z) Z Z (by rw[a0]) (by rw[a0]))
theorem Wn(r:aq)(lit:Int)(h1:lit<r.body.length)(hb:r.size<=100000000):Pure prog 236 [ag r.c,pI lit] (pB (dA r lit)):=by
 have b0:=Lit.aw r.body;have h0:Lit.ax r.body<=r.size:=Yt _ _;have e0:r.size=r.head.ae.length+Lit.ax r.body:=rfl;refine ad ab func236 Z (by decide) ntmps236 Z (by simp) Z ?_;refine gA Z (zI (fun h2=>?_) fun h2=>?_)
 ·have h2:lit<0:=by simpa using h2
  have hS:dA r lit=r.head.ae.any fun x=>decide (x.kind=3):=am h2;refine gA Z ?_
  refine aA 0 r.head.ae.length (W3 _) (fun i=>⟨[(2, .ptr 0 0),(5,pI i)],[(0,some (an r.c))],1⟩) (fun i=>(r.head.ae.take i).any (fun x=>decide (x.kind=3))=false) [] (by simp)
   (zW (zK trivial)) fun i hi hJ=>?_
  refine gA Z (zI (fun h4=>?_) fun h4=>?_)
  ·have h4:i<r.head.ae.length:=zN h4;refine gA Z (zI (fun g=>?_) fun g=>?_)
   ·rw[hS,kn h4 g];refine gA Z (zL (.of_eq ?_));rfl
   ·refine gA Z ?_;exact⟨h4,(bq hJ h4).2 g,[],zW (zK ac)⟩
  ·have h4:r.head.ae.length<=i:=zG h4;rw[hS,any_none hJ h4];refine gA Z (zL (.of_eq ?_));rfl
 have h2: ¬lit<0:=by simpa using h2
 have hk:lit.toNat<r.body.length:=by omega
 have a0:=Lit.aT r.body lit.toNat hk;have c0:=(ah r lit).size_eq;have d0:=Lit.aw (ah r lit).ar;have hag:=(ah r lit).fq;have f0:(ah r lit).size<=Lit.ax r.body:=a0;refine gA Z (zI (fun h3=>?_) fun h3=>?_)
 ·have h3: ¬(ah r lit).kind=4:=by simpa[ah]using h3
  rw[dA,be h2,be h3];refine gA Z (zL (.of_eq ?_));rfl
 have h3:(ah r lit).kind=4:=by simpa[ah]using h3
 have hS:dA r lit=((ah r lit).ar.any (fun x=>decide (x.kind=4))||cj (aF (ah r lit).agg) (ah r lit).bp):=by
  rw[dA,be h2,am h3,u0 (fun x=>hP)]
 refine gA Z ?_;refine aA 0 (ah r lit).ar.length (W3 _) (fun i=>⟨[(6, .ptr 1 0),(7,pI i)],[(1,some (an (ah r lit).c1))],2⟩) (fun i=>((ah r lit).ar.take i).any (fun x=>decide (x.kind=4))=false) [] (by simp)
  (zW (hCL Z (ah r lit).Uo Z trivial)) fun i hi hJ=>?_
 refine gA Z (zI (fun h4=>?_) fun h4=>?_)
 ·have h4:i<(ah r lit).ar.length:=zN h4;refine gA Z (zI (fun g=>?_) fun g=>?_)
  ·rw[hS,kn h4 g];refine gA Z (zL (.of_eq ?_));rfl
  ·refine gA Z ?_;exact⟨h4,(bq hJ h4).2 g,[],zW (zK ac)⟩
 ·have h4:(ah r lit).ar.length<=i:=zG h4;rw[hS,any_none hJ h4,Ya];refine gA Z (zp (Al.Pure.le (aa:=[ag (ah r lit).agg.c1]) (UQ (ah r lit).agg (by omega)) ⟨eQ.Ic _,ac⟩) ?_);refine gA Z (zp (LD (aF (ah r lit).agg) (ah r lit).bp) ?_);refine gA Z (zL (.of_eq ?_));rfl
theorem yl(r:aq)(lit:Int)(h1:lit<r.body.length):(bu r lit).length<=1+Lit.ax r.body:=by
 unfold bu;split
 ·show 1<=_;omega
 ·rename_i h2;have hp:=lX (oH r lit);have a0:=Lit.aT r.body lit.toNat (by omega);have d0:=(ah r lit).size_eq;have b0:=Lit.aw (ah r lit).ar;have c0:(ah r lit).size<=Lit.ax r.body:=a0;have hl:(oH r lit).length<=1+(ah r lit).ar.length:=by
   unfold oH;split
   ·omega
   ·show 1<=_;omega
  omega
theorem Ez(r:aq)(lit:Int)(h1:lit<r.body.length):(kK r lit).length<=1+r.size:=by
 have c0:r.size=r.head.ae.length+Lit.ax r.body:=rfl;unfold kK;split
 ·have:=jI r.head;omega
 ·rename_i h2;have a0:=Lit.aT r.body lit.toNat (by omega);have b0:(ah r lit).size<=Lit.ax r.body:=a0;have hag:=(ah r lit).fq;split
  ·have g1:=jR (aF (ah r lit).agg) (ah r lit).bp;have g2:=iK (ah r lit).agg;omega
  ·have:=fU (ah r lit);omega
theorem Wm(r:aq)(lit:Int)(h1:lit<r.body.length)(hb:r.size<=100000000):Pure prog 237 [ag r.c,pI lit] (pB (dI r lit)):=by
 have b0:=Lit.aw r.body;have h0:Lit.ax r.body<=r.size:=Yt _ _;have d0:r.size=r.head.ae.length+Lit.ax r.body:=rfl;rw[<-Kf r lit h1];refine ad ab func237 Z (by decide) ntmps237 Z (by simp) Z ?_;refine gA Z (zp (Td r (by omega)) ?_);refine gA Z (zp (c32 r (by omega)) ?_);refine gM 2 Z (go_cut 3 (fun(_:Unit)=>⟨[(5, .iv (strs (outer r))),(6, .iv (strs (kv r))),(7, .iv (strs (kK r lit))),(8, .iv (strs (nq r lit)))],[],1⟩) Z ?_ ?_)
 ·refine gA Z (zI (fun h2=>?_) fun h2=>?_)
  ·have h2:lit<0:=zT h2;have hS:kK r lit=dx r.head:=am h2;have hK:nq r lit=[]:=am h2;rw[hS,hK];refine gA Z (zp (UR r.head (by omega)) ?_);refine gA Z (gd () [] (zM (bv (bv (bv ⟨.nil _ _,rfl,ac⟩))) ac))
  have h2: ¬lit<0:=zF h2;have hk:lit.toNat<r.body.length:=by omega
  have a0:=Lit.aT r.body lit.toNat hk;have hag:=(ah r lit).fq;have f0:(ah r lit).size<=Lit.ax r.body:=a0;refine gA Z (zp (Vr (ah r lit) (by omega)) ?_);refine gA Z (zI (fun h3=>?_) fun h3=>?_)
  ·have h3:(ah r lit).kind=4:=zT h3;have hS:kK r lit=bR (aF (ah r lit).agg) (ah r lit).bp:=by unfold kK;rw[be h2,am h3]
   have hK:nq r lit=ma r lit:=by unfold nq;rw[be h2,am h3]
   have e0:=iK (ah r lit).agg;rw[hS,hK];refine gA Z (zp (UQ (ah r lit).agg (by omega)) ?_);refine gA Z (zp (O9 (aF (ah r lit).agg) (ah r lit).bp (by omega)) ?_);refine gA Z (zp (We r lit (by omega) h1 (by omega)) ?_);refine gA Z (gd () [] (zW ac))
  ·have h3: ¬(ah r lit).kind=4:=zF h3;have hS:kK r lit=cf (ah r lit):=by unfold kK;rw[be h2,be h3]
   have hK:nq r lit=[]:=by unfold nq;rw[be h2,be h3]
   rw[hS,hK];refine gA Z (gd () [] (zM (bv (bv (bv ⟨.nil _ _,rfl,ac⟩))) ac))
 rintro⟨⟩;have c0:=Ez r lit h1;have hL:EX r lit=(kK r lit).any (Aa r (nq r lit)):=rfl;rw[hL];generalize kK r lit=S at*
 generalize nq r lit=K at*
 refine gA Z ?_;refine aA 0 S.length (W3 _) (fun i=>⟨[(5, .iv (strs (outer r))),(6, .iv (strs (kv r))),(7, .iv (strs S)),(8, .iv (strs K)),(10,pI i)],[],1⟩) (fun i=>(S.take i).any (Aa r K)=false) [] (by simp)
  (zW trivial) fun i hi hJ=>?_
 refine gA Z (zI (fun h4=>?_) fun h4=>?_);rotate_left
 ·have h4:S.length<=i:=zG h4;rw[any_none hJ h4];refine gA Z (zL (.of_eq ?_));rfl
 have h4:i<S.length:=zN h4;have hF:Aa r K (S.getD i default)=!(if cj (outer r) (S.getD i default)=true then cj (kv r) (S.getD i default) else cj K (S.getD i default)):=rfl;refine gA Z (zp (LD (outer r) (S.getD i default)) ?_);refine gA Z (zp (LD (kv r) (S.getD i default)) ?_);refine gA Z (zI (fun g=>?_) fun g=>?_)
 ·have g:cj (outer r) (S.getD i default)=false:=by simpa using g
  rw[be (by rw[g];decide)]at hF;refine gA Z (zp (LD K (S.getD i default)) ?_);refine gA Z (zI (fun q=>?_) fun q=>?_)
  ·rw[kn h4 (hF.trans q)];refine gA Z (zL (.of_eq ?_));rfl
  ·refine gA Z ?_;exact⟨h4,(bq hJ h4).2 (hF.trans q),[],zW ac⟩
 ·have g:cj (outer r) (S.getD i default)=true:=by simpa using g
  rw[am g]at hF;refine gA Z (zI (fun q=>?_) fun q=>?_)
  ·rw[kn h4 (hF.trans q)];refine gA Z (zL (.of_eq ?_));rfl
  ·refine gA Z ?_;exact⟨h4,(bq hJ h4).2 (hF.trans q),[],zW ac⟩
def yW(r:aq):Nat->Nat
 |0=>(outer r).length
 |i+1=>yW r i+(l9 r i).length
theorem zw(r:aq)(i:Nat)(h:i<r.body.length):(l9 r i).length=jZ r (r.body.getD i default):=by
 have e:ah r i=r.body.getD i default:=rfl;rw[<-Et,sJ,jZ,e];by_cases k4:(r.body.getD i default).kind=4
 ·rw[be (by rintro(g|g|g)<;>omega),am k4,ff,ji,Xr]
 ·rw[am (.inr (.inr k4)),be k4];rfl
theorem BU(r:aq): ∀i,i<=r.body.length->yW r i=(r.body.take i).foldl (fun n l=>n+jZ r l) (aJ (az r)).length
 |0,_=>by
  show(outer r).length=(aJ (az r)).length;rw[<-Es,ff,ji,Xr]
 |i+1,h=>by
  rw[yW,BU r i (by omega),zw r i (by omega),cR (g:=fun n l=>n+jZ r l) (show i<r.body.length by omega)]
theorem Wx(r:aq)(hb:r.size<=100000000):Pure prog 209 [ag r.c] (pI (tt r)):=by
 have c0:=Lit.aw r.body;have h0:Lit.ax r.body<=r.size:=Yt _ _;have ho:=tF r;have f0:=l0 (az r);refine ad ab func209 Z (by decide) ntmps209 Z (by simp) Z ?_;refine gA Z (zp (Td r (by omega)) ?_);refine gA Z ?_;refine aA 0 r.body.length (W3 _) (fun i=>⟨[(1, .ptr 0 0),(4,pI (yW r i:Nat)),(5,pI i)],[(0,some (an r.c))],1⟩) (fun _=>True) [] ac
  (zW (zK trivial)) fun i hi _=>?_
 have hv:=BU r i hi;have d0:=xd r (r.body.take i) (aJ (az r)).length;have g0:=Lit.lQ r.body i;refine gA Z (zI (fun h1=>?_) fun h1=>?_)
 ·have h1:i<r.body.length:=zN h1;have i0:=Lit.aT r.body i h1;have e0:=uW r (r.body.getD i default);have b0:=zw r i h1;refine gA Z (zp (c36 r i (by omega)) ?_);refine gA Z ⟨h1,ac,[],zM (bv ⟨.of_eq (EM (by show _=((yW r i+(l9 r i).length:Nat):Int);omega)),rfl,bv ac⟩) (zK ac)⟩
 ·have h1:r.body.length<=i:=zG h1;have a0:i=r.body.length:=by omega
  subst a0;have e:yW r r.body.length=tt r:=by rw[hv,W2 (W0 _)];rfl
  rw[<-e];refine gA Z (zL (.of_eq ?_));rfl
theorem c67(r:aq)(n:Int)(hb:r.size<=100000000):Pure prog 175 [ag r.c,pI n] (ag (rh r n).c):=by
 have a0:=Lit.aw r.body;have h0:Lit.ax r.body<=r.size:=Yt _ _;refine ad ab func175 Z (by decide) ntmps175 Z (by simp) Z ?_;refine gA Z (zI (fun g1=>?_) fun g1=>?_);rotate_left
 ·have g1:n>256:=zT g1;rw[rh,am (.inl g1)]
  repeat(refine gA Z (zI (fun q=>?_) (fun q=>?_));all_goals(try(simp at q;done)))
  refine gA Z (zp (Q7 66 r.at_) ?_);refine gA Z (zL (.of_eq ?_));rfl
 have g1: ¬n>256:=zF g1;refine gA Z (zI (fun g2=>?_) fun g2=>?_)
 ·have g2:(r.body.length:Int)>12:=zT g2;rw[rh,am (.inr g2)];refine gA Z (zp (Q7 66 r.at_) ?_);refine gA Z (zL (.of_eq ?_));rfl
 have g2: ¬(r.body.length:Int)>12:=zF g2;refine gA Z (zp (Wx r hb) ?_);refine gA Z (zI (fun g3=>?_) fun g3=>?_)
 ·have g3:(tt r:Int)>24:=zT g3;rw[rh,be (by omega),am g3];refine gA Z (zp (Q7 66 r.at_) ?_);refine gA Z (zL (.of_eq ?_));rfl
 have g3: ¬(tt r:Int)>24:=zF g3;have hL:rh r n=match r.body.find? oW with
  |some l=>(66,l.at)
  |none=>aZ.z:=by rw[rh,be (by omega),be g3]<;>rfl
 refine gA Z ?_;refine aA 0 r.body.length (W3 _) (fun i=>⟨[(2, .ptr 0 0),(4, .ptr 1 0),(6,pI i)],[(0,some (an r.c)),(1,some (an aZ.z.c))],2⟩) (fun i=>(r.body.take i).any oW=false) [] (by simp)
  (zW (zK (zK trivial))) fun i hi hJ=>?_
 refine gA Z (zI (fun h1=>?_) fun h1=>?_);rotate_left
 ·have h1:r.body.length<=i:=zG h1;rw[hL,fV (any_none hJ h1)];refine gA Z (zL (.of_eq ?_));rfl
 have h1:i<r.body.length:=zN h1;have hW:oW (r.body.getD i default)=(decide ((r.body.getD i default).kind=4)&&decide (((r.body.getD i default).ar.length:Int)>12)):=rfl;refine gA Z (zI (fun k4=>?_) fun k4=>?_);rotate_left
 ·have k4:decide ((r.body.getD i default).kind=4)=false:=k4;rw[k4,Yi]at hW
  repeat(refine gA Z (zI (fun q=>?_) (fun q=>?_));all_goals(try(simp at q;done)))
  refine gA Z ⟨h1,(bq hJ h1).2 hW,[],zW (zK (zK ac))⟩
 have k4:decide ((r.body.getD i default).kind=4)=true:=k4;rw[k4,XV]at hW;refine gA Z (zI (fun w=>?_) fun w=>?_)
 ·rw[hL,nZ hJ h1 (hW.trans w)];refine gA Z (zp (Q7 66 (r.body.getD i default).at) ?_);refine gA Z (zL (.of_eq ?_));rfl
 ·refine gA Z ?_;exact⟨h1,(bq hJ h1).2 (hW.trans w),[],zW (zK (zK ac))⟩
def dG(p:Prog)(r:aq)(e lit:Int):Bool:=
 if e=1 then uj r lit else if e=61 then(bu r lit).any (fun x=>lz p x) else if e=62 then(bu r lit).any (fun x=>mJ p x) else if e=65 then dA r lit else if e=64 then dI r lit else false
theorem Wy(p:Prog)(r:aq)(lit e:Int)(hp:p.aB.length<=1000000000)(hf:r.fit)(h1:lit<r.body.length):Pure prog 207 [ag p.c,ag r.c,pI lit,pI e] (pB (dG p r e lit)):=by
 obtain⟨hb,hh,hB⟩:=hf;have ha:=B5 r.head;have h0:Lit.ax r.body<=r.size:=Yt _ _;refine ad ab func207 Z (by decide) ntmps207 Z (by simp) Z ?_;refine gA Z (zI (fun z1=>?_) fun z1=>?_)
 ·have z1:e=1:=zT z1;have hW:dG p r e lit=uj r lit:=am z1;rw[hW];refine gA Z (zI (fun h2=>?_) fun h2=>?_)
  ·have h2:lit<0:=zT h2;have e1:uj r lit=(eZ r.head).2:=am h2;rw[e1];refine gA Z (zp (c62 r.head hh (by omega)) ?_);refine gA Z (zL (.of_eq ?_));refine(fu ?_:pB _=pB _);cases(eZ r.head).2<;>rfl
  ·have h2: ¬lit<0:=zF h2;have e1:uj r lit=(o6 (ah r lit)).2:=be h2;have hm:ah r lit∈r.body:=by
    unfold ah;rw[WU,WY (show lit.toNat<r.body.length by omega)];exact XD _
   rw[e1];refine gA Z (bn (Wo (ah r lit) (hB _ hm)) Z Z Z Z Z Z ?_);refine gA Z (zL (.of_eq ?_));refine(fu ?_:pB _=pB _);cases(o6 (ah r lit)).2<;>rfl
 have z1: ¬e=1:=zF z1;refine gA Z (zI (fun z2=>?_) fun z2=>?_)
 ·have z2:e=61:=zT z2;have hW:dG p r e lit=(bu r lit).any (fun x=>lz p x):=by unfold dG;rw[be z1,am z2]
  rw[hW];refine gA Z (zp (U9 r lit h1 (by omega)) ?_);refine gA Z ?_;have a0:=yl r lit h1;generalize bu r lit=L at*
  refine aA 0 L.length (W3 _) (fun i=>⟨[(3,pI e),(4, .ptr 0 0),(11, .iv (dy 2 L Atom.c)),(12,pI i)],[(0,some (an p.c))],2⟩) (fun i=>(L.take i).any (fun x=>lz p x)=false) [] (by simp)
   (zW (zK trivial)) fun i hi hJ=>?_
  refine gA Z (zI (fun h4=>?_) fun h4=>?_);rotate_left
  ·have h4:L.length<=i:=zG h4;rw[any_none hJ h4];refine gA Z (zL (.of_eq ?_));rfl
  have h4:i<L.length:=zN h4;refine gA Z (nB (VT p (L.getD i default).rel (by omega)) ?_);refine gA Z (zI (fun y1=>?_) fun y1=>?_)
  ·refine gA Z (zI (fun y2=>?_) fun y2=>?_)
   ·rw[kn h4 (show lz p (L.getD i default)=true from y2)]
    repeat(refine gA Z (zI (fun q=>?_) (fun q=>?_));all_goals(try(simp at q;done)))
    refine gA Z (zL (.of_eq ?_));rfl
   ·refine gA Z (zI (fun y3=>?_) fun y3=>?_)
    ·exact absurd (zT y3) (by omega)
    repeat(refine gA Z (zI (fun q=>?_) (fun q=>?_));all_goals(try(simp at q;done)))
    refine gA Z ⟨h4,(bq hJ h4).2 y2,[],zW (zK ac)⟩
  ·exact absurd z2 (zF y1)
 have z2: ¬e=61:=zF z2;refine gA Z (zI (fun z3=>?_) fun z3=>?_)
 ·have z3:e=62:=zT z3;have hW:dG p r e lit=(bu r lit).any (fun x=>mJ p x):=by unfold dG;rw[be z1,be z2,am z3]
  rw[hW];refine gA Z (zp (U9 r lit h1 (by omega)) ?_);refine gA Z ?_;have a0:=yl r lit h1;generalize bu r lit=L at*
  refine aA 0 L.length (W3 _) (fun i=>⟨[(3,pI e),(4, .ptr 0 0),(11, .iv (dy 2 L Atom.c)),(12,pI i)],[(0,some (an p.c))],2⟩) (fun i=>(L.take i).any (fun x=>mJ p x)=false) [] (by simp)
   (zW (zK trivial)) fun i hi hJ=>?_
  refine gA Z (zI (fun h4=>?_) fun h4=>?_);rotate_left
  ·have h4:L.length<=i:=zG h4;rw[any_none hJ h4];refine gA Z (zL (.of_eq ?_));rfl
  have h4:i<L.length:=zN h4;refine gA Z (nB (VT p (L.getD i default).rel (by omega)) ?_);refine gA Z (zI (fun y1=>?_) fun y1=>?_)
  ·exact absurd (zT y1) z2
  refine gA Z (zI (fun y3=>?_) fun y3=>?_)
  ·refine gA Z (zI (fun y4=>?_) fun y4=>?_)
   ·rw[kn h4 (show mJ p (L.getD i default)=true from y4)];refine gA Z (zL (.of_eq ?_));rfl
   ·refine gA Z ?_;exact⟨h4,(bq hJ h4).2 y4,[],zW (zK ac)⟩
  ·exact absurd z3 (zF y3)
 have z3: ¬e=62:=zF z3;refine gA Z (zI (fun z4=>?_) fun z4=>?_)
 ·have z4:e=65:=zT z4;have hW:dG p r e lit=dA r lit:=by unfold dG;rw[be z1,be z2,be z3,am z4]
  rw[hW];refine gA Z (zp (Wn r lit h1 (by omega)) ?_);refine gA Z (zL (.of_eq ?_));rfl
 have z4: ¬e=65:=zF z4;refine gA Z (zI (fun z5=>?_) fun z5=>?_)
 ·have z5:e=64:=zT z5;have hW:dG p r e lit=dI r lit:=by unfold dG;rw[be z1,be z2,be z3,be z4,am z5]
  rw[hW];refine gA Z (zp (Wm r lit h1 (by omega)) ?_);refine gA Z (zL (.of_eq ?_));rfl
 ·have z5: ¬e=64:=zF z5;have hW:dG p r e lit=false:=by unfold dG;rw[be z1,be z2,be z3,be z4,be z5]
  rw[hW];refine gA Z (zL (.of_eq ?_));rfl
theorem US(p:Prog)(r:aq)(e:Int)(hp:p.aB.length<=1000000000)(hf:r.fit):Pure prog 174 [ag p.c,ag r.c,pI e] (ag (bB r e (dG p r e) aZ.z).c):=by
 have a0:=Lit.aw r.body;have h0:Lit.ax r.body<=r.size:=Yt _ _;have c0:=hf.1;have b0:=qR r.body.length;refine ad ab func174 Z (by decide) ntmps174 Z (by simp) Z ?_;refine gA Z ?_;refine aA 0 (r.body.length+1) (W3 _) (fun i=>⟨[(2,pI e),(3, .ptr 0 0),(4, .ptr 1 0),(6, .ptr 2 0),(7,pI ((i:Int)-1))],[(0,some (an p.c)),(1,some (an r.c)),(2,some (an aZ.z.c))],3⟩) (fun i=>((iH r.body.length).take i).any (dG p r e)=false) [] (by simp)
  (zW (zK (zK (zK trivial)))) fun i hi hJ=>?_
 refine gA Z (zI (fun h1=>?_) fun h1=>?_);rotate_left
 ·have h1: ¬(i:Int)-1<(r.body.length:Int):=zF h1;have e0:bB r e (dG p r e) aZ.z=aZ.z:=by
   unfold bB vc;rw[fV (any_none hJ (by omega))]
  rw[e0];refine gA Z (zL (.of_eq ?_));rfl
 have h1:(i:Int)-1<(r.body.length:Int):=zT h1;have hg:=qS r.body.length i (by omega);refine gA Z (zp (Wy p r ((i:Int)-1) e hp hf h1) ?_);refine gA Z (zI (fun g=>?_) fun g=>?_)
 ·rw[l5 hJ (by omega) g];refine gA Z (zp (SW r ((i:Int)-1) h1) ?_);refine gA Z (zp (Q7 e (fh r ((i:Int)-1))) ?_);refine gA Z (zL (.of_eq ?_));rfl
 ·refine gA Z ?_;exact⟨by omega,(bq hJ (by omega)).2 (by rw[hg];exact g),[],zM (bv (bv (bv (bv ⟨.of_eq (EM (by omega)),rfl,ac⟩)))) (zK (zK (zK ac)))⟩
end Go.Proofs.YtflegjieadkonaaGreatDoor
