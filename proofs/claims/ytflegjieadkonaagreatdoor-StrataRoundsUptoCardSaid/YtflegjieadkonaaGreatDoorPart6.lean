/-
  What the proofs of the claims need: part 6 of 6.
-/
import Derived.Test.YtflegjieadkonaaGreatDoorPart5
open And renaming intro→XA
open Bool renaming and_eq_false_iff→YJ,eq_iff_iff→Xy
open ByteArray renaming empty→W4
open Int renaming toNat_natCast→Xp
open List renaming all_append→Zz,all_eq_false→Y4,any_eq_true→XM,append_assoc→Xa,append_nil→XE,eq_nil_of_length_eq_zero→Ys,getD_eq_getElem?_getD→WU,getElem?_eq_getElem→WY,getElem_mem→XD,length_append→WW,map_append→WZ,mem_map→Xt,mem_take_iff_getElem→Zf,take_of_length_le→W2
open Nat renaming le_of_ble_eq_true→WR,le_refl→W0,zero_add→Xk,zero_le→W3
open Prod renaming fst→Xl
open Array renaming getD_eq_getD_getElem?→WT
open Option.some renaming injEq→WV
open Array renaming range→aaa
open Array renaming getElem?_map→Zk
open Option renaming map_some→XW
open Option renaming getD_some→Yl
open Array renaming getElem?_eq_getElem→XS
open List renaming getElem?_eq_some_iff→WX
open Nat renaming mul_le_mul_right→Xw
open Nat renaming add_mul→Yj
open Array renaming getElem?_append_left→X8
open List renaming getElem?_append_right→Xj
open List renaming length_map→Xr
open List renaming getElem?_take→XY
open Array renaming getElem?_toList→X4
open List renaming range_succ_eq_map→Zl
set_option maxRecDepth 100000
namespace Go.Proofs.YtflegjieadkonaaGreatDoor
open Go Go.Al Go.Proofs.Tryz
theorem NZ(p:Prog)(i:Nat)(s:aj):bQ .str (aJ (dH p i)) s 0>0↔s∈dH p i:=by
 rw[bL];constructor
 ·intro h;exact oc.1 (by omega)
 ·intro h;have:=oc.2 h;omega
theorem N3(p:Prog)(i:Nat)(s:aj):((p.aB.take i).any fun d=>decide (d.name=s))=true↔s∈dH p i:=by
 unfold dH;rw[XM,Xt];constructor
 ·rintro⟨d,h1,h2⟩;exact⟨d,h1,zT h2⟩
 ·rintro⟨d,h1,h2⟩;exact⟨d,h1,decide_eq_true h2⟩
def EN(x:Int):Bool:=decide (x=1)||decide (x=2)
def tJ(d:Decl)(k:Nat):Bool:=eh d.name&&(d.types.take k).all EN
theorem EO{d:Decl}{k:Nat}(h:k<d.types.length):tJ d (k+1)=(tJ d k&&EN (d.types.getD k default)):=by
 unfold tJ;rw[aN h,Zz,<-Bool.and_assoc];simp
theorem HU(d:Decl):tJ d d.types.length=false↔((d.types.any fun x=>!decide (x=1)&&!decide (x=2))=true∨eh d.name=false):=by
 unfold tJ;rw[W2 (W0 _),YJ];have:d.types.all EN=false↔(d.types.any fun x=>!decide (x=1)&&!decide (x=2))=true:=by
  rw[Y4,XM];constructor
  ·rintro⟨x,h1,h2⟩;refine⟨x,h1,?_⟩;unfold EN at h2;simpa using h2
  ·rintro⟨x,h1,h2⟩;refine⟨x,h1,?_⟩;unfold EN;simpa using h2
 rw[this];exact Or.comm
theorem c82(p:Prog)(i:Nat)(hi:i<p.aB.length)(hs:p.size<=10000000):Pure prog 131 [ag p.c,pI i] (pI (dc p i)):=by
 have d0:p.aB.length<=p.size:=by unfold Prog.size;omega
 have e0:(p.aB.getD i default).types.length<=p.size:=by
  have:=qJ (fun d:Decl=>d.types.length) p.aB i hi;unfold Prog.size;have h2:(p.aB.getD i default).types.length<=(p.aB.map fun d=>d.types.length).sum:=this;omega
 have hR:dc p i=if(((p.aB.getD i default).types.any fun x=>!decide (x=1)&&!decide (x=2))=true∨eh (p.aB.getD i default).name=false) then 1 else if(i:Int)>=64∨((p.aB.getD i default).types.length:Int)>8 then 66 else if bQ .str (aJ (dH p i)) (p.aB.getD i default).name 0>0 then 60 else 0:=rfl;have hA:=HU (p.aB.getD i default);have hD:=NZ p i (p.aB.getD i default).name;have hN:=N3 p i (p.aB.getD i default).name;refine ad ab func131 Z (by decide) ntmps131 Z (by simp) Z ?_;refine gA Z (zp (c56 (p.aB.getD i default).name) ?_);refine gA Z ?_;refine aA 0 (p.aB.getD i default).types.length (W3 _) (fun k=>⟨[(1,pI i),(2, .ptr 0 0),(5, .ptr 1 0),(6,pB (tJ (p.aB.getD i default) k)),(7,pI k)],[(0,some (an p.c)),(1,some (an (p.aB.getD i default).c))],2⟩) (fun _=>True) [] ac
  (zM (bv (bv (bv ⟨.of_eq (fu (by unfold tJ;simp)),rfl,bv trivial⟩))) (zK (zK trivial))) fun k hk _=>?_
 refine gA Z (zI (fun h1=>?_) fun h1=>?_)
 ·have h1:k<(p.aB.getD i default).types.length:=zN h1;have c0:=EO h1
  repeat' (first
   |(refine gA Z (zI (fun q=>?_) (fun q=>?_)))
   |fail)
  all_goals(refine gA Z ?_)
  all_goals first
   |exact⟨h1,ac,[],zM (bv (bv (bv ⟨.of_eq (fu (by rw[c0];unfold EN;simp_all)),rfl,bv ac⟩))) (zK (zK ac))⟩
   |exact⟨h1,ac,[],zM (bv (bv (bv ⟨.te (by rw[c0];unfold EN;simp_all),rfl,bv ac⟩))) (zK (zK ac))⟩
 have h1:(p.aB.getD i default).types.length<=k:=zG h1;have a0:k=(p.aB.getD i default).types.length:=by omega
 subst a0;refine gA Z (zI (fun g1=>?_) fun g1=>?_)
 ·have g1:tJ (p.aB.getD i default) (p.aB.getD i default).types.length=false:=by simpa using g1
  rw[hR,am (hA.1 g1)];refine gA Z (zL (.of_eq ?_));rfl
 have g1: ¬tJ (p.aB.getD i default) (p.aB.getD i default).types.length=false:=by
  intro h;rw[h]at g1;simp at g1
 rw[be fun h=>g1 (hA.2 h)]at hR;refine gA Z (zI (fun g2=>?_) fun g2=>?_);rotate_left
 ·have g2:(i:Int)>=64:=zT g2;rw[hR,am (.inl g2)]
  repeat(refine gA Z (zI (fun q=>?_) (fun q=>?_));all_goals(try(simp at q;done)))
  refine gA Z (zL (.of_eq ?_));rfl
 have g2: ¬(i:Int)>=64:=zF g2;refine gA Z (zI (fun g3=>?_) fun g3=>?_)
 ·have g3:((p.aB.getD i default).types.length:Int)>8:=zT g3;rw[hR,am (.inr g3)];refine gA Z (zL (.of_eq ?_));rfl
 have g3: ¬((p.aB.getD i default).types.length:Int)>8:=zF g3;rw[be (by omega)]at hR;refine gA Z ?_;refine aA 0 i (W3 _) (fun k=>⟨[(1,pI i),(2, .ptr 0 0),(5, .ptr 1 0),(8,pI k)],[(0,some (an p.c)),(1,some (an (p.aB.getD i default).c))],2⟩) (fun k=>((p.aB.take k).any fun x=>decide (x.name=(p.aB.getD i default).name))=false) [] (by simp)
  (zW (zK (zK trivial))) fun k hk hJ=>?_
 refine gA Z (zI (fun h4=>?_) fun h4=>?_)
 ·have h4:k<i:=zN h4;have b0:k<p.aB.length:=by omega
  refine gA Z (zI (fun w=>?_) fun w=>?_)
  ·have w:decide ((p.aB.getD k default).name=(p.aB.getD i default).name)=true:=w;have hin:(p.aB.getD i default).name∈dH p i:=by
    refine hN.1 (XM.2 ⟨p.aB.getD k default,?_,w⟩);rw[WU,WY b0];exact Zf.2 ⟨k,by omega,rfl⟩
   rw[hR,am (hD.2 hin)];refine gA Z (zL (.of_eq ?_));rfl
  ·have w:decide ((p.aB.getD k default).name=(p.aB.getD i default).name)=false:=w;refine gA Z ⟨h4,(bq hJ b0).2 w,[],zW (zK (zK ac))⟩
 ·have h4:i<=k:=zG h4;have a0:k=i:=by omega
  subst a0;rw[hR,be fun h=>by rw[hN.2 (hD.1 h)]at hJ;cases hJ];refine gA Z (zL (.of_eq ?_));rfl
theorem k1(p:Prog)(r:aq)(hp:p.aB.length<=1000000000)(hf:r.fit):Pure prog 174 [ag p.c,ag r.c,pI 1] (ag (aZ.c (bB r 1 (uj r) aZ.z))):=by
 have e:dG p r 1=uj r:=funext fun lit=>am Z;have:=US p r 1 hp hf;rwa[e]at this
theorem k61(p:Prog)(r:aq)(hp:p.aB.length<=1000000000)(hf:r.fit):Pure prog 174 [ag p.c,ag r.c,pI 61] (ag (aZ.c (bB r 61 (fun lit=>(bu r lit).any fun x=>lz p x) aZ.z))):=by
 have e:dG p r 61=fun lit=>(bu r lit).any fun x=>lz p x:=funext fun lit=>by unfold dG;rw[be (by decide),am Z]
 have:=US p r 61 hp hf;rwa[e]at this
theorem k62(p:Prog)(r:aq)(hp:p.aB.length<=1000000000)(hf:r.fit):Pure prog 174 [ag p.c,ag r.c,pI 62] (ag (aZ.c (bB r 62 (fun lit=>(bu r lit).any fun x=>mJ p x) aZ.z))):=by
 have e:dG p r 62=fun lit=>(bu r lit).any fun x=>mJ p x:=funext fun lit=>by unfold dG;rw[be (by decide),be (by decide),am Z]
 have:=US p r 62 hp hf;rwa[e]at this
theorem k65(p:Prog)(r:aq)(hp:p.aB.length<=1000000000)(hf:r.fit):Pure prog 174 [ag p.c,ag r.c,pI 65] (ag (aZ.c (bB r 65 (dA r) aZ.z))):=by
 have e:dG p r 65=dA r:=funext fun lit=>by unfold dG;rw[be (by decide),be (by decide),be (by decide),am Z]
 have:=US p r 65 hp hf;rwa[e]at this
theorem k64(p:Prog)(r:aq)(hp:p.aB.length<=1000000000)(hf:r.fit):Pure prog 174 [ag p.c,ag r.c,pI 64] (ag (aZ.c (bB r 64 (dI r) aZ.z))):=by
 have e:dG p r 64=dI r:=funext fun lit=>by unfold dG;rw[be (by decide),be (by decide),be (by decide),be (by decide),am Z]
 have:=US p r 64 hp hf;rwa[e]at this
theorem HO(a b c:aZ):mG (mG a b) c=mG a (mG b c):=by
 unfold mG;by_cases h:a.1=0
 ·rw[am h,am h]
 ·rw[be h,be h,be h]
set_option maxHeartbeats 2000000 in
theorem c27(p:Prog)(n:Int)(hf:p.fit):Pure prog 133 [ag p.c,pI n] (ag (if n<1∨(p.rules.length:Int)<n then(1,⟨0,0⟩) else tz p (p.rules.getD (n-1).toNat default) n:aZ).c):=by
 obtain⟨hp,e0,a0⟩:=hf;refine ad ab func133 Z (by decide) ntmps133 Z (by simp) Z ?_;refine gA Z (zI (fun g1=>?_) fun g1=>?_);rotate_left
 ·have g1:n<1:=zT g1;rw[am (.inl g1)]
  repeat(refine gA Z (zI (fun q=>?_) (fun q=>?_));all_goals(try(simp at q;done)))
  refine gA Z (zL (.of_eq ?_));rfl
 have g1: ¬n<1:=zF g1;refine gA Z (zI (fun g2=>?_) fun g2=>?_)
 ·have g2:n>(p.rules.length:Int):=zT g2;rw[am (.inr g2)];refine gA Z (zL (.of_eq ?_));rfl
 have g2: ¬n>(p.rules.length:Int):=zF g2;rw[be (by omega)];have hlt:(n-1).toNat<p.rules.length:=by omega
 have hr:(p.rules.getD (n-1).toNat default).fit:=a0 _ (by rw[WU,WY hlt];exact XD hlt);have d0:=hr.1;refine gA Z (zp (k1 p (p.rules.getD (n-1).toNat default) hp hr) ?_);generalize p.rules.getD (n-1).toNat default=r at*
 rw[<-NQ];have hR:JE p r n=mG (mG (mG (mG (mG (mG (bB r 1 (uj r) aZ.z) (rh r n)) (bB r 61 (fun lit=>(bu r lit).any fun x=>lz p x) aZ.z)) (bB r 62 (fun lit=>(bu r lit).any fun x=>mJ p x) aZ.z)) (bB r 65 (dA r) aZ.z)) (iR r (mX p r))) (bB r 64 (dI r) aZ.z):=by
  simp only[HO];rfl
 rw[hR];clear hR;generalize f0:bB r 1 (uj r) aZ.z=D0 at*
 refine gM 3 Z (go_cut 1 (fun(_:Unit)=>⟨[(1,pI n),(2, .ptr 0 0),(4, .ptr 1 0),(5, .ptr 2 0),(6, .ptr 3 0)],[(0,some (an p.c)),(1,some (an aZ.z.c)),(2,some (an r.c)),(3,some (an (aZ.c (mG D0 (rh r n)))))],4⟩) Z ?_ ?_)
 ·refine gA Z (zI (fun g=>?_) fun g=>?_)
  ·have g:Xl D0=0:=zT g;refine gA Z (zp (c67 r n (by omega)) ?_);rw[show mG D0 (rh r n)=(rh r n) from am g];refine gA Z (gd () [] (zW (zK (zK (zK (zK ac))))))
  ·have g: ¬Xl D0=0:=zF g;rw[show mG D0 (rh r n)=D0 from be g];refine gA Z (gd () [] (zW (zK (zK (zK (zK ac))))))
 rintro⟨⟩;generalize c0:mG D0 (rh r n)=D1 at*
 refine go_cut 1 (fun(_:Unit)=>⟨[(1,pI n),(2, .ptr 0 0),(4, .ptr 1 0),(5, .ptr 2 0),(6, .ptr 3 0)],[(0,some (an p.c)),(1,some (an aZ.z.c)),(2,some (an r.c)),(3,some (an (aZ.c (mG D1 (bB r 61 (fun lit=>(bu r lit).any fun x=>lz p x) aZ.z)))))],4⟩) Z ?_ ?_
 ·refine gA Z (zI (fun g=>?_) fun g=>?_)
  ·have g:Xl D1=0:=zT g;refine gA Z (zp (k61 p r hp hr) ?_);rw[show mG D1 (bB r 61 (fun lit=>(bu r lit).any fun x=>lz p x) aZ.z)=(bB r 61 (fun lit=>(bu r lit).any fun x=>lz p x) aZ.z) from am g];refine gA Z (gd () [] (zW (zK (zK (zK (zK ac))))))
  ·have g: ¬Xl D1=0:=zF g;rw[show mG D1 (bB r 61 (fun lit=>(bu r lit).any fun x=>lz p x) aZ.z)=D1 from be g];refine gA Z (gd () [] (zW (zK (zK (zK (zK ac))))))
 rintro⟨⟩;generalize g0:mG D1 (bB r 61 (fun lit=>(bu r lit).any fun x=>lz p x) aZ.z)=D2 at*
 refine go_cut 1 (fun(_:Unit)=>⟨[(1,pI n),(2, .ptr 0 0),(4, .ptr 1 0),(5, .ptr 2 0),(6, .ptr 3 0)],[(0,some (an p.c)),(1,some (an aZ.z.c)),(2,some (an r.c)),(3,some (an (aZ.c (mG D2 (bB r 62 (fun lit=>(bu r lit).any fun x=>mJ p x) aZ.z)))))],4⟩) Z ?_ ?_
 ·refine gA Z (zI (fun g=>?_) fun g=>?_)
  ·have g:Xl D2=0:=zT g;refine gA Z (zp (k62 p r hp hr) ?_);rw[show mG D2 (bB r 62 (fun lit=>(bu r lit).any fun x=>mJ p x) aZ.z)=(bB r 62 (fun lit=>(bu r lit).any fun x=>mJ p x) aZ.z) from am g];refine gA Z (gd () [] (zW (zK (zK (zK (zK ac))))))
  ·have g: ¬Xl D2=0:=zF g;rw[show mG D2 (bB r 62 (fun lit=>(bu r lit).any fun x=>mJ p x) aZ.z)=D2 from be g];refine gA Z (gd () [] (zW (zK (zK (zK (zK ac))))))
 rintro⟨⟩;generalize i0:mG D2 (bB r 62 (fun lit=>(bu r lit).any fun x=>mJ p x) aZ.z)=D3 at*
 refine go_cut 1 (fun(_:Unit)=>⟨[(1,pI n),(2, .ptr 0 0),(4, .ptr 1 0),(5, .ptr 2 0),(6, .ptr 3 0)],[(0,some (an p.c)),(1,some (an aZ.z.c)),(2,some (an r.c)),(3,some (an (aZ.c (mG D3 (bB r 65 (dA r) aZ.z)))))],4⟩) Z ?_ ?_
 ·refine gA Z (zI (fun g=>?_) fun g=>?_)
  ·have g:Xl D3=0:=zT g;refine gA Z (zp (k65 p r hp hr) ?_);rw[show mG D3 (bB r 65 (dA r) aZ.z)=(bB r 65 (dA r) aZ.z) from am g];refine gA Z (gd () [] (zW (zK (zK (zK (zK ac))))))
  ·have g: ¬Xl D3=0:=zF g;rw[show mG D3 (bB r 65 (dA r) aZ.z)=D3 from be g];refine gA Z (gd () [] (zW (zK (zK (zK (zK ac))))))
 rintro⟨⟩;generalize j0:mG D3 (bB r 65 (dA r) aZ.z)=D4 at*
 refine go_cut 1 (fun(_:Unit)=>⟨[(1,pI n),(2, .ptr 0 0),(4, .ptr 1 0),(5, .ptr 2 0),(6, .ptr 3 0)],[(0,some (an p.c)),(1,some (an aZ.z.c)),(2,some (an r.c)),(3,some (an (aZ.c (mG D4 (iR r (mX p r))))))],4⟩) Z ?_ ?_
 ·refine gA Z (zI (fun g=>?_) fun g=>?_)
  ·have g:Xl D4=0:=zT g;refine gA Z (zp (c68 p r hp (by omega)) ?_);rw[show mG D4 (iR r (mX p r))=(iR r (mX p r)) from am g];refine gA Z (gd () [] (zW (zK (zK (zK (zK ac))))))
  ·have g: ¬Xl D4=0:=zF g;rw[show mG D4 (iR r (mX p r))=D4 from be g];refine gA Z (gd () [] (zW (zK (zK (zK (zK ac))))))
 rintro⟨⟩;generalize k0:mG D4 (iR r (mX p r))=D5 at*
 refine go_cut 1 (fun(_:Unit)=>⟨[(1,pI n),(2, .ptr 0 0),(4, .ptr 1 0),(5, .ptr 2 0),(6, .ptr 3 0)],[(0,some (an p.c)),(1,some (an aZ.z.c)),(2,some (an r.c)),(3,some (an (aZ.c (mG D5 (bB r 64 (dI r) aZ.z)))))],4⟩) Z ?_ ?_
 ·refine gA Z (zI (fun g=>?_) fun g=>?_)
  ·have g:Xl D5=0:=zT g;refine gA Z (zp (k64 p r hp hr) ?_);rw[show mG D5 (bB r 64 (dI r) aZ.z)=(bB r 64 (dI r) aZ.z) from am g];refine gA Z (gd () [] (zW (zK (zK (zK (zK ac))))))
  ·have g: ¬Xl D5=0:=zF g;rw[show mG D5 (bB r 64 (dI r) aZ.z)=D5 from be g];refine gA Z (gd () [] (zW (zK (zK (zK (zK ac))))))
 rintro⟨⟩;generalize b0:mG D5 (bB r 64 (dI r) aZ.z)=D6 at*
 refine gA Z (zL (.of_eq ?_));rfl
theorem VX(p:Prog)(k:Nat)(hk:k<p.rules.length)(hf:p.fit):Pure prog 133 [ag p.c,pI ((k:Int)+1)] (ag (pd p k).c):=by
 have:=c27 p ((k:Int)+1) hf;rw[be (by omega),show((k:Int)+1-1).toNat=k by omega]at this;exact this
theorem Ju{α:Type}(l:List α)(x:α):l.length+1=(l++ [x]).length:=by simp
theorem Jt{α:Type}{β:Type _}(f:α->β)(l:List α)(x:α):l.map f++ [f x]=(l++ [x]).map f:=by simp
set_option maxHeartbeats 1000000 in
theorem c41(p:Prog)(hf:p.fit)(hs:p.size<=10000000):Pure prog 103 [ag p.c] (.iv (dy 3 (jF p) aZ.c)):=by
 have d0:=hf.1;have f0:=hf.2.1;refine ad ab func103 Z (by decide) ntmps103 Z (by simp) Z ?_;refine gA Z ?_;refine fb 3 3 Z ?_;refine aA 0 p.aB.length (W3 _) (fun i=>⟨[(1, .ptr 0 0),(3, .sl 2 0 (iV p i).length 3),(4,pI i)],[(0,some (an p.c)),(2,some (aD 3 (iV p i) aZ.c))],3⟩) (fun _=>True) [1] ac
  (zW (zK (zS trivial))) fun i hi _=>?_
 have hrl:=CC p i;refine gA Z (zI (fun h1=>?_) fun h1=>?_)
 ·have h1:i<p.aB.length:=zN h1;refine gA Z (zp (c82 p i h1 hs) ?_);refine gA Z (zI (fun g=>?_) fun g=>?_)
  ·have g: ¬dc p i=0:=by
    have g:(!decide (dc p i=0))=true:=g;simpa using g
   have a0:iV p (i+1)=iV p i++ [(dc p i,(p.aB.getD i default).at_)]:=by rw[iV,be g]
   refine gA Z (zp (Q7 (dc p i) (p.aB.getD i default).at_) ?_);refine gA Z ⟨h1,ac,[4],zM (bv ⟨.row (by rw[a0,WW];rfl),rfl,bv ac⟩) (zK (hR Z (by rw[a0,WZ];rfl) Z ac))⟩
  ·have g:dc p i=0:=by
    have g:(!decide (dc p i=0))=false:=g;simpa using g
   have a0:iV p (i+1)=iV p i:=by rw[iV,am g,XE]
   refine gA Z ⟨h1,ac,[2],zM (bv ⟨.row (by rw[a0]),rfl,bv ac⟩) (zK (hR Z (by rw[a0]) Z ac))⟩
 have h1:p.aB.length<=i:=zG h1;have b0:i=p.aB.length:=by omega
 subst b0;refine gA Z ?_;refine aA 0 p.rules.length (W3 _) (fun i=>⟨[(1, .ptr 0 0),(3, .sl 3 0 (iV p p.aB.length++jL p i).length 3),(6,pI ((i:Int)+1))],[(0,some (an p.c)),(3,some (aD 3 (iV p p.aB.length++jL p i) aZ.c))],4⟩) (fun _=>True) [2] ac
  (zM (bv ⟨.row (by rw[jL,XE]),rfl,bv trivial⟩) (zK (hR Z (by rw[jL,XE]) Z trivial))) fun i hi _=>?_
 have c0:=Cq p i;have e0:(iV p p.aB.length++jL p i).length=(iV p p.aB.length).length+(jL p i).length:=WW;refine gA Z (zI (fun h2=>?_) fun h2=>?_)
 ·have h2:(i:Int)+1<=(p.rules.length:Int):=zT h2;have h2:i<p.rules.length:=by omega
  refine gA Z (zp (VX p i h2 hf) ?_);refine gA Z (zI (fun g=>?_) fun g=>?_)
  ·have g: ¬(pd p i).1=0:=by
    have g:(!decide ((pd p i).1=0))=true:=g;simpa using g
   have a0:iV p p.aB.length++jL p (i+1)=(iV p p.aB.length++jL p i)++ [pd p i]:=by rw[jL,be g,Xa]
   refine gA Z ⟨h2,ac,[6],zM (bv ⟨.row (by rw[a0];exact Ju _ _),rfl,.of_eq (EM (by omega)),rfl,ac⟩) (zK (hR Z (by rw[a0];exact Jt _ _ (pd p i)) Z ac))⟩
  ·have g:(pd p i).1=0:=by
    have g:(!decide ((pd p i).1=0))=false:=g;simpa using g
   have a0:jL p (i+1)=jL p i:=by rw[jL,am g,XE]
   refine gA Z ⟨h2,ac,[3],zM (bv ⟨.row (by rw[a0]),rfl,.of_eq (EM (by omega)),rfl,ac⟩) (zK (hR Z (by rw[a0]) Z ac))⟩
 have h2: ¬(i:Int)+1<=(p.rules.length:Int):=zF h2;have b0:i=p.rules.length:=by omega
 subst b0;refine gA Z (cU (by first|exact .inr Z|exact .inl Z) Z Z (rfl) (rfl))
theorem c25(p:Prog)(hf:p.fit)(hs:p.size<=10000000):Pure prog 61 [ag p.c] (ag (bF p).c):=by
 refine ad ab func61 Z (by decide) ntmps61 Z (by simp) Z ?_;refine gA Z (zp (c41 p hf hs) ?_);have hC:bF p=(jF p).headD aZ.z:=rfl;rw[hC];generalize jF p=L at*
 refine gA Z (zI (fun g=>?_) fun g=>?_)
 ·have g:(L.length:Int)=0:=zT g;have:L=[]:=Ys (by omega);subst this;refine gA Z (zL (.of_eq ?_));rfl
 ·have g: ¬(L.length:Int)=0:=zF g;refine gA Z (zL (.of_eq ?_));cases L with
  |nil=>simp at g
  |cons d l=>rfl
theorem T5{p:Prog}(hf:jN p):Pure prog 63 [.iv (dy 1 (dQ (ns p).length (gF p (aK p))) (kW ba))] (.iv (fI p)):=by
 refine T4 (pK hf) (gF p (aK p)) (Go.Rg.ed (ns p) (eg p)) fun i j hi hj=>?_;rw[Xy,Go.Rg.j9,decide_eq_true_eq];unfold eg gF;constructor
 ·rintro⟨_,_,h⟩;have h:gD (aK p) (vD p i) (vD p j)≠0:=zT h;omega
 ·intro h;exact⟨hi,hj,decide_eq_true (show gD (aK p) (vD p i) (vD p j)≠0 by omega)⟩
theorem NF(p:Prog)(n:Int)(hb:p.fit)(hs:p.size<=10000000):Pure prog 21 [ag p.c,pI n] (pB (fg p n)):=by
 have hrl:p.rules.length<=1000000000:=hb.2.1;refine ad ab func21 Z (by decide) ntmps21 Z (by simp) Z ?_;refine gA Z (zI (fun g1=>?_) fun g1=>?_);rotate_left
 ·have g1:n<1:=zT g1;rw[show fg p n=false by unfold fg;rw[decide_eq_false (show¬1<=n by omega)];simp];refine gA Z (zL (.of_eq ?_));rfl
 have g1: ¬n<1:=zF g1;refine gA Z (zI (fun g2=>?_) fun g2=>?_);rotate_left
 ·have g2:n>p.rules.length:=zT g2;rw[show fg p n=false by unfold fg;rw[decide_eq_false (show¬n<=p.rules.length by omega)];simp];refine gA Z (zL (.of_eq ?_));rfl
 have g2: ¬n>p.rules.length:=zF g2;refine gA Z (zp (c25 p hb hs) ?_);refine gA Z (zI (fun k1=>?_) fun k1=>?_)
 ·have k1: ¬(bF p).1=0:=by
   have k1:(!decide ((bF p).1=0))=true:=k1;simpa using k1
  rw[show fg p n=false by unfold fg;rw[decide_eq_false k1];simp];refine gA Z (zL (.of_eq ?_));rfl
 have k1:(bF p).1=0:=by
  have k1:(!decide ((bF p).1=0))=false:=k1;simpa using k1
 have hf:=oM k1;have hi:(n-1).toNat<p.rules.length:=by omega
 have hr:=bZ (l:=p.rules) hi;have a0:=hb.2.2 _ hr;have hrd:fg p n=kM p (p.rules.getD (n-1).toNat default):=by unfold fg;rw[decide_eq_true k1,decide_eq_true (show 1<=n by omega),decide_eq_true (show n<=p.rules.length by omega)];rfl
 refine gA Z (zp (NK hf) ?_);refine gA Z (nB (NO hf hb) ?_);refine gA Z (nB (T5 hf) ?_);refine gA Z (nB (NC hf hr a0.1) ?_);refine gA Z (zL (.of_eq ?_));rw[hrd];rfl
def La:Expr:= .mk 0 W4 ⟨0,0,W4⟩ 0 []
def tX:Term:=⟨1,⟨#[88]⟩,⟨0,0,W4⟩⟩
def vL(k:Int)(rel:aj):Lit:= .mk k ⟨rel,[tX]⟩ 0 La La 0 W4 La [] ⟨k,7⟩
theorem sV(k:Int)(rel:aj):Pure prog 88 [pI k,pS rel] (ag (vL k rel).c):=by
 refine ad ab func88 Z (by decide) ntmps88 Z (by simp) Z ?_;refine gA Z ⟨.inr Z,_,rfl,iz.v7 1 [tX] Term.c Z Z ?_ (.done ?_)⟩
 ·simp[PV.bH,dw]
 ·refine aH.agg ⟨.refl _, .refl _,?_, .refl _, .refl _, .refl _, .refl _, .refl _, .refl _, .refl _, .nil _ _, .refl _, .refl _, .refl _, .refl _, .refl _, .refl _, .nil _ _, .refl _, .refl _, .refl _, .refl _, .refl _, .refl _, .refl _, .refl _, .nil _ _, .nil _ _, .refl _, .refl _,ac⟩;show aH (.iv (.dq 5 1 fun k=>([tX].getD (0+k) default).c)) (.iv (dy 5 [tX] Term.c));simp only[Xk];exact .refl _
def oE:aj:=⟨#[97]⟩
def pM:aj:=⟨#[98]⟩
def v8:aj:=⟨#[99]⟩
def xmB(b:Bool):List Lit:=if b then[vL 1 oE,vL 2 v8,vL 2 oE] else[vL 1 oE,vL 2 v8]
def ou(b:Bool):Prog:=⟨[⟨oE,[1],⟨0,0⟩⟩,⟨pM,[1],⟨0,0⟩⟩,⟨v8,[1],⟨0,0⟩⟩],[⟨⟨oE,[tX]⟩,[vL 1 pM],⟨0,0⟩⟩,⟨⟨pM,[tX]⟩,xmB b,⟨0,0⟩⟩]⟩
set_option maxHeartbeats 4000000 in
theorem sEx(b:Bool):Pure prog 47 [.kb b] (ag (ou b).c):=by
 refine ad ab func47 Z (by decide) ntmps47 Z (by simp) Z ?_;refine gA Z (tV ab [] (Pure.Vq (sV 1 pM)) Z Z Z Z Z Z Z Z Z Z Z Z (by(repeat' (first|exact ac|exact rfl|exact aH.refl _|exact aH.bk (by assumption)|apply XA))<;>first|omega|(simp only[Xp];omega)|(simp;done)|(simp;omega)) Z (by(repeat' (first|exact ac|exact rfl|exact aH.refl _|exact aH.bk (by assumption)|apply XA))<;>first|omega|(simp only[Xp];omega)|(simp;done)|(simp;omega)) ?_);refine gA Z (bn (sV 1 oE) Z Z Z Z Z Z ?_);refine gA Z (bn (sV 2 v8) Z Z Z Z Z Z ?_);cases b
 ·refine gM 10 Z (o7 [] (t:=⟨[(0, .kb false),(32, .kb false),(2, .ptr 0 0),(4, .ptr 6 0),(5, .ptr 12 0)],[(0,some (.cells [.iv (.v (.slice none 0 0)), .iv (.v (.slice none 0 0))])),(1,some (aD 5 [tX] Term.c)),(2,some (aD 1 [(1:Int)] ba)),(3,some (aD 1 [(1:Int)] ba)),(4,some (aD 1 [(1:Int)] ba)),(5,some (.row 4 [[pS oE, .sl 2 0 1 1,pI 0,pI 0],[pS pM, .sl 3 0 1 1,pI 0,pI 0],[pS v8, .sl 4 0 1 1,pI 0,pI 0]])),(6,some (.cells [.sl 5 0 3 4, .sl 10 0 1 5])),(7,some (aD 30 [vL 1 pM] Lit.c)),(10,some (.row 5 [[pS oE, .sl 1 0 1 5, .sl 7 0 1 30,pI 0,pI 0]])),(11,some (aD 30 [vL 1 oE,vL 2 v8] Lit.c)),(12,some (.cells [pS pM, .sl 1 0 1 5, .sl 11 0 2 30,pI 0,pI 0]))],13⟩) (wk Z Z Z (bv (bv (bv (bv (bv ac))))) ⟨⟨_,rfl, .of_eq Z⟩,WR Z,rfl,(hR Z Z Z (hR Z Z Z (hR Z Z Z (hR Z Z Z ⟨⟨_,rfl, .of_eq Z⟩,WR Z,wm Z,⟨⟨_,rfl, .of_eq Z⟩,WR Z,rfl,(hR Z Z Z ⟨⟨_,rfl, .of_eq Z⟩,WR Z,wm Z,(hR Z Z Z ⟨⟨_,rfl, .of_eq Z⟩,WR Z,rfl,ac⟩)⟩)⟩⟩))))⟩ Z) ?_);refine fO 1 (fun k=>Term.c ([tX].getD k default)) Z (cX Z) (by simp[AF.rD,PV.bH]) (fC Z) ?_;refine fO 2 (fun k=>ba ([(1:Int)].getD k default)) Z (cX Z) (by simp[AF.rD,AF.iu,PV.dF,PV.bH]) (fC Z) ?_;refine fO 3 (fun k=>ba ([(1:Int)].getD k default)) Z (cX Z) (by simp[AF.rD,AF.iu,PV.dF,PV.bH]) (fC Z) ?_;refine fO 4 (fun k=>ba ([(1:Int)].getD k default)) Z (cX Z) (by simp[AF.rD,AF.iu,PV.dF,PV.bH]) (fC Z) ?_;refine fO 7 (fun k=>Lit.c ([vL 1 pM].getD k default)) Z (cX Z) (by simp[AF.rD,AF.iu,PV.dF,PV.bH]) (fC Z) ?_;refine fO 11 (fun k=>Lit.c ([vL 1 oE,vL 2 v8].getD k default)) Z (cX Z) (by simp[AF.rD,AF.iu,PV.dF,PV.bH]) (fC Z) ?_
  refine o7 (L:=[]) (t:=⟨[(0, .kb false),(32, .kb false),(2, .ptr 0 0),(4, .ptr 6 0),(5, .ptr 12 0)],[(0,some (.cells [.iv (.v (.slice none 0 0)), .iv (.v (.slice none 0 0))])),(5,some (aD 4 (ou false).aB Decl.c)),(6,some (.cells [.sl 5 0 3 4, .sl 10 0 1 5])),
   (10,some (aD 5 [(⟨⟨oE,[tX]⟩,[vL 1 pM],⟨0,0⟩⟩:aq)] aq.c)),(12,some (an (⟨⟨pM,[tX]⟩,[vL 1 oE,vL 2 v8],⟨0,0⟩⟩:aq).c))],13⟩)
   (wk Z Z Z (bv (bv (bv (bv (bv trivial))))) ⟨⟨_,rfl, .of_eq Z⟩,WR Z,rfl,(hR Z (by
   show[[pS oE, .iv (.dq 1 1 fun k=>ba ([(1:Int)].getD (0+k) default)),pI 0,pI 0],[pS pM, .iv (.dq 1 1 fun k=>ba ([(1:Int)].getD (0+k) default)),pI 0,pI 0],[pS v8, .iv (.dq 1 1 fun k=>ba ([(1:Int)].getD (0+k) default)),pI 0,pI 0]]=_
   simp only[Xk];rfl) Z ⟨⟨_,rfl, .of_eq Z⟩,WR Z,rfl,(hR Z (by
   show[[pS oE, .iv (.dq 5 1 fun k=>Term.c ([tX].getD (0+k) default)), .iv (.dq 30 1 fun k=>Lit.c ([vL 1 pM].getD (0+k) default)),pI 0,pI 0]]=_
   simp only[Xk];rfl) Z ⟨⟨_,rfl, .of_eq (by
   show AO.cells [pS pM, .iv (.dq 5 1 fun k=>Term.c ([tX].getD (0+k) default)), .iv (.dq 30 2 fun k=>Lit.c ([vL 1 oE,vL 2 v8].getD (0+k) default)),pI 0,pI 0]=_
   simp only[Xk];rfl)⟩,WR Z,rfl,ac⟩)⟩)⟩ Z) ?_
  refine gA Z (jH (.inr Z) Z (iz.v7 5 (ou false).aB Decl.c Z Z ?_ (iz.v7 14 (ou false).rules aq.c Z Z ?_ (.done ?_))))
  ·simp[PV.bH,dw,ou]
  ·simp[PV.dF,nY,PV.bH,dw,ou];show PV.bH 14 5 2 (.sl 14 0 2 5);simp[PV.bH]
  ·show aH (.agg [.iv (.dq 4 3 fun k=>Decl.c ((ou false).aB.getD (0+k) default)), .iv (.dq 5 2 fun k=>aq.c ((ou false).rules.getD (0+k) default))]) (ag (ou false).c);simp only[Xk];exact .refl _
 ·refine gA Z (tV ab [] (Pure.Vq (sV 2 oE)) Z Z Z Z Z Z Z Z Z Z Z Z (by(repeat' (first|exact ac|exact rfl|exact aH.refl _|exact aH.bk (by assumption)|apply XA))<;>first|omega|(simp only[Xp];omega)|(simp;done)|(simp;omega)) Z (by(repeat' (first|exact ac|exact rfl|exact aH.refl _|exact aH.bk (by assumption)|apply XA))<;>first|omega|(simp only[Xp];omega)|(simp;done)|(simp;omega)) ?_);refine gM 5 Z (o7 [] (t:=⟨[(0, .kb true),(32, .kb true),(2, .ptr 0 0),(4, .ptr 6 0),(5, .ptr 12 0)],[(0,some (.cells [.iv (.v (.slice none 0 0)), .iv (.v (.slice none 0 0))])),(1,some (aD 5 [tX] Term.c)),(2,some (aD 1 [(1:Int)] ba)),(3,some (aD 1 [(1:Int)] ba)),(4,some (aD 1 [(1:Int)] ba)),(5,some (.row 4 [[pS oE, .sl 2 0 1 1,pI 0,pI 0],[pS pM, .sl 3 0 1 1,pI 0,pI 0],[pS v8, .sl 4 0 1 1,pI 0,pI 0]])),(6,some (.cells [.sl 5 0 3 4, .sl 10 0 1 5])),(7,some (aD 30 [vL 1 pM] Lit.c)),(10,some (.row 5 [[pS oE, .sl 1 0 1 5, .sl 7 0 1 30,pI 0,pI 0]])),(14,some (aD 30 [vL 1 oE,vL 2 v8,vL 2 oE] Lit.c)),(12,some (.cells [pS pM, .sl 1 0 1 5, .sl 14 0 3 30,pI 0,pI 0]))],15⟩) (wk Z Z Z (bv (bv (bv (bv (bv ac))))) ⟨⟨_,rfl, .of_eq Z⟩,WR Z,rfl,(hR Z Z Z (hR Z Z Z (hR Z Z Z (hR Z Z Z ⟨⟨_,rfl, .of_eq Z⟩,WR Z,wm Z,⟨⟨_,rfl, .of_eq Z⟩,WR Z,rfl,(hR Z Z Z ⟨⟨_,rfl, .of_eq Z⟩,WR Z,wm Z,(hR Z Z Z ⟨⟨_,rfl, .of_eq Z⟩,WR Z,rfl,ac⟩)⟩)⟩⟩))))⟩ Z) ?_);refine fO 1 (fun k=>Term.c ([tX].getD k default)) Z (cX Z) (by simp[AF.rD,PV.bH]) (fC Z) ?_;refine fO 2 (fun k=>ba ([(1:Int)].getD k default)) Z (cX Z) (by simp[AF.rD,AF.iu,PV.dF,PV.bH]) (fC Z) ?_;refine fO 3 (fun k=>ba ([(1:Int)].getD k default)) Z (cX Z) (by simp[AF.rD,AF.iu,PV.dF,PV.bH]) (fC Z) ?_;refine fO 4 (fun k=>ba ([(1:Int)].getD k default)) Z (cX Z) (by simp[AF.rD,AF.iu,PV.dF,PV.bH]) (fC Z) ?_;refine fO 7 (fun k=>Lit.c ([vL 1 pM].getD k default)) Z (cX Z) (by simp[AF.rD,AF.iu,PV.dF,PV.bH]) (fC Z) ?_;refine fO 14 (fun k=>Lit.c ([vL 1 oE,vL 2 v8,vL 2 oE].getD k default)) Z (cX Z) (by simp[AF.rD,AF.iu,PV.dF,PV.bH]) (fC Z) ?_
  refine o7 (L:=[]) (t:=⟨[(0, .kb true),(32, .kb true),(2, .ptr 0 0),(4, .ptr 6 0),(5, .ptr 12 0)],[(0,some (.cells [.iv (.v (.slice none 0 0)), .iv (.v (.slice none 0 0))])),(5,some (aD 4 (ou true).aB Decl.c)),(6,some (.cells [.sl 5 0 3 4, .sl 10 0 1 5])),
   (10,some (aD 5 [(⟨⟨oE,[tX]⟩,[vL 1 pM],⟨0,0⟩⟩:aq)] aq.c)),(12,some (an (⟨⟨pM,[tX]⟩,[vL 1 oE,vL 2 v8,vL 2 oE],⟨0,0⟩⟩:aq).c))],15⟩)
   (wk Z Z Z (bv (bv (bv (bv (bv trivial))))) ⟨⟨_,rfl, .of_eq Z⟩,WR Z,rfl,(hR Z (by
   show[[pS oE, .iv (.dq 1 1 fun k=>ba ([(1:Int)].getD (0+k) default)),pI 0,pI 0],[pS pM, .iv (.dq 1 1 fun k=>ba ([(1:Int)].getD (0+k) default)),pI 0,pI 0],[pS v8, .iv (.dq 1 1 fun k=>ba ([(1:Int)].getD (0+k) default)),pI 0,pI 0]]=_
   simp only[Xk];rfl) Z ⟨⟨_,rfl, .of_eq Z⟩,WR Z,rfl,(hR Z (by
   show[[pS oE, .iv (.dq 5 1 fun k=>Term.c ([tX].getD (0+k) default)), .iv (.dq 30 1 fun k=>Lit.c ([vL 1 pM].getD (0+k) default)),pI 0,pI 0]]=_
   simp only[Xk];rfl) Z ⟨⟨_,rfl, .of_eq (by
   show AO.cells [pS pM, .iv (.dq 5 1 fun k=>Term.c ([tX].getD (0+k) default)), .iv (.dq 30 3 fun k=>Lit.c ([vL 1 oE,vL 2 v8,vL 2 oE].getD (0+k) default)),pI 0,pI 0]=_
   simp only[Xk];rfl)⟩,WR Z,rfl,ac⟩)⟩)⟩ Z) ?_
  refine gA Z (jH (.inr Z) Z (iz.v7 5 (ou true).aB Decl.c Z Z ?_ (iz.v7 16 (ou true).rules aq.c Z Z ?_ (.done ?_))))
  ·simp[PV.bH,dw,ou]
  ·simp[PV.dF,nY,PV.bH,dw,ou];show PV.bH 16 5 2 (.sl 16 0 2 5);simp[PV.bH]
  ·show aH (.agg [.iv (.dq 4 3 fun k=>Decl.c ((ou true).aB.getD (0+k) default)), .iv (.dq 5 2 fun k=>aq.c ((ou true).rules.getD (0+k) default))]) (ag (ou true).c);simp only[Xk];exact .refl _
instance (a b:aj):Decidable (IS a b):=inferInstanceAs (Decidable (pc a<pc b))
theorem zo(b:Bool):ns (ou b)=[oE,pM,v8]:=
 lO (fB (show[oE,pM,v8].Nodup by decide)) (by unfold pj;decide+kernel) fun x=>by rw[ns,c8];rfl
theorem Lw:eB (ou false)=[[v8],[oE,pM]]:=by
 unfold eB ig;rw[zo];decide+kernel
theorem Ld:Fu (ou false)=[(oE,pM,false),(pM,oE,false),(pM,v8,true)]:=by
 unfold Fu;rw[zo];decide+kernel
theorem H8:dJ (ou false)=[(oE,1),(pM,1),(v8,0)]:=by
 unfold dJ xN EB;rw[zo];decide+kernel
theorem DQ(b:Bool):(bF (ou b)).1=0:=by
 cases b<;>decide+kernel
theorem Aj:iy (ou false)=aZ.z:=by
 delta iy kH ow kM ringEq ig
 rw[zo];decide+kernel
theorem Fx:iy (ou true)=(70,⟨2,7⟩):=by
 delta iy kH ow kM ringEq ig
 rw[zo];decide+kernel
theorem JI:fg (ou false) 1=true:=by
 delta fg kM ringEq ig
 rw[zo];decide+kernel
theorem CH:zf (ou false)=false:=by decide+kernel
theorem IA:x9 (ou false)=[[v8],[oE,pM]]:=by rw[x9,am (DQ false),Lw]
theorem E6:tL (ou false)=[(oE,1),(pM,1),(v8,0)]:=by rw[tL,Aj,H8];rfl
theorem Iw:x7 (ou false)=[(oE,pM,false),(pM,oE,false),(pM,v8,true)]:=by rw[x7,am (DQ false),Ld]
theorem vb(b:Bool):(ou b).fit:=by
 have h: ∀r∈(ou b).rules,r.size<=10000000∧r.head.ts<=900000000∧ ∀l∈r.body,l.ts<=900000000:=by cases b<;>decide+kernel
 exact⟨by cases b<;>decide+kernel,by cases b<;>decide+kernel,h⟩
theorem T6(b:Bool):Pure prog 47 [pB b] (ag (ou b).c):=(sEx b).le (aa:=[pB b]) ⟨.bk Z,ac⟩
theorem tr(b:Bool):(ou b).size<=10000000:=by cases b<;>decide+kernel
theorem R3(hS:ft):Pure prog 11 [] (pB true):=by
 have h1:=NN hS (ou false) (vb false) (tr false);have h2:=R6 hS (ou false) (vb false) (tr false);have h3:=R5 hS (ou false) (vb false) (tr false);have h4:=ED hS (ou true) (vb true) (tr true);have h5:=F0 hS (ou false) 1 (vb false) (tr false);have h6:=HD hS (ou false) (vb false);rw[E6,Aj]at h1;rw[IA]at h2;rw[Iw]at h3;rw[Fx]at h4;rw[JI]at h5;rw[CH]at h6;refine ad ab func11 Z (by decide) ntmps11 Z (by simp) Z ?_;refine gA Z (zp (T6 false) ?_);refine gA Z (zp (h1) ?_);refine gA Z (zp (h2) ?_);refine gA Z (zp (h3) ?_);refine gA Z (zp (T6 true) ?_);refine gA Z (zp (h4) ?_)
 repeat(refine gA Z (zI (fun q=>?_) (fun q=>?_))<;>try(exact absurd q (by decide)))
 refine gA Z (KT (d:=83) (p:= .agg [pS pM,pS v8,pB true]) (.agg ⟨.refl _, .refl _, .te Z,ac⟩) ?_)
 repeat(refine gA Z (zI (fun q=>?_) (fun q=>?_))<;>try(exact absurd q (by decide)))
 refine gA Z (zp (h5) ?_)
 repeat(refine gA Z (zI (fun q=>?_) (fun q=>?_))<;>try(exact absurd q (by decide)))
 refine gA Z (zp (h6) ?_)
 repeat(refine gA Z (zI (fun q=>?_) (fun q=>?_))<;>try(exact absurd q (by decide)))
 refine gA Z (zL ?_);exact .of_eq (fu (by decide+kernel))
end Go.Proofs.YtflegjieadkonaaGreatDoor
namespace Go.Proofs.YtflegjieadkonaaGreatDoor
open Go Go.Al
set_option maxHeartbeats 2000000 in
theorem yG(hS:ft)(p:Prog)(n:Int)(hb:p.fit)(hs:p.size<=2000000):Pure Tryz.prog 4 [ag p.c,pI n] (pB true):=by
 refine ad ab Tryz.func4 Z (by decide) Tryz.ntmps4 Z (by simp) Z ?_;refine gA Z (zp (R3 hS) ?_);refine gA Z (zp (NF p n hb (by omega)) ?_);refine gA Z (zp (c14 p (by omega)) ?_);refine gA Z (zI (fun q0=>?_) fun q0=>?_);rotate_left
 ·exact absurd q0 (by decide)
 refine gA Z (zp (F0 hS p n hb (by omega)) ?_);refine gA Z (zI (fun q1=>?_) fun q1=>?_);rotate_left
 ·simp at q1
 refine gA Z (zp (Wh p (by omega)) ?_);refine gA Z (zL (.of_eq ?_));rfl
end Go.Proofs.YtflegjieadkonaaGreatDoor
