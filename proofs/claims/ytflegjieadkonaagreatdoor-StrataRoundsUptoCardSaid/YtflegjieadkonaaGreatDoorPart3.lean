/-
  What the proofs of the claims need: part 3 of 6.
-/
import Derived.Test.YtflegjieadkonaaGreatDoorPart2
import Derived.Sort.Walk0
import Derived.Shelf.Sort.Plain
import Derived.Shelf.Slices.In.SortNone
import Derived.Shelf.Slices.In.SortNone2
import Derived.WalkKit
import Derived.Lib.Builder
import Derived.Lib.UnsafeStr
import Derived.Laws.Externs
import Derived.Shelf.RegionOpenPlain
import Derived.KernelRfl
import Derived.Test.YtflegjieadkonaaGreatDoorProg
import Derived.Lib.AppendStr
import Derived.Laws.RangeString
import Derived.Shelf.LaysM
import Derived.Shelf.Strconv.Itoa3
import Derived.Laws.IdiomStrings
import Derived.Laws.BytesArg
import Derived.Lib.ItoaLen
import Derived.Test.YtflegjieadkonaaGreatDoorRows
import Derived.ProofKit
import Derived.OpenShut
import Derived.Deep.DeepHandedRow
import Derived.Lib.LaidTab
import Derived.LaidSub
import Derived.MakeChecks
import Derived.Test.YtflegjieadkonaaGreatDoorCards
import Derived.Test.YtflegjieadkonaaGreatDoorTie
open And renaming intro→XA
open Array renaming getD_eq_getD_getElem?→WT,getElem?_append_left→X8,getElem?_eq_getElem→XS,getElem?_eq_some_iff→Yd,getElem?_modify→XR,getElem?_push→Zh,getElem?_setIfInBounds→XG,getElem?_toList→X4,size_append→ZC
open Bool renaming and_eq_true→Xg,and_false→Yz,eq_false_iff→X7,eq_iff_iff→Xy,false_and→Yi,false_eq_true→Yn,false_or→Ya,not_eq_false'→YA,not_eq_true'→XF,not_false→Zi,not_true→Zy,or_eq_true→XJ,or_true→Zr,true_and→XV,true_or→Zq
open ByteArray renaming empty→W4,size→ZM
open Classical renaming byContradiction→Yb
open Int renaming ofNat_eq_zero→aag,toNat_natCast→Xp
open List.Pairwise renaming nil→YG
open List renaming all_cons→ZT,all_eq_true→Xm,any_cons→ZS,any_eq_false→XO,any_eq_true→XM,append_assoc→Xa,append_nil→XE,cons_append→Ym,eq_nil_of_length_eq_zero→Ys,find?_eq_none→Yg,find?_eq_some_iff_getElem→YZ,flatMap_cons→XZ,foldl_append→YI,foldl_cons→Xq,getD_cons_succ→Yk,getD_eq_getElem?_getD→WU,getElem?_append_left→Xf,getElem?_append_right→Xj,getElem?_eq_getElem→WY,getElem?_eq_some_iff→WX,getElem?_map→W1,getElem?_of_mem→XP,getElem?_take→XY,getElem?_toArray→Yf,getElem_mem→XD,length_append→WW,length_cons→Xx,length_eq_zero_iff→YO,length_filter_le→X6,length_map→Xr,length_nil→YB,length_singleton→XC,length_take→XH,map_append→WZ,map_cons→Xe,map_nil→XN,mem_append→W7,mem_append_left→Xv,mem_append_right→Yp,mem_cons→Xb,mem_cons_of_mem→W8,mem_cons_self→Xd,mem_filter→Xs,mem_iff_getElem→Ye,mem_map→Xt,mem_of_getElem?→Xo,mem_singleton→W5,nil_append→Y5,nodup_cons→X5,nodup_nil→XT,not_lt→aam,not_mem_nil→Zs,pairwise_cons→Yo,range→Xc,sum_cons→YK,take_length→YE,take_of_length_le→W2,take_succ_cons→Yh
open Nat renaming add_assoc→Yu,add_zero→Y8,beq→Xn,ble→YQ,ble_eq_true_of_le→XB,blt→Xi,le_add_left→Yt,le_of_ble_eq_true→WR,le_refl→W0,le_succ→Zo,le_trans→Xz,lt_irrefl→ZU,lt_or_ge→X3,lt_succ_of_lt→YS,lt_succ_self→YC,mul_one→ZQ,zero_add→Xk,zero_le→W3,zero_mul→Za
open Option renaming bind_some→ZW,getD_some→Yl,map_eq_some_iff→W6,map_some→XW
open Option.some renaming inj→XX,injEq→WV
open Array renaming range→aaa
open Array renaming getElem?_map→Zk
open Nat renaming mul_le_mul_right→Xw
open Nat renaming add_mul→Yj
set_option maxRecDepth 100000
namespace Go.Proofs.YtflegjieadkonaaGreatDoor
open Go Go.Al Go.Proofs.Tryz
def bU(l:Lit):List Atom:=if l.kind=1∨l.kind=2 then[l.atom] else[]
theorem lX: ∀l:List Lit,(l.flatMap bU).length<=l.length
 | []=>by simp
 |x::r=>by
  have h1:=lX r;have h2:(bU x).length<=1:=by unfold bU;split<;>simp
  simp only[XZ,WW,Xx];omega
def oH(r:aq)(lit:Int):List Lit:=if(ah r lit).kind=4 then(ah r lit).ar else[ah r lit]
def bu(r:aq)(lit:Int):List Atom:=if lit<0 then[r.head] else(oH r lit).flatMap bU
theorem OC(r:aq)(lit:Int)(h:0<=lit):nA (.dq 30 ((lit+1).toNat-lit.toNat) (fun j=>(r.body.getD (lit.toNat+j) default).c)) (lits [ah r lit]):=by
 have e:(lit+1).toNat-lit.toNat=1:=by omega
 rw[e]
 exact .dq Z (fun j hj=>by
  have:j=0:=by omega
  subst this;rfl)
theorem Vd(r:aq)(lit:Int)(h1:lit<r.body.length)(hb:r.size<=1000000000000):Pure prog 162 [ag r.c,pI lit] (.iv (dy 2 (bu r lit) Atom.c)):=by
 have i0:=Lit.aw r.body;have h0:Lit.ax r.body<=r.size:=Yt _ _;refine ad ab func162 Z (by decide) ntmps162 Z (by simp) Z ?_;refine gA Z (zI (fun h2=>?_) fun h2=>?_)
 ·have h2:lit<0:=by simpa using h2
  refine gA Z (cU (by first|exact .inr Z|exact .inl Z) Z Z (by rw[bu,am h2];rfl) (by rw[bu,am h2];rfl))
 have h2: ¬lit<0:=by simpa using h2
 have hk:lit.toNat<r.body.length:=by omega
 have g0:=Lit.aT r.body lit.toNat hk;have j0:=(ah r lit).size_eq;have k0:=Lit.aw (ah r lit).ar;have m0:(ah r lit).size<=Lit.ax r.body:=g0;refine gA Z (zI (fun h3=>?_) fun h3=>?_)
 ·have h3:(ah r lit).kind=4:=by simpa[ah]using h3
  have b0:bu r lit=(ah r lit).ar.flatMap bU:=by rw[bu,be h2,oH,am h3]
  refine gA Z ?_;refine fb 6 2 Z ?_;refine aA 0 ((ah r lit).ar).length (W3 _) (fun i=>⟨[(6, .sl 2 0 ((((ah r lit).ar).take i).flatMap bU).length 2),(30, .iv (lits ((ah r lit).ar))),(31,pI ((ah r lit).ar).length),(32,pI i)],[(2,some (aD 2 ((((ah r lit).ar).take i).flatMap bU) Atom.c))],3⟩) (fun _=>True) [1] ac
   (zM (bv ⟨.iv (kP _),rfl,bv (bv trivial)⟩) (zS trivial)) fun i hi _=>?_
  have d0:=lX (((ah r lit).ar).take i);have e0:(((ah r lit).ar).take i).length<=((ah r lit).ar).length:=by rw[XH];exact Nat.min_le_right _ _
  have f0:((ah r lit).ar).length<=1000000000000:=by first|omega|(rw[XC];omega)
  refine gA Z (zI (fun h4=>?_) fun h4=>?_)
  ·have h4:i<((ah r lit).ar).length:=zN h4;have hs:=b7 (f:=bU) h4;have a0:((((ah r lit).ar).getD i default).kind=1∨(((ah r lit).ar).getD i default).kind=2)->(((ah r lit).ar).take (i+1)).flatMap bU=(((ah r lit).ar).take i).flatMap bU++ [(((ah r lit).ar).getD i default).atom]:=fun h=>by rw[hs,bU,am h]
   have c0: ¬((((ah r lit).ar).getD i default).kind=1∨(((ah r lit).ar).getD i default).kind=2)->(((ah r lit).ar).take (i+1)).flatMap bU=(((ah r lit).ar).take i).flatMap bU:=fun h=>by rw[hs,bU,be h,XE]
   refine gA Z (zI (fun h5=>?_) fun h5=>?_)
   ·have h5: ¬(((ah r lit).ar).getD i default).kind=1:=by simpa using h5
    refine gA Z (zI (fun h6=>?_) fun h6=>?_)
    ·have h6:(((ah r lit).ar).getD i default).kind=2:=by simpa using h6
     have hs:=a0 (.inr h6);refine gA Z ⟨h4,ac,[5],zM ⟨.row (by rw[hs,WW];rfl),rfl,bv (bv (bv ac))⟩ (hR Z (by rw[hs,WZ];rfl) Z ac)⟩
    ·have h6: ¬(((ah r lit).ar).getD i default).kind=2:=by simpa using h6
     have hs:=c0 (fun h=>h.elim h5 h6);refine gA Z ⟨h4,ac,[2],zM ⟨.row (by rw[hs]),rfl,bv (bv (bv ac))⟩ (hR Z (by rw[hs]) Z ac)⟩
   ·have h5:(((ah r lit).ar).getD i default).kind=1:=by simpa using h5
    have hs:=a0 (.inl h5);refine gA Z ⟨h4,ac,[5],zM ⟨.row (by rw[hs,WW];rfl),rfl,bv (bv (bv ac))⟩ (hR Z (by rw[hs,WZ];rfl) Z ac)⟩
  ·have h4:((ah r lit).ar).length<=i:=zG h4;rw[W2 h4] at*
   refine gA Z (cU (by first|exact .inr Z|exact .inl Z) Z Z (by rw[b0]) (by rw[b0]))
 ·have h3: ¬(ah r lit).kind=4:=by simpa[ah]using h3
  have b0:bu r lit=[ah r lit].flatMap bU:=by rw[bu,be h2,oH,be h3]
  refine gA Z ?_;refine fb 6 2 Z ?_;refine aA 0 ([ah r lit]).length (W3 _) (fun i=>⟨[(6, .sl 2 0 ((([ah r lit]).take i).flatMap bU).length 2),(30, .iv (lits ([ah r lit]))),(31,pI ([ah r lit]).length),(32,pI i)],[(2,some (aD 2 ((([ah r lit]).take i).flatMap bU) Atom.c))],3⟩) (fun _=>True) [1] ac
   (zM (bv ⟨.iv (OC r lit (by omega)),rfl,.of_eq (EM (by simp only[XC];omega)),rfl,bv trivial⟩) (zS trivial)) fun i hi _=>?_
  have d0:=lX (([ah r lit]).take i);have e0:(([ah r lit]).take i).length<=([ah r lit]).length:=by rw[XH];exact Nat.min_le_right _ _
  have f0:([ah r lit]).length<=1000000000000:=by first|omega|(rw[XC];omega)
  refine gA Z (zI (fun h4=>?_) fun h4=>?_)
  ·have h4:i<([ah r lit]).length:=zN h4;have hs:=b7 (f:=bU) h4;have a0:((([ah r lit]).getD i default).kind=1∨(([ah r lit]).getD i default).kind=2)->(([ah r lit]).take (i+1)).flatMap bU=(([ah r lit]).take i).flatMap bU++ [(([ah r lit]).getD i default).atom]:=fun h=>by rw[hs,bU,am h]
   have c0: ¬((([ah r lit]).getD i default).kind=1∨(([ah r lit]).getD i default).kind=2)->(([ah r lit]).take (i+1)).flatMap bU=(([ah r lit]).take i).flatMap bU:=fun h=>by rw[hs,bU,be h,XE]
   refine gA Z (zI (fun h5=>?_) fun h5=>?_)
   ·have h5: ¬(([ah r lit]).getD i default).kind=1:=by simpa using h5
    refine gA Z (zI (fun h6=>?_) fun h6=>?_)
    ·have h6:(([ah r lit]).getD i default).kind=2:=by simpa using h6
     have hs:=a0 (.inr h6);refine gA Z ⟨h4,ac,[5],zM ⟨.row (by rw[hs,WW];rfl),rfl,bv (bv (bv ac))⟩ (hR Z (by rw[hs,WZ];rfl) Z ac)⟩
    ·have h6: ¬(([ah r lit]).getD i default).kind=2:=by simpa using h6
     have hs:=c0 (fun h=>h.elim h5 h6);refine gA Z ⟨h4,ac,[2],zM ⟨.row (by rw[hs]),rfl,bv (bv (bv ac))⟩ (hR Z (by rw[hs]) Z ac)⟩
   ·have h5:(([ah r lit]).getD i default).kind=1:=by simpa using h5
    have hs:=a0 (.inl h5);refine gA Z ⟨h4,ac,[5],zM ⟨.row (by rw[hs,WW];rfl),rfl,bv (bv (bv ac))⟩ (hR Z (by rw[hs,WZ];rfl) Z ac)⟩
  ·have h4:([ah r lit]).length<=i:=zG h4;rw[W2 h4] at*
   refine gA Z (cU (by first|exact .inr Z|exact .inl Z) Z Z (by rw[b0]) (by rw[b0]))
theorem d110(p:Prog)(r:aq)(lit:Int)(h1:lit<r.body.length)(hb:r.size<=1000000000000):b8 prog 160 [pI lit, .ptr 0 0, .ptr 1 0] [an r.c, .cells [.iv (df p)]] (pB ((bu r lit).any fun x=>lz p x)) [(0,some (an r.c)),(1,some (.cells [.iv (df p)]))] 2:=by
 refine aE ab func160 Z (by decide) ntmps160 Z (by simp) ?_;refine gA Z (zp (Vd r lit h1 hb) ?_);refine gA Z (zq [1] (UP p (bu r lit)) ?_);refine gA Z (aC [] (by first|exact .inr Z|exact .inl Z) Z (zW (zK (zO ac))))
theorem d114(p:Prog)(r:aq)(lit:Int)(h1:lit<r.body.length)(hb:r.size<=1000000000000):b8 prog 164 [pI lit, .ptr 0 0, .ptr 1 0] [an r.c, .cells [.iv (df p)]] (pB ((bu r lit).any fun x=>mJ p x)) [(0,some (an r.c)),(1,some (.cells [.iv (df p)]))] 2:=by
 refine aE ab func164 Z (by decide) ntmps164 Z (by simp) ?_;refine gA Z (zp (Vd r lit h1 hb) ?_);refine gA Z (zq [1] (UO p (bu r lit)) ?_);refine gA Z (aC [] (by first|exact .inr Z|exact .inl Z) Z (zW (zK (zO ac))))
def dA(r:aq)(lit:Int):Bool:=if lit<0 then r.head.ae.any fun x=>decide (x.kind=3) else if(ah r lit).kind=4 then((ah r lit).ar.any fun x=>decide (x.kind=4))||cj (bj (ah r lit).agg) (ah r lit).bp else false
theorem WB(r:aq)(lit:Int)(h1:lit<r.body.length)(hb:r.size<=100000000):Pure prog 167 [ag r.c,pI lit] (pB (dA r lit)):=by
 have d0:=Lit.aw r.body;have h0:Lit.ax r.body<=r.size:=Yt _ _;refine ad ab func167 Z (by decide) ntmps167 Z (by simp) Z ?_;refine gA Z (zI (fun h2=>?_) fun h2=>?_)
 ·have h2:lit<0:=by simpa using h2
  refine gA Z (zq [] (d157 r.head.ae) ?_);refine gA Z (zL (.of_eq ?_));rw[dA,am h2];rfl
 have h2: ¬lit<0:=by simpa using h2
 have hk:lit.toNat<r.body.length:=by omega
 have a0:=Lit.aT r.body lit.toNat hk;have hag:=(ah r lit).fq;have e0:(ah r lit).size<=Lit.ax r.body:=a0;have f0:=mE (ah r lit).agg;refine gA Z (zI (fun h3=>?_) fun h3=>?_)
 ·have h3: ¬(ah r lit).kind=4:=by simpa[ah]using h3
  refine gA Z (zL (.of_eq ?_));rw[dA,be h2,be h3]
 have h3:(ah r lit).kind=4:=by simpa[ah]using h3
 refine gA Z (ja [] (b8.le (aa:=[.iv (uh (ah r lit).ar), .dr (.func 195) [] []]) (d159 (ah r lit).ar) ⟨.iv (kP _), .refl _,ac⟩) Z Z Z Z Z Z Z Z ?_);refine gA Z (zI (fun h4=>?_) fun h4=>?_);rotate_left
 ·have h4:((ah r lit).ar.any fun x=>decide (x.kind=4))=false:=h4;have c0:=bL (bj (ah r lit).agg) (ah r lit).bp;have b0:=cS (occ:=bj (ah r lit).agg) (s:=(ah r lit).bp);refine gA Z (zd [] (d127 (ah r lit).agg (by omega)) ?_);refine gA Z (zL (.of_eq ?_));refine(fu ?_:pB (decide (bQ .str (aJ (bj (ah r lit).agg)) (ah r lit).bp 0>0))=_);rw[dA,be h2,am h3,h4,b0,c0,Ya];by_cases hz:s8 (bj (ah r lit).agg) (ah r lit).bp=0<;>simp[hz];omega
 ·have h4:((ah r lit).ar.any fun x=>decide (x.kind=4))=true:=h4;refine gA Z (zL (.of_eq ?_));rw[dA,be h2,am h3,h4];rfl
theorem d116(r:aq)(lit:Int)(h1:lit<r.body.length)(hb:r.size<=100000000):b8 prog 166 [pI lit, .ptr 0 0] [an r.c] (pB (dA r lit)) [(0,some (an r.c))] 1:=by
 refine aE ab func166 Z (by decide) ntmps166 Z (by simp) ?_;refine gA Z (zp (WB r lit h1 hb) ?_);refine gA Z (aC [] (by first|exact .inr Z|exact .inl Z) Z (zW (zK ac)))
def fh(r:aq)(lit:Int):Pos:=if lit<0 then r.at_ else(ah r lit).at
theorem LF(r:aq)(lit:Int)(h1:lit<r.body.length):Pure prog 171 [ag r.c,pI lit] (ag [iI (fh r lit).line,iI (fh r lit).G6]):=by
 refine ad ab func171 Z (by decide) ntmps171 Z (by simp) Z ?_;refine gA Z (zI (fun h2=>?_) fun h2=>?_)
 ·have h2:lit<0:=by simpa using h2
  refine gA Z (zL (.of_eq ?_));rw[fh,am h2];rfl
 have h2: ¬lit<0:=by simpa using h2
 refine gA Z (zL (.of_eq ?_));rw[fh,be h2];rfl
def jZ(r:aq)(l:Lit):Nat:=if l.kind=4 then(lj r l.agg).length else 0
def tt(r:aq):Nat:=r.body.foldl (fun n l=>n+jZ r l) (aJ (az r)).length
theorem uW(r:aq)(l:Lit):jZ r l<=l.size:=by
 unfold jZ;split
 ·have h1:(lj r l.agg).length<=(aJ (bj l.agg)).length:=X6 _ _;have h2:=l0 (bj l.agg);have h3:=mE l.agg;have h4:=l.fq;omega
 ·omega
theorem xd(r:aq): ∀(l:List Lit) (n:Nat),l.foldl (fun n l=>n+jZ r l) n<=n+Lit.ax l
 | [],n=>by simp
 |x::t,n=>by
  have h1:=xd r t (n+jZ r x);have h2:=uW r x;simp only[Xq,Lit.ax];omega
theorem WC(r:aq)(hb:r.size<=100000000):Pure prog 159 [.iv (c6 r)] (pI (tt r)):=by
 have b0:=Lit.aw r.body;have h0:Lit.ax r.body<=r.size:=Yt _ _;have ho:=tF r;have d0:=l0 (az r);refine ad ab func159 Z (by decide) ntmps159 Z (by simp) Z ?_;refine gA Z ?_;refine aA 0 r.body.length (W3 _) (fun i=>⟨[(0, .iv (c6 r)),(3,pI (((r.body.take i).foldl (fun n l=>n+jZ r l) (aJ (az r)).length:Nat))),(15, .iv (lits r.body)),(16,pI r.body.length),(17,pI i)],[],0⟩) (fun _=>True) [] ac
  (zW trivial) fun i hi _=>?_
 have c0:=xd r (r.body.take i) (aJ (az r)).length;have e0:=Lit.lQ r.body i;refine gA Z (zI (fun h1=>?_) fun h1=>?_)
 ·have h1:=ci h1;have hs:=cR (g:=fun n l=>n+jZ r l) (b:=(aJ (az r)).length) h1;have f0:=Lit.aT r.body i h1;have hag:=(r.body.getD i default).fq;have a0:=uW r (r.body.getD i default);refine gA Z (zI (fun h2=>?_) fun h2=>?_)
  ·have h2:(r.body.getD i default).kind=4:=by simpa using h2
   rw[jZ,am h2]at hs a0;refine gA Z (zq [] (d79 r (r.body.getD i default).agg (by omega)) ?_);refine gA Z ⟨h1,ac,[],zM (bv ⟨.of_eq (EM (by rw[hs];rfl)),rfl,bv (bv (bv ac))⟩) ac⟩
  ·have h2: ¬(r.body.getD i default).kind=4:=by simpa using h2
   rw[jZ,be h2]at hs;refine gA Z ⟨h1,ac,[],zM (bv ⟨.of_eq (EM (by rw[hs];rfl)),rfl,bv (bv (bv ac))⟩) ac⟩
 ·have h1:=co h1;refine gA Z (zL (.of_eq ?_));rw[W2 h1];rfl
end Go.Proofs.YtflegjieadkonaaGreatDoor
namespace Go.Proofs.YtflegjieadkonaaGreatDoor
open Go Go.Al Go.Proofs.Tryz
section
variable {may:List aj->Expr->Bool} {more:List aj->eQ->Bool} {body:List Lit}
theorem vK: ∀(n:Nat) (occ:List aj),ck (bM body) occ<n->cF (may (dL may more body n occ)) (more (dL may more body n occ)) (dL may more body n occ) body=none
 |0,occ,h=>by omega
 |n+1,occ,h=>by
  cases hv:cF (may occ) (more occ) occ body with
  |none=>rw[fG hv];exact hv
  |some v=>
   rw[fF hv];refine vK n _ ?_;obtain⟨g1,g2⟩:=mw hv;have hlt:=qP g1 g2;have a0:ck (bM body) (occ++ [v])=ck (bM body) (bR occ v):=by
    unfold ck;congr 2
    funext x
    congr 1;rw[Xy,aQ,aQ,ch,W7,W5]
   omega
theorem vO(occ:List aj):cF (may (cH may more body occ)) (more (cH may more body occ)) (cH may more body occ) body=none:=by
 refine vK _ _ ?_;have h1:=qQ (bM body) (occ++body.flatMap bD);have h2:=ke body;omega
theorem qq: ∀(n:Nat) (occ:List aj),∀x∈occ,x∈dL may more body n occ
 |0,occ,x,h=>h
 |n+1,occ,x,h=>by
  cases hv:cF (may occ) (more occ) occ body with
  |none=>rw[fG hv];exact h
  |some v=>rw[fF hv];exact qq n _ x (Xv _ h)
theorem p7{m1:Expr->Bool}{m2:eQ->Bool}{occ:List aj}: ∀{l:List Lit},cF m1 m2 occ l=none-> ∀x∈l,l4 m1 m2 occ x=none
 | [],_,x,hx=>by cases hx
 |y::r,h,x,hx=>by
  simp only[cF]at h;split at h
  ·cases h
  ·rename_i h1;rcases Xb.1 hx with rfl|hx
   ·exact h1
   ·exact p7 h x hx
theorem vB{m1:Expr->Bool}{m2:eQ->Bool}{occ:List aj}{v:aj}: ∀{l:List Lit},cF m1 m2 occ l=some v-> ∃x∈l,l4 m1 m2 occ x=some v
 | [],h=>by cases h
 |y::r,h=>by
  simp only[cF]at h;split at h
  ·rename_i w hw;exact⟨y,Xd,hw.trans h⟩
  ·obtain⟨x,hx,h2⟩:=vB h;exact⟨x,W8 _ hx,h2⟩
variable (hmay: ∀a b:List aj,(∀x∈a,x∈b)-> ∀e,may a e=true->may b e=true) (hmore: ∀a b:List aj,(∀x∈a,x∈b)-> ∀e,more a e=true->more b e=true)
include hmay hmore
theorem Gk{occ C:List aj}(a0: ∀x∈occ,x∈C){l:Lit}{v:aj}(h:l4 (may occ) (more occ) occ l=some v)(hC:l4 (may C) (more C) C l=none):v∈C:=by
 have hl: ∀y,y∉C->cj C y=false:=fun y hy=>fm.2 hy;have hnew:=(xA h).2;refine Yb fun hv=>?_;unfold l4 at h hC;by_cases hc:(fP (may occ) occ l).2=true
 ·rw[am hc]at h;simp only[WV]at h;have b0:(fP (may C) C l).2=true:=by
   unfold fP at hc h ⊢;split at hc
   ·cases hc
   ·rename_i h0;rw[be h0]at h ⊢;split at hc
    ·rename_i h1;rw[am h1]at h;have e1:l.left.var=v:=h;rw[am ⟨h1.1,by rw[e1];exact hl v hv,hmay occ C a0 _ h1.2.2⟩]
    ·rename_i h1;rw[be h1]at h;split at hc
     ·rename_i h2;rw[am h2]at h;have e1:l.right.var=v:=h;split
      ·rfl
      ·rw[am ⟨h2.1,by rw[e1];exact hl v hv,hmay occ C a0 _ h2.2.2⟩]
     ·cases hc
  rw[am b0]at hC;cases hC
 ·rw[be hc]at h;split at h
  ·rename_i h2;simp only[WV]at h;split at hC
   ·cases hC
   ·rw[am ⟨h2.1,by rw[h];exact hl v hv,hmore occ C a0 _ h2.2.2⟩]at hC;cases hC
  ·cases h
theorem qp{C:List aj}(hC:cF (may C) (more C) C body=none): ∀(n:Nat) (occ:List aj),(∀x∈occ,x∈C)-> ∀x∈dL may more body n occ,x∈C
 |0,occ,h,x,hx=>h x hx
 |n+1,occ,h,x,hx=>by
  cases hv:cF (may occ) (more occ) occ body with
  |none=>rw[fG hv]at hx;exact h x hx
  |some v=>
   rw[fF hv]at hx;refine qp hC n _ (fun y hy=>?_) x hx;rcases W7.1 hy with hy|hy
   ·exact h y hy
   ·rw[W5]at hy;subst hy;obtain⟨l,hl,a0⟩:=vB hv;exact Gk hmay hmore h a0 (p7 hC l hl)
theorem vM{b0 a0:List aj}(h: ∀x∈b0,x∈a0): ∀x∈cH may more body b0,x∈cH may more body a0:=by
 refine qp hmay hmore (vO a0) _ _ fun x hx=>?_;refine qq _ _ x ?_;rcases W7.1 hx with hx|hx
 ·exact Xv _ (h x hx)
 ·exact Yp _ hx
end
theorem lu(a b:List aj)(h: ∀x∈a,x∈b)(e:Expr)(hc:aW a e=true):aW b e=true:=by
 unfold aW at*
 rw[Xm] at*
 exact fun x hx=>aQ.2 (h x (aQ.1 (hc x hx)))
theorem CL(a b:List aj)(h: ∀x∈a,x∈b)(e:Expr)(hc:cZ a e=true):cZ b e=true:=by
 unfold cZ at*
 cases hk:decide (e.kind=2) with
 |true=>simp
 |false=>
  rw[hk,Ya,Xg]at hc;rw[Ya,Xg];exact⟨hc.1,aQ.2 (h _ (aQ.1 hc.2))⟩
theorem EV(out:List aj)(a b:List aj)(h: ∀x∈a,x∈b)(e:eQ)(hc:iE out a e=true):iE out b e=true:=by
 unfold iE at*
 rw[Xm] at*
 intro x hx;have:=hc x hx;rw[XJ,XJ] at*
 rcases this with h1|h1|h1
 ·exact .inl h1
 ·exact .inr (.inl h1)
 ·exact .inr (.inr (aQ.2 (h _ (aQ.1 h1))))
def xM(r:aq)(a:eQ):List aj:=((aJ (bj a)).map (·.1)).filter fun x=>cj (az r) x
def Bg(r:aq)(a:eQ):List aj:=cH (fun occ=>aW occ) (fun _=>fun _=>false) a.body (xM r a)
theorem Ol{r:aq}{a:eQ}{occ:List aj}(h:KB r a occ)(s:aj):cj (cH (fun occ=>aW occ) (fun _=>fun _=>false) a.body occ) s=cj (Bg r a) s:=by
 have hm: ∀x,x∈xM r a↔x∈occ:=fun x=>by
  unfold xM;rw[Xs,(bY (bj a)).2 x,aQ,h.2 x]
 rw[Xy,aQ,aQ];exact⟨vM (more:=fun _=>fun _=>false) lu (fun _ _ _ _ h=>h) (fun x hx=>(hm x).2 hx) s,vM (more:=fun _=>fun _=>false) lu (fun _ _ _ _ h=>h) (fun x hx=>(hm x).1 hx) s⟩
def sI(r:aq)(m:NM):Bool:=m.any fun x=>!cj (bV r) x.1
theorem pR{r:aq}{m:NM}(h: ∀j,j<m.length-> ∀x,m[j]? =some x->cj (bV r) x.1=true):sI r m=false:=by
 refine XO.2 fun x hx=>?_;obtain⟨j,hj⟩:=XP hx;rw[h j (WX.1 hj).1 x hj];simp
theorem sH{r:aq}{m:NM}{j:Nat}{x:(KC.str).K×Int}(h:m[j]? =some x)(hx:cj (bV r) x.1=false):sI r m=true:=
 XM.2 ⟨x,Xo h,by rw[hx];rfl⟩
def me(r:aq)(a:eQ):NM:=(aJ (bj a)).filter fun x=>!cj ((lj r a).map (·.1)) x.1
def dI(r:aq)(lit:Int):Bool:=
 if lit<0 then sI r (aJ (da r.head))
 else if(ah r lit).kind=4 then(lj r (ah r lit).agg).any (fun x=>!cj (Bg r (ah r lit).agg) x.1)||sI r (bump (me r (ah r lit).agg) (ah r lit).bp)
 else sI r (aJ (cP (ah r lit)))
theorem VH(a:Atom)(hb:a.ae.length<=100000000000):b8 prog 135 [.mp 0,ag a.c] [.fY] (.bT []) [(0,some (c9 (aJ (da a))))] 1:=
 b8.QR (d88 [] a (by simp;omega)) ⟨wB,ac⟩
theorem VG(l:Lit)(hb:l.size<=100000000000):b8 prog 136 [.mp 0,ag l.c] [.fY] (.bT []) [(0,some (c9 (aJ (cP l))))] 1:=
 b8.QR (d89 l [] (by simp;omega)) ⟨wB,ac⟩
theorem zx(f:aj->Bool)(s:aj): ∀(m:NM),bQ .str (m.filter fun x=>f x.1) s 0=if f s=true then bQ .str m s 0 else 0
 | []=>by simp[bQ]
 |(a,b)::r=>by
  have ih:=zx f s r;cases hf:f a with
  |true=>
   rw[List.filter_cons_of_pos (by exact hf)];simp only[bQ];split
   ·rename_i h;subst h;rw[am hf]
   ·exact ih
  |false=>
   rw[List.filter_cons_of_neg (by simp[hf]),ih];simp only[bQ];split
   ·rename_i h;split
    ·rename_i h2;subst h2;rw[hf]at h;cases h
    ·rfl
   ·rfl
theorem Oy(r:aq)(a:eQ)(s:aj):0<=bQ .str (me r a) s 0∧bQ .str (me r a) s 0<=s8 (bj a) s:=by
 have h1:=bL (bj a) s;have h2:=zx (fun x=>!cj ((lj r a).map (·.1)) x) s (aJ (bj a));unfold me;rw[h2,h1];split<;>omega
set_option maxHeartbeats 2000000 in
theorem Wz(r:aq)(lit:Int)(hl:lit<r.body.length)(hb:r.size<=10000000):Pure prog 170 [.iv (c6 r),pI lit] (pB (dI r lit)):=by
 have w0:=Lit.aw r.body;have h0:Lit.ax r.body<=r.size:=Yt _ _;have d1:r.head.ae.length<=r.size:=Nat.le_add_right _ _;have z0:=E4 r;refine ad ab func170 Z (by decide) ntmps170 Z (by simp) Z ?_;refine gA Z (zq [] (d73 r (by omega)) ?_);refine gA Z (zI (fun h2=>?_) fun h2=>?_)
 ·have h2:lit<0:=by simpa using h2
  refine gA Z (zq [1] (VH r.head (by omega)) ?_);refine gA Z ?_;have k0:(aJ (da r.head)).length<=1000000000000:=by have:=l0 (da r.head);have:=kD r.head;omega
  refine gG (aJ (da r.head)) (fun vs=>⟨[(5, .mp 0),(76, .ptr 2 0)],[(0,some (c9 (aJ (bV r)))),(2,some (.bS .str xY (aJ (da r.head)) vs none))],3⟩) (fun vs=> ∀j∈vs,∀x,(aJ (da r.head))[j]? =some x->cj (bV r) x.1=true) [] (by simp)
   (zW (hM Z Z Z (hI Z Z (.inl Z) Z trivial))) fun vs hJ=>?_
  refine nX Z ac (eN Z Z Z Z Z (by decide) (fun a0=>?_) fun j x hx hj=>?_)
  ·refine gA Z (zL (.of_eq ?_));refine(fu ?_:pB false=_);rw[dI,am h2,pR fun j hj x hx=>hJ j (a0 j hj) x hx]
  ·have f0:=bL (bV r) x.1;have b0:=cS (occ:=bV r) (s:=x.1);refine gA Z (zI (fun g1=>?_) fun g1=>?_)
   ·have g1:cj (bV r) x.1=false:=by
     have:=zT g1;rw[b0];simp;omega
    refine gA Z (zL (.of_eq ?_));refine(fu ?_:pB true=_);rw[dI,am h2,sH hx g1]
   ·have g1:cj (bV r) x.1=true:=by
     have:=zF g1;rw[b0];simp;omega
    refine gA Z ?_
    exact⟨j,x,hx,hj,fun i hi y hy=>by
     rcases Xb.1 hi with rfl|hi
     ·rw[hx]at hy;cases hy;exact g1
     ·exact hJ i hi y hy,[],zW (hM Z Z Z (hI Z Z (.inr Z) Z ac))⟩
 have h2: ¬lit<0:=by simpa using h2
 have hk:lit.toNat<r.body.length:=by omega
 have p0:=Lit.aT r.body lit.toNat hk;have hag:=(ah r lit).fq;have a1:(ah r lit).size<=Lit.ax r.body:=p0;have b1:=mE (ah r lit).agg;have r0:=oJ (ah r lit);refine gA Z (zI (fun h3=>?_) fun h3=>?_);rotate_left
 ·have h3: ¬(ah r lit).kind=4:=by simpa[ah]using h3
  refine gA Z (zq [1] (VG (ah r lit) (by omega)) ?_);refine gA Z ?_;have k0:(aJ (cP (ah r lit))).length<=1000000000000:=by have:=l0 (cP (ah r lit));omega
  refine gG (aJ (cP (ah r lit))) (fun vs=>⟨[(5, .mp 0),(76, .ptr 3 0)],[(0,some (c9 (aJ (bV r)))),(3,some (.bS .str xY (aJ (cP (ah r lit))) vs none))],4⟩) (fun vs=> ∀j∈vs,∀x,(aJ (cP (ah r lit)))[j]? =some x->cj (bV r) x.1=true) [] (by simp)
   (zW (hM Z Z Z (hI Z Z (.inl Z) Z trivial))) fun vs hJ=>?_
  refine nX Z ac (eN Z Z Z Z Z (by decide) (fun a0=>?_) fun j x hx hj=>?_)
  ·refine gA Z (zL (.of_eq ?_));refine(fu ?_:pB false=_);rw[dI,be h2,be h3,pR fun j hj x hx=>hJ j (a0 j hj) x hx]
  ·have f0:=bL (bV r) x.1;have b0:=cS (occ:=bV r) (s:=x.1);refine gA Z (zI (fun g1=>?_) fun g1=>?_)
   ·have g1:cj (bV r) x.1=false:=by
     have:=zT g1;rw[b0];simp;omega
    refine gA Z (zL (.of_eq ?_));refine(fu ?_:pB true=_);rw[dI,be h2,be h3,sH hx g1]
   ·have g1:cj (bV r) x.1=true:=by
     have:=zF g1;rw[b0];simp;omega
    refine gA Z ?_
    exact⟨j,x,hx,hj,fun i hi y hy=>by
     rcases Xb.1 hi with rfl|hi
     ·rw[hx]at hy;cases hy;exact g1
     ·exact hJ i hi y hy,[],zW (hM Z Z Z (hI Z Z (.inr Z) Z ac))⟩
 have h3:(ah r lit).kind=4:=by simpa[ah]using h3
 refine gA Z (Dv [] (d161 r (ah r lit).agg (by omega)) Z Z Z Z Z Z Z fun q h' n' hR=>?_);obtain⟨ok,⟨occ,t0,s0⟩,rfl,rfl,rfl⟩:=hR;have g0: ∀s,cj ok s=cj (Bg r (ah r lit).agg) s:=fun s=>by rw[s0];exact Ol t0 s
 refine⟨_,rfl,?_⟩;have y0:=l0 (bj (ah r lit).agg);have hlm:(lj r (ah r lit).agg).length<=(aJ (bj (ah r lit).agg)).length:=X6 _ _;have x0:(me r (ah r lit).agg).length<=(aJ (bj (ah r lit).agg)).length:=X6 _ _;have o0:=(bY (bj (ah r lit).agg)).1;refine gA Z (zq [] (d79 r (ah r lit).agg (by omega)) ?_);refine gA Z ?_;refine gG (lj r (ah r lit).agg) (fun vs=>⟨[(0, .iv (c6 r)),(5, .mp 0),(7, .ptr 2 0),(8, .mp 3),(43, .ptr 5 0)],[(0,some (c9 (aJ (bV r)))),(2,some (an (ah r lit).c)),(3,some (c9 (aJ ok))),(5,some (.bS .str xY (lj r (ah r lit).agg) vs none))],6⟩) (fun vs=> ∀j∈vs,∀x,(lj r (ah r lit).agg)[j]? =some x->cj (Bg r (ah r lit).agg) x.1=true) [] (by simp)
  (zW (hM Z Z Z (zK (hM Z Z Z (hI Z Z (.inl Z) Z trivial))))) fun vs hJ=>?_
 refine nX Z ac (eN Z Z Z Z Z (by decide) (fun a0=>?_) fun j x hx hj=>?_);rotate_left
 ·have f0:=bL ok x.1;have b0:=cS (occ:=ok) (s:=x.1);have c0:=g0 x.1;refine gA Z (zI (fun g1=>?_) fun g1=>?_)
  ·have g1:cj (Bg r (ah r lit).agg) x.1=false:=by
    have:=zT g1;rw[<-c0,b0];simp;omega
   refine gA Z (zL (.of_eq ?_));refine(fu ?_:pB true=_);rw[dI,be h2,am h3,XM.2 ⟨x,Xo hx,by rw[g1];rfl⟩,Zq]
  ·have g1:cj (Bg r (ah r lit).agg) x.1=true:=by
    have:=zF g1;rw[<-c0,b0];simp;omega
   refine gA Z ?_
   exact⟨j,x,hx,hj,fun i hi y hy=>by
    rcases Xb.1 hi with rfl|hi
    ·rw[hx]at hy;cases hy;exact g1
    ·exact hJ i hi y hy,[],zW (hM Z Z Z (zK (hM Z Z Z (hI Z Z (.inr Z) Z ac))))⟩
 have hA:(lj r (ah r lit).agg).any (fun x=>!cj (Bg r (ah r lit).agg) x.1)=false:=XO.2 fun x hx=>by
  obtain⟨j,hj⟩:=XP hx;rw[hJ j (a0 j (WX.1 hj).1) x hj];simp
 refine gA Z (zq [] (d127 (ah r lit).agg (by omega)) ?_);refine gA Z (zq [] (d79 r (ah r lit).agg (by omega)) ?_);refine gA Z ?_;refine gG (lj r (ah r lit).agg) (fun vs=>⟨[(5, .mp 0),(6, .mp 6),(7, .ptr 2 0),(59, .ptr 8 0)],[(0,some (c9 (aJ (bV r)))),(2,some (an (ah r lit).c)),(6,some (c9 ((iZ (lj r (ah r lit).agg) vs).foldl (fun m k=>pg .str m k) (aJ (bj (ah r lit).agg))))),(8,some (.bS .str xY (lj r (ah r lit).agg) vs none))],9⟩) (fun vs=>vs.Nodup∧ ∀j∈vs,j<(lj r (ah r lit).agg).length) [] ⟨XT,by simp⟩
  (zW (hM Z Z Z (zK (hM Z Z Z (hI Z Z (.inl Z) Z trivial))))) fun e0 n0=>?_
 obtain⟨j0,i0⟩:=n0;refine nX Z ac (eN Z Z Z Z Z (by decide) (fun d0=>?_) fun j x hx hj=>?_);rotate_left
 ·have hk:=mT (lj r (ah r lit).agg) e0 j x hx;refine gA Z ⟨j,x,hx,hj,⟨X5.2 ⟨hj,j0⟩,fun i hi=>(Xb.1 hi).elim (fun h=>h▸(WX.1 hx).1) (i0 i)⟩,[],zW (hM Z Z Z (zK (hM Z (by rw[hk,YI];rfl) Z (hI Z Z (.inr Z) Z ac))))⟩
 have v0:(iZ (lj r (ah r lit).agg) e0).foldl (fun m k=>pg .str m k) (aJ (bj (ah r lit).agg))=me r (ah r lit).agg:=by
  rw[qk _ o0];unfold me;congr 1
  funext x
  congr 1;rw[Xy,aQ,aQ,(mc _ e0 j0 i0 d0).mem_iff]
 rw[v0];have q0:=Oy r (ah r lit).agg (ah r lit).bp;have m0:=iP (bj (ah r lit).agg) (ah r lit).bp;refine gA Z ?_;have k0:(bump (me r (ah r lit).agg) (ah r lit).bp).length<=1000000000000:=by have:=xp (me r (ah r lit).agg) (ah r lit).bp (bQ .str (me r (ah r lit).agg) (ah r lit).bp 0+1);unfold bump;omega
 refine gG (bump (me r (ah r lit).agg) (ah r lit).bp) (fun vs=>⟨[(5, .mp 0),(76, .ptr 9 0)],[(0,some (c9 (aJ (bV r)))),(9,some (.bS .str xY (bump (me r (ah r lit).agg) (ah r lit).bp) vs none))],10⟩) (fun vs=> ∀j∈vs,∀x,(bump (me r (ah r lit).agg) (ah r lit).bp)[j]? =some x->cj (bV r) x.1=true) [] (by simp)
  (zW (hM Z Z Z (hI Z Z (.inl Z) Z trivial))) fun vs hJ=>?_
 refine nX Z ac (eN Z Z Z Z Z (by decide) (fun a0=>?_) fun j x hx hj=>?_)
 ·refine gA Z (zL (.of_eq ?_));refine(fu ?_:pB false=_);rw[dI,be h2,am h3,hA,Ya,pR fun j hj x hx=>hJ j (a0 j hj) x hx]
 ·have f0:=bL (bV r) x.1;have b0:=cS (occ:=bV r) (s:=x.1);refine gA Z (zI (fun g1=>?_) fun g1=>?_)
  ·have g1:cj (bV r) x.1=false:=by
    have:=zT g1;rw[b0];simp;omega
   refine gA Z (zL (.of_eq ?_));refine(fu ?_:pB true=_);rw[dI,be h2,am h3,hA,Ya,sH hx g1]
  ·have g1:cj (bV r) x.1=true:=by
    have:=zF g1;rw[b0];simp;omega
   refine gA Z ?_
   exact⟨j,x,hx,hj,fun i hi y hy=>by
    rcases Xb.1 hi with rfl|hi
    ·rw[hx]at hy;cases hy;exact g1
    ·exact hJ i hi y hy,[],zW (hM Z Z Z (hI Z Z (.inr Z) Z ac))⟩
end Go.Proofs.YtflegjieadkonaaGreatDoor
namespace Go.Proofs.YtflegjieadkonaaGreatDoor
open Go Go.Al
def IS(a b:aj):Prop:=pc a<pc b
theorem Ao(a b:aj):Op.bytesLess a.toList b.toList=true↔IS a b:=by
 rw[ByteArray.toList_eq,ByteArray.toList_eq,bytesLess_eq,decide_eq_true_eq];rfl
theorem AM{a b:aj}(h:pc a=pc b):a=b:=by rw[<-wx a,<-wx b,h]
theorem uU{a b c:aj}(h:IS a b)(k:IS b c):IS a c:=List.lt_trans h k
theorem jY(a:aj): ¬IS a a:=List.lt_irrefl _
theorem Gl{a b:aj}(h: ¬a=b)(k: ¬IS a b):IS b a:=by
 refine Yb fun hc=>h (AM (List.le_antisymm ?_ ?_))
 ·exact aam.1 hc
 ·exact aam.1 k
abbrev pj(l:List aj):Prop:=l.Pairwise IS
theorem sP: ∀{l:List aj} (_:pj l) (s:aj),pj (ins l s)
 | [],_,s=>List.pairwise_singleton _ _
 |x::r,h,s=>by
  obtain⟨h1,h2⟩:=Yo.1 h;simp only[ins];split
  ·exact h
  ·rename_i hne;split
   ·rename_i hlt;have hlt:=(Ao x s).1 hlt;refine Yo.2 ⟨fun y hy=>?_,sP h2 s⟩;rcases wA.1 hy with hy|rfl
    ·exact h1 y hy
    ·exact hlt
   ·rename_i hlt;have hlt:IS s x:=Gl hne fun h=>hlt ((Ao x s).2 h);refine Yo.2 ⟨fun y hy=>?_,h⟩;rcases Xb.1 hy with rfl|hy
    ·exact hlt
    ·exact uU hlt (h1 y hy)
theorem jr{l:List aj}(h:pj l)(s:aj):pj (bR l s):=by rw[qF];exact sP h s
theorem fc: ∀{m l:List aj} (_:pj l),pj (cm l m)
 | [],_,h=>h
 |x::r,_,h=>fc (m:=r) (jr h x)
theorem lO: ∀{a b:List aj},pj a->pj b->(∀x,x∈a↔x∈b)->a=b
 | [],[],_,_,_=>rfl
 | [],y::s,_,_,h=>by have:=(h y).2 Xd;cases this
 |x::r,[],_,_,h=>by have:=(h x).1 Xd;cases this
 |x::r,y::s,ha,hb,h=>by
  obtain⟨a1,a2⟩:=Yo.1 ha;obtain⟨b1,b2⟩:=Yo.1 hb;have a0:x=y:=by
   rcases Xb.1 ((h x).1 Xd) with h1|h1
   ·exact h1
   ·rcases Xb.1 ((h y).2 Xd) with h2|h2
    ·exact h2.symm
    ·exact absurd (uU (b1 x h1) (a1 y h2)) (jY _)
  subst a0;rw[lO a2 b2 fun z=>?_];constructor
  ·intro hz;rcases Xb.1 ((h z).1 (W8 _ hz)) with rfl|h3
   ·exact absurd (a1 z hz) (jY _)
   ·exact h3
  ·intro hz;rcases Xb.1 ((h z).2 (W8 _ hz)) with rfl|h3
   ·exact absurd (b1 z hz) (jY _)
   ·exact h3
theorem fB{l:List aj}(h:l.Nodup):pj (eH l):=by
 have h1:=jU (l.map pc);rw[<-uz]at h1;have hn:(eH l).Nodup:=by
  have hp:((eH l).map pc).Perm (l.map pc):=by rw[uz];exact gn _
  have b0:(l.map pc).Nodup:=List.Pairwise.map pc (fun a b a0 e=>a0 (AM e)) h;have:=hp.nodup_iff.2 b0;exact List.Pairwise.of_map pc (fun a b a0 e=>a0 (by rw[e])) this
 have h2:(eH l).Pairwise fun a b=>pc a<=pc b:=(List.pairwise_map.1 h1).imp fun{a b} a0=>zT a0;refine(List.Pairwise.and h2 hn).imp fun{a b} a0=>?_;obtain⟨h3,h4⟩:=a0;exact Yb fun hc=>h4 (AM (List.le_antisymm h3 (aam.1 hc)))
theorem FN{m:NM}{l:List aj}(hm:(m.map (·.1)).Nodup)(hl:pj l)(h: ∀x,x∈m.map (·.1)↔x∈l):ff m=l:=by
 refine lO (fB hm) hl fun x=>?_;rw[ff,c8];exact h x
theorem B1{occ l:List aj}(hl:pj l)(h: ∀x,x∈occ↔x∈l):ff (aJ occ)=l:=
 FN (bY occ).1 hl fun x=>((bY occ).2 x).trans (h x)
theorem rI{x:aj}: ∀{l:List Term} {a:List aj},x∈l.foldl kI a↔x∈a∨x∈l.flatMap fun t=>if t.kind=1 then[t.var] else[]
 | [],a=>by simp
 |t::r,a=>by
  rw[Xq,rI,XZ,W7];unfold kI;split
  ·rw[ch,W5,or_assoc]
  ·simp
theorem jy{x:aj}{a:Atom}:x∈dx a↔x∈da a:=by
 unfold dx da;rw[rI];simp
mutual
theorem hZ{x:aj}: ∀{e:Expr},x∈aS e↔x∈cN e
 | .mk k v _ _ args=>by
  simp only[aS,cN];split
  ·rw[ch];simp
  ·split
   ·rw[rJ];simp
   ·rfl
theorem rJ{x:aj}: ∀{l:List Expr} {a:List aj},x∈fW a l↔x∈a∨x∈iM l
 | [],a=>by simp[fW,iM]
 |e::r,a=>by
  simp only[fW,iM];rw[rJ,gC,hZ,W7,or_assoc]
end
theorem iF{x:aj}{l:Lit}:x∈cf l↔x∈cP l:=by
 unfold cf cP;split
 ·exact jy
 ·split
  ·rw[gC,hZ,hZ,W7]
  ·rfl
theorem hP{x:aj}{a:eQ}:x∈aF a↔x∈bj a:=by
 unfold aF bj;have key: ∀(l:List Lit) (b:List aj),x∈l.foldl IN b↔x∈b∨x∈l.flatMap cP:=by
  intro l
  induction l with
  |nil=>simp
  |cons y r ih=>
   intro b;rw[Xq,ih,XZ,W7,gC,iF,or_assoc]
 rw[key,W7];split
 ·rfl
 ·rw[hZ]
theorem jl{x:aj}{r:aq}:x∈outer r↔x∈az r:=by
 unfold outer az;have key: ∀(l:List Lit) (b:List aj),x∈l.foldl uP b↔x∈b∨x∈l.flatMap eT:=by
  intro l
  induction l with
  |nil=>simp
  |cons y r ih=>
   intro b;rw[Xq,ih,XZ,W7];by_cases hk:y.kind=4
   ·rw[CQ hk,show eT y=cP y++ [y.bp] by unfold eT;rw[am hk],ch,gC,iF,W7,W5];simp only[or_assoc]
   ·rw[CS hk,show eT y=cP y by unfold eT;rw[be hk,XE],gC,iF,or_assoc]
 rw[key,W7,jy]
theorem wh(a:Atom):pj (dx a):=by
 have key: ∀(l:List Term) (b:List aj),pj b->pj (l.foldl kI b):=by
  intro l
  induction l with
  |nil=>exact fun _ h=>h
  |cons t r ih=>
   intro b h;rw[Xq];refine ih _ ?_;unfold kI;split
   ·exact jr h _
   ·exact h
 exact key _ _ YG
theorem Bd(r:aq):pj (outer r):=by
 have key: ∀(l:List Lit) (b:List aj),pj b->pj (l.foldl uP b):=by
  intro l
  induction l with
  |nil=>exact fun _ h=>h
  |cons t r ih=>
   intro b h;rw[Xq];refine ih _ ?_;unfold uP;split
   ·exact jr (fc h) _
   ·exact fc h
 exact key _ _ (wh _)
theorem Es(r:aq):ff (aJ (az r))=outer r:=B1 (Bd r) fun _=>jl.symm
theorem u0{a b:List aj}(h: ∀x,x∈a↔x∈b)(x:aj):cj a x=cj b x:=by
 rw[Xy,aQ,aQ];exact h x
theorem wc: ∀(e:Expr),pj (aS e)
 | .mk k v _ _ args=>by
  simp only[aS];split
  ·exact jr YG _
  ·split
   ·rw[lr];have key: ∀(l:List Expr) (b:List aj),pj b->pj (l.foldl (fun a e=>cm a (aS e)) b):=by
     intro l
     induction l with
     |nil=>exact fun _ h=>h
     |cons t r ih=>intro b h;exact ih _ (fc h)
    exact key _ _ YG
   ·exact YG
theorem Bu(a:eQ):pj (aF a):=by
 have key: ∀(l:List Lit) (b:List aj),pj b->pj (l.foldl IN b):=by
  intro l
  induction l with
  |nil=>exact fun _ h=>h
  |cons t r ih=>intro b h;exact ih _ (fc h)
 refine key _ _ ?_;split
 ·exact YG
 ·exact wc _
theorem Et(r:aq)(lit:Int):sJ r lit=l9 r lit:=by
 unfold sJ l9;split
 ·rfl
 ·refine FN (rE (bY _).1) ((Bu _).sublist List.filter_sublist) fun x=>?_
  unfold lj;have hk:=(bY (bj (ah r lit).agg)).2 x;rw[Xs,hP,u0 (fun _=>jl) x,<-hk];constructor
  ·intro h;obtain⟨y,hy,rfl⟩:=Xt.1 h;obtain⟨h1,h2⟩:=Xs.1 hy;exact⟨Xt.2 ⟨y,h1,rfl⟩,h2⟩
  ·rintro⟨h1,h2⟩;obtain⟨y,hy,rfl⟩:=Xt.1 h1;exact Xt.2 ⟨y,Xs.2 ⟨hy,h2⟩,rfl⟩
end Go.Proofs.YtflegjieadkonaaGreatDoor
namespace Go.Proofs.YtflegjieadkonaaGreatDoor
open Go Go.Al Go.Proofs.Tryz
def kv(r:aq):List aj:=sS true (outer r) r.body []
theorem c32(r:aq)(hb:4*r.size<=1000000000000):Pure prog 252 [ag r.c] (.iv (strs (kv r))):=by
 have hu:=hb;unfold aq.size at hu;refine ad ab func252 Z (by decide) ntmps252 Z (by simp) Z ?_;refine gA Z (zp (Td r (by omega)) ?_);refine gA Z (zp ((c74 r.body [] (outer r) true (by simp;omega)).le (aa:=[.iv (lits r.body), .iv (.v (.slice none 0 0)), .iv (strs (outer r)),pB true]) ⟨.refl _, .nil _ _, .refl _, .refl _,ac⟩) ?_);refine gA Z (zL (.of_eq ?_));rfl
def uX(r:aq)(lit:Int):List aj:=(aF (ah r lit).agg).foldl (fun k x=>if cj (outer r) x then bR k x else k) []
def ma(r:aq)(lit:Int):List aj:=sS false [] (ah r lit).ar (uX r lit)
theorem vA(p:aj->Bool): ∀(l k:List aj),(l.foldl (fun k x=>if p x then bR k x else k) k).length<=k.length+l.length
 | [],k=>by simp
 |x::r,k=>by
  have h1:=vA p r (if p x then bR k x else k);have h2:=jR k x;simp only[Xq,Xx];split at h1<;>rename_i h3<;>simp only[h3,if_true,Yn,if_false]<;>omega
theorem We(r:aq)(lit:Int)(h0:0<=lit)(h1:lit<r.body.length)(hb:8*r.size<=1000000000000):Pure prog 253 [ag r.c,pI lit] (.iv (strs (ma r lit))):=by
 have hu:=hb;unfold aq.size at hu;have hk:lit.toNat<r.body.length:=by omega
 have d0:(ah r lit).size<=Lit.ax r.body:=Lit.aT r.body lit.toNat hk;have hag:=(ah r lit).fq;have c0:=iK (ah r lit).agg;have b0:=(ah r lit).size_eq;refine ad ab func253 Z (by decide) ntmps253 Z (by simp) Z ?_;refine gA Z (zp (Td r (by omega)) ?_);refine gA Z (zp (UQ (ah r lit).agg (by omega)) ?_);refine gA Z ?_;refine aA 0 (aF (ah r lit).agg).length (W3 _) (fun i=>⟨[(5, .ptr 1 0),(6, .iv (strs (outer r))),(7, .iv (strs (((aF (ah r lit).agg).take i).foldl (fun k x=>if cj (outer r) x then bR k x else k) []))),(8, .iv (strs (aF (ah r lit).agg))),(9,pI i)],[(1,some (an (ah r lit).agg.c1))],2⟩) (fun _=>True) [] ac
  ?_ fun i hi _=>?_
 ·refine zM (bv (bv ⟨.nil _ _,rfl,bv (bv ac)⟩)) ⟨⟨_,rfl,?_⟩,WR Z,oe _ _,ac⟩;rw[ta];exact fQ.cells ⟨.refl _, .refl _, .refl _, .refl _, .refl _, .refl _, .refl _, .refl _, .refl _, .iv (kP _),ac⟩
 have a0:=vA (cj (outer r)) ((aF (ah r lit).agg).take i) [];simp only[YB,XH]at a0;refine gA Z (zI (fun h4=>?_) fun h4=>?_)
 ·have h4:=ci h4;have hs:=cR (g:=fun k x=>if cj (outer r) x then bR k x else k) (b:=[]) h4;refine gA Z (bn (LD _ ((aF (ah r lit).agg).getD i default)) Z Z Z Z Z Z ?_);refine gA Z (zI (fun h5=>?_) fun h5=>?_)
  ·rw[am h5]at hs;refine gA Z (bn (O9 _ _ (by omega)) Z Z Z Z Z Z ?_);refine gA Z ⟨h4,ac,[],zM (bv (bv ⟨.of_eq (by rw[hs];rfl),rfl,bv (bv ac)⟩)) (zK ac)⟩
  ·rw[be (by rw[h5];simp)]at hs;refine gA Z ⟨h4,ac,[],zM (bv (bv ⟨.of_eq (by rw[hs];rfl),rfl,bv (bv ac)⟩)) (zK ac)⟩
 ·have h4:=co h4;have e0:((aF (ah r lit).agg).take i).foldl (fun k x=>if cj (outer r) x then bR k x else k) []=uX r lit:=qW h4;rw[e0]at a0 ⊢;refine gA Z (zp ((c74 (ah r lit).ar (uX r lit) [] false (by omega)).le (aa:=[.iv (lits (ah r lit).ar), .iv (strs (uX r lit)), .iv (.v (.slice none 0 0)),pB false]) ⟨.refl _, .refl _, .nil _ _, .refl _,ac⟩) ?_);refine gA Z (zL (.of_eq ?_));rfl
def T3(a:List aj×Bool)(l:Lit):List aj×Bool:=if(mV l a.1).2=true then(bR a.1 (mV l a.1).1,true) else a
def uE(body:List Lit)(k:List aj):List aj×Bool:=body.foldl T3 (k,false)
def xq(body:List Lit):Nat->List aj->List aj
 |0,k=>k
 |n+1,k=>if(uE body k).2=true then xq body n (uE body k).1 else(uE body k).1
theorem CJ{body:List Lit}{n:Nat}{k:List aj}:xq body (n+1) k=if(uE body k).2=true then xq body n (uE body k).1 else(uE body k).1:=rfl
def np(r:aq):List aj:=xq r.body (3*r.body.length+1) (r.body.foldl lY [])
end Go.Proofs.YtflegjieadkonaaGreatDoor
namespace Go.Proofs.YtflegjieadkonaaGreatDoor
open Go Go.Al
section
variable (stp:List aj->Lit->aj×Bool)
def gS(a:List aj×Bool)(l:Lit):List aj×Bool:=if(stp a.1 l).2=true then(bR a.1 (stp a.1 l).1,true) else a
def gR(body:List Lit)(k:List aj):List aj×Bool:=body.foldl (gS stp) (k,false)
def gN(body:List Lit):Nat->List aj->List aj
 |0,k=>k
 |n+1,k=>if(gR stp body k).2=true then gN body n (gR stp body k).1 else(gR stp body k).1
variable {stp}
theorem GQ: ∀(body:List Lit) (k:List aj),(body.foldl (gS stp) (k,true)).2=true
 | [],k=>rfl
 |l::r,k=>by
  rw[Xq];have: ∃k',gS stp (k,true) l=(k',true):=by
   unfold gS;split
   ·exact⟨_,rfl⟩
   ·exact⟨_,rfl⟩
  obtain⟨k',hk⟩:=this;rw[hk];exact GQ r k'
theorem Dy: ∀{body:List Lit} {k:List aj},(body.foldl (gS stp) (k,false)).2=false->(body.foldl (gS stp) (k,false)).1=k∧ ∀l∈body,(stp k l).2=false
 | [],k,_=>⟨rfl,by simp⟩
 |l::r,k,h=>by
  rw[Xq]at h ⊢;cases hs:(stp k l).2 with
  |true=>
   have:gS stp (k,false) l=(bR k (stp k l).1,true):=am hs;rw[this,GQ]at h;cases h
  |false=>
   have:gS stp (k,false) l=(k,false):=be (by rw[hs];simp);rw[this]at h ⊢;obtain⟨h1,h2⟩:=Dy h
   exact⟨h1,fun x hx=>by
    rcases Xb.1 hx with rfl|hx
    ·exact hs
    ·exact h2 x hx⟩
theorem Fj: ∀(body:List Lit) (a:List aj×Bool),∀x∈a.1,x∈(body.foldl (gS stp) a).1
 | [],a,x,h=>h
 |l::r,a,x,h=>by
  rw[Xq];refine Fj r _ x ?_;unfold gS;split
  ·exact ch.2 (.inl h)
  ·exact h
theorem K5{body:List Lit}: ∀(n:Nat) (k:List aj),∀x∈k,x∈gN stp body n k
 |0,k,x,h=>h
 |n+1,k,x,h=>by
  unfold gN;split
  ·exact K5 n _ x (Fj body (k,false) x h)
  ·exact Fj body (k,false) x h
theorem u6: ∀(body:List Lit) (a:List aj×Bool),pj a.1->pj (body.foldl (gS stp) a).1
 | [],a,h=>h
 |l::r,a,h=>by
  rw[Xq];refine u6 r _ ?_;unfold gS;split
  ·exact jr h _
  ·exact h
theorem zZ{body:List Lit}: ∀(n:Nat) (k:List aj),pj k->pj (gN stp body n k)
 |0,k,h=>h
 |n+1,k,h=>by
  unfold gN;split
  ·exact zZ n _ (u6 body (k,false) h)
  ·exact u6 body (k,false) h
variable (hnew: ∀(k:List aj) (l:Lit),(stp k l).2=true->(stp k l).1∈ [l.left.var,l.right.var,l.bp]∧(stp k l).1∉k)
include hnew
theorem GP{c:List aj}: ∀{body:List Lit} {a:List aj×Bool},(∀l∈body,∀v∈ [l.left.var,l.right.var,l.bp],v∈c)->
  ck c (body.foldl (gS stp) a).1<=ck c a.1∧((body.foldl (gS stp) a).2=true->a.2=true∨ck c (body.foldl (gS stp) a).1<ck c a.1)
 | [],a,_=>⟨W0 _,fun h=> .inl h⟩
 |l::r,a,hc=>by
  have h1:ck c (gS stp a l).1<=ck c a.1∧((gS stp a l).2=true->a.2=true∨ck c (gS stp a l).1<ck c a.1):=by
   unfold gS;split
   ·rename_i h;obtain⟨g1,g2⟩:=hnew _ _ h;have:=qP (hc l Xd _ g1) g2;exact⟨by dsimp only;omega,fun _=> .inr this⟩
   ·exact⟨W0 _,fun h=> .inl h⟩
  obtain⟨g1,g2⟩:=GP (body:=r) (a:=gS stp a l) fun l hl=>hc l (W8 _ hl);rw[Xq];refine⟨by omega,fun h=>?_⟩;rcases g2 h with g3|g3
  ·rcases h1.2 g3 with g4|g4
   ·exact .inl g4
   ·exact .inr (by omega)
  ·exact .inr (by omega)
theorem K4{body:List Lit}: ∀(n:Nat) (k:List aj),ck (bM body) k<n-> ∀l∈body,(stp (gN stp body n k) l).2=false
 |0,k,h,_,_=>by omega
 |n+1,k,h,l,hl=>by
  unfold gN;cases hr:(gR stp body k).2 with
  |true=>
   rw[am Z];refine K4 n _ ?_ l hl;obtain⟨_,g2⟩:=GP hnew (c:=bM body) (body:=body) (a:=(k,false)) fun l hl v hv=>vh hl hv;rcases g2 hr with g3|g3
   ·cases g3
   ·unfold gR;dsimp only at g3;omega
  |false=>
   rw[be (by simp)];obtain⟨g1,g2⟩:=Dy hr;unfold gR;rw[g1];exact g2 l hl
end
theorem p6{m1:Expr->Bool}{m2:eQ->Bool}{occ:List aj}: ∀{l:List Lit},(∀x∈l,l4 m1 m2 occ x=none)->cF m1 m2 occ l=none
 | [],_=>rfl
 |y::r,h=>by
  simp only[cF,h y Xd];exact p6 fun x hx=>h x (W8 _ hx)
section
variable {stp:List aj->Lit->aj×Bool} {may:List aj->Expr->Bool} {more:List aj->eQ->Bool} {body:List Lit}
variable (hE: ∀(k:List aj) (l:Lit),l4 (may k) (more k) k l=if(stp k l).2=true then some (stp k l).1 else none)
variable (hmay: ∀a b:List aj,(∀x∈a,x∈b)-> ∀e,may a e=true->may b e=true) (hmore: ∀a b:List aj,(∀x∈a,x∈b)-> ∀e,more a e=true->more b e=true)
include hE
theorem Ns(k:List aj)(l:Lit)(h:(stp k l).2=true):(stp k l).1∈ [l.left.var,l.right.var,l.bp]∧(stp k l).1∉k:=by
 have:=hE k l;rw[am h]at this;exact xA this
include hmay hmore
theorem K2{C:List aj}(hC: ∀l∈body,l4 (may C) (more C) C l=none): ∀(b:List Lit) (a:List aj×Bool),(∀l∈b,l∈body)->(∀x∈a.1,x∈C)-> ∀x∈(b.foldl (gS stp) a).1,x∈C
 | [],a,_,h,x,hx=>h x hx
 |l::r,a,hb,h,x,hx=>by
  rw[Xq]at hx;refine K2 hC r _ (fun l hl=>hb l (W8 _ hl)) (fun y hy=>?_) x hx;unfold gS at hy;split at hy
  ·rename_i hs;rcases ch.1 hy with hy|rfl
   ·exact h y hy
   ·have:=hE a.1 l;rw[am hs]at this;exact Gk hmay hmore h this (hC l (hb l Xd))
  ·exact h y hy
theorem K3{C:List aj}(hC: ∀l∈body,l4 (may C) (more C) C l=none): ∀(n:Nat) (k:List aj),(∀x∈k,x∈C)-> ∀x∈gN stp body n k,x∈C
 |0,k,h,x,hx=>h x hx
 |n+1,k,h,x,hx=>by
  unfold gN at hx;have hr:=K2 hE hmay hmore hC body (k,false) (fun _ h=>h) h;split at hx
  ·exact K3 hC n _ hr x hx
  ·exact hr x hx
theorem pr{k occ:List aj}(hk: ∀x,x∈k↔x∈occ++body.flatMap bD)(x:aj):x∈gN stp body (3*body.length+1) k↔x∈cH may more body occ:=by
 constructor
 ·refine K3 hE hmay hmore (C:=cH may more body occ) (p7 (vO occ)) _ _ (fun y hy=>?_) x;exact qq _ _ y ((hk y).1 hy)
 ·refine qp hmay hmore (C:=gN stp body (3*body.length+1) k) (p6 fun l hl=>?_) _ _ (fun y hy=>K5 _ _ y ((hk y).2 hy)) x;have h1:=qQ (bM body) k;have h2:=ke body;rw[hE,K4 (Ns hE) _ _ (by omega) l hl,be (by simp)]
end
theorem tK{x:aj}: ∀{l:List Lit} {a:List aj},x∈l.foldl lY a↔x∈a∨x∈l.flatMap bD
 | [],a=>by simp
 |t::r,a=>by
  rw[Xq,tK,XZ,W7];by_cases hk:t.kind=1
  ·rw[show lY a t=cm a (dx t.atom) from am hk,show bD t=da t.atom from am hk,gC,jy,or_assoc]
  ·rw[show lY a t=a from be hk,show bD t=[] from be hk];simp
theorem vo: ∀(l:List Lit) (a:List aj),pj a->pj (l.foldl lY a)
 | [],a,h=>h
 |t::r,a,h=>by
  rw[Xq];refine vo r _ ?_;unfold lY;split
  ·exact fc h
  ·exact h
theorem Ee{k:List aj}{e:Expr}(h:e.kind=1):ly k (aS e)=cj k e.var:=by
 rw[oO h];simp[ly]
theorem qA(k:List aj)(e:Expr):ly k (aS e)=aW k e:=by
 rw[Xy,LS];unfold aW;rw[Xm];exact⟨fun h x hx=>aQ.2 (h x (hZ.2 hx)),fun h x hx=>aQ.1 (h x (hZ.1 hx))⟩
theorem Cm(k:List aj)(l:Lit):jO l k=fP (aW k) k l:=by
 unfold jO fP;split
 ·rfl
 ·have e1:l.left.kind=1->aW k l.left=cj k l.left.var:=fun h=>by rw[<-qA,Ee h]
  have e2:l.right.kind=1->aW k l.right=cj k l.right.var:=fun h=>by rw[<-qA,Ee h]
  simp only[qA];by_cases h1:l.left.kind=1<;>by_cases h2:l.right.kind=1<;>simp[h1,h2,e1,e2]
theorem Lu{may:Expr->Bool}{k:List aj}{l:Lit}(h:(fP may k l).2=true):l.kind=3:=by
 unfold fP at h;split at h
 ·cases h
 ·rename_i h1;exact Yb fun hc=>h1 (.inl hc)
theorem IJ(out:List aj)(r:aq)(k:List aj)(a:eQ)(ho: ∀x,x∈out↔x∈az r):rT a k out=(!cj k a.var&&iE (az r) k a):=by
 unfold rT iE;congr 1;rw[Xy,Xm,Xm];have key: ∀x,(!(cj out x&&(!cj k x&&!decide (x=a.var))))=(decide (x=a.var)||(!cj (az r) x||cj k x)):=fun x=>by
  rw[u0 ho x];cases cj (az r) x<;>cases cj k x<;>cases decide (x=a.var)<;>rfl
 constructor
 ·intro h x hx;rw[<-key];exact h x (hP.2 hx)
 ·intro h x hx;rw[key];exact h x (hP.1 hx)
theorem HY(r:aq)(k:List aj)(l:Lit):l4 (aW k) (iE (az r) k) k l=if(fy true (outer r) k l).2=true then some (fy true (outer r) k l).1 else none:=by
 unfold l4 fy;by_cases h4:l.kind=4
 ·have hc: ¬(fP (aW k) k l).2=true:=fun h=>by have:=Lu h;omega
  rw[be hc,am (c:=true=true∧l.kind=4) ⟨rfl,h4⟩];dsimp only;rw[IJ (outer r) r k l.agg fun _=>jl];show(if l.kind=4∧cj k l.bp=false∧iE (az r) k l.agg=true then some l.bp else none)=if(!cj k l.bp&&iE (az r) k l.agg)=true then some l.bp else none;cases cj k l.bp<;>cases iE (az r) k l.agg<;>simp[h4]
 ·rw[be (c:=l.kind=4∧_) (fun h=>h4 h.1),be (c:=true=true∧_) (fun h=>h4 h.2),Cm]
theorem Kb(k:List aj)(l:Lit):l4 (cZ k) (fun _=>false) k l=if(mV l k).2=true then some (mV l k).1 else none:=by
 unfold l4;rw[be (c:=l.kind=4∧_) (fun h=>Bool.noConfusion h.2.2)];have:(if(fP (cZ k) k l).2=true then some (fP (cZ k) k l).1 else none)=if(mV l k).2=true then some (mV l k).1 else none:=by
  unfold fP mV cZ;split
  ·rfl
  ·by_cases a1:l.left.kind=1<;>by_cases a2:l.right.kind=1<;>by_cases a3:l.left.kind=2<;>by_cases a4:l.right.kind=2<;>cases a5:cj k l.left.var<;>cases a6:cj k l.right.var<;>simp_all
 exact this
theorem xP(own:Bool)(out:List aj)(body:List Lit): ∀(n:Nat) (k:List aj),zR own out body n k=gN (fy own out) body n k
 |0,k=>rfl
 |n+1,k=>by
  rw[xO,xP own out body n];rfl
theorem zh(body:List Lit): ∀(n:Nat) (k:List aj),xq body n k=gN (fun k l=>mV l k) body n k
 |0,k=>rfl
 |n+1,k=>by
  rw[CJ,zh body n];rfl
theorem told_plain(r:aq):ff (aJ (rA r))=np r:=by
 unfold np;rw[zh];refine B1 (zZ _ _ (vo _ _ YG)) fun x=>?_;exact(pr (may:=fun occ=>cZ occ) (more:=fun _=>fun _=>false) Kb CL (fun _ _ _ _ h=>h) (fun y=>by rw[tK];simp) x).symm
end Go.Proofs.YtflegjieadkonaaGreatDoor
namespace Go.Proofs
open Go.Shelf
def Tryz.Dc:Go.Shelf.Ren:=⟨fun|190=>91|125=>122|258=>121|128=>152|129=>153|302=>143|303=>144|304=>145|305=>146|306=>147|307=>148|308=>149|309=>150|310=>151|333=>180|329=>181|330=>182|334=>183|335=>184|336=>185|344=>213|n=>n,fun|31=>53|9=>9|3=>3|46=>179|0=>0|51=>203|53=>205|4=>4|183=>196|182=>195|131=>50|5=>5|218=>233|222=>237|228=>280|229=>281|n=>n,fun|n=>n⟩
theorem Tryz.Gt:Go.Proofs.Lays.n190 Tryz.prog Tryz.Dc:={
 mixed:=by kernel_rfl
 f125:=Tryz.func122.trans (congrArg some (by kernel_rfl))
 f128:=Tryz.func152.trans (congrArg some (by kernel_rfl))
 f129:=Tryz.func153.trans (congrArg some (by kernel_rfl))
 f190:=Tryz.func91.trans (congrArg some (by kernel_rfl))
 f258:=Tryz.func121.trans (congrArg some (by kernel_rfl))
 f302:=Tryz.func143.trans (congrArg some (by kernel_rfl))
 f303:=Tryz.func144.trans (congrArg some (by kernel_rfl))
 f304:=Tryz.func145.trans (congrArg some (by kernel_rfl))
 f305:=Tryz.func146.trans (congrArg some (by kernel_rfl))
 f306:=Tryz.func147.trans (congrArg some (by kernel_rfl))
 f307:=Tryz.func148.trans (congrArg some (by kernel_rfl))
 f308:=Tryz.func149.trans (congrArg some (by kernel_rfl))
 f309:=Tryz.func150.trans (congrArg some (by kernel_rfl))
 f310:=Tryz.func151.trans (congrArg some (by kernel_rfl))
 f329:=Tryz.func181.trans (congrArg some (by kernel_rfl))
 f330:=Tryz.func182.trans (congrArg some (by kernel_rfl))
 f333:=Tryz.func180.trans (congrArg some (by kernel_rfl))
 f334:=Tryz.func183.trans (congrArg some (by kernel_rfl))
 f335:=Tryz.func184.trans (congrArg some (by kernel_rfl))
 f336:=Tryz.func185.trans (congrArg some (by kernel_rfl))
 f344:=Tryz.func213.trans (congrArg some (by kernel_rfl))
 t0:=Tryz.underlying0
 a0:=Tryz.isAgg0
 z0:=Tryz.sizeOf0
 v0:=Tryz.zeroValue0
 t3:=Tryz.underlying3
 a3:=Tryz.isAgg3
 z3:=Tryz.sizeOf3
 v3:=Tryz.zeroValue3
 t4:=Tryz.underlying4
 a4:=Tryz.isAgg4
 z4:=Tryz.sizeOf4
 v4:=Tryz.zeroValue4
 t5:=Tryz.underlying5
 a5:=Tryz.isAgg5
 z5:=Tryz.sizeOf5
 v5:=Tryz.zeroValue5
 t9:=Tryz.underlying9
 a9:=Tryz.isAgg9
 z9:=Tryz.sizeOf9
 v9:=Tryz.zeroValue9
 t31:=Tryz.underlying53
 a31:=Tryz.isAgg53
 z31:=Tryz.sizeOf53
 v31:=Tryz.zeroValue53
 t46:=Tryz.underlying179
 a46:=Tryz.isAgg179
 z46:=Tryz.sizeOf179
 v46:=Tryz.zeroValue179
 t51:=Tryz.underlying203
 a51:=Tryz.isAgg203
 z51:=Tryz.sizeOf203
 v51:=Tryz.zeroValue203
 t53:=Tryz.underlying205
 a53:=Tryz.isAgg205
 z53:=Tryz.sizeOf205
 v53:=Tryz.zeroValue205
 t131:=Tryz.underlying50
 a131:=Tryz.isAgg50
 z131:=Tryz.sizeOf50
 v131:=Tryz.zeroValue50
 t182:=Tryz.underlying195
 a182:=Tryz.isAgg195
 z182:=Tryz.sizeOf195
 v182:=Tryz.zeroValue195
 t183:=Tryz.underlying196
 a183:=Tryz.isAgg196
 z183:=Tryz.sizeOf196
 v183:=Tryz.zeroValue196
 t218:=Tryz.underlying233
 a218:=Tryz.isAgg233
 z218:=Tryz.sizeOf233
 v218:=Tryz.zeroValue233
 t222:=Tryz.underlying237
 a222:=Tryz.isAgg237
 z222:=Tryz.sizeOf237
 v222:=Tryz.zeroValue237
 t228:=Tryz.underlying280
 a228:=Tryz.isAgg280
 z228:=Tryz.sizeOf280
 v228:=Tryz.zeroValue280
 t229:=Tryz.underlying281
 a229:=Tryz.isAgg281
 z229:=Tryz.sizeOf281
 v229:=Tryz.zeroValue281}
theorem YtflegjieadkonaaGreatDoor.QF:YtflegjieadkonaaGreatDoor.ft:=
 ⟨fun aI off cap ss w hH a0 b0=>Any.slices_Sort_string Tryz.Gt aI off cap ss w hH a0 b0,fun p cap w=>Any.slices_Sort_string_none Tryz.Gt p cap w⟩
end Go.Proofs
namespace Go.Proofs.YtflegjieadkonaaGreatDoor
open Go Go.Al Go.Proofs.Tryz
theorem kF{α:Type}[Inhabited α]{f:α->List IV}(h: ∀x,jb ((f x).map .iv)=true)(l:List α):allOnes ((Xc l.length).map fun k=>(f (l.getD k default)).map PV.iv)=true:=by rw[ox];exact vR h l
theorem c20(a:Atom)(hb:a.ae.length<=100000000000):Pure prog 48 [ag a.c] (ag a.c):=by
 refine ad ab func48 Z (by decide) ntmps48 Z (by simp) Z ?_;refine gA Z (jH (.inr Z) Z (iz.v7 3 a.ae Term.c Z (ox _ _) (by simp[PV.bH,dw]) (.done (.of_eq (by simp only[PV.dF,nY,Xk];rfl)))))
theorem c95: ∀(n:Nat) (e:Expr),e.size<=n->e.size<=100000000000->Pure prog 89 [ag e.c] (ag e.c)
 |0,e,h,_=>absurd e.size_pos (by omega)
 |n+1,e,h,hb=>by
  have e0:=e.size_eq;have d0:=Expr.aw e.args;refine Al.Pure.le (aa:=[ag e.c]) (args:=[ag e.c1]) ?_ ⟨e.xG,ac⟩;refine ad ab func89 Z (by decide) ntmps89 Z (by simp) Z ?_;refine gA Z ?_;refine kB 2 6 7 Z Z ?_;refine aA 0 e.args.length (W3 _) (fun i=>⟨[(1, .ptr 0 0),(2, .ptr 1 0),(3, .ptr 2 0),(4,pI i)],[(0,some (an e.c1)),(1,some (.cells [pI 0,pS W4,pI 0,pI 0,pS W4,pI 0, .iv (.v (.slice none 0 0))])),(2,some (.cells [.iv (iI e.kind), .iv (iS e.var), .iv (iI e.val.kind), .iv (iI e.val.num), .iv (iS e.val.sym), .iv (iI e.op), .sl 4 0 i 7])),(4,some (aD 7 (e.args.take i) Expr.c))],5⟩) (fun _=>True) [3] ac
   (zW (zK (zO (zO (zS trivial))))) fun i hi _=>?_
  refine gA Z (zI (fun h1=>?_) fun h1=>?_)
  ·have h1:=ci h1;have c0:=Expr.aT e.args i h1;have hlt:(e.args.take i).length=i:=by rw[XH];omega
   have a0:=aN (l:=e.args) h1;refine gA Z (nB (c95 n (e.args.getD i default) (by omega) (by omega)) ?_);refine gA Z ⟨h1,ac,[6],zW (zK (zO (zO (hR Z (by rw[a0,WZ];rfl) Z ac))))⟩
  ·have h1:=co h1;have b0:i=e.args.length:=by omega
   subst b0;rw[W2 (W0 _)];refine gA Z (jH (.inr Z) Z (iz.v7 4 e.args Expr.c Z Z (by simp[PV.bH,dw]) (.done ?_)));have:aH (ag e.c1) (ag e.c):=e.Ic;simp only[PV.dF,nY,Xk];exact this
theorem SS(e:Expr)(hb:e.size<=100000000000):Pure prog 89 [ag e.c] (ag e.c):=c95 e.size e (W0 _) hb
theorem VU: ∀(n:Nat) (l:List Lit) (y:IV),Lit.ax l<=n->Lit.ax l<=100000000000->nA (lits l) y->Pure prog 49 [.iv (lits l)] (.iv y):=by
 intro n
 induction n with
 |zero=>
  intro l y h hb hy;have hl:=Lit.aw l;have h0:l.length=0:=by omega
  refine ad ab func49 Z (by decide) ntmps49 Z (by simp) Z ?_;refine gA Z ?_;refine aA 0 l.length (W3 _) (fun i=>⟨[(0, .iv (lits l)),(3, .iv (.v (.slice none 0 0))),(4,pI i)],[],0⟩) (fun _=>True) [] ac
   (mH Z Z (bv (bv (bv trivial))) Z) fun i hi _=>?_
  refine gA Z (zI (fun h1=>?_) fun h1=>?_)
  ·have h1:=ci h1;omega
  ·refine gA Z (zL ?_);have a0:l=[]:=YO.1 h0;subst a0;exact .iv (fun M x hx=>hy M x (by cases hx;exact .kQ _ _ _ _))
 |succ n ih=>
  intro l y h hb hy;have hl:=Lit.aw l;refine ad ab func49 Z (by decide) ntmps49 Z (by simp) Z ?_;refine gA Z ?_;refine fb 3 30 Z ?_;refine aA 0 l.length (W3 _) (fun i=>⟨[(0, .iv (lits l)),(3, .sl 1 0 i 30),(4,pI i)],[(1,some (aD 30 (l.take i) Lit.c))],2⟩) (fun _=>True) [0] ac
   (zW (zS trivial)) fun i hi _=>?_
  refine gA Z (zI (fun h1=>?_) fun h1=>?_)
  ·have h1:=ci h1;have e0:=Lit.aT l i h1;have d0:=(l.getD i default).size_eq;have hlt:(l.take i).length=i:=by rw[XH];omega
   have b0:=aN (l:=l) h1;refine gA Z (zp (c20 (l.getD i default).atom (by omega)) ?_);refine gA Z (zp (SS (l.getD i default).left (by omega)) ?_);refine gA Z (zp (SS (l.getD i default).right (by omega)) ?_);refine gA Z (zp (SS (l.getD i default).km (by omega)) ?_);refine gA Z (bn (Al.Pure.le (aa:=[.iv (uh (l.getD i default).ar)]) (ih (l.getD i default).ar (uh (l.getD i default).ar) (by omega) (by omega) (E2 _)) ⟨.iv (kP _),ac⟩) Z Z Z Z Z Z ?_);refine gA Z ⟨h1,ac,[4],zW (hR Z (by rw[b0,WZ];rfl) Z ac)⟩
  ·have h1:=co h1;have c0:i=l.length:=by omega
   subst c0;rw[W2 (W0 _)];refine gA Z (jH (r0:= .sl 1 0 l.length 30) (.inr Z) Z (iz.v7 1 l Lit.c Z Z (by simp[PV.bH,dw]) (.done ?_)));have:aH (.iv (lits l)) (.iv y):= .iv hy;simp only[PV.dF,nY,Xk];exact this
theorem c53(l:List Lit)(hb:Lit.ax l<=100000000000):Pure prog 49 [.iv (lits l)] (.iv (lits l)):=VU _ l _ (W0 _) hb (fun _ _ h=>h)
def Prog.size(p:Prog):Nat:=p.aB.length+(p.aB.map fun d=>d.types.length).sum+p.rules.length+(p.rules.map aq.size).sum
theorem qJ{α:Type}[Inhabited α](f:α->Nat): ∀(l:List α) (i:Nat),i<l.length->f (l.getD i default)<=(l.map f).sum
 |x::r,0,_=>by simp
 |x::r,i+1,h=>by
  have:=qJ f r i (by simpa using h);simp only[Yk,Xe,YK];omega
theorem qT(i sz n:Nat): ∀l:List IV,dw i sz n (l.map .iv)
 | []=>trivial
 |x::r=>⟨ac,qT i sz n r⟩
theorem pA{α:Type}(i sz n a0:Nat)(l:List α)(f:α->List IV):(aD a0 l f).rD i sz n:=by
 intro k e j p he hp;rw[W1,W6]at he;obtain⟨x,_,rfl⟩:=he;rw[W1,W6]at hp;obtain⟨y,_,rfl⟩:=hp;exact⟨y,rfl⟩
theorem c14(p:Prog)(hb:p.size<=100000000000):Pure prog 12 [ag p.c] (ag p.c):=by
 unfold Prog.size at hb;have hrl: ∀(l:List aq),l.length<=100000000000->True:=fun _ _=>trivial;refine ad ab func12 Z (by decide) ntmps12 Z (by simp) Z ?_;refine gA Z ?_;refine kB 2 0 4 Z Z ?_;refine kB 2 1 5 Z Z ?_
 refine aA 0 p.aB.length (W3 _) (fun i=>⟨[(1, .ptr 0 0),(2, .ptr 1 0),(3, .ptr 2 0),(4,pI i)],[(0,some (an p.c)),(1,some (.cells [.iv (.v (.slice none 0 0)), .iv (.v (.slice none 0 0))])),(2,some (.cells [.sl 5 0 i 4, .sl 4 0 0 5])),(4,some (aD 5 ([]:List aq) aq.c)),(5,some (aD 4 (p.aB.take i) Decl.c))],6⟩) (fun _=>True) [3] ac
  (zW (zK ⟨⟨_,rfl, .of_eq Z⟩,WR Z,rfl,⟨_,rfl, .of_eq Z⟩,WR Z,rfl,zS (zS trivial)⟩)) fun i hi _=>?_
 refine gA Z (zI (fun h1=>?_) fun h1=>?_)
 ·have h1:=ci h1;have hlt:(p.aB.take i).length=i:=by rw[XH];omega
  have a0:=aN (l:=p.aB) h1;have c0:=qJ (fun d:Decl=>d.types.length) p.aB i h1;refine gM 26 Z ?_;refine o7 (L:=[]) (t:=⟨[(1, .ptr 0 0),(2, .ptr 1 0),(3, .ptr 2 0),(4,pI i),(5, .ptr 6 0),(6, .sl 8 0 (p.aB.getD i default).types.length 1)],[(0,some (an p.c)),(1,some (.cells [.iv (.v (.slice none 0 0)), .iv (.v (.slice none 0 0))])),(2,some (.cells [.sl 5 0 i 4, .sl 4 0 0 5])),(4,some (aD 5 ([]:List aq) aq.c)),(5,some (aD 4 (p.aB.take i) Decl.c)),(6,some (an (p.aB.getD i default).c)),(8,some (aD 1 (p.aB.getD i default).types ba))],9⟩)
   (zM (bv (bv (bv (bv (bv ⟨.row (by rw[Xk];rfl),rfl,ac⟩))))) (zK (zO (zO (zS (zS (zK (hR Z (ox _ _) Z trivial)))))))) ?_
  refine BA 8 (fun k=>ba ((p.aB.getD i default).types.getD k default)) Z (cX Z) (by simp[AF.rD,PV.bH]) ⟨qT _ _ _ _,(by simp[AO.rD,dw,PV.bH]),(by simp[AO.rD,dw,PV.bH]),pA _ _ _ _ _ _,pA _ _ _ _ _ _,qT _ _ _ _,pA _ _ _ _ _ _,ac⟩ ?_;refine gA Z ⟨h1,ac,[10],zW (zK (zO (zO (zS (hR Z (by rw[a0,WZ];simp only[Xk];rfl) Z ac)))))⟩
 ·have h1:=co h1;have b0:i=p.aB.length:=by omega
  subst b0;rw[W2 (W0 _)];refine gA Z ?_;refine aA 0 p.rules.length (W3 _) (fun i=>⟨[(1, .ptr 0 0),(2, .ptr 1 0),(3, .ptr 2 0),(7,pI i)],[(0,some (an p.c)),(1,some (.cells [.iv (.v (.slice none 0 0)), .iv (.v (.slice none 0 0))])),(2,some (.cells [.sl 5 0 p.aB.length 4, .sl 6 0 i 5])),(5,some (aD 4 p.aB Decl.c)),(6,some (aD 5 (p.rules.take i) aq.c))],7⟩) (fun _=>True) [4] ac
   (zW (zK (zO (zO (zS (zS trivial)))))) fun i hi _=>?_
  refine gA Z (zI (fun h2=>?_) fun h2=>?_)
  ·have h2:=ci h2;have hlt:(p.rules.take i).length=i:=by rw[XH];omega
   have a0:=aN (l:=p.rules) h2;have c0:=qJ aq.size p.rules i h2;have d0:(p.rules.getD i default).size=(p.rules.getD i default).head.ae.length+Lit.ax (p.rules.getD i default).body:=rfl;refine gA Z (nB (c20 (p.rules.getD i default).head (by omega)) ?_);refine gA Z (nB (c53 (p.rules.getD i default).body (by omega)) ?_);refine gA Z ⟨h2,ac,[8],zW (zK (zO (zO (zS (hR Z (by rw[a0,WZ];rfl) Z ac)))))⟩
  ·have h2:=co h2;have b0:i=p.rules.length:=by omega
   subst b0;rw[W2 (W0 _)];refine gA Z (jH (r0:= .agg [.sl 5 0 p.aB.length 4, .sl 6 0 p.rules.length 5]) (.inr Z) Z (iz.v7 5 p.aB Decl.c Z Z (by simp[PV.bH,dw]) (iz.v7 6 p.rules aq.c Z Z (by simp[PV.bH,dw,PV.dF,nY,show Xn 6 5=false from rfl]) (.done (.of_eq (by simp only[PV.dF,nY,Xk,show Xn 6 5=false from rfl,show Xn 5 5=true from rfl,show Xn 6 6=true from rfl,cond_true,cond_false];rfl))))))
theorem VW(r:aq)(hb:r.size<=10000000):Pure prog 98 [ag r.c] (.iv (strs (np r))):=told_plain r▸c33 QF r hb
end Go.Proofs.YtflegjieadkonaaGreatDoor
namespace Go.Proofs.YtflegjieadkonaaGreatDoor
open Go.Proofs.Tryz
open Go
set_option maxHeartbeats 2000000
theorem GA: ∃j,prog.info? 245=some j∧j.size=2:=by
 have h:(prog.info? 245).map (fun i=>i.size)=some 2:=by kernel_rfl
 rw[W6]at h;exact h
theorem OF:liesAt prog prog.depth 247 (4/prog.cellsOf 247) 0 245 1=true:=by kernel_rfl
theorem O8(b:Nat)(w:World)(h0:w.cell? ⟨b,0,none⟩=some (.pointer (some ⟨b,0,none⟩))):
  Calls prog 260 #[.pointer (some ⟨b,0,none⟩)] w fun e w'=>e= .returned (.tuple #[])∧w'=w:=by
 obtain⟨j,hj,_⟩:=GA
 go_enter func260,ntmps260
 go_wp2
 rw[Lib.run_neq_ptr_same w _ underlying242 hj]
 go_wp2
 go_end0
 exact⟨rfl,rfl⟩
theorem LB(b:Nat)(w:World)(h0:w.cell? ⟨b,0,none⟩=some (.pointer none))(a0:w.shape? b=some (247,4))(c0:w.frozen? ⟨b,0,none⟩=false):
  Calls prog 260 #[.pointer (some ⟨b,0,none⟩)] w fun e w'=>e= .returned (.tuple #[])∧w'=w.setCell ⟨b,0,none⟩ (.pointer (some ⟨b,0,none⟩)):=by
 obtain⟨j,hj,b0⟩:=GA
 go_enter func260,ntmps260
 go_wp2
 rw[Lib.run_to_unsafe w ⟨b,0,none⟩ underlying242 underlying327 hj (by rw[b0];decide) a0 (by show 0<4;decide)];simp only[Result.andThen];rw[Oper.upon_value]
 go_wp2
 rw[run_callFunc_extern func272 (by kernel_rfl) (by kernel_rfl) (by kernel_rfl) (e:=Extern.AbiNoEscape.same) (by kernel_rfl)];rw[Lib.run_noEscape];simp only[Result.andThen];rw[Oper.upon_value]
 go_wp2
 rw[Lib.run_from_unsafe w ⟨b,0,none⟩ underlying327 underlying242 hj a0 OF];simp only[Result.andThen];rw[Oper.upon_value]
 go_wp2
 go_end0
 exact⟨rfl,rfl⟩
theorem SR:prog.cellsOf 5=1:=by kernel_rfl
theorem Pd(b g cap:Nat)(p x y:Value)(a0:Array Value)(l:List UInt8)(w:World)(f0:w.heap[b]? =some (.cells #[p, .slice (some ⟨g,0,none⟩) l.length cap,x,y] 247 (0,0)))(hg:w.heap[g]? =some (.cells a0 5 (0,0)))
  (hl:l.length<=a0.size) (d0:l.length<=cap) (e0:cap<=maxLen) (c0: ∀(j:Nat) (x:UInt8),l[j]? =some x->a0.getD j undef= .int .u8 (x.toNat:Int)) (h0:l≠ []):
  Calls prog 220 #[.pointer (some ⟨b,0,none⟩)] w fun e w'=>e= .returned (.string ⟨l.toArray⟩)∧w'=w.drew.freeze ⟨g,0,none⟩ l.length:=by
 have i0:l.length≠0:=by simpa using h0
 have c1:w.drew.cell? ⟨b,1,none⟩=some (.slice (some ⟨g,0,none⟩) l.length cap):=by
  have:w.drew.heap[b]? =some (.cells #[p, .slice (some ⟨g,0,none⟩) l.length cap,x,y] 247 (0,0)):=f0;rw[Lib.cell_of_heap this];rfl
 have j0:(Builtin.unsafeSliceData_ #[243] 306 #[.slice (some ⟨g,0,none⟩) l.length cap]).run prog w.drew= .ok (.pointer (some ⟨g,0,none⟩)) w.drew:=
  Lib.run_unsafeSliceData_row _ _ _ _ _ _ (by omega)
 have g0:(Builtin.unsafeString_ #[306,3] 9 #[.pointer (some ⟨g,0,none⟩), .int .i64 l.length]).run prog w.drew= .ok (.string ⟨l.toArray⟩) (w.drew.freeze ⟨g,0,none⟩ l.length):=by
  refine Lib.run_unsafeString_row w.drew 306 3 9 5 underlying306 SR g a0.size (by have b0:w.drew.heap[g]? =some (.cells a0 5 (0,0)):=hg;simp[World.shape?,b0]) l h0 (by omega) (by unfold maxLen at e0;omega) ?_;intro j x hx;have hlt:j<a0.size:=by have:=(WX.1 hx).1;omega
  have:=c0 j x hx;rw[WT,XS hlt]at this;show w.drew.cell? _=_;have b0:w.drew.heap[g]? =some (.cells a0 5 (0,0)):=hg;rw[Al.gU,Xk];simp only[World.cell?,b0];simpa[hlt]using this
 have mixed:prog.follows .mixedOrders=true:=rfl
 go_enter func220,ntmps220
 go_wp2
 go_region_o
 all_goals(go_wp2;go_ret;exact⟨rfl,rfl⟩)
theorem SY(b:Nat)(p x y:Value)(w:World)(a0:w.heap[b]? =some (.cells #[p, .slice none 0 0,x,y] 247 (0,0))):
  Calls prog 220 #[.pointer (some ⟨b,0,none⟩)] w fun e w'=>e= .returned (.string ⟨#[]⟩)∧w'=w.drew:=by
 have b0:(W:World)->(Builtin.unsafeString_ #[306,3] 9 #[.pointer none, .int .i64 0]).run prog W= .ok (.string .empty) W:=fun W=>Lib.run_unsafeString_none W _ _ _ none
 have c1:w.drew.cell? ⟨b,1,none⟩=some (.slice none 0 0):=by
  have:w.drew.heap[b]? =some (.cells #[p, .slice none 0 0,x,y] 247 (0,0)):=a0;rw[Lib.cell_of_heap this];rfl
 have c0:(Builtin.unsafeSliceData_ #[243] 306 #[.slice none 0 0]).run prog w.drew= .ok (.pointer none) w.drew:=rfl;have mixed:prog.follows .mixedOrders=true:=rfl
 go_enter func220,ntmps220
 go_wp2
 go_region_o
 all_goals(go_wp2;go_ret;exact⟨rfl,rfl⟩)
end Go.Proofs.YtflegjieadkonaaGreatDoor
namespace Go.Al
section
variable {P:Program} {ty:Ty} {nt:Nat} {s:AS} {Q:AQ} {k:List KI}
def ye(c:UInt8):List IV:=[.v (.int .u8 (c.toNat:Int))]
theorem uC(w:World)(t u g0 e:TypeId)(i:TypeInfo)(ht:P.underlying t=some (.slice e))(hu:P.underlying u=some .string)(hi:P.info? e=some i)(i0:i.size=1)(T:TypeId)
  (g a0 b0:Nat) (c0:Array Value) (hg:w.heap[g]? =some (.cells c0 T (0,0))) (b:ByteArray)
  (d0:a0+b.size<=b0) (e0:a0+b.size<=c0.size):
  (Builtin.append_ #[t,u] g0 #[.slice (some ⟨g,0,none⟩) a0 b0, .string b]).run P w=
   .ok (.slice (some ⟨g,0,none⟩) (a0+b.size) b0) (w.setRow g (c0.toList.take a0++Lib.strCells b++c0.toList.drop (a0+b.size)).toArray):=by
 have hf:=Lib.run_firstCells_string (P:=P) w 1 b;have f0:=run_storeCells_at P g a0 T (Lib.strCells b) 0 c0 w hg (by simpa[Lib.strCells_length]using e0) (Lib.strCells_oneCell b);simp only[Y8,Lib.strCells_length]at f0;simp[Builtin.append_,run_underlying ht,run_underlying hu,sizeOf,typeInfo,hi,i0,Builtin.lenOf,d0,hf,Addr.add_lit,f0]
theorem nK(w:World)(t u d0 e:TypeId)(i:TypeInfo)(ht:P.underlying t=some (.slice e))(hu:P.underlying u=some .string)(hi:P.info? e=some i)(so:Option Addr)(a0 b0:Nat)(c0:a0<=b0)(b:ByteArray)(hb:b.size=0)(hs:so=none∨ ∃b o,so=some ⟨b,o,none⟩):
  (Builtin.append_ #[t,u] d0 #[.slice so a0 b0, .string b]).run P w= .ok (.slice so a0 b0) w:=by
 have hf:=Lib.run_firstCells_string (P:=P) w i.size b;have hn:Lib.strCells b=[]:=Ys (by rw[Lib.strCells_length];exact hb);rw[hb,hn]at hf;rcases hs with rfl|⟨g,o,rfl⟩
 ·simp[Builtin.append_,run_underlying ht,run_underlying hu,sizeOf,typeInfo,hi,Builtin.lenOf,hb,c0,hf]
 ·simp[Builtin.append_,run_underlying ht,run_underlying hu,sizeOf,typeInfo,hi,Builtin.lenOf,hb,c0,hf,storeCells]
def vX(s:AS)(i:Nat)(l:List UInt8)(u:TypeId):AS:=⟨s.f,(s.nx,some (.bG l u))::(i,none)::s.h,s.nx+1⟩
theorem tx{i:Nat}{l:List UInt8}{u:TypeId}{M M':Mem}{N N':Nm}{a:Act}{w w':World}(hf:Fits M N s nt a w)(hx:Ext M N (· <s.nx) s.h w M' N' (· <s.nx+1) ((s.nx,some (.bG l u))::(i,none)::s.h) w')
  (hr:Rel M' N' (· <s.nx+1) ((s.nx,some (.bG l u))::(i,none)::s.h) w'):
  Ext M N (· <s.nx) s.h w M' N' (· <(vX s i l u).nx) (vX s i l u).h w'∧Fits M' N' (vX s i l u) nt a w':=
 ⟨hx,hr,hf.2.1.ext hx,hf.2.2⟩
theorem Rel.Px{M:Mem}{N:Nm}{w:World}{n:Nat}{h:AH}(hr:Rel M N (· <n) h w)(T:TypeId):Ext M N (· <n) h w M N (· <n+1) ((n,some (.bG [] T))::h) w∧Rel M N (· <n+1) ((n,some (.bG [] T))::h) w:=by
 have a0: ∀i p,AH.get ((n,some (.bG [] T))::h) i=some p->(i=n∧p= .bG [] T)∨(i<n∧h.get i=some p):=by
  intro i p hi;rw[AH.au]at hi;split at hi
  ·rename_i hin;exact .inl ⟨hin,by simpa using hi.symm⟩
  ·exact .inr ⟨hr.used i p hi,hi⟩
 refine⟨⟨rfl,rfl,rfl,W0 _,fun _ _ _=>rfl, .refl _,fun b c h1 h2=>by simp[h1]at h2, .refl _ _,fun i hi=>by omega,fun i p hi b0=>?_⟩,⟨hr.dF,fun i p hi=>?_,fun i p hi b0=>?_,fun i p hi=>?_,fun i j p q hi hj hp hq c0=>?_⟩⟩
 ·rcases a0 i p hi with⟨rfl,rfl⟩|⟨h1,h2⟩
  ·cases b0
  ·exact .inr ⟨i,p,h2,b0,rfl⟩
 ·rcases a0 i p hi with⟨rfl,rfl⟩|⟨h1,h2⟩<;>omega
 ·rcases a0 i p hi with⟨rfl,rfl⟩|⟨h1,h2⟩
  ·cases b0
  ·exact hr.eK i p h2 b0
 ·rcases a0 i p hi with⟨rfl,rfl⟩|⟨h1,h2⟩
  ·exact .inl Z
  ·exact(hr.obj i p h2).mono (.refl _) (.refl _ _) (fun i hi=>by omega) h1 Z
 ·rcases a0 i p hi with⟨rfl,rfl⟩|⟨h1,h2⟩<;>rcases a0 j q hj with⟨rfl,rfl⟩|⟨h3,h4⟩
  ·rfl
  ·cases hp
  ·cases hq
  ·exact hr.inj i j p q h2 h4 hp hq c0
theorem NB(w0:cz P ty){o:Oper}{x y:Operand}{t tu u:TypeId}(ho:o.op= .call ⟨.builtin .append, #[x,y], #[t,tu]⟩){e et eu:cI}(ht:ty t=some e)(hk:e.k= .bb (.slice u))(t1:ty tu=some et)(w1:et.k= .bb .string)(hu:ty u=some eu)
  {i a0:Nat} {l:List UInt8} {b:ByteArray} (hx:ev s.f x= .sl i 0 a0 1) (hi:s.h.get i=some (.bG l u)) (d0:l.length=a0) (s1:eu.size=1) (x1:eu.bytes=1) (hz:eu.zero= .int .u8 0)
  (u1:ev s.f y= .iv (.v (.string b))) (c2:a0+b.size<=140737488355328)
  {s':AS} (hp:putDst nt o (.sl s.nx 0 (a0+b.size) 1) (vX s i (l++b.data.toList) u)=some s'):OT P nt o s (fun t=>t=s'):=by
 refine OT.value hp fun M N a w hf=>?_;obtain⟨⟨ii,r0,y0,t0,a1⟩,_⟩:=w0 u _ hu;rw[s1]at y0;rw[x1]at t0;rw[hz]at a1
 have p0:P.underlying t=some (.slice u):=by
  have:=(w0 t _ ht).2.1;rw[hk]at this;exact this.1
 have q0:P.underlying tu=some .string:=by
  have:=(w0 tu _ t1).2.1;rw[w1]at this;exact this.1
 have s0:=bf hf.2.1 x;rw[hx]at s0;have i1:=bf hf.2.1 y;rw[u1]at i1;have p1:a.eval y= .string b:=by
  generalize a.eval y=v at i1;cases i1 with
  |iv _ _ h=>cases h;rfl
 have b0: ∀v w',(Builtin.append_ #[t,tu] o.type #[a.eval x,a.eval y]).run P w= .ok v w'->(execOp a.eval o).run P w= .ok (.value v) w':=by
  intro v w' h;simp only[execOp,ho,resolve];simp[invoke,builtin,h]
 rw[p1]at b0;have hin:i<s.nx:=hf.1.used i _ hi;have hne:s.nx≠i:=by omega
 have z1:=hf.1.obj i _ hi;have n0:b.data.toList.length=b.size:=by simp
 have m0: ∀(j:Nat) (x:UInt8),b.data.toList[j]? =some x->(Lib.strCells b).getD j undef= .int .u8 (x.toNat:Int):=by
  intro j x hx;simp only[Lib.strCells,WU,W1,hx,XW,Yl]
 have g0: ∀z:Array Value,(∀(j:Nat) (x:UInt8),l[j]? =some x->z.getD j undef= .int .u8 (x.toNat:Int))->(∀j,j<b.size->z.getD (a0+j) undef=(Lib.strCells b).getD j undef)->
   ∀(j:Nat) (x:UInt8),(l++b.data.toList)[j]? =some x->z.getD j undef= .int .u8 (x.toNat:Int):=by
  intro z h1 h2 j x hj;rcases X3 j l.length with hk|hk
  ·rw[Xf hk]at hj;exact h1 j x hj
  ·rw[Xj hk]at hj;have hlt:j-l.length<b.size:=by rw[<-n0];exact(WX.1 hj).1
   have:=h2 _ hlt;rw[m0 _ _ hj,show a0+(j-l.length)=j by omega]at this;exact this
 have i0: ∀(f0:List Value) (cap:Nat),f0.length=a0->(∀(j:Nat) (x:UInt8),l[j]? =some x->f0.getD j undef= .int .u8 (x.toNat:Int))->a0+b.size<=cap->cap<=maxLen->0<a0+b.size->
   ∀z:Array Value,z=f0.toArray++(Lib.strCells b).toArray++Builtin.zeroCells (Value.int .u8 0).cells (cap-(a0+b.size))->
   ∃M' N',Ext M N (· <s.nx) s.h w M' N' (· <(vX s i (l++b.data.toList) u).nx) (vX s i (l++b.data.toList) u).h (w.drew.alloc (.cells z u))∧Fits M' N' (vX s i (l++b.data.toList) u) nt a (w.drew.alloc (.cells z u))∧
    VR M' N' (· <(vX s i (l++b.data.toList) u).nx) (.sl s.nx 0 (a0+b.size) 1) (.slice (some ⟨w.heap.size,0,none⟩) (a0+b.size) cap):=by
  intro f0 cap j1 r1 v0 n1 b1 z z0;have v1:(Value.int IntKind.u8 0).cells.size=1:=rfl;have e0:z.size=cap:=by
   rw[z0,ZC,ZC,size_zeroCells,v1];simp only[List.size_toArray,j1,Lib.strCells_length];omega
  obtain⟨N',h1,h2,h3,h4,h5⟩:=hf.1.drew.alloc (.cells z u) (.bG (l++b.data.toList) u) z.size (fun N' g1 g2 g3=>by
   refine .inr ⟨z,by rw[g1];exact heap_alloc_new _ _,g2.symm,by rw[e0,WW,d0,n0];omega,g0 z (fun j x hj=>?_) (fun j hj=>?_)⟩
   ·have b2:=(WX.1 hj).1;have e1:z.getD j undef=f0.getD j undef:=by
     rw[z0,WT,Array.append_assoc,X8 (by simp;omega),WU];simp
    rw[e1];exact r1 j x hj
   ·rw[z0,WT,X8 (by simp[Lib.strCells_length];omega),Array.getElem?_append_right (by simp;omega),WU]
    simp[j1])
  have o1:=(h5.del i).swap (Ne.symm hne);have m1:=(((Ext.drew (M:=M) (N:=N) (U:=(· <s.nx)) (h:=s.h) (w:=w)).trans h4).del i).swap (Ne.symm hne);obtain⟨g1,g2⟩:=tx hf m1 o1;refine⟨M,N',g1,g2,?_⟩;have:=VR.sl (M:=M) (N:=N') (U:=(· <s.nx+1)) s.nx 0 (a0+b.size) 1 cap (by omega) b1 v0 n1 (by rw[h2,e0];simp);rw[h1,Za]at this;exact this
 generalize a.eval x=vx at s0 b0;cases s0 with
 |ph _ _ hU=>
  have he:l=[]:=Ys d0;subst he;by_cases hm:b.size=0
  ·have f1:b.data.toList=[]:=Ys (by rw[n0];exact hm);have c0:=nK (P:=P) w t tu o.type u ii p0 q0 r0 none 0 0 (W0 _) b hm (.inl Z);obtain⟨h1,h2⟩:=hf.1.Px u;obtain⟨g1,g2⟩:=tx (i:=i) (l:=[]) (u:=u) hf ((h1.del i).swap (Ne.symm hne)) ((h2.del i).swap (Ne.symm hne));rw[f1,hm];exact⟨_,w,M,N,b0 _ _ c0,g1,g2, .ph _ _ (by simp only[vX];omega)⟩
  ·have c0:=run_append_nil_string (P:=P) w t tu o.type u ii (.int .u8 0) p0 q0 r0 a1 b (by omega) (by omega) (by rw[t0];omega);have e1:(b.data.map fun b=>Value.int .u8 b.toNat)=(Lib.strCells b).toArray:=by
    apply Array.ext';simp[Lib.strCells]
   rw[e1]at c0;obtain⟨M',N',g1,g2,g3⟩:=i0 [] (grownCap w b.size 0 u) Z (by simp) (by simpa using grownCap_ge w b.size 0 u) (grownCap_le_maxLen w _ _ _ (by simp only[maxLen];omega)) (by omega) _ Z;simp only[Xk,Y5,Array.empty_append] at*
   exact⟨_,_,M',N',b0 _ _ c0,by simpa using g1,by simpa using g2,by simpa using g3⟩
 |sl _ _ _ _ cap hU h0 hl hc hext=>
  rcases z1 with rfl|⟨cur,q1,q2,q3,q4⟩
  ·simp at d0;omega
  have k0:(AO.bG l u).real=true:=by cases l with
   |nil=>simp at d0;omega
   |cons=>rfl
  rw[Za]at b0;have d1:cur.size=cap:=by rw[q2,<-hext];omega
  by_cases hm:b.size=0
  ·have f1:b.data.toList=[]:=Ys (by rw[n0];exact hm);have c0:=nK (P:=P) w t tu o.type u ii p0 q0 r0 (some ⟨N.aI i,0,none⟩) a0 cap hl b hm (.inr ⟨_,_,rfl⟩)
   obtain⟨h1,h2⟩:=hf.1.move hi k0 w (.bG (l++ []) u) Z Z Z Z (fun _ _=>rfl) (by
    rw[XE]
    exact .inr ⟨cur,by simpa using q1,by simpa using q2,q3,q4⟩)
   obtain⟨g1,g2⟩:=tx (i:=i) hf h1 h2;rw[f1,hm];refine⟨_,w,M,_,b0 _ _ c0,g1,g2,?_⟩;have:=VR.sl (M:=M) (N:=N.with s.nx (N.aI i) (N.ext i)) (U:=(· <s.nx+1)) s.nx 0 a0 1 cap (by omega) h0 hl hc (by simpa using hext);simpa[vX]using this
  ·by_cases j0:a0+b.size<=cap
   ·have c0:=uC (P:=P) w t tu o.type u ii p0 q0 r0 y0 u (N.aI i) a0 cap cur q1 b j0 (by omega);generalize hL:(cur.toList.take a0++Lib.strCells b++cur.toList.drop (a0+b.size)).toArray=L at c0;have l1:L.size=cur.size:=by rw[<-hL];simp[Lib.strCells_length];omega
    have x0:=setRow_heap w (N.aI i) cur L u (0,0) q1;have a2: ∀j,j<a0->L.getD j undef=cur.getD j undef:=by
     intro j hj;rw[<-hL,WT,WT];simp only[Yf];rw[Xa,Xf (by simp;omega),XY,am hj,X4]
    have y1: ∀j,j<b.size->L.getD (a0+j) undef=(Lib.strCells b).getD j undef:=by
     intro j hj;rw[<-hL,WT,WU];simp only[Yf];rw[Xf (by simp[Lib.strCells_length];omega),Xj (by simp;omega)];congr 2;simp;omega
    obtain⟨h1,h2⟩:=hf.1.move hi k0 (w.setRow (N.aI i) L) (.bG (l++b.data.toList) u) Z Z Z (by simp) (fun b hb=>by
      simp only[World.setRow,XR]
      rw[be (fun e=>hb e.symm)]) (by
     refine .inr ⟨L,by simpa using x0,by rw[l1];simpa using q2,by rw[l1,d1,WW,d0,n0];omega,g0 L (fun j x hj=>?_) y1⟩;rw[a2 j (by rw[<-d0];exact(WX.1 hj).1)]
     exact q4 j x hj)
    obtain⟨g1,g2⟩:=tx (i:=i) hf h1 h2;refine⟨_,_,M,_,b0 _ _ c0,g1,g2,?_⟩;have:=VR.sl (M:=M) (N:=N.with s.nx (N.aI i) (N.ext i)) (U:=(· <s.nx+1)) s.nx 0 (a0+b.size) 1 cap (by omega) (by omega) j0 hc (by simpa using hext);simpa[vX]using this
   ·have o0: ∀(j:Nat) (v:Value),(cur.toList.take a0)[j]? =some v->w.cell? ((⟨N.aI i,0,none⟩:Addr).add j)=some v:=by
     intro j v hv;rw[XY]at hv;split at hv
     ·rw[gU,Xk];simp only[World.cell?,q1];simpa using hv
     ·cases hv
    have c0:=Lib.run_append_grow_string (P:=P) w t tu o.type u ii (.int .u8 0) p0 q0 r0 a1 ⟨N.aI i,0,none⟩ a0 cap (cur.toList.take a0) (by rw[y0];simp;omega) o0 b (by omega) (by omega)
     (by rw[t0];exact growslice_fits (by omega) (by omega))
    obtain⟨M',N',g1,g2,g3⟩:=i0 (cur.toList.take a0) (grownCap w (a0+b.size) cap u) (by simp;omega) (fun j x hj=>by
      have:=q4 j x hj;have hlt:j<a0:=by rw[<-d0];exact(WX.1 hj).1
      rw[WU,XY,am hlt,X4]
      rw[WT]at this;exact this) (grownCap_ge w _ _ _) (grownCap_le_maxLen w _ _ _ (by simp only[maxLen];omega)) (by omega) _ Z
    exact⟨_,_,M',N',b0 _ _ c0,g1,g2,g3⟩
theorem ON(e0:cz P ty){all rest:List Oper}{o:Oper}{x y:Operand}{t tu u d:Nat}{e et eu:cI}{i b0:Nat}{l:List UInt8}{b:ByteArray}(ho:o.op= .call ⟨.builtin .append, #[x,y], #[t,tu]⟩)(hg:o.guard=none)(ht:ty t=some e)(hk:e.k= .bb (.slice u))(d0:ty tu=some et)(i0:et.k= .bb .string)(hu:ty u=some eu)
  (hx:ev s.f x= .sl i 0 b0 1) (hi:s.h.get i=some (.bG l u)) (j0:eu.size=1) (c0:eu.bytes=1) (hz:eu.zero= .int .u8 0)
  (f0:ev s.f y= .iv (.v (.string b))) (hd:o.dst=some d) (hlt:Xi d nt=true) (a0:l.length=b0) (g0:b0+b.size<=140737488355328)
  (h:GO P nt (.ops all rest::k) Q ⟨(d, .sl s.nx 0 (l++b.data.toList).length 1)::s.f,(s.nx,some (.bG (l++b.data.toList) u))::(i,none)::s.h,s.nx+1⟩):GO P nt (.ops all (o::rest)::k) Q s:=by
 have e:(l++b.data.toList).length=b0+b.size:=by rw[WW,a0];simp
 rw[e]at h
 exact ep hg (NB e0 ho ht hk d0 i0 hu hx hi a0 j0 c0 hz f0 g0 (s':=⟨(d, .sl s.nx 0 (b0+b.size) 1)::s.f,(s.nx,some (.bG (l++b.data.toList) u))::(i,none)::s.h,s.nx+1⟩) (by
  simp only[putDst,vX,hd,hlt,cond_true,eF])) fun t ht=>by subst ht;exact h
theorem Jv{o:Oper}{it:Operand}(ho:o.op= .next it true){i:Nat}(g0:ev s.f it= .ptr i 0){b:ByteArray}{a0:Nat}(hi:s.h.get i=some (.eJ b a0)){d:Nat}(hd:o.dst=some d)(hlt:Xi d nt=true):
  OT P nt o s (fun t=>(b.size<=a0∧t=⟨(d, .bT [.kb false])::s.f,s.h,s.nx⟩)∨
   (a0<b.size∧t=⟨(d, .bT [.kb true, .iv (.v (.int .i64 (a0:Nat))), .iv (.v (.int .i32 (Utf8.decode b a0).1))])::s.f,(i,some (.eJ b (a0+(Utf8.decode b a0).2)))::s.h,s.nx⟩)):=by
 intro M N a w hf K Z hk;have hx:=bf hf.2.1 it;rw[g0]at hx;have d0:w.heap[N.aI i]? =some (.stringIter b a0):=hf.1.obj i _ hi;have c0:N.aI i<w.heap.size:=(Yd.1 d0).1;have f0:d<nt:=WR hlt;have e0:a.eval it= .pointer (some ⟨N.aI i,0,none⟩):=by
  generalize a.eval it=y at hx;cases hx;rfl
 unfold Oper.wp;by_cases hp:a0<b.size
 ·have b0:(execOp a.eval o).run P w= .ok (.value (.tuple #[.bool true, .int .i64 (a0:Nat), .int .i32 (Utf8.decode b a0).1])) {w with heap:=w.heap.setIfInBounds (N.aI i) (.stringIter b (a0+(Utf8.decode b a0).2))}:=by
   simp only[execOp,ho,e0];simp[Instr.next,getObj,setObj,Sem.run,d0,hp,Result.andThen,goInt]
  rw[b0];simp only[Oper.upon]
  obtain⟨q1,q2⟩:=hf.1.write hi rfl {w with heap:=w.heap.setIfInBounds (N.aI i) (.stringIter b (a0+(Utf8.decode b a0).2))} (.eJ b (a0+(Utf8.decode b a0).2)) rfl rfl rfl (by simp) (fun c hc=>by
   show(w.heap.setIfInBounds _ _)[c]? =_
   rw[XG,be (fun e=>hc e.symm)]) (by
   show(w.heap.setIfInBounds _ _)[_]? =_
   rw[XG,am rfl,am c0])
  refine hk M N _ _ _ q1 ?_ (.inr ⟨hp,rfl⟩);rw[hd];refine Fits.put (s:=⟨s.f,(i,some (.eJ b (a0+(Utf8.decode b a0).2)))::s.h,s.nx⟩) ⟨q2,hf.2⟩ d _ _ f0 (.bT _ _ rfl fun q p hp=>?_)
  match q with
  |0=>simp at hp;subst hp;exact .kb _
  |1=>simp at hp;subst hp;exact .iv _ _ (.v _)
  |2=>simp at hp;subst hp;exact .iv _ _ (.v _)
  |q+3=>simp at hp
 ·have b0:(execOp a.eval o).run P w= .ok (.value (.tuple #[.bool false])) w:=by
   simp only[execOp,ho,e0];simp[Instr.next,getObj,Sem.run,d0,hp,Result.andThen]
  rw[b0];simp only[Oper.upon];refine hk M N ⟨(d, .bT [.kb false])::s.f,s.h,s.nx⟩ _ w (.refl _ _ _ _ _) ?_ (.inl ⟨by omega,rfl⟩);rw[hd]
  exact hf.put d _ _ f0 (.bT _ _ rfl fun j p hp=>by
    match j with
    |0=>simp at hp;subst hp;exact .kb _
    |j+1=>simp at hp)
theorem nW{all rest:List Oper}{o:Oper}{it:Operand}{i:Nat}{b:ByteArray}{a0 d:Nat}(ho:o.op= .next it true)(hg:o.guard=none)(b0:ev s.f it= .ptr i 0)(hi:s.h.get i=some (.eJ b a0))(hd:o.dst=some d)(hlt:Xi d nt=true)
  (h1:b.size<=a0->GO P nt (.ops all rest::k) Q ⟨(d, .bT [.kb false])::s.f,s.h,s.nx⟩)
  (h2:a0<b.size->GO P nt (.ops all rest::k) Q ⟨(d, .bT [.kb true, .iv (.v (.int .i64 (a0:Nat))), .iv (.v (.int .i32 (Utf8.decode b a0).1))])::s.f,(i,some (.eJ b (a0+(Utf8.decode b a0).2)))::s.h,s.nx⟩):
  GO P nt (.ops all (o::rest)::k) Q s:=by
 refine ep hg (Jv ho b0 hi hd hlt) fun t ht=>?_;rcases ht with⟨g1,rfl⟩|⟨g1,rfl⟩
 ·exact h1 g1
 ·exact h2 g1
theorem zX(d0:cz P ty){all rest:List Oper}{o:Oper}{x:Operand}{t d:Nat}{b:ByteArray}{e:cI}(ho:o.op= .range t x)(hg:o.guard=none)(ht:ty t=some e)(hk:e.k= .bb .string)(hx:ev s.f x= .iv (.v (.string b)))(hd:o.dst=some d)(hlt:Xi d nt=true)
  (h:GO P nt (.ops all rest::k) Q ⟨(d, .ptr s.nx 0)::s.f,(s.nx,some (.eJ b 0))::s.h,s.nx+1⟩):GO P nt (.ops all (o::rest)::k) Q s:=by
 have c0:P.underlying t=some .string:=by
  have:=(d0 t _ ht).2.1;rw[hk]at this;exact this.1
 refine ep (R:=fun t=>t=⟨(d, .ptr s.nx 0)::s.f,(s.nx,some (.eJ b 0))::s.h,s.nx+1⟩) hg (OT.value (s1:=newObj s (.eJ b 0)) (p:= .ptr s.nx 0) (by cases s;simp only[putDst,newObj,hd,hlt,cond_true,eF]) fun M N a w hf=>?_) fun t ht=>by subst ht;exact h
 have a0:=bf hf.2.1 x;rw[hx]at a0;have b0:a.eval x= .string b:=by
  generalize a.eval x=v at a0;cases a0 with
  |iv _ _ h=>cases h;rfl
 obtain⟨N',h1,h2,h3,h4,h5⟩:=hf.1.alloc (.stringIter b 0) (.eJ b 0) 0 (fun N' g1 g2 g3=>by
  show(w.alloc _).heap[N'.aI s.nx]? =_
  rw[g1];exact heap_alloc_new w _)
 refine⟨.pointer (some ⟨w.heap.size,0,none⟩),_,M,N',?_,h4,eV hf h4 h5,?_⟩
 ·simp only[execOp,ho,b0];simp[Instr.range,run_underlying c0]
 ·have:=VR.ptr (M:=M) (N:=N') (U:=(· <s.nx+1)) s.nx 0 (by omega);rw[h1]at this;exact this
end
end Go.Al
namespace Go.Proofs.YtflegjieadkonaaGreatDoor
open Go Go.Al Go.Proofs.Tryz
def L6(c:Nat):Bool:=(decide (97<=c)&&decide (c<=122))||((decide (65<=c)&&decide (c<=90))||((decide (48<=c)&&decide (c<=57))||decide (c=95)))
def okB(b:UInt8):Bool:=L6 b.toNat
def hd(s:aj):Int:=((s.data.toList.getD 0 0).toNat:Int)
def oV(s:aj)(lo hi:Int):Bool:=!decide (s=⟨#[]⟩)&&(decide (s.size<=32)&&(decide (lo<=hd s)&&(decide (hd s<=hi)&&s.data.toList.all okB)))
theorem J5{c:Nat}(h:L6 c=true):c<128:=by
 simp only[L6,XJ,Xg,decide_eq_true_eq]at h;omega
theorem FV{s:aj}(h: ¬s=⟨#[]⟩):0<s.size:=by
 refine Nat.pos_of_ne_zero fun h0=>h ?_;have:s.data= #[]:=Array.eq_empty_of_size_eq_zero h0;cases s;simp_all
theorem Wl(c:Nat):Pure prog 215 [.iv (.v (.int .i32 (c:Int)))] (pB (!L6 c)):=by
 refine ad ab func215 Z (by decide) ntmps215 Z (by simp) Z ?_
 repeat' (first|(refine gA Z (zI (fun _=>?_) (fun _=>?_)))|(refine gA Z (zL (.of_eq ?_))))
 all_goals(refine(fu ?_:pB _=pB _))
 all_goals(simp only[Zy,Zi,decide_eq_true_eq,decide_eq_false_iff_not] at*;rw[Xy];simp[L6];omega)
theorem Lo{s:aj}{i:Nat}(h:i<s.size)(hb:okB (s.data.toList.getD i 0)=true):Utf8.decode s i=((s.data.toList.getD i 0).toNat,1):=by
 have hg:(s[i]'h)=s.data.toList.getD i 0:=by
  have:i<s.data.toList.length:=by simpa using h
  rw[WU,WY this];simp;rfl
 have:=decode_ascii s i h (by rw[hg];exact J5 hb);rw[this,hg]
theorem SO{s:aj}{i:Nat}(h:i<s.size)(hb:okB (s.data.toList.getD i 0)=false):L6 (Utf8.decode s i).1=false:=by
 by_cases h1:(s.data.toList.getD i 0).toNat<128
 ·have hg:(s[i]'h)=s.data.toList.getD i 0:=by
   have:i<s.data.toList.length:=by simpa using h
   rw[WU,WY this];simp;rfl
  have:=decode_ascii s i h (by rw[hg];exact h1);rw[this,hg];exact hb
 ·have hg:(s.get! (i+0)).toNat=(s.data.toList.getD i 0).toNat:=by
   have:i<s.data.toList.length:=by simpa using h
   rw[WU,WY this];simp[ByteArray.get!,getElem!_pos,h]
  have:128<=(Utf8.decode s i).1:=by
   simp only[Utf8.decode,hg,be h1]
   repeat' split
   all_goals(dsimp only[Utf8.runeError];(try simp only[Xg,decide_eq_true_eq] at*);omega)
  cases hk:L6 (Utf8.decode s i).1 with
  |false=>rfl
  |true=>have:=J5 hk;omega
def Hb(s:aj):Int:=sQ (fun b=>!okB b) s.data.toList
theorem d217(s:aj):b8 prog 259 [pS s, .dr (.func 215) [] [],pB true] [] (pI (Hb s)) [] 0:=by
 have b0:s.data.toList.length=s.size:=by simp
 refine aE ab func259 Z (by decide) ntmps259 Z (by simp) ?_;refine gA Z ?_;refine zX ab Z Z Z Z Z Z Z ?_;refine gA Z ?_;refine aA 0 s.size (W3 _) (fun i=>⟨[(0,pS s),(1, .dr (.func 215) [] []),(2,pB true),(10, .ptr 0 0)],[(0,some (.eJ s i))],1⟩) (fun i=>(s.data.toList.take i).any (fun b=>!okB b)=false) [] (by simp)
  (zW ⟨⟨_,rfl, .of_eq Z⟩,WR Z,ac,ac⟩) fun i hi hJ=>?_
 refine gA Z ?_;refine nW Z Z Z Z Z Z (fun h1=>?_) (fun h1=>?_)
 ·have h2:s.data.toList.length<=i:=by omega
  rw[Hb,ib (any_none hJ h2)];refine gA Z (aC [] (by first|exact .inr Z|exact .inl Z) Z (zW ac))
 ·have a0:i<s.data.toList.length:=by omega
  have hg:s.data.toList.getD i default=s.data.toList.getD i 0:=rfl;refine gA Z (zp (Wl (Utf8.decode s i).1) ?_);refine gA Z (zI (fun h2=>?_) fun h2=>?_)
  ·have h2:L6 (Utf8.decode s i).1=false:=by simpa using h2
   have hb:okB (s.data.toList.getD i 0)=false:=by
    cases hk:okB (s.data.toList.getD i 0) with
    |false=>rfl
    |true=>
     rw[Lo h1 hk]at h2;exact absurd (hk.symm.trans h2) (by simp)
   rw[Hb,iL hJ a0 (by rw[hg,hb];rfl)];refine gA Z (aC [] (by first|exact .inr Z|exact .inl Z) Z (zW ac))
  ·have h2:L6 (Utf8.decode s i).1=true:=by simpa using h2
   have hb:okB (s.data.toList.getD i 0)=true:=by
    cases hk:okB (s.data.toList.getD i 0) with
    |true=>rfl
    |false=>exact absurd ((SO h1 hk).symm.trans h2) (by simp)
   have hd:=Lo h1 hb;refine gA Z ⟨h1,(bq hJ a0).2 (by rw[hg,hb];rfl),[],zW ⟨⟨_,rfl, .of_eq (by rw[hd];rfl)⟩,WR Z,ac,ac⟩⟩
theorem Pj(l:List UInt8):(l.any fun b=>!okB b)=!l.all okB:=by
 induction l with
 |nil=>rfl
 |cons x r ih=>simp only[ZS,ZT,ih];cases okB x<;>rfl
theorem d203(s:aj):b8 prog 242 [pS s, .dr (.func 215) [] []] [] (pI (Hb s)) [] 0:=by
 refine aE ab func242 Z (by decide) ntmps242 Z (by simp) ?_;refine gA Z (zq [] (d217 s) ?_);refine gA Z (aC [] (by first|exact .inr Z|exact .inl Z) Z (zW ac))
theorem d180(s:aj):b8 prog 214 [pS s, .dr (.func 215) [] []] [] (pB (!s.data.toList.all okB)) [] 0:=by
 refine aE ab func214 Z (by decide) ntmps214 Z (by simp) ?_;refine gA Z (zq [] (d203 s) ?_);refine gA Z (aC [] (by first|exact .inr Z|exact .inl Z) Z (zM ⟨.of_eq (fu ((ky _ _).trans (Pj _))),rfl,ac⟩ ac))
theorem Vb(s:aj)(lo hi:Int):Pure prog 187 [pS s, .iv (.v (.int .u8 lo)), .iv (.v (.int .u8 hi))] (pB (oV s lo hi)):=by
 refine ad ab func187 Z (by decide) ntmps187 Z (by simp) Z ?_;refine gA Z (zI (fun h1=>?_) fun h1=>?_);rotate_left
 ·have h1:s=⟨#[]⟩:=zT h1;refine gA Z (zL (.of_eq ?_));refine(fu ?_:pB _=pB _);subst h1;rfl
 have h1: ¬s=⟨#[]⟩:=zF h1;have hp:=FV h1;refine gA Z (zI (fun h2=>?_) fun h2=>?_);rotate_left
 ·have h2:32<s.size:=zN h2;refine gA Z (zL (.of_eq ?_));refine(fu ?_:pB _=pB _);have: ¬s.size<=32:=by omega
  simp[oV,this]
 have h2:s.size<=32:=by have:=zF h2;omega
 refine gA Z (zI (fun h3=>?_) fun h3=>?_);rotate_left
 ·have h3:hd s<lo:=zT h3;refine gA Z (zL (.of_eq ?_));refine(fu ?_:pB _=pB _);have: ¬lo<=hd s:=by omega
  simp[oV,this]
 have h3:lo<=hd s:=by have: ¬hd s<lo:=zF h3;omega
 refine gA Z (zI (fun h4=>?_) fun h4=>?_)
 ·have h4:hi<hd s:=zT h4;refine gA Z (zL (.of_eq ?_));refine(fu ?_:pB _=pB _);have: ¬hd s<=hi:=by omega
  simp[oV,this]
 have h4:hd s<=hi:=by have: ¬hd s>hi:=zF h4;omega
 refine gA Z (zq [] (d180 s) ?_);refine gA Z (zL (.of_eq ?_));refine(fu ?_:pB _=pB _);simp[oV,h1,h2,h3,h4]
def NW:List aj:=[⟨#[114,101,108,97,116,105,111,110]⟩,⟨#[110,111,116]⟩,⟨#[110,117,109]⟩,⟨#[115,121,109]⟩,⟨#[109,111,100]⟩,⟨#[99,111,117,110,116]⟩,⟨#[115,117,109]⟩,⟨#[109,105,110]⟩,⟨#[109,97,120]⟩]
def Cw(s:aj):Bool:=NW.any fun x=>decide (s=x)
def eh(s:aj):Bool:=!Cw s&&oV s 97 122
def dY(s:aj):Bool:=oV s 65 90
theorem Fz(s:aj):Pure prog 218 [pS s] (pB (dY s)):=by
 refine ad ab func218 Z (by decide) ntmps218 Z (by simp) Z ?_;refine gA Z (zp (Vb s 65 90) ?_);refine gA Z (zL (.of_eq ?_));rfl
theorem VO(s:aj):Pure prog 156 [pS s] (pB (eh s)):=by
 refine ad ab func156 Z (by decide) ntmps156 Z (by simp) Z ?_
 repeat' (first|(refine gA Z (zI (fun _=>?_) (fun _=>?_)))|(refine gA Z (zp (Vb s 97 122) ?_))|(refine gA Z (zL (.of_eq ?_))))
 all_goals(refine(fu ?_:pB _=pB _))
 all_goals(simp only[eh,Cw,NW,ZS,List.any_nil, *];rfl)
end Go.Proofs.YtflegjieadkonaaGreatDoor
namespace Go.Proofs.YtflegjieadkonaaGreatDoor
open Go Go.Al Go.Proofs.Tryz
theorem Rel.EP{M:Mem}{N:Nm}{U:Nat->Prop}{h h2:AH}{w:World}(hr:Rel M N U h w)(e: ∀i,AH.get h2 i=h.get i):Rel M N U h2 w:=
 ⟨hr.dF,fun i o hi=>hr.used i o (by rw[<-e];exact hi),fun i o hi=>hr.eK i o (by rw[<-e];exact hi),fun i o hi=>hr.obj i o (by rw[<-e];exact hi),fun i j o p hi hj=>hr.inj i j o p (by rw[<-e];exact hi) (by rw[<-e];exact hj)⟩
theorem Ext.EP{M M':Mem}{N N':Nm}{U U':Nat->Prop}{h0 h h2:AH}{w w':World}(hx:Ext M N U h0 w M' N' U' h w')(e: ∀i,AH.get h2 i=h.get i):Ext M N U h0 w M' N' U' h2 w':=
 ⟨hx.os,hx.tape,hx.output,hx.size,hx.jq,hx.rF,hx.jM,hx.nm,hx.ule,fun i o hi=>hx.iW i o (by rw[<-e];exact hi)⟩
structure WS where
 fr:Bool
 l:List UInt8
 bad:Bool
 br:Int
abbrev WS.ur(w:WS)(i j:Nat):AO:= .cells [.fv w.fr i, .sl j 0 w.l.length 1,pB w.bad,pI w.br] (some 247)
abbrev WS.c(w:WS):AO:=w.ur 0 1
abbrev WS.O(w:WS):List AO:=[w.c, .bG w.l 5]
abbrev WS.H(w:WS):AH:=[(0,some (w.ur 0 2)),(2,some (.bG w.l 5))]
theorem d204(w:WS):b8 prog 260 [.ptr 0 0] w.O (.bT []) [(0,some ({w with fr:=false}:WS).c),(1,some (.bG w.l 5))] 2:=by
 refine⟨bI func260 Z (by decide),fun M N wd vs hr c0 hv=>?_⟩;obtain⟨v,rfl⟩: ∃v,vs=[v]:=by
  cases vs with
  |nil=>cases c0
  |cons v r=>cases r with
   |nil=>exact⟨v,rfl⟩
   |cons a b=>simp at c0
 have i0:VR M N (· <2) (.ptr 0 0) v:=hv 0 _ Z;have j0:v= .pointer (some ⟨N.aI 0,0,none⟩):=by cases i0;rfl
 subst j0;have f0:AH.get (fk 0 w.O) 0=some w.c:=rfl;obtain⟨c,T,h1,h2,h3,h4,h5⟩:=hr.obj 0 _ f0;have hT:=h5 247 Z;subst hT;have e0:c.size=4:=h3.symm;have hlt:N.aI 0<wd.heap.size:=(Yd.1 h1).1;have g0:c.getD 0 undef= .pointer (bif w.fr then none else some ⟨N.aI 0,0,none⟩):=by
  have:=h4 0 _ Z;generalize c.getD 0 undef=x at this;cases this;rfl
 have a0:wd.cell? ⟨N.aI 0,0,none⟩=some (c.getD 0 undef):=by
  rw[Lib.cell_of_heap h1,WT,XS (by omega)];rfl
 rw[g0]at a0;show Calls prog 260 #[_] wd _;cases hfr:w.fr with
 |false=>
  rw[hfr]at a0;refine(O8 (N.aI 0) wd a0).mono ?_;rintro e w' ⟨rfl,rfl⟩;have hw:({w with fr:=false}:WS)=w:=by cases w;simp_all
  rw[hw];exact⟨_,M,N, .bT [],_,2,rfl,⟨rfl,rfl,rfl⟩, .refl _ _ _ _ _,hr, .bT [] #[] Z (by simp)⟩
 |true=>
  rw[hfr]at a0;refine(LB (N.aI 0) wd a0 (by simp[World.shape?,h1,e0]) (Lib.frozen_of_heap h1 0)).mono ?_;rintro e w' ⟨rfl,rfl⟩;have b0:(wd.setCell ⟨N.aI 0,0,none⟩ (.pointer (some ⟨N.aI 0,0,none⟩))).heap[N.aI 0]? =some (.cells (c.setIfInBounds 0 (.pointer (some ⟨N.aI 0,0,none⟩))) 247 (0,0)):=by
   simp[World.setCell,XR,h1]
  obtain⟨g1,g2⟩:=hr.write (i:=0) (o0:=w.c) f0 Z (wd.setCell ⟨N.aI 0,0,none⟩ (.pointer (some ⟨N.aI 0,0,none⟩))) ({w with fr:=false}:WS).c Z Z Z (by simp[World.setCell]) (fun b hb=>by
   simp only[World.setCell,XR]
   rw[be (fun e=>hb e.symm)]) ⟨_,247,b0,by simpa using h2,by simp[e0],fun j p hj=>by
    match j,hj with
    |0,hj=>
     cases hj;rw[WT,XG];simp only[if_true,e0];exact .fv false 0 (by show 0<2;decide)
    |j+1,hj=>
     have:=h4 (j+1) p (by exact hj);rw[WT,XG,be (by omega)];rw[WT]at this
     exact this,h5⟩
  have d0: ∀i,AH.get [(0,some ({w with fr:=false}:WS).c),(1,some (.bG w.l 5))] i=AH.get ((0,some ({w with fr:=false}:WS).c)::fk 0 w.O) i:=by
   intro i
   match i with
   |0=>rfl
   |1=>rfl
   |i+2=>rfl
  exact⟨_,M,N, .bT [],_,2,rfl,⟨rfl,rfl,rfl⟩,Ext.EP g1 d0,Rel.EP g2 d0, .bT [] #[] Z (by simp)⟩
theorem d150(w:WS):b8 prog 220 [.ptr 0 0] w.O (pS ⟨w.l.toArray⟩) [] 2:=by
 refine⟨bI func220 Z (by decide),fun M N wd vs hr b0 hv=>?_⟩;obtain⟨v,rfl⟩: ∃v,vs=[v]:=by
  cases vs with
  |nil=>cases b0
  |cons v r=>cases r with
   |nil=>exact⟨v,rfl⟩
   |cons a b=>simp at b0
 have p0:VR M N (· <2) (.ptr 0 0) v:=hv 0 _ Z;have r0:v= .pointer (some ⟨N.aI 0,0,none⟩):=by cases p0;rfl
 subst r0;have m0:AH.get (fk 0 w.O) 0=some w.c:=rfl;have g0:AH.get (fk 0 w.O) 1=some (.bG w.l 5):=rfl;obtain⟨c,T,h1,h2,h3,h4,h5⟩:=hr.obj 0 _ m0;have hT:=h5 247 Z;subst hT;have q0:c.size=4:=h3.symm;have k0: ∀(x1:Value),c.getD 1 undef=x1-> ∃p x y,c= #[p,x1,x,y]:=by
  intro x1 c0;refine⟨c.getD 0 undef,c.getD 2 undef,c.getD 3 undef,?_⟩;apply Array.ext
  ·simpa using q0
  ·intro i hi s0
   match i,hi with
   |0,hi=>simp[WT,hi]
   |1,hi=>rw[<-c0];simp[WT,hi]
   |2,hi=>simp[WT,hi]
   |3,hi=>simp[WT,hi]
   |i+4,hi=>omega
 have a0:=h4 1 _ Z;have i0:=hr.obj 1 _ g0;show Calls prog 220 #[_] wd _;by_cases hl:w.l=[]
 ·have c0:c.getD 1 undef= .slice none 0 0:=by
   generalize c.getD 1 undef=x at a0;rw[hl]at a0;generalize hq:PV.sl 1 0 ([]:List UInt8).length 1=q at a0;cases a0 with
   |sl i off len sz cap h h0 h1 hc he=>cases hq;simp at h0
   |ph i sz h=>rfl
   |_=>cases hq
  obtain⟨p,x,y,rfl⟩:=k0 _ c0;refine(SY (N.aI 0) p x y wd h1).mono ?_;rintro e w' ⟨rfl,rfl⟩;refine⟨.string ⟨#[]⟩,M,N,pS ⟨w.l.toArray⟩,[],2,rfl,⟨rfl,rfl,rfl⟩,?_,?_, .iv _ _ (by rw[hl];exact .v _)⟩
  ·have:=Ext.drew (M:=M) (N:=N) (U:=(· <w.O.length)) (h:=fk 0 w.O) (w:=wd);exact⟨this.os,this.tape,this.output,this.size,this.jq,this.rF,this.jM,this.nm,this.ule,fun i o hi=>(nomatch hi)⟩
  ·exact⟨hr.drew.dF,fun i o hi=>(nomatch hi),fun i o hi=>(nomatch hi),fun i o hi=>(nomatch hi),fun i j o p hi=>(nomatch hi)⟩
 ·have e0:0<w.l.length:=List.length_pos_iff.2 hl;obtain⟨cap,c0,f0,n0⟩: ∃cap,c.getD 1 undef= .slice (some ⟨N.aI 1,0,none⟩) w.l.length cap∧w.l.length<=cap∧cap<=maxLen:=by
   generalize c.getD 1 undef=x at a0;generalize hn:w.l.length=n at a0 e0;generalize hq:PV.sl 1 0 n 1=q at a0;cases a0 with
   |sl i off len sz cap h h0 hl hc he=>cases hq;exact⟨cap,by simp,hl,hc⟩
   |ph i sz h=>cases hq;omega
   |_=>cases hq
  rcases i0 with i0|⟨o0,q1,q2,q3,q4⟩
  ·exact absurd i0 hl
  obtain⟨p,x,y,rfl⟩:=k0 _ c0;refine(Pd (N.aI 0) (N.aI 1) cap p x y o0 w.l wd h1 q1 q3 f0 n0 q4 hl).mono ?_;rintro e w' ⟨rfl,rfl⟩;have j0:(AO.bG w.l 5).real=true:=by cases hll:w.l with
   |nil=>exact absurd hll hl
   |cons=>rfl
  have hk: ∀b,b≠N.aI 1->(wd.drew.freeze ⟨N.aI 1,0,none⟩ w.l.length).heap[b]? =wd.heap[b]? :=by
   intro b hb;unfold World.freeze;split
   ·rfl
   ·show(wd.heap.modify _ _)[b]? =_;simp only[XR];rw[be (fun e=>hb e.symm)]
  have d0:(wd.drew.freeze ⟨N.aI 1,0,none⟩ w.l.length).os=wd.os∧(wd.drew.freeze ⟨N.aI 1,0,none⟩ w.l.length).tape=wd.tape∧(wd.drew.freeze ⟨N.aI 1,0,none⟩ w.l.length).output=wd.output∧(wd.drew.freeze ⟨N.aI 1,0,none⟩ w.l.length).heap.size=wd.heap.size:=by
   unfold World.freeze;split
   ·exact⟨rfl,rfl,rfl,rfl⟩
   ·exact⟨rfl,rfl,rfl,by show(wd.heap.modify _ _).size=_;simp⟩
  refine⟨_,M,N,pS ⟨w.l.toArray⟩,[],2,rfl,⟨rfl,rfl,rfl⟩,?_,?_, .iv _ _ (.v _)⟩
  ·exact⟨d0.1,d0.2.1,d0.2.2.1,by rw[d0.2.2.2];exact W0 _,fun b hb hn=>hk b fun e=>hn 1 _ g0 j0 e.symm, .refl _,fun b c h1 h2=>by simp[h1]at h2, .refl _ _,fun _ h=>h,fun i o hi=>(nomatch hi)⟩
  ·refine⟨fun b d hb=>?_,fun i o hi=>(nomatch hi),fun i o hi=>(nomatch hi),fun i o hi=>(nomatch hi),fun i j o p hi=>(nomatch hi)⟩;have hne:b≠N.aI 1:=fun e=>by
    have:=hr.eK 1 _ g0 j0;rw[<-e,hb]at this;cases this
   exact(hr.dF b d hb).mono (hk b hne)
section
variable {nt:Nat} {Q:AQ} {k:List KI} {s:AS}
def wS(s:AS)(w':WS)(i j:Nat):AS:=match s with|⟨f,h,n⟩=>⟨f,(i,some (w'.ur i n))::(n,some (.bG w'.l 5))::(i,none)::(j,none)::h,n+1⟩
theorem Th(s:AS)(w':WS)(i j:Nat):wS s w' i j=⟨s.f,(i,some (w'.ur i s.nx))::(s.nx,some (.bG w'.l 5))::(i,none)::(j,none)::s.h,s.nx+1⟩:=by cases s;rfl
def Tg(s:AS)(w':WS)(i j m:Nat):AS:=match s with|⟨f,h,n⟩=>⟨f,(i,some (w'.ur i n))::(n,some (.bG w'.l 5))::(i,none)::(j,none)::(m,none)::h,n+1⟩
theorem Rl(s:AS)(w':WS)(i j m:Nat):Tg s w' i j m=⟨s.f,(i,some (w'.ur i s.nx))::(s.nx,some (.bG w'.l 5))::(i,none)::(j,none)::(m,none)::s.h,s.nx+1⟩:=by cases s;rfl
theorem BT{o:Oper}{c:Call}{g:FuncId}{args al:List PV}{w w':WS}{r:PV}{i j:Nat}{s':AS}(hc:b8 prog g (.ptr 0 0::args) w.O r w'.H 3)(ho:o.op= .call c)(ha:bK s.f c=some (g, .ptr i 0::al))
  (hi:s.h.get i=some (w.ur i j)) (hj:s.h.get j=some (.bG w.l 5)) (hlt:Xi i s.nx=true) (hlj:Xi j s.nx=true) (hne:Xn i j=false) (has:al=args) (hlow:bs 0 args=true) (hr:r.low 0=true)
  (hp:putDst nt o r (wS s w' i j)=some s'):OT prog nt o s (fun t=>t=s'):=by
 have b0:i≠j:=fun e=>by subst e;simp at hne
 have hnd:([i,j]:List Nat).Nodup:=by simp[b0]
 have hL: ∀x∈ [i,j],x<s.nx:=by
  intro x hx;simp only[Xb,Zs,or_false]at hx;rcases hx with rfl|rfl
  ·exact WR hlt
  ·exact WR hlj
 subst has;have a0: ∀σ,dS σ al=al:=fun σ=>iC σ al hlow;refine lv ho ha hc hnd hL ?_ ?_ ?_
 ·simp only[Xe,XN,hi,hj];rfl
 ·simp only[dS,a0];rfl
 ·rintro q h0 n0 ⟨rfl,rfl,rfl⟩;rw[PV.ju _ _ hr];rw[Th]at hp;exact⟨s',hp,rfl⟩
theorem Ux{all rest:List Oper}{o:Oper}{c:Call}{g:FuncId}{args al:List PV}{w w':WS}{r:PV}{i j:Nat}{s':AS}(hc:b8 prog g (.ptr 0 0::args) w.O r w'.H 3)(ho:o.op= .call c)(hg:o.guard=none)(ha:bK s.f c=some (g, .ptr i 0::al))
  (hi:s.h.get i=some (w.ur i j)) (hj:s.h.get j=some (.bG w.l 5)) (hlt:Xi i s.nx=true) (hlj:Xi j s.nx=true) (hne:Xn i j=false) (has:al=args) (hlow:bs 0 args=true) (hr:r.low 0=true)
  (hp:putDst nt o r (wS s w' i j)=some s') (h:GO prog nt (.ops all rest::k) Q s'):GO prog nt (.ops all (o::rest)::k) Q s:=
 ep hg (BT hc ho ha hi hj hlt hlj hne has hlow hr hp) fun t ht=>by subst ht;exact h
theorem jC{all rest:List Oper}{o:Oper}{c:Call}{g:FuncId}{args al:List PV}{w w':WS}{r:PV}{i j:Nat}{s':AS}(hc:b8 prog g (.ptr 0 0::args) w.O r w'.H 3)(h:GO prog nt (.ops all rest::k) Q s')(ho:o.op= .call c:=by exact rfl)(hg:o.guard=none:=by exact rfl)(ha:bK s.f c=some (g, .ptr i 0::al):=by exact rfl)(hi:s.h.get i=some (w.ur i j):=by exact rfl)(hj:s.h.get j=some (.bG w.l 5):=by exact rfl)(hlt:Xi i s.nx=true:=by exact rfl)(hlj:Xi j s.nx=true:=by exact rfl)(hne:Xn i j=false:=by exact rfl)(has:al=args:=by exact rfl)(hlow:bs 0 args=true:=by exact rfl)(hr:r.low 0=true:=by exact rfl)(hp:putDst nt o r (wS s w' i j)=some s':=by exact rfl):GO prog nt (.ops all (o::rest)::k) Q s:=Ux (hc:=hc) (ho:=ho) (hg:=hg) (ha:=ha) (hi:=hi) (hj:=hj) (hlt:=hlt) (hlj:=hlj) (hne:=hne) (has:=has) (hlow:=hlow) (hr:=hr) (hp:=hp) (h:=h)
theorem FF{o:Oper}{c:Call}{g:FuncId}{ss:List aj}{w w':WS}{i j m n:Nat}{s':AS}(hc:b8 prog g [.ptr 0 0, .sl 2 0 ss.length 1] [w.c, .bG w.l 5,aD 1 ss cW] (.bT []) [(0,some (w'.ur 0 3)),(3,some (.bG w'.l 5))] 4)(ho:o.op= .call c)(ha:bK s.f c=some (g,[.ptr i 0, .sl m 0 n 1]))
  (hi:s.h.get i=some (w.ur i j)) (hj:s.h.get j=some (.bG w.l 5)) (hm:s.h.get m=some (aD 1 ss cW)) (hn:n=ss.length) (hlt:Xi i s.nx=true) (hlj:Xi j s.nx=true) (hlm:Xi m s.nx=true) (hnd:bN [i,j,m]=true)
  (hp:putDst nt o (.bT []) (Tg s w' i j m)=some s'):OT prog nt o s (fun t=>t=s'):=by
 have hL: ∀x∈ [i,j,m],x<s.nx:=by
  intro x hx;simp only[Xb,Zs,or_false]at hx;rcases hx with rfl|rfl|rfl
  ·exact WR hlt
  ·exact WR hlj
  ·exact WR hlm
 subst hn;refine lv ho ha hc (dd hnd) hL ?_ Z ?_
 ·simp only[Xe,XN,hi,hj,hm,bC];rfl
 ·rintro q h0 n0 ⟨rfl,rfl,rfl⟩;rw[Rl]at hp;exact⟨s',hp,rfl⟩
theorem go_wp{all rest:List Oper}{o:Oper}{c:Call}{g:FuncId}{ss:List aj}{w w':WS}{i j m n:Nat}{s':AS}(hc:b8 prog g [.ptr 0 0, .sl 2 0 ss.length 1] [w.c, .bG w.l 5,aD 1 ss cW] (.bT []) [(0,some (w'.ur 0 3)),(3,some (.bG w'.l 5))] 4)(ho:o.op= .call c)(hg:o.guard=none)(ha:bK s.f c=some (g,[.ptr i 0, .sl m 0 n 1]))
  (hi:s.h.get i=some (w.ur i j)) (hj:s.h.get j=some (.bG w.l 5)) (hm:s.h.get m=some (aD 1 ss cW)) (hn:n=ss.length) (hlt:Xi i s.nx=true) (hlj:Xi j s.nx=true) (hlm:Xi m s.nx=true) (hnd:bN [i,j,m]=true)
  (hp:putDst nt o (.bT []) (Tg s w' i j m)=some s')
  (h:GO prog nt (.ops all rest::k) Q s'):GO prog nt (.ops all (o::rest)::k) Q s:=
 ep hg (FF hc ho ha hi hj hm hn hlt hlj hlm hnd hp) fun t ht=>by subst ht;exact h
theorem kA{all rest:List Oper}{o:Oper}{c:Call}{g:FuncId}{ss:List aj}{w w':WS}{i j m n:Nat}{s':AS}(hc:b8 prog g [.ptr 0 0, .sl 2 0 ss.length 1] [w.c, .bG w.l 5,aD 1 ss cW] (.bT []) [(0,some (w'.ur 0 3)),(3,some (.bG w'.l 5))] 4)(h:GO prog nt (.ops all rest::k) Q s')(ho:o.op= .call c:=by exact rfl)(hg:o.guard=none:=by exact rfl)(ha:bK s.f c=some (g,[.ptr i 0, .sl m 0 n 1]):=by exact rfl)(hi:s.h.get i=some (w.ur i j):=by exact rfl)(hj:s.h.get j=some (.bG w.l 5):=by exact rfl)(hm:s.h.get m=some (aD 1 ss cW):=by exact rfl)(hn:n=ss.length:=by exact rfl)(hlt:Xi i s.nx=true:=by exact rfl)(hlj:Xi j s.nx=true:=by exact rfl)(hlm:Xi m s.nx=true:=by exact rfl)(hnd:bN [i,j,m]=true:=by exact rfl)(hp:putDst nt o (.bT []) (Tg s w' i j m)=some s':=by exact rfl):GO prog nt (.ops all (o::rest)::k) Q s:=go_wp (hc:=hc) (ho:=ho) (hg:=hg) (ha:=ha) (hi:=hi) (hj:=hj) (hm:=hm) (hn:=hn) (hlt:=hlt) (hlj:=hlj) (hlm:=hlm) (hnd:=hnd) (hp:=hp) (h:=h)
theorem BB{all:List Oper}{todo pend:List (Nat×Oper)}{j':Nat}{CA C2:Prop}{o:Oper}{c:Call}{g:FuncId}{ss:List aj}{w w':WS}{i j m n:Nat}{s':AS}(hc:b8 prog g [.ptr 0 0, .sl 2 0 ss.length 1] [w.c, .bG w.l 5,aD 1 ss cW] (.bT []) [(0,some (w'.ur 0 3)),(3,some (.bG w'.l 5))] 4)
  (hrd:ey todo=[(j',o)]) (ho:o.op= .call c) (ha:bK s.f c=some (g,[.ptr i 0, .sl m 0 n 1]))
  (hi:s.h.get i=some (w.ur i j)) (hj:s.h.get j=some (.bG w.l 5)) (hm:s.h.get m=some (aD 1 ss cW)) (hn:n=ss.length) (hlt:Xi i s.nx=true) (hlj:Xi j s.nx=true) (hlm:Xi m s.nx=true) (hnd:bN [i,j,m]=true)
  (hp:putDst nt o (.bT []) (Tg s w' i j m)=some s')
  (hg:cC nt all s.f o=some true) (hpb:iD all pend o=true) (hE:n8 todo [j']=true)
  (hag:qC pn nt all s todo pend=some CA) (hCA:CA) (hag2:dD pn nt all s' (bg pend o)=some C2) (hC2:C2)
  (h:GO prog nt (.cJ all (todo.filter fun x=>!Xn x.1 j') (bg pend o)::k) Q s'):GO prog nt (.cJ all todo pend::k) Q s:=
 xR ab hrd hg hpb hE hag hCA (FF hc ho ha hi hj hm hn hlt hlj hlm hnd hp) hag2 hC2 h
theorem Uy{all:List Oper}{todo pend:List (Nat×Oper)}{j':Nat}{CA C2:Prop}{o:Oper}{c:Call}{g:FuncId}{args al:List PV}{w w':WS}{r:PV}{i j:Nat}{s':AS}(hc:b8 prog g (.ptr 0 0::args) w.O r w'.H 3)
  (hrd:ey todo=[(j',o)]) (ho:o.op= .call c) (ha:bK s.f c=some (g, .ptr i 0::al))
  (hi:s.h.get i=some (w.ur i j)) (hj:s.h.get j=some (.bG w.l 5)) (hlt:Xi i s.nx=true) (hlj:Xi j s.nx=true) (hne:Xn i j=false) (has:al=args) (hlow:bs 0 args=true) (hr:r.low 0=true)
  (hp:putDst nt o r (wS s w' i j)=some s')
  (hg:cC nt all s.f o=some true) (hpb:iD all pend o=true) (hE:n8 todo [j']=true)
  (hag:qC pn nt all s todo pend=some CA) (hCA:CA) (hag2:dD pn nt all s' (bg pend o)=some C2) (hC2:C2)
  (h:GO prog nt (.cJ all (todo.filter fun x=>!Xn x.1 j') (bg pend o)::k) Q s'):GO prog nt (.cJ all todo pend::k) Q s:=
 xR ab hrd hg hpb hE hag hCA (BT hc ho ha hi hj hlt hlj hne has hlow hr hp) hag2 hC2 h
theorem yM{all:List Oper}{todo pend:List (Nat×Oper)}{j':Nat}{CA C2:Prop}{o:Oper}{c:Call}{g:FuncId}{args al:List PV}{w w':WS}{r:PV}{i j:Nat}{s':AS}(hc:b8 prog g (.ptr 0 0::args) w.O r w'.H 3)(h:GO prog nt (.cJ all (todo.filter fun x=>!Xn x.1 j') (bg pend o)::k) Q s')(hrd:ey todo=[(j',o)]:=by exact rfl)(ho:o.op= .call c:=by exact rfl)(ha:bK s.f c=some (g, .ptr i 0::al):=by exact rfl)(hi:s.h.get i=some (w.ur i j):=by exact rfl)(hj:s.h.get j=some (.bG w.l 5):=by exact rfl)(hlt:Xi i s.nx=true:=by exact rfl)(hlj:Xi j s.nx=true:=by exact rfl)(hne:Xn i j=false:=by exact rfl)(has:al=args:=by exact rfl)(hlow:bs 0 args=true:=by exact rfl)(hr:r.low 0=true:=by exact rfl)(hp:putDst nt o r (wS s w' i j)=some s':=by exact rfl)(hg:cC nt all s.f o=some true:=by exact rfl)(hpb:iD all pend o=true:=by exact rfl)(hE:n8 todo [j']=true:=by exact rfl)(hag:qC pn nt all s todo pend=some CA:=by exact rfl)(hCA:CA:=by(repeat' (first|exact ac|exact rfl|exact aH.refl _|exact aH.bk (by assumption)|apply XA))<;>first|omega|(simp only[Xp];omega)|(simp;done)|(simp;omega))(hag2:dD pn nt all s' (bg pend o)=some C2:=by exact rfl)(hC2:C2:=by(repeat' (first|exact ac|exact rfl|exact aH.refl _|exact aH.bk (by assumption)|apply XA))<;>first|omega|(simp only[Xp];omega)|(simp;done)|(simp;omega)):GO prog nt (.cJ all todo pend::k) Q s:=Uy (hc:=hc) (hrd:=hrd) (ho:=ho) (ha:=ha) (hi:=hi) (hj:=hj) (hlt:=hlt) (hlj:=hlj) (hne:=hne) (has:=has) (hlow:=hlow) (hr:=hr) (hp:=hp) (hg:=hg) (hpb:=hpb) (hE:=hE) (hag:=hag) (hCA:=hCA) (hag2:=hag2) (hC2:=hC2) (h:=h)
theorem Lb{l:List ResultVar}{r r0 a b c d:PV}{e:Exit}{w':WS}{j n:Nat}(he:e= .normal∨e= .ret)(hr:lS pn s l=some r0)(hi:s.h.get 0=some (.cells [a,b,c,d] (some 247)))(ha:a= .fv w'.fr 0)(hb:b= .sl j 0 n 1)(hn:n=w'.l.length)(hc:aH c (pB w'.bad))(hd:aH d (pI w'.br))
  (hj:s.h.get j=some (.bG w'.l 5)) (hlj:Xi j s.nx=true) (hne:Xn 0 j=false) (hns:YQ 2 s.nx=true)
  (hrl:aH r0 r) (hlow:r.low 0=true) (hlow3:r.low 3=true):Ei pn l 2 r w'.H 3 e s:=by
 subst ha;subst hb;subst hn;refine aC [j] he hr ⟨rfl,WR hns,fun x hx=>?_,⟨?_,hlow3,ac⟩,⟨⟨_,hi, .cells ⟨.refl _, .refl _,hc,hd,ac⟩⟩,WR Z,rfl,⟨.bG w'.l 5,hj, .of_eq Z⟩,WR Z,ac,ac⟩,?_⟩
 ·simp only[W5]at hx;subst hx;exact WR hlj
 ·rw[PV.ju _ _ hlow];exact hrl
 ·have:(0:Nat)≠j:=fun e=>by subst e;simp at hne
  show([0,j]:List Nat).Nodup;simpa using this
theorem kh{l:List ResultVar}{r r0 a b c d:PV}{e:Exit}{w':WS}{j n:Nat}(he:e= .normal∨e= .ret:=by first|exact .inr Z|exact .inl Z)(hr:lS pn s l=some r0:=by exact rfl)(hi:s.h.get 0=some (.cells [a,b,c,d] (some 247)):=by exact rfl)(ha:a= .fv w'.fr 0:=by exact rfl)(hb:b= .sl j 0 n 1:=by exact rfl)(hn:n=w'.l.length:=by exact rfl)(hc:aH c (pB w'.bad):=by first|exact .refl _|exact .kb _)(hd:aH d (pI w'.br):=by first|exact .refl _|exact .kb _)(hj:s.h.get j=some (.bG w'.l 5):=by exact rfl)(hlj:Xi j s.nx=true:=by exact rfl)(hne:Xn 0 j=false:=by exact rfl)(hns:YQ 2 s.nx=true:=by exact rfl)(hrl:aH r0 r:=by exact .refl _)(hlow:r.low 0=true:=by exact rfl)(hlow3:r.low 3=true:=by exact rfl):Ei pn l 2 r w'.H 3 e s:=Lb (he:=he) (hr:=hr) (hi:=hi) (ha:=ha) (hb:=hb) (hn:=hn) (hc:=hc) (hd:=hd) (hj:=hj) (hlj:=hlj) (hne:=hne) (hns:=hns) (hrl:=hrl) (hlow:=hlow) (hlow3:=hlow3)
theorem Vt{n0 j m:Nat}{tf:AF}{w w':WS}{a b c d:PV}(hw:w=w')(hi:s.h.get 0=some (.cells [a,b,c,d] (some 247)))(ha:a= .fv w.fr 0)(hb:b= .sl j 0 m 1)(hm:m=w.l.length)(hc:aH c (pB w.bad))(hd:aH d (pI w.br))(hj:s.h.get j=some (.bG w.l 5))
  (hlj:Xi j s.nx=true) (hne:Xn 0 j=false) (h0:Xi 0 n0=true) (hns:YQ n0 s.nx=true) (hf:FI (n0+1) (sg n0 [j]) s.f tf):Wk n0 [j] s ⟨tf,[(0,some (w'.ur 0 n0)),(n0,some (.bG w'.l 5))],n0+1⟩:=by
 subst hw;subst ha;subst hb;subst hm;have a0:0<n0:=WR h0;have s0:sg n0 [j] 0=0:=gh a0;have b0:Xi n0 n0=false:=X7.2 fun e=>absurd (WR e) (by omega);have b1:Xi 0 (n0+1)=true:=XB (by omega);have b2:Xi n0 (n0+1)=true:=XB (by omega);have s1:sg n0 [j] n0=j:=by simp[sg,b0]
 refine⟨rfl,WR hns,fun x hx=>?_,hf,⟨⟨_,by rw[s0];exact hi,?_⟩,YS a0,?_,⟨.bG w.l 5,by rw[s1];exact hj, .of_eq Z⟩,YC _,ac,ac⟩,?_⟩
 ·simp only[W5]at hx;subst hx;exact WR hlj
 ·simp only[AO.c7,dS,PV.c7,s0,s1];exact .cells ⟨.refl _, .refl _,hc,hd,ac⟩
 ·simp[AO.low,bs,PV.low,b1,b2]
 ·have:(0:Nat)≠j:=fun e=>by subst e;simp at hne
  simp only[ef,s0,s1];simpa using this
theorem th{n0 j m:Nat}{tf:AF}{w w':WS}{a b c d:PV}(hw:w=w')(hi:s.h.get 0=some (.cells [a,b,c,d] (some 247)):=by exact rfl)(ha:a= .fv w.fr 0:=by exact rfl)(hb:b= .sl j 0 m 1:=by exact rfl)(hm:m=w.l.length:=by exact rfl)(hc:aH c (pB w.bad):=by first|exact .refl _|exact .kb _)(hd:aH d (pI w.br):=by first|exact .refl _|exact .kb _)(hj:s.h.get j=some (.bG w.l 5):=by exact rfl)(hlj:Xi j s.nx=true:=by exact rfl)(hne:Xn 0 j=false:=by exact rfl)(h0:Xi 0 n0=true:=by exact rfl)(hns:YQ n0 s.nx=true:=by exact rfl)(hf:FI (n0+1) (sg n0 [j]) s.f tf:=by repeat' (first|exact ac|exact aH.refl _|exact rfl|apply XA)):Wk n0 [j] s ⟨tf,[(0,some (w'.ur 0 n0)),(n0,some (.bG w'.l 5))],n0+1⟩:=Vt (hw:=hw) (hi:=hi) (ha:=ha) (hb:=hb) (hm:=hm) (hc:=hc) (hd:=hd) (hj:=hj) (hlj:=hlj) (hne:=hne) (h0:=h0) (hns:=hns) (hf:=hf)
end
end Go.Proofs.YtflegjieadkonaaGreatDoor
namespace Go.Proofs.YtflegjieadkonaaGreatDoor
open Go Go.Al Go.Proofs.Tryz
def A7(w:WS)(s:aj):WS:=⟨false,w.l++s.data.toList,w.bad,w.br⟩
theorem d183(w:WS)(s:aj)(hb:w.l.length+s.size<=140737488355328):b8 prog 243 [.ptr 0 0,pS s] w.O (.bT [pI s.size, .iv (.v .nilIface)]) (A7 w s).H 3:=by
 refine aE ab func243 Z (by decide) ntmps243 Z (by simp) ?_;refine gA Z (zq [0,1] (d204 w) ?_);refine gA Z ?_;refine ON ab Z Z Z Z Z Z Z Z Z Z Z Z Z Z Z Z hb ?_;refine gA Z kh
def aV(w:WS)(b:Bool):WS:=⟨w.fr,w.l,w.bad||!b,w.br⟩
theorem Ot(w:WS){b:Bool}(h:(!b)=false):aV w b=w:=by cases w;simp_all [aV]
theorem Ou(w:WS){b:Bool}(h:(!b)=true):aV w b=⟨w.fr,w.l,true,w.br⟩:=by cases w;simp_all [aV]
theorem d146(w:WS)(b:Bool):b8 prog 216 [.ptr 0 0,pB b] w.O (.bT []) (aV w b).H 3:=by
 refine aE ab func216 Z (by decide) ntmps216 Z (by simp) ?_;refine gA Z (zI (fun h=>?_) fun h=>?_)
 ·rw[Ou w h];refine gA Z kh
 ·rw[Ot w h];refine gA Z kh
def a7(w:WS)(ss:List aj):WS:=ss.foldl A7 w
def gq(ss:List aj):Nat:=(ss.map ZM).sum
theorem JU(w:WS)(s:aj):(A7 w s).l.length=w.l.length+s.size:=by simp[A7]
theorem kr: ∀(ss:List aj) (w:WS),(a7 w ss).l.length=w.l.length+gq ss
 | [],w=>by simp[a7,gq]
 |s::r,w=>by
  have:=kr r (A7 w s);simp only[a7,Xq]at this ⊢;rw[this,JU];simp[gq];omega
theorem xe: ∀(ss:List aj) (i:Nat),i<ss.length->gq (ss.take i)+(ss.getD i default).size<=gq ss
 | [],i,h=>by simp at h
 |s::r,0,_=>by simp[gq]
 |s::r,i+1,h=>by
  have:=xe r i (by simpa using h);simp[gq]at this ⊢;omega
theorem d147(w:WS)(ss:List aj)(hl:ss.length<=1000)(hb:w.l.length+gq ss<=140737488355328):b8 prog 217 [.ptr 0 0, .sl 2 0 ss.length 1] [w.c, .bG w.l 5,aD 1 ss cW] (.bT []) [(0,some ((a7 w ss).ur 0 3)),(3,some (.bG (a7 w ss).l 5))] 4:=by
 refine aE ab func217 Z (by decide) ntmps217 Z (by simp) ?_;refine gA Z ?_;refine BA 2 (fun k=>cW (ss.getD k default)) Z (cX Z) (by simp[AF.rD,PV.bH,qx]) ⟨(by simp[AO.rD,dw,PV.bH]),ac,pA _ _ _ _ _ _,ac⟩ ?_;refine aA 0 ss.length (W3 _) (fun i=>⟨[(0, .ptr 0 0),(6, .iv (strs ss)),(7,pI ss.length),(8,pI i)],[(0,some ((a7 w (ss.take i)).ur 0 3)),(3,some (.bG (a7 w (ss.take i)).l 5))],4⟩) (fun _=>True) [1] ac
  (zM (bv ⟨.dq Z (fun k _=>by rw[Xk]),rfl,bv (bv trivial)⟩) ⟨⟨_,rfl, .of_eq Z⟩,WR Z,rfl,⟨_,rfl, .of_eq Z⟩,WR Z,ac,ac⟩) fun i hi _=>?_
 refine gA Z (zI (fun h1=>?_) fun h1=>?_)
 ·have h1:i<ss.length:=zN h1;have hs:a7 w (ss.take (i+1))=A7 (a7 w (ss.take i)) (ss.getD i default):=cR (g:=A7) (b:=w) h1;have a0:=kr (ss.take i) w;have hz:=xe ss i h1;refine gA Z (jC (d183 (a7 w (ss.take i)) (ss.getD i default) (by omega)) ?_);refine gA Z ⟨h1,ac,[4],zW ⟨⟨_,rfl, .of_eq (by rw[hs];rfl)⟩,WR Z,rfl,⟨_,rfl, .of_eq (by rw[hs];rfl)⟩,WR Z,ac,ac⟩⟩
 ·have h1:ss.length<=i:=zG h1;rw[W2 h1];refine gA Z (aC [3] (by first|exact .inr Z|exact .inl Z) Z (zW ⟨⟨_,rfl, .of_eq Z⟩,WR Z,rfl,⟨_,rfl, .of_eq Z⟩,WR Z,ac,ac⟩))
end Go.Proofs.YtflegjieadkonaaGreatDoor
namespace Go.Proofs
open Go.Shelf
def Tryz.Bk:Go.Shelf.Ren:=⟨fun|171=>273|243=>285|246=>297|283=>302|284=>303|285=>304|286=>305|129=>153|317=>307|318=>308|319=>309|320=>310|337=>311|338=>312|n=>n,fun|3=>3|9=>9|2=>2|4=>4|171=>337|0=>0|53=>205|37=>243|5=>5|173=>339|212=>343|51=>203|20=>20|213=>344|46=>179|232=>345|233=>346|n=>n,fun|17=>0|18=>1|19=>2|n=>n⟩
theorem Tryz.Kp:Go.Proofs.LaysM.n171 Tryz.prog Tryz.Bk:={
 mixed:=by kernel_rfl
 f129:=Tryz.func153.trans (congrArg some (by kernel_rfl))
 f171:=Tryz.func273.trans (congrArg some (by kernel_rfl))
 f243:=Tryz.func285.trans (congrArg some (by kernel_rfl))
 f246:=Tryz.func297.trans (congrArg some (by kernel_rfl))
 f283:=Tryz.func302.trans (congrArg some (by kernel_rfl))
 f284:=Tryz.func303.trans (congrArg some (by kernel_rfl))
 f285:=Tryz.func304.trans (congrArg some (by kernel_rfl))
 f286:=Tryz.func305.trans (congrArg some (by kernel_rfl))
 f317:=Tryz.func307.trans (congrArg some (by kernel_rfl))
 f318:=Tryz.func308.trans (congrArg some (by kernel_rfl))
 f319:=Tryz.func309.trans (congrArg some (by kernel_rfl))
 f320:=Tryz.func310.trans (congrArg some (by kernel_rfl))
 f337:=Tryz.func311.trans (congrArg some (by kernel_rfl))
 f338:=Tryz.func312.trans (congrArg some (by kernel_rfl))
 t0:=Tryz.underlying0
 a0:=Tryz.isAgg0
 z0:=Tryz.sizeOf0
 v0:=Tryz.zeroValue0
 t2:=Tryz.underlying2
 a2:=Tryz.isAgg2
 z2:=Tryz.sizeOf2
 v2:=Tryz.zeroValue2
 t3:=Tryz.underlying3
 a3:=Tryz.isAgg3
 z3:=Tryz.sizeOf3
 v3:=Tryz.zeroValue3
 t4:=Tryz.underlying4
 a4:=Tryz.isAgg4
 z4:=Tryz.sizeOf4
 v4:=Tryz.zeroValue4
 t5:=Tryz.underlying5
 a5:=Tryz.isAgg5
 z5:=Tryz.sizeOf5
 v5:=Tryz.zeroValue5
 t9:=Tryz.underlying9
 a9:=Tryz.isAgg9
 z9:=Tryz.sizeOf9
 v9:=Tryz.zeroValue9
 t20:=Tryz.underlying20
 a20:=Tryz.isAgg20
 z20:=Tryz.sizeOf20
 v20:=Tryz.zeroValue20
 t37:=Tryz.underlying243
 a37:=Tryz.isAgg243
 z37:=Tryz.sizeOf243
 v37:=Tryz.zeroValue243
 t46:=Tryz.underlying179
 a46:=Tryz.isAgg179
 z46:=Tryz.sizeOf179
 v46:=Tryz.zeroValue179
 t51:=Tryz.underlying203
 a51:=Tryz.isAgg203
 z51:=Tryz.sizeOf203
 v51:=Tryz.zeroValue203
 t53:=Tryz.underlying205
 a53:=Tryz.isAgg205
 z53:=Tryz.sizeOf205
 v53:=Tryz.zeroValue205
 t171:=Tryz.underlying337
 a171:=Tryz.isAgg337
 z171:=Tryz.sizeOf337
 v171:=Tryz.zeroValue337
 t173:=Tryz.underlying339
 a173:=Tryz.isAgg339
 z173:=Tryz.sizeOf339
 v173:=Tryz.zeroValue339
 t212:=Tryz.underlying343
 a212:=Tryz.isAgg343
 z212:=Tryz.sizeOf343
 v212:=Tryz.zeroValue343
 t213:=Tryz.underlying344
 a213:=Tryz.isAgg344
 z213:=Tryz.sizeOf344
 t232:=Tryz.underlying345
 a232:=Tryz.isAgg345
 z232:=Tryz.sizeOf345
 v232:=Tryz.zeroValue345
 t233:=Tryz.underlying346
 a233:=Tryz.isAgg346
 z233:=Tryz.sizeOf346
 v233:=Tryz.zeroValue346
 g17:=by kernel_rfl
 g18:=by kernel_rfl
 g19:=by kernel_rfl
 i0:=by kernel_rfl
 i2:=by kernel_rfl
 i3:=by kernel_rfl
 i4:=by kernel_rfl
 i5:=by kernel_rfl
 i9:=by kernel_rfl
 i20:=by kernel_rfl
 i37:=by kernel_rfl
 i46:=by kernel_rfl
 i51:=by kernel_rfl
 i53:=by kernel_rfl
 i171:=by kernel_rfl
 i173:=by kernel_rfl
 i212:=by kernel_rfl
 i232:=by kernel_rfl
 i233:=by kernel_rfl
 m17:=by kernel_rfl
 m18:=by kernel_rfl
 m19:=by kernel_rfl}
theorem YtflegjieadkonaaGreatDoor.Us (n:Int) (h0: -9223372036854775808<=n) (h1:n<=9223372036854775807) (w:World) (a0:Lib.TabIs Tryz.prog w "internal/strconv.uint64pow10" .u64 Lib.pow10Tab):
  Calls Tryz.prog 273 #[.int .i64 n] w fun e w'=>e= .returned (.string ⟨(Lib.itoa n).toArray⟩)∧ ∃k os,w'=Go.Sort.grow (w.drewN k) os:=Any.strconv_Itoa Tryz.Kp n h0 h1 w a0
end Go.Proofs
namespace Go.Proofs.YtflegjieadkonaaGreatDoor
open Go Go.Al
theorem VC:Tryz.prog.globalNamed "internal/strconv.uint64pow10" =some 0:=by kernel_rfl
theorem pow_eq:sA=Lib.pow10Tab:=by decide
theorem Vv{M:Mem}{N:Nm}{U:Nat->Prop}{h:AH}{w:World}(hr:Rel M N U h w):Lib.TabIs Tryz.prog w "internal/strconv.uint64pow10" .u64 Lib.pow10Tab:=by
 obtain⟨T,fr,h1⟩:=hr.dF 0 _ (M.OV 0 _ Z);show World.var? _ _ _=_;simp only[World.var?,VC,ZW,h1,pow_eq]
theorem UX(n:Int)(h0: -9223372036854775808<=n)(h1:n<=9223372036854775807):Pure Tryz.prog 273 [pI n] (pS ⟨(Lib.itoa n).toArray⟩):=by
 refine⟨bI Tryz.func273 Z (by decide),fun M N w vs hr a0 hv=>?_⟩;obtain⟨v,rfl⟩: ∃v,vs=[v]:=by
  cases vs with
  |nil=>cases a0
  |cons v r=>cases r with
   |nil=>exact⟨v,rfl⟩
   |cons a b=>simp at a0
 have b0:VR M N (· <0) (pI n) v:=hv 0 _ Z;have c0:v= .int .i64 n:=by
  cases b0 with
  |iv _ _ h=>cases h;rfl
 subst c0;refine(Us n h0 h1 w (Vv hr)).mono ?_;rintro e w' ⟨rfl,k,os,rfl⟩;have hk: ∀b,b<w.heap.size->(Go.Sort.grow (w.drewN k) os).heap[b]? =w.heap[b]? :=fun b hb=>by
  show(w.heap++os)[b]? =_;rw[X8 hb]
 refine⟨_,M,N,pS ⟨(Lib.itoa n).toArray⟩,[],0,rfl,⟨rfl,rfl,rfl⟩,⟨rfl,rfl,rfl,?_,fun b hb _=>hk b hb, .refl _,fun b c h1 h2=>(nomatch (h1.symm.trans h2)), .refl _ _,fun _ h=>h,fun i o hi=>(nomatch hi)⟩,⟨fun b c hb=>?_,fun i o hi=>(nomatch hi),fun i o hi=>(nomatch hi),fun i o hi=>(nomatch hi),fun i j o p hi=>(nomatch hi)⟩, .iv _ _ (.v _)⟩
 ·show w.heap.size<=(w.heap++os).size;simp
 ·exact(hr.dF b c hb).mono (hk b (hr.dF b c hb).lt)
end Go.Proofs.YtflegjieadkonaaGreatDoor
namespace Go.Al
section
variable {P:Program} {ty:Ty} {nt:Nat} {s:AS} {Q:AQ} {k:List KI}
theorem Ii(g0:cz P ty){all rest:List Oper}{o:Oper}{x:Operand}{t t' u d:Nat}{b:ByteArray}{et m0 eu:cI}(ho:o.op= .convert t t' x)(hg:o.guard=none)(ht:ty t=some et)(hk:et.k= .bb .string)(r0:ty t'=some m0)(p0:m0.k= .bb (.slice u))(hu:ty u=some eu)(t0:eu.k= .bb (.int .u8))
  (hx:ev s.f x= .iv (.v (.string b))) (hd:o.dst=some d) (hlt:Xi d nt=true) (hb:b.size<=1000000)
  (h:GO P nt (.ops all rest::k) Q ⟨(d, .iv (.dq 1 b.data.toList.length fun k=>ye (b.data.toList.getD k default)))::s.f,s.h,s.nx⟩):GO P nt (.ops all (o::rest)::k) Q s:=by
 have hs:P.underlying t=some .string:=by have:=(g0 t _ ht).2.1;rw[hk]at this;exact this.1
 have v0:P.underlying t'=some (.slice u):=by have:=(g0 t' _ r0).2.1;rw[p0]at this;exact this.1
 have s0:P.underlying u=some (.int .u8):=by have:=(g0 u _ hu).2.1;rw[t0]at this;exact this.1
 refine ep (R:=fun t=>t=⟨(d, .iv (.dq 1 b.data.toList.length fun k=>ye (b.data.toList.getD k default)))::s.f,s.h,s.nx⟩) hg (OT.value (s1:=s) (p:= .iv (.dq 1 b.data.toList.length fun k=>ye (b.data.toList.getD k default))) (by cases s;simp only[putDst,hd,hlt,cond_true,eF]) fun M N a w hf=>?_) fun t ht=>by subst ht;exact h
 have f0:=bf hf.2.1 x;rw[hx]at f0;have q0:a.eval x= .string b:=by
  generalize a.eval x=v at f0;cases f0 with
  |iv _ _ h=>cases h;rfl
 have e0:=Go.run_bytes_of_string (P:=P) w t t' u b hs v0 s0;generalize hC:bytesRow b (grownCap w b.size 0 u)=C at e0;have d0:M w.heap.size=none:=by
  cases hm:M w.heap.size with
  |none=>rfl
  |some c=>exact absurd (hf.1.dF _ _ hm).lt (ZU _)
 have c0: ∀c,c<w.heap.size->(w.drew.alloc (.cells C u (C.size,C.size+1))).heap[c]? =w.heap[c]? :=fun c hc=>by
  show(w.heap.push _)[c]? =_;rw[Zh,be (by omega)]
 have hnew:(w.drew.alloc (.cells C u (C.size,C.size+1))).heap[w.heap.size]? =some (.cells C u (C.size,C.size+1)):=by
  show(w.heap.push _)[w.heap.size]? =_;simp
 have k0: ∀j,j<b.data.toList.length->C[j]? =some (.int .u8 ((b.data.toList.getD j default).toNat:Int)):=by
  intro j hj;have j0:j<b.data.size:=by simpa using hj
  rw[<-hC];simp only[bytesRow];rw[X8 (by simpa using j0)];simp[WU];exact⟨b.data[j],XS j0,by rw[XS j0];rfl⟩
 have b0:=grownCap_ge w b.size 0 u;refine⟨.slice (some ⟨w.heap.size,0,none⟩) b.size (grownCap w b.size 0 u),w.drew.alloc (.cells C u (C.size,C.size+1)),M.set w.heap.size (.cells C) d0,N,?_,?_,?_,?_⟩
 ·simp only[execOp,ho,q0];rw[Sem.run_bind,e0];rfl
 ·have q1:M.le (M.set w.heap.size (.cells C) d0):=fun c e hc=>by
   simp only[Mem.set];rw[be fun e2=>by rw[e2,d0]at hc;cases hc];exact hc
  have q2: ∀c e,M c=none->(M.set w.heap.size (.cells C) d0) c=some e->w.heap.size<=c∨ ∃i o,s.h.get i=some o∧o.real=true∧N.aI i=c:=fun c e h1 h2=>by
   simp only[Mem.set]at h2;by_cases he:c=w.heap.size
   ·exact .inl (by omega)
   ·rw[be he,h1]at h2;cases h2
  exact⟨rfl,rfl,rfl,(by show w.heap.size<=(w.heap.push _).size;simp),fun c hc _=>c0 c hc,q1,q2, .refl _ _,fun _ h=>h,fun i o hi a0=> .inr ⟨i,o,hi,a0,rfl⟩⟩
 ·have n0:M.le (M.set w.heap.size (.cells C) d0):=fun c e hc=>by
   simp only[Mem.set];rw[be fun e2=>by rw[e2,d0]at hc;cases hc];exact hc
  refine⟨⟨fun c e hc=>?_,hf.1.used,fun i o hi a0=>?_,fun i o hi=>?_,hf.1.inj⟩,fun i=>(hf.2.1 i).mono n0 (.refl _ _) fun _ h=>h,hf.2.2⟩
  ·simp only[Mem.set]at hc;by_cases he:c=w.heap.size
   ·rw[am he]at hc;cases hc;exact⟨u,(C.size,C.size+1),by rw[he];exact hnew⟩
   ·rw[be he]at hc;exact(hf.1.dF c e hc).mono (c0 c (hf.1.dF c e hc).lt)
  ·simp only[Mem.set];have:=hf.1.lt hi a0;rw[be (by omega)];exact hf.1.eK i o hi a0
  ·cases a0:o.real with
   |true=>exact(hf.1.obj i o hi).mono n0 (.refl _ _) (fun _ h=>h) (hf.1.used i o hi) (c0 _ (hf.1.lt hi a0))
   |false=>
    cases o with
    |row sz es=>cases es with
     |nil=>exact .inl Z
     |cons=>cases a0
    |bG l T=>cases l with
     |nil=>exact .inl Z
     |cons=>cases a0
    |_=>cases a0
 ·have o0:b.data.toList.length=b.size:=by simp
  rw[<-o0]at b0 ⊢;by_cases h0:b.data.toList.length=0
  ·rw[h0];exact .iv _ _ (.kQ _ _ _ _)
  ·refine .iv _ _ (.dq _ _ _ _ _ _ (by omega) (grownCap_le_maxLen w _ _ _ (by simp only[maxLen];omega)) (fun _ _=>rfl) (fun k j hk hj=>?_) (fun k j p hk hp=>?_))
   ·have i0:j=0:=by omega
    subst i0;have:=k0 k hk;simp only[Mem.cell,Mem.set,if_true,Xk,ZQ,Y8,this,Option.isSome_some]
   ·have i0:j=0:=by
     have:=(WX.1 hp).1;simp[ye]at this;exact this
    subst i0;cases hp;have:=k0 k hk;simp only[Mem.cell,Mem.set,if_true,Xk,ZQ,Y8,this,Yl];exact .v _
theorem OU(d0:cz P ty)(l:List UInt8){all rest:List Oper}{o:Oper}{x:Operand}{t t' u d i n:Nat}{es:List (List PV)}{et g0 eu:cI}(ho:o.op= .convert t t' x)(hg:o.guard=none)(ht:ty t=some et)(hk:et.k= .bb (.slice u))(n0:ty t'=some g0)(k0:g0.k= .bb .string)(hu:ty u=some eu)(p0:eu.k= .bb (.int .u8))
  (hx:ev s.f x= .sl i 0 n 1) (hi:s.h.get i=some (.row 1 es)) (hd:o.dst=some d) (hlt:Xi d nt=true) (hes:es=l.map fun x=>(ye x).map .iv) (hn:n=l.length)
  (h:GO P nt (.ops all rest::k) Q ⟨(d, .iv (.v (.string ⟨l.toArray⟩)))::s.f,s.h,s.nx⟩):GO P nt (.ops all (o::rest)::k) Q s:=by
 have hs:P.underlying t'=some .string:=by have:=(d0 t' _ n0).2.1;rw[k0]at this;exact this.1
 have i0:P.underlying t=some (.slice u):=by have:=(d0 t _ ht).2.1;rw[hk]at this;exact this.1
 have f0:P.underlying u=some (.int .u8):=by have:=(d0 u _ hu).2.1;rw[p0]at this;exact this.1
 subst hn;subst hes;refine ep (R:=fun t=>t=⟨(d, .iv (.v (.string ⟨l.toArray⟩)))::s.f,s.h,s.nx⟩) hg (OT.value (s1:=s) (p:= .iv (.v (.string ⟨l.toArray⟩))) (by cases s;simp only[putDst,hd,hlt,cond_true,eF]) fun M N a w hf=>?_) fun t ht=>by subst ht;exact h
 have a0:=bf hf.2.1 x;rw[hx]at a0;have c0:(convert t t' (a.eval x)).run P w= .ok (.string ⟨l.toArray⟩) w:=by
  generalize a.eval x=v at a0;cases hor:l with
  |nil=>
   rw[hor]at a0;generalize hq:PV.sl i 0 ([]:List UInt8).length 1=q at a0;cases a0 with
   |sl _ _ _ _ _ _ h0=>cases hq;simp at h0
   |ph _ _ _=>
    have:=run_convert_bytes_nil (P:=P) w t u i0 f0 0 0 t' hs;exact this
   |_=>cases hq
  |cons x0 r0=>
   rw[<-hor];have e0:0<l.length:=by rw[hor];simp
   generalize o0:l.length=n at a0 e0;generalize hq:PV.sl i 0 n 1=q at a0;cases a0 with
   |sl _ _ _ _ cap hU h0 hl hc he=>
    cases hq;rcases hf.1.obj i _ hi with b0|⟨_,c,T,q1,q2,q3,q4,q5⟩
    ·rw[hor]at b0;cases b0
    rw[Za,<-o0];refine run_convert_bytes_back (P:=P) w t t' u ⟨N.aI i,0,none⟩ cap l i0 f0 hs fun j hj=>?_;rw[gU,Xk];have j0:j<c.size:=by rw[Xr]at q3;omega
    have:=q5 j [.iv (.v (.int .u8 (l[j].toNat:Int)))] 0 _ (by rw[W1,WY hj];rfl) Z;rw[ZQ,Y8,WT,XS j0,Yl]at this;simp only[World.cell?,q1];generalize m0:c[j]=y at this;cases this with
    |iv _ _ h=>cases h;simp[j0,m0]
   |ph _ _ _=>cases hq;omega
   |_=>cases hq
 exact⟨_,w,M,N,by simp only[execOp,ho];exact bO c0, .refl _ _ _ _ _,hf, .iv _ _ (.v _)⟩
theorem wH(b0:cz P ty){all rest:List Oper}{o:Oper}{x:Operand}{t t' d:Nat}{q kk:IntKind}{n:Int}{et c0:cI}(ho:o.op= .convert t t' x)(hg:o.guard=none)(ht:ty t=some et)(hk:et.k= .bb (.int q))(d0:ty t'=some c0)(e0:c0.k= .bb .string)
  (hx:ev s.f x= .iv (.v (.int kk n))) (hd:o.dst=some d) (hlt:Xi d nt=true)
  (h:GO P nt (.ops all rest::k) Q ⟨(d, .iv (.v (.string (Utf8.encode n))))::s.f,s.h,s.nx⟩):GO P nt (.ops all (o::rest)::k) Q s:=by
 have hs:P.underlying t'=some .string:=by have:=(b0 t' _ d0).2.1;rw[e0]at this;exact this.1
 have hi:P.underlying t=some (.int q):=by have:=(b0 t _ ht).2.1;rw[hk]at this;exact this.1
 refine ep (R:=fun t=>t=⟨(d, .iv (.v (.string (Utf8.encode n))))::s.f,s.h,s.nx⟩) hg (OT.value (s1:=s) (p:= .iv (.v (.string (Utf8.encode n)))) (by cases s;simp only[putDst,hd,hlt,cond_true,eF]) fun M N a w hf=>?_) fun t ht=>by subst ht;exact h
 have a0:=bf hf.2.1 x;rw[hx]at a0;have f0:a.eval x= .int kk n:=by
  generalize a.eval x=v at a0;cases a0 with
  |iv _ _ h=>cases h;rfl
 refine⟨_,w,M,N,?_, .refl _ _ _ _ _,hf, .iv _ _ (.v _)⟩;simp only[execOp,ho,f0];refine bO ?_;simp[convert,run_underlying hi,run_underlying hs,Conv.intToString]
end
end Go.Al
namespace Go.Proofs.YtflegjieadkonaaGreatDoor
open Go Go.Al Go.Proofs.Tryz
def OK:aj:=⟨#[48,49,50,51,52,53,54,55,56,57,65,66,67,68,69,70]⟩
def OJ(c:UInt8):Int:=(c.toNat:Int).fdiv (2 ^ min (Int.toNat 4) IntKind.u8.bits)
def QQ(c:UInt8):Int:=IntKind.u8.wrap ((BitVec.ofInt IntKind.u8.bits (c.toNat:Int)&&&BitVec.ofInt IntKind.u8.bits 15).toNat:Int)
theorem KD(c:UInt8):0<=OJ c∧OJ c<16:=by
 have h:c.toNat<256:=c.toNat_lt;have e:OJ c=(c.toNat:Int)/16:=by
  unfold OJ;have:(2:Int) ^ min (Int.toNat 4) IntKind.u8.bits=16:=by decide
  rw[this];exact Int.fdiv_eq_ediv_of_nonneg _ (by decide)
 rw[e];omega
theorem Kh: ∀c:UInt8,0<=QQ c∧QQ c<16:=by
 intro c;have h: ∀n:Fin 256,0<=QQ (UInt8.ofNat n.val)∧QQ (UInt8.ofNat n.val)<16:=by decide
 have:=h ⟨c.toNat,c.toNat_lt⟩;simpa using this
def Bw(n:Int):UInt8:=OK.data.toList.getD n.toNat 0
def qB(c:UInt8):List UInt8:=if c.toNat=34∨c.toNat=92 then[92,c] else if c.toNat=10 then[92,110] else if c.toNat<32∨126<c.toNat then[92,120,Bw (OJ c),Bw (QQ c)] else[c]
theorem Sd(c:UInt8):(qB c).length<=4:=by
 unfold qB
 repeat' split
 all_goals simp
def mI(s:aj)(i:Nat):List UInt8:=34::(s.data.toList.take i).flatMap qB
def pD(s:aj):aj:=⟨(34::s.data.toList.flatMap qB++ [34]).toArray⟩
theorem tG(s:aj): ∀i,(mI s i).length<=1+4*i
 |0=>by simp[mI]
 |i+1=>by
  have h:=tG s i;rcases X3 i s.data.toList.length with hi|hi
  ·have:=Sd (s.data.toList.getD i default);simp only[mI,Xx]at h ⊢;rw[b7 hi,WW];omega
  ·simp only[mI,W2 hi]at h;simp only[mI,W2 (by omega:s.data.toList.length<=i+1)];omega
theorem zj{s:aj}{i:Nat}(h:i<s.data.toList.length):mI s (i+1)=mI s i++qB (s.data.toList.getD i default):=by
 simp only[mI,b7 h,Ym]
theorem V9(s:aj)(hs:s.size<=1000):Pure prog 274 [pS s] (pS (pD s)):=by
 have hl:s.data.toList.length=s.size:=by simp
 refine ad ab func274 Z (by decide) ntmps274 Z (by simp) Z ?_;refine gA Z ?_;refine Ii ab Z Z Z Z Z Z Z Z Z Z Z (by omega) ?_;refine gA Z ?_;refine aA 0 s.data.toList.length (W3 _) (fun i=>⟨[(3, .sl 1 0 (mI s i).length 1),(8, .iv (.dq 1 s.data.toList.length fun k=>ye (s.data.toList.getD k default))),(9,pI s.data.toList.length),(10,pI i)],[(1,some (aD 1 (mI s i) ye))],2⟩) (fun _=>True) [0] ac
  (zW (zS trivial)) fun i hi _=>?_
 have hq:=tG s i;refine gA Z (zI (fun h1=>?_) fun h1=>?_);rotate_left
 ·have h1:s.data.toList.length<=i:=zG h1;refine gA Z ?_;refine OU ab (mI s i++ [34]) Z Z Z Z Z Z Z Z Z Z Z Z (by rw[WZ];rfl) (by rw[WW];rfl) ?_;refine gA Z (zL (.of_eq ?_));simp only[mI,pD,W2 h1];rfl
 have h1:i<s.data.toList.length:=zN h1;have a0:=zj h1;have b0:s.data.toList.getD (i:Int).toNat default=s.data.toList.getD i default:=rfl;generalize hc:s.data.toList.getD i default=c at a0 b0;refine gA Z (zI (fun h2=>?_) fun h2=>?_)
 ·have h2:c.toNat=34:=by have:=zT h2;rw[b0]at this;omega
  rw[qB,am (.inl h2)]at a0;refine gA Z ⟨h1,ac,[3],zM ⟨.row (by rw[a0,WW];rfl),rfl,bv (bv (bv ac))⟩ (hR Z (by rw[a0,WZ,<-hc];rfl) Z ac)⟩
 have h2: ¬c.toNat=34:=by have:=zF h2;rw[b0]at this;omega
 refine gA Z (zI (fun h3=>?_) fun h3=>?_)
 ·have h3:c.toNat=92:=by have:=zT h3;rw[b0]at this;omega
  rw[qB,am (.inr h3)]at a0;refine gA Z ⟨h1,ac,[3],zM ⟨.row (by rw[a0,WW];rfl),rfl,bv (bv (bv ac))⟩ (hR Z (by rw[a0,WZ,<-hc];rfl) Z ac)⟩
 have h3: ¬c.toNat=92:=by have:=zF h3;rw[b0]at this;omega
 rw[qB,be (by omega)]at a0;refine gA Z (zI (fun h4=>?_) fun h4=>?_)
 ·have h4:c.toNat=10:=by have:=zT h4;rw[b0]at this;omega
  rw[am h4]at a0;refine gA Z ⟨h1,ac,[3],zM ⟨.row (by rw[a0,WW];rfl),rfl,bv (bv (bv ac))⟩ (hR Z (by rw[a0,WZ];rfl) Z ac)⟩
 have h4: ¬c.toNat=10:=by have:=zF h4;rw[b0]at this;omega
 rw[be h4]at a0;have c0:=KD c;have d0:=Kh c;rw[<-hc]at c0 d0;simp only[OJ,QQ]at c0 d0;refine gA Z (zI (fun h5=>?_) fun h5=>?_)
 ·have h5:c.toNat<32:=by have:=zT h5;rw[b0]at this;omega
  rw[am (.inl h5)]at a0;refine nX Z (by(repeat' (first|exact ac|exact rfl|exact aH.refl _|exact c0|exact d0|apply XA))<;>first|omega|exact c0.1|exact c0.2|exact d0.1|exact d0.2|simp) ?_;exact⟨h1,ac,[3],zM ⟨.row (by rw[a0,WW];rfl),rfl,bv (bv (bv ac))⟩ (hR Z (by rw[a0,WZ,<-hc];rfl) Z ac)⟩
 have h5: ¬c.toNat<32:=by have:=zF h5;rw[b0]at this;omega
 refine gA Z (zI (fun h6=>?_) fun h6=>?_)
 ·have h6:126<c.toNat:=by have:=zT h6;rw[b0]at this;omega
  rw[am (.inr h6)]at a0;refine nX Z (by(repeat' (first|exact ac|exact rfl|exact aH.refl _|exact c0|exact d0|apply XA))<;>first|omega|exact c0.1|exact c0.2|exact d0.1|exact d0.2|simp) ?_;exact⟨h1,ac,[3],zM ⟨.row (by rw[a0,WW];rfl),rfl,bv (bv (bv ac))⟩ (hR Z (by rw[a0,WZ,<-hc];rfl) Z ac)⟩
 have h6: ¬126<c.toNat:=by have:=zF h6;rw[b0]at this;omega
 rw[be (by omega)]at a0;refine gA Z ⟨h1,ac,[3],zM ⟨.row (by rw[a0,WW];rfl),rfl,bv (bv (bv ac))⟩ (hR Z (by rw[a0,WZ,<-hc];rfl) Z ac)⟩
def tp(v:tg):aj:=if v.kind=1 then⟨(Lib.itoa v.num).toArray⟩ else if eh v.sym then v.sym else pD v.sym
theorem r6{v:tg}(h:dt v=0)(h1:v.kind=1): -2147483647<=v.num∧v.num<=2147483647:=by
 unfold dt at h;rw[am h1]at h;split at h
 ·rename_i h2;exact h2.2
 ·cases h
theorem r5{v:tg}(h:dt v=0)(h1: ¬v.kind=1):v.sym.size<=64:=by
 unfold dt at h;rw[be h1]at h;split at h
 ·split at h
  ·rename_i h2;exact h2.2
  ·cases h
 ·cases h
theorem Wd(v:tg)(hv:dt v=0):Pure prog 262 [ag v.c] (pS (tp v)):=by
 refine ad ab func262 Z (by decide) ntmps262 Z (by simp) Z ?_;refine gA Z (zI (fun h1=>?_) fun h1=>?_)
 ·have h1:v.kind=1:=by simpa using h1
  have:=r6 hv h1;refine gA Z (zp (UX v.num (by omega) (by omega)) ?_);refine gA Z (zL (.of_eq ?_));rw[tp,am h1];rfl
 have h1: ¬v.kind=1:=by simpa using h1
 have hs:=r5 hv h1;refine gA Z (zp (VO v.sym) ?_);refine gA Z (zI (fun h2=>?_) fun h2=>?_)
 ·have h2:eh v.sym=true:=h2;refine gA Z (zL (.of_eq ?_));rw[tp,be h1,am h2];rfl
 ·have h2:eh v.sym=false:=h2;refine gA Z (zp (V9 v.sym (by omega)) ?_);refine gA Z (zL (.of_eq ?_));rw[tp,be h1,be (by rw[h2];simp)];rfl
def nE(v:tg):aj:=if dt v=0 then tp v else⟨#[]⟩
theorem Wj(v:tg):Pure prog 244 [ag v.c] (.bT [pS (nE v),pI (dt v)]):=by
 refine ad ab func244 Z (by decide) ntmps244 Z (by simp) Z ?_;refine gA Z (zp (Wu v) ?_);refine gA Z (zI (fun h1=>?_) fun h1=>?_)
 ·have h1: ¬dt v=0:=by simpa using h1
  refine gA Z (zL (.of_eq ?_));rw[nE,be h1];rfl
 ·have h1:dt v=0:=by simpa using h1
  refine gA Z (zp (Wd v h1) ?_);refine gA Z (zL (.of_eq ?_));rw[nE,am h1,h1];rfl
def nh(w:WS)(v:tg):WS:=a7 (aV w (decide (dt v=0))) [nE v]
theorem d149(w:WS)(v:tg)(hb:w.l.length<=1000000000000)(ht:(nE v).size<=1000):b8 prog 219 [.ptr 0 0,ag v.c] w.O (.bT []) (nh w v).H 3:=by
 refine aE ab func219 Z (by decide) ntmps219 Z (by simp) ?_;refine gA Z (zp (Wj v) ?_);refine gA Z (Ux (d146 ⟨_,_,_,_⟩ (decide (dt v=0))) Z Z Z Z Z Z Z Z Z Z Z Z ?_);refine gA Z (go_wp (d147 ⟨_,_,_,_⟩ [nE v] (by simp) (by simp[gq,aV];omega)) Z Z Z Z Z Z Z Z Z Z Z Z ?_);refine gA Z kh
def bm(op:Int):Int:=if op=1∨op=2 then 1 else if op=3∨op=4∨op=5 then 2 else if op=6 then 3 else 0
theorem Pb(op:Int):Pure prog 246 [pI op] (pI (bm op)):=by
 refine ad ab func246 Z (by decide) ntmps246 Z (by simp) Z ?_
 repeat' (first|(refine gA Z (zI (fun _=>?_) (fun _=>?_)))|(refine gA Z (zL (.of_eq ?_))))
 all_goals(refine(EM ?_:pI _=pI _);simp only[Zy,Zi,decide_eq_true_eq,decide_eq_false_iff_not] at*;simp_all [bm])
def ej(e:Expr):Int:=if e.kind=4 then bm e.op else 4
theorem IF(e:Expr):Pure prog 264 [ag e.c] (pI (ej e)):=by
 refine ad ab func264 Z (by decide) ntmps264 Z (by simp) Z ?_
 repeat' (first|(refine gA Z (zI (fun _=>?_) (fun _=>?_)))|(refine gA Z (zp (Pb e.op) ?_))|(refine gA Z (zL (.of_eq ?_))))
 all_goals(refine(EM ?_:pI _=pI _);simp_all [ej])
def cK(v:tg):Bool:=decide (v.kind=0)&&(decide (v.num=0)&&(decide (v.sym=W4)&&true))
def c4(e:Expr):Bool:=decide (e.kind=0)&&(decide (e.var=⟨#[]⟩)&&(cK e.val&&(decide (e.op=0)&&decide ((e.args.length:Int)=0))))
theorem Pc(e:Expr):Pure prog 245 [ag e.c] (pB (c4 e)):=by
 refine ad ab func245 Z (by decide) ntmps245 Z (by simp) Z ?_
 repeat' (first|(refine gA Z (zI (fun _=>?_) (fun _=>?_)))|(refine gA Z (zL (.of_eq ?_))))
 all_goals(refine(fu ?_:pB _=pB _))
 all_goals(simp only[c4,cK, *];rfl)
def j6(l:Lit):Bool:=
 (decide (l.kind=1)||decide (l.kind=2)||!(!decide (l.atom.rel=⟨#[]⟩)||decide ((l.atom.ae.length:Int)>0)))&&
 ((!(!decide (l.kind=3))||!(!decide (l.op=0)||(!c4 l.left||!c4 l.right)))&&
 (decide (l.kind=4)||(decide (l.dP=0)&&(decide (l.bp=⟨#[]⟩)&&(c4 l.km&&decide ((l.ar.length:Int)=0))))))
set_option maxHeartbeats 4000000 in
theorem Wi(l:Lit):Pure prog 221 [ag l.c] (pB (j6 l)):=by
 refine ad ab func221 Z (by decide) ntmps221 Z (by simp) Z ?_
 repeat' (first|(refine gA Z (zI (fun _=>?_) (fun _=>?_)))|(refine gA Z (zp (Pc l.left) ?_))|(refine gA Z (zp (Pc l.right) ?_))|(refine gA Z (zp (Pc l.km) ?_))|(refine gA Z (zL (.of_eq ?_))))
 all_goals(refine(fu ?_:pB _=pB _))
 all_goals(try simp only[Zy,Zi] at*)
 all_goals(simp_all [j6])
def oY(op:Int):aj:=if op=1 then⟨#[43]⟩ else if op=2 then⟨#[45]⟩ else if op=3 then⟨#[42]⟩ else if op=4 then⟨#[47]⟩ else⟨#[109,111,100]⟩
def sgL:aj:=⟨#[43,45,42,47]⟩
theorem V5(op:Int):Pure prog 265 [pI op] (pS (oY op)):=by
 refine ad ab func265 Z (by decide) ntmps265 Z (by simp) Z ?_;refine gA Z ?_;refine zX ab Z Z Z Z Z Z Z ?_;refine gA Z ?_;refine aA 0 4 (by decide) (fun i=>⟨[(0,pI op),(5, .ptr 0 0)],[(0,some (.eJ sgL i))],1⟩) (fun i=> ∀k:Nat,k<i-> ¬(k:Int)+1=op) [] (by simp)
  (zW ⟨⟨_,rfl, .of_eq Z⟩,WR Z,ac,ac⟩) fun i hi hJ=>?_
 have a0:i=0∨i=1∨i=2∨i=3∨i=4:=by omega
 rcases a0 with rfl|rfl|rfl|rfl|rfl
 ·refine gA Z ?_;refine nW Z Z Z Z Z Z (fun h=>absurd h (by decide)) (fun _=>?_);refine gA Z (zI (fun h=>?_) fun h=>?_)
  ·have h:op=1:=by have:=zT h;omega
   refine gA Z ?_;refine wH ab Z Z Z Z Z Z Z Z Z ?_;refine gA Z (zL (.of_eq ?_));refine(congrArg pS ?_:pS _=pS _);subst h;decide
  ·have h: ¬op=1:=by have:=zF h;omega
   refine gA Z ⟨by decide,fun k hk=>(by rcases(by omega:k<0∨k=0) with h'|rfl;exact hJ k h';omega),[],zW ⟨⟨_,rfl, .of_eq Z⟩,WR Z,ac,ac⟩⟩
 ·refine gA Z ?_;refine nW Z Z Z Z Z Z (fun h=>absurd h (by decide)) (fun _=>?_);refine gA Z (zI (fun h=>?_) fun h=>?_)
  ·have h:op=2:=by have:=zT h;omega
   refine gA Z ?_;refine wH ab Z Z Z Z Z Z Z Z Z ?_;refine gA Z (zL (.of_eq ?_));refine(congrArg pS ?_:pS _=pS _);subst h;decide
  ·have h: ¬op=2:=by have:=zF h;omega
   refine gA Z ⟨by decide,fun k hk=>(by rcases(by omega:k<1∨k=1) with h'|rfl;exact hJ k h';omega),[],zW ⟨⟨_,rfl, .of_eq Z⟩,WR Z,ac,ac⟩⟩
 ·refine gA Z ?_;refine nW Z Z Z Z Z Z (fun h=>absurd h (by decide)) (fun _=>?_);refine gA Z (zI (fun h=>?_) fun h=>?_)
  ·have h:op=3:=by have:=zT h;omega
   refine gA Z ?_;refine wH ab Z Z Z Z Z Z Z Z Z ?_;refine gA Z (zL (.of_eq ?_));refine(congrArg pS ?_:pS _=pS _);subst h;decide
  ·have h: ¬op=3:=by have:=zF h;omega
   refine gA Z ⟨by decide,fun k hk=>(by rcases(by omega:k<2∨k=2) with h'|rfl;exact hJ k h';omega),[],zW ⟨⟨_,rfl, .of_eq Z⟩,WR Z,ac,ac⟩⟩
 ·refine gA Z ?_;refine nW Z Z Z Z Z Z (fun h=>absurd h (by decide)) (fun _=>?_);refine gA Z (zI (fun h=>?_) fun h=>?_)
  ·have h:op=4:=by have:=zT h;omega
   refine gA Z ?_;refine wH ab Z Z Z Z Z Z Z Z Z ?_;refine gA Z (zL (.of_eq ?_));refine(congrArg pS ?_:pS _=pS _);subst h;decide
  ·have h: ¬op=4:=by have:=zF h;omega
   refine gA Z ⟨by decide,fun k hk=>(by rcases(by omega:k<3∨k=3) with h'|rfl;exact hJ k h';omega),[],zW ⟨⟨_,rfl, .of_eq Z⟩,WR Z,ac,ac⟩⟩
 ·refine gA Z ?_;refine nW Z Z Z Z Z Z (fun _=>?_) (fun h=>absurd h (by decide));refine gA Z (zL (.of_eq ?_));have h1:=hJ 0 (by decide);have h2:=hJ 1 (by decide);have h3:=hJ 2 (by decide);have h4:=hJ 3 (by decide);rw[oY,be (by omega),be (by omega),be (by omega),be (by omega)];rfl
theorem EK(s:aj):(pD s).size<=2+4*s.size:=by
 have h:=tG s s.data.toList.length;simp only[mI,YE,Xx]at h;have e:(pD s).size=(34::s.data.toList.flatMap qB++ [34]).length:=by simp[pD,ZM]
 have:s.data.toList.length=s.size:=by simp
 rw[e,WW,Xx,XC];omega
theorem nD(v:tg):(nE v).size<=300:=by
 unfold nE;split
 ·rename_i hv;unfold tp;split
  ·rename_i h1;have:=r6 hv h1;have h2:=Lib.itoa_length_le v.num (by omega) (by omega);have e:(⟨(Lib.itoa v.num).toArray⟩:ByteArray).size=(Lib.itoa v.num).length:=by simp[ZM]
   omega
  ·rename_i h1;have h2:=r5 hv h1;split
   ·omega
   ·have:=EK v.sym;omega
 ·decide
mutual
def Expr.ts:Expr->Nat
 | .mk _ v _ _ args=>v.size+400+Expr.k9 args
def Expr.k9:List Expr->Nat
 | []=>0
 |e::r=>e.ts+Expr.k9 r
end
theorem Expr.lK(e:Expr):e.ts=e.var.size+400+Expr.k9 e.args:=by cases e;rfl
theorem Expr.tn: ∀(l:List Expr) (k:Nat),k<l.length->(l.getD k default).ts<=Expr.k9 l
 |e::r,0,_=>by simp[Expr.k9]
 |e::r,k+1,h=>by
  have:=Expr.tn r k (by simpa using h);simp only[Yk,Expr.k9];omega
 | [],k,h=>by simp at h
theorem Expr.wi: ∀(l:List Expr),l.length=2->(l.getD 0 default).ts+(l.getD 1 default).ts<=Expr.k9 l
 | [a,b],_=>by simp[Expr.k9]
 | [],h=>by simp at h
 | [a],h=>by simp at h
 |a::b::c::r,h=>by simp at h
def sM:aj:=⟨#[45]⟩
def sO:aj:=⟨#[40]⟩
def sC:aj:=⟨#[41]⟩
def FZ:aj:=⟨#[32]⟩
def og(w:WS):WS:=⟨w.fr,w.l,true,w.br⟩
def pJ(e:Expr):Bool:=dY e.var&&(cK e.val&&(decide (e.op=0)&&decide ((e.args.length:Int)=0)))
def rC(e:Expr):Bool:=decide (e.var=⟨#[]⟩)&&(decide (e.op=0)&&decide ((e.args.length:Int)=0))
def lZ(e:Expr):Bool:=decide (e.var=⟨#[]⟩)&&(cK e.val&&decide (bm e.op>0))
def aO(e:Expr):Expr:=e.args.getD 0 default
def kE(e:Expr):Expr:=e.args.getD 1 default
def pe(e:Expr):Bool:=decide (e.kind=2)&&decide (e.val.kind=1)
def nR(a:Expr):Bool:=decide (ej a<3)||(pe a&&decide (a.val.num>0))
def jm(w:WS)(e:Expr)(k:WS):WS:=
 if w.bad=true then og w else if e.kind=1 then a7 (aV w (pJ e)) [e.var] else if e.kind=2 then nh (aV w (rC e)) e.val else if e.kind=4 then k else og w
def jP(a0:Bool->WS->Expr->WS)(w:WS)(e:Expr):WS:=
 if w.bad=true then og w else if e.op=6 then
  (if e.args.length=1 then a0 (nR (aO e)) (if(pe (aO e)&&decide ((aO e).val.num=0))=true then a7 (a7 w [sM]) [sM] else a7 w [sM]) (aO e) else og w)
 else if e.args.length=2 then a0 (decide (ej (kE e)<=bm e.op)) (a7 (a0 (decide (ej (aO e)<bm e.op)) w (aO e)) [FZ,oY e.op,FZ]) (kE e) else og w
def cG:Nat->WS->Expr->WS
 |0,w,_=>og w
 |1,w,e=>jm w e (og (aV w (lZ e)))
 |m+2,w,e=>jm w e (jP (fun a0 w a=>if a0=true then a7 (cG m (a7 w [sO]) a) [sC] else cG (m+1) w a) (aV w (lZ e)) e)
def qv(m:Nat)(a0:Bool)(w:WS)(a:Expr):WS:=if a0=true then a7 (cG m (a7 w [sO]) a) [sC] else cG (m+1) w a
theorem aY(w:WS)(b:Bool):(aV w b).l=w.l:=rfl
theorem gT(w:WS):(og w).l=w.l:=rfl
theorem cq(s:aj):gq [s]=s.size:=by simp[gq]
theorem Cj(op:Int):(oY op).size<=3:=by
 unfold oY
 repeat' split
 all_goals decide
theorem aX(w:WS)(s:aj):(a7 w [s]).l.length=w.l.length+s.size:=by rw[kr,cq]
theorem wZ(w:WS)(v:tg):(nh w v).l.length<=w.l.length+300:=by
 have:=nD v;rw[nh,aX,aY];omega
theorem zC(w k:WS)(e:Expr)(h:k.l.length<=w.l.length+e.ts):(jm w e k).l.length<=w.l.length+e.ts:=by
 have:=e.lK;unfold jm
 repeat' split
 ·rw[gT];omega
 ·rw[aX,aY];omega
 ·have:=wZ (aV w (rC e)) e.val;rw[aY]at this;omega
 ·exact h
 ·rw[gT];omega
theorem HQ(b0:Bool->WS->Expr->WS)(a0: ∀b w a,(b0 b w a).l.length<=w.l.length+(2+a.ts))(w:WS)(e:Expr):(jP b0 w e).l.length<=w.l.length+e.ts:=by
 have h0:=e.lK;unfold jP;split
 ·rw[gT];omega
 split
 ·split
  ·rename_i h1;have hg:=Expr.tn e.args 0 (by omega);have e1:sM.size=1:=rfl;split
   ·have:=a0 (nR (aO e)) (a7 (a7 w [sM]) [sM]) (aO e);rw[aX,aX]at this;simp only[aO]at this ⊢;omega
   ·have:=a0 (nR (aO e)) (a7 w [sM]) (aO e);rw[aX]at this;simp only[aO]at this ⊢;omega
  ·rw[gT];omega
 ·split
  ·rename_i h1;have hg:=Expr.wi e.args h1;have h2:=a0 (decide (ej (kE e)<=bm e.op)) (a7 (b0 (decide (ej (aO e)<bm e.op)) w (aO e)) [FZ,oY e.op,FZ]) (kE e);have h3:=a0 (decide (ej (aO e)<bm e.op)) w (aO e);have h4:=Cj e.op;have e1:FZ.size=1:=rfl;rw[kr]at h2;have e2:gq [FZ,oY e.op,FZ]=1+((oY e.op).size+1):=by simp[gq,e1]
   simp only[aO,kE] at*;omega
  ·rw[gT];omega
theorem dW: ∀(n:Nat) (w:WS) (e:Expr),(cG n w e).l.length<=w.l.length+e.ts
 |0,w,e=>by rw[cG,gT];omega
 |1,w,e=>by rw[cG];exact zC _ _ _ (by rw[gT,aY];omega)
 |m+2,w,e=>by
  rw[cG];refine zC _ _ _ ?_
  have:=HQ (fun a0 w a=>if a0=true then a7 (cG m (a7 w [sO]) a) [sC] else cG (m+1) w a) (fun b w a=>by
   split
   ·have h1:=dW m (a7 w [sO]) a;have e1:sO.size=1:=rfl;have e2:sC.size=1:=rfl;rw[aX]at h1 ⊢;omega
   ·have:=dW (m+1) w a
    omega) (aV w (lZ e)) e
  rwa[aY]at this
theorem LN(m:Nat)(b:Bool)(w:WS)(a:Expr):(qv m b w a).l.length<=w.l.length+(2+a.ts):=by
 unfold qv;split
 ·have h1:=dW m (a7 w [sO]) a;have e1:sO.size=1:=rfl;have e2:sC.size=1:=rfl;rw[aX]at h1 ⊢;omega
 ·have:=dW (m+1) w a;omega
def PE(n:Nat):Prop:= ∀(d:Int) (w:WS) (e:Expr),d+1=n->w.l.length+e.ts<=1000000000->b8 prog 222 [.ptr 0 0,ag e.c,pI d] w.O (.bT []) (cG n w e).H 3
theorem d225(n:Nat)(hn:n<=1000)(hA:PE (n+1))(hB:PE n)(a0:Bool)(d:Int)(hd:d=n)(w:WS)(e:Expr)(hb:w.l.length+e.ts+2<=1000000000):b8 prog 263 [.ptr 0 0,ag e.c,pB a0,pI d] w.O (.bT []) (qv n a0 w e).H 3:=by
 refine aE ab func263 Z (by decide) ntmps263 Z (by simp) ?_;refine gA Z (zI (fun h=>?_) fun h=>?_)
 ·have h:a0=false:=by simpa using h
  rw[qv,be (by rw[h];simp)];refine gA Z (jC (hA d w e (by omega) (by omega)) ?_);refine gA Z kh
 ·have h:a0=true:=by simpa using h
  rw[qv,am h];have e1:sO.size=1:=rfl;have e2:sC.size=1:=rfl;have hl:=dW n (a7 w [sO]) e;have hp:=aX w sO;refine gA Z (kA (d147 w [sO] (by simp) (by rw[cq,e1];omega)) ?_);refine gA Z (jC (hB (d-1) (a7 w [sO]) e (by omega) (by omega)) ?_);refine gA Z (kA (d147 (cG n (a7 w [sO]) e) [sC] (by simp) (by rw[cq,e2];omega)) ?_);refine gA Z kh
theorem UJ(d:Int)(hd:d<0)(w:WS)(e:Expr):b8 prog 247 [.ptr 0 0,ag e.c,pI d] w.O (.bT []) (og w).H 3:=by
 refine aE ab func247 Z (by decide) ntmps247 Z (by simp) ?_
 repeat' (first
  |((rename_i h;exact absurd hd (zF h)))
  |(refine gA Z (zI (fun _=>?_) (fun _=>?_)))
  |(refine gA Z (Lb (by first|exact .inr Z|exact .inl Z) Z Z Z Z Z (by first|exact .refl _|exact .kb _) (by first|exact .refl _|exact .kb _) Z Z Z Z (.refl _) Z Z)))
set_option maxHeartbeats 2000000 in
theorem d213(m:Nat)(hm:m<=900)(hA:PE (m+1))(hB:PE m)(d:Int)(hd:d=m)(w:WS)(e:Expr)(hb:w.l.length+e.ts<=1000000000):b8 prog 247 [.ptr 0 0,ag e.c,pI d] w.O (.bT []) (jP (qv m) w e).H 3:=by
 refine b8.le (aa:=[.ptr 0 0,ag e.c,pI d]) (args:=[.ptr 0 0,ag e.c1,pI d]) ?_ ⟨.refl _,e.xG, .refl _,ac⟩;have o0:=e.lK;have e1:sM.size=1:=rfl;have d0:m<=1000:=by omega
 refine aE ab func247 Z (by decide) ntmps247 Z (by simp) ?_;refine gA Z (zI (fun h6=>?_) fun h6=>?_)
 ·have h6:e.op=6:=zT h6;refine gA Z (zI (fun h1=>?_) fun h1=>?_);rotate_left
  ·have h1:w.bad=true:=h1;rw[jP,am h1];refine gA Z kh
  have h1: ¬w.bad=true:=by rw[show w.bad=false from h1];simp
  refine gA Z (zI (fun h2=>?_) fun h2=>?_);rotate_left
  ·have h2: ¬e.args.length=1:=by simp at h2;omega
   rw[jP,be h1,am h6,be h2];refine gA Z kh
  have h2:e.args.length=1:=by simp at h2;omega
  have hg:(aO e).ts<=_:=Expr.tn e.args 0 (by omega);have b0:jP (qv m) w e=qv m (nR (aO e)) (if(pe (aO e)&&decide ((aO e).val.num=0))=true then a7 (a7 w [sM]) [sM] else a7 w [sM]) (aO e):=by rw[jP,be h1,am h6,am h2]
  have m0:e.args.getD 0 default=aO e:=rfl;refine gA Z (zI (fun h3=>?_) fun h3=>?_)
  ·exact absurd (zT h3) (by omega)
  refine gA Z (zI (fun h7=>?_) fun h7=>?_);rotate_left
  ·exact absurd (zF h7) (by simp)
  have e0:=aX w sM;refine gA Z (zI (fun hk=>?_) fun hk=>?_)
  ·have i0:(aO e).kind=2:=zT hk;refine gA Z (kA (d147 w [sM] (by simp) (by rw[cq,e1];omega)) ?_);refine gA Z (zI (fun hv=>?_) fun hv=>?_);rotate_left
   ·have g0: ¬(aO e).val.kind=1:=zF hv;have f0:pe (aO e)=false:=by rw[pe,decide_eq_false g0,Yz]
    rw[f0,Yi,be (by simp)]at b0;refine gA Z (nB (IF (aO e)) ?_);refine gA Z (zI (fun c0=>?_) fun c0=>?_)
    ·have a0:ej (aO e)<3:=zT c0;rw[nR,decide_eq_true a0,Zq]at b0;rw[b0];refine gA Z (yM (d225 m d0 hA hB true d hd (a7 w [sM]) (aO e) (by rw[e0,e1];omega)) ?_);refine gA Z kh
    ·have a0: ¬ej (aO e)<3:=zF c0;refine gA Z (zI (fun hz=>?_) fun hz=>?_)
     ·exact absurd (zT hz) g0
     rw[nR,decide_eq_false a0,Ya,f0,Yi]at b0;rw[b0];refine gA Z (yM (d225 m d0 hA hB false d hd (a7 w [sM]) (aO e) (by rw[e0,e1];omega)) ?_);refine gA Z kh
   ·have g0:(aO e).val.kind=1:=zT hv;have f0:pe (aO e)=true:=by rw[pe,decide_eq_true g0,decide_eq_true i0];rfl
    rw[f0,XV]at b0;refine gA Z (zI (fun h0=>?_) fun h0=>?_)
    ·have j0:(aO e).val.num=0:=zT h0;rw[am (decide_eq_true j0)]at b0;refine gA Z (kA (d147 (a7 w [sM]) [sM] (by simp) (by rw[cq,e0,e1];omega)) ?_);refine gA Z (nB (IF (aO e)) ?_);refine gA Z (zI (fun c0=>?_) fun c0=>?_)
     ·have a0:ej (aO e)<3:=zT c0;rw[nR,decide_eq_true a0,Zq]at b0;rw[b0];refine gA Z (yM (d225 m d0 hA hB true d hd (a7 (a7 w [sM]) [sM]) (aO e) (by rw[aX,e0,e1];omega)) ?_);refine gA Z kh
     ·have a0: ¬ej (aO e)<3:=zF c0;refine gA Z (zI (fun hz=>?_) fun hz=>?_);rotate_left
      ·exact absurd g0 (zF hz)
      rw[nR,decide_eq_false a0,Ya,f0,XV]at b0;rw[b0];refine gA Z (yM (d225 m d0 hA hB (decide ((aO e).val.num>0)) d hd (a7 (a7 w [sM]) [sM]) (aO e) (by rw[aX,e0,e1];omega)) ?_);refine gA Z kh
    ·have j0: ¬(aO e).val.num=0:=zF h0;rw[be (by simpa using j0)]at b0;refine gA Z (nB (IF (aO e)) ?_);refine gA Z (zI (fun c0=>?_) fun c0=>?_)
     ·have a0:ej (aO e)<3:=zT c0;rw[nR,decide_eq_true a0,Zq]at b0;rw[b0];refine gA Z (yM (d225 m d0 hA hB true d hd (a7 w [sM]) (aO e) (by rw[e0,e1];omega)) ?_);refine gA Z kh
     ·have a0: ¬ej (aO e)<3:=zF c0;refine gA Z (zI (fun hz=>?_) fun hz=>?_);rotate_left
      ·exact absurd g0 (zF hz)
      rw[nR,decide_eq_false a0,Ya,f0,XV]at b0;rw[b0];refine gA Z (yM (d225 m d0 hA hB (decide ((aO e).val.num>0)) d hd (a7 w [sM]) (aO e) (by rw[e0,e1];omega)) ?_);refine gA Z kh
  ·have i0: ¬(aO e).kind=2:=zF hk;have f0:pe (aO e)=false:=by rw[pe,decide_eq_false i0];rfl
   rw[f0,Yi,be (by simp)]at b0;refine gA Z (kA (d147 w [sM] (by simp) (by rw[cq,e1];omega)) ?_);refine gA Z (nB (IF (aO e)) ?_);refine gA Z (zI (fun c0=>?_) fun c0=>?_)
   ·have a0:ej (aO e)<3:=zT c0;rw[nR,decide_eq_true a0,Zq]at b0;rw[b0];refine gA Z (yM (d225 m d0 hA hB true d hd (a7 w [sM]) (aO e) (by rw[e0,e1];omega)) ?_);refine gA Z kh
   ·have a0: ¬ej (aO e)<3:=zF c0;rw[nR,decide_eq_false a0,Ya,f0,Yi]at b0;rw[b0];refine gA Z (yM (d225 m d0 hA hB false d hd (a7 w [sM]) (aO e) (by rw[e0,e1];omega)) ?_);refine gA Z kh
 ·have h6: ¬e.op=6:=zF h6;refine gA Z (zI (fun h1=>?_) fun h1=>?_);rotate_left
  ·have h1:w.bad=true:=h1;rw[jP,am h1];refine gA Z kh
  have h1: ¬w.bad=true:=by rw[show w.bad=false from h1];simp
  refine gA Z (zI (fun h2=>?_) fun h2=>?_);rotate_left
  ·have h2: ¬e.args.length=2:=by simp at h2;omega
   rw[jP,be h1,be h6,be h2];refine gA Z kh
  have h2:e.args.length=2:=by simp at h2;omega
  have hg:(aO e).ts+(kE e).ts<=_:=Expr.wi e.args h2;rw[jP,be h1,be h6,am h2];refine gA Z (zI (fun h3=>?_) fun h3=>?_)
  ·exact absurd (zT h3) (by omega)
  refine gA Z (zI (fun h7=>?_) fun h7=>?_)
  ·exact absurd (zT h7) (by simp)
  refine gA Z (nB (IF (aO e)) ?_);refine gA Z (nB (Pb e.op) ?_);refine gA Z (yM (d225 m d0 hA hB (decide (ej (aO e)<bm e.op)) d hd w (aO e) (by omega)) ?_);refine gA Z (zp (V5 e.op) ?_);have n0:=LN m (decide (ej (aO e)<bm e.op)) w (aO e);have k0:=Cj e.op;have e2:FZ.size=1:=rfl;have e3:gq [FZ,oY e.op,FZ]=1+((oY e.op).size+1):=by simp[gq,e2]
  refine gA Z (kA (d147 (qv m (decide (ej (aO e)<bm e.op)) w (aO e)) [FZ,oY e.op,FZ] (by simp) (by rw[e3];omega)) ?_);refine gA Z (nB (IF (kE e)) ?_);refine gA Z (nB (Pb e.op) ?_);refine gA Z (yM (d225 m d0 hA hB (decide (ej (kE e)<=bm e.op)) d hd (a7 (qv m (decide (ej (aO e)<bm e.op)) w (aO e)) [FZ,oY e.op,FZ]) (kE e) (by rw[kr,e3];omega)) ?_);refine gA Z kh
theorem d189(d:Int)(o0:0<=d)(k0:d<=1000)(w:WS)(e:Expr)(hb:w.l.length+e.ts<=1000000000)(k:WS)(hk:b8 prog 247 [.ptr 0 0,ag e.c,pI (d-1)] (aV w (lZ e)).O (.bT []) k.H 3):b8 prog 222 [.ptr 0 0,ag e.c,pI d] w.O (.bT []) (jm w e k).H 3:=by
 have m0:=e.lK;refine aE ab func222 Z (by decide) ntmps222 Z (by simp) ?_;refine gA Z (zI (fun h1=>?_) fun h1=>?_);rotate_left
 ·have h1:w.bad=true:=h1;rw[jm,am h1];refine gA Z kh
 have e0: ¬w.bad=true:=by rw[show w.bad=false from h1];simp
 refine gA Z (zI (fun h2=>?_) fun h2=>?_)
 ·exact absurd (zT h2) (by omega)
 refine gA Z (zI (fun j0=>?_) fun j0=>?_)
 ·have a0:e.kind=1:=zT j0;have d0:jm w e k=a7 (aV w (pJ e)) [e.var]:=by rw[jm,be e0,am a0]
  rw[d0];refine gA Z (zp (Fz e.var) ?_);refine gA Z (zI (fun g0=>?_) fun g0=>?_);rotate_left
  ·have hx:pJ e=false:=by simp only[pJ,cK, *];rfl
   rw[hx];refine gA Z (jC (d146 w false) ?_);refine gA Z (kA (d147 (aV w false) [e.var] (by simp) (by rw[cq,aY];omega)) ?_);refine gA Z kh
  refine gA Z (zI (fun g1=>?_) fun g1=>?_);rotate_left
  ·have hx:pJ e=false:=by simp only[pJ,cK, *];rfl
   rw[hx];refine gA Z (jC (d146 w false) ?_);refine gA Z (kA (d147 (aV w false) [e.var] (by simp) (by rw[cq,aY];omega)) ?_);refine gA Z kh
  refine gA Z (zI (fun g2=>?_) fun g2=>?_);rotate_left
  ·have hx:pJ e=false:=by simp only[pJ,cK, *];rfl
   rw[hx];refine gA Z (jC (d146 w false) ?_);refine gA Z (kA (d147 (aV w false) [e.var] (by simp) (by rw[cq,aY];omega)) ?_);refine gA Z kh
  have hx:pJ e=decide ((e.args.length:Int)=0):=by simp only[pJ,cK, *];rfl
  rw[hx];refine gA Z (jC (d146 w (decide ((e.args.length:Int)=0))) ?_);refine gA Z (kA (d147 (aV w (decide ((e.args.length:Int)=0))) [e.var] (by simp) (by rw[cq,aY];omega)) ?_);refine gA Z kh
 have a0: ¬e.kind=1:=zF j0;refine gA Z (zI (fun f0=>?_) fun f0=>?_)
 ·have b0:e.kind=2:=zT f0;have d0:jm w e k=nh (aV w (rC e)) e.val:=by rw[jm,be e0,be a0,am b0]
  rw[d0];have n0:=nD e.val;refine gA Z (zI (fun g0=>?_) fun g0=>?_);rotate_left
  ·have hx:rC e=false:=by simp only[rC,cK, *];rfl
   rw[hx];refine gA Z (jC (d146 w false) ?_);refine gA Z (jC (d149 (aV w false) e.val (by rw[aY];omega) (by omega)) ?_);refine gA Z kh
  refine gA Z (zI (fun g1=>?_) fun g1=>?_);rotate_left
  ·have hx:rC e=false:=by simp only[rC,cK, *];rfl
   rw[hx];refine gA Z (jC (d146 w false) ?_);refine gA Z (jC (d149 (aV w false) e.val (by rw[aY];omega) (by omega)) ?_);refine gA Z kh
  have hx:rC e=decide ((e.args.length:Int)=0):=by simp only[rC,cK, *];rfl
  rw[hx];refine gA Z (jC (d146 w (decide ((e.args.length:Int)=0))) ?_);refine gA Z (jC (d149 (aV w (decide ((e.args.length:Int)=0))) e.val (by rw[aY];omega) (by omega)) ?_);refine gA Z kh
 have b0: ¬e.kind=2:=zF f0;refine gA Z (zI (fun i0=>?_) fun i0=>?_)
 ·have c0:e.kind=4:=zT i0;have d0:jm w e k=k:=by rw[jm,be e0,be a0,be b0,am c0]
  rw[d0];refine gA Z (zI (fun g0=>?_) fun g0=>?_);rotate_left
  ·have hx:lZ e=false:=by simp only[lZ,cK, *];rfl
   rw[hx]at hk;refine gA Z (jC (d146 w false) ?_);refine gA Z (jC (hk) ?_);refine gA Z kh
  refine gA Z (zI (fun g1=>?_) fun g1=>?_);rotate_left
  ·have hx:lZ e=false:=by simp only[lZ,cK, *];rfl
   rw[hx]at hk;refine gA Z (jC (d146 w false) ?_);refine gA Z (jC (hk) ?_);refine gA Z kh
  refine gA Z (zp (Pb e.op) ?_);have hx:lZ e=decide (bm e.op>0):=by simp only[lZ,cK, *];rfl
  rw[hx]at hk;refine gA Z (jC (d146 w (decide (bm e.op>0))) ?_);refine gA Z (jC (hk) ?_);refine gA Z kh
 have c0: ¬e.kind=4:=zF i0;rw[jm,be e0,be a0,be b0,be c0];refine gA Z kh
theorem pe0:PE 0:=fun d w e hd hb=>by
 refine aE ab func222 Z (by decide) ntmps222 Z (by simp) ?_;rw[cG]
 repeat' (first
  |((rename_i h;exact absurd (by omega:d<0) (zF h)))
  |(refine gA Z (zI (fun _=>?_) (fun _=>?_)))
  |(refine gA Z (Lb (by first|exact .inr Z|exact .inl Z) Z Z Z Z Z (by first|exact .refl _|exact .kb _) (by first|exact .refl _|exact .kb _) Z Z Z Z (.refl _) Z Z)))
theorem EL: ∀n,n<=900->PE n
 |0,_=>pe0
 |1,_=>fun d w e hd hb=>d189 d (by omega) (by omega) w e hb _ (UJ (d-1) (by omega) (aV w (lZ e)) e)
 |m+2,h=>fun d w e hd hb=>d189 d (by omega) (by omega) w e (by omega) _ (d213 m (by omega) (EL (m+1) (by omega)) (EL m (by omega)) (d-1) (by omega) (aV w (lZ e)) e (by rw[aY];omega))
theorem rR(w:WS)(e:Expr)(hb:w.l.length+e.ts<=900000000):b8 prog 222 [.ptr 0 0,ag e.c,pI 16] w.O (.bT []) (cG 17 w e).H 3:=EL 17 (by omega) 16 w e (by omega) (by omega)
def vZ:aj:=⟨#[44,32]⟩
def Jy:aj:=⟨#[95]⟩
def iw(i:Nat)(w:WS):WS:=if i=0 then w else a7 w [vZ]
def yI(t:Term):Bool:=dY t.var&&cK t.val
def yJ(t:Term):Bool:=decide (t.var=⟨#[]⟩)&&cK t.val
def kV(w:WS)(t:Term):WS:=
 if t.kind=1 then a7 (aV w (yI t)) [t.var] else if t.kind=2 then nh (aV w (decide (t.var=⟨#[]⟩))) t.val else if t.kind=3 then a7 (aV w (yJ t)) [Jy] else og w
def ew(l:List Term)(w:WS):Nat->WS
 |0=>w
 |i+1=>kV (iw i (ew l w i)) (l.getD i default)
def jQ(w:WS)(a:Atom):WS:=a7 (ew a.ae (a7 (aV w (eh a.rel)) [a.rel,sO]) a.ae.length) [sC]
def Term.ts(t:Term):Nat:=t.var.size+310
def Atom.ts(a:Atom):Nat:=a.rel.size+10+(a.ae.map Term.ts).sum
theorem oP(i:Nat)(w:WS):(iw i w).l.length<=w.l.length+2:=by
 have e:vZ.size=2:=rfl;unfold iw;split
 ·omega
 ·rw[aX,e];omega
theorem Hn(w:WS)(t:Term):(kV w t).l.length<=w.l.length+300+t.var.size:=by
 have e:Jy.size=1:=rfl;unfold kV
 repeat' split
 ·rw[aX,aY];omega
 ·have:=wZ (aV w (decide (t.var=⟨#[]⟩))) t.val;rw[aY]at this;omega
 ·rw[aX,aY,e];omega
 ·rw[gT];omega
theorem uy: ∀(l:List Term) (i:Nat),i<l.length->((l.take i).map Term.ts).sum+(l.getD i default).ts<=(l.map Term.ts).sum
 | [],i,h=>by simp at h
 |s::r,0,_=>by simp
 |s::r,i+1,h=>by
  have:=uy r i (by simpa using h);simp at this ⊢;omega
theorem FQ: ∀(l:List Term) (i:Nat),((l.take i).map Term.ts).sum<=(l.map Term.ts).sum
 | [],i=>by simp
 |s::r,0=>by simp
 |s::r,i+1=>by have:=FQ r i;simp at this ⊢;omega
theorem r9(l:List Term)(w:WS): ∀i,i<=l.length->(ew l w i).l.length<=w.l.length+((l.take i).map Term.ts).sum
 |0,_=>by simp[ew]
 |i+1,h=>by
  have h1:=r9 l w i (by omega);have h2:=oP i (ew l w i);have h3:=Hn (iw i (ew l w i)) (l.getD i default);have h4:(l.getD i default).ts=(l.getD i default).var.size+310:=rfl;have h5:((l.take (i+1)).map Term.ts).sum=((l.take i).map Term.ts).sum+(l.getD i default).ts:=by
   rw[aN (by omega),WZ,List.sum_append];simp
  rw[ew];omega
theorem Aq(w:WS)(a:Atom):(jQ w a).l.length<=w.l.length+a.ts:=by
 have e1:sO.size=1:=rfl;have e2:sC.size=1:=rfl;have e3:gq [a.rel,sO]=a.rel.size+1:=by simp[gq,e1]
 have h1:=r9 a.ae (a7 (aV w (eh a.rel)) [a.rel,sO]) a.ae.length (W0 _);rw[kr,e3,aY,YE]at h1;rw[jQ,aX,e2];unfold Atom.ts;omega
theorem zB: ∀l:List Term,l.length<=(l.map Term.ts).sum
 | []=>by simp
 |t::r=>by have:=zB r;simp[Term.ts]at this ⊢;omega
set_option maxHeartbeats 1000000 in
theorem d104(w:WS)(a:Atom)(hb:w.l.length+a.ts<=900000000):b8 prog 188 [.ptr 0 0,ag a.c] w.O (.bT []) (jQ w a).H 3:=by
 have e1:sO.size=1:=rfl;have e2:sC.size=1:=rfl;have e4:vZ.size=2:=rfl;have e5:Jy.size=1:=rfl;have e3:gq [a.rel,sO]=a.rel.size+1:=by simp[gq,e1]
 have m0:a.ts=a.rel.size+10+(a.ae.map Term.ts).sum:=rfl;have hlt:=zB a.ae;have e0:(a7 (aV w (eh a.rel)) [a.rel,sO]).l.length=w.l.length+(a.rel.size+1):=by rw[kr,e3,aY]
 refine aE ab func188 Z (by decide) ntmps188 Z (by simp) ?_;refine gA Z (zp (VO a.rel) ?_);refine gA Z (jC (d146 w (eh a.rel)) ?_);refine gA Z (kA (d147 (aV w (eh a.rel)) [a.rel,sO] (by simp) (by rw[e3,aY];omega)) ?_);generalize hW:a7 (aV w (eh a.rel)) [a.rel,sO]=w1 at*
 refine gA Z ?_;refine aA 0 a.ae.length (W3 _) (fun i=>⟨[(0, .ptr 0 0),(17, .iv (dy 5 a.ae Term.c)),(18,pI a.ae.length),(19,pI i)],[(0,some ((ew a.ae w1 i).ur 0 6)),(6,some (.bG (ew a.ae w1 i).l 5))],7⟩) (fun _=>True) _ ac
  (Vt (w:=w1) Z Z Z Z Z (.refl _) (.refl _) Z Z Z Z Z (bv (bv (bv (bv trivial))))) fun i hi _=>?_
 have k0:=r9 a.ae w1 i hi;have j0:=FQ a.ae i;refine gA Z (zI (fun h1=>?_) fun h1=>?_);rotate_left
 ·have h1:a.ae.length<=i:=zG h1;have d0:i=a.ae.length:=by omega
  subst d0;refine gA Z (kA (d147 (ew a.ae w1 a.ae.length) [sC] (by simp) (by rw[cq,e2];omega)) ?_);rw[jQ,hW];refine gA Z kh
 have h1:i<a.ae.length:=zN h1;have f0:=uy a.ae i h1;have hs:ew a.ae w1 (i+1)=kV (iw i (ew a.ae w1 i)) (a.ae.getD i default):=rfl;have ht:(a.ae.getD i default).ts=(a.ae.getD i default).var.size+310:=rfl;have i0:=nD (a.ae.getD i default).val;have n0:=oP i (ew a.ae w1 i);generalize hT:ew a.ae w1 i=w2 at*
 refine gA Z (zI (fun h2=>?_) fun h2=>?_)
 ·have h2: ¬i=0:=by have:=zT h2;omega
  rw[iw,be h2]at hs;refine gA Z (kA (d147 w2 [vZ] (by simp) (by rw[cq,e4];omega)) ?_);refine gA Z (zI (fun k1=>?_) fun k1=>?_)
  ·have a0:(a.ae.getD i default).kind=1:=zT k1;rw[kV,am a0]at hs;refine gA Z (zp (Fz (a.ae.getD i default).var) ?_);refine gA Z (zI (fun g0=>?_) fun g0=>?_);rotate_left
   ·have hx:yI (a.ae.getD i default)=false:=by have g:dY (a.ae.getD i default).var=false:=g0;rw[yI,g];rfl
    rw[hx]at hs;refine gA Z (jC (d146 (a7 w2 [vZ]) false) ?_);refine gA Z (kA (d147 (aV (a7 w2 [vZ]) false) [(a.ae.getD i default).var] (by simp) (by rw[cq,aY];first|omega|(rw[aX,e4];omega))) ?_);refine gA Z ⟨h1,ac,_,th (hs.symm)⟩
   have hx:yI (a.ae.getD i default)=cK (a.ae.getD i default).val:=by have g:dY (a.ae.getD i default).var=true:=g0;rw[yI,g];rfl
   rw[hx]at hs;refine gA Z (jC (d146 (a7 w2 [vZ]) (cK (a.ae.getD i default).val)) ?_);refine gA Z (kA (d147 (aV (a7 w2 [vZ]) (cK (a.ae.getD i default).val)) [(a.ae.getD i default).var] (by simp) (by rw[cq,aY];first|omega|(rw[aX,e4];omega))) ?_);refine gA Z ⟨h1,ac,_,th (hs.symm)⟩
  have a0: ¬(a.ae.getD i default).kind=1:=zF k1;refine gA Z (zI (fun k2=>?_) fun k2=>?_)
  ·have b0:(a.ae.getD i default).kind=2:=zT k2;rw[kV,be a0,am b0]at hs;refine gA Z (jC (d146 (a7 w2 [vZ]) (decide ((a.ae.getD i default).var=⟨#[]⟩))) ?_);refine gA Z (jC (d149 (aV (a7 w2 [vZ]) (decide ((a.ae.getD i default).var=⟨#[]⟩))) (a.ae.getD i default).val (by rw[aY];first|omega|(rw[aX,e4];omega)) (by omega)) ?_);refine gA Z ⟨h1,ac,_,th (hs.symm)⟩
  have b0: ¬(a.ae.getD i default).kind=2:=zF k2;refine gA Z (zI (fun k3=>?_) fun k3=>?_)
  ·have c0:(a.ae.getD i default).kind=3:=zT k3;rw[kV,be a0,be b0,am c0]at hs;refine gA Z (zI (fun g0=>?_) fun g0=>?_);rotate_left
   ·have hx:yJ (a.ae.getD i default)=false:=by have g:decide ((a.ae.getD i default).var=⟨#[]⟩)=false:=g0;rw[yJ,g];rfl
    rw[hx]at hs;refine gA Z (jC (d146 (a7 w2 [vZ]) false) ?_);refine gA Z (kA (d147 (aV (a7 w2 [vZ]) false) [Jy] (by simp) (by rw[cq,aY];first|omega|(rw[aX,e4];omega))) ?_);refine gA Z ⟨h1,ac,_,th (hs.symm)⟩
   have hx:yJ (a.ae.getD i default)=cK (a.ae.getD i default).val:=by have g:decide ((a.ae.getD i default).var=⟨#[]⟩)=true:=g0;rw[yJ,g];rfl
   rw[hx]at hs;refine gA Z (jC (d146 (a7 w2 [vZ]) (cK (a.ae.getD i default).val)) ?_);refine gA Z (kA (d147 (aV (a7 w2 [vZ]) (cK (a.ae.getD i default).val)) [Jy] (by simp) (by rw[cq,aY];first|omega|(rw[aX,e4];omega))) ?_);refine gA Z ⟨h1,ac,_,th (hs.symm)⟩
  have c0: ¬(a.ae.getD i default).kind=3:=zF k3;rw[kV,be a0,be b0,be c0]at hs;refine gA Z ⟨h1,ac,_,th (hs.symm)⟩
 ·have h2:i=0:=by have:=zF h2;omega
  rw[iw,am h2]at hs;refine gA Z (zI (fun k1=>?_) fun k1=>?_)
  ·have a0:(a.ae.getD i default).kind=1:=zT k1;rw[kV,am a0]at hs;refine gA Z (zp (Fz (a.ae.getD i default).var) ?_);refine gA Z (zI (fun g0=>?_) fun g0=>?_);rotate_left
   ·have hx:yI (a.ae.getD i default)=false:=by have g:dY (a.ae.getD i default).var=false:=g0;rw[yI,g];rfl
    rw[hx]at hs;refine gA Z (jC (d146 w2 false) ?_);refine gA Z (kA (d147 (aV w2 false) [(a.ae.getD i default).var] (by simp) (by rw[cq,aY];first|omega|(rw[aX,e4];omega))) ?_);refine gA Z ⟨h1,ac,_,th (hs.symm)⟩
   have hx:yI (a.ae.getD i default)=cK (a.ae.getD i default).val:=by have g:dY (a.ae.getD i default).var=true:=g0;rw[yI,g];rfl
   rw[hx]at hs;refine gA Z (jC (d146 w2 (cK (a.ae.getD i default).val)) ?_);refine gA Z (kA (d147 (aV w2 (cK (a.ae.getD i default).val)) [(a.ae.getD i default).var] (by simp) (by rw[cq,aY];first|omega|(rw[aX,e4];omega))) ?_);refine gA Z ⟨h1,ac,_,th (hs.symm)⟩
  have a0: ¬(a.ae.getD i default).kind=1:=zF k1;refine gA Z (zI (fun k2=>?_) fun k2=>?_)
  ·have b0:(a.ae.getD i default).kind=2:=zT k2;rw[kV,be a0,am b0]at hs;refine gA Z (jC (d146 w2 (decide ((a.ae.getD i default).var=⟨#[]⟩))) ?_);refine gA Z (jC (d149 (aV w2 (decide ((a.ae.getD i default).var=⟨#[]⟩))) (a.ae.getD i default).val (by rw[aY];first|omega|(rw[aX,e4];omega)) (by omega)) ?_);refine gA Z ⟨h1,ac,_,th (hs.symm)⟩
  have b0: ¬(a.ae.getD i default).kind=2:=zF k2;refine gA Z (zI (fun k3=>?_) fun k3=>?_)
  ·have c0:(a.ae.getD i default).kind=3:=zT k3;rw[kV,be a0,be b0,am c0]at hs;refine gA Z (zI (fun g0=>?_) fun g0=>?_);rotate_left
   ·have hx:yJ (a.ae.getD i default)=false:=by have g:decide ((a.ae.getD i default).var=⟨#[]⟩)=false:=g0;rw[yJ,g];rfl
    rw[hx]at hs;refine gA Z (jC (d146 w2 false) ?_);refine gA Z (kA (d147 (aV w2 false) [Jy] (by simp) (by rw[cq,aY];first|omega|(rw[aX,e4];omega))) ?_);refine gA Z ⟨h1,ac,_,th (hs.symm)⟩
   have hx:yJ (a.ae.getD i default)=cK (a.ae.getD i default).val:=by have g:decide ((a.ae.getD i default).var=⟨#[]⟩)=true:=g0;rw[yJ,g];rfl
   rw[hx]at hs;refine gA Z (jC (d146 w2 (cK (a.ae.getD i default).val)) ?_);refine gA Z (kA (d147 (aV w2 (cK (a.ae.getD i default).val)) [Jy] (by simp) (by rw[cq,aY];first|omega|(rw[aX,e4];omega))) ?_);refine gA Z ⟨h1,ac,_,th (hs.symm)⟩
  have c0: ¬(a.ae.getD i default).kind=3:=zF k3;rw[kV,be a0,be b0,be c0]at hs;refine gA Z ⟨h1,ac,_,th (hs.symm)⟩
end Go.Proofs.YtflegjieadkonaaGreatDoor
namespace Go.Proofs.YtflegjieadkonaaGreatDoor
open Go Go.Al
def xi:aj:=⟨#[110,111,116,32]⟩
def pt:aj:=⟨#[32,61,32]⟩
def px:aj:=⟨#[32,123,32]⟩
def Ek:aj:=⟨#[32,58,32]⟩
def vY:aj:=⟨#[32,125]⟩
def qn(op:Int):aj:=if op=1 then⟨#[32,61,32]⟩ else if op=2 then⟨#[32,33,61,32]⟩ else if op=3 then⟨#[32,60,32]⟩ else if op=4 then⟨#[32,60,61,32]⟩ else if op=5 then⟨#[32,62,32]⟩ else⟨#[32,62,61,32]⟩
def fx(f:Int):aj:=if f=1 then⟨#[99,111,117,110,116]⟩ else if f=2 then⟨#[115,117,109]⟩ else if f=3 then⟨#[109,105,110]⟩ else⟨#[109,97,120]⟩
def wP(w:WS)(n:Int):WS:=⟨w.fr,w.l,w.bad,w.br+n⟩
def dh(f:Lit->WS->WS)(l:List Lit)(w:WS):Nat->WS
 |0=>w
 |i+1=>if(dh f l w i).bad=true then dh f l w i else f (l.getD i default) (iw i (dh f l w i))
def rf(w:WS)(a:eQ):WS:=if a.func=1 then aV w (c4 a.dT) else a7 (cG 17 w a.dT) [Ek]
def yy(f:Lit->WS->WS)(w:WS)(a:eQ):WS:=
 if a.func<1∨5<=a.func∨16<=w.br∨a.body.length=0 then og w
 else a7 (wP (dh f a.body (wP (rf (a7 (aV w (dY a.var)) [a.var,pt,fx a.func,px]) a) 1) a.body.length) (-1)) [vY]
def C8(f:Lit->WS->WS)(l:Lit)(w:WS):WS:=
 if l.kind=2 then jQ (a7 w [xi]) l.atom else if l.kind=1 then jQ w l.atom
 else if l.kind=3 then(if l.op<1∨7<=l.op then og (cG 17 w l.left) else cG 17 (a7 (cG 17 w l.left) [qn l.op]) l.right)
 else if l.kind=4 then yy f w l.agg else og w
def en:Nat->Lit->WS->WS
 |0,_,w=>w
 |n+1,l,w=>C8 (en n) l (aV w (j6 l))
theorem di: ∀(ss:List aj) (w:WS),(a7 w ss).br=w.br
 | [],w=>rfl
 |s::r,w=>di r (A7 w s)
theorem pP(w:WS)(b:Bool):(aV w b).br=w.br:=rfl
theorem Pe(w:WS):(og w).br=w.br:=rfl
theorem yX(w:WS)(v:tg):(nh w v).br=w.br:=by rw[nh,di];rfl
theorem Db(w k:WS)(e:Expr)(h:k.br=w.br):(jm w e k).br=w.br:=by
 unfold jm
 repeat' split
 ·rfl
 ·rw[di];rfl
 ·rw[yX];rfl
 ·exact h
 ·rfl
theorem J2(b0:Bool->WS->Expr->WS)(a0: ∀b w a,(b0 b w a).br=w.br)(w:WS)(e:Expr):(jP b0 w e).br=w.br:=by
 unfold jP
 repeat' split
 ·rfl
 ·rw[a0,di,di]
 ·rw[a0,di]
 ·rfl
 ·rw[a0,di,a0]
 ·rfl
theorem n7: ∀(n:Nat) (w:WS) (e:Expr),(cG n w e).br=w.br
 |0,w,e=>rfl
 |1,w,e=>by rw[cG];exact Db _ _ _ Z
 |m+2,w,e=>by
  rw[cG];refine Db _ _ _ ?_;rw[J2 _ (fun b w a=>?_)]
  ·rfl
  ·split
   ·rw[di,n7 m,di]
   ·exact n7 (m+1) _ _
theorem qY(i:Nat)(w:WS):(iw i w).br=w.br:=by
 unfold iw;split
 ·rfl
 ·exact di _ _
theorem Je(w:WS)(t:Term):(kV w t).br=w.br:=by
 unfold kV
 repeat' split
 ·rw[di];rfl
 ·rw[yX];rfl
 ·rw[di];rfl
 ·rfl
theorem y6(l:List Term)(w:WS): ∀i,(ew l w i).br=w.br
 |0=>rfl
 |i+1=>by rw[ew,Je,qY,y6 l w i]
theorem D9(w:WS)(a:Atom):(jQ w a).br=w.br:=by rw[jQ,di,y6,di];rfl
theorem od(f:Lit->WS->WS)(hf: ∀l w,(f l w).br=w.br)(l:List Lit)(w:WS): ∀i,(dh f l w i).br=w.br
 |0=>rfl
 |i+1=>by
  rw[dh];split
  ·exact od f hf l w i
  ·rw[hf,qY,od f hf l w i]
theorem ER(w:WS)(a:eQ):(rf w a).br=w.br:=by
 unfold rf;split
 ·rfl
 ·rw[di,n7]
theorem Pm(f:Lit->WS->WS)(hf: ∀l w,(f l w).br=w.br)(w:WS)(a:eQ):(yy f w a).br=w.br:=by
 unfold yy;split
 ·rfl
 ·rw[di];show(dh _ _ _ _).br+ -1=_;rw[od f hf];show(rf _ _).br+1+ -1=_;rw[ER,di,pP];omega
theorem OE(f:Lit->WS->WS)(hf: ∀l w,(f l w).br=w.br)(l:Lit)(w:WS):(C8 f l w).br=w.br:=by
 unfold C8
 repeat' split
 ·rw[D9,di]
 ·exact D9 _ _
 ·rw[Pe,n7]
 ·rw[n7,di,n7]
 ·exact Pm f hf _ _
 ·rfl
theorem wC: ∀(n:Nat) (l:Lit) (w:WS),(en n l w).br=w.br
 |0,_,_=>rfl
 |n+1,l,w=>by rw[en,OE (en n) (wC n)];rfl
mutual
def Lit.ts:Lit->Nat
 | .mk _ a _ l r _ v o b _=>100+a.ts+l.ts+r.ts+v.size+o.ts+Lit.k9 b
def Lit.k9:List Lit->Nat
 | []=>0
 |e::r=>e.ts+Lit.k9 r
end
theorem Lit.lK(l:Lit):l.ts=100+l.atom.ts+l.left.ts+l.right.ts+l.bp.size+l.km.ts+Lit.k9 l.ar:=by cases l;rfl
theorem Lit.tk: ∀(l:List Lit) (i:Nat),i<l.length->Lit.k9 (l.take i)+(l.getD i default).ts<=Lit.k9 l
 | [],i,h=>by simp at h
 |s::r,0,_=>by simp[Lit.k9]
 |s::r,i+1,h=>by
  have:=Lit.tk r i (by simpa using h);simp only[Yh,Lit.k9,Yk];omega
theorem Lit.I7: ∀(l:List Lit) (i:Nat),Lit.k9 (l.take i)<=Lit.k9 l
 | [],i=>by simp
 |s::r,0=>by simp[Lit.k9]
 |s::r,i+1=>by have:=Lit.I7 r i;simp only[Yh,Lit.k9];omega
theorem Lit.RR(l:Lit):100<=l.ts:=by rw[l.lK];omega
theorem yb(op:Int):(qn op).size<=4:=by
 unfold qn
 repeat' split
 all_goals decide
theorem tW(op:Int):(fx op).size<=5:=by
 unfold fx
 repeat' split
 all_goals decide
def Pq(f:Lit->WS->WS):Prop:= ∀l w,(f l w).l.length+4<=w.l.length+l.ts
theorem q8(f:Lit->WS->WS)(hf:Pq f)(l:List Lit)(w:WS): ∀i,i<=l.length->(dh f l w i).l.length<=w.l.length+Lit.k9 (l.take i)
 |0,_=>by simp[dh,Lit.k9]
 |i+1,h=>by
  have h1:=q8 f hf l w i (by omega);have h5:Lit.k9 (l.take (i+1))=Lit.k9 (l.take i)+(l.getD i default).ts:=by
   rw[aN (by omega)];have: ∀(a:List Lit) (b:Lit),Lit.k9 (a++ [b])=Lit.k9 a+b.ts:=by
    intro a b
    induction a with
    |nil=>simp[Lit.k9]
    |cons x r ih=>simp only[Ym,Lit.k9,ih];omega
   exact this _ _
  rw[dh];split
  ·omega
  ·have h2:=hf (l.getD i default) (iw i (dh f l w i));have h3:=oP i (dh f l w i);omega
theorem Gj(w:WS)(a:eQ):(rf w a).l.length<=w.l.length+a.dT.ts+3:=by
 have e:Ek.size=3:=rfl;unfold rf;split
 ·rw[aY];omega
 ·have:=dW 17 w a.dT;rw[aX,e];omega
theorem zQ(w:WS)(a:eQ):(a7 (aV w (dY a.var)) [a.var,pt,fx a.func,px]).l.length<=w.l.length+a.var.size+11:=by
 have e1:pt.size=3:=rfl;have e2:px.size=3:=rfl;have h:=tW a.func;have e:gq [a.var,pt,fx a.func,px]=a.var.size+(3+((fx a.func).size+3)):=by simp[gq,e1,e2]
 rw[kr,aY,e];omega
theorem LU(f:Lit->WS->WS)(hf:Pq f)(w:WS)(a:eQ):(yy f w a).l.length<=w.l.length+a.var.size+a.dT.ts+Lit.k9 a.body+20:=by
 have e:vY.size=2:=rfl;unfold yy;split
 ·rw[gT];omega
 ·rw[aX,e];show(dh _ _ _ _).l.length+2<=_;have h1:=q8 f hf a.body (wP (rf (a7 (aV w (dY a.var)) [a.var,pt,fx a.func,px]) a) 1) a.body.length (W0 _);rw[YE]at h1;have h2:=Gj (a7 (aV w (dY a.var)) [a.var,pt,fx a.func,px]) a;have h3:=zQ w a;have h4:(wP (rf (a7 (aV w (dY a.var)) [a.var,pt,fx a.func,px]) a) 1).l.length=(rf (a7 (aV w (dY a.var)) [a.var,pt,fx a.func,px]) a).l.length:=rfl;omega
theorem Kl(f:Lit->WS->WS)(hf:Pq f)(l:Lit)(w:WS):(C8 f l w).l.length+4<=w.l.length+l.ts:=by
 have h0:=l.lK;have e:xi.size=4:=rfl;unfold C8
 repeat' split
 ·have h1:=Aq (a7 w [xi]) l.atom;rw[aX,e]at h1;omega
 ·have h1:=Aq w l.atom;omega
 ·have h1:=dW 17 w l.left;rw[gT];omega
 ·have h1:=dW 17 w l.left;have h2:=dW 17 (a7 (cG 17 w l.left) [qn l.op]) l.right;have h3:=yb l.op;rw[aX]at h2;omega
 ·have h1:=LU f hf w l.agg;have h2:l.agg.var=l.bp:=rfl;have h3:l.agg.dT=l.km:=rfl;have h4:l.agg.body=l.ar:=rfl;rw[h2,h3,h4]at h1;omega
 ·rw[gT];omega
theorem xF: ∀n,Pq (en n)
 |0=>fun l w=>by have:=l.RR;rw[en];omega
 |n+1=>fun l w=>Kl (en n) (xF n) l (aV w (j6 l))
theorem An{f:Lit->WS->WS}{l:List Lit}{w:WS}{i:Nat}(h:(dh f l w i).bad=true): ∀k,dh f l w (i+k)=dh f l w i
 |0=>rfl
 |k+1=>by
  have:=An h k;rw[<-Yu,dh,this,am h]
end Go.Proofs.YtflegjieadkonaaGreatDoor
namespace Go.Proofs.YtflegjieadkonaaGreatDoor
open Go Go.Al Go.Proofs.Tryz
def L1(n:Nat):Prop:= ∀(l:Lit) (w:WS),l.size<=n->0<=w.br->w.br<=16->w.l.length+l.ts<=900000000->b8 prog 190 [.ptr 0 0,ag l.c] w.O (.bT []) (en n l w).H 3
set_option maxHeartbeats 1000000 in
theorem d214(n:Nat)(ih:L1 n)(w:WS)(ls:List Lit)(hs:Lit.ax ls<=n)(j0:0<=w.br)(n0:w.br<=16)(hb:w.l.length+Lit.k9 ls+2<=900000000)(hn:n<=100000000):
  b8 prog 248 [.ptr 0 0, .iv (lits ls)] w.O (.bT []) (dh (en n) ls w ls.length).H 3:=by
 have e4:vZ.size=2:=rfl;have hlt:=Lit.aw ls;refine aE ab func248 Z (by decide) ntmps248 Z (by simp) ?_;refine gA Z ?_;refine aA 0 ls.length (W3 _) (fun i=>⟨[(0, .ptr 0 0),(6, .iv (lits ls)),(7,pI ls.length),(8,pI i)],[(0,some ((dh (en n) ls w i).ur 0 2)),(2,some (.bG (dh (en n) ls w i).l 5))],3⟩) (fun _=>True) _ ac
  (Vt (w:=w) Z Z Z Z Z (.refl _) (.refl _) Z Z Z Z Z (bv (bv (bv (bv trivial))))) fun i hi _=>?_
 have k0:=q8 (en n) (xF n) ls w i hi;have i0:=od (en n) (wC n) ls w i;have g0:=Lit.I7 ls i;refine gA Z (zI (fun h1=>?_) fun h1=>?_);rotate_left
 ·have h1:ls.length<=i:=zG h1;have e0:i=ls.length:=by omega
  subst e0;refine gA Z kh
 have h1:i<ls.length:=zN h1;have f0:=Lit.tk ls i h1;have m0:=Lit.aT ls i h1;have a0:dh (en n) ls w (i+1)=if(dh (en n) ls w i).bad=true then dh (en n) ls w i else en n (ls.getD i default) (iw i (dh (en n) ls w i)):=rfl;have b0:=fun h=>An (f:=en n) (l:=ls) (w:=w) (i:=i) h (ls.length-i);rw[Nat.add_sub_cancel' (Nat.le_of_lt h1)]at b0;have d0:=oP i (dh (en n) ls w i);have c0:=qY i (dh (en n) ls w i);generalize dh (en n) ls w i=w2 at*
 refine gA Z (zI (fun g=>?_) fun g=>?_)
 ·have g:w2.bad=true:=g;rw[b0 g];refine gA Z kh
 have g: ¬w2.bad=true:=by
  have g:w2.bad=false:=g;rw[g];decide
 rw[be g]at a0;refine gA Z (zI (fun h2=>?_) fun h2=>?_)
 ·have h2: ¬i=0:=by have:=zT h2;omega
  rw[iw,be h2]at a0 d0 c0;refine gA Z (kA (d147 w2 [vZ] (by simp) (by rw[cq,e4];omega)) ?_);refine gA Z (jC (ih (ls.getD i default) (a7 w2 [vZ]) (by omega) (by omega) (by omega) (by omega)) ?_);refine gA Z ⟨h1,ac,_,th (a0.symm)⟩
 ·have h2:i=0:=by have:=zF h2;omega
  rw[iw,am h2]at a0 d0 c0;refine gA Z (jC (ih (ls.getD i default) w2 (by omega) (by omega) (by omega) (by omega)) ?_);refine gA Z ⟨h1,ac,_,th (a0.symm)⟩
def eQ.ts(a:eQ):Nat:=a.var.size+a.dT.ts+Lit.k9 a.body
set_option maxHeartbeats 4000000 in
theorem d190(n:Nat)(ih:L1 n)(w:WS)(a:eQ)(hs:Lit.ax a.body<=n)(n0:0<=w.br)(p0:w.br<=16)(hb:w.l.length+a.ts+30<=900000000)(hn:n<=100000000):
  b8 prog 223 [.ptr 0 0,ag a.c] w.O (.bT []) (yy (en n) w a).H 3:=by
 refine b8.le (args:=[.ptr 0 0,ag a.c1]) ?_ ⟨.refl _,a.xG,ac⟩;have e4:vY.size=2:=rfl;have e5:Ek.size=3:=rfl;have hlt:=Lit.aw a.body;have o0:a.ts=a.var.size+a.dT.ts+Lit.k9 a.body:=rfl;have hW: ¬(a.func<1∨5<=a.func∨16<=w.br∨a.body.length=0)->yy (en n) w a=a7 (wP (dh (en n) a.body (wP (rf (a7 (aV w (dY a.var)) [a.var,pt,fx a.func,px]) a) 1) a.body.length) (-1)) [vY]:=fun h=>be h;have hB:a.func<1∨5<=a.func∨16<=w.br∨a.body.length=0->yy (en n) w a=og w:=fun h=>am h;have hh:=zQ w a;have i0:=Gj (a7 (aV w (dY a.var)) [a.var,pt,fx a.func,px]) a;have d0:=ER (a7 (aV w (dY a.var)) [a.var,pt,fx a.func,px]) a;rw[di,pP]at d0;have j0:(wP (rf (a7 (aV w (dY a.var)) [a.var,pt,fx a.func,px]) a) 1).l.length=(rf (a7 (aV w (dY a.var)) [a.var,pt,fx a.func,px]) a).l.length:=rfl;have e0:(wP (rf (a7 (aV w (dY a.var)) [a.var,pt,fx a.func,px]) a) 1).br=(rf (a7 (aV w (dY a.var)) [a.var,pt,fx a.func,px]) a).br+1:=rfl;have c0:=q8 (en n) (xF n) a.body (wP (rf (a7 (aV w (dY a.var)) [a.var,pt,fx a.func,px]) a) 1) a.body.length (W0 _);rw[YE]at c0;have f0:=od (en n) (wC n) a.body (wP (rf (a7 (aV w (dY a.var)) [a.var,pt,fx a.func,px]) a) 1) a.body.length;have g0:gq [a.var,pt,fx a.func,px]=a.var.size+(3+((fx a.func).size+3)):=by simp[gq,pt,px];rfl
 have k0:=tW a.func;obtain⟨b0,a0,dT,body⟩:=a;dsimp only at*
 refine aE ab func223 Z (by decide) ntmps223 Z (by simp) ?_;refine gA Z (zI (fun g1=>?_) fun g1=>?_);rotate_left
 ·rw[hB (.inl (zT g1))];refine gA Z kh
 refine gA Z (zI (fun g2=>?_) fun g2=>?_);rotate_left
 ·rw[hB (.inr (.inl (zT g2)))];refine gA Z kh
 refine gA Z (zI (fun g3=>?_) fun g3=>?_);rotate_left
 ·rw[hB (.inr (.inr (.inl (zT g3))))];refine gA Z kh
 refine gA Z (zI (fun g4=>?_) fun g4=>?_)
 ·rw[hB (.inr (.inr (.inr (aag.1 (zT g4)))))];refine gA Z kh
 have g1: ¬b0<1:=zF g1;have g2: ¬b0>=5:=zF g2;have g3: ¬w.br>=16:=zF g3;have g4: ¬body.length=0:=fun h=>zF g4 (aag.2 h);rw[hW (by rintro(h|h|h|h)<;>omega)];have hf:b0=1∨b0=2∨b0=3∨b0=4:=by omega
 clear hW hB;rcases hf with rfl|rfl|rfl|rfl
 ·have e:fx 1=⟨#[99,111,117,110,116]⟩:=rfl;rw[e]at hh i0 d0 j0 e0 c0 f0 g0 k0 ⊢;refine gA Z (zp (Fz a0) ?_);refine gA Z (jC (d146 w (dY a0)) ?_);refine gA Z (BB (d147 (aV w (dY a0)) [a0,pt,⟨#[99,111,117,110,116]⟩,px] (by simp) (by rw[g0,aY];omega)) Z Z Z Z Z Z Z Z Z Z Z Z Z Z Z Z (by(repeat' (first|exact ac|exact rfl|exact aH.refl _|exact aH.bk (by assumption)|apply XA))<;>first|omega|(simp only[Xp];omega)|(simp;done)|(simp;omega)) Z (by(repeat' (first|exact ac|exact rfl|exact aH.refl _|exact aH.bk (by assumption)|apply XA))<;>first|omega|(simp only[Xp];omega)|(simp;done)|(simp;omega)) ?_);generalize m0:a7 (aV w (dY a0)) [a0,pt,⟨#[99,111,117,110,116]⟩,px]=w1 at*
  have eo:rf w1 ⟨1,a0,dT,body⟩=aV w1 (c4 dT):=rfl;rw[eo]at i0 d0 j0 e0 c0 f0 ⊢;refine gA Z (zI (fun q=>?_) fun q=>?_);rotate_left
  ·exact absurd (show true=false from q) (by decide)
  refine gA Z (zp (Pc dT) ?_);refine gA Z (jC (d146 w1 (c4 dT)) ?_);generalize aV w1 (c4 dT)=w2 at*
  refine gA Z (jC (d214 n ih (wP w2 1) body hs (by omega) (by omega) (by omega) hn) ?_);generalize dh (en n) body (wP w2 1) body.length=w3 at*
  refine gA Z (go_wp (d147 (wP w3 (-1)) [vY] (by simp) (by rw[cq,e4];show w3.l.length+2<=_;omega)) Z Z Z Z Z Z Z Z Z Z Z Z ?_);refine gA Z kh
 ·have e:fx 2=⟨#[115,117,109]⟩:=rfl;rw[e]at hh i0 d0 j0 e0 c0 f0 g0 k0 ⊢;refine gA Z (zp (Fz a0) ?_);refine gA Z (jC (d146 w (dY a0)) ?_);refine gA Z (BB (d147 (aV w (dY a0)) [a0,pt,⟨#[115,117,109]⟩,px] (by simp) (by rw[g0,aY];omega)) Z Z Z Z Z Z Z Z Z Z Z Z Z Z Z Z (by(repeat' (first|exact ac|exact rfl|exact aH.refl _|exact aH.bk (by assumption)|apply XA))<;>first|omega|(simp only[Xp];omega)|(simp;done)|(simp;omega)) Z (by(repeat' (first|exact ac|exact rfl|exact aH.refl _|exact aH.bk (by assumption)|apply XA))<;>first|omega|(simp only[Xp];omega)|(simp;done)|(simp;omega)) ?_);generalize m0:a7 (aV w (dY a0)) [a0,pt,⟨#[115,117,109]⟩,px]=w1 at*
  have eo:rf w1 ⟨2,a0,dT,body⟩=a7 (cG 17 w1 dT) [Ek]:=rfl;rw[eo]at i0 d0 j0 e0 c0 f0 ⊢;refine gA Z (zI (fun q=>?_) fun q=>?_)
  ·exact absurd (show false=true from q) (by decide)
  have hx:=dW 17 w1 dT;refine gA Z (jC (rR w1 dT (by omega)) ?_);refine gA Z (kA (d147 (cG 17 w1 dT) [Ek] (by simp) (by rw[cq,e5];omega)) ?_);generalize a7 (cG 17 w1 dT) [Ek]=w2 at*
  refine gA Z (jC (d214 n ih (wP w2 1) body hs (by omega) (by omega) (by omega) hn) ?_);generalize dh (en n) body (wP w2 1) body.length=w3 at*
  refine gA Z (go_wp (d147 (wP w3 (-1)) [vY] (by simp) (by rw[cq,e4];show w3.l.length+2<=_;omega)) Z Z Z Z Z Z Z Z Z Z Z Z ?_);refine gA Z kh
 ·have e:fx 3=⟨#[109,105,110]⟩:=rfl;rw[e]at hh i0 d0 j0 e0 c0 f0 g0 k0 ⊢;refine gA Z (zp (Fz a0) ?_);refine gA Z (jC (d146 w (dY a0)) ?_);refine gA Z (BB (d147 (aV w (dY a0)) [a0,pt,⟨#[109,105,110]⟩,px] (by simp) (by rw[g0,aY];omega)) Z Z Z Z Z Z Z Z Z Z Z Z Z Z Z Z (by(repeat' (first|exact ac|exact rfl|exact aH.refl _|exact aH.bk (by assumption)|apply XA))<;>first|omega|(simp only[Xp];omega)|(simp;done)|(simp;omega)) Z (by(repeat' (first|exact ac|exact rfl|exact aH.refl _|exact aH.bk (by assumption)|apply XA))<;>first|omega|(simp only[Xp];omega)|(simp;done)|(simp;omega)) ?_);generalize m0:a7 (aV w (dY a0)) [a0,pt,⟨#[109,105,110]⟩,px]=w1 at*
  have eo:rf w1 ⟨3,a0,dT,body⟩=a7 (cG 17 w1 dT) [Ek]:=rfl;rw[eo]at i0 d0 j0 e0 c0 f0 ⊢;refine gA Z (zI (fun q=>?_) fun q=>?_)
  ·exact absurd (show false=true from q) (by decide)
  have hx:=dW 17 w1 dT;refine gA Z (jC (rR w1 dT (by omega)) ?_);refine gA Z (kA (d147 (cG 17 w1 dT) [Ek] (by simp) (by rw[cq,e5];omega)) ?_);generalize a7 (cG 17 w1 dT) [Ek]=w2 at*
  refine gA Z (jC (d214 n ih (wP w2 1) body hs (by omega) (by omega) (by omega) hn) ?_);generalize dh (en n) body (wP w2 1) body.length=w3 at*
  refine gA Z (go_wp (d147 (wP w3 (-1)) [vY] (by simp) (by rw[cq,e4];show w3.l.length+2<=_;omega)) Z Z Z Z Z Z Z Z Z Z Z Z ?_);refine gA Z kh
 ·have e:fx 4=⟨#[109,97,120]⟩:=rfl;rw[e]at hh i0 d0 j0 e0 c0 f0 g0 k0 ⊢;refine gA Z (zp (Fz a0) ?_);refine gA Z (jC (d146 w (dY a0)) ?_);refine gA Z (BB (d147 (aV w (dY a0)) [a0,pt,⟨#[109,97,120]⟩,px] (by simp) (by rw[g0,aY];omega)) Z Z Z Z Z Z Z Z Z Z Z Z Z Z Z Z (by(repeat' (first|exact ac|exact rfl|exact aH.refl _|exact aH.bk (by assumption)|apply XA))<;>first|omega|(simp only[Xp];omega)|(simp;done)|(simp;omega)) Z (by(repeat' (first|exact ac|exact rfl|exact aH.refl _|exact aH.bk (by assumption)|apply XA))<;>first|omega|(simp only[Xp];omega)|(simp;done)|(simp;omega)) ?_);generalize m0:a7 (aV w (dY a0)) [a0,pt,⟨#[109,97,120]⟩,px]=w1 at*
  have eo:rf w1 ⟨4,a0,dT,body⟩=a7 (cG 17 w1 dT) [Ek]:=rfl;rw[eo]at i0 d0 j0 e0 c0 f0 ⊢;refine gA Z (zI (fun q=>?_) fun q=>?_)
  ·exact absurd (show false=true from q) (by decide)
  have hx:=dW 17 w1 dT;refine gA Z (jC (rR w1 dT (by omega)) ?_);refine gA Z (kA (d147 (cG 17 w1 dT) [Ek] (by simp) (by rw[cq,e5];omega)) ?_);generalize a7 (cG 17 w1 dT) [Ek]=w2 at*
  refine gA Z (jC (d214 n ih (wP w2 1) body hs (by omega) (by omega) (by omega) hn) ?_);generalize dh (en n) body (wP w2 1) body.length=w3 at*
  refine gA Z (go_wp (d147 (wP w3 (-1)) [vY] (by simp) (by rw[cq,e4];show w3.l.length+2<=_;omega)) Z Z Z Z Z Z Z Z Z Z Z Z ?_);refine gA Z kh
set_option maxHeartbeats 4000000 in
theorem Iz(n:Nat)(ih:L1 n)(hn:n<=100000000):L1 (n+1):=by
 intro l w hs i0 j0 hb;have e4:xi.size=4:=rfl;have d0:=l.size_eq;have e0:=l.lK;have hag:l.agg.ts=l.bp.size+l.km.ts+Lit.k9 l.ar:=rfl;have hL:en (n+1) l w=C8 (en n) l (aV w (j6 l)):=rfl;rw[hL];have f0:(aV w (j6 l)).l.length=w.l.length:=rfl;have g0:=pP w (j6 l);have hx:=dW 17 (aV w (j6 l)) l.left;obtain⟨a0,b0,op,left,right,dP,bp,km,ar,c0⟩:=l;dsimp only[Lit.atom,Lit.left,Lit.right,Lit.bp,Lit.km,Lit.ar]at d0 e0 hag hx;refine aE ab func190 Z (by decide) ntmps190 Z (by simp) ?_;refine gA Z (zp (Wi (.mk a0 b0 op left right dP bp km ar c0)) ?_);refine gA Z (jC (d146 w (j6 (.mk a0 b0 op left right dP bp km ar c0))) ?_);generalize aV w (j6 (.mk a0 b0 op left right dP bp km ar c0))=w1 at*
 have hK:C8 (en n) (.mk a0 b0 op left right dP bp km ar c0) w1=if a0=2 then jQ (a7 w1 [xi]) b0 else if a0=1 then jQ w1 b0
  else if a0=3 then(if op<1∨7<=op then og (cG 17 w1 left) else cG 17 (a7 (cG 17 w1 left) [qn op]) right)
  else if a0=4 then yy (en n) w1 (Lit.mk a0 b0 op left right dP bp km ar c0).agg else og w1:=rfl
 rw[hK];refine gA Z (zI (fun k2=>?_) fun k2=>?_)
 ·have k2:a0=2:=zT k2;rw[am k2];refine gA Z (kA (d147 w1 [xi] (by simp) (by rw[cq,e4];omega)) ?_);refine gA Z (jC (d104 (a7 w1 [xi]) b0 (by rw[aX,e4];omega)) ?_);refine gA Z kh
 have k2: ¬a0=2:=zF k2;rw[be k2];refine gA Z (zI (fun k1=>?_) fun k1=>?_)
 ·have k1:a0=1:=zT k1;rw[am k1];refine gA Z (jC (d104 w1 b0 (by omega)) ?_);refine gA Z kh
 have k1: ¬a0=1:=zF k1;rw[be k1];refine gA Z (zI (fun k3=>?_) fun k3=>?_);rotate_left
 ·have k3: ¬a0=3:=zF k3;rw[be k3];refine gA Z (zI (fun k4=>?_) fun k4=>?_)
  ·have k4:a0=4:=zT k4;rw[am k4];refine gA Z (jC (d190 n ih w1 (Lit.mk a0 b0 op left right dP bp km ar c0).agg (by show Lit.ax ar<=n;omega) (by omega) (by omega) (by omega) hn) ?_);refine gA Z kh
  ·have k4: ¬a0=4:=zF k4;rw[be k4];refine gA Z kh
 have k3:a0=3:=zT k3;rw[am k3];refine gA Z (jC (rR w1 left (by omega)) ?_);refine gA Z (zI (fun g1=>?_) fun g1=>?_);rotate_left
 ·rw[am (.inl (zT g1))];refine gA Z kh
 refine gA Z (zI (fun g2=>?_) fun g2=>?_)
 ·rw[am (.inr (zT g2))];refine gA Z kh
 have g1: ¬op<1:=zF g1;have g2: ¬op>=7:=zF g2;rw[be (by rintro(h|h)<;>omega)];generalize cG 17 w1 left=w2 at*
 have ho:op=1∨op=2∨op=3∨op=4∨op=5∨op=6:=by omega
 clear hK hL;rcases ho with rfl|rfl|rfl|rfl|rfl|rfl
 ·have e:qn 1=⟨#[32,61,32]⟩:=rfl;have e6:((⟨#[32,61,32]⟩:aj)).size=3:=rfl;rw[e];refine nX Z (by dsimp only[Lit.op];exact(by(repeat' (first|exact ac|exact rfl|exact aH.refl _|exact aH.bk (by assumption)|apply XA))<;>first|omega|(simp only[Xp];omega)|(simp;done)|(simp;omega))) (go_wp (d147 w2 [⟨#[32,61,32]⟩] (by simp) (by rw[cq,e6];omega)) Z Z Z Z Z Z Z Z Z Z Z Z ?_);refine gA Z (jC (rR (a7 w2 [⟨#[32,61,32]⟩]) right (by rw[aX,e6];omega)) ?_);refine gA Z kh
 ·have e:qn 2=⟨#[32,33,61,32]⟩:=rfl;have e6:((⟨#[32,33,61,32]⟩:aj)).size=4:=rfl;rw[e];refine nX Z (by dsimp only[Lit.op];exact(by(repeat' (first|exact ac|exact rfl|exact aH.refl _|exact aH.bk (by assumption)|apply XA))<;>first|omega|(simp only[Xp];omega)|(simp;done)|(simp;omega))) (go_wp (d147 w2 [⟨#[32,33,61,32]⟩] (by simp) (by rw[cq,e6];omega)) Z Z Z Z Z Z Z Z Z Z Z Z ?_);refine gA Z (jC (rR (a7 w2 [⟨#[32,33,61,32]⟩]) right (by rw[aX,e6];omega)) ?_);refine gA Z kh
 ·have e:qn 3=⟨#[32,60,32]⟩:=rfl;have e6:((⟨#[32,60,32]⟩:aj)).size=3:=rfl;rw[e];refine nX Z (by dsimp only[Lit.op];exact(by(repeat' (first|exact ac|exact rfl|exact aH.refl _|exact aH.bk (by assumption)|apply XA))<;>first|omega|(simp only[Xp];omega)|(simp;done)|(simp;omega))) (go_wp (d147 w2 [⟨#[32,60,32]⟩] (by simp) (by rw[cq,e6];omega)) Z Z Z Z Z Z Z Z Z Z Z Z ?_);refine gA Z (jC (rR (a7 w2 [⟨#[32,60,32]⟩]) right (by rw[aX,e6];omega)) ?_);refine gA Z kh
 ·have e:qn 4=⟨#[32,60,61,32]⟩:=rfl;have e6:((⟨#[32,60,61,32]⟩:aj)).size=4:=rfl;rw[e];refine nX Z (by dsimp only[Lit.op];exact(by(repeat' (first|exact ac|exact rfl|exact aH.refl _|exact aH.bk (by assumption)|apply XA))<;>first|omega|(simp only[Xp];omega)|(simp;done)|(simp;omega))) (go_wp (d147 w2 [⟨#[32,60,61,32]⟩] (by simp) (by rw[cq,e6];omega)) Z Z Z Z Z Z Z Z Z Z Z Z ?_);refine gA Z (jC (rR (a7 w2 [⟨#[32,60,61,32]⟩]) right (by rw[aX,e6];omega)) ?_);refine gA Z kh
 ·have e:qn 5=⟨#[32,62,32]⟩:=rfl;have e6:((⟨#[32,62,32]⟩:aj)).size=3:=rfl;rw[e];refine nX Z (by dsimp only[Lit.op];exact(by(repeat' (first|exact ac|exact rfl|exact aH.refl _|exact aH.bk (by assumption)|apply XA))<;>first|omega|(simp only[Xp];omega)|(simp;done)|(simp;omega))) (go_wp (d147 w2 [⟨#[32,62,32]⟩] (by simp) (by rw[cq,e6];omega)) Z Z Z Z Z Z Z Z Z Z Z Z ?_);refine gA Z (jC (rR (a7 w2 [⟨#[32,62,32]⟩]) right (by rw[aX,e6];omega)) ?_);refine gA Z kh
 ·have e:qn 6=⟨#[32,62,61,32]⟩:=rfl;have e6:((⟨#[32,62,61,32]⟩:aj)).size=4:=rfl;rw[e];refine nX Z (by dsimp only[Lit.op];exact(by(repeat' (first|exact ac|exact rfl|exact aH.refl _|exact aH.bk (by assumption)|apply XA))<;>first|omega|(simp only[Xp];omega)|(simp;done)|(simp;omega))) (go_wp (d147 w2 [⟨#[32,62,61,32]⟩] (by simp) (by rw[cq,e6];omega)) Z Z Z Z Z Z Z Z Z Z Z Z ?_);refine gA Z (jC (rR (a7 w2 [⟨#[32,62,61,32]⟩]) right (by rw[aX,e6];omega)) ?_);refine gA Z kh
theorem Ul: ∀n,n<=100000001->L1 n
 |0,_=>fun l w hs=>by have:=l.size_pos;omega
 |n+1,h=>Iz n (Ul n (by omega)) (by omega)
end Go.Proofs.YtflegjieadkonaaGreatDoor
namespace Go.Proofs.YtflegjieadkonaaGreatDoor
open Go Go.Al Go.Proofs.Tryz
abbrev WS.o:WS:=⟨true,[],false,0⟩
section
variable {nt:Nat} {Q:AQ} {k:List KI} {s:AS}
def wN(s:AS)(i:Nat):AS:=match s with|⟨f,h,n⟩=>⟨f,(i,some (WS.o.ur i n))::(n,some (.bG [] 5))::h,n+1⟩
theorem GI{P:Program}{c:Code}{s':AS}(i:Nat)(hi:s.h.get i=some (.cells [.iv (.v (.pointer none)), .iv (.v (.slice none 0 0)),pB false,pI 0] (some 247)))
  (hs:wN s i=s') (h:GO P nt (.code c::k) Q s'):GO P nt (.code c::k) Q s:=by
 subst hs;intro M N a w hf;obtain⟨sf,sh,sn⟩:=s;obtain⟨h1,h2⟩:=hf.1.Px 5;have hlt:i<sn:=hf.1.used i _ hi;have hne:i≠sn:=fun e=>by omega
 have a0:AH.get ((sn,some (AO.bG [] 5))::sh) i=some (.cells [.iv (.v (.pointer none)), .iv (.v (.slice none 0 0)),pB false,pI 0] (some 247)):=by
  rw[AH.au,be hne];exact hi
 obtain⟨c0,T,e1,e2,e3,e4,e5⟩:=h2.obj i _ a0;have hv: ∀(j:Nat) (p:PV),[PV.fv true i, .sl sn 0 0 1,pB false,pI 0][j]? =some p->VR M N (· <sn+1) p (c0.getD j undef):=by
  intro j p hp
  match j,hp with
  |0,hp=>
   cases hp;have:=e4 0 _ Z;generalize c0.getD 0 undef=v at this ⊢;cases this with
   |iv _ _ h=>cases h with
    |v=>exact .fv true i (YS hlt)
  |1,hp=>
   cases hp;have:=e4 1 _ Z;generalize c0.getD 1 undef=v at this ⊢;cases this with
   |iv _ _ h=>cases h with
    |v=>exact .ph _ _ (YC _)
  |2,hp=>exact e4 2 p hp
  |3,hp=>exact e4 3 p hp
  |j+4,hp=>cases hp
 obtain⟨g1,g2⟩:=h2.write (i:=i) (o0:= .cells [.iv (.v (.pointer none)), .iv (.v (.slice none 0 0)),pB false,pI 0] (some 247)) a0 Z w (WS.o.ur i sn) Z Z Z Z (fun _ _=>rfl) ⟨c0,T,e1,e2,e3,hv,e5⟩;have f0:Fits M N ⟨sf,(i,some (WS.o.ur i sn))::(sn,some (.bG [] 5))::sh,sn+1⟩ nt a w:=
  ⟨g2,fun k=>(hf.2.1 k).mono (.refl _) (.refl _ _) (fun i hi=>YS hi),hf.2.2⟩
 exact AW.then h f0 fun e a2 w2 M2 N2 s2 b0 e0 d0=>⟨M2,N2,s2,(h1.trans g1).trans b0,e0,d0⟩
end
def WS.told(w:WS):PV:= .bT [pS (if w.bad=true then⟨#[]⟩ else⟨w.l.toArray⟩),pI (if w.bad=true then 50 else 0)]
theorem d105(w:WS):b8 prog 189 [.ptr 0 0] w.O w.told [] 2:=by
 refine aE ab func189 Z (by decide) ntmps189 Z (by simp) ?_;refine gA Z (zI (fun g=>?_) fun g=>?_)
 ·have g:w.bad=true:=g;unfold WS.told;rw[am g,am g];refine gA Z (aC [] (by first|exact .inr Z|exact .inl Z) Z (zW ac))
 ·have g: ¬w.bad=true:=by
   have g:w.bad=false:=g;rw[g];decide
  unfold WS.told;rw[be g,be g];refine gA Z (zq [0,1] (d150 w) ?_);refine gA Z (aC [] (by first|exact .inr Z|exact .inl Z) Z (zW ac))
def Vf(a:Atom):PV:=(jQ WS.o a).told
def Vy(l:Lit):PV:=(en l.size l WS.o).told
theorem c61(a:Atom)(hb:a.ts<=900000000):Pure prog 157 [ag a.c] (Vf a):=by
 refine ad ab func157 Z (by decide) ntmps157 Z (by simp) Z ?_;refine gM 12 Z (GI 1 Z Z ?_);refine gA Z (jC (d104 WS.o a (by simpa using hb)) ?_);refine gA Z (zq [1,3] (d105 (jQ WS.o a)) ?_);refine gA Z (zL (.of_eq ?_));rfl
theorem WD(l:Lit)(hb:l.ts<=900000000)(hs:l.size<=100000000):Pure prog 158 [ag l.c] (Vy l):=by
 refine ad ab func158 Z (by decide) ntmps158 Z (by simp) Z ?_;refine gM 12 Z (GI 1 Z Z ?_);refine gA Z (jC (Ul l.size (by omega) l WS.o (W0 _) (by decide) (by decide) (by simpa using hb)) ?_);refine gA Z (zq [1,3] (d105 (en l.size l WS.o)) ?_);refine gA Z (zL (.of_eq ?_));rfl
end Go.Proofs.YtflegjieadkonaaGreatDoor
namespace Go.Proofs.YtflegjieadkonaaGreatDoor
open Go Go.Al Go.Proofs.Tryz
def sw(d:Decl)(i k:Int):Int:=
 if(d.types.any fun x=>!decide (x=1)&&!decide (x=2))=true∨eh d.name=false then 1
 else if i>=64∨(d.types.length:Int)>8 then 66 else if k>0 then 60 else 0
theorem WE(d:Decl)(i k:Int):Pure prog 123 [ag d.c,pI i,pI k] (pI (sw d i k)):=by
 refine ad ab func123 Z (by decide) ntmps123 Z (by simp) Z ?_;refine gA Z (zq [] (d153 d.types) ?_);refine gA Z (zI (fun g1=>?_) fun g1=>?_);rotate_left
 ·rw[sw,am (.inl (by simpa using g1))];refine gA Z (zL (.of_eq ?_));rfl
 have g1: ¬(d.types.any fun x=>!decide (x=1)&&!decide (x=2))=true:=by
  have g1:(d.types.any fun x=>!decide (x=1)&&!decide (x=2))=false:=g1;rw[g1];decide
 refine gA Z (zp (VO d.name) ?_);refine gA Z (zI (fun g2=>?_) fun g2=>?_)
 ·have g2:eh d.name=false:=by simpa using g2
  rw[sw,am (.inr g2)];refine gA Z (zL (.of_eq ?_));rfl
 have g2: ¬eh d.name=false:=by
  have g2:eh d.name=true:=by simpa using g2
  rw[g2];decide
 rw[sw,be (by rintro(h|h);exact g1 h;exact g2 h)];refine gA Z (zI (fun g3=>?_) fun g3=>?_);rotate_left
 ·rw[am (.inl (by simpa using g3))];refine gA Z (zL (.of_eq ?_));rfl
 have g3: ¬i>=64:=zF g3;refine gA Z (zI (fun g4=>?_) fun g4=>?_)
 ·rw[am (.inr (zT g4))];refine gA Z (zL (.of_eq ?_));rfl
 have g4: ¬(d.types.length:Int)>8:=zF g4;rw[be (by rintro(h|h);exact g3 h;exact g4 h)];refine gA Z (zI (fun g5=>?_) fun g5=>?_)
 ·rw[am (zT g5)];refine gA Z (zL (.of_eq ?_));rfl
 ·rw[be (zF g5)];refine gA Z (zL (.of_eq ?_));rfl
abbrev aL:=(KC.si .i64).K
def aL.z:aL:=(W4,0)
def aL.c(s:aL):List IV:=[iS s.1,iI s.2]
def spE(s:aL):IV:= .agg s.c
def spZ:Value:= .agg #[.string W4, .int .i64 0]
def dvP:PV->aL
 | .agg [.iv (.v (.string s)), .iv (.v (.int _ a))]=>(s,a)
 |_=>aL.z
abbrev UM:=List (aL×aL)
abbrev KM:=List (aL×Int)
abbrev rv(m:UM):AO:= .map (.si .i64) spE aL.z spZ dvP m
abbrev upI(m:UM):IV:= .fw (.si .i64) spE aL.z spZ m
abbrev rK(m:KM):AO:= .map (.si .i64) xY 0 (.int .i64 0) Vp m
abbrev kdI(m:KM):IV:= .fw (.si .i64) xY 0 (.int .i64 0) m
structure Want where
 lit:Int
 at_:aL
 kind:Int
 has:Int
 deriving Inhabited
def Want.c(w:Want):List IV:=[iI w.lit,iS w.at_.1,iI w.at_.2,iI w.kind,iI w.has]
structure TS where
 up:UM
 ws:List Want
 kind:KM
abbrev TS.cell(r:aq)(u j n k:Nat):AO:= .cells [.iv (c6 r), .mp u, .sl j 0 n 5, .mp k]
abbrev TS.O(r:aq)(t:TS):List AO:=[TS.cell r 1 2 t.ws.length 3,rv t.up,aD 5 t.ws Want.c,rK t.kind]
abbrev TS.K(r:aq)(t:TS):AH:=[(0,some (TS.cell r 1 2 t.ws.length 3)),(1,some (rv t.up)),(2,some (aD 5 t.ws Want.c)),(3,some (rK t.kind))]
abbrev TS.H(r:aq)(t:TS):AH:=[(0,some (TS.cell r 1 4 t.ws.length 3)),(1,some (rv t.up)),(4,some (aD 5 t.ws Want.c)),(3,some (rK t.kind))]
def bh(r:aq)(s:aj)(w:Int):aL:=(s,if bQ .str (aJ (az r)) s 0>0 then-1 else w)
theorem d136(r:aq)(t:TS)(s:aj)(w:Int):b8 prog 225 [.ptr 0 0,pS s,pI w] (t.O r) (ag (bh r s w).c) (t.K r) 4:=by
 refine aE ab func225 Z (by decide) ntmps225 Z (by simp) ?_;refine gA Z (zI (fun g=>?_) fun g=>?_)
 ·have e:bh r s w=(s, -1):=by unfold bh;rw[am (zT g)]
  rw[e];refine gA Z (aC [] (by first|exact .inr Z|exact .inl Z) Z (zW (zO (hM Z Z Z ⟨⟨_,rfl, .of_eq (bC _).symm⟩,WR Z,cL _,hM Z Z Z ac⟩))))
 ·have e:bh r s w=(s,w):=by unfold bh;rw[be (zF g)]
  rw[e];refine gA Z (aC [] (by first|exact .inr Z|exact .inl Z) Z (zW (zO (hM Z Z Z ⟨⟨_,rfl, .of_eq (bC _).symm⟩,WR Z,cL _,hM Z Z Z ac⟩))))
def aP:UM->aL->aL
 | [],v=>v
 |(x,y)::r,v=>if x=v then aP r y else aP r v
def iA:UM->Prop
 | []=>True
 |(x,y)::r=>x≠y∧(∀q∈r,q.1≠x)∧(∀q∈r,q.2≠x)∧iA r
def Hi:UM->aL->Nat
 | [],_=>0
 |(x,_)::r,v=>if x=v then r.length+1 else Hi r v
theorem I2: ∀(m:UM) (v:aL),Hi m v<=m.length
 | [],_=>W0 _
 |(x,y)::r,v=>by
  have:=I2 r v;unfold Hi;split
  ·simp
  ·simp;omega
theorem tA: ∀(m:UM) (v:aL),dV (.si .i64) m v=false->aP m v=v
 | [],_,_=>rfl
 |(x,y)::r,v,h=>by
  unfold dV at h;unfold aP;split at h
  ·cases h
  ·rename_i hx;rw[be hx];exact tA r v h
theorem NS{m:UM}{v:aL}(h: ∀q∈m,q.1≠v):aP m v=v:=by
 induction m with
 |nil=>rfl
 |cons a r ih=>
  obtain⟨x,y⟩:=a;unfold aP;rw[be (h _ (Xd))];exact ih fun q hq=>h q (W8 _ hq)
theorem pC: ∀(m:UM) (v:aL),iA m->dV (.si .i64) m v=true->aP m (bQ (.si .i64) m v aL.z)=aP m v∧Hi m (bQ (.si .i64) m v aL.z)<Hi m v
 | [],_,_,h=>nomatch h
 |(x,y)::r,v,ok,h=>by
  obtain⟨o1,o2,o3,o4⟩:=ok;by_cases hx:x=v
  ·subst hx;have e:bQ (.si .i64) ((x,y)::r) x aL.z=y:=am Z;rw[e];refine⟨?_,?_⟩
   ·show(if x=y then aP r y else aP r y)=if x=x then aP r y else aP r x;rw[am Z];split<;>rfl
   ·show(if x=y then r.length+1 else Hi r y)<if x=x then r.length+1 else Hi r x;rw[am Z,be o1];have:=I2 r y;omega
  ·have e:bQ (.si .i64) ((x,y)::r) v aL.z=bQ (.si .i64) r v aL.z:=be hx;have h2:dV (.si .i64) r v=true:=by
    unfold dV at h;rw[be hx]at h;exact h
   rw[e];obtain⟨g1,g2⟩:=pC r v o4 h2;have hne:bQ (.si .i64) r v aL.z≠x:=by
    have: ∀(m:UM),(∀q∈m,q.2≠x)->dV (.si .i64) m v=true->bQ (.si .i64) m v aL.z≠x:=by
     intro m
     induction m with
     |nil=>intro _ h;cases h
     |cons a r ih=>
      obtain⟨x',y'⟩:=a;intro hm h;unfold dV at h;unfold bQ;split at h
      ·rename_i a0;rw[am a0];exact hm _ Xd
      ·rename_i a0;rw[be a0];exact ih (fun q hq=>hm q (W8 _ hq)) h
    exact this r o3 h2
   refine⟨?_,?_⟩
   ·show(if x=_ then aP r y else aP r _)=if x=v then aP r y else aP r v;rw[be (fun e=>hne e.symm),be hx];exact g1
   ·show(if x=_ then r.length+1 else Hi r _)<if x=v then r.length+1 else Hi r v;rw[be (fun e=>hne e.symm),be hx];exact g2
theorem d52(r:aq)(t:TS)(v0:aL)(ok:iA t.up):b8 prog 201 [.ptr 0 0,ag v0.c] (t.O r) (ag (aP t.up v0).c) (t.K r) 4:=by
 refine aE ab func201 Z (by decide) ntmps201 Z (by simp) ?_;refine gA Z ?_
 refine o8 (σ:={v:aL//aP t.up v=aP t.up v0}) (fun v=>⟨[(0, .ptr 0 0),(3, .ptr 4 0),(4, .ptr 5 0)],
  [(0,some (TS.cell r 1 2 t.ws.length 3)),(1,some (rv t.up)),(2,some (aD 5 t.ws Want.c)),(3,some (rK t.kind)),(4,some (.cells [pS v.1.1,pI v.1.2])),(5,some (.cells [pS ⟨#[]⟩,pI 0]))],6⟩) (fun v=>Hi t.up v.1) ⟨v0,rfl⟩ []
  (zW (zO (hM Z Z Z ⟨⟨_,rfl, .of_eq (bC _).symm⟩,WR Z,cL _,hM Z Z Z ⟨⟨_,rfl, .of_eq Z⟩,WR Z,rfl,⟨_,rfl, .of_eq Z⟩,WR Z,rfl,ac⟩⟩))) fun v=>?_
 obtain⟨v,hv⟩:=v;refine gA Z (zI (fun g=>?_) fun g=>?_)
 ·have h:dV (.si .i64) t.up v=false:=by simpa using g
  have e:aP t.up v0=v:=by rw[<-hv];exact tA t.up v h
  refine gA Z (aC [] (by first|exact .inr Z|exact .inl Z) Z (zM ⟨.of_eq (congrArg (fun x:aL=>ag x.c) e.symm),rfl,ac⟩ (zO (hM Z Z Z ⟨⟨_,rfl, .of_eq (bC _).symm⟩,WR Z,cL _,hM Z Z Z ac⟩))))
 ·have h:dV (.si .i64) t.up v=true:=by simpa using g
  obtain⟨h1,h2⟩:=pC t.up v ok h;refine gA Z ⟨⟨bQ (.si .i64) t.up v aL.z,h1.trans hv⟩,[],h2,zW (zO (hM Z Z Z ⟨⟨_,rfl, .of_eq (bC _).symm⟩,WR Z,cL _,hM Z Z Z ⟨⟨_,rfl, .of_eq Z⟩,WR Z,rfl,⟨_,rfl, .of_eq Z⟩,WR Z,rfl,ac⟩⟩))⟩
def RQ(r:aq)(t:TS):IV:= .mf [c6 r,upI t.up,dy 5 t.ws Want.c,kdI t.kind]
theorem c52(r:aq)(t:TS)(v0:aL)(ok:iA t.up):Pure prog 201 [.iv (RQ r t),ag v0.c] (ag (aP t.up v0).c):=by
 refine ad ab func201 Z (by decide) ntmps201 Z (by simp) Z ?_;refine gA Z ?_
 refine o8 (σ:={v:aL//aP t.up v=aP t.up v0}) (fun v=>⟨[(0, .iv (RQ r t)),(3, .ptr 0 0),(4, .ptr 1 0)],
  [(0,some (.cells [pS v.1.1,pI v.1.2])),(1,some (.cells [pS ⟨#[]⟩,pI 0]))],2⟩) (fun v=>Hi t.up v.1) ⟨v0,rfl⟩ []
  (zW ⟨⟨_,rfl, .of_eq Z⟩,WR Z,rfl,⟨_,rfl, .of_eq Z⟩,WR Z,rfl,ac⟩) fun v=>?_
 obtain⟨v,hv⟩:=v;refine gA Z (zI (fun g=>?_) fun g=>?_)
 ·have h:dV (.si .i64) t.up v=false:=by simpa using g
  have e:aP t.up v0=v:=by rw[<-hv];exact tA t.up v h
  refine gA Z (zL (.of_eq ?_));exact congrArg (fun x:aL=>ag x.c) e.symm
 ·have h:dV (.si .i64) t.up v=true:=by simpa using g
  obtain⟨h1,h2⟩:=pC t.up v ok h;refine gA Z ⟨⟨bQ (.si .i64) t.up v aL.z,h1.trans hv⟩,[],h2,zW ⟨⟨_,rfl, .of_eq Z⟩,WR Z,rfl,⟨_,rfl, .of_eq Z⟩,WR Z,rfl,ac⟩⟩
def tj(t:TS)(w:Want):Int:=if w.has=0 then bQ (.si .i64) t.kind (aP t.up w.at_) 0 else w.has
def ru(t:TS)(lit:Int)(w:Want):Bool:=decide (w.lit=lit)&&!decide (tj t w=w.kind)
def nf(t:TS)(lit:Int):Bool:=t.ws.any (ru t lit)
theorem WA(r:aq)(t:TS)(lit:Int)(ok:iA t.up)(hb:t.ws.length<=1000000000000):Pure prog 169 [.iv (RQ r t),pI lit] (pB (nf t lit)):=by
 refine ad ab func169 Z (by decide) ntmps169 Z (by simp) Z ?_;refine gA Z ?_;refine aA 0 t.ws.length (W3 _) (fun i=>⟨[(0, .iv (RQ r t)),(1,pI lit),(11, .iv (dy 5 t.ws Want.c)),(12,pI t.ws.length),(13,pI i)],[],0⟩) (fun i=>(t.ws.take i).any (ru t lit)=false) [] Z
  (zW trivial) fun i hi hJ=>?_
 refine gA Z (zI (fun h1=>?_) fun h1=>?_)
 ·have h1:=ci h1;have hA:=bq hJ h1;refine gA Z (zI (fun h2=>?_) fun h2=>?_)
  ·have h2:(t.ws.getD i default).has=0:=zT h2;refine gA Z (nB (c52 r t (t.ws.getD i default).at_ ok) ?_);have hk:tj t (t.ws.getD i default)=bQ (.si .i64) t.kind (aP t.up (t.ws.getD i default).at_) 0:=am h2;refine gA Z (zI (fun k1=>?_) fun k1=>?_)
   ·have k1:(t.ws.getD i default).lit=lit:=zT k1;refine gA Z (zI (fun k2=>?_) fun k2=>?_)
    ·have k2: ¬tj t (t.ws.getD i default)=(t.ws.getD i default).kind:=by rw[hk];simpa using k2
     have e:nf t lit=true:=XM.2 ⟨t.ws.getD i default,by rw[WU,WY h1];exact XD h1,by rw[ru,decide_eq_true k1,decide_eq_false k2];rfl⟩;refine gA Z (zL (.of_eq ?_));rw[e]
    ·have k2:tj t (t.ws.getD i default)=(t.ws.getD i default).kind:=by rw[hk];simpa using k2
     refine gA Z ⟨h1,hA.2 (by rw[ru,decide_eq_true k2,Zy,Yz]),[],zW ac⟩
   ·have k1: ¬(t.ws.getD i default).lit=lit:=by simpa using k1
    refine gA Z ⟨h1,hA.2 (by rw[ru,decide_eq_false k1];rfl),[],zW ac⟩
  ·have h2: ¬(t.ws.getD i default).has=0:=zF h2;have hk:tj t (t.ws.getD i default)=(t.ws.getD i default).has:=be h2;refine gA Z (zI (fun k1=>?_) fun k1=>?_)
   ·have k1:(t.ws.getD i default).lit=lit:=zT k1;refine gA Z (zI (fun k2=>?_) fun k2=>?_)
    ·have k2: ¬tj t (t.ws.getD i default)=(t.ws.getD i default).kind:=by rw[hk];simpa using k2
     have e:nf t lit=true:=XM.2 ⟨t.ws.getD i default,by rw[WU,WY h1];exact XD h1,by rw[ru,decide_eq_true k1,decide_eq_false k2];rfl⟩;refine gA Z (zL (.of_eq ?_));rw[e]
    ·have k2:tj t (t.ws.getD i default)=(t.ws.getD i default).kind:=by rw[hk];simpa using k2
     refine gA Z ⟨h1,hA.2 (by rw[ru,decide_eq_true k2,Zy,Yz]),[],zW ac⟩
   ·have k1: ¬(t.ws.getD i default).lit=lit:=by simpa using k1
    refine gA Z ⟨h1,hA.2 (by rw[ru,decide_eq_false k1];rfl),[],zW ac⟩
 ·have h1:=co h1;rw[W2 h1]at hJ;refine gA Z (zL (.of_eq ?_));rw[nf,hJ]
end Go.Proofs.YtflegjieadkonaaGreatDoor
namespace Go.Proofs.YtflegjieadkonaaGreatDoor
open Go Go.Al Go.Proofs.Tryz
section
variable (r:aq) (lit w:Int)
def j5(e:Expr):List Want:=if e.kind=1 then[⟨lit,bh r e.var w,1,0⟩] else if e.kind=2 then[⟨lit,aL.z,1,e.val.kind⟩] else[]
mutual
def fX:Expr->List Want
 | .mk k v val op args=>j5 r lit w (.mk k v val op args)++(if k=4 then vp args else[])
def vp:List Expr->List Want
 | []=> []
 |e::s=>fX e++vp s
end
theorem CV: ∀l:List Expr,vp r lit w l=l.flatMap (fX r lit w)
 | []=>rfl
 |e::s=>by rw[vp,XZ,CV s]
def iJ(e:Expr):List Want:=if e.kind=4 then e.args.flatMap (fX r lit w) else[]
theorem wy(e:Expr):fX r lit w e=j5 r lit w e++iJ r lit w e:=by
 cases e;rw[fX,CV];rfl
end
abbrev TS.add(t:TS)(l:List Want):TS:=⟨t.up,t.ws++l,t.kind⟩
section
variable {nt:Nat} {Q:AQ} {k:List KI} {s:AS}
def tS(s:AS)(r:aq)(t:TS)(i u j m:Nat):AS:=match s with|⟨f,h,n⟩=>⟨f,(i,some (TS.cell r u n t.ws.length m))::(u,some (rv t.up))::(n,some (aD 5 t.ws Want.c))::(m,some (rK t.kind))::(i,none)::(u,none)::(j,none)::(m,none)::h,n+1⟩
theorem TZ(s:AS)(r:aq)(t:TS)(i u j m:Nat):tS s r t i u j m=⟨s.f,(i,some (TS.cell r u s.nx t.ws.length m))::(u,some (rv t.up))::(s.nx,some (aD 5 t.ws Want.c))::(m,some (rK t.kind))::(i,none)::(u,none)::(j,none)::(m,none)::s.h,s.nx+1⟩:=by cases s;rfl
def tR(s:AS)(r:aq)(t:TS)(i u j m:Nat):AS:=match s with|⟨f,h,n⟩=>⟨f,(i,some (TS.cell r u j t.ws.length m))::(u,some (rv t.up))::(j,some (aD 5 t.ws Want.c))::(m,some (rK t.kind))::(i,none)::(u,none)::(j,none)::(m,none)::h,n⟩
theorem T1(s:AS)(r:aq)(t:TS)(i u j m:Nat):tR s r t i u j m=⟨s.f,(i,some (TS.cell r u j t.ws.length m))::(u,some (rv t.up))::(j,some (aD 5 t.ws Want.c))::(m,some (rK t.kind))::(i,none)::(u,none)::(j,none)::(m,none)::s.h,s.nx⟩:=by cases s;rfl
theorem Jf{o:Oper}{c:Call}{g:FuncId}{args al:List PV}{r:aq}{t t':TS}{b0:PV}{i u j m n:Nat}{es:List (List PV)}{s':AS}(hc:b8 prog g (.ptr 0 0::args) (t.O r) b0 (t'.H r) 5)(ho:o.op= .call c)(ha:bK s.f c=some (g, .ptr i 0::al))
  (hi:s.h.get i=some (TS.cell r u j n m)) (hu:s.h.get u=some (rv t.up)) (hj:s.h.get j=some (.row 5 es)) (hm:s.h.get m=some (rK t.kind)) (hn:n=t.ws.length) (he:es=t.ws.map fun x=>(Want.c x).map .iv)
  (hlt:[i,u,j,m].all (fun x=>Xi x s.nx)=true) (hnd:bN [i,u,j,m]=true) (has:al=args) (hlow:bs 0 args=true) (hr:b0.low 0=true)
  (hp:putDst nt o b0 (tS s r t' i u j m)=some s'):OT prog nt o s (fun t=>t=s'):=by
 subst has;subst hn;subst he;have a0: ∀σ,dS σ al=al:=fun σ=>iC σ al hlow;refine lv ho ha hc (dd hnd) (fun j hj=>WR (Xm.1 hlt j hj)) ?_ ?_ ?_
 ·simp only[Xe,XN,hi,hu,hj,hm,bC];rfl
 ·simp only[dS,a0];rfl
 ·rintro q h0 n0 ⟨rfl,rfl,rfl⟩;rw[PV.ju _ _ hr];rw[TZ]at hp;refine⟨s',?_,rfl⟩;rw[<-hp];simp only[TS.H,aM,sv,XW,bC];rfl
theorem I8{o:Oper}{c:Call}{g:FuncId}{args al:List PV}{r:aq}{t:TS}{b0:PV}{i u j m n:Nat}{es:List (List PV)}{s':AS}(hc:b8 prog g (.ptr 0 0::args) (t.O r) b0 (t.K r) 4)(ho:o.op= .call c)(ha:bK s.f c=some (g, .ptr i 0::al))
  (hi:s.h.get i=some (TS.cell r u j n m)) (hu:s.h.get u=some (rv t.up)) (hj:s.h.get j=some (.row 5 es)) (hm:s.h.get m=some (rK t.kind)) (hn:n=t.ws.length) (he:es=t.ws.map fun x=>(Want.c x).map .iv)
  (hlt:[i,u,j,m].all (fun x=>Xi x s.nx)=true) (hnd:bN [i,u,j,m]=true) (has:al=args) (hlow:bs 0 args=true) (hr:b0.low 0=true)
  (hp:putDst nt o b0 (tR s r t i u j m)=some s'):OT prog nt o s (fun t=>t=s'):=by
 subst has;subst hn;subst he;have a0: ∀σ,dS σ al=al:=fun σ=>iC σ al hlow;refine lv ho ha hc (dd hnd) (fun j hj=>WR (Xm.1 hlt j hj)) ?_ ?_ ?_
 ·simp only[Xe,XN,hi,hu,hj,hm,bC];rfl
 ·simp only[dS,a0];rfl
 ·rintro q h0 n0 ⟨rfl,rfl,rfl⟩;rw[PV.ju _ _ hr];rw[T1]at hp;refine⟨s',?_,rfl⟩;rw[<-hp];simp only[TS.K,aM,sv,XW,bC];rfl
theorem Dr{all rest:List Oper}{o:Oper}{c:Call}{g:FuncId}{args al:List PV}{r:aq}{t t':TS}{a0:PV}{i u j m n:Nat}{es:List (List PV)}{s':AS}(hc:b8 prog g (.ptr 0 0::args) (t.O r) a0 (t'.H r) 5)(ho:o.op= .call c)(hg:o.guard=none)(ha:bK s.f c=some (g, .ptr i 0::al))
  (hi:s.h.get i=some (TS.cell r u j n m)) (hu:s.h.get u=some (rv t.up)) (hj:s.h.get j=some (.row 5 es)) (hm:s.h.get m=some (rK t.kind)) (hn:n=t.ws.length) (he:es=t.ws.map fun x=>(Want.c x).map .iv)
  (hlt:[i,u,j,m].all (fun x=>Xi x s.nx)=true) (hnd:bN [i,u,j,m]=true) (has:al=args) (hlow:bs 0 args=true) (hr:a0.low 0=true)
  (hp:putDst nt o a0 (tS s r t' i u j m)=some s') (h:GO prog nt (.ops all rest::k) Q s'):GO prog nt (.ops all (o::rest)::k) Q s:=
 ep hg (Jf hc ho ha hi hu hj hm hn he hlt hnd has hlow hr hp) fun t ht=>by subst ht;exact h
theorem GF{all rest:List Oper}{o:Oper}{c:Call}{g:FuncId}{args al:List PV}{r:aq}{t t':TS}{a0:PV}{i u j m n:Nat}{es:List (List PV)}{s':AS}(hc:b8 prog g (.ptr 0 0::args) (t.O r) a0 (t'.H r) 5)(h:GO prog nt (.ops all rest::k) Q s')(ho:o.op= .call c:=by exact rfl)(hg:o.guard=none:=by exact rfl)(ha:bK s.f c=some (g, .ptr i 0::al):=by exact rfl)(hi:s.h.get i=some (TS.cell r u j n m):=by exact rfl)(hu:s.h.get u=some (rv t.up):=by exact rfl)(hj:s.h.get j=some (.row 5 es):=by exact rfl)(hm:s.h.get m=some (rK t.kind):=by exact rfl)(hn:n=t.ws.length:=by first|rfl|(rw[WW];rfl)|simp)(he:es=t.ws.map fun x=>(Want.c x).map .iv:=by first|rfl|(rw[WZ];rfl)|(simp only[WZ,Xa];rfl))(hlt:[i,u,j,m].all (fun x=>Xi x s.nx)=true:=by exact rfl)(hnd:bN [i,u,j,m]=true:=by exact rfl)(has:al=args:=by exact rfl)(hlow:bs 0 args=true:=by exact rfl)(hr:a0.low 0=true:=by exact rfl)(hp:putDst nt o a0 (tS s r t' i u j m)=some s':=by exact rfl):GO prog nt (.ops all (o::rest)::k) Q s:=Dr (hc:=hc) (ho:=ho) (hg:=hg) (ha:=ha) (hi:=hi) (hu:=hu) (hj:=hj) (hm:=hm) (hn:=hn) (he:=he) (hlt:=hlt) (hnd:=hnd) (has:=has) (hlow:=hlow) (hr:=hr) (hp:=hp) (h:=h)
theorem Sx{all:List Oper}{todo pend:List (Nat×Oper)}{j':Nat}{CA C2:Prop}{o:Oper}{c:Call}{g:FuncId}{args al:List PV}{r:aq}{t:TS}{a0:PV}{i u j m n:Nat}{es:List (List PV)}{s':AS}(hc:b8 prog g (.ptr 0 0::args) (t.O r) a0 (t.K r) 4)
  (hrd:ey todo=[(j',o)]) (ho:o.op= .call c) (ha:bK s.f c=some (g, .ptr i 0::al))
  (hi:s.h.get i=some (TS.cell r u j n m)) (hu:s.h.get u=some (rv t.up)) (hj:s.h.get j=some (.row 5 es)) (hm:s.h.get m=some (rK t.kind)) (hn:n=t.ws.length) (he:es=t.ws.map fun x=>(Want.c x).map .iv)
  (hlt:[i,u,j,m].all (fun x=>Xi x s.nx)=true) (hnd:bN [i,u,j,m]=true) (has:al=args) (hlow:bs 0 args=true) (hr:a0.low 0=true)
  (hp:putDst nt o a0 (tR s r t i u j m)=some s')
  (hg:cC nt all s.f o=some true) (hpb:iD all pend o=true) (hE:n8 todo [j']=true)
  (hag:qC pn nt all s todo pend=some CA) (hCA:CA) (hag2:dD pn nt all s' (bg pend o)=some C2) (hC2:C2)
  (h:GO prog nt (.cJ all (todo.filter fun x=>!Xn x.1 j') (bg pend o)::k) Q s'):GO prog nt (.cJ all todo pend::k) Q s:=
 xR ab hrd hg hpb hE hag hCA (I8 hc ho ha hi hu hj hm hn he hlt hnd has hlow hr hp) hag2 hC2 h
theorem pZ{all:List Oper}{todo pend:List (Nat×Oper)}{j':Nat}{CA C2:Prop}{o:Oper}{c:Call}{g:FuncId}{args al:List PV}{r:aq}{t:TS}{a0:PV}{i u j m n:Nat}{es:List (List PV)}{s':AS}(hc:b8 prog g (.ptr 0 0::args) (t.O r) a0 (t.K r) 4)(h:GO prog nt (.cJ all (todo.filter fun x=>!Xn x.1 j') (bg pend o)::k) Q s')(hrd:ey todo=[(j',o)]:=by exact rfl)(ho:o.op= .call c:=by exact rfl)(ha:bK s.f c=some (g, .ptr i 0::al):=by exact rfl)(hi:s.h.get i=some (TS.cell r u j n m):=by exact rfl)(hu:s.h.get u=some (rv t.up):=by exact rfl)(hj:s.h.get j=some (.row 5 es):=by exact rfl)(hm:s.h.get m=some (rK t.kind):=by exact rfl)(hn:n=t.ws.length:=by first|rfl|(rw[WW];rfl)|simp)(he:es=t.ws.map fun x=>(Want.c x).map .iv:=by first|rfl|(rw[WZ];rfl)|(simp only[WZ,Xa];rfl))(hlt:[i,u,j,m].all (fun x=>Xi x s.nx)=true:=by exact rfl)(hnd:bN [i,u,j,m]=true:=by exact rfl)(has:al=args:=by exact rfl)(hlow:bs 0 args=true:=by exact rfl)(hr:a0.low 0=true:=by exact rfl)(hp:putDst nt o a0 (tR s r t i u j m)=some s':=by exact rfl)(hg:cC nt all s.f o=some true:=by exact rfl)(hpb:iD all pend o=true:=by exact rfl)(hE:n8 todo [j']=true:=by exact rfl)(hag:qC pn nt all s todo pend=some CA:=by exact rfl)(hCA:CA:=by(repeat' (first|exact ac|exact rfl|exact aH.refl _|exact aH.bk (by assumption)|apply XA))<;>first|omega|(simp only[Xp];omega)|(simp;done)|(simp;omega))(hag2:dD pn nt all s' (bg pend o)=some C2:=by exact rfl)(hC2:C2:=by(repeat' (first|exact ac|exact rfl|exact aH.refl _|exact aH.bk (by assumption)|apply XA))<;>first|omega|(simp only[Xp];omega)|(simp;done)|(simp;omega)):GO prog nt (.cJ all todo pend::k) Q s:=Sx (hc:=hc) (hrd:=hrd) (ho:=ho) (ha:=ha) (hi:=hi) (hu:=hu) (hj:=hj) (hm:=hm) (hn:=hn) (he:=he) (hlt:=hlt) (hnd:=hnd) (has:=has) (hlow:=hlow) (hr:=hr) (hp:=hp) (hg:=hg) (hpb:=hpb) (hE:=hE) (hag:=hag) (hCA:=hCA) (hag2:=hag2) (hC2:=hC2) (h:=h)
theorem QX{l:List ResultVar}{r0:PV}{e:Exit}{r:aq}{t':TS}{a0:PV}{j n:Nat}{es:List (List PV)}(he:e= .normal∨e= .ret)(hr:lS pn s l=some r0)(hi:s.h.get 0=some (TS.cell r 1 j n 3))(hu:s.h.get 1=some (rv t'.up))(hj:s.h.get j=some (.row 5 es))(hm:s.h.get 3=some (rK t'.kind))
  (hn:n=t'.ws.length) (hes:es=t'.ws.map fun x=>(Want.c x).map .iv) (hlt:Xi j s.nx=true) (hnd:bN [0,1,j,3]=true) (hns:YQ 4 s.nx=true) (hrl:aH r0 a0) (hlow:a0.low 0=true) (hlow5:a0.low 5=true):Ei pn l 4 a0 (t'.H r) 5 e s:=by
 subst hn;subst hes;refine aC [j] he hr ⟨rfl,WR hns,fun x hx=>?_,⟨?_,hlow5,ac⟩,⟨⟨_,hi, .of_eq Z⟩,WR Z,rfl,⟨_,hu, .of_eq Z⟩,WR Z,ac,⟨_,hj, .of_eq (bC _).symm⟩,WR Z,cL _,⟨_,hm, .of_eq Z⟩,WR Z,ac,ac⟩,?_⟩
 ·simp only[W5]at hx;subst hx;exact WR hlt
 ·rw[PV.ju _ _ hlow];exact hrl
 ·exact dd hnd
theorem yE{l:List ResultVar}{r0:PV}{e:Exit}{r:aq}{t':TS}{a0:PV}{j n:Nat}{es:List (List PV)}(he:e= .normal∨e= .ret:=by first|exact .inr Z|exact .inl Z)(hr:lS pn s l=some r0:=by exact rfl)(hi:s.h.get 0=some (TS.cell r 1 j n 3):=by exact rfl)(hu:s.h.get 1=some (rv t'.up):=by exact rfl)(hj:s.h.get j=some (.row 5 es):=by exact rfl)(hm:s.h.get 3=some (rK t'.kind):=by exact rfl)(hn:n=t'.ws.length:=by first|rfl|(rw[WW];rfl)|simp)(hes:es=t'.ws.map fun x=>(Want.c x).map .iv:=by first|rfl|(rw[WZ];rfl)|(simp only[WZ,Xa];rfl))(hlt:Xi j s.nx=true:=by exact rfl)(hnd:bN [0,1,j,3]=true:=by exact rfl)(hns:YQ 4 s.nx=true:=by exact rfl)(hrl:aH r0 a0:=by exact .refl _)(hlow:a0.low 0=true:=by exact rfl)(hlow5:a0.low 5=true:=by exact rfl):Ei pn l 4 a0 (t'.H r) 5 e s:=QX (he:=he) (hr:=hr) (hi:=hi) (hu:=hu) (hj:=hj) (hm:=hm) (hn:=hn) (hes:=hes) (hlt:=hlt) (hnd:=hnd) (hns:=hns) (hrl:=hrl) (hlow:=hlow) (hlow5:=hlow5)
theorem Pw{n0 i u j m n:Nat}{es:List (List PV)}{tf:AF}{r:aq}{t t':TS}(hw:t=t')(hi:s.h.get i=some (TS.cell r u j n m))(hu:s.h.get u=some (rv t.up))(hj:s.h.get j=some (.row 5 es))(hm:s.h.get m=some (rK t.kind))
  (hn:n=t.ws.length) (hes:es=t.ws.map fun x=>(Want.c x).map .iv) (hlt:Xi j s.nx=true) (hnd:bN [i,u,j,m]=true) (h0:[i,u,m].all (fun x=>Xi x n0)=true) (hns:YQ n0 s.nx=true) (hf:FI (n0+1) (sg n0 [j]) s.f tf):
  Wk n0 [j] s ⟨tf,[(i,some (TS.cell r u n0 t'.ws.length m)),(u,some (rv t'.up)),(n0,some (aD 5 t'.ws Want.c)),(m,some (rK t'.kind))],n0+1⟩:=by
 subst hw;subst hn;subst hes;simp only[ZT,List.all_nil,Bool.and_true,Xg]at h0;have d0:i<n0:=WR h0.1;have c0:u<n0:=WR h0.2.1;have a0:m<n0:=WR h0.2.2;have s0:sg n0 [j] i=i:=gh d0;have s1:sg n0 [j] u=u:=gh c0;have s3:sg n0 [j] m=m:=gh a0;have b0:Xi n0 n0=false:=X7.2 fun e=>absurd (WR e) (by omega);have sn:sg n0 [j] n0=j:=by simp[sg,b0]
 have c1:Xi u (n0+1)=true:=XB (by omega);have c3:Xi m (n0+1)=true:=XB (by omega);have cn:Xi n0 (n0+1)=true:=XB (by omega);refine⟨rfl,WR hns,fun x hx=>?_,hf,⟨⟨_,by rw[s0];exact hi,?_⟩,by show i<n0+1;omega,?_,⟨_,by rw[s1];exact hu, .of_eq Z⟩,by show u<n0+1;omega,ac,⟨_,by rw[sn];exact hj, .of_eq (bC _).symm⟩,YC _,cL _,⟨_,by rw[s3];exact hm, .of_eq Z⟩,by show m<n0+1;omega,ac,ac⟩,?_⟩
 ·simp only[W5]at hx;subst hx;exact WR hlt
 ·simp only[AO.c7,dS,PV.c7,s1,s3,sn];exact .of_eq Z
 ·simp[AO.low,bs,PV.low,c1,c3,cn]
 ·simp only[ef,s0,s1,s3,sn];exact dd hnd
theorem rW{n0 i u j m n:Nat}{es:List (List PV)}{tf:AF}{r:aq}{t t':TS}(hw:t=t')(hi:s.h.get i=some (TS.cell r u j n m):=by exact rfl)(hu:s.h.get u=some (rv t.up):=by exact rfl)(hj:s.h.get j=some (.row 5 es):=by exact rfl)(hm:s.h.get m=some (rK t.kind):=by exact rfl)(hn:n=t.ws.length:=by first|rfl|(rw[WW];rfl)|simp)(hes:es=t.ws.map fun x=>(Want.c x).map .iv:=by first|rfl|(rw[WZ];rfl)|(simp only[WZ,Xa];rfl))(hlt:Xi j s.nx=true:=by exact rfl)(hnd:bN [i,u,j,m]=true:=by exact rfl)(h0:[i,u,m].all (fun x=>Xi x n0)=true:=by exact rfl)(hns:YQ n0 s.nx=true:=by exact rfl)(hf:FI (n0+1) (sg n0 [j]) s.f tf:=by repeat' (first|exact ac|exact aH.refl _|exact rfl|apply XA)):Wk n0 [j] s ⟨tf,[(i,some (TS.cell r u n0 t'.ws.length m)),(u,some (rv t'.up)),(n0,some (aD 5 t'.ws Want.c)),(m,some (rK t'.kind))],n0+1⟩:=Pw (hw:=hw) (hi:=hi) (hu:=hu) (hj:=hj) (hm:=hm) (hn:=hn) (hes:=hes) (hlt:=hlt) (hnd:=hnd) (h0:=h0) (hns:=hns) (hf:=hf)
end
theorem TS.add_add(t:TS)(a b:List Want):(t.add a).add b=t.add (a++b):=by simp[TS.add]
theorem TS.add_nil(t:TS):t.add []=t:=by simp[TS.add]
def Ps(r:aq)(n:Nat):Prop:= ∀(t:TS) (e:Expr) (lit w:Int),e.size<=n->t.ws.length+Expr.ax e.args<=1000000000->b8 prog 226 [.ptr 0 0,ag e.c,pI lit,pI w] (t.O r) (.bT []) ((t.add (iJ r lit w e)).H r) 5
def S4(r:aq)(n:Nat):Prop:= ∀(t:TS) (e:Expr) (lit w:Int),e.size<=n->t.ws.length+e.size<=1000000000->b8 prog 199 [.ptr 0 0,ag e.c,pI lit,pI w] (t.O r) (.bT []) ((t.add (fX r lit w e)).H r) 5
theorem d92(r:aq)(n:Nat)(ih:Ps r n):S4 r n:=by
 intro t e lit w hs hb;have a0:=e.size_eq;rw[wy,<-TS.add_add];refine aE ab func199 Z (by decide) ntmps199 Z (by simp) ?_;refine gA Z (zI (fun k1=>?_) fun k1=>?_)
 ·have k1:e.kind=1:=zT k1;have hl:j5 r lit w e=[⟨lit,bh r e.var w,1,0⟩]:=am k1;rw[hl];refine gA Z (pZ (d136 r t e.var w) ?_);refine gA Z (Dr (ih (t.add [⟨lit,bh r e.var w,1,0⟩]) e lit w hs (by show(t.ws++_).length+_<=_;rw[WW,XC];omega)) Z Z Z Z Z Z Z (by first|rfl|(rw[WW];rfl)|simp) (by first|rfl|(rw[WZ];rfl)|(simp only[WZ,Xa];rfl)) Z Z Z Z Z Z ?_);refine gA Z yE
 have k1: ¬e.kind=1:=zF k1;refine gA Z (zI (fun k2=>?_) fun k2=>?_)
 ·have k2:e.kind=2:=zT k2;have hl:j5 r lit w e=[⟨lit,aL.z,1,e.val.kind⟩]:=by unfold j5;rw[be k1,am k2]
  rw[hl];refine gA Z (Dr (ih (t.add [⟨lit,aL.z,1,e.val.kind⟩]) e lit w hs (by show(t.ws++_).length+_<=_;rw[WW,XC];omega)) Z Z Z Z Z Z Z (by first|rfl|(rw[WW];rfl)|simp) (by first|rfl|(rw[WZ];rfl)|(simp only[WZ,Xa];rfl)) Z Z Z Z Z Z ?_);refine gA Z yE
 ·have k2: ¬e.kind=2:=zF k2;have hl:j5 r lit w e=[]:=by unfold j5;rw[be k1,be k2]
  rw[hl,TS.add_nil];refine gA Z (GF (ih t e lit w hs (by omega)) ?_);refine gA Z yE
theorem jx(r:aq)(lit w:Int): ∀e:Expr,(fX r lit w e).length<=e.size
 | .mk k v val op args=>by
  rw[fX,Expr.size,WW];have h1:(j5 r lit w (.mk k v val op args)).length<=1:=by
   unfold j5
   repeat' split
   all_goals simp
  have h2:(if k=4 then vp r lit w args else[]).length<=Expr.ax args:=by
   split
   ·exact numRs_len args
   ·simp
  omega
where
 numRs_len: ∀l:List Expr,(vp r lit w l).length<=Expr.ax l
 | []=>by simp[vp]
 |e::s=>by
  have h1:=jx r lit w e;have h2:=numRs_len s;rw[vp,Expr.ax,WW];omega
theorem J8(r:aq)(lit w:Int)(l:List Expr)(i:Nat)(h:i<l.length):((l.take i).flatMap (fX r lit w)).length+(l.getD i default).size<=Expr.ax l:=by
 have h1: ∀l:List Expr,(l.flatMap (fX r lit w)).length<=Expr.ax l:=by
  intro l
  induction l with
  |nil=>simp
  |cons e s ih=>
   have:=jx r lit w e;rw[XZ,WW,Expr.ax];omega
 have h2:=h1 (l.take i);have h3: ∀(l:List Expr) (i:Nat),i<l.length->Expr.ax (l.take i)+(l.getD i default).size<=Expr.ax l:=by
  intro l
  induction l with
  |nil=>intro i h;simp at h
  |cons e s ih=>
   intro i h;cases i with
   |zero=>simp[Expr.ax]
   |succ i=>
    have:=ih i (by simpa using h);simp only[Yh,Yk,Expr.ax];omega
 have:=h3 l i h;omega
theorem d137(r:aq)(n:Nat)(ih:S4 r n):Ps r (n+1):=by
 intro t e lit w hs hb;have b0:=e.size_eq;refine b8.le (args:=[.ptr 0 0,ag e.c1,pI lit,pI w]) ?_ ⟨.refl _,e.xG, .refl _, .refl _,ac⟩;have c0:=Expr.aw e.args;refine aE ab func226 Z (by decide) ntmps226 Z (by simp) ?_;refine gA Z (zI (fun k=>?_) fun k=>?_);rotate_left
 ·have k: ¬e.kind=4:=zF k;have hl:iJ r lit w e=[]:=be k;rw[hl,TS.add_nil];refine gA Z yE
 have k:e.kind=4:=zT k;have hl:iJ r lit w e=e.args.flatMap (fX r lit w):=am k;rw[hl];refine gA Z ?_
 refine aA 0 e.args.length (W3 _) (fun i=>⟨[(0, .ptr 0 0),(2,pI lit),(3,pI w),(14, .iv (dy 7 e.args Expr.c)),(15,pI e.args.length),(16,pI i)],
  [(0,some (TS.cell r 1 5 (t.add ((e.args.take i).flatMap (fX r lit w))).ws.length 3)),(1,some (rv (t.add ((e.args.take i).flatMap (fX r lit w))).up)),(5,some (aD 5 (t.add ((e.args.take i).flatMap (fX r lit w))).ws Want.c)),(3,some (rK (t.add ((e.args.take i).flatMap (fX r lit w))).kind))],6⟩) (fun _=>True) _ ac
  (Pw (t:=t) (TS.add_nil t).symm Z Z Z Z Z Z Z Z Z Z (bv (bv (bv (bv (bv (bv trivial))))))) fun i hi _=>?_
 refine gA Z (zI (fun h1=>?_) fun h1=>?_)
 ·have h1:=ci h1;have a0:=b7 (f:=fX r lit w) h1;have hn:=J8 r lit w e.args i h1;have hg:=Expr.aT e.args i h1;refine gA Z (Dr (ih (t.add ((e.args.take i).flatMap (fX r lit w))) (e.args.getD i default) lit w (by omega) (by show(t.ws++_).length+_<=_;rw[WW];omega)) Z Z Z Z Z Z Z (by first|rfl|(rw[WW];rfl)|simp) (by first|rfl|(rw[WZ];rfl)|(simp only[WZ,Xa];rfl)) Z Z Z Z Z Z ?_);refine gA Z ⟨h1,ac,_,Pw ((by rw[TS.add_add,a0])) Z Z Z Z (by first|rfl|(rw[WW];rfl)|simp) (by first|rfl|(rw[WZ];rfl)|(simp only[WZ,Xa];rfl)) Z Z Z Z (bv (bv (bv (bv (bv (bv ac))))))⟩
 ·have h1:=co h1;rw[W2 h1];refine gA Z yE
end Go.Proofs.YtflegjieadkonaaGreatDoor
namespace Go.Proofs.YtflegjieadkonaaGreatDoor
open Go Go.Al Go.Proofs.Tryz
theorem uS(r:aq): ∀n,S4 r n∧Ps r n
 |0=>by
  have h0:Ps r 0:=fun t e lit w hs=>by have:=e.size_pos;omega
  exact⟨d92 r 0 h0,h0⟩
 |n+1=>by
  have h1:=d137 r n (uS r n).1;exact⟨d92 r (n+1) h1,h1⟩
theorem Lp(r:aq)(t:TS)(e:Expr)(lit w:Int)(hb:t.ws.length+e.size<=1000000000):b8 prog 199 [.ptr 0 0,ag e.c,pI lit,pI w] (t.O r) (.bT []) ((t.add (fX r lit w e)).H r) 5:=(uS r e.size).1 t e lit w (W0 _) hb
theorem Q4(r:aq)(t:TS)(e:Expr)(lit w:Int)(hb:t.ws.length+e.size<=1000000000):b8 prog 226 [.ptr 0 0,ag e.c,pI lit,pI w] (t.O r) (.bT []) ((t.add (iJ r lit w e)).H r) 5:=(uS r e.size).2 t e lit w (W0 _) (by have:=e.size_eq;omega)
def typeAt(p:Prog)(a:Atom)(i:Nat):Int:=(gP p a.rel).types.getD i default
def nj(p:Prog)(a:Atom)(i:Nat):Bool:=decide (i<(gP p a.rel).types.length)&&(decide (typeAt p a i=1)||decide (typeAt p a i=2))
def lL(p:Prog)(r:aq)(a:Atom)(lit w:Int)(i:Nat):List Want:=
 if nj p a i=false then[]
 else if(a.ae.getD i default).kind=1 then[⟨lit,bh r (a.ae.getD i default).var w,typeAt p a i,0⟩]
 else if(a.ae.getD i default).kind=2 then[⟨lit,aL.z,typeAt p a i,(a.ae.getD i default).val.kind⟩] else[]
def gf(p:Prog)(r:aq)(a:Atom)(lit w:Int):Nat->List Want
 |0=> []
 |i+1=>gf p r a lit w i++lL p r a lit w i
theorem Eu(p:Prog)(r:aq)(a:Atom)(lit w:Int)(i:Nat):(lL p r a lit w i).length<=1:=by
 unfold lL
 repeat' split
 all_goals simp
theorem oS(p:Prog)(r:aq)(a:Atom)(lit w:Int): ∀i,(gf p r a lit w i).length<=i
 |0=>W0 _
 |i+1=>by
  have h1:=oS p r a lit w i;have h2:=Eu p r a lit w i;rw[gf,WW];omega
set_option maxHeartbeats 1000000 in
theorem d90(p:Prog)(r:aq)(t:TS)(a:Atom)(lit w:Int)(hb:t.ws.length+a.ae.length<=1000000000):b8 prog 197 [.ptr 0 0, .iv (df p),ag a.c,pI lit,pI w] (t.O r) (.bT []) ((t.add (gf p r a lit w a.ae.length)).H r) 5:=by
 refine aE ab func197 Z (by decide) ntmps197 Z (by simp) ?_;refine gA Z ?_
 refine aA 0 a.ae.length (W3 _) (fun i=>⟨[(0, .ptr 0 0),(3,pI lit),(4,pI w),(10, .iv (dy 1 (gP p a.rel).types ba)),(19, .iv (dy 5 a.ae Term.c)),(20,pI a.ae.length),(21,pI i)],
  [(0,some (TS.cell r 1 5 (t.add (gf p r a lit w i)).ws.length 3)),(1,some (rv (t.add (gf p r a lit w i)).up)),(5,some (aD 5 (t.add (gf p r a lit w i)).ws Want.c)),(3,some (rK (t.add (gf p r a lit w i)).kind))],6⟩) (fun _=>True) _ ac
  (Pw (t:=t) (TS.add_nil t).symm Z Z Z Z Z Z Z Z Z Z (bv (bv (bv (bv (bv (bv (bv trivial)))))))) fun i hi _=>?_
 refine gA Z (zI (fun h1=>?_) fun h1=>?_);rotate_left
 ·have h1:=co h1;have:i=a.ae.length:=by omega
  subst this;refine gA Z yE
 have h1:=ci h1;have hl:=oS p r a lit w i;have hs:t.add (gf p r a lit w (i+1))=(t.add (gf p r a lit w i)).add (lL p r a lit w i):=by rw[TS.add_add];rfl
 have a0:(t.add (gf p r a lit w i)).ws.length<=t.ws.length+i:=by show(t.ws++_).length<=_;rw[WW];omega
 generalize t.add (gf p r a lit w i)=t1 at*
 refine gA Z (zI (fun g1=>?_) fun g1=>?_);rotate_left
 ·have g1: ¬i<(gP p a.rel).types.length:=by have g:=zT (show decide ((i:Int)>=((gP p a.rel).types.length:Int))=true from g1);omega
  have hf:nj p a i=false:=by rw[nj,decide_eq_false g1];rfl
  have hW:lL p r a lit w i=[]:=am hf;rw[hW,TS.add_nil]at hs;refine gA Z ⟨h1,ac,_,rW (hs.symm)⟩
 have g1:i<(gP p a.rel).types.length:=by have g:=zF (show decide ((i:Int)>=((gP p a.rel).types.length:Int))=false from g1);omega
 refine gA Z (zI (fun g2=>?_) fun g2=>?_)
 ·have g2: ¬typeAt p a i=1:=by simpa[typeAt]using g2
  refine gA Z (zI (fun g3=>?_) fun g3=>?_)
  ·have g3: ¬typeAt p a i=2:=by simpa[typeAt]using g3
   have hf:nj p a i=false:=by rw[nj,decide_eq_true g1,decide_eq_false g2,decide_eq_false g3];rfl
   have hW:lL p r a lit w i=[]:=am hf;rw[hW,TS.add_nil]at hs;refine gA Z ⟨h1,ac,_,rW (hs.symm)⟩
  ·have g3:typeAt p a i=2:=by simpa[typeAt]using g3
   have ht:nj p a i=true:=by rw[nj,decide_eq_true g1,decide_eq_true g3,Zr];rfl
   have hW:lL p r a lit w i=if(a.ae.getD i default).kind=1 then[⟨lit,bh r (a.ae.getD i default).var w,typeAt p a i,0⟩]
    else if(a.ae.getD i default).kind=2 then[⟨lit,aL.z,typeAt p a i,(a.ae.getD i default).val.kind⟩] else[]:=by unfold lL;rw[ht];exact be (by decide)
   rw[hW]at hs;refine gA Z (zI (fun k1=>?_) fun k1=>?_)
   ·have k1:(a.ae.getD i default).kind=1:=zT k1;rw[am k1]at hs;refine gA Z (pZ (d136 r t1 (a.ae.getD i default).var w) ?_);refine gA Z ⟨h1,ac,_,rW (hs.symm)⟩
   have k1: ¬(a.ae.getD i default).kind=1:=zF k1;rw[be k1]at hs;refine gA Z (zI (fun k2=>?_) fun k2=>?_)
   ·have k2:(a.ae.getD i default).kind=2:=zT k2;rw[am k2]at hs;refine gA Z ⟨h1,ac,_,rW (hs.symm)⟩
   ·have k2: ¬(a.ae.getD i default).kind=2:=zF k2;rw[be k2,TS.add_nil]at hs;refine gA Z ⟨h1,ac,_,rW (hs.symm)⟩
 ·have g2:typeAt p a i=1:=by simpa[typeAt]using g2
  have ht:nj p a i=true:=by rw[nj,decide_eq_true g1,decide_eq_true g2];rfl
  have hW:lL p r a lit w i=if(a.ae.getD i default).kind=1 then[⟨lit,bh r (a.ae.getD i default).var w,typeAt p a i,0⟩]
   else if(a.ae.getD i default).kind=2 then[⟨lit,aL.z,typeAt p a i,(a.ae.getD i default).val.kind⟩] else[]:=by unfold lL;rw[ht];exact be (by decide)
  rw[hW]at hs;refine gA Z (zI (fun k1=>?_) fun k1=>?_)
  ·have k1:(a.ae.getD i default).kind=1:=zT k1;rw[am k1]at hs;refine gA Z (pZ (d136 r t1 (a.ae.getD i default).var w) ?_);refine gA Z ⟨h1,ac,_,rW (hs.symm)⟩
  have k1: ¬(a.ae.getD i default).kind=1:=zF k1;rw[be k1]at hs;refine gA Z (zI (fun k2=>?_) fun k2=>?_)
  ·have k2:(a.ae.getD i default).kind=2:=zT k2;rw[am k2]at hs;refine gA Z ⟨h1,ac,_,rW (hs.symm)⟩
  ·have k2: ¬(a.ae.getD i default).kind=2:=zF k2;rw[be k2,TS.add_nil]at hs;refine gA Z ⟨h1,ac,_,rW (hs.symm)⟩
def r8(t:TS)(u v:aL):TS:=if u=v then t else⟨b6 (.si .i64) t.up u v,t.ws,t.kind⟩
def lq(y:Expr):Int:=if y.kind=2 then y.val.kind else 1
def fJ(r:aq)(lit w:Int)(t:TS)(x y:Expr):TS:=
 if y.kind=1 then r8 t (aP t.up (bh r x.var w)) (aP t.up (bh r y.var w))
 else t.add (if x.kind=1 then[⟨lit,bh r x.var w,lq y,0⟩] else if x.kind=2 then[⟨lit,aL.z,lq y,x.val.kind⟩] else[⟨lit,aL.z,lq y,1⟩])
def jc(r:aq)(lit w:Int)(t:TS)(a b:Expr):TS:=
 if b.kind=1 then fJ r lit w ((t.add (iJ r lit w a)).add (iJ r lit w b)) b a else fJ r lit w ((t.add (iJ r lit w a)).add (iJ r lit w b)) a b
theorem Nw{u v:aL}(h:(!(decide (u.1=v.1)&&(decide (u.2=v.2)&&true)))=true):u≠v:=by
 rintro rfl;simp at h
theorem Nx{u v:aL}(h:(!(decide (u.1=v.1)&&(decide (u.2=v.2)&&true)))=false):u=v:=by
 simp at h;exact Prod.ext h.1 h.2
theorem tN(r:aq)(lit w:Int)(e:Expr):(iJ r lit w e).length<=e.size:=by
 have h1:=jx r lit w e;rw[wy,WW]at h1;omega
set_option maxHeartbeats 1000000 in
theorem d93(r:aq)(t:TS)(a b:Expr)(lit w:Int)(ok:iA t.up)(hb:t.ws.length+a.size+b.size<=1000000000):b8 prog 200 [.ptr 0 0,ag a.c,ag b.c,pI lit,pI w] (t.O r) (.bT []) ((jc r lit w t a b).H r) 5:=by
 have h1:=tN r lit w a;have h2:=tN r lit w b;have hA:jc r lit w t a b=if b.kind=1 then fJ r lit w ((t.add (iJ r lit w a)).add (iJ r lit w b)) b a else fJ r lit w ((t.add (iJ r lit w a)).add (iJ r lit w b)) a b:=rfl;rw[hA];have a0:iA ((t.add (iJ r lit w a)).add (iJ r lit w b)).up:=ok;refine aE ab func200 Z (by decide) ntmps200 Z (by simp) ?_;refine gA Z (GF (Q4 r t a lit w (by omega)) ?_);refine gA Z (Dr (Q4 r (t.add (iJ r lit w a)) b lit w (by show(t.ws++_).length+_<=_;rw[WW];omega)) Z Z Z Z Z Z Z (by first|rfl|(rw[WW];rfl)|simp) (by first|rfl|(rw[WZ];rfl)|(simp only[WZ,Xa];rfl)) Z Z Z Z Z Z ?_);have hl:((t.add (iJ r lit w a)).add (iJ r lit w b)).ws.length<=t.ws.length+a.size+b.size:=by
  show((t.ws++_)++_).length<=_;rw[WW,WW];omega
 generalize(t.add (iJ r lit w a)).add (iJ r lit w b)=t1 at*
 refine gA Z (zI (fun k1=>?_) fun k1=>?_)
 ·have k1:b.kind=1:=zT k1;rw[am k1];refine gA Z (zI (fun k2=>?_) fun k2=>?_)
  ·have k2:a.kind=2:=zT k2;have hy: ¬a.kind=1:=by omega
   have hh:lq a=a.val.kind:=am k2;have hX:fJ r lit w t1 b a=t1.add [⟨lit,bh r b.var w,lq a,0⟩]:=by unfold fJ;rw[be hy,am k1]
   rw[hX,hh];refine gA Z (zI (fun k3=>?_) fun k3=>?_)
   ·exact absurd (zT k3) hy
   refine gA Z (zI (fun k4=>?_) fun k4=>?_);rotate_left
   ·exact absurd k1 (zF k4)
   refine gA Z (pZ (d136 r t1 b.var w) ?_);refine gA Z yE
  ·have k2: ¬a.kind=2:=zF k2;refine gA Z (zI (fun k3=>?_) fun k3=>?_)
   ·have k3:a.kind=1:=zT k3;have hX:fJ r lit w t1 b a=r8 t1 (aP t1.up (bh r b.var w)) (aP t1.up (bh r a.var w)):=am k3;rw[hX];refine gA Z (pZ (d136 r t1 b.var w) ?_);refine gA Z (pZ (d52 r t1 (bh r b.var w) a0) ?_);refine gA Z (pZ (d136 r t1 a.var w) ?_);refine gA Z (pZ (d52 r t1 (bh r a.var w) a0) ?_);refine gA Z (zI (fun k4=>?_) fun k4=>?_)
    ·have e:r8 t1 (aP t1.up (bh r b.var w)) (aP t1.up (bh r a.var w))=⟨b6 (.si .i64) t1.up (aP t1.up (bh r b.var w)) (aP t1.up (bh r a.var w)),t1.ws,t1.kind⟩:=be (Nw k4);rw[e];refine nX Z (by repeat' (first|exact ac|exact rfl|exact agI (aL.c (aP t1.up (bh r a.var w)))|exact aH.refl _|apply XA)) (QX (by first|exact .inr Z|exact .inl Z) Z Z Z Z Z Z Z Z Z Z (.refl _) Z Z)
    ·have e:r8 t1 (aP t1.up (bh r b.var w)) (aP t1.up (bh r a.var w))=t1:=am (Nx k4);rw[e];refine gA Z yE
   ·have hy: ¬a.kind=1:=zF k3;have hh:lq a=1:=be k2;have hX:fJ r lit w t1 b a=t1.add [⟨lit,bh r b.var w,lq a,0⟩]:=by unfold fJ;rw[be hy,am k1]
    rw[hX,hh];refine gA Z (zI (fun k4=>?_) fun k4=>?_);rotate_left
    ·exact absurd k1 (zF k4)
    refine gA Z (pZ (d136 r t1 b.var w) ?_);refine gA Z yE
 have k1: ¬b.kind=1:=zF k1;rw[be k1];have hX:fJ r lit w t1 a b=t1.add (if a.kind=1 then[⟨lit,bh r a.var w,lq b,0⟩] else if a.kind=2 then[⟨lit,aL.z,lq b,a.val.kind⟩] else[⟨lit,aL.z,lq b,1⟩]):=be k1;rw[hX];refine gA Z (zI (fun k2=>?_) fun k2=>?_)
 ·have k2:b.kind=2:=zT k2;have hh:lq b=b.val.kind:=am k2;rw[hh];refine gA Z (zI (fun k3=>?_) fun k3=>?_)
  ·exact absurd (zT k3) k1
  refine gA Z (zI (fun k4=>?_) fun k4=>?_)
  ·rw[am (zT k4)];refine gA Z (pZ (d136 r t1 a.var w) ?_);refine gA Z yE
  rw[be (zF k4)];refine gA Z (zI (fun k5=>?_) fun k5=>?_)
  ·rw[am (zT k5)];refine gA Z yE
  ·rw[be (zF k5)];refine gA Z yE
 ·have k2: ¬b.kind=2:=zF k2;have hh:lq b=1:=be k2;rw[hh];refine gA Z (zI (fun k3=>?_) fun k3=>?_)
  ·exact absurd (zT k3) k1
  refine gA Z (zI (fun k4=>?_) fun k4=>?_)
  ·rw[am (zT k4)];refine gA Z (pZ (d136 r t1 a.var w) ?_);refine gA Z yE
  rw[be (zF k4)];refine gA Z (zI (fun k5=>?_) fun k5=>?_)
  ·rw[am (zT k5)];refine gA Z yE
  ·rw[be (zF k5)];refine gA Z yE
def pf(p:Prog)(r:aq)(lit w:Int)(t:TS)(l:Lit):TS:=
 if l.kind=1∨l.kind=2 then t.add (gf p r l.atom lit w l.atom.ae.length)
 else if l.kind=3 then(if l.op=1∨l.op=2 then jc r lit w t l.left l.right else(t.add (fX r lit w l.left)).add (fX r lit w l.right)) else t
theorem d91(p:Prog)(r:aq)(t:TS)(l:Lit)(lit w:Int)(ok:iA t.up)(hb:t.ws.length+l.size<=1000000000):b8 prog 198 [.ptr 0 0, .iv (df p),ag l.c,pI lit,pI w] (t.O r) (.bT []) ((pf p r lit w t l).H r) 5:=by
 have a0:=l.size_eq;have hx:=jx r lit w l.left;refine aE ab func198 Z (by decide) ntmps198 Z (by simp) ?_;refine gA Z (zI (fun k1=>?_) fun k1=>?_);rotate_left
 ·have k1:l.kind=1:=by simpa using k1
  have hL:pf p r lit w t l=t.add (gf p r l.atom lit w l.atom.ae.length):=am (.inl k1);rw[hL];refine gA Z (GF (d90 p r t l.atom lit w (by omega)) ?_);refine gA Z yE
 have k1: ¬l.kind=1:=zF k1;refine gA Z (zI (fun k2=>?_) fun k2=>?_)
 ·have k2:l.kind=2:=zT k2;have hL:pf p r lit w t l=t.add (gf p r l.atom lit w l.atom.ae.length):=am (.inr k2);rw[hL];refine gA Z (GF (d90 p r t l.atom lit w (by omega)) ?_);refine gA Z yE
 have k2: ¬l.kind=2:=zF k2;have hL:pf p r lit w t l=if l.kind=3 then(if l.op=1∨l.op=2 then jc r lit w t l.left l.right else(t.add (fX r lit w l.left)).add (fX r lit w l.right)) else t:=be (by rintro(h|h);exact k1 h;exact k2 h);refine gA Z (zI (fun k3=>?_) fun k3=>?_)
 ·have k3: ¬l.kind=3:=by simpa using k3
  rw[be k3]at hL;rw[hL];refine gA Z yE
 have k3:l.kind=3:=by simpa using k3
 rw[am k3]at hL;refine gA Z (zI (fun k4=>?_) fun k4=>?_);rotate_left
 ·have k4:l.op=1:=by simpa using k4
  rw[am (.inl k4)]at hL;rw[hL];refine gA Z (GF (d93 r t l.left l.right lit w ok (by omega)) ?_);refine gA Z yE
 have k4: ¬l.op=1:=zF k4;refine gA Z (zI (fun k5=>?_) fun k5=>?_)
 ·have k5:l.op=2:=zT k5;rw[am (.inr k5)]at hL;rw[hL];refine gA Z (GF (d93 r t l.left l.right lit w ok (by omega)) ?_);refine gA Z yE
 ·have k5: ¬l.op=2:=zF k5;rw[be (by rintro(h|h);exact k4 h;exact k5 h)]at hL;rw[hL];refine gA Z (GF (Lp r t l.left lit w (by omega)) ?_);refine gA Z (Dr (Lp r (t.add (fX r lit w l.left)) l.right lit w (by show(t.ws++_).length+_<=_;rw[WW];omega)) Z Z Z Z Z Z Z (by first|rfl|(rw[WW];rfl)|simp) (by first|rfl|(rw[WZ];rfl)|(simp only[WZ,Xa];rfl)) Z Z Z Z Z Z ?_);refine gA Z yE
theorem lR: ∀(n:Nat) (m:UM) (v:aL),iA m->Hi m v<=n->dV (.si .i64) m (aP m v)=false
 |n,m,v,ok,hn=>by
  cases h:dV (.si .i64) m v with
  |false=>rw[tA m v h];exact h
  |true=>
   obtain⟨h1,h2⟩:=pC m v ok h;cases n with
   |zero=>omega
   |succ n=>rw[<-h1];exact lR n m _ ok (by omega)
theorem tD: ∀(m:UM) (u v:aL),dV (.si .i64) m u=false->b6 (.si .i64) m u v=m++ [(u,v)]
 | [],_,_,_=>rfl
 |(x,y)::r,u,v,h=>by
  unfold dV at h;split at h
  ·cases h
  ·rename_i hx;show(if x=u then _ else(x,y)::b6 (.si .i64) r u v)=_;rw[be hx,tD r u v h];rfl
theorem Dl{m:UM}{u:aL}(h:dV (.si .i64) m u=false): ∀q∈m,q.1≠u:=by
 induction m with
 |nil=>intro q hq;cases hq
 |cons a r ih=>
  obtain⟨x,y⟩:=a;unfold dV at h;split at h
  ·cases h
  ·rename_i hx;intro q hq;rcases Xb.1 hq with rfl|hq
   ·exact hx
   ·exact ih h q hq
theorem yZ: ∀{m:UM} {u v:aL},iA m->(∀q∈m,q.1≠u)->(∀q∈m,q.1≠v)->u≠v->iA (m++ [(u,v)])
 | [],u,v,_,_,_,hne=>⟨hne,fun q hq=>(nomatch hq),fun q hq=>(nomatch hq),ac⟩
 |(x,y)::r,u,v,⟨o1,o2,o3,o4⟩,hu,hv,hne=>by
  refine⟨o1,fun q hq=>?_,fun q hq=>?_,yZ o4 (fun q hq=>hu q (W8 _ hq)) (fun q hq=>hv q (W8 _ hq)) hne⟩
  ·rcases W7.1 hq with hq|hq
   ·exact o2 q hq
   ·simp only[W5]at hq;subst hq;exact fun e=>hu _ Xd e.symm
  ·rcases W7.1 hq with hq|hq
   ·exact o3 q hq
   ·simp only[W5]at hq;subst hq;exact fun e=>hv _ Xd e.symm
theorem Jc{t:TS}(ok:iA t.up)(a b:aL):iA (r8 t (aP t.up a) (aP t.up b)).up:=by
 unfold r8;split
 ·exact ok
 ·rename_i hne;have h1:=lR _ t.up a ok (W0 _);have h2:=lR _ t.up b ok (W0 _);show iA (b6 _ _ _ _);rw[tD _ _ _ h1];exact yZ ok (Dl h1) (Dl h2) hne
theorem Ax(r:aq)(lit w:Int){t:TS}(ok:iA t.up)(x y:Expr):iA (fJ r lit w t x y).up:=by
 unfold fJ;split
 ·exact Jc ok _ _
 ·exact ok
theorem Ef(r:aq)(lit w:Int){t:TS}(ok:iA t.up)(a b:Expr):iA (jc r lit w t a b).up:=by
 unfold jc;split
 ·exact Ax r lit w (t:=(t.add (iJ r lit w a)).add (iJ r lit w b)) ok _ _
 ·exact Ax r lit w (t:=(t.add (iJ r lit w a)).add (iJ r lit w b)) ok _ _
theorem Kj(p:Prog)(r:aq)(lit w:Int){t:TS}(ok:iA t.up)(l:Lit):iA (pf p r lit w t l).up:=by
 unfold pf
 repeat' split
 ·exact ok
 ·exact Ef r lit w ok _ _
 ·exact ok
 ·exact ok
theorem Jb(t:TS)(u v:aL):(r8 t u v).ws=t.ws:=by unfold r8;split<;>rfl
theorem yx(r:aq)(lit w:Int)(t:TS)(x y:Expr):(fJ r lit w t x y).ws.length<=t.ws.length+1:=by
 unfold fJ
 repeat' split
 ·rw[Jb];omega
 all_goals(show(t.ws++_).length<=_;rw[WW,XC];omega)
theorem Av(r:aq)(lit w:Int)(t:TS)(a b:Expr):(jc r lit w t a b).ws.length<=t.ws.length+a.size+b.size+1:=by
 have h1:=tN r lit w a;have h2:=tN r lit w b;have h3:((t.add (iJ r lit w a)).add (iJ r lit w b)).ws.length<=t.ws.length+a.size+b.size:=by
  show((t.ws++_)++_).length<=_;rw[WW,WW];omega
 unfold jc;split
 ·exact Xz (yx _ _ _ _ _ _) (by omega)
 ·exact Xz (yx _ _ _ _ _ _) (by omega)
theorem Gp(p:Prog)(r:aq)(lit w:Int)(t:TS)(l:Lit):(pf p r lit w t l).ws.length<=t.ws.length+l.size:=by
 have a0:=l.size_eq;have h1:=oS p r l.atom lit w l.atom.ae.length;have h2:=Av r lit w t l.left l.right;have h3:=jx r lit w l.left;have h4:=jx r lit w l.right;unfold pf
 repeat' split
 ·show(t.ws++_).length<=_;rw[WW];omega
 ·omega
 ·show((t.ws++_)++_).length<=_;rw[WW,WW];omega
 ·omega
theorem o7{P:Program}{nt:Nat}{Q:AQ}{k:List KI}{s t:AS}{c:Code}(L:List Nat)(h0:Wk s.nx L s t)(h:GO P nt (.code c::k) Q t):GO P nt (.code c::k) Q s:=by
 intro M N a w hf;exact AW.then h (h0.fits hf) fun e a' w' M' N' s' hx a0 hr=>⟨M',N',s',(h0.ext (.refl _ _ _ _ _)).trans hx,a0,hr⟩
theorem Ov:fQ .fY (rv []):=⟨id,fun M N U w j hj=>⟨#[],0,hj,⟨rfl,by simp,by simp,by simp,by simp⟩, .agg _ _ Z fun j p hj=>by
 match j,hj with
 |0,hj=>cases hj;exact .v _
 |1,hj=>cases hj;exact .v _
 |j+2,hj=>simp[aL.c]at hj⟩⟩
theorem Ow:fQ .fY (rK []):=⟨id,fun M N U w j hj=>⟨#[],0,hj,⟨rfl,by simp,by simp,by simp,by simp⟩,gK M⟩⟩
def iQ(s:aj):Expr:= .mk 1 s ⟨0,0,W4⟩ 0 []
abbrev En(s:aj):PV:= .agg [pI 1,pS s,pI 0,pI 0,pS W4,pI 0, .iv (.v (.slice none 0 0))]
theorem qH(s:aj):aH (En s) (ag (iQ s).c):= .agg ⟨.refl _, .refl _, .refl _, .refl _, .refl _, .refl _, .nil _ _,ac⟩
theorem jh(s:aj):(iQ s).size=1:=rfl
def vT(r:aq)(i:Int)(t:TS)(f:Int)(v:aj)(o:Expr):TS:=
 if f=2 then(t.add (fX r i i o)).add (fX r i i (iQ v)) else if f=1 then t.add (fX r i i (iQ v)) else jc r i i t (iQ v) o
def rM(p:Prog)(r:aq)(i:Int)(t:TS)(ls:List Lit):Nat->TS
 |0=>t
 |k+1=>pf p r i i (rM p r i t ls k) (ls.getD k default)
def stepT(p:Prog)(r:aq)(i:Int)(t:TS)(l:Lit):TS:=
 if l.kind=4 then rM p r i (vT r i t l.dP l.bp l.km) l.ar l.ar.length else pf p r i (-1) t l
def TS.o:TS:=⟨[],[],[]⟩
def eY(p:Prog)(r:aq):Nat->TS
 |0=>TS.o.add (gf p r r.head (-1) (-1) r.head.ae.length)
 |k+1=>stepT p r k (eY p r k) (r.body.getD k default)
def cE(up:UM)(m:KM)(w:Want):KM:=if w.has=0∧bQ (.si .i64) m (aP up w.at_) 0=0 then b6 (.si .i64) m (aP up w.at_) w.kind else m
def ov(p:Prog)(r:aq):TS:=⟨(eY p r r.body.length).up,(eY p r r.body.length).ws,(eY p r r.body.length).ws.foldl (cE (eY p r r.body.length).up) []⟩
theorem I0(r:aq)(i:Int){t:TS}(ok:iA t.up)(f:Int)(v:aj)(o:Expr):iA (vT r i t f v o).up:=by
 unfold vT
 repeat' split
 ·exact ok
 ·exact ok
 ·exact Ef r i i ok _ _
theorem Di(p:Prog)(r:aq)(i:Int){t:TS}(ok:iA t.up)(ls:List Lit): ∀k,iA (rM p r i t ls k).up
 |0=>ok
 |k+1=>Kj p r i i (Di p r i ok ls k) _
theorem Nt(p:Prog)(r:aq)(i:Int){t:TS}(ok:iA t.up)(l:Lit):iA (stepT p r i t l).up:=by
 unfold stepT;split
 ·exact Di p r i (I0 r i ok _ _ _) _ _
 ·exact Kj p r i (-1) ok l
theorem BM(p:Prog)(r:aq): ∀k,iA (eY p r k).up
 |0=>trivial
 |k+1=>Nt p r k (BM p r k) _
theorem yw(r:aq)(lit w:Int)(t:TS)(a b:Expr):(jc r lit w t a b).kind=t.kind:=by
 have h1: ∀(t:TS) u v,(r8 t u v).kind=t.kind:=fun t u v=>by unfold r8;split<;>rfl
 have h2: ∀(t:TS) x y,(fJ r lit w t x y).kind=t.kind:=fun t x y=>by
  unfold fJ;split
  ·exact h1 _ _ _
  ·rfl
 unfold jc;split<;>exact h2 _ _ _
theorem C7(p:Prog)(r:aq)(lit w:Int)(t:TS)(l:Lit):(pf p r lit w t l).kind=t.kind:=by
 unfold pf
 repeat' split
 ·rfl
 ·exact yw r lit w t _ _
 ·rfl
 ·rfl
theorem GB(p:Prog)(r:aq)(i:Int)(t:TS)(ls:List Lit): ∀k,(rM p r i t ls k).kind=t.kind
 |0=>rfl
 |k+1=>by rw[rM,C7,GB p r i t ls k]
theorem Ht(p:Prog)(r:aq)(i:Int)(t:TS)(l:Lit):(stepT p r i t l).kind=t.kind:=by
 unfold stepT;split
 ·rw[GB];unfold vT
  repeat' split
  ·rfl
  ·rfl
  ·exact yw r i i t _ _
 ·exact C7 p r i (-1) t l
theorem Am(p:Prog)(r:aq): ∀k,(eY p r k).kind=[]
 |0=>rfl
 |k+1=>by rw[eY,Ht,Am p r k]
theorem FL(r:aq)(i:Int)(t:TS)(f:Int)(v:aj)(o:Expr):(vT r i t f v o).ws.length<=t.ws.length+o.size+2:=by
 have h1:=jx r i i o;have h2:=jx r i i (iQ v);have h3:=Av r i i t (iQ v) o;rw[jh]at h2 h3;unfold vT
 repeat' split
 ·show((t.ws++_)++_).length<=_;rw[WW,WW];omega
 ·show(t.ws++_).length<=_;rw[WW];omega
 ·omega
theorem eI: ∀(l:List Lit) (i:Nat),i<l.length->Lit.ax (l.take i)+(l.getD i default).size<=Lit.ax l
 | [],i,h=>by simp at h
 |s::r,0,_=>by simp[Lit.ax]
 |s::r,i+1,h=>by
  have:=eI r i (by simpa using h);simp only[Yh,Yk,Lit.ax];omega
theorem Lit.jV(l:List Lit)(i:Nat)(h:i<l.length):Lit.ax (l.take (i+1))=Lit.ax (l.take i)+(l.getD i default).size:=by
 rw[aN h];have: ∀(a:List Lit) (b:Lit),Lit.ax (a++ [b])=Lit.ax a+b.size:=by
  intro a b
  induction a with
  |nil=>simp[Lit.ax]
  |cons x r ih=>simp only[Ym,Lit.ax,ih];omega
 exact this _ _
theorem xL(p:Prog)(r:aq)(i:Int)(t:TS)(ls:List Lit): ∀k,k<=ls.length->(rM p r i t ls k).ws.length<=t.ws.length+Lit.ax (ls.take k)
 |0,_=>by simp[rM,Lit.ax]
 |k+1,h=>by
  have h1:=xL p r i t ls k (by omega);have h2:=Gp p r i i (rM p r i t ls k) (ls.getD k default);rw[rM,Lit.jV ls k (by omega)];omega
theorem Jo(p:Prog)(r:aq)(i:Int)(t:TS)(l:Lit):(stepT p r i t l).ws.length<=t.ws.length+l.size:=by
 have a0:=l.size_eq;unfold stepT;split
 ·have h1:=xL p r i (vT r i t l.dP l.bp l.km) l.ar l.ar.length (W0 _);have h2:=FL r i t l.dP l.bp l.km;rw[YE]at h1;omega
 ·exact Gp p r i (-1) t l
theorem yf(p:Prog)(r:aq): ∀k,k<=r.body.length->(eY p r k).ws.length<=r.head.ae.length+Lit.ax (r.body.take k)
 |0,_=>by
  have:=oS p r r.head (-1) (-1) r.head.ae.length;show([]++_).length<=_;simp only[Y5];omega
 |k+1,h=>by
  have h1:=yf p r k (by omega);have h2:=Jo p r k (eY p r k) (r.body.getD k default);rw[eY,Lit.jV r.body k (by omega)];omega
theorem VN(r:aq)(up:UM)(kd:KM)(W:IV)(v0:aL)(ok:iA up):b8 prog 201 [.ptr 0 0,ag v0.c] [.cells [.iv (c6 r), .mp 1, .iv W, .mp 2],rv up,rK kd] (ag (aP up v0).c) [(0,some (.cells [.iv (c6 r), .mp 1, .iv W, .mp 2])),(1,some (rv up)),(2,some (rK kd))] 3:=by
 refine aE ab func201 Z (by decide) ntmps201 Z (by simp) ?_;refine gA Z ?_
 refine o8 (σ:={v:aL//aP up v=aP up v0}) (fun v=>⟨[(0, .ptr 0 0),(3, .ptr 3 0),(4, .ptr 4 0)],
  [(0,some (.cells [.iv (c6 r), .mp 1, .iv W, .mp 2])),(1,some (rv up)),(2,some (rK kd)),(3,some (.cells [pS v.1.1,pI v.1.2])),(4,some (.cells [pS ⟨#[]⟩,pI 0]))],5⟩) (fun v=>Hi up v.1) ⟨v0,rfl⟩ []
  (zW (zO (hM Z Z Z (hM Z Z Z ⟨⟨_,rfl, .of_eq Z⟩,WR Z,rfl,⟨_,rfl, .of_eq Z⟩,WR Z,rfl,ac⟩)))) fun v=>?_
 obtain⟨v,hv⟩:=v;refine gA Z (zI (fun g=>?_) fun g=>?_)
 ·have h:dV (.si .i64) up v=false:=by simpa using g
  have e:aP up v0=v:=by rw[<-hv];exact tA up v h
  refine gA Z (aC [] (by first|exact .inr Z|exact .inl Z) Z (zM ⟨.of_eq (congrArg (fun x:aL=>ag x.c) e.symm),rfl,ac⟩ (zO (hM Z Z Z (hM Z Z Z ac)))))
 ·have h:dV (.si .i64) up v=true:=by simpa using g
  obtain⟨h1,h2⟩:=pC up v ok h;refine gA Z ⟨⟨bQ (.si .i64) up v aL.z,h1.trans hv⟩,[],h2,zW (zO (hM Z Z Z (hM Z Z Z ⟨⟨_,rfl, .of_eq Z⟩,WR Z,rfl,⟨_,rfl, .of_eq Z⟩,WR Z,rfl,ac⟩)))⟩
set_option maxHeartbeats 2000000 in
theorem c49(p:Prog)(r:aq)(hb:r.size<=100000000):Pure prog 168 [.iv (df p), .iv (c6 r)] (.iv (RQ r (ov p r))):=by
 unfold aq.size at hb;have p0:=Lit.aw r.body;have q0:r.body.length<=Lit.ax r.body:=p0;refine ad ab func168 Z (by decide) ntmps168 Z (by simp) Z ?_;refine gM 14 Z (kB 2 2 5 Z Z ?_);refine o7 [] (t:=⟨[(0, .iv (df p)),(1, .iv (c6 r)),(5, .ptr 2 0)],[(2,some (TS.cell r 0 3 TS.o.ws.length 1)),(0,some (rv TS.o.up)),(3,some (aD 5 TS.o.ws Want.c)),(1,some (rK TS.o.kind))],4⟩)
  (zW ⟨⟨_,rfl, .of_eq Z⟩,WR Z,rfl,⟨_,rfl,Ov⟩,WR Z,ac,⟨_,rfl, .of_eq Z⟩,WR Z,cL _,⟨_,rfl,Ow⟩,WR Z,ac,ac⟩) ?_
 refine gA Z (Dr (d90 p r TS.o r.head (-1) (-1) (by show 0+_<=_;omega)) Z Z Z Z Z Z Z (by first|rfl|(rw[WW];rfl)|simp) (by first|rfl|(rw[WZ];rfl)|(simp only[WZ,Xa];rfl)) Z Z Z Z Z Z ?_);refine gA Z ?_
 refine aA 0 r.body.length (W3 _) (fun i=>⟨[(0, .iv (df p)),(1, .iv (c6 r)),(5, .ptr 2 0),(31, .iv (lits r.body)),(32,pI r.body.length),(33,pI i)],
  [(2,some (TS.cell r 0 5 (eY p r i).ws.length 1)),(0,some (rv (eY p r i).up)),(5,some (aD 5 (eY p r i).ws Want.c)),(1,some (rK (eY p r i).kind))],6⟩) (fun _=>True) _ ac
  (Pw (t:=eY p r 0) Z Z Z Z Z Z Z Z Z Z Z (bv (bv (bv (bv (bv (bv trivial))))))) fun i hi _=>?_
 have m0:=yf p r i hi;have c0:=BM p r i;refine gA Z (zI (fun h1=>?_) fun h1=>?_)
 ·have h1:=ci h1;have s0:=eI r.body i h1;have hs:eY p r (i+1)=stepT p r i (eY p r i) (r.body.getD i default):=rfl;generalize eY p r i=t1 at*
  have t0:=(r.body.getD i default).size_eq;refine gA Z (zI (fun k4=>?_) fun k4=>?_)
  ·have k4: ¬(r.body.getD i default).kind=4:=by have g:(!decide ((r.body.getD i default).kind=4))=true:=k4;simpa only[XF,decide_eq_false_iff_not]using g
   have hS:stepT p r i t1 (r.body.getD i default)=pf p r i (-1) t1 (r.body.getD i default):=be k4;rw[hS]at hs;refine gA Z (GF (d91 p r t1 (r.body.getD i default) i (-1) c0 (by omega)) ?_);refine gA Z ⟨h1,ac,_,rW (hs.symm)⟩
  have k4:(r.body.getD i default).kind=4:=by have g:(!decide ((r.body.getD i default).kind=4))=false:=k4;simpa only[YA,decide_eq_true_eq]using g
  have hS:stepT p r i t1 (r.body.getD i default)=rM p r i (vT r i t1 (r.body.getD i default).dP (r.body.getD i default).bp (r.body.getD i default).km) (r.body.getD i default).ar (r.body.getD i default).ar.length:=am k4;rw[hS]at hs;have hV:vT r i t1 (r.body.getD i default).dP (r.body.getD i default).bp (r.body.getD i default).km=if(r.body.getD i default).dP=2 then(t1.add (fX r i i (r.body.getD i default).km)).add (fX r i i (iQ (r.body.getD i default).bp)) else if(r.body.getD i default).dP=1 then t1.add (fX r i i (iQ (r.body.getD i default).bp)) else jc r i i t1 (iQ (r.body.getD i default).bp) (r.body.getD i default).km:=rfl;have d0:=I0 r i c0 (r.body.getD i default).dP (r.body.getD i default).bp (r.body.getD i default).km;have v0:=FL r i t1 (r.body.getD i default).dP (r.body.getD i default).bp (r.body.getD i default).km;have j0:=Lit.aw (r.body.getD i default).ar;have w0:=jh (r.body.getD i default).bp;have r0:=jx r i i (r.body.getD i default).km;generalize vT r i t1 (r.body.getD i default).dP (r.body.getD i default).bp (r.body.getD i default).km=V at*
  refine gA Z (zI (fun f2=>?_) fun f2=>?_)
  ·have f2:(r.body.getD i default).dP=2:=zT f2;have hv:V=(t1.add (fX r i i (r.body.getD i default).km)).add (fX r i i (iQ (r.body.getD i default).bp)):=by rw[hV,am f2]
   refine gA Z (GF (Lp r t1 (r.body.getD i default).km i i (by omega)) ?_);refine gA Z (Dr (b8.le (aa:=[.ptr 0 0,En (r.body.getD i default).bp,pI i,pI i]) (Lp r (t1.add (fX r i i (r.body.getD i default).km)) (iQ (r.body.getD i default).bp) i i (by show(t1.ws++_).length+_<=_;rw[WW,jh];omega)) ⟨.refl _,qH _, .refl _, .refl _,ac⟩) Z Z Z Z Z Z Z (by first|rfl|(rw[WW];rfl)|simp) (by first|rfl|(rw[WZ];rfl)|(simp only[WZ,Xa];rfl)) Z Z Z Z Z Z ?_);refine gA Z ?_;refine aA 0 (r.body.getD i default).ar.length (W3 _) (fun k=>⟨[(0, .iv (df p)),(1, .iv (c6 r)),(5, .ptr 2 0),(6,pI i),(31, .iv (lits r.body)),(32,pI r.body.length),(33,pI i),(79, .iv (lits (r.body.getD i default).ar)),(80,pI (r.body.getD i default).ar.length),(81,pI k)],[(2,some (TS.cell r 0 10 (rM p r i V (r.body.getD i default).ar k).ws.length 1)),(0,some (rv (rM p r i V (r.body.getD i default).ar k).up)),(10,some (aD 5 (rM p r i V (r.body.getD i default).ar k).ws Want.c)),(1,some (rK (rM p r i V (r.body.getD i default).ar k).kind))],11⟩) (fun _=>True) _ ac
    (Pw hv.symm Z Z Z Z Z Z Z Z Z Z (bv (bv (bv (bv (bv (bv (bv ⟨.iv (kP _),rfl,bv (bv trivial)⟩)))))))) fun k hk _=>?_
   have g0:=xL p r i V (r.body.getD i default).ar k hk;have b0:=Di p r i d0 (r.body.getD i default).ar k;have i0:rM p r i V (r.body.getD i default).ar (k+1)=pf p r i i (rM p r i V (r.body.getD i default).ar k) ((r.body.getD i default).ar.getD k default):=rfl;refine gA Z (zI (fun h2=>?_) fun h2=>?_)
   ·have h2:k<(r.body.getD i default).ar.length:=zN h2;have f0:=eI (r.body.getD i default).ar k h2;refine gA Z (GF (d91 p r (rM p r i V (r.body.getD i default).ar k) ((r.body.getD i default).ar.getD k default) i i b0 (by omega)) ?_);refine gA Z ⟨h2,ac,_,rW (rfl)⟩
   ·have h2:(r.body.getD i default).ar.length<=k:=zG h2;have a0:k=(r.body.getD i default).ar.length:=by omega
    subst a0;refine gA Z ⟨h1,ac,_,rW (hs.symm)⟩
  have f2: ¬(r.body.getD i default).dP=2:=zF f2;rw[be f2]at hV;refine gA Z (zI (fun f1=>?_) fun f1=>?_)
  ·have f1:(r.body.getD i default).dP=1:=zT f1;have hv:V=t1.add (fX r i i (iQ (r.body.getD i default).bp)):=by rw[hV,am f1]
   refine gA Z (GF (b8.le (aa:=[.ptr 0 0,En (r.body.getD i default).bp,pI i,pI i]) (Lp r t1 (iQ (r.body.getD i default).bp) i i (by rw[jh];omega)) ⟨.refl _,qH _, .refl _, .refl _,ac⟩) ?_);refine gA Z ?_;refine aA 0 (r.body.getD i default).ar.length (W3 _) (fun k=>⟨[(0, .iv (df p)),(1, .iv (c6 r)),(5, .ptr 2 0),(6,pI i),(31, .iv (lits r.body)),(32,pI r.body.length),(33,pI i),(79, .iv (lits (r.body.getD i default).ar)),(80,pI (r.body.getD i default).ar.length),(81,pI k)],[(2,some (TS.cell r 0 9 (rM p r i V (r.body.getD i default).ar k).ws.length 1)),(0,some (rv (rM p r i V (r.body.getD i default).ar k).up)),(9,some (aD 5 (rM p r i V (r.body.getD i default).ar k).ws Want.c)),(1,some (rK (rM p r i V (r.body.getD i default).ar k).kind))],10⟩) (fun _=>True) _ ac
    (Pw hv.symm Z Z Z Z Z Z Z Z Z Z (bv (bv (bv (bv (bv (bv (bv ⟨.iv (kP _),rfl,bv (bv trivial)⟩)))))))) fun k hk _=>?_
   have g0:=xL p r i V (r.body.getD i default).ar k hk;have b0:=Di p r i d0 (r.body.getD i default).ar k;have i0:rM p r i V (r.body.getD i default).ar (k+1)=pf p r i i (rM p r i V (r.body.getD i default).ar k) ((r.body.getD i default).ar.getD k default):=rfl;refine gA Z (zI (fun h2=>?_) fun h2=>?_)
   ·have h2:k<(r.body.getD i default).ar.length:=zN h2;have f0:=eI (r.body.getD i default).ar k h2;refine gA Z (GF (d91 p r (rM p r i V (r.body.getD i default).ar k) ((r.body.getD i default).ar.getD k default) i i b0 (by omega)) ?_);refine gA Z ⟨h2,ac,_,rW (rfl)⟩
   ·have h2:(r.body.getD i default).ar.length<=k:=zG h2;have a0:k=(r.body.getD i default).ar.length:=by omega
    subst a0;refine gA Z ⟨h1,ac,_,rW (hs.symm)⟩
  ·have f1: ¬(r.body.getD i default).dP=1:=zF f1;have hv:V=jc r i i t1 (iQ (r.body.getD i default).bp) (r.body.getD i default).km:=by rw[hV,be f1]
   refine gA Z (GF (b8.le (aa:=[.ptr 0 0,En (r.body.getD i default).bp,ag (r.body.getD i default).km.c,pI i,pI i]) (d93 r t1 (iQ (r.body.getD i default).bp) (r.body.getD i default).km i i c0 (by rw[jh];omega)) ⟨.refl _,qH _, .refl _, .refl _, .refl _,ac⟩) ?_);refine gA Z ?_;refine aA 0 (r.body.getD i default).ar.length (W3 _) (fun k=>⟨[(0, .iv (df p)),(1, .iv (c6 r)),(5, .ptr 2 0),(6,pI i),(31, .iv (lits r.body)),(32,pI r.body.length),(33,pI i),(79, .iv (lits (r.body.getD i default).ar)),(80,pI (r.body.getD i default).ar.length),(81,pI k)],[(2,some (TS.cell r 0 9 (rM p r i V (r.body.getD i default).ar k).ws.length 1)),(0,some (rv (rM p r i V (r.body.getD i default).ar k).up)),(9,some (aD 5 (rM p r i V (r.body.getD i default).ar k).ws Want.c)),(1,some (rK (rM p r i V (r.body.getD i default).ar k).kind))],10⟩) (fun _=>True) _ ac
    (Pw hv.symm Z Z Z Z Z Z Z Z Z Z (bv (bv (bv (bv (bv (bv (bv ⟨.iv (kP _),rfl,bv (bv trivial)⟩)))))))) fun k hk _=>?_
   have g0:=xL p r i V (r.body.getD i default).ar k hk;have b0:=Di p r i d0 (r.body.getD i default).ar k;have i0:rM p r i V (r.body.getD i default).ar (k+1)=pf p r i i (rM p r i V (r.body.getD i default).ar k) ((r.body.getD i default).ar.getD k default):=rfl;refine gA Z (zI (fun h2=>?_) fun h2=>?_)
   ·have h2:k<(r.body.getD i default).ar.length:=zN h2;have f0:=eI (r.body.getD i default).ar k h2;refine gA Z (GF (d91 p r (rM p r i V (r.body.getD i default).ar k) ((r.body.getD i default).ar.getD k default) i i b0 (by omega)) ?_);refine gA Z ⟨h2,ac,_,rW (rfl)⟩
   ·have h2:(r.body.getD i default).ar.length<=k:=zG h2;have a0:k=(r.body.getD i default).ar.length:=by omega
    subst a0;refine gA Z ⟨h1,ac,_,rW (hs.symm)⟩
 ·have h1:=co h1;have o0:i=r.body.length:=by omega
  subst o0;have hT:ov p r=⟨(eY p r r.body.length).up,(eY p r r.body.length).ws,(eY p r r.body.length).ws.foldl (cE (eY p r r.body.length).up) []⟩:=rfl;rw[hT];rw[YE]at m0;have k0:(eY p r r.body.length).kind=[]:=Am p r _;generalize eY p r r.body.length=t1 at*
  have n0:t1.kind=(t1.ws.take 0).foldl (cE t1.up) []:=k0;refine gA Z ?_;refine BA 5 (fun k=>Want.c (t1.ws.getD k default)) Z (cX Z) (by simp[AF.rD,PV.bH,qx]) ⟨(by simp[AO.rD,dw,PV.bH]),ac,pA _ _ _ _ _ _,ac,ac⟩ ?_
  refine aA 0 t1.ws.length (W3 _) (fun i=>⟨[(5, .ptr 2 0),(96, .iv (dy 5 t1.ws Want.c)),(97,pI t1.ws.length),(98,pI i)],
   [(2,some (.cells [.iv (c6 r), .mp 0, .iv (dy 5 t1.ws Want.c), .mp 1])),(0,some (rv t1.up)),(1,some (rK ((t1.ws.take i).foldl (cE t1.up) [])))],6⟩) (fun _=>True) [] ac
   (zM (bv ⟨.dq Z (fun k _=>by rw[Xk]),rfl,bv (bv trivial)⟩) ⟨⟨_,rfl, .cells ⟨.refl _, .refl _, .dq Z (fun k _=>by rw[Xk]), .refl _,ac⟩⟩,WR Z,rfl,hM Z Z Z (hM Z n0 Z trivial)⟩) fun i hi _=>?_
  refine gA Z (zI (fun h2=>?_) fun h2=>?_)
  ·have h2:i<t1.ws.length:=zN h2;have hf:=cR (g:=cE t1.up) (b:=[]) h2;refine gA Z (zq [2,0,1] (VN r t1.up ((t1.ws.take i).foldl (cE t1.up) []) (dy 5 t1.ws Want.c) (t1.ws.getD i default).at_ c0) ?_);refine gA Z (zI (fun g1=>?_) fun g1=>?_)
   ·have g1:(t1.ws.getD i default).has=0:=zT g1;refine gA Z (zI (fun g2=>?_) fun g2=>?_)
    ·have g2:bQ (.si .i64) ((t1.ws.take i).foldl (cE t1.up) []) (aP t1.up (t1.ws.getD i default).at_) 0=0:=zT g2;have hk:cE t1.up ((t1.ws.take i).foldl (cE t1.up) []) (t1.ws.getD i default)=b6 (.si .i64) ((t1.ws.take i).foldl (cE t1.up) []) (aP t1.up (t1.ws.getD i default).at_) (t1.ws.getD i default).kind:=am ⟨g1,g2⟩;rw[hk]at hf;refine gA Z ⟨h2,ac,[],zW (zO (hM Z Z Z (hM Z (by first|exact hf.symm|(rw[hf];rfl)) Z ac)))⟩
    ·have g2: ¬bQ (.si .i64) ((t1.ws.take i).foldl (cE t1.up) []) (aP t1.up (t1.ws.getD i default).at_) 0=0:=zF g2;have hk:cE t1.up ((t1.ws.take i).foldl (cE t1.up) []) (t1.ws.getD i default)=(t1.ws.take i).foldl (cE t1.up) []:=be fun h=>g2 h.2;rw[hk]at hf;refine gA Z ⟨h2,ac,[],zW (zO (hM Z Z Z (hM Z (by first|exact hf.symm|(rw[hf];rfl)) Z ac)))⟩
   ·have g1: ¬(t1.ws.getD i default).has=0:=zF g1;have hk:cE t1.up ((t1.ws.take i).foldl (cE t1.up) []) (t1.ws.getD i default)=(t1.ws.take i).foldl (cE t1.up) []:=be fun h=>g1 h.1;rw[hk]at hf;refine gA Z ⟨h2,ac,[],zW (zO (hM Z Z Z (hM Z (by first|exact hf.symm|(rw[hf];rfl)) Z ac)))⟩
  ·have h2:t1.ws.length<=i:=zG h2;have e0:t1.ws.take i=t1.ws:=W2 h2;refine nX Z ac (jH (.inr Z) Z (.map 0 Z (.map 1 Z (.cells 2 _ Z (show _=List.map PV.iv [c6 r,upI t1.up,dy 5 t1.ws Want.c,kdI (t1.ws.foldl (cE t1.up) [])] by rw[e0];rfl) (.done (.of_eq Z))))))
def lx(a:Atom):Bool:=(jQ WS.o a).bad
def jA(l:Lit):Bool:=(en l.size l WS.o).bad
def oW(l:Lit):Bool:=decide (l.kind=4)&&decide ((l.ar.length:Int)>12)
def iH(n:Nat):List Int:=(Xc (n+1)).map fun k:Nat=>(k:Int)-1
theorem qR(n:Nat):(iH n).length=n+1:=by simp[iH]
theorem qS(n k:Nat)(h:k<n+1):(iH n).getD k default=(k:Int)-1:=by simp[iH,h]
def vc(f:Int->Bool)(n:Nat):Option Int:=(iH n).find? f
abbrev aZ:=Int×Pos
def aZ.c(d:aZ):List IV:=[iI d.1,iI d.2.line,iI d.2.G6]
def bB(r:aq)(e:Int)(f:Int->Bool)(k:aZ):aZ:=match vc f r.body.length with
 |some lit=>(e,fh r lit)
 |none=>k
def xC(p:Prog)(r:aq):aZ:=
 bB r 61 (fun lit=>(bu r lit).any fun x=>lz p x)<|bB r 62 (fun lit=>(bu r lit).any fun x=>mJ p x)<|bB r 65 (dA r)<|bB r 63 (nf (ov p r))<|bB r 64 (dI r) (0,⟨0,0⟩)
def tz(p:Prog)(r:aq)(n:Int):aZ:=
 if lx r.head=true then(1,r.at_) else match r.body.find? jA with
 |some l=>(1,l.at)
 |none=>if n>256∨(r.body.length:Int)>12 then(66,r.at_) else if(tt r:Int)>24 then(66,r.at_) else match r.body.find? oW with
  |some l=>(66,l.at)
  |none=>xC p r
def aq.fit(r:aq):Prop:=r.size<=10000000∧r.head.ts<=900000000∧ ∀l∈r.body,l.ts<=900000000
theorem fV{α:Type}{p:α->Bool}{l:List α}(h:l.any p=false):l.find? p=none:=by
 rw[Yg];intro x hx;have:=XO.1 h x hx;simpa using this
theorem nZ{α:Type}[Inhabited α]{p:α->Bool}{l:List α}{i:Nat}(h:(l.take i).any p=false)(hi:i<l.length)(hp:p (l.getD i default)=true):l.find? p=some (l.getD i default):=by
 have hg:l.getD i default=l[i]:=by simp[hi]
 rw[hg]at hp ⊢;rw[YZ];refine⟨hp,i,hi,rfl,fun j hj=>?_⟩;have:=XO.1 h l[j] (List.mem_iff_getElem?.2 ⟨j,by rw[XY,am hj,WY (by omega)]⟩);simpa using this
def ku(p:Prog)(r:aq):List (List PV):=[[pI 61, .dr (.func 160) [] [.ptr 1 0, .ptr 0 0]],[pI 62, .dr (.func 164) [] [.ptr 1 0, .ptr 0 0]],[pI 65, .dr (.func 166) [] [.ptr 1 0]],[pI 63, .dr (.func 169) [.iv (RQ r (ov p r))] []],[pI 64, .dr (.func 170) [.iv (c6 r)] []]]
theorem c5(p:Prog)(r:aq)(n:Nat)(h:Xi 1 n=true):(AO.row 2 (ku p r)).low n:=by
 have h0:Xi 0 n=true:=XB (by have:=WR h;omega);intro k e hk
 match k,hk with
 |0,hk=>cases hk;simp[bs,PV.low,h,h0]
 |1,hk=>cases hk;simp[bs,PV.low,h,h0]
 |2,hk=>cases hk;simp[bs,PV.low,h,h0]
 |3,hk=>cases hk;simp[bs,PV.low,h,h0]
 |4,hk=>cases hk;simp[bs,PV.low,h,h0]
 |k+5,hk=>simp[ku]at hk
theorem l5{r:aq}{e:Int}{f:Int->Bool}{k:aZ}{i:Nat}(hJ:((iH r.body.length).take i).any f=false)(hi:i<r.body.length+1)(h:f ((i:Int)-1)=true):bB r e f k=(e,fh r ((i:Int)-1)):=by
 have h1:=qS r.body.length i hi;have:=nZ hJ (by rw[qR];exact hi) (by rw[h1];exact h);rw[h1]at this;rw[bB,vc,this]
theorem nT{r:aq}{e:Int}{f:Int->Bool}{k:aZ}{i:Nat}(hJ:((iH r.body.length).take i).any f=false)(hi:r.body.length+1<=i):bB r e f k=k:=by
 rw[W2 (by rw[qR];exact hi)]at hJ;rw[bB,vc,fV hJ]
theorem nS{r:aq}{f:Int->Bool}{i:Nat}(hJ:((iH r.body.length).take i).any f=false)(hi:i<r.body.length+1)(h:f ((i:Int)-1)=false):((iH r.body.length).take (i+1)).any f=false:=by
 refine(bq hJ (by rw[qR];exact hi)).2 ?_;rw[qS _ _ hi];exact h
set_option maxHeartbeats 4000000 in
theorem c65(p:Prog)(r:aq)(n:Int)(hb:r.fit):Pure prog 125 [.iv (df p),ag r.c,pI n] (ag (tz p r n).c):=by
 obtain⟨hb,c0,d0⟩:=hb;have e0:r.size=r.head.ae.length+Lit.ax r.body:=rfl;have g0:=Lit.aw r.body;refine ad ab func125 Z (by decide) ntmps125 Z (by simp) Z ?_;refine gA Z (zp (c61 r.head c0) ?_);refine gA Z (zI (fun g1=>?_) fun g1=>?_)
 ·have g1:lx r.head=true:=by
   cases h:lx r.head with
   |true=>rfl
   |false=>
    have h:(jQ WS.o r.head).bad=false:=h;rw[h]at g1;simp at g1
  rw[tz,am g1];refine gA Z (zL (.of_eq ?_));rfl
 have g1: ¬lx r.head=true:=by
  intro h;have h:(jQ WS.o r.head).bad=true:=h;rw[h]at g1;simp at g1
 rw[tz,be g1];refine gA Z ?_;refine aA 0 r.body.length (W3 _) (fun i=>⟨[(2,pI n),(3, .ptr 0 0),(4, .ptr 1 0),(6, .ptr 2 0),(32, .iv (lits r.body)),(33,pI r.body.length),(34,pI i)],[(0,some (.cells [.iv (df p)])),(1,some (an r.c)),(2,some (.cells [pI 0,pI 0,pI 0]))],3⟩) (fun i=>(r.body.take i).any jA=false) [] (by simp)
  (zW ⟨⟨_,rfl, .of_eq Z⟩,WR Z,rfl,⟨_,rfl, .of_eq Z⟩,WR Z,rfl,⟨_,rfl, .of_eq Z⟩,WR Z,rfl,ac⟩) fun i hi hJ=>?_
 refine gA Z (zI (fun h1=>?_) fun h1=>?_)
 ·have h1:i<r.body.length:=zN h1;have hA:=bq hJ h1;have hm:r.body.getD i default∈r.body:=by rw[WU,WY h1];exact XD h1
  have f0:=Lit.aT r.body i h1;refine gA Z (bn (WD (r.body.getD i default) (d0 _ hm) (by omega)) Z Z Z Z Z Z ?_);refine gA Z (zI (fun h2=>?_) fun h2=>?_)
  ·have h2:jA (r.body.getD i default)=true:=by
    cases h:jA (r.body.getD i default) with
    |true=>rfl
    |false=>
     have h:(en (r.body.getD i default).size (r.body.getD i default) WS.o).bad=false:=h;have g:(!decide ((if(en (r.body.getD i default).size (r.body.getD i default) WS.o).bad=true then(50:Int) else 0)=0))=true:=h2;rw[h]at g;simp at g
   rw[nZ hJ h1 h2];refine gA Z (zL (.of_eq ?_));rfl
  ·have h2:jA (r.body.getD i default)=false:=by
    cases h:jA (r.body.getD i default) with
    |false=>rfl
    |true=>
     have h:(en (r.body.getD i default).size (r.body.getD i default) WS.o).bad=true:=h;have g:(!decide ((if(en (r.body.getD i default).size (r.body.getD i default) WS.o).bad=true then(50:Int) else 0)=0))=false:=h2;rw[h]at g;simp at g
   refine gA Z ⟨h1,hA.2 h2,[],zW ⟨⟨_,rfl, .of_eq Z⟩,WR Z,rfl,⟨_,rfl, .of_eq Z⟩,WR Z,rfl,⟨_,rfl, .of_eq Z⟩,WR Z,rfl,ac⟩⟩
 have h1:r.body.length<=i:=zG h1;rw[W2 h1]at hJ;rw[fV hJ];refine gA Z (zI (fun g2=>?_) fun g2=>?_);rotate_left
 ·have g2:n>256:=by simpa using g2
  rw[am (.inl g2)];refine gA Z (zL (.of_eq ?_));rfl
 have g2: ¬n>256:=zF g2;refine gA Z (zI (fun g3=>?_) fun g3=>?_)
 ·rw[am (.inr (zT g3))];refine gA Z (zL (.of_eq ?_));rfl
 have g3: ¬(r.body.length:Int)>12:=zF g3;rw[be (by rintro(h|h);exact g2 h;exact g3 h)];refine gA Z (zp (c48 r (by omega)) ?_);refine gA Z (zp (WC r (by omega)) ?_);refine gA Z (zI (fun g4=>?_) fun g4=>?_)
 ·rw[am (zT g4)];refine gA Z (zL (.of_eq ?_));rfl
 have g4: ¬(tt r:Int)>24:=zF g4;rw[be g4];refine gA Z ?_;refine aA 0 r.body.length (W3 _) (fun i=>⟨[(3, .ptr 0 0),(4, .ptr 1 0),(6, .ptr 2 0),(13, .iv (c6 r)),(69, .iv (lits r.body)),(70,pI r.body.length),(71,pI i)],[(0,some (.cells [.iv (df p)])),(1,some (an r.c)),(2,some (.cells [pI 0,pI 0,pI 0]))],3⟩) (fun i=>(r.body.take i).any oW=false) [] (by simp)
  (zW ⟨⟨_,rfl, .of_eq Z⟩,WR Z,rfl,⟨_,rfl, .of_eq Z⟩,WR Z,rfl,⟨_,rfl, .of_eq Z⟩,WR Z,rfl,ac⟩) fun i hi hJ=>?_
 refine gA Z (zI (fun h2=>?_) fun h2=>?_)
 ·have h2:i<r.body.length:=zN h2;have hA:=bq hJ h2;refine gA Z (zI (fun k1=>?_) fun k1=>?_)
  ·have k1:(r.body.getD i default).kind=4:=zT k1;refine gA Z (zI (fun k2=>?_) fun k2=>?_)
   ·have k2:oW (r.body.getD i default)=true:=by rw[oW,decide_eq_true k1];exact k2
    rw[nZ hJ h2 k2];refine gA Z (zL (.of_eq ?_));rfl
   ·have k2:oW (r.body.getD i default)=false:=by rw[oW,decide_eq_true k1];exact k2
    refine gA Z ⟨h2,hA.2 k2,[],zW ⟨⟨_,rfl, .of_eq Z⟩,WR Z,rfl,⟨_,rfl, .of_eq Z⟩,WR Z,rfl,⟨_,rfl, .of_eq Z⟩,WR Z,rfl,ac⟩⟩
  ·have k1: ¬(r.body.getD i default).kind=4:=zF (by have g:decide ((r.body.getD i default).kind=4)=false:=k1;exact g);refine gA Z ⟨h2,hA.2 (by rw[oW,decide_eq_false k1];rfl),[],zW ⟨⟨_,rfl, .of_eq Z⟩,WR Z,rfl,⟨_,rfl, .of_eq Z⟩,WR Z,rfl,⟨_,rfl, .of_eq Z⟩,WR Z,rfl,ac⟩⟩
 have h2:r.body.length<=i:=zG h2;rw[W2 h2]at hJ;rw[fV hJ];refine gA Z (zp (c49 p r (by omega)) ?_);refine gA Z ?_;refine o7 [] (t:=⟨[(3, .ptr 0 0),(4, .ptr 1 0),(6, .ptr 2 0),(104, .sl 3 0 5 2),(105,pI 5),(106,pI 0)],[(0,some (.cells [.iv (df p)])),(1,some (an r.c)),(2,some (.cells [pI 0,pI 0,pI 0])),(3,some (.row 2 (ku p r)))],4⟩)
  (zW (zO (zO (zO ⟨⟨_,rfl, .of_eq Z⟩,WR Z,c5 p r _ Z,ac⟩)))) ?_
 have b0:(ov p r).ws.length<=1000000000000:=by have:=yf p r r.body.length (W0 _);rw[YE]at this;show(eY p r r.body.length).ws.length<=_;omega
 rw[xC];refine KR (n:=6) ?_;refine gA Z (zI (fun q=>?_) fun q=>?_);rotate_left
 ·exact absurd (show true=false from q) (by decide)
 refine gA Z ?_;refine aA 0 (r.body.length+1) (W3 _) (fun k=>⟨[(3, .ptr 0 0),(4, .ptr 1 0),(6, .ptr 2 0),(18, .ptr 4 0),(19,pI ((k:Int)-1)),(104, .sl 3 0 5 2),(105,pI 5),(106,pI 0)],[(0,some (.cells [.iv (df p)])),(1,some (an r.c)),(2,some (.cells [pI 0,pI 0,pI 0])),(3,some (.row 2 (ku p r))),(4,some (.cells [pI 61, .dr (.func 160) [] [.ptr 1 0, .ptr 0 0]]))],5⟩) (fun k=>((iH r.body.length).take k).any (fun lit=>(bu r lit).any fun x=>lz p x)=false) [] Z
  (zW (zO (zO (zO ⟨⟨_,rfl, .of_eq Z⟩,WR Z,c5 p r _ Z,(zO trivial)⟩)))) fun k hk hJ=>?_
 refine gA Z (zI (fun q1=>?_) fun q1=>?_)
 ·have q1:(k:Int)-1<r.body.length:=zT q1;have a0:k<r.body.length+1:=by omega
  refine gA Z (zq [1,0] (d110 p r ((k:Int)-1) (by omega) (by omega)) ?_);refine gA Z (zI (fun q2=>?_) fun q2=>?_)
  ·rw[l5 hJ a0 q2];refine gA Z (nB (LF r ((k:Int)-1) q1) ?_);refine gA Z (zL (.of_eq ?_));rfl
  ·refine gA Z ?_;exact⟨a0,nS hJ a0 q2,[],zM (bv (bv (bv (bv ⟨.of_eq (EM (by omega)),rfl,bv (bv (bv ac))⟩)))) (zO (zO (zO ⟨⟨_,rfl, .of_eq Z⟩,WR Z,c5 p r _ Z,(zO ac)⟩)))⟩
 have q1: ¬(k:Int)-1<r.body.length:=zF q1;rw[nT hJ (by omega)];clear hJ hk q1;refine gA Z (zI (fun q=>?_) fun q=>?_);rotate_left
 ·exact absurd (show true=false from q) (by decide)
 refine gA Z ?_;refine aA 0 (r.body.length+1) (W3 _) (fun k=>⟨[(3, .ptr 0 0),(4, .ptr 1 0),(6, .ptr 2 0),(18, .ptr 5 0),(19,pI ((k:Int)-1)),(104, .sl 3 0 5 2),(105,pI 5),(106,pI 1)],[(0,some (.cells [.iv (df p)])),(1,some (an r.c)),(2,some (.cells [pI 0,pI 0,pI 0])),(3,some (.row 2 (ku p r))),(5,some (.cells [pI 62, .dr (.func 164) [] [.ptr 1 0, .ptr 0 0]]))],6⟩) (fun k=>((iH r.body.length).take k).any (fun lit=>(bu r lit).any fun x=>mJ p x)=false) [] Z
  (zW (zO (zO (zO ⟨⟨_,rfl, .of_eq Z⟩,WR Z,c5 p r _ Z,(zO trivial)⟩)))) fun k hk hJ=>?_
 refine gA Z (zI (fun q1=>?_) fun q1=>?_)
 ·have q1:(k:Int)-1<r.body.length:=zT q1;have a0:k<r.body.length+1:=by omega
  refine gA Z (zq [1,0] (d114 p r ((k:Int)-1) (by omega) (by omega)) ?_);refine gA Z (zI (fun q2=>?_) fun q2=>?_)
  ·rw[l5 hJ a0 q2];refine gA Z (nB (LF r ((k:Int)-1) q1) ?_);refine gA Z (zL (.of_eq ?_));rfl
  ·refine gA Z ?_;exact⟨a0,nS hJ a0 q2,[],zM (bv (bv (bv (bv ⟨.of_eq (EM (by omega)),rfl,bv (bv (bv ac))⟩)))) (zO (zO (zO ⟨⟨_,rfl, .of_eq Z⟩,WR Z,c5 p r _ Z,(zO ac)⟩)))⟩
 have q1: ¬(k:Int)-1<r.body.length:=zF q1;rw[nT hJ (by omega)];clear hJ hk q1;refine gA Z (zI (fun q=>?_) fun q=>?_);rotate_left
 ·exact absurd (show true=false from q) (by decide)
 refine gA Z ?_;refine aA 0 (r.body.length+1) (W3 _) (fun k=>⟨[(3, .ptr 0 0),(4, .ptr 1 0),(6, .ptr 2 0),(18, .ptr 6 0),(19,pI ((k:Int)-1)),(104, .sl 3 0 5 2),(105,pI 5),(106,pI 2)],[(0,some (.cells [.iv (df p)])),(1,some (an r.c)),(2,some (.cells [pI 0,pI 0,pI 0])),(3,some (.row 2 (ku p r))),(6,some (.cells [pI 65, .dr (.func 166) [] [.ptr 1 0]]))],7⟩) (fun k=>((iH r.body.length).take k).any (dA r)=false) [] Z
  (zW (zO (zO (zO ⟨⟨_,rfl, .of_eq Z⟩,WR Z,c5 p r _ Z,(zO trivial)⟩)))) fun k hk hJ=>?_
 refine gA Z (zI (fun q1=>?_) fun q1=>?_)
 ·have q1:(k:Int)-1<r.body.length:=zT q1;have a0:k<r.body.length+1:=by omega
  refine gA Z (zq [1] (d116 r ((k:Int)-1) (by omega) (by omega)) ?_);refine gA Z (zI (fun q2=>?_) fun q2=>?_)
  ·rw[l5 hJ a0 q2];refine gA Z (nB (LF r ((k:Int)-1) q1) ?_);refine gA Z (zL (.of_eq ?_));rfl
  ·refine gA Z ?_;exact⟨a0,nS hJ a0 q2,[],zM (bv (bv (bv (bv ⟨.of_eq (EM (by omega)),rfl,bv (bv (bv ac))⟩)))) (zO (zO (zO ⟨⟨_,rfl, .of_eq Z⟩,WR Z,c5 p r _ Z,(zO ac)⟩)))⟩
 have q1: ¬(k:Int)-1<r.body.length:=zF q1;rw[nT hJ (by omega)];clear hJ hk q1;refine gA Z (zI (fun q=>?_) fun q=>?_);rotate_left
 ·exact absurd (show true=false from q) (by decide)
 refine gA Z ?_;refine aA 0 (r.body.length+1) (W3 _) (fun k=>⟨[(3, .ptr 0 0),(4, .ptr 1 0),(6, .ptr 2 0),(18, .ptr 7 0),(19,pI ((k:Int)-1)),(104, .sl 3 0 5 2),(105,pI 5),(106,pI 3)],[(0,some (.cells [.iv (df p)])),(1,some (an r.c)),(2,some (.cells [pI 0,pI 0,pI 0])),(3,some (.row 2 (ku p r))),(7,some (.cells [pI 63, .dr (.func 169) [.iv (RQ r (ov p r))] []]))],8⟩) (fun k=>((iH r.body.length).take k).any (nf (ov p r))=false) [] Z
  (zW (zO (zO (zO ⟨⟨_,rfl, .of_eq Z⟩,WR Z,c5 p r _ Z,(zO trivial)⟩)))) fun k hk hJ=>?_
 refine gA Z (zI (fun q1=>?_) fun q1=>?_)
 ·have q1:(k:Int)-1<r.body.length:=zT q1;have a0:k<r.body.length+1:=by omega
  refine gA Z (bn (WA r (ov p r) ((k:Int)-1) (BM p r _) b0) Z Z Z Z Z Z ?_);refine gA Z (zI (fun q2=>?_) fun q2=>?_)
  ·rw[l5 hJ a0 q2];refine gA Z (nB (LF r ((k:Int)-1) q1) ?_);refine gA Z (zL (.of_eq ?_));rfl
  ·refine gA Z ?_;exact⟨a0,nS hJ a0 q2,[],zM (bv (bv (bv (bv ⟨.of_eq (EM (by omega)),rfl,bv (bv (bv ac))⟩)))) (zO (zO (zO ⟨⟨_,rfl, .of_eq Z⟩,WR Z,c5 p r _ Z,(zO ac)⟩)))⟩
 have q1: ¬(k:Int)-1<r.body.length:=zF q1;rw[nT hJ (by omega)];clear hJ hk q1;refine gA Z (zI (fun q=>?_) fun q=>?_);rotate_left
 ·exact absurd (show true=false from q) (by decide)
 refine gA Z ?_;refine aA 0 (r.body.length+1) (W3 _) (fun k=>⟨[(3, .ptr 0 0),(4, .ptr 1 0),(6, .ptr 2 0),(18, .ptr 8 0),(19,pI ((k:Int)-1)),(104, .sl 3 0 5 2),(105,pI 5),(106,pI 4)],[(0,some (.cells [.iv (df p)])),(1,some (an r.c)),(2,some (.cells [pI 0,pI 0,pI 0])),(3,some (.row 2 (ku p r))),(8,some (.cells [pI 64, .dr (.func 170) [.iv (c6 r)] []]))],9⟩) (fun k=>((iH r.body.length).take k).any (dI r)=false) [] Z
  (zW (zO (zO (zO ⟨⟨_,rfl, .of_eq Z⟩,WR Z,c5 p r _ Z,(zO trivial)⟩)))) fun k hk hJ=>?_
 refine gA Z (zI (fun q1=>?_) fun q1=>?_)
 ·have q1:(k:Int)-1<r.body.length:=zT q1;have a0:k<r.body.length+1:=by omega
  refine gA Z (zp (Wz r ((k:Int)-1) (by omega) (by omega)) ?_);refine gA Z (zI (fun q2=>?_) fun q2=>?_)
  ·rw[l5 hJ a0 q2];refine gA Z (nB (LF r ((k:Int)-1) q1) ?_);refine gA Z (zL (.of_eq ?_));rfl
  ·refine gA Z ?_;exact⟨a0,nS hJ a0 q2,[],zM (bv (bv (bv (bv ⟨.of_eq (EM (by omega)),rfl,bv (bv (bv ac))⟩)))) (zO (zO (zO ⟨⟨_,rfl, .of_eq Z⟩,WR Z,c5 p r _ Z,(zO ac)⟩)))⟩
 have q1: ¬(k:Int)-1<r.body.length:=zF q1;rw[nT hJ (by omega)];clear hJ hk q1;refine gA Z (zI (fun q=>?_) fun q=>?_)
 ·exact absurd (show false=true from q) (by decide)
 refine gA Z (zL (.of_eq ?_));rfl
end Go.Proofs.YtflegjieadkonaaGreatDoor
namespace Go.Proofs.YtflegjieadkonaaGreatDoor
open Go Go.Al Go.Proofs.Tryz
theorem mz:prog.cellsOf 3=1:=by kernel_rfl
theorem vg:prog.cellsOf 9=1:=by kernel_rfl
theorem BK:prog.cellsOf 98=3:=by kernel_rfl
theorem DS:prog.cellsOf 143=5:=by kernel_rfl
theorem O3:prog.cellsOf 71=1:=by kernel_rfl
theorem BL:prog.cellsOf 73=2:=by kernel_rfl
theorem O2:prog.cellsOf 99=1:=by kernel_rfl
theorem qt:prog.cellsOf 101=7:=by kernel_rfl
theorem DT:prog.cellsOf 103=10:=by kernel_rfl
theorem G8:prog.cellsOf 74=1:=by kernel_rfl
theorem yc:prog.cellsOf 105=30:=by kernel_rfl
theorem wO:prog.cellsOf 35=2:=by kernel_rfl
theorem G7:prog.cellsOf 76=5:=by kernel_rfl
theorem O4:prog.cellsOf 47=1:=by kernel_rfl
theorem G9:prog.cellsOf 49=4:=by kernel_rfl
theorem O7:prog.cellsOf 22=1:=by kernel_rfl
theorem O6:prog.cellsOf 23=1:=by kernel_rfl
theorem O5:prog.cellsOf 25=2:=by kernel_rfl
section
variable {H:Type}
abbrev bk(d:DataW H):Nat:=Rows.uptoBulk d
theorem FB(d:DataW H):1<=bk d:=by
 cases d with
 |lit l=>cases l<;>simp[bk,Rows.uptoBulk]
 |nil=>simp[bk,Rows.uptoBulk]
 |ptr d=>simp[bk,Rows.uptoBulk]
 |slice elems spare=>simp[bk,Rows.uptoBulk]
 |agg parts=>simp[bk,Rows.uptoBulk]
 |iface t d=>simp[bk,Rows.uptoBulk]
 |map entries=>simp[bk,Rows.uptoBulk]
 |held h=>simp[bk,Rows.uptoBulk]
theorem yh(s:ByteArray):bk (DataW.lit (H:=H) (.string s.data.toList))=s.size+1:=by
 simp[bk,Rows.uptoBulk]
theorem _root_.Go.Al.QL.sum{α:Type}{Q:α->DataW H->Prop}{l:List α}{d:DataW H}(h:QL Q l d){f:α->Nat}{c:Nat}(hf: ∀x e,Q x e->f x<=c*bk e):(l.map f).sum<=c*bk d:=by
 obtain⟨el,hd,a0,hq⟩:=h;have key: ∀(l:List α) (el:List (DataW H)),l.length=el.length->(∀(i:Nat) (x:α) (e:DataW H),l[i]? =some x->el[i]? =some e->Q x e)->(l.map f).sum<=c*Rows.uptoBulkAll el:=by
  intro l
  induction l with
  |nil=>intro el _ _;simp
  |cons x r ih=>
   intro el hl hq;cases el with
   |nil=>simp at hl
   |cons e el=>
    have h1:=hf x e (hq 0 x e Z Z);have h2:=ih el (by simpa using hl) fun i x e hx he=>hq (i+1) x e (by simpa using hx) (by simpa using he);simp only[Xe,YK,Rows.uptoBulkAll,Nat.mul_add];simp only[bk]at h1;omega
 have h1:=key l el a0 hq;rcases hd with⟨rfl,rfl⟩|⟨sp,rfl⟩
 ·simp[Rows.uptoBulkAll]at h1;omega
 ·refine Xz h1 (Nat.mul_le_mul_left c ?_);simp only[bk,Rows.uptoBulk];omega
theorem B9{α:Type}: ∀l:List α,(l.map fun _=>1).sum=l.length
 | []=>rfl
 |x::r=>by simp only[Xe,YK,Xx,B9 r];omega
theorem _root_.Go.Al.QL.len{α:Type}{Q:α->DataW H->Prop}{l:List α}{d:DataW H}(h:QL Q l d):l.length<=bk d:=by
 have:=h.sum (f:=fun _=>1) (c:=1) fun x e _=>by have:=FB e;omega
 have e:=B9 l;omega
theorem _root_.Go.Al.QL.all{α:Type}{Q:α->DataW H->Prop}{l:List α}{d:DataW H}(h:QL Q l d): ∀x∈l,∃e,Q x e∧bk e<=bk d:=by
 intro x hx;obtain⟨el,hd,b0,hq⟩:=h;obtain⟨i,hi,rfl⟩:=Ye.1 hx;have a0:i<el.length:=by omega
 refine⟨el[i],hq i _ _ (WY hi) (WY a0),?_⟩;have key: ∀(el:List (DataW H)),∀e∈el,bk e<=Rows.uptoBulkAll el:=by
  intro el
  induction el with
  |nil=>intro e he;cases he
  |cons y r ih=>
   intro e he;simp only[Rows.uptoBulkAll];rcases Xb.1 he with rfl|he
   ·simp only[bk];omega
   ·have:=ih e he;omega
 have h1:=key el el[i] (XD a0);rcases hd with⟨rfl,rfl⟩|⟨sp,rfl⟩
 ·simp at a0
 ·refine Xz h1 ?_;simp only[bk,Rows.uptoBulk];omega
end
theorem Expr.gX: ∀l:List Expr,Expr.ax l=(l.map Expr.size).sum
 | []=>rfl
 |e::r=>by simp only[Expr.ax,Xe,YK,Expr.gX r]
theorem Expr.tm: ∀l:List Expr,Expr.k9 l=(l.map Expr.ts).sum
 | []=>rfl
 |e::r=>by simp only[Expr.k9,Xe,YK,Expr.tm r]
theorem Lit.gX: ∀l:List Lit,Lit.ax l=(l.map Lit.size).sum
 | []=>rfl
 |e::r=>by simp only[Lit.ax,Xe,YK,Lit.gX r]
theorem Lit.tm: ∀l:List Lit,Lit.k9 l=(l.map Lit.ts).sum
 | []=>rfl
 |e::r=>by simp only[Lit.k9,Xe,YK,Lit.tm r]
section
variable {H:Type} {enc:TypeId×Value->H} {W:World} {hT:qD W} {sp:Nat->Bool} {held:Bool}
def QV(v:tg)(d:DataW H):Prop:=v.sym.size<=bk d
def QT(t:Term)(d:DataW H):Prop:=t.ts<=400*bk d
def QA(a:Atom)(d:DataW H):Prop:=a.ts<=400*bk d∧a.ae.length<=bk d
def QE(e:Expr)(d:DataW H):Prop:=e.ts<=400*bk d∧e.size<=bk d
def QP(_:Pos)(_:DataW H):Prop:=True
def Pos.c(p:Pos):List IV:=[iI p.line,iI p.G6]
def QG(g:eQ)(d:DataW H):Prop:=g.var.size+g.dT.ts+Lit.k9 g.body<=400*bk d∧g.dT.size+Lit.ax g.body<=bk d
def QB(l:Lit)(d:DataW H):Prop:=l.ts<=400*bk d∧l.size<=bk d
theorem rd_val(n:Nat):Rd enc prog W hT sp held 98 tg.c QV n:=by
 intro m _ cs y h;obtain⟨xs,k,rfl,rfl,hl,hx,hf⟩:=DataW.trod_struct underlying98 h
 match xs,hx with
 | [x0,x1,x2],_=>
  obtain⟨a,ca,qa,_⟩:=lV (hT:=hT) underlying3 k k (W0 _) _ _ (qX hf 0 Z Z Z mz Z);obtain⟨b,cb,qb,_⟩:=lV (hT:=hT) underlying3 k k (W0 _) _ _ (qX hf 1 Z Z Z mz Z);obtain⟨c,cc,qc,_⟩:=lD (hT:=hT) underlying9 k k (W0 _) _ _ (qX hf 2 Z Z Z vg Z);refine⟨⟨a,b,c⟩,ca.gW (o':=1) Z (cb.gW (o':=2) Z (cc.gW (o':=3) Z (.end_ (hl.trans BK)))),?_⟩;simp only[QV,bk,Xe,XN,Rows.uptoBulk,Rows.uptoBulkAll];have:=yh (H:=H) c;rw[<-qc]at this;simp only[bk]at this;omega
theorem EI(n:Nat):Rd enc prog W hT sp held 35 Pos.c QP n:=by
 intro m _ cs y h;obtain⟨xs,k,rfl,rfl,hl,hx,hf⟩:=DataW.trod_struct underlying35 h
 match xs,hx with
 | [x0,x1],_=>
  obtain⟨a,ca,qa,_⟩:=lV (hT:=hT) underlying3 k k (W0 _) _ _ (qX hf 0 Z Z Z mz Z);obtain⟨b,cb,qb,_⟩:=lV (hT:=hT) underlying3 k k (W0 _) _ _ (qX hf 1 Z Z Z mz Z);exact⟨⟨a,b⟩,ca.gW (o':=1) Z (cb.gW (o':=2) Z (.end_ (hl.trans wO))),ac⟩
theorem N4(n:Nat):Rd enc prog W hT sp held 143 Term.c QT n:=by
 intro m _ cs y h;obtain⟨xs,k,rfl,rfl,hl,hx,hf⟩:=DataW.trod_struct underlying143 h
 match xs,hx with
 | [x0,x1,x2],_=>
  obtain⟨a,ca,qa,_⟩:=lV (hT:=hT) underlying3 k k (W0 _) _ _ (qX hf 0 Z Z Z mz Z);obtain⟨b,cb,qb,_⟩:=lD (hT:=hT) underlying9 k k (W0 _) _ _ (qX hf 1 Z Z Z vg Z);obtain⟨c,cc,qc⟩:=rd_val (hT:=hT) k k (W0 _) _ _ (qX hf 2 Z Z Z BK Z);refine⟨⟨a,b,c⟩,ca.gW (o':=1) Z (cb.gW (o':=2) Z (cc.gW (o':=5) Z (.end_ (hl.trans DS)))),?_⟩;simp only[QT,Term.ts,bk,Xe,XN,Rows.uptoBulk,Rows.uptoBulkAll];have:=yh (H:=H) b;rw[<-qb]at this;simp only[bk]at this;omega
theorem Gd(n:Nat):Rd enc prog W hT sp held 73 Atom.c QA n:=by
 intro m _ cs y h;obtain⟨xs,k,rfl,rfl,hl,hx,hf⟩:=DataW.trod_struct underlying73 h
 match xs,hx with
 | [x0,x1],_=>
  obtain⟨a,ca,qa,_⟩:=lD (hT:=hT) underlying9 k k (W0 _) _ _ (qX hf 0 Z Z Z vg Z);obtain⟨b,cb,qb⟩:=(lU (hT:=hT) underlying71 DS (by decide) (fun _=>rfl) (N4 k)).mono (Zo k) k (W0 _) _ _ (qX hf 1 Z Z Z O3 Z);refine⟨⟨a,b⟩,ca.gW (o':=1) Z (cb.gW (o':=2) Z (.end_ (hl.trans BL))),?_⟩;have h1:=yh (H:=H) a;rw[<-qa]at h1;have h2:=qb.sum (f:=Term.ts) (c:=400) fun _ _ h=>h;have h3:=qb.len;simp only[bk]at h1 h2 h3;simp only[QA,Atom.ts,bk,Xe,XN,Rows.uptoBulk,Rows.uptoBulkAll];omega
theorem wq: ∀n:Nat,Rd enc prog W hT sp held 101 Expr.c QE n
 |0=>fun m hm cs y h=>by
  obtain rfl:m=0:=by omega
  simp[DataW.trod]at h
 |n+1=>fun m hm cs y h=>by
  obtain⟨xs,k,rfl,rfl,hl,hx,hf⟩:=DataW.trod_struct underlying101 h;have hs:=lU (hT:=hT) underlying99 qt (by decide) (fun _=>rfl) (wq n)
  match xs,hx with
  | [x0,x1,x2,x3,x4],_=>
   obtain⟨a,ca,qa,_⟩:=lV (hT:=hT) underlying3 k k (W0 _) _ _ (qX hf 0 Z Z Z mz Z);obtain⟨b,cb,qb,_⟩:=lD (hT:=hT) underlying9 k k (W0 _) _ _ (qX hf 1 Z Z Z vg Z);obtain⟨c,cc,qc⟩:=rd_val (hT:=hT) k k (W0 _) _ _ (qX hf 2 Z Z Z BK Z);obtain⟨d,cd,qd,_⟩:=lV (hT:=hT) underlying3 k k (W0 _) _ _ (qX hf 3 Z Z Z mz Z);obtain⟨e,ce,qe⟩:=hs k (by omega) _ _ (qX hf 4 Z Z Z O2 Z);refine⟨.mk a b c d e,ca.gW (o':=1) Z (cb.gW (o':=2) Z (cc.gW (o':=5) Z (cd.gW (o':=6) Z ((ce.xG (G0 (.mk a b c d e))).gW (o':=7) Z (.end_ (hl.trans qt)))))),?_⟩;have h1:=yh (H:=H) b;rw[<-qb]at h1;have h2:=qe.sum (f:=Expr.ts) (c:=400) fun _ _ h=>h.1;have h3:=qe.sum (f:=Expr.size) (c:=1) fun _ _ h=>by have:=h.2;omega
   rw[<-Expr.tm]at h2;rw[<-Expr.gX]at h3;simp only[bk]at h1 h2 h3;simp only[QE,Expr.ts,Expr.size,bk,Xe,XN,Rows.uptoBulk,Rows.uptoBulkAll];omega
theorem Sa{n:Nat}(hb:Rd enc prog W hT sp held 74 (fun l:List Lit=> [dy 30 l Lit.c]) (QL QB) n):Rd enc prog W hT sp held 103 eQ.c QG (n+1):=by
 intro m hm cs y h;obtain⟨xs,k,rfl,rfl,hl,hx,hf⟩:=DataW.trod_struct underlying103 h
 match xs,hx with
 | [x0,x1,x2,x3],_=>
  obtain⟨a,ca,qa,_⟩:=lV (hT:=hT) underlying3 k k (W0 _) _ _ (qX hf 0 Z Z Z mz Z);obtain⟨b,cb,qb,_⟩:=lD (hT:=hT) underlying9 k k (W0 _) _ _ (qX hf 1 Z Z Z vg Z);obtain⟨c,cc,qc⟩:=wq (hT:=hT) k k (W0 _) _ _ (qX hf 2 Z Z Z qt Z);obtain⟨d,cd,qd⟩:=hb k (by omega) _ _ (qX hf 3 Z Z Z G8 Z);refine⟨⟨a,b,c,d⟩,ca.gW (o':=1) Z (cb.gW (o':=2) Z (cc.gW (o':=9) Z ((cd.xG (E2 d)).gW (o':=10) Z (.end_ (hl.trans DT))))),?_⟩;have h1:=yh (H:=H) b;rw[<-qb]at h1;have h2:=qd.sum (f:=Lit.ts) (c:=400) fun _ _ h=>h.1;have h3:=qd.sum (f:=Lit.size) (c:=1) fun _ _ h=>by have:=h.2;omega
  rw[<-Lit.tm]at h2;rw[<-Lit.gX]at h3;obtain⟨h4,h5⟩:=qc;simp only[bk]at h1 h2 h3 h4 h5;simp only[QG,bk,Xe,XN,Rows.uptoBulk,Rows.uptoBulkAll];omega
theorem JR: ∀n:Nat,Rd enc prog W hT sp held 105 Lit.c QB n
 |0=>fun m hm cs y h=>by
  obtain rfl:m=0:=by omega
  simp[DataW.trod]at h
 |n+1=>fun m hm cs y h=>by
  obtain⟨xs,k,rfl,rfl,hl,hx,hf⟩:=DataW.trod_struct underlying105 h;have hs:=Sa (lU (hT:=hT) underlying74 yc (by decide) (fun _=>rfl) (JR n))
  match xs,hx with
  | [x0,x1,x2,x3,x4,x5,x6],_=>
   obtain⟨a,ca,qa,_⟩:=lV (hT:=hT) underlying3 k k (W0 _) _ _ (qX hf 0 Z Z Z mz Z);obtain⟨b,cb,qb⟩:=Gd (hT:=hT) k k (W0 _) _ _ (qX hf 1 Z Z Z BL Z);obtain⟨c,cc,qc,_⟩:=lV (hT:=hT) underlying3 k k (W0 _) _ _ (qX hf 2 Z Z Z mz Z);obtain⟨d,cd,qd⟩:=wq (hT:=hT) k k (W0 _) _ _ (qX hf 3 Z Z Z qt Z);obtain⟨e,ce,qe⟩:=wq (hT:=hT) k k (W0 _) _ _ (qX hf 4 Z Z Z qt Z);obtain⟨g,cg,qg⟩:=hs k (by omega) _ _ (qX hf 5 Z Z Z DT Z);obtain⟨p,cp,_⟩:=EI (hT:=hT) k k (W0 _) _ _ (qX hf 6 Z Z Z wO Z);refine⟨.mk a b c d e g.func g.var g.dT g.body p,ca.gW (o':=1) Z (cb.gW (o':=3) Z (cc.gW (o':=4) Z (cd.gW (o':=11) Z (ce.gW (o':=18) Z (cg.gW (o':=28) Z (cp.gW (o':=30) Z (.end_ (hl.trans yc)))))))),?_⟩;obtain⟨h1,h2⟩:=qb;obtain⟨h3,h4⟩:=qd;obtain⟨h5,h6⟩:=qe;obtain⟨h7,h8⟩:=qg;have h9:=FB x0.1;have a0:=FB x2.1;simp only[bk]at h1 h2 h3 h4 h5 h6 h7 h8 h9 a0;simp only[QB,Lit.ts,Lit.size,bk,Xe,XN,Rows.uptoBulk,Rows.uptoBulkAll];omega
theorem N6(n:Nat):Rd enc prog W hT sp held 74 (fun l:List Lit=> [lits l]) (QL QB) n:=
 (lU (hT:=hT) underlying74 yc (by decide) (fun _=>rfl) (JR n)).mono (Zo n)
end
end Go.Proofs.YtflegjieadkonaaGreatDoor
namespace Go.Proofs.YtflegjieadkonaaGreatDoor
open Go Go.Al Go.Proofs.Tryz Go.ChangeShapes Go.WideShapes Go.RowKit
theorem own:ownKnob prog.godebug=none:=by kernel_rfl
theorem UB:prog.globalNamed "internal/strconv.uint64pow10" =some 0:=by kernel_rfl
theorem K1:(prog.globals[0]?).map (·.type)=some 343:=by kernel_rfl
theorem Lz:prog.cellsOf 343=20:=by kernel_rfl
theorem LA:prog.cellsOf 205=1:=by kernel_rfl
theorem I3:prog.underlying 343=some (.array 20 205):=by kernel_rfl
theorem I4:prog.underlying 205=some (.int .u64):=by kernel_rfl
abbrev Kr:List (String×DataW Unit):=[("math/bits.deBruijn32tab",Rows.laid_math_bits_deBruijn32tab),("math/bits.deBruijn64tab",Rows.laid_math_bits_deBruijn64tab),("internal/strconv.uint64pow10",Rows.laid_internal_strconv_uint64pow10)]
theorem Jg{W:World}(h:laidMetH prog Kr W):qD W:=by
 have h2:=laidMetH.filter (fun x=>x.1== "internal/strconv.uint64pow10") h;have h3:laidMet prog [("internal/strconv.uint64pow10",Lib.tabData .u64 sA)] W:=by
  rw[show Kr.filter (fun x=>x.1== "internal/strconv.uint64pow10")=[("internal/strconv.uint64pow10",Lib.tabData .u64 sA)] by kernel_rfl]at h2;rwa[MakeChecks.laidMetH_plain _ _ _ (by kernel_rfl)]at h2
 have h4:Lib.TabIs prog W "internal/strconv.uint64pow10" .u64 sA:=Lib.tabIs_of_head (rest:=[]) UB K1 I3 I4 LA Lz h3;intro b c hb;unfold Lib.TabIs World.var? at h4;rw[UB]at h4
 match b with
 |0=>
  have hc:(sA.map fun z=>Value.int .u64 z).toArray=c:=XX hb;rw[hc]at h4;simp only[ZW]at h4;split at h4
  ·rename_i cs T fr e;exact⟨T,fr,by rw[e,XX h4]⟩
  ·cases h4
 |b+1=>exact nomatch hb
theorem kids:Kids prog (· <prog.types.size):=kids_rows (by kernel_rfl) (by kernel_rfl)
theorem full: ∀{t e},t<prog.types.size->prog.underlying t=some (.slice e)->0<prog.cellsOf e:=fun{t e}=>slices_full_of prog (by kernel_rfl) t e
theorem A8{H:Type}{enc:TypeId×Value->H}{W:World}(hT:qD W){k:FuncId}{f:Func}{s:ChangeSpec}{args:List PV}{vs:List Value}{ds gs:List (DataW H)}{a0:List MemPlace}
  (hp:Al.Pure prog k args (pB true)) (d0:args.length=vs.length) (hv: ∀(j:Nat) (p:PV),args[j]? =some p->VR (Mem.rf W hT) Ug (· <0) p (vs.getD j undef))
  (j0: ∀t∈f.params.toList,t<prog.types.size) (c0:s.vars=[]) (b0:f.resultTypes= #[4])
  (hW:DataW.Whole enc prog f.params.toList s.vars false W vs.toArray.toList ds gs a0)
  (f0:(s.fn H (ds++gs)).results=[.lit (.bool true)]) (g0:(s.fn H (ds++gs)).args=ds) (e0:(s.fn H (ds++gs)).vars=[]):
  Calls prog k vs.toArray W fun e W'=> ∃v,e= .returned v∧s.post enc prog f false true false false W vs.toArray v W':=by
 refine(hp.2 (Mem.rf W hT) Ug W vs (NX W hT) d0 hv).mono ?_;rintro e W' ⟨x,M',N',r,h',n',rfl,⟨rfl,rfl,rfl⟩,hx,hr,hvr⟩;have i0:x= .bool true:=by
  cases hvr with
  |iv _ _ h=>cases h;rfl
 subst i0;refine⟨_,rfl,A9 kids full j0 c0 hW hx.os hx.output (fun b hb=>hx.jq b hb fun i o hi=>(nomatch hi)) (fun b sp hd=>?_) g0 e0 ?_⟩
 ·rw[f0,b0];exact trodAll_cons_mk (shut_bool underlying4 _) trodAll_mk0
 ·intro j t r h1 h2;rw[b0]at h1 h2
  match j,h1,h2 with
  |0,h1,h2=>
   cases h1;cases h2;exact okWide_bool_mk underlying4 _
  |j+1,h1,h2=>simp at h1
theorem bound{H:Type}{l:List (DataW H)}(hk:Rows.uptoSmall H l=true):Rows.uptoBulkAll l<=1048576:=of_decide_eq_true hk
theorem Pf{H:Type}{enc:TypeId×Value->H}{W:World}(hT:qD W){v:Value}{d:DataW H}{p:List MemPlace}(a0: ∃b0,Value.okWide prog W .any b0 3 v)(h:DataW.Trod enc prog W 0 (fun _=>true) true 3 v d p):
  ∃z:Int,(Lit.int .i64 z).wf=true∧VR (Mem.rf W hT) Ug (· <0) (pI z) v:=by
 obtain⟨b0,a0⟩:=a0;obtain⟨n,rfl,_,_,hw⟩:=open_int underlying3 a0 h;exact⟨n,hw, .iv _ _ (.v _)⟩
def Kq(b:Nat)(cs:Array Value)(h:Array Obj):Array Obj:=h.modify b fun
 | .cells _ t frozen=> .cells cs t frozen
 |o=>o
noncomputable def uY(os:Os):World:=
 {World.holding prog os ⟨#[], #[],[]⟩ with
  heap:=Kq 2 #[.int .u8 0, .int .u8 1, .int .u8 56, .int .u8 2, .int .u8 57, .int .u8 49, .int .u8 28, .int .u8 3, .int .u8 61, .int .u8 58, .int .u8 42, .int .u8 50, .int .u8 38, .int .u8 29, .int .u8 17, .int .u8 4, .int .u8 62, .int .u8 47, .int .u8 59, .int .u8 36, .int .u8 45, .int .u8 43, .int .u8 51, .int .u8 22, .int .u8 53, .int .u8 39, .int .u8 33, .int .u8 30, .int .u8 24, .int .u8 18, .int .u8 12, .int .u8 5, .int .u8 63, .int .u8 55, .int .u8 48, .int .u8 27, .int .u8 60, .int .u8 41, .int .u8 37, .int .u8 16, .int .u8 46, .int .u8 35, .int .u8 44, .int .u8 21, .int .u8 52, .int .u8 32, .int .u8 23, .int .u8 11, .int .u8 54, .int .u8 26, .int .u8 40, .int .u8 15, .int .u8 34, .int .u8 20, .int .u8 31, .int .u8 10, .int .u8 25, .int .u8 14, .int .u8 19, .int .u8 9, .int .u8 13, .int .u8 8, .int .u8 7, .int .u8 6] (Kq 1 #[.int .u8 0, .int .u8 1, .int .u8 28, .int .u8 2, .int .u8 29, .int .u8 14, .int .u8 24, .int .u8 3, .int .u8 30, .int .u8 22, .int .u8 20, .int .u8 15, .int .u8 25, .int .u8 17, .int .u8 4, .int .u8 8, .int .u8 31, .int .u8 27, .int .u8 13, .int .u8 23, .int .u8 21, .int .u8 19, .int .u8 16, .int .u8 7, .int .u8 26, .int .u8 12, .int .u8 18, .int .u8 6, .int .u8 11, .int .u8 5, .int .u8 10, .int .u8 9] (Kq 0 (sA.map fun z=>Value.int .u64 z).toArray (World.holding prog os ⟨#[], #[],[]⟩).heap))}
end Go.Proofs.YtflegjieadkonaaGreatDoor
namespace Go.Proofs.YtflegjieadkonaaGreatDoor
open Go Go.Al Go.Proofs.Tryz
def aZ.z:aZ:=(0,⟨0,0⟩)
theorem d64(d e:aZ):b8 prog 97 [ag d.c, .ptr 0 0] [an e.c] (pB false) [(0,some (an d.c))] 1:=by
 refine aE ab func97 Z (by decide) ntmps97 Z (by simp) ?_;refine gA Z (aC [] (by first|exact .inr Z|exact .inl Z) Z (zW (zO ac)))
def dH(p:Prog)(i:Nat):List aj:=(p.aB.take i).map Decl.name
def dc(p:Prog)(i:Nat):Int:=sw (p.aB.getD i default) i (bQ .str (aJ (dH p i)) (p.aB.getD i default).name 0)
def iV(p:Prog):Nat->List aZ
 |0=> []
 |i+1=>iV p i++(if dc p i=0 then[] else[(dc p i,(p.aB.getD i default).at_)])
def pd(p:Prog)(i:Nat):aZ:=tz p (p.rules.getD i default) ((i:Int)+1)
def jL(p:Prog):Nat->List aZ
 |0=> []
 |i+1=>jL p i++(if(pd p i).1=0 then[] else[pd p i])
def jF(p:Prog):List aZ:=iV p p.aB.length++jL p p.rules.length
def bF(p:Prog):aZ:=(jF p).headD aZ.z
theorem Cz(p:Prog)(i:Nat): ∀k,∃t,iV p (i+k)=iV p i++t
 |0=>⟨[],by simp⟩
 |k+1=>by
  obtain⟨t,h⟩:=Cz p i k;exact⟨_,by rw[<-Yu,iV,h,Xa]⟩
theorem Cn(p:Prog)(i:Nat): ∀k,∃t,jL p (i+k)=jL p i++t
 |0=>⟨[],by simp⟩
 |k+1=>by
  obtain⟨t,h⟩:=Cn p i k;exact⟨_,by rw[<-Yu,jL,h,Xa]⟩
theorem IC{p:Prog}{i:Nat}(hJ:iV p i=[])(hi:i<p.aB.length)(h: ¬dc p i=0):bF p=(dc p i,(p.aB.getD i default).at_):=by
 obtain⟨t,ht⟩:=Cz p (i+1) (p.aB.length-(i+1));have e:i+1+(p.aB.length-(i+1))=p.aB.length:=by omega
 rw[e,iV,hJ,be h]at ht;rw[bF,jF,ht];rfl
theorem IB{p:Prog}{i:Nat}(h0:iV p p.aB.length=[])(hJ:jL p i=[])(hi:i<p.rules.length)(h: ¬(pd p i).1=0):bF p=pd p i:=by
 obtain⟨t,ht⟩:=Cn p (i+1) (p.rules.length-(i+1));have e:i+1+(p.rules.length-(i+1))=p.rules.length:=by omega
 rw[e,jL,hJ,be h]at ht;rw[bF,jF,ht,h0];rfl
theorem Ly{p:Prog}(h0:iV p p.aB.length=[])(h1:jL p p.rules.length=[]):bF p=aZ.z:=by
 rw[bF,jF,h0,h1];rfl
theorem A6{p:Prog}{i:Nat}(h:i<p.aB.length):aJ (dH p (i+1))=bump (aJ (dH p i)) (p.aB.getD i default).name:=by
 rw[dH,aN h,WZ];exact dU _ _
theorem EH(p:Prog)(i:Nat)(s:aj):0<=bQ .str (aJ (dH p i)) s 0∧bQ .str (aJ (dH p i)) s 0<=i:=by
 have h:=iP (dH p i) s;have h2:(dH p i).length<=i:=by simp[dH];omega
 rw[bL];omega
def Prog.fit(p:Prog):Prop:=p.aB.length<=1000000000∧p.rules.length<=1000000000∧ ∀r∈p.rules,r.fit
theorem VM(p:Prog)(hb:p.fit):b8 prog 96 [ag p.c, .dr (.func 97) [] [.ptr 0 0]] [an aZ.z.c] (.bT []) [(0,some (an (bF p).c))] 1:=by
 obtain⟨c0,d0,b0⟩:=hb;refine aE ab func96 Z (by decide) ntmps96 Z (by simp) ?_;refine gA Z ?_;refine aA 0 p.aB.length (W3 _) (fun i=>⟨[(1, .dr (.func 97) [] [.ptr 0 0]),(2, .ptr 1 0),(4, .mp 2),(13, .iv (dy 4 p.aB Decl.c)),(14,pI p.aB.length),(15,pI i)],[(0,some (an aZ.z.c)),(1,some (an p.c)),(2,some (c9 (aJ (dH p i))))],3⟩) (fun i=>iV p i=[]) [] Z
  (zW ⟨⟨_,rfl, .of_eq Z⟩,WR Z,rfl,⟨_,rfl, .of_eq Z⟩,WR Z,rfl,KF Z gK Z trivial⟩) fun i hi hJ=>?_
 refine gA Z (zI (fun h1=>?_) fun h1=>?_)
 ·have h1:i<p.aB.length:=zN h1;have hl:=EH p i (p.aB.getD i default).name;have hn:=A6 h1;refine gA Z (zp (WE (p.aB.getD i default) i (bQ .str (aJ (dH p i)) (p.aB.getD i default).name 0)) ?_);refine gA Z (zI (fun g=>?_) fun g=>?_)
  ·have g: ¬dc p i=0:=by
    have g:(!decide (dc p i=0))=true:=g;simpa only[XF,decide_eq_false_iff_not]using g
   rw[IC hJ h1 g];refine gA Z (zq [0] (d64 (dc p i,(p.aB.getD i default).at_) aZ.z) ?_);refine gA Z (zI (fun q=>?_) fun q=>?_);rotate_left
   ·exact absurd (show true=false from q) (by decide)
   refine gA Z (aC [] (by first|exact .inr Z|exact .inl Z) Z (zW (zO ac)))
  ·have g:dc p i=0:=by
    have g:(!decide (dc p i=0))=false:=g;simpa only[YA,decide_eq_true_eq]using g
   refine gA Z ⟨h1,by rw[iV,hJ,am g];rfl,[],zW (zO (zO (hM Z (by rw[hn];rfl) Z trivial)))⟩
 have h1:p.aB.length<=i:=zG h1;have a0:i=p.aB.length:=by omega
 subst a0;refine gA Z (zq [] (d50 p (by omega)) ?_);refine gA Z ?_;refine OO 3 Z ?_;refine aA 0 p.rules.length (W3 _) (fun i=>⟨[(1, .dr (.func 97) [] [.ptr 0 0]),(2, .ptr 1 0),(8, .iv (df p)),(47, .iv (dy 5 p.rules aq.c)),(48,pI p.rules.length),(49,pI i)],[(0,some (an aZ.z.c)),(1,some (an p.c))],4⟩) (fun i=>jL p i=[]) [] Z
  (zW (zO (zO trivial))) fun i hi hK=>?_
 refine gA Z (zI (fun h2=>?_) fun h2=>?_)
 ·have h2:i<p.rules.length:=zN h2;have hm:p.rules.getD i default∈p.rules:=by rw[WU,WY h2];exact XD h2
  refine gA Z (bn (c65 p (p.rules.getD i default) ((i:Int)+1) (b0 _ hm)) Z Z Z Z Z Z ?_);refine gA Z (zI (fun g=>?_) fun g=>?_)
  ·have g: ¬(pd p i).1=0:=by
    have g:(!decide ((pd p i).1=0))=true:=g;simpa only[XF,decide_eq_false_iff_not]using g
   rw[IB hJ hK h2 g];refine gA Z (zq [0] (d64 (pd p i) aZ.z) ?_);refine gA Z (zI (fun q=>?_) fun q=>?_);rotate_left
   ·exact absurd (show true=false from q) (by decide)
   refine gA Z (aC [] (by first|exact .inr Z|exact .inl Z) Z (zW (zO ac)))
  ·have g:(pd p i).1=0:=by
    have g:(!decide ((pd p i).1=0))=false:=g;simpa only[YA,decide_eq_true_eq]using g
   refine gA Z ⟨h2,by rw[jL,hK,am g];rfl,[],zW (zO (zO trivial))⟩
 have h2:p.rules.length<=i:=zG h2;have a0:i=p.rules.length:=by omega
 subst a0;rw[Ly hJ hK];refine gA Z (aC [] (by first|exact .inr Z|exact .inl Z) Z (zW (zO ac)))
theorem c24(p:Prog)(hb:p.fit):Pure prog 56 [ag p.c] (ag (bF p).c):=by
 refine ad ab func56 Z (by decide) ntmps56 Z (by simp) Z ?_;refine gA Z (zq [2] (VM p hb) ?_);refine gA Z (zL (.of_eq ?_));rfl
end Go.Proofs.YtflegjieadkonaaGreatDoor
