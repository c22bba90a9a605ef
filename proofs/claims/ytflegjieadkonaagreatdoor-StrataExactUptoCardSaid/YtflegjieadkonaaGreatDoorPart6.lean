/-
  What the proofs of the claims need: part 6 of 7.
-/
import Derived.Test.YtflegjieadkonaaGreatDoorPart5
open Bool renaming and_false→Zv,and_true→aaF,eq_iff_iff→YU,false_and→Zm,false_ne_true→aaU,or_false→Z9,or_true→aaA,true_and→Zc
open ByteArray renaming empty→Yp
open List renaming all_eq_true→YG,any_eq_false→Y5,append_assoc→Yu,ext_getElem?→ZS,filter_append→aaq,filter_cons→ZD,find?_eq_none→Zx,getD_eq_getElem?_getD→Ye,getElem?_eq_getElem→Yi,getElem?_eq_none→Z0,getElem?_replicate→aad,length_append→Yg,length_eq_zero_iff→ZP,length_filter_le→Ze,length_map→YH,length_range→aah,map_append→Yk,map_congr_left→ZC,map_cons→Yz,map_map→Z4,map_set→ZV,mem_map→YP,mem_range→YM,mem_take_iff_getElem→aam,nil_append→aaj,range→Yv,range_succ→abK,replicate→ZW,take_of_length_le→Yn
open Nat renaming le_of_ble_eq_true→Yd,le_refl→Ym,le_trans→YR,lt_or_ge→Zj,lt_succ_iff_lt_or_eq→Zp,lt_succ_self→ZY,not_lt_zero→Z3,zero_add→YC,zero_le→Yl
set_option maxRecDepth 100000
open Bool renaming false→li,true→lc
open Decidable renaming decide→lw
open Inhabited renaming default→io
open Option renaming none→kw,some→jp
open Array renaming getD_eq_getD_getElem?→Yf
open Option.some renaming injEq→Yh
open List renaming getElem?_eq_some_iff→Yj
open Array renaming range→abv
open Array renaming getElem?_map→aaD
open Option renaming map_some→Zg
open Option renaming getD_some→ZG
open Array renaming getElem?_eq_getElem→Zb
open Nat renaming mul_le_mul_right→YS
open Nat renaming add_mul→Zz
open Array renaming getElem?_append_left→Zr
open List renaming getElem?_append_right→YF
open List renaming getElem?_take→Zi
open Array renaming getElem?_toList→Zn
open And renaming intro→YW
open Int renaming toNat_natCast→YK
open List renaming range_succ_eq_map→aaE
namespace Go.Proofs.YtflegjieadkonaaGreatDoor
open Go Go.Al Go.Proofs.Tryz
def L9:Expr:= .mk 0 Yp ⟨0,0,Yp⟩ 0 []
def tX:Term:=⟨1,⟨#[88]⟩,⟨0,0,Yp⟩⟩
def vL(k:Int)(rel:aj):Lit:= .mk k ⟨rel,[tX]⟩ 0 L9 L9 0 Yp L9 [] ⟨k,7⟩
theorem sV(k:Int)(rel:aj):Pure prog 88 [pI k,pS rel] (ag (vL k rel).c):=by
 refine ad ab func88 Z (by decide) ntmps88 Z (by simp) Z ?_;refine gA Z ⟨.inr Z,_,rfl,iR.wE 1 [tX] Term.c Z Z ?_ (.done ?_)⟩
 .simp[PV.bG,dC]
 .refine aG.agg ⟨.refl _,.refl _,?_,.refl _,.refl _,.refl _,.refl _,.refl _,.refl _,.refl _,.nil _ _,.refl _,.refl _,.refl _,.refl _,.refl _,.refl _,.nil _ _,.refl _,.refl _,.refl _,.refl _,.refl _,.refl _,.refl _,.refl _,.nil _ _,.nil _ _,.refl _,.refl _,ac⟩;show aG (.iv (.dp 5 1 fun k=>([tX].getD (0+k) io).c)) (.iv (cT 5 [tX] Term.c));simp only[YC];exact .refl _
def oX:aj:=⟨#[97]⟩
def qj:aj:=⟨#[98]⟩
def wF:aj:=⟨#[99]⟩
def xmB(b:Bool):List Lit:=if b then[vL 1 oX,vL 2 wF,vL 2 oX] else[vL 1 oX,vL 2 wF]
def oM(b:Bool):Prog:=⟨[⟨oX,[1],⟨0,0⟩⟩,⟨qj,[1],⟨0,0⟩⟩,⟨wF,[1],⟨0,0⟩⟩],[⟨⟨oX,[tX]⟩,[vL 1 qj],⟨0,0⟩⟩,⟨⟨qj,[tX]⟩,xmB b,⟨0,0⟩⟩]⟩
set_option maxHeartbeats 4000000 in
theorem sEx(b:Bool):Pure prog 47 [.kb b] (ag (oM b).c):=by
 refine ad ab func47 Z (by decide) ntmps47 Z (by simp) Z ?_;refine gA Z (kR (sV 1 qj) ?_);refine gA Z (zp (sV 1 oX) ?_);refine gA Z (zp (sV 2 wF) ?_);cases b
 .refine gM 10 Z (lG [] (t:=⟨[(0,.kb li),(32,.kb li),(2,.ptr 0 0),(4,.ptr 6 0),(5,.ptr 12 0)],[(0,jp (.cells [.iv (.v (.slice kw 0 0)),.iv (.v (.slice kw 0 0))])),(1,jp (aC 5 [tX] Term.c)),(2,jp (aC 1 [(1:Int)] aY)),(3,jp (aC 1 [(1:Int)] aY)),(4,jp (aC 1 [(1:Int)] aY)),(5,jp (.row 4 [[pS oX,.sl 2 0 1 1,pI 0,pI 0],[pS qj,.sl 3 0 1 1,pI 0,pI 0],[pS wF,.sl 4 0 1 1,pI 0,pI 0]])),(6,jp (.cells [.sl 5 0 3 4,.sl 10 0 1 5])),(7,jp (aC 30 [vL 1 qj] Lit.c)),(10,jp (.row 5 [[pS oX,.sl 1 0 1 5,.sl 7 0 1 30,pI 0,pI 0]])),(11,jp (aC 30 [vL 1 oX,vL 2 wF] Lit.c)),(12,jp (.cells [pS qj,.sl 1 0 1 5,.sl 11 0 2 30,pI 0,pI 0]))],13⟩) (zW (zO (zS (zS (zS (zS ⟨⟨_,rfl,.of_eq Z⟩,Yd Z,wQ Z,(zO (zS ⟨⟨_,rfl,.of_eq Z⟩,Yd Z,wQ Z,(zS (zO ac))⟩))⟩)))))) ?_);refine gd 1 (fun k=>Term.c ([tX].getD k io)) Z (cL Z) (by simp[AF.rk,PV.bG]) (fO Z) ?_;refine gd 2 (fun k=>aY ([(1:Int)].getD k io)) Z (cL Z) (by simp[AF.rk,AF.iP,PV.dT,PV.bG]) (fO Z) ?_;refine gd 3 (fun k=>aY ([(1:Int)].getD k io)) Z (cL Z) (by simp[AF.rk,AF.iP,PV.dT,PV.bG]) (fO Z) ?_;refine gd 4 (fun k=>aY ([(1:Int)].getD k io)) Z (cL Z) (by simp[AF.rk,AF.iP,PV.dT,PV.bG]) (fO Z) ?_;refine gd 7 (fun k=>Lit.c ([vL 1 qj].getD k io)) Z (cL Z) (by simp[AF.rk,AF.iP,PV.dT,PV.bG]) (fO Z) ?_;refine gd 11 (fun k=>Lit.c ([vL 1 oX,vL 2 wF].getD k io)) Z (cL Z) (by simp[AF.rk,AF.iP,PV.dT,PV.bG]) (fO Z) ?_
  refine lG (L:=[]) (t:=⟨[(0,.kb li),(32,.kb li),(2,.ptr 0 0),(4,.ptr 6 0),(5,.ptr 12 0)],[(0,jp (.cells [.iv (.v (.slice kw 0 0)),.iv (.v (.slice kw 0 0))])),(5,jp (aC 4 (oM li).aB Decl.c)),(6,jp (.cells [.sl 5 0 3 4,.sl 10 0 1 5])),
   (10,jp (aC 5 [(⟨⟨oX,[tX]⟩,[vL 1 qj],⟨0,0⟩⟩:aq)] aq.c)),(12,jp (ak (⟨⟨qj,[tX]⟩,[vL 1 oX,vL 2 wF],⟨0,0⟩⟩:aq).c))],13⟩)
   (zW (zO (hR Z (by
   show[[pS oX,.iv (.dp 1 1 fun k=>aY ([(1:Int)].getD (0+k) io)),pI 0,pI 0],[pS qj,.iv (.dp 1 1 fun k=>aY ([(1:Int)].getD (0+k) io)),pI 0,pI 0],[pS wF,.iv (.dp 1 1 fun k=>aY ([(1:Int)].getD (0+k) io)),pI 0,pI 0]]=_
   simp only[YC];rfl) Z (zO (hR Z (by
   show[[pS oX,.iv (.dp 5 1 fun k=>Term.c ([tX].getD (0+k) io)),.iv (.dp 30 1 fun k=>Lit.c ([vL 1 qj].getD (0+k) io)),pI 0,pI 0]]=_
   simp only[YC];rfl) Z ⟨⟨_,rfl,.of_eq (by
   show AO.cells [pS qj,.iv (.dp 5 1 fun k=>Term.c ([tX].getD (0+k) io)),.iv (.dp 30 2 fun k=>Lit.c ([vL 1 oX,vL 2 wF].getD (0+k) io)),pI 0,pI 0]=_
   simp only[YC];rfl)⟩,Yd Z,rfl,ac⟩))))) ?_
  refine gA Z (kf (.inr Z) Z (iR.wE 5 (oM li).aB Decl.c Z Z ?_ (iR.wE 14 (oM li).rules aq.c Z Z ?_ (.done ?_))))
  .simp[PV.bG,dC,oM]
  .simp[PV.dT,oy,PV.bG,dC,oM];show PV.bG 14 5 2 (.sl 14 0 2 5);simp[PV.bG]
  .show aG (.agg [.iv (.dp 4 3 fun k=>Decl.c ((oM li).aB.getD (0+k) io)),.iv (.dp 5 2 fun k=>aq.c ((oM li).rules.getD (0+k) io))]) (ag (oM li).c);simp only[YC];exact .refl _
 .refine gA Z (kR (sV 2 oX) ?_);refine gM 5 Z (lG [] (t:=⟨[(0,.kb lc),(32,.kb lc),(2,.ptr 0 0),(4,.ptr 6 0),(5,.ptr 12 0)],[(0,jp (.cells [.iv (.v (.slice kw 0 0)),.iv (.v (.slice kw 0 0))])),(1,jp (aC 5 [tX] Term.c)),(2,jp (aC 1 [(1:Int)] aY)),(3,jp (aC 1 [(1:Int)] aY)),(4,jp (aC 1 [(1:Int)] aY)),(5,jp (.row 4 [[pS oX,.sl 2 0 1 1,pI 0,pI 0],[pS qj,.sl 3 0 1 1,pI 0,pI 0],[pS wF,.sl 4 0 1 1,pI 0,pI 0]])),(6,jp (.cells [.sl 5 0 3 4,.sl 10 0 1 5])),(7,jp (aC 30 [vL 1 qj] Lit.c)),(10,jp (.row 5 [[pS oX,.sl 1 0 1 5,.sl 7 0 1 30,pI 0,pI 0]])),(14,jp (aC 30 [vL 1 oX,vL 2 wF,vL 2 oX] Lit.c)),(12,jp (.cells [pS qj,.sl 1 0 1 5,.sl 14 0 3 30,pI 0,pI 0]))],15⟩) (zW (zO (zS (zS (zS (zS ⟨⟨_,rfl,.of_eq Z⟩,Yd Z,wQ Z,(zO (zS ⟨⟨_,rfl,.of_eq Z⟩,Yd Z,wQ Z,(zS (zO ac))⟩))⟩)))))) ?_);refine gd 1 (fun k=>Term.c ([tX].getD k io)) Z (cL Z) (by simp[AF.rk,PV.bG]) (fO Z) ?_;refine gd 2 (fun k=>aY ([(1:Int)].getD k io)) Z (cL Z) (by simp[AF.rk,AF.iP,PV.dT,PV.bG]) (fO Z) ?_;refine gd 3 (fun k=>aY ([(1:Int)].getD k io)) Z (cL Z) (by simp[AF.rk,AF.iP,PV.dT,PV.bG]) (fO Z) ?_;refine gd 4 (fun k=>aY ([(1:Int)].getD k io)) Z (cL Z) (by simp[AF.rk,AF.iP,PV.dT,PV.bG]) (fO Z) ?_;refine gd 7 (fun k=>Lit.c ([vL 1 qj].getD k io)) Z (cL Z) (by simp[AF.rk,AF.iP,PV.dT,PV.bG]) (fO Z) ?_;refine gd 14 (fun k=>Lit.c ([vL 1 oX,vL 2 wF,vL 2 oX].getD k io)) Z (cL Z) (by simp[AF.rk,AF.iP,PV.dT,PV.bG]) (fO Z) ?_
  refine lG (L:=[]) (t:=⟨[(0,.kb lc),(32,.kb lc),(2,.ptr 0 0),(4,.ptr 6 0),(5,.ptr 12 0)],[(0,jp (.cells [.iv (.v (.slice kw 0 0)),.iv (.v (.slice kw 0 0))])),(5,jp (aC 4 (oM lc).aB Decl.c)),(6,jp (.cells [.sl 5 0 3 4,.sl 10 0 1 5])),
   (10,jp (aC 5 [(⟨⟨oX,[tX]⟩,[vL 1 qj],⟨0,0⟩⟩:aq)] aq.c)),(12,jp (ak (⟨⟨qj,[tX]⟩,[vL 1 oX,vL 2 wF,vL 2 oX],⟨0,0⟩⟩:aq).c))],15⟩)
   (zW (zO (hR Z (by
   show[[pS oX,.iv (.dp 1 1 fun k=>aY ([(1:Int)].getD (0+k) io)),pI 0,pI 0],[pS qj,.iv (.dp 1 1 fun k=>aY ([(1:Int)].getD (0+k) io)),pI 0,pI 0],[pS wF,.iv (.dp 1 1 fun k=>aY ([(1:Int)].getD (0+k) io)),pI 0,pI 0]]=_
   simp only[YC];rfl) Z (zO (hR Z (by
   show[[pS oX,.iv (.dp 5 1 fun k=>Term.c ([tX].getD (0+k) io)),.iv (.dp 30 1 fun k=>Lit.c ([vL 1 qj].getD (0+k) io)),pI 0,pI 0]]=_
   simp only[YC];rfl) Z ⟨⟨_,rfl,.of_eq (by
   show AO.cells [pS qj,.iv (.dp 5 1 fun k=>Term.c ([tX].getD (0+k) io)),.iv (.dp 30 3 fun k=>Lit.c ([vL 1 oX,vL 2 wF,vL 2 oX].getD (0+k) io)),pI 0,pI 0]=_
   simp only[YC];rfl)⟩,Yd Z,rfl,ac⟩))))) ?_
  refine gA Z (kf (.inr Z) Z (iR.wE 5 (oM lc).aB Decl.c Z Z ?_ (iR.wE 16 (oM lc).rules aq.c Z Z ?_ (.done ?_))))
  .simp[PV.bG,dC,oM]
  .simp[PV.dT,oy,PV.bG,dC,oM];show PV.bG 16 5 2 (.sl 16 0 2 5);simp[PV.bG]
  .show aG (.agg [.iv (.dp 4 3 fun k=>Decl.c ((oM lc).aB.getD (0+k) io)),.iv (.dp 5 2 fun k=>aq.c ((oM lc).rules.getD (0+k) io))]) (ag (oM lc).c);simp only[YC];exact .refl _
instance (a b:aj):Decidable (JF a b):=inferInstanceAs (Decidable (pL a<pL b))
theorem Ag(b:Bool):ns (oM b)=[oX,qj,wF]:=
 mr (fM (show[oX,qj,wF].Nodup by decide)) (by unfold pR;decide+kernel) fun x=>by rw[ns,db];rfl
theorem Mw:dc (oM li)=[[wF],[oX,qj]]:=by
 unfold dc bQ;rw[Ag];decide+kernel
theorem Mb:Cf (oM li)=[(oX,qj,li),(qj,oX,li),(qj,wF,lc)]:=by
 unfold Cf;rw[Ag];decide+kernel
theorem IU:bS (oM li)=[(oX,1),(qj,1),(wF,0)]:=by
 unfold bS kr Cu;rw[Ag];decide+kernel
theorem EC(b:Bool):(bu (oM b)).1=0:=by
 cases b<;>decide+kernel
theorem A2:dD (oM li)=aT.z:=by
 delta dD ew lK jm ringEq bQ
 rw[Ag];decide+kernel
theorem Ge:dD (oM lc)=(70,⟨2,7⟩):=by
 delta dD ew lK jm ringEq bQ
 rw[Ag];decide+kernel
theorem Kz:fv (oM li) 1=lc:=by
 delta fv jm ringEq bQ
 rw[Ag];decide+kernel
theorem Dr:jH (oM li)=li:=by decide+kernel
theorem Jm:kh (oM li)=[[wF],[oX,qj]]:=by rw[kh,am (EC li),Mw]
theorem FO:gu (oM li)=[(oX,1),(qj,1),(wF,0)]:=by rw[gu,A2,IU];rfl
theorem Jg:kK (oM li)=[(oX,qj,li),(qj,oX,li),(qj,wF,lc)]:=by rw[kK,am (EC li),Mb]
theorem vA(b:Bool):(oM b).fit:=by
 have h: ∀r∈(oM b).rules,r.size<=10000000∧r.head.ts<=900000000∧ ∀l∈r.body,l.ts<=900000000:=by cases b<;>decide+kernel
 exact⟨by cases b<;>decide+kernel,by cases b<;>decide+kernel,h⟩
theorem Vi(b:Bool):Pure prog 47 [pB b] (ag (oM b).c):=(sEx b).le (aa:=[pB b]) ⟨.bk Z,ac⟩
theorem tP(b:Bool):(oM b).size<=10000000:=by cases b<;>decide+kernel
theorem Tc(b:fD):Pure prog 11 [] (pB lc):=by
 have j:=GK b (oM li) (vA li) (tP li);have u:=Kt b (oM li) (vA li) (tP li);have x:=Ks b (oM li) (vA li) (tP li);have y:=BA b (oM lc) (vA lc) (tP lc);have A:=GH b (oM li) 1 (vA li) (tP li);have B:=zH b (oM li) (vA li);rw[FO,A2]at j;rw[Jm]at u;rw[Jg]at x;rw[Ge]at y;rw[Kz]at A;rw[Dr]at B;refine ad ab func11 Z (by decide) ntmps11 Z (by simp) Z ?_;refine gA Z (zp (Vi li) ?_);refine gA Z (zp (j) ?_);refine gA Z (zp (u) ?_);refine gA Z (zp (x) ?_);refine gA Z (zp (Vi lc) ?_);refine gA Z (zp (y) ?_)
 repeat(refine gA Z (zI (fun q=>?_) (fun q=>?_))<;>try(exact absurd q (by decide)))
 refine gA Z (LQ (d:=83) (p:= .agg [pS qj,pS wF,pB lc]) (.agg ⟨.refl _,.refl _,.rK Z,ac⟩) ?_)
 repeat(refine gA Z (zI (fun q=>?_) (fun q=>?_))<;>try(exact absurd q (by decide)))
 refine gA Z (zp (A) ?_)
 repeat(refine gA Z (zI (fun q=>?_) (fun q=>?_))<;>try(exact absurd q (by decide)))
 refine gA Z (zp (B) ?_)
 repeat(refine gA Z (zI (fun q=>?_) (fun q=>?_))<;>try(exact absurd q (by decide)))
 refine gA Z (zL ?_);exact .of_eq (fx (by decide+kernel))
end Go.Proofs.YtflegjieadkonaaGreatDoor
namespace Go.Proofs.YtflegjieadkonaaGreatDoor
open Go Go.Al
section
section
variable {p:Prog}
theorem Jl(hf:jP p):(dc p).length<=64∧ ∀r∈dc p,r.length<=64:=by
 have d:=jr hf;have b:=mP (n:=(ns p).length) (F:=Go.Co.cX (ns p).length (bQ p)) (K:=Go.Co.cls (bQ p)) (ns p).length (fun _=>li);constructor
 .rw[oC,YH];exact YR b.1 d
 .intro r j;rw[oC]at j;obtain⟨c,u,rfl⟩:=YP.1 j;rw[YH];exact YR (b.2 c u) d
end
end
section
theorem F3{n:Nat}{bW:Nat->Nat->Bool}{d d':Nat->Bool}(h: ∀j,j<n->d j=d' j)(a:Nat):Go.Co.cX n bW d a=Go.Co.cX n bW d' a:=by
 unfold Go.Co.cX;rw[YU,YG,YG];exact⟨fun g b hb=>by rw[<-h b (YM.1 hb)];exact g b hb,fun g b hb=>by rw[h b (YM.1 hb)];exact g b hb⟩
theorem pd{n:Nat}{bW K:Nat->Nat->Bool}: ∀{f:Nat} {d d':Nat->Bool},(∀j,j<n->d j=d' j)->Go.Co.dq n (Go.Co.cX n bW) K f d=Go.Co.dq n (Go.Co.cX n bW) K f d'
 |0,_,_,_=>rfl
 |f+1,d,d',h=>by
  have b:(Yv n).find? (fun a=>!d a&&Go.Co.cX n bW d a)=(Yv n).find? (fun a=>!d' a&&Go.Co.cX n bW d' a):=
   Go.Co.find_congr fun a u=>by rw[F3 h,h a (YM.1 u)]
  unfold Go.Co.dq;rw[b];split
  .rfl
  .rename_i a _;rw[pd fun j x=>by rw[h j x]]
section
variable (p:Prog)
abbrev R5(f:Nat)(d:Nat->Bool):List (List Nat):=Go.Co.dq (ns p).length (Go.Co.cX (ns p).length (bQ p)) (Go.Co.cls (bQ p)) f d
abbrev G8(D:List Bool)(a:Nat):Bool:=!Ch D a&&Go.Co.cX (ns p).length (bQ p) (Ch D) a
def Jn(x k:Nat):List aj:=((Yv k).filter (Go.Co.cls (bQ p) x)).map (vD p)
def Cv(D:List Bool)(x k:Nat):List Bool:=(Yv (ns p).length).map fun j=>Ch D j||(lw (j<k)&&Go.Co.cls (bQ p) x j)
structure CJ (t:Nat) (D:List Bool) (out:List (List aj)):Prop where
 dl:D.length=(ns p).length
 ol:out.length=t
 rest:out++(R5 p ((ns p).length-t) (Ch D)).map (fun c=>c.map (vD p))=dc p
end
section
variable {p:Prog}
theorem T1:CJ p 0 (ZW (ns p).length li) []:=⟨by simp,rfl,by
 rw[aaj,oC];unfold yC R5
 rw[Nat.sub_zero,pd (d:=Ch (ZW (ns p).length li)) (d':=fun _=>li) fun j b=>by
  show(ZW (ns p).length li).getD j io=li
  rw[Ye,aad,am b];rfl]⟩
theorem Qb{t:Nat}{D:List Bool}{out:List (List aj)}(h:CJ p t D out)(b:(ns p).length<=t):out=dc p:=by
 rw[<-h.rest,show(ns p).length-t=0 by omega];simp[Go.Co.dq]
theorem Qa{t:Nat}{D:List Bool}{out:List (List aj)}(h:CJ p t D out)(d:t<(ns p).length)(b:(Yv (ns p).length).find? (G8 p D)=kw):out=dc p:=by
 rw[<-h.rest,show(ns p).length-t=((ns p).length-t-1)+1 by omega];have:R5 p (((ns p).length-t-1)+1) (Ch D)=[]:=by
  unfold R5 Go.Co.dq;rw[show(Yv (ns p).length).find? (fun a=>!Ch D a&&Go.Co.cX (ns p).length (bQ p) (Ch D) a)=kw from b]
 rw[this];simp
theorem HH{D:List Bool}{x k:Nat}:(Cv p D x k).length=(ns p).length:=by simp[Cv]
theorem TR{D:List Bool}{x k j:Nat}(hj:j<(ns p).length):Ch (Cv p D x k) j=(Ch D j||(lw (j<k)&&Go.Co.cls (bQ p) x j)):=by
 unfold Ch Cv;rw[Ye,lO hj];rfl
theorem P9{t:Nat}{D:List Bool}{out:List (List aj)}{x:Nat}(h:CJ p t D out)(A:t<(ns p).length)(y:(Yv (ns p).length).find? (G8 p D)=jp x):CJ p (t+1) (Cv p D x (ns p).length) (out++ [Jn p x (ns p).length]):=
 ⟨HH,by rw[Yg,h.ol];rfl,by
  rw[<-h.rest,show(ns p).length-t=((ns p).length-(t+1))+1 by omega,Yu];congr 1;have:R5 p (((ns p).length-(t+1))+1) (Ch D)=(Yv (ns p).length).filter (Go.Co.cls (bQ p) x)::R5 p ((ns p).length-(t+1)) (fun b=>Ch D b||Go.Co.cls (bQ p) x b):=by
   conv=>lhs;unfold R5 Go.Co.dq
   rw[show(Yv (ns p).length).find? (fun a=>!Ch D a&&Go.Co.cX (ns p).length (bQ p) (Ch D) a)=jp x from y]
  rw[this,Yz];show _=[Jn p x (ns p).length]++_;unfold R5
  rw[pd (d:=Ch (Cv p D x (ns p).length)) (d':=fun b=>Ch D b||Go.Co.cls (bQ p) x b) fun j u=>by rw[TR u,decide_eq_true u,Zc]]⟩
theorem HO{x k:Nat}(h:Go.Co.cls (bQ p) x k=lc):Jn p x (k+1)=Jn p x k++ [vD p k]:=by
 unfold Jn;rw[abK,aaq,Yk,ZD,h];rfl
theorem Cj{x k:Nat}(h:Go.Co.cls (bQ p) x k=li):Jn p x (k+1)=Jn p x k:=by
 unfold Jn;rw[abK,aaq,Yk,ZD,h];simp
theorem HP(x k:Nat):(Jn p x k).length<=k:=by
 unfold Jn;rw[YH];exact YR (Ze _ _) (by rw[aah];exact Ym _)
theorem P6{D:List Bool}{x k:Nat}(d:k<(ns p).length)(h:Go.Co.cls (bQ p) x k=lc):(Cv p D x k).set k lc=Cv p D x (k+1):=by
 have:=p3 (n:=(ns p).length) (g:=fun j=>Ch D j||(lw (j<k)&&Go.Co.cls (bQ p) x j)) (g':=fun j=>Ch D j||(lw (j<k+1)&&Go.Co.cls (bQ p) x j)) d fun j u=>by
  by_cases b:j=k
  .rw[am b,b]
  .rw[be b,decide_eq_decide.2 (show j<k+1↔j<k by omega)]
 unfold Cv;rw[<-this];congr 1;rw[h,decide_eq_true (ZY k),aaF,aaA]
theorem Mh{D:List Bool}{x k:Nat}(h:Go.Co.cls (bQ p) x k=li):Cv p D x (k+1)=Cv p D x k:=by
 unfold Cv;refine ZC fun j _=>?_;by_cases b:j=k
 .subst b;rw[h,Zv,Zv]
 .rw[decide_eq_decide.2 (show j<k+1↔j<k by omega)]
theorem Mg{D:List Bool}{x:Nat}(b:D.length=(ns p).length):Cv p D x 0=D:=by
 unfold Cv;apply ZS;intro j;rcases Zj j (ns p).length with hj|hj
 .rw[lO hj,decide_eq_false (Z3 j),Zm,Z9];show jp (D.getD j io)=_;rw[Ye,Yi (by omega)];rfl
 .rw[Z0 (by simpa using hj),Z0 (by omega)]
end
abbrev NxJ(p:Prog)(D:List Bool)(a:Nat)(next:Int):Prop:=(next= -1∧ ∀b,b<a->G8 p D b=li)∨ ∃x:Nat,next=x∧x<(ns p).length∧(Yv (ns p).length).find? (G8 p D)=jp x
abbrev Yb(p:Prog)(D:List Bool)(next:Int):Prop:=(next= -1∧(Yv (ns p).length).find? (G8 p D)=kw)∨ ∃x:Nat,next=x∧x<(ns p).length∧(Yv (ns p).length).find? (G8 p D)=jp x
theorem Pt{p:Prog}{D:List Bool}(h: ∀b,b<(ns p).length->G8 p D b=li):(Yv (ns p).length).find? (G8 p D)=kw:=by
 rw[Zx];intro b hb;rw[h b (YM.1 hb)];exact aaU
theorem Ps{p:Prog}{D:List Bool}{a:Nat}(ha:a<(ns p).length)(h: ∀b,b<a->G8 p D b=li)(h2:G8 p D a=lc):(Yv (ns p).length).find? (G8 p D)=jp a:=by
 have d:=KO ha
 have:=j9 (l:=Yv (ns p).length) (p:=G8 p D) (i:=a) (by
  rw[Y5];intro b hb;obtain⟨j,u,rfl⟩:=aam.1 hb;rw[aah]at u
  rw[List.getElem_range,h j (by omega)];exact aaU) (by rw[aah];exact ha) (by rw[d];exact h2)
 rwa[d]at this
abbrev Uq(p:Prog)(out:List (List aj))(t:Nat)(f:AF):AF:=(3,.iv (strs (ns p)))::(4,.iv (fI p))::(5,.sl 1 0 (ns p).length 1)::(6,.sl 3 0 out.length 1)::(7,pI t)::f
abbrev WE(D:List Bool)(out:List (List aj)):AH:=[(1,jp (aC 1 D bJ)),(3,jp (aC 1 out pn))]
set_option maxHeartbeats 1000000 in
theorem OV(p:Prog)(hb:p.fit)(hs:p.size<=10000000):Pure Tryz.prog 25 [ag p.c] (.iv (cT 1 (kh p) pn)):=by
 refine ad ab Tryz.func25 Z (by decide) Tryz.ntmps25 Z (by simp) Z ?_;refine gA Z (zp (V3 p hb hs) ?_);refine zJ Z Z (fun k1=>?_) fun k1=>?_
 .have k1: ¬(bu p).1=0:=zX k1;rw[kh,be k1];refine gA Z (zL ?_);exact .nil _ _
 have k1:(bu p).1=0:=zY k1;have Y:=gx k1;have hn:=jr Y;rw[kh,am k1];have m0:=dz (ns p).length (bQ p);refine gA Z (zp (tY Y) ?_);refine gA Z (zp (tZ Y hb) ?_);refine gA Z (zp (Kr Y) ?_);rcases Nat.eq_zero_or_pos (ns p).length with h0|h0
 .have e0:(yC p).length<=(ns p).length:=(mP _ _).1;have c0:dc p=[]:=ZP.1 (by rw[oC,YH];omega);refine gA Z (yl ab 1 (fun _=> []) Z Z Z Z Z Z Z (by omega) (by omega) Z ?_);refine gA Z ?_;refine ar 0 0 (Yl _) (fun i=>⟨[(3,.iv (strs (ns p))),(6,.iv (.v (.slice kw 0 0))),(7,pI i)],[],2⟩) (fun _=>True) [] ac
   (zW trivial) fun i hi _=>?_
  refine zJ Z Z (fun h2=>?_) fun h2=>?_
  .have h2:=ci h2;omega
  .rw[c0];refine gA Z (zL ?_);exact .nil _ _
 refine gA Z (AE ab (ns p).length (ns p).length Z Z Z Z Z Z Z Z Z h0 (by omega) (by show 1*(ns p).length<=_;omega) Z (by decide) (z:=[pB li]) Z (.inr ⟨rfl,rfl⟩) Z ?_);refine gA Z ?_;refine dF 6 1 Z ?_;refine pe 0 (ns p).length (Yl _) (fun t (x:List Bool×List (List aj))=>⟨Uq p x.2 t [],WE x.1 x.2,4⟩) (fun t x=>CJ p t x.1 x.2) (ZW (ns p).length li,[]) [2] T1
  (zW (hR Z (by rw[List.map_replicate];rfl) Z (zS trivial))) fun t x ht B=>?_
 obtain⟨D,out⟩:=x;have B:CJ p t D out:=B;have I:=B.dl;have i0:=B.ol;refine zE Z Z (fun A=>?_) fun A=>?_
 .have A:=co A;have:=Qb B A;subst this;refine gA Z (cG (by first|exact .inr Z|exact .inl Z) Z Z (rfl) (rfl))
 have A:=ci A;refine gM 3 Z (go_cut 2 (fun(y:{next:Int//Yb p D next})=>⟨Uq p out t [(8,pI y.1)],WE D out,4⟩) Z ?_ ?_)
 .refine gA Z ?_;refine pe 0 (ns p).length (Yl _) (fun a (next:Int)=>⟨Uq p out t [(8,pI next),(9,pI a)],WE D out,4⟩) (fun a next=>NxJ p D a next) (-1) [] (.inl ⟨rfl,fun b hb=>absurd hb (Z3 b)⟩)
   (zW (zS (zS trivial))) fun a next ha hN=>?_
  refine zE Z Z (fun u=>?_) fun u=>?_
  .have u:(ns p).length<=a:=by simpa using u
   have hE:Yb p D next:=hN.imp (fun h=>⟨h.1,Pt fun b hb=>h.2 b (by omega)⟩) id;refine gA Z (eL ⟨next,hE⟩ [] ?_);exact zW (zS (zS ac))
  have u:a<(ns p).length:=by simpa using u
  refine zE Z Z (fun J=>?_) fun J=>?_
  .have J: ¬next<0:=zF J;have hE:Yb p D next:=hN.elim (fun h=>by omega) .inr;refine gA Z (eL ⟨next,hE⟩ [] ?_);exact zW (zS (zS ac))
  have J:next<0:=zT J;have C:next= -1∧ ∀b,b<a->G8 p D b=li:=by
   rcases hN with h|⟨x,h,_⟩
   .exact h
   .omega
  have j:G8 p D a=li->NxJ p D (a+1) next:=fun h=> .inl ⟨C.1,fun b hb=>by
   rcases Zp.1 hb with hb|hb
   .exact C.2 b hb
   .subst hb;exact h⟩
  refine gM 8 Z (bB ab Z Z Z Z Z (fm (l:=D) (f:=bJ) (i:=a) (by omega)) Z Z ?_);refine zJ Z Z (fun F=>?_) fun F=>?_
  .have F:D.getD a io=li:=zA F;refine gA Z (iO [1] (Vg hn (bQ p) D a u I) Z Z Z Z Z (by show[_]=[jp ((aC 1 D bJ).c6 _)];rw[bA];rfl) Z Z ?_);refine zJ Z Z (fun G=>?_) fun G=>?_
   .have G:Go.Co.cX (ns p).length (bQ p) (fun b=>D.getD b io) a=lc:=G;refine gA Z ⟨u,(a:Int),[],.inr ⟨a,rfl,u,Ps u C.2 (by show(!D.getD a io&&Go.Co.cX (ns p).length (bQ p) (fun b=>D.getD b io) a)=lc;rw[F,G];rfl)⟩,zW (hR Z (by rw[Z4];exact ZC fun x _=>rj _ _) Z (zS ac))⟩
   .have G:Go.Co.cX (ns p).length (bQ p) (fun b=>D.getD b io) a=li:=G;refine gA Z ⟨u,next,[],j (by show(!D.getD a io&&Go.Co.cX (ns p).length (bQ p) (fun b=>D.getD b io) a)=li;rw[G,Zv]),zW (hR Z (by rw[Z4];exact ZC fun x _=>rj _ _) Z (zS ac))⟩
  .have F:D.getD a io=lc:=zB F;refine gA Z ⟨u,next,[],j (by show(!D.getD a io&&Go.Co.cX (ns p).length (bQ p) (fun b=>D.getD b io) a)=li;rw[F];rfl),zW (zS (zS ac))⟩
 rintro⟨next,hE⟩;dsimp only;rcases hE with⟨rfl,hE⟩|⟨x,rfl,hx,hE⟩
 .have:=Qa B A hE;subst this;refine zJ Z Z (fun S=>?_) fun S=>?_
  .refine gA Z (cG (by first|exact .inr Z|exact .inl Z) Z Z (rfl) (rfl))
  .exact absurd S (by decide)
 refine zJ Z Z (fun S=>?_) fun S=>?_
 .have:=zT S;omega
 have k0:=gE (f:=bQ p) hx;refine gA Z ?_;refine dF 10 1 Z ?_;refine ar 0 (ns p).length (Yl _) (fun k=>⟨Uq p out t [(8,pI x),(10,.sl 5 0 (Jn p x k).length 1),(11,pI k)],[(1,jp (aC 1 (Cv p D x k) bJ)),(3,jp (aC 1 out pn)),(5,jp (aC 1 (Jn p x k) cR))],6⟩) (fun _=>True) [4] ac
  (zW (hR Z (by rw[Mg I]) Z (zS (zS trivial)))) fun k hk _=>?_
 have f0:=HP (p:=p) x k;have g0:=HH (p:=p) (D:=D) (x:=x) (k:=k);refine zJ Z Z (fun g1=>?_) fun g1=>?_
 .have g1:=ci g1;have j0:=gE (f:=bQ p) g1;have e1:=jR (f:=bQ p) hx g1;have e2:=jR (f:=bQ p) g1 hx;refine zE Z Z (fun g2=>?_) fun g2=>?_
  .have g2:bQ p x k=li:=by rw[<-e1];exact g2
   have d:Go.Co.cls (bQ p) x k=li:=by unfold Go.Co.cls;rw[g2];rfl
   refine gA Z ⟨g1,ac,[5],zM (bv (bv (bv (bv (bv (bv ⟨.row (by rw[Cj d]),rfl,bv ac⟩)))))) (hR Z (by rw[Mh d]) Z (zS (hR Z (by rw[Cj d]) Z ac)))⟩
  have g2:bQ p x k=lc:=by rw[<-e1];exact g2
  refine zE Z Z (fun g3=>?_) fun g3=>?_
  .have g3:bQ p k x=li:=by rw[<-e2];exact g3
   have d:Go.Co.cls (bQ p) x k=li:=by unfold Go.Co.cls;rw[g3,Zv]
   refine gA Z ⟨g1,ac,[5],zM (bv (bv (bv (bv (bv (bv ⟨.row (by rw[Cj d]),rfl,bv ac⟩)))))) (hR Z (by rw[Mh d]) Z (zS (hR Z (by rw[Cj d]) Z ac)))⟩
  have g3:bQ p k x=lc:=by rw[<-e2];exact g3
  have d:Go.Co.cls (bQ p) x k=lc:=by unfold Go.Co.cls;rw[g2,g3];rfl
  refine gA Z ?_;refine hZ ab Z Z Z (i:=1) (sz:=1) (q:=0+k) Z Z Z Z (by simp only[YH];omega) Z Z Z Z ?_
  refine gA Z ⟨g1,ac,[7],zM (bv (bv (bv (bv (bv (bv ⟨.row (by rw[HO d,Yg];rfl),rfl,bv ac⟩)))))) ⟨⟨_,rfl,(zP (.kb lc)).trans (.of_eq (by
   rw[bA,<-P6 g1 d,YC];show AO.row 1 (((Cv p D x k).map fun x=>(bJ x).map PV.iv).set k ((bJ lc).map PV.iv))=AO.row 1 (((Cv p D x k).set k lc).map fun x=>(bJ x).map PV.iv)
   rw[ZV]))⟩,Yd Z,cH _,zS (hR Z (by rw[HO d,Yk];rfl) Z ac)⟩⟩
 have g1:=co g1;have b0:k=(ns p).length:=by omega
 rw[b0];have d0:=P9 B A hE;have a0:=HP (p:=p) x (ns p).length;generalize Jn p x (ns p).length=c at*
 generalize Cv p D x (ns p).length=D2 at*
 refine gM 1 Z (lG [] (t:=⟨Uq p out t [(10,.sl 5 0 c.length 1)],[(1,jp (aC 1 D2 bJ)),(3,jp (aC 1 out pn)),(5,jp (aC 1 c cR))],6⟩) (zW (zS (zS (zS ac)))) ?_);refine uv 5 (fun k=>cR (c.getD k io)) Z (cL Z) (by simp[AF.rk,PV.bG]) ⟨jT _ _ _ _ _ _,jT _ _ _ _ _ _,jT _ _ _ _ _ _,ac⟩ ?_
 refine lG (L:=[]) (t:=⟨Uq p out t [(10,.iv (strs c))],WE D2 out,6⟩) (zM (bv (bv (bv (bv (bv ⟨(by
  show aG (.iv (.dp 1 c.length fun k=>cR (c.getD (0+k) io))) (.iv (strs c));simp only[YC]
  exact .refl _),rfl,ac⟩))))) (zS (zS ac))) ?_
 refine gA Z ⟨A,(D2,out++ [c]),[7],d0,zM (bv (bv (bv ⟨.row (by rw[Yg];rfl),rfl,bv ac⟩))) (zS (hR Z (by rw[Yk];rfl) Z ac))⟩
end
theorem Gb{p:Prog}:(kK p).length<=1000000:=by
 unfold kK;by_cases k:(bu p).1=0
 .rw[am k];have b:=jr (gx k);have:=yz b (ns p).length;rw[Yn (Ym _)]at this;show(Cf p).length<=_;exact YR this (by omega)
 .rw[be k];exact Yl _
theorem yD{p:Prog}:(kh p).length<=1000000∧ ∀r∈kh p,r.length<=1000000:=by
 unfold kh;by_cases k:(bu p).1=0
 .rw[am k];have h:=Jl (gx k);exact⟨by omega,fun r b=>by have:=h.2 r b;omega⟩
 .rw[be k];exact⟨Yl _,fun _ h=>(nomatch h)⟩
theorem DO{p:Prog}:(gu p).length<=1000000:=by
 unfold gu;by_cases k:(dD p).1=0
 .rw[am k,gZ];have:=jr (gx (uH k).1);omega
 .rw[be k];exact Yl _
abbrev VO(p:Prog)(f:AF):AF:=(1,.ptr 0 0)::(4,.ptr 1 0)::(5,.iv (cT 3 (kK p) yA))::(6,.iv (cT 1 (kh p) pn))::(7,.iv (cT 2 (gu p) EZ))::(8,.ptr 2 0)::(9,.iv (cT 2 (gu p) EZ))::(10,.ptr 3 0)::(11,.ptr 4 0)::(12,pB (jH p))::f
abbrev VN(p:Prog):AH:=[(0,jp (ak p.c)),(1,jp (ak p.c)),(2,jp (ak (dD p).c)),(3,jp (ak (dD p).c)),(4,jp (ak (dD p).c))]
set_option maxHeartbeats 4000000 in
theorem By(b:fD)(p:Prog)(hb:p.fit)(hs:p.size<=2000000):Pure Tryz.prog 3 [ag p.c] (pB lc):=by
 have J:p.rules.length<=1000000000:=hb.2.1;have x:=Fj (kK p) (kK p) Gb;have d:=Fi (kh p) (kh p) yD.1 yD.2;have j:=C7 (gu p) (gu p) DO;rw[decide_eq_true Z]at x d j;refine ad ab Tryz.func3 Z (by decide) Tryz.ntmps3 Z (by simp) Z ?_;refine gA Z (zp (Tc b) ?_);refine gA Z (zp (c14 p (by omega)) ?_);refine gA Z (zp (Ks b p hb (by omega)) ?_);refine gA Z (zp (Kt b p hb (by omega)) ?_);refine gA Z (zp (GK b p hb (by omega)) ?_);refine gA Z (zp (Kq p hb (by omega)) ?_);refine gA Z (zp (BA b p hb (by omega)) ?_);refine gA Z (zp (zH b p hb) ?_);refine zE Z Z (fun y=>?_) fun y=>?_
 .exact absurd y (by decide)
 refine gA Z (zp (XD p (by omega)) ?_);refine zJ Z Z (fun A=>?_) fun A=>?_
 .exact absurd A (by decide)
 refine gM 1 Z (go_cut 1 (fun(_:Unit)=>⟨VO p [],VN p,5⟩) Z ?_ fun _=>?_)
 .refine gA Z ?_;refine ar 0 9 (Yl _) (fun i=>⟨VO p [(13,pI ((i:Int)-1))],VN p,5⟩) (fun _=>True) [] ac
   (zW (zK (zK (zK (zK (zK trivial)))))) fun i Y _=>?_
  refine zE Z Z (fun S=>?_) fun S=>?_
  .refine gA Z (eL () [] ?_);exact zW (zK (zK (zK (zK (zK ac)))))
  refine zE Z Z (fun u=>?_) fun u=>?_
  .refine gA Z (eL () [] ?_);exact zW (zK (zK (zK (zK (zK ac)))))
  have u:(i:Int)-1<8:=zT u;refine gA Z (kR (GH b p ((i:Int)-1) hb (by omega)) ?_);refine gA Z (kR (ON p ((i:Int)-1) hb (by omega)) ?_);refine zJ Z Z (fun B=>?_) fun B=>?_
  .simp at B
  refine gA Z ⟨by omega,ac,[],zM (bv (bv (bv (bv (bv (bv (bv (bv (bv (bv ⟨.of_eq (by rw[show(((i+1:Nat):Int)-1)=(i:Int)-1+1 by omega];rfl),rfl,ac⟩)))))))))) (zK (zK (zK (zK (zK ac)))))⟩
 refine gA Z (kR (OU p hb (by omega)) ?_);refine gA Z (kR (x) ?_);refine zE Z Z (fun C=>?_) fun C=>?_
 .exact absurd C (by decide)
 refine gA Z (kR (OV p hb (by omega)) ?_);refine gA Z (kR (d) ?_);refine zE Z Z (fun D=>?_) fun D=>?_
 .exact absurd D (by decide)
 refine gA Z (kR (j) ?_);refine zE Z Z (fun F=>?_) fun F=>?_
 .exact absurd F (by decide)
 refine zE Z Z (fun G=>?_) fun G=>?_
 .simp at G
 refine gA Z (kR (GP p hb (by omega)) ?_);refine zE Z Z (fun I=>?_) fun I=>?_
 .simp at I
 refine gA Z (kR (Fl p hb (by omega)) ?_);refine gA Z (zL (.of_eq ?_));exact fx (by simp)
end Go.Proofs.YtflegjieadkonaaGreatDoor
