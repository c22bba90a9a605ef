/-
  What the proofs of the claims need: part 4 of 5.
-/
import Derived.Test.YtlmhfgbkchnfbaaGreatDoorPart3
import Derived.KernelRfl
import Derived.Test.YtlmhfgbkchnfbaaGreatDoorRows
import Derived.WalkKit
import Derived.ProofKit
import Derived.OpenShut
import Derived.Deep.DeepHandedRow
import Derived.Lib.LaidTab
import Derived.LaidSub
import Derived.MakeChecks
import Derived.Test.YtlmhfgbkchnfbaaGreatDoorCards
import Derived.Test.YtlmhfgbkchnfbaaGreatDoorTie
import Derived.Lib.Bytealg
import Derived.Laws.Externs
import Derived.Shelf.SlSortCmp.NoneTotal
import Derived.Shelf.SlMaps.Clone
open And renaming intro→WN
open Array renaming eq_empty_of_size_eq_zero→Yb,toList_inj→ZT
open Bool renaming and_eq_true→XE,eq_iff_iff→Yk,false_eq_true→YE,not_eq_false'→YF,not_eq_true'→X0,or_eq_false_iff→YG,or_eq_true→YY
open ByteArray renaming empty→W0
open Classical renaming byContradiction→Ym
open Int renaming fdiv_eq_ediv_of_nonneg→Yd,le_refl→Za,ofNat_lt→ZZ,toNat→Ze,toNat_natCast→WV
open List.Nodup renaming length_le_of_subset→Yc
open List.Pairwise renaming filter→Y3,imp→ZR,nil→Y0
open List renaming all_eq_true→XC,any_eq_false→XL,any_eq_true→Yf,append_assoc→W6,append_eq_nil_iff→ZA,append_nil→XA,cons_append→Xe,drop_eq_getElem_cons→YC,drop_of_length_le→Yg,eq_nil_of_length_eq_zero→Xz,ext_getElem→Zk,ext_getElem?→Y2,filter_congr→YS,filter_cons→YH,find?_eq_none→YX,flatMap_append→Zo,flatMap_cons→XS,foldl_cons→XU,getD_cons_succ→Yj,getD_cons_zero→YL,getD_eq_getElem?_getD→WQ,getElem?_cons_succ→Zt,getElem?_eq_getElem→WU,getElem?_eq_some_iff→WT,getElem?_map→WX,getElem?_set→YD,getElem?_take→Xy,getElem?_zipWith→Z4,getElem_map→YB,getElem_mem→XF,length→Y9,length_append→WO,length_cons→Xn,length_eq_zero_iff→Yl,length_filter_le→Yi,length_map→Xk,length_pos_iff→X5,length_singleton→Xl,length_take→Xv,map_append→W4,map_congr_left→X6,map_cons→WW,map_map→XX,map_nil→W7,mem_append→Xf,mem_append_left→XJ,mem_append_right→Yo,mem_cons→Xa,mem_cons_of_mem→W5,mem_cons_self→W8,mem_filter→Xu,mem_flatMap→ZG,mem_iff_getElem→YQ,mem_map→Xw,mem_map_of_mem→ZK,mem_of_getElem?→Xs,mem_range→Yn,mem_reverse→aan,mem_singleton→W1,mem_singleton_self→YT,nil_append→Xg,nodup_append→Yt,nodup_cons→XB,nodup_nil→XM,pairwise_append→YI,pairwise_cons→XZ,pairwise_iff_getElem→X9,pairwise_singleton→Y8,perm_ext_iff_of_nodup→Yw,range→Xq,replicate→Zh,singleton_append→ZD,sum_cons→Ya,take_append_drop→Zf,take_length→X7,take_of_length_le→W9,take_succ_cons→Ye,zipWith→Z0,zipWith_cons_cons→Z1
open List.cons renaming injEq→Z2
open Nat renaming add_assoc→X3,beq→Xj,ble→YR,ble_eq_true_of_le→XN,blt→Xm,le_of_ble_eq_true→WL,le_of_eq→ZY,le_of_not_lt→Yz,le_refl→WY,le_succ→Yh,le_trans→XR,lt_succ_iff_lt_or_eq→YP,lt_succ_self→YA,max_eq_right→aao,not_lt_zero→YM,succ_le_succ→aam,zero_add→Xd,zero_le→W2
open Option renaming bind_some→Y7,getD_some→XV,map_eq_none_iff→Zb,map_eq_some_iff→WZ,map_some→XW
open Option.some renaming inj→XP,injEq→WR
open Prod renaming fst→XY
open Prod.mk renaming injEq→W3
set_option maxRecDepth 100000
open Bool renaming false→kw,true→jp
open Decidable renaming decide→lc
open Inhabited renaming default→co
open Option renaming none→is,some→io
open Array renaming getD_eq_getD_getElem?→WM
open Array renaming range→ZP
open Array renaming getElem?_map→Zr
open Array renaming getElem?_eq_getElem→Xx
open Nat renaming mul_le_mul_right→Xi
open Nat renaming add_mul→XG
open Array renaming append_assoc→Zs
open Array renaming getElem?_append_left→Xt
open List renaming getElem?_append_right→Xc
open Nat renaming sub_mul→Z7
open Array renaming getElem?_append_right→YJ
open Array renaming getElem?_toList→Xo
open Nat renaming mod_eq_of_lt→Y6
open List renaming getElem?_toArray→XD
open List renaming getElem?_append_left→Xb
namespace Go.Proofs.YtlmhfgbkchnfbaaGreatDoor
open Go Go.Al Go.Proofs.Tryz
section
section
variable (r:aw) (lit w:Int)
def nq(e:Expr):List Want:=if e.kind=1 then[⟨lit,ep r e.var w,1,0⟩] else if e.kind=2 then[⟨lit,cB.z,1,e.val.kind⟩] else[]
mutual
def gJ:Expr->List Want
 | .mk k v val op args=>nq r lit w (.mk k v val op args)++(if k=4 then tK args else[])
def tK:List Expr->List Want
 | []=> []
 |e::s=>gJ e++tK s
end
theorem BL: ∀l:List Expr,tK r lit w l=l.flatMap (gJ r lit w)
 | []=>rfl
 |e::s=>by rw[tK,XS,BL s]
def jk(e:Expr):List Want:=if e.kind=4 then e.args.flatMap (gJ r lit w) else[]
theorem ES(e:Expr):gJ r lit w e=nq r lit w e++jk r lit w e:=by
 cases e;rw[gJ,BL];rfl
end
abbrev TS.add(t:TS)(l:List Want):TS:=⟨t.up,t.ws++l,t.kind⟩
section
variable {nt:NT} {Q:AQ} {k:List KI} {s:AS}
def tS(s:AS)(r:aw)(t:TS)(i u j m:Nat):AS:=match s with|⟨f,h,n⟩=>⟨f,(i,io (TS.cell r u n t.ws.length m))::(u,io (pT t.up))::(n,io (aX 5 t.ws Want.c))::(m,io (p8 t.kind))::(i,is)::(u,is)::(j,is)::(m,is)::h,n+1⟩
theorem T5(s:AS)(r:aw)(t:TS)(i u j m:Nat):tS s r t i u j m=⟨s.f,(i,io (TS.cell r u s.nx t.ws.length m))::(u,io (pT t.up))::(s.nx,io (aX 5 t.ws Want.c))::(m,io (p8 t.kind))::(i,is)::(u,is)::(j,is)::(m,is)::s.h,s.nx+1⟩:=by cases s;rfl
def tR(s:AS)(r:aw)(t:TS)(i u j m:Nat):AS:=match s with|⟨f,h,n⟩=>⟨f,(i,io (TS.cell r u j t.ws.length m))::(u,io (pT t.up))::(j,io (aX 5 t.ws Want.c))::(m,io (p8 t.kind))::(i,is)::(u,is)::(j,is)::(m,is)::h,n⟩
theorem T6(s:AS)(r:aw)(t:TS)(i u j m:Nat):tR s r t i u j m=⟨s.f,(i,io (TS.cell r u j t.ws.length m))::(u,io (pT t.up))::(j,io (aX 5 t.ws Want.c))::(m,io (p8 t.kind))::(i,is)::(u,is)::(j,is)::(m,is)::s.h,s.nx⟩:=by cases s;rfl
theorem HH{o:Oper}{c:Call}{g:FuncId}{args B:List PV}{r:aw}{t C:TS}{A:PV}{i u j m n:Nat}{es:List (List PV)}{s':AS}(hc:bf prog g (.ptr 0 0::args) (t.O r) A (C.H r) 5)(ho:o.op= .call c)(ha:bN s.f c=io (g,.ptr i 0::B))
  (hi:s.h.get i=io (TS.cell r u j n m)) (hu:s.h.get u=io (pT t.up)) (hj:s.h.get j=io (.row 5 es)) (hm:s.h.get m=io (p8 t.kind)) (hn:n=t.ws.length) (he:es=t.ws.map fun x=>(Want.c x).map .iv)
  (hlt:[i,u,j,m].all (fun x=>Xm x s.nx)=jp) (hnd:cE [i,u,j,m]=jp) (has:B=args) (hlow:bq 0 args=jp) (hr:A.low 0=jp)
  (hp:putDst nt o A (tS s r C i u j m)=io s'):OT prog nt o s (fun t=>t=s'):=by
 subst has;subst hn;subst he;have y: ∀σ,dc σ B=B:=fun σ=>iP σ B hlow;refine lJ ho ha hc (eM hnd) (fun j hj=>WL (XC.1 hlt j hj)) ?_ ?_ ?_
 .simp only[WW,W7,hi,hu,hj,hm,b5];rfl
 .simp only[dc,y];rfl
 .rintro q D n0 ⟨rfl,rfl,rfl⟩;rw[PV.ke _ _ hr];rw[T5]at hp;refine⟨s',?_,rfl⟩;rw[<-hp];simp only[TS.H,aB,n3,XW,b5];rfl
theorem HC{o:Oper}{c:Call}{g:FuncId}{args B:List PV}{r:aw}{t:TS}{A:PV}{i u j m n:Nat}{es:List (List PV)}{s':AS}(hc:bf prog g (.ptr 0 0::args) (t.O r) A (t.K r) 4)(ho:o.op= .call c)(ha:bN s.f c=io (g,.ptr i 0::B))
  (hi:s.h.get i=io (TS.cell r u j n m)) (hu:s.h.get u=io (pT t.up)) (hj:s.h.get j=io (.row 5 es)) (hm:s.h.get m=io (p8 t.kind)) (hn:n=t.ws.length) (he:es=t.ws.map fun x=>(Want.c x).map .iv)
  (hlt:[i,u,j,m].all (fun x=>Xm x s.nx)=jp) (hnd:cE [i,u,j,m]=jp) (has:B=args) (hlow:bq 0 args=jp) (hr:A.low 0=jp)
  (hp:putDst nt o A (tR s r t i u j m)=io s'):OT prog nt o s (fun t=>t=s'):=by
 subst has;subst hn;subst he;have y: ∀σ,dc σ B=B:=fun σ=>iP σ B hlow;refine lJ ho ha hc (eM hnd) (fun j hj=>WL (XC.1 hlt j hj)) ?_ ?_ ?_
 .simp only[WW,W7,hi,hu,hj,hm,b5];rfl
 .simp only[dc,y];rfl
 .rintro q C n0 ⟨rfl,rfl,rfl⟩;rw[PV.ke _ _ hr];rw[T6]at hp;refine⟨s',?_,rfl⟩;rw[<-hp];simp only[TS.K,aB,n3,XW,b5];rfl
theorem Cb{all rest:List Oper}{o:Oper}{c:Call}{g:FuncId}{args A:List PV}{r:aw}{t B:TS}{y:PV}{i u j m n:Nat}{es:List (List PV)}{s':AS}(hc:bf prog g (.ptr 0 0::args) (t.O r) y (B.H r) 5)(ho:o.op= .call c)(hg:o.guard=is)(ha:bN s.f c=io (g,.ptr i 0::A))
  (hi:s.h.get i=io (TS.cell r u j n m)) (hu:s.h.get u=io (pT t.up)) (hj:s.h.get j=io (.row 5 es)) (hm:s.h.get m=io (p8 t.kind)) (hn:n=t.ws.length) (he:es=t.ws.map fun x=>(Want.c x).map .iv)
  (hlt:[i,u,j,m].all (fun x=>Xm x s.nx)=jp) (hnd:cE [i,u,j,m]=jp) (has:A=args) (hlow:bq 0 args=jp) (hr:y.low 0=jp)
  (hp:putDst nt o y (tS s r B i u j m)=io s') (h:GO prog nt (.ops all rest::k) Q s'):GO prog nt (.ops all (o::rest)::k) Q s:=
 bB hg (HH hc ho ha hi hu hj hm hn he hlt hnd has hlow hr hp) fun t ht=>by subst ht;exact h
theorem Fb{all rest:List Oper}{o:Oper}{c:Call}{g:FuncId}{args A:List PV}{r:aw}{t B:TS}{y:PV}{i u j m n:Nat}{es:List (List PV)}{s':AS}(hc:bf prog g (.ptr 0 0::args) (t.O r) y (B.H r) 5)(h:GO prog nt (.ops all rest::k) Q s')(ho:o.op= .call c:=by exact rfl)(hg:o.guard=is:=by exact rfl)(ha:bN s.f c=io (g,.ptr i 0::A):=by exact rfl)(hi:s.h.get i=io (TS.cell r u j n m):=by exact rfl)(hu:s.h.get u=io (pT t.up):=by exact rfl)(hj:s.h.get j=io (.row 5 es):=by exact rfl)(hm:s.h.get m=io (p8 t.kind):=by exact rfl)(hn:n=t.ws.length:=by first|rfl|(rw[WO];rfl)|simp)(he:es=t.ws.map fun x=>(Want.c x).map .iv:=by first|rfl|(rw[W4];rfl)|(simp only[W4,W6];rfl))(hlt:[i,u,j,m].all (fun x=>Xm x s.nx)=jp:=by exact rfl)(hnd:cE [i,u,j,m]=jp:=by exact rfl)(has:A=args:=by exact rfl)(hlow:bq 0 args=jp:=by exact rfl)(hr:y.low 0=jp:=by exact rfl)(hp:putDst nt o y (tS s r B i u j m)=io s':=by exact rfl):GO prog nt (.ops all (o::rest)::k) Q s:=Cb (hc:=hc) (ho:=ho) (hg:=hg) (ha:=ha) (hi:=hi) (hu:=hu) (hj:=hj) (hm:=hm) (hn:=hn) (he:=he) (hlt:=hlt) (hnd:=hnd) (has:=has) (hlow:=hlow) (hr:=hr) (hp:=hp) (h:=h)
theorem Sy{all:List Oper}{todo pend:List (Nat×Oper)}{A:Nat}{C B:Prop}{o:Oper}{c:Call}{g:FuncId}{args D:List PV}{r:aw}{t:TS}{y:PV}{i u j m n:Nat}{es:List (List PV)}{s':AS}(hc:bf prog g (.ptr 0 0::args) (t.O r) y (t.K r) 4)
  (hrd:dw todo=[(A,o)]) (ho:o.op= .call c) (ha:bN s.f c=io (g,.ptr i 0::D))
  (hi:s.h.get i=io (TS.cell r u j n m)) (hu:s.h.get u=io (pT t.up)) (hj:s.h.get j=io (.row 5 es)) (hm:s.h.get m=io (p8 t.kind)) (hn:n=t.ws.length) (he:es=t.ws.map fun x=>(Want.c x).map .iv)
  (hlt:[i,u,j,m].all (fun x=>Xm x s.nx)=jp) (hnd:cE [i,u,j,m]=jp) (has:D=args) (hlow:bq 0 args=jp) (hr:y.low 0=jp)
  (hp:putDst nt o y (tR s r t i u j m)=io s')
  (hg:bQ nt all s.f o=io jp) (hpb:gX all pend o=jp) (hE:nI todo [A]=jp)
  (hag:lX qq nt all s todo pend=io C) (hCA:C) (hag2:c6 qq nt all s' (a7 pend o)=io B) (hC2:B)
  (h:GO prog nt (.bR all (todo.filter fun x=>!Xj x.1 A) (a7 pend o)::k) Q s'):GO prog nt (.bR all todo pend::k) Q s:=
 iY ab hrd hg hpb hE hag hCA (HC hc ho ha hi hu hj hm hn he hlt hnd has hlow hr hp) hag2 hC2 h
theorem oJ{all:List Oper}{todo pend:List (Nat×Oper)}{A:Nat}{C B:Prop}{o:Oper}{c:Call}{g:FuncId}{args D:List PV}{r:aw}{t:TS}{y:PV}{i u j m n:Nat}{es:List (List PV)}{s':AS}(hc:bf prog g (.ptr 0 0::args) (t.O r) y (t.K r) 4)(h:GO prog nt (.bR all (todo.filter fun x=>!Xj x.1 A) (a7 pend o)::k) Q s')(hrd:dw todo=[(A,o)]:=by exact rfl)(ho:o.op= .call c:=by exact rfl)(ha:bN s.f c=io (g,.ptr i 0::D):=by exact rfl)(hi:s.h.get i=io (TS.cell r u j n m):=by exact rfl)(hu:s.h.get u=io (pT t.up):=by exact rfl)(hj:s.h.get j=io (.row 5 es):=by exact rfl)(hm:s.h.get m=io (p8 t.kind):=by exact rfl)(hn:n=t.ws.length:=by first|rfl|(rw[WO];rfl)|simp)(he:es=t.ws.map fun x=>(Want.c x).map .iv:=by first|rfl|(rw[W4];rfl)|(simp only[W4,W6];rfl))(hlt:[i,u,j,m].all (fun x=>Xm x s.nx)=jp:=by exact rfl)(hnd:cE [i,u,j,m]=jp:=by exact rfl)(has:D=args:=by exact rfl)(hlow:bq 0 args=jp:=by exact rfl)(hr:y.low 0=jp:=by exact rfl)(hp:putDst nt o y (tR s r t i u j m)=io s':=by exact rfl)(hg:bQ nt all s.f o=io jp:=by exact rfl)(hpb:gX all pend o=jp:=by exact rfl)(hE:nI todo [A]=jp:=by exact rfl)(hag:lX qq nt all s todo pend=io C:=by exact rfl)(hCA:C:=by(repeat' (first|exact ac|exact rfl|exact ae.refl _|exact ae.bk (by assumption)|apply WN))<;>first|omega|(simp only[WV];omega)|(simp;done)|(simp;omega))(hag2:c6 qq nt all s' (a7 pend o)=io B:=by exact rfl)(hC2:B:=by(repeat' (first|exact ac|exact rfl|exact ae.refl _|exact ae.bk (by assumption)|apply WN))<;>first|omega|(simp only[WV];omega)|(simp;done)|(simp;omega)):GO prog nt (.bR all todo pend::k) Q s:=Sy (hc:=hc) (hrd:=hrd) (ho:=ho) (ha:=ha) (hi:=hi) (hu:=hu) (hj:=hj) (hm:=hm) (hn:=hn) (he:=he) (hlt:=hlt) (hnd:=hnd) (has:=has) (hlow:=hlow) (hr:=hr) (hp:=hp) (hg:=hg) (hpb:=hpb) (hE:=hE) (hag:=hag) (hCA:=hCA) (hag2:=hag2) (hC2:=hC2) (h:=h)
theorem Qh{l:List ResultVar}{r0:PV}{e:Exit}{r:aw}{y:TS}{u:PV}{j n:Nat}{es:List (List PV)}(he:e= .normal∨e= .ret)(hr:je qq s l=io r0)(hi:s.h.get 0=io (TS.cell r 1 j n 3))(hu:s.h.get 1=io (pT y.up))(hj:s.h.get j=io (.row 5 es))(hm:s.h.get 3=io (p8 y.kind))
  (hn:n=y.ws.length) (hes:es=y.ws.map fun x=>(Want.c x).map .iv) (hlt:Xm j s.nx=jp) (hnd:cE [0,1,j,3]=jp) (hns:YR 4 s.nx=jp) (hrl:ae r0 u) (hlow:u.low 0=jp) (hlow5:u.low 5=jp):D7 qq l 4 u (y.H r) 5 e s:=by
 subst hn;subst hes;refine ar [j] he hr ⟨rfl,WL hns,fun x A=>?_,⟨?_,hlow5,ac⟩,⟨⟨_,hi,.of_eq Z⟩,WL Z,rfl,⟨_,hu,.of_eq Z⟩,WL Z,ac,⟨_,hj,.of_eq (b5 _).symm⟩,WL Z,eJ _,⟨_,hm,.of_eq Z⟩,WL Z,ac,ac⟩,?_⟩
 .simp only[W1]at A;subst A;exact WL hlt
 .rw[PV.ke _ _ hlow];exact hrl
 .exact eM hnd
theorem xf{l:List ResultVar}{r0:PV}{e:Exit}{r:aw}{y:TS}{u:PV}{j n:Nat}{es:List (List PV)}(he:e= .normal∨e= .ret:=by first|exact .inr Z|exact .inl Z)(hr:je qq s l=io r0:=by exact rfl)(hi:s.h.get 0=io (TS.cell r 1 j n 3):=by exact rfl)(hu:s.h.get 1=io (pT y.up):=by exact rfl)(hj:s.h.get j=io (.row 5 es):=by exact rfl)(hm:s.h.get 3=io (p8 y.kind):=by exact rfl)(hn:n=y.ws.length:=by first|rfl|(rw[WO];rfl)|simp)(hes:es=y.ws.map fun x=>(Want.c x).map .iv:=by first|rfl|(rw[W4];rfl)|(simp only[W4,W6];rfl))(hlt:Xm j s.nx=jp:=by exact rfl)(hnd:cE [0,1,j,3]=jp:=by exact rfl)(hns:YR 4 s.nx=jp:=by exact rfl)(hrl:ae r0 u:=by exact .refl _)(hlow:u.low 0=jp:=by exact rfl)(hlow5:u.low 5=jp:=by exact rfl):D7 qq l 4 u (y.H r) 5 e s:=Qh (he:=he) (hr:=hr) (hi:=hi) (hu:=hu) (hj:=hj) (hm:=hm) (hn:=hn) (hes:=hes) (hlt:=hlt) (hnd:=hnd) (hns:=hns) (hrl:=hrl) (hlow:=hlow) (hlow5:=hlow5)
theorem OF{n0 i u j m n:Nat}{es:List (List PV)}{Y:AF}{r:aw}{t y:TS}(hw:t=y)(hi:s.h.get i=io (TS.cell r u j n m))(hu:s.h.get u=io (pT t.up))(hj:s.h.get j=io (.row 5 es))(hm:s.h.get m=io (p8 t.kind))
  (hn:n=t.ws.length) (hes:es=t.ws.map fun x=>(Want.c x).map .iv) (hlt:Xm j s.nx=jp) (hnd:cE [i,u,j,m]=jp) (h0:[i,u,m].all (fun x=>Xm x n0)=jp) (hns:YR n0 s.nx=jp) (hf:Hq (n0+1) (sg n0 [j]) s.f Y):
  Wk n0 [j] s ⟨Y,[(i,io (TS.cell r u n0 y.ws.length m)),(u,io (pT y.up)),(n0,io (aX 5 y.ws Want.c)),(m,io (p8 y.kind))],n0+1⟩:=by
 subst hw;subst hn;subst hes;simp only[List.all_cons,List.all_nil,Bool.and_true,XE]at h0;have A:i<n0:=WL h0.1;have C:u<n0:=WL h0.2.1;have B:m<n0:=WL h0.2.2;have s0:sg n0 [j] i=i:=gG A;have D:sg n0 [j] u=u:=gG C;have G:sg n0 [j] m=m:=gG B;have b0:Xm n0 n0=kw:=Bool.eq_false_iff.2 fun e=>absurd (WL e) (by omega);have I:sg n0 [j] n0=j:=by simp[sg,b0]
 have c1:Xm u (n0+1)=jp:=XN (by omega);have c3:Xm m (n0+1)=jp:=XN (by omega);have cn:Xm n0 (n0+1)=jp:=XN (by omega);refine⟨rfl,WL hns,fun x J=>?_,hf,⟨⟨_,by rw[s0];exact hi,?_⟩,by show i<n0+1;omega,?_,⟨_,by rw[D];exact hu,.of_eq Z⟩,by show u<n0+1;omega,ac,⟨_,by rw[I];exact hj,.of_eq (b5 _).symm⟩,YA _,eJ _,⟨_,by rw[G];exact hm,.of_eq Z⟩,by show m<n0+1;omega,ac,ac⟩,?_⟩
 .simp only[W1]at J;subst J;exact WL hlt
 .simp only[AO.b3,dc,PV.b3,D,G,I];exact .of_eq Z
 .simp[AO.low,bq,PV.low,c1,c3,cn]
 .simp only[fq,s0,D,G,I];exact eM hnd
theorem qn{n0 i u j m n:Nat}{es:List (List PV)}{A:AF}{r:aw}{t y:TS}(hw:t=y)(hi:s.h.get i=io (TS.cell r u j n m):=by exact rfl)(hu:s.h.get u=io (pT t.up):=by exact rfl)(hj:s.h.get j=io (.row 5 es):=by exact rfl)(hm:s.h.get m=io (p8 t.kind):=by exact rfl)(hn:n=t.ws.length:=by first|rfl|(rw[WO];rfl)|simp)(hes:es=t.ws.map fun x=>(Want.c x).map .iv:=by first|rfl|(rw[W4];rfl)|(simp only[W4,W6];rfl))(hlt:Xm j s.nx=jp:=by exact rfl)(hnd:cE [i,u,j,m]=jp:=by exact rfl)(h0:[i,u,m].all (fun x=>Xm x n0)=jp:=by exact rfl)(hns:YR n0 s.nx=jp:=by exact rfl)(hf:Hq (n0+1) (sg n0 [j]) s.f A:=by repeat' (first|exact ac|exact ae.refl _|exact rfl|apply WN)):Wk n0 [j] s ⟨A,[(i,io (TS.cell r u n0 y.ws.length m)),(u,io (pT y.up)),(n0,io (aX 5 y.ws Want.c)),(m,io (p8 y.kind))],n0+1⟩:=OF (hw:=hw) (hi:=hi) (hu:=hu) (hj:=hj) (hm:=hm) (hn:=hn) (hes:=hes) (hlt:=hlt) (hnd:=hnd) (h0:=h0) (hns:=hns) (hf:=hf)
end
theorem TS.add_add(t:TS)(a b:List Want):(t.add a).add b=t.add (a++b):=by simp[TS.add]
theorem TS.add_nil(t:TS):t.add []=t:=by simp[TS.add]
def OD(r:aw)(n:Nat):Prop:= ∀(t:TS) (e:Expr) (lit w:Int),e.size<=n->t.ws.length+Expr.aD e.args<=1000000000->bf prog 250 [.ptr 0 0,ag e.c,pI lit,pI w] (t.O r) (.aY []) ((t.add (jk r lit w e)).H r) 5
def SY(r:aw)(n:Nat):Prop:= ∀(t:TS) (e:Expr) (lit w:Int),e.size<=n->t.ws.length+e.size<=1000000000->bf prog 224 [.ptr 0 0,ag e.c,pI lit,pI w] (t.O r) (.aY []) ((t.add (gJ r lit w e)).H r) 5
theorem d92(r:aw)(n:Nat)(x:OD r n):SY r n:=by
 intro t e lit w hs hb;have y:=e.size_eq;rw[ES,<-TS.add_add];refine ak ab func224 Z (by decide) ntmps224 Z (by simp) ?_;refine zJ Z Z (fun j=>?_) fun j=>?_
 .have j:e.kind=1:=zT j;have hl:nq r lit w e=[⟨lit,ep r e.var w,1,0⟩]:=am j;rw[hl];refine gA Z (oJ (d136 r t e.var w) ?_);refine gA Z (Cb (x (t.add [⟨lit,ep r e.var w,1,0⟩]) e lit w hs (by show(t.ws++_).length+_<=_;rw[WO,Xl];omega)) Z Z Z Z Z Z Z (by first|rfl|(rw[WO];rfl)|simp) (by first|rfl|(rw[W4];rfl)|(simp only[W4,W6];rfl)) Z Z Z Z Z Z ?_);refine gA Z xf
 have j: ¬e.kind=1:=zF j;refine zJ Z Z (fun u=>?_) fun u=>?_
 .have u:e.kind=2:=zT u;have hl:nq r lit w e=[⟨lit,cB.z,1,e.val.kind⟩]:=by unfold nq;rw[be j,am u]
  rw[hl];refine gA Z (Cb (x (t.add [⟨lit,cB.z,1,e.val.kind⟩]) e lit w hs (by show(t.ws++_).length+_<=_;rw[WO,Xl];omega)) Z Z Z Z Z Z Z (by first|rfl|(rw[WO];rfl)|simp) (by first|rfl|(rw[W4];rfl)|(simp only[W4,W6];rfl)) Z Z Z Z Z Z ?_);refine gA Z xf
 .have u: ¬e.kind=2:=zF u;have hl:nq r lit w e=[]:=by unfold nq;rw[be j,be u]
  rw[hl,TS.add_nil];refine gA Z (Fb (x t e lit w hs (by omega)) ?_);refine gA Z xf
theorem iT(r:aw)(lit w:Int): ∀e:Expr,(gJ r lit w e).length<=e.size
 | .mk k v val op args=>by
  rw[gJ,Expr.size,WO];have h1:(nq r lit w (.mk k v val op args)).length<=1:=by
   unfold nq
   repeat' split
   all_goals simp
  have j:(if k=4 then tK r lit w args else[]).length<=Expr.aD args:=by
   split
   .exact numRs_len args
   .simp
  omega
where
 numRs_len: ∀l:List Expr,(tK r lit w l).length<=Expr.aD l
 | []=>by simp[tK]
 |e::s=>by
  have h1:=iT r lit w e;have h2:=numRs_len s;rw[tK,Expr.aD,WO];omega
theorem IQ(r:aw)(lit w:Int)(l:List Expr)(i:Nat)(h:i<l.length):((l.take i).flatMap (gJ r lit w)).length+(l.getD i co).size<=Expr.aD l:=by
 have h1: ∀l:List Expr,(l.flatMap (gJ r lit w)).length<=Expr.aD l:=by
  intro l
  induction l with
  |nil=>simp
  |cons e s ih=>
   have:=iT r lit w e;rw[XS,WO,Expr.aD];omega
 have u:=h1 (l.take i);have j: ∀(l:List Expr) (i:Nat),i<l.length->Expr.aD (l.take i)+(l.getD i co).size<=Expr.aD l:=by
  intro l
  induction l with
  |nil=>intro i h;simp at h
  |cons e s ih=>
   intro i h;cases i with
   |zero=>simp[Expr.aD]
   |succ i=>
    have:=ih i (by simpa using h);simp only[Ye,Yj,Expr.aD];omega
 have:=j l i h;omega
theorem d137(r:aw)(n:Nat)(y:SY r n):OD r (n+1):=by
 intro t e lit w hs hb;have x:=e.size_eq;refine bf.le (args:=[.ptr 0 0,ag e.c1,pI lit,pI w]) ?_ ⟨.refl _,e.DD,.refl _,.refl _,ac⟩;have u:=Expr.aJ e.args;refine ak ab func250 Z (by decide) ntmps250 Z (by simp) ?_;refine zE Z Z (fun k=>?_) fun k=>?_
 .have k: ¬e.kind=4:=zF k;have hl:jk r lit w e=[]:=be k;rw[hl,TS.add_nil];refine gA Z xf
 have k:e.kind=4:=zT k;have hl:jk r lit w e=e.args.flatMap (gJ r lit w):=am k;rw[hl];refine gA Z ?_
 refine aM 0 e.args.length (W2 _) (fun i=>⟨[(0,.ptr 0 0),(2,pI lit),(3,pI w),(14,.iv (aW 7 e.args Expr.c)),(15,pI e.args.length),(16,pI i)],
  [(0,io (TS.cell r 1 5 (t.add ((e.args.take i).flatMap (gJ r lit w))).ws.length 3)),(1,io (pT (t.add ((e.args.take i).flatMap (gJ r lit w))).up)),(5,io (aX 5 (t.add ((e.args.take i).flatMap (gJ r lit w))).ws Want.c)),(3,io (p8 (t.add ((e.args.take i).flatMap (gJ r lit w))).kind))],6⟩) (fun _=>True) _ ac
  (OF (t:=t) (TS.add_nil t).symm Z Z Z Z Z Z Z Z Z Z (bi (bi (bi (bi (bi (bi trivial))))))) fun i hi _=>?_
 refine zJ Z Z (fun h1=>?_) fun h1=>?_
 .have h1:i<e.args.length:=by simpa using h1
  have j:=bC (f:=gJ r lit w) h1;have B:=IQ r lit w e.args i h1;have A:=Expr.bT e.args i h1;refine gA Z (Cb (y (t.add ((e.args.take i).flatMap (gJ r lit w))) (e.args.getD i co) lit w (by omega) (by show(t.ws++_).length+_<=_;rw[WO];omega)) Z Z Z Z Z Z Z (by first|rfl|(rw[WO];rfl)|simp) (by first|rfl|(rw[W4];rfl)|(simp only[W4,W6];rfl)) Z Z Z Z Z Z ?_);refine gA Z ⟨h1,ac,_,OF ((by rw[TS.add_add,j])) Z Z Z Z (by first|rfl|(rw[WO];rfl)|simp) (by first|rfl|(rw[W4];rfl)|(simp only[W4,W6];rfl)) Z Z Z Z (bi (bi (bi (bi (bi (bi ac))))))⟩
 .have h1:e.args.length<=i:=by simpa using h1
  rw[W9 h1];refine gA Z xf
end
theorem sZ(r:aw): ∀n,SY r n∧OD r n
 |0=>by
  have j:OD r 0:=fun t e lit w hs=>by have:=e.size_pos;omega
  exact⟨d92 r 0 j,j⟩
 |n+1=>by
  have h1:=d137 r n (sZ r n).1;exact⟨d92 r (n+1) h1,h1⟩
theorem J5(r:aw)(t:TS)(e:Expr)(lit w:Int)(hb:t.ws.length+e.size<=1000000000):bf prog 224 [.ptr 0 0,ag e.c,pI lit,pI w] (t.O r) (.aY []) ((t.add (gJ r lit w e)).H r) 5:=(sZ r e.size).1 t e lit w (WY _) hb
theorem Ql(r:aw)(t:TS)(e:Expr)(lit w:Int)(hb:t.ws.length+e.size<=1000000000):bf prog 250 [.ptr 0 0,ag e.c,pI lit,pI w] (t.O r) (.aY []) ((t.add (jk r lit w e)).H r) 5:=(sZ r e.size).2 t e lit w (WY _) (by have:=e.size_eq;omega)
def typeAt(p:Prog)(a:Atom)(i:Nat):Int:=(iw p a.rel).types.getD i co
def mR(p:Prog)(a:Atom)(i:Nat):Bool:=lc (i<(iw p a.rel).types.length)&&(lc (typeAt p a i=1)||decide (typeAt p a i=2))
def lO(p:Prog)(r:aw)(a:Atom)(lit w:Int)(i:Nat):List Want:=
 if mR p a i=kw then[]
 else if(a.an.getD i co).kind=1 then[⟨lit,ep r (a.an.getD i co).var w,typeAt p a i,0⟩]
 else if(a.an.getD i co).kind=2 then[⟨lit,cB.z,typeAt p a i,(a.an.getD i co).val.kind⟩] else[]
def gQ(p:Prog)(r:aw)(a:Atom)(lit w:Int):Nat->List Want
 |0=> []
 |i+1=>gQ p r a lit w i++lO p r a lit w i
theorem CX(p:Prog)(r:aw)(a:Atom)(lit w:Int)(i:Nat):(lO p r a lit w i).length<=1:=by
 unfold lO
 repeat' split
 all_goals simp
theorem nM(p:Prog)(r:aw)(a:Atom)(lit w:Int): ∀i,(gQ p r a lit w i).length<=i
 |0=>WY _
 |i+1=>by
  have h1:=nM p r a lit w i;have j:=CX p r a lit w i;rw[gQ,WO];omega
set_option maxHeartbeats 1000000 in
theorem d90(p:Prog)(r:aw)(t:TS)(a:Atom)(lit w:Int)(hb:t.ws.length+a.an.length<=1000000000):bf prog 222 [.ptr 0 0,.iv (cT p),ag a.c,pI lit,pI w] (t.O r) (.aY []) ((t.add (gQ p r a lit w a.an.length)).H r) 5:=by
 refine ak ab func222 Z (by decide) ntmps222 Z (by simp) ?_;refine gA Z ?_
 refine aM 0 a.an.length (W2 _) (fun i=>⟨[(0,.ptr 0 0),(3,pI lit),(4,pI w),(10,.iv (aW 1 (iw p a.rel).types kj)),(19,.iv (aW 5 a.an Term.c)),(20,pI a.an.length),(21,pI i)],
  [(0,io (TS.cell r 1 5 (t.add (gQ p r a lit w i)).ws.length 3)),(1,io (pT (t.add (gQ p r a lit w i)).up)),(5,io (aX 5 (t.add (gQ p r a lit w i)).ws Want.c)),(3,io (p8 (t.add (gQ p r a lit w i)).kind))],6⟩) (fun _=>True) _ ac
  (OF (t:=t) (TS.add_nil t).symm Z Z Z Z Z Z Z Z Z Z (bi (bi (bi (bi (bi (bi (bi trivial)))))))) fun i hi _=>?_
 refine zE Z Z (fun h1=>?_) fun h1=>?_
 .have h1:a.an.length<=i:=by simpa using h1
  have:i=a.an.length:=by omega
  subst this;refine gA Z xf
 have h1:i<a.an.length:=by simpa using h1
 have hl:=nM p r a lit w i;have hs:t.add (gQ p r a lit w (i+1))=(t.add (gQ p r a lit w i)).add (lO p r a lit w i):=by rw[TS.add_add];rfl
 have y:(t.add (gQ p r a lit w i)).ws.length<=t.ws.length+i:=by show(t.ws++_).length<=_;rw[WO];omega
 generalize t.add (gQ p r a lit w i)=t1 at*
 refine zE Z Z (fun g1=>?_) fun g1=>?_
 .have g1: ¬i<(iw p a.rel).types.length:=by have g:=zT (show lc ((i:Int)>=((iw p a.rel).types.length:Int))=jp from g1);omega
  have hf:mR p a i=kw:=by rw[mR,decide_eq_false g1];rfl
  have x:lO p r a lit w i=[]:=am hf;rw[x,TS.add_nil]at hs;refine gA Z ⟨h1,ac,_,qn (hs.symm)⟩
 have g1:i<(iw p a.rel).types.length:=by have g:=zF (show lc ((i:Int)>=((iw p a.rel).types.length:Int))=kw from g1);omega
 refine zJ Z Z (fun g2=>?_) fun g2=>?_
 .have g2: ¬typeAt p a i=1:=by simpa[typeAt]using g2
  refine zJ Z Z (fun g3=>?_) fun g3=>?_
  .have g3: ¬typeAt p a i=2:=by simpa[typeAt]using g3
   have hf:mR p a i=kw:=by rw[mR,decide_eq_true g1,decide_eq_false g2,decide_eq_false g3];rfl
   have x:lO p r a lit w i=[]:=am hf;rw[x,TS.add_nil]at hs;refine gA Z ⟨h1,ac,_,qn (hs.symm)⟩
  .have g3:typeAt p a i=2:=by simpa[typeAt]using g3
   have ht:mR p a i=jp:=by rw[mR,decide_eq_true g1,decide_eq_true g3,Bool.or_true];rfl
   have x:lO p r a lit w i=if(a.an.getD i co).kind=1 then[⟨lit,ep r (a.an.getD i co).var w,typeAt p a i,0⟩]
    else if(a.an.getD i co).kind=2 then[⟨lit,cB.z,typeAt p a i,(a.an.getD i co).val.kind⟩] else[]:=by unfold lO;rw[ht];exact be (by decide)
   rw[x]at hs;refine zJ Z Z (fun j=>?_) fun j=>?_
   .have j:(a.an.getD i co).kind=1:=zT j;rw[am j]at hs;refine gA Z (oJ (d136 r t1 (a.an.getD i co).var w) ?_);refine gA Z ⟨h1,ac,_,qn (hs.symm)⟩
   have j: ¬(a.an.getD i co).kind=1:=zF j;rw[be j]at hs;refine zJ Z Z (fun u=>?_) fun u=>?_
   .have u:(a.an.getD i co).kind=2:=zT u;rw[am u]at hs;refine gA Z ⟨h1,ac,_,qn (hs.symm)⟩
   .have u: ¬(a.an.getD i co).kind=2:=zF u;rw[be u,TS.add_nil]at hs;refine gA Z ⟨h1,ac,_,qn (hs.symm)⟩
 .have g2:typeAt p a i=1:=by simpa[typeAt]using g2
  have ht:mR p a i=jp:=by rw[mR,decide_eq_true g1,decide_eq_true g2];rfl
  have x:lO p r a lit w i=if(a.an.getD i co).kind=1 then[⟨lit,ep r (a.an.getD i co).var w,typeAt p a i,0⟩]
   else if(a.an.getD i co).kind=2 then[⟨lit,cB.z,typeAt p a i,(a.an.getD i co).val.kind⟩] else[]:=by unfold lO;rw[ht];exact be (by decide)
  rw[x]at hs;refine zJ Z Z (fun j=>?_) fun j=>?_
  .have j:(a.an.getD i co).kind=1:=zT j;rw[am j]at hs;refine gA Z (oJ (d136 r t1 (a.an.getD i co).var w) ?_);refine gA Z ⟨h1,ac,_,qn (hs.symm)⟩
  have j: ¬(a.an.getD i co).kind=1:=zF j;rw[be j]at hs;refine zJ Z Z (fun u=>?_) fun u=>?_
  .have u:(a.an.getD i co).kind=2:=zT u;rw[am u]at hs;refine gA Z ⟨h1,ac,_,qn (hs.symm)⟩
  .have u: ¬(a.an.getD i co).kind=2:=zF u;rw[be u,TS.add_nil]at hs;refine gA Z ⟨h1,ac,_,qn (hs.symm)⟩
def xe(t:TS)(u v:cB):TS:=if u=v then t else⟨cP (.si .i64) t.up u v,t.ws,t.kind⟩
def uq(y:Expr):Int:=if y.kind=2 then y.val.kind else 1
def gT(r:aw)(lit w:Int)(t:TS)(x y:Expr):TS:=
 if y.kind=1 then xe t (bW t.up (ep r x.var w)) (bW t.up (ep r y.var w))
 else t.add (if x.kind=1 then[⟨lit,ep r x.var w,uq y,0⟩] else if x.kind=2 then[⟨lit,cB.z,uq y,x.val.kind⟩] else[⟨lit,cB.z,uq y,1⟩])
def jo(r:aw)(lit w:Int)(t:TS)(a b:Expr):TS:=
 if b.kind=1 then gT r lit w ((t.add (jk r lit w a)).add (jk r lit w b)) b a else gT r lit w ((t.add (jk r lit w a)).add (jk r lit w b)) a b
theorem Mo{u v:cB}(h:(!(lc (u.1=v.1)&&(lc (u.2=v.2)&&jp)))=jp):u≠v:=by
 rintro rfl;simp at h
theorem Mp{u v:cB}(h:(!(lc (u.1=v.1)&&(lc (u.2=v.2)&&jp)))=kw):u=v:=by
 simp at h;exact Prod.ext h.1 h.2
theorem rY(r:aw)(lit w:Int)(e:Expr):(jk r lit w e).length<=e.size:=by
 have h1:=iT r lit w e;rw[ES,WO]at h1;omega
set_option maxHeartbeats 1000000 in
theorem d93(r:aw)(t:TS)(a b:Expr)(lit w:Int)(ok:jd t.up)(hb:t.ws.length+a.size+b.size<=1000000000):bf prog 225 [.ptr 0 0,ag a.c,ag b.c,pI lit,pI w] (t.O r) (.aY []) ((jo r lit w t a b).H r) 5:=by
 have h1:=rY r lit w a;have I:=rY r lit w b;have G:jo r lit w t a b=if b.kind=1 then gT r lit w ((t.add (jk r lit w a)).add (jk r lit w b)) b a else gT r lit w ((t.add (jk r lit w a)).add (jk r lit w b)) a b:=rfl;rw[G];have C:jd ((t.add (jk r lit w a)).add (jk r lit w b)).up:=ok;refine ak ab func225 Z (by decide) ntmps225 Z (by simp) ?_;refine gA Z (Fb (Ql r t a lit w (by omega)) ?_);refine gA Z (Cb (Ql r (t.add (jk r lit w a)) b lit w (by show(t.ws++_).length+_<=_;rw[WO];omega)) Z Z Z Z Z Z Z (by first|rfl|(rw[WO];rfl)|simp) (by first|rfl|(rw[W4];rfl)|(simp only[W4,W6];rfl)) Z Z Z Z Z Z ?_);have hl:((t.add (jk r lit w a)).add (jk r lit w b)).ws.length<=t.ws.length+a.size+b.size:=by
  show((t.ws++_)++_).length<=_;rw[WO,WO];omega
 generalize(t.add (jk r lit w a)).add (jk r lit w b)=t1 at*
 refine zJ Z Z (fun x=>?_) fun x=>?_
 .have x:b.kind=1:=zT x;rw[am x];refine zJ Z Z (fun u=>?_) fun u=>?_
  .have u:a.kind=2:=zT u;have D: ¬a.kind=1:=by omega
   have hh:uq a=a.val.kind:=am u;have A:gT r lit w t1 b a=t1.add [⟨lit,ep r b.var w,uq a,0⟩]:=by unfold gT;rw[be D,am x]
   rw[A,hh];refine zJ Z Z (fun y=>?_) fun y=>?_
   .exact absurd (zT y) D
   refine zE Z Z (fun j=>?_) fun j=>?_
   .exact absurd x (zF j)
   refine gA Z (oJ (d136 r t1 b.var w) ?_);refine gA Z xf
  .have u: ¬a.kind=2:=zF u;refine zJ Z Z (fun y=>?_) fun y=>?_
   .have y:a.kind=1:=zT y;have A:gT r lit w t1 b a=xe t1 (bW t1.up (ep r b.var w)) (bW t1.up (ep r a.var w)):=am y;rw[A];refine gA Z (oJ (d136 r t1 b.var w) ?_);refine gA Z (oJ (d52 r t1 (ep r b.var w) C) ?_);refine gA Z (oJ (d136 r t1 a.var w) ?_);refine gA Z (oJ (d52 r t1 (ep r a.var w) C) ?_);refine zJ Z Z (fun j=>?_) fun j=>?_
    .have e:xe t1 (bW t1.up (ep r b.var w)) (bW t1.up (ep r a.var w))=⟨cP (.si .i64) t1.up (bW t1.up (ep r b.var w)) (bW t1.up (ep r a.var w)),t1.ws,t1.kind⟩:=be (Mo j);rw[e];refine gf Z (by repeat' (first|exact ac|exact rfl|exact VE (cB.c (bW t1.up (ep r a.var w)))|exact ae.refl _|apply WN)) (Qh (by first|exact .inr Z|exact .inl Z) Z Z Z Z Z Z Z Z Z Z (.refl _) Z Z)
    .have e:xe t1 (bW t1.up (ep r b.var w)) (bW t1.up (ep r a.var w))=t1:=am (Mp j);rw[e];refine gA Z xf
   .have D: ¬a.kind=1:=zF y;have hh:uq a=1:=be u;have A:gT r lit w t1 b a=t1.add [⟨lit,ep r b.var w,uq a,0⟩]:=by unfold gT;rw[be D,am x]
    rw[A,hh];refine zE Z Z (fun j=>?_) fun j=>?_
    .exact absurd x (zF j)
    refine gA Z (oJ (d136 r t1 b.var w) ?_);refine gA Z xf
 have x: ¬b.kind=1:=zF x;rw[be x];have A:gT r lit w t1 a b=t1.add (if a.kind=1 then[⟨lit,ep r a.var w,uq b,0⟩] else if a.kind=2 then[⟨lit,cB.z,uq b,a.val.kind⟩] else[⟨lit,cB.z,uq b,1⟩]):=be x;rw[A];refine zJ Z Z (fun u=>?_) fun u=>?_
 .have u:b.kind=2:=zT u;have hh:uq b=b.val.kind:=am u;rw[hh];refine zJ Z Z (fun y=>?_) fun y=>?_
  .exact absurd (zT y) x
  refine zJ Z Z (fun j=>?_) fun j=>?_
  .rw[am (zT j)];refine gA Z (oJ (d136 r t1 a.var w) ?_);refine gA Z xf
  rw[be (zF j)];refine zJ Z Z (fun B=>?_) fun B=>?_
  .rw[am (zT B)];refine gA Z xf
  .rw[be (zF B)];refine gA Z xf
 .have u: ¬b.kind=2:=zF u;have hh:uq b=1:=be u;rw[hh];refine zJ Z Z (fun y=>?_) fun y=>?_
  .exact absurd (zT y) x
  refine zJ Z Z (fun j=>?_) fun j=>?_
  .rw[am (zT j)];refine gA Z (oJ (d136 r t1 a.var w) ?_);refine gA Z xf
  rw[be (zF j)];refine zJ Z Z (fun B=>?_) fun B=>?_
  .rw[am (zT B)];refine gA Z xf
  .rw[be (zF B)];refine gA Z xf
def pM(p:Prog)(r:aw)(lit w:Int)(t:TS)(l:Lit):TS:=
 if l.kind=1∨l.kind=2 then t.add (gQ p r l.atom lit w l.atom.an.length)
 else if l.kind=3 then(if l.op=1∨l.op=2 then jo r lit w t l.left l.right else(t.add (gJ r lit w l.left)).add (gJ r lit w l.right)) else t
theorem d91(p:Prog)(r:aw)(t:TS)(l:Lit)(lit w:Int)(ok:jd t.up)(hb:t.ws.length+l.size<=1000000000):bf prog 223 [.ptr 0 0,.iv (cT p),ag l.c,pI lit,pI w] (t.O r) (.aY []) ((pM p r lit w t l).H r) 5:=by
 have C:=l.size_eq;have D:=iT r lit w l.left;refine ak ab func223 Z (by decide) ntmps223 Z (by simp) ?_;refine zE Z Z (fun u=>?_) fun u=>?_
 .have u:l.kind=1:=by simpa using u
  have j:pM p r lit w t l=t.add (gQ p r l.atom lit w l.atom.an.length):=am (.inl u);rw[j];refine gA Z (Fb (d90 p r t l.atom lit w (by omega)) ?_);refine gA Z xf
 have u: ¬l.kind=1:=zF u;refine zJ Z Z (fun x=>?_) fun x=>?_
 .have x:l.kind=2:=zT x;have j:pM p r lit w t l=t.add (gQ p r l.atom lit w l.atom.an.length):=am (.inr x);rw[j];refine gA Z (Fb (d90 p r t l.atom lit w (by omega)) ?_);refine gA Z xf
 have x: ¬l.kind=2:=zF x;have j:pM p r lit w t l=if l.kind=3 then(if l.op=1∨l.op=2 then jo r lit w t l.left l.right else(t.add (gJ r lit w l.left)).add (gJ r lit w l.right)) else t:=be (by rintro(h|h);exact u h;exact x h);refine zJ Z Z (fun y=>?_) fun y=>?_
 .have y: ¬l.kind=3:=by simpa using y
  rw[be y]at j;rw[j];refine gA Z xf
 have y:l.kind=3:=by simpa using y
 rw[am y]at j;refine zE Z Z (fun A=>?_) fun A=>?_
 .have A:l.op=1:=by simpa using A
  rw[am (.inl A)]at j;rw[j];refine gA Z (Fb (d93 r t l.left l.right lit w ok (by omega)) ?_);refine gA Z xf
 have A: ¬l.op=1:=zF A;refine zJ Z Z (fun B=>?_) fun B=>?_
 .have B:l.op=2:=zT B;rw[am (.inr B)]at j;rw[j];refine gA Z (Fb (d93 r t l.left l.right lit w ok (by omega)) ?_);refine gA Z xf
 .have B: ¬l.op=2:=zF B;rw[be (by rintro(h|h);exact A h;exact B h)]at j;rw[j];refine gA Z (Fb (J5 r t l.left lit w (by omega)) ?_);refine gA Z (Cb (J5 r (t.add (gJ r lit w l.left)) l.right lit w (by show(t.ws++_).length+_<=_;rw[WO];omega)) Z Z Z Z Z Z Z (by first|rfl|(rw[WO];rfl)|simp) (by first|rfl|(rw[W4];rfl)|(simp only[W4,W6];rfl)) Z Z Z Z Z Z ?_);refine gA Z xf
theorem qE: ∀(n:Nat) (m:UM) (v:cB),jd m->FN m v<=n->dx (.si .i64) m (bW m v)=kw
 |n,m,v,ok,hn=>by
  cases h:dx (.si .i64) m v with
  |false=>rw[rE m v h];exact h
  |true=>
   obtain⟨h1,j⟩:=ow m v ok h;cases n with
   |zero=>omega
   |succ n=>rw[<-h1];exact qE n m _ ok (by omega)
theorem Bv: ∀(m:UM) (u v:cB),dx (.si .i64) m u=kw->cP (.si .i64) m u v=m++ [(u,v)]
 | [],_,_,_=>rfl
 |(x,y)::r,u,v,h=>by
  unfold dx at h;split at h
  .cases h
  .rename_i j;show(if x=u then _ else(x,y)::cP (.si .i64) r u v)=_;rw[be j,Bv r u v h];rfl
theorem Ca{m:UM}{u:cB}(h:dx (.si .i64) m u=kw): ∀q∈m,q.1≠u:=by
 induction m with
 |nil=>intro q hq;cases hq
 |cons a r ih=>
  obtain⟨x,y⟩:=a;unfold dx at h;split at h
  .cases h
  .rename_i j;intro q hq;rcases Xa.1 hq with rfl|hq
   .exact j
   .exact ih h q hq
theorem xD: ∀{m:UM} {u v:cB},jd m->(∀q∈m,q.1≠u)->(∀q∈m,q.1≠v)->u≠v->jd (m++ [(u,v)])
 | [],u,v,_,_,_,hne=>⟨hne,fun q hq=>(nomatch hq),fun q hq=>(nomatch hq),ac⟩
 |(x,y)::r,u,v,⟨o1,o2,o3,o4⟩,hu,hv,hne=>by
  refine⟨o1,fun q hq=>?_,fun q hq=>?_,xD o4 (fun q hq=>hu q (W5 _ hq)) (fun q hq=>hv q (W5 _ hq)) hne⟩
  .rcases Xf.1 hq with hq|hq
   .exact o2 q hq
   .simp only[W1]at hq;subst hq;exact fun e=>hu _ W8 e.symm
  .rcases Xf.1 hq with hq|hq
   .exact o3 q hq
   .simp only[W1]at hq;subst hq;exact fun e=>hv _ W8 e.symm
theorem Rp{t:TS}(ok:jd t.up)(a b:cB):jd (xe t (bW t.up a) (bW t.up b)).up:=by
 unfold xe;split
 .exact ok
 .rename_i j;have h1:=qE _ t.up a ok (WY _);have u:=qE _ t.up b ok (WY _);show jd (cP _ _ _ _);rw[Bv _ _ _ h1];exact xD ok (Ca h1) (Ca u) j
theorem yX(r:aw)(lit w:Int){t:TS}(ok:jd t.up)(x y:Expr):jd (gT r lit w t x y).up:=by
 unfold gT;split
 .exact Rp ok _ _
 .exact ok
theorem CO(r:aw)(lit w:Int){t:TS}(ok:jd t.up)(a b:Expr):jd (jo r lit w t a b).up:=by
 unfold jo;split
 .exact yX r lit w (t:=(t.add (jk r lit w a)).add (jk r lit w b)) ok _ _
 .exact yX r lit w (t:=(t.add (jk r lit w a)).add (jk r lit w b)) ok _ _
theorem I5(p:Prog)(r:aw)(lit w:Int){t:TS}(ok:jd t.up)(l:Lit):jd (pM p r lit w t l).up:=by
 unfold pM
 repeat' split
 .exact ok
 .exact CO r lit w ok _ _
 .exact ok
 .exact ok
theorem Ro(t:TS)(u v:cB):(xe t u v).ws=t.ws:=by unfold xe;split<;>rfl
theorem wX(r:aw)(lit w:Int)(t:TS)(x y:Expr):(gT r lit w t x y).ws.length<=t.ws.length+1:=by
 unfold gT
 repeat' split
 .rw[Ro];omega
 all_goals(show(t.ws++_).length<=_;rw[WO,Xl];omega)
theorem yW(r:aw)(lit w:Int)(t:TS)(a b:Expr):(jo r lit w t a b).ws.length<=t.ws.length+a.size+b.size+1:=by
 have h1:=rY r lit w a;have j:=rY r lit w b;have u:((t.add (jk r lit w a)).add (jk r lit w b)).ws.length<=t.ws.length+a.size+b.size:=by
  show((t.ws++_)++_).length<=_;rw[WO,WO];omega
 unfold jo;split
 .exact XR (wX _ _ _ _ _ _) (by omega)
 .exact XR (wX _ _ _ _ _ _) (by omega)
theorem EX(p:Prog)(r:aw)(lit w:Int)(t:TS)(l:Lit):(pM p r lit w t l).ws.length<=t.ws.length+l.size:=by
 have j:=l.size_eq;have h1:=nM p r l.atom lit w l.atom.an.length;have u:=yW r lit w t l.left l.right;have x:=iT r lit w l.left;have y:=iT r lit w l.right;unfold pM
 repeat' split
 .show(t.ws++_).length<=_;rw[WO];omega
 .omega
 .show((t.ws++_)++_).length<=_;rw[WO,WO];omega
 .omega
theorem cG{P:Program}{nt:NT}{Q:AQ}{k:List KI}{s t:AS}{c:Code}(L:List Nat)(h0:Wk s.nx L s t)(h:GO P nt (.code c::k) Q t):GO P nt (.code c::k) Q s:=by
 intro M N a w hf;exact AW.then h (h0.fits hf) fun e A B u x s' y j hr=>⟨u,x,s',(h0.ext (.refl _ _ _ _ _)).trans y,j,hr⟩
theorem Ni:eR .ft (pT []):=⟨id,fun M N U w j u=>⟨#[],0,u,⟨rfl,by simp,by simp,by simp,by simp⟩,.agg _ _ Z fun j p u=>by
 match j,u with
 |0,u=>cases u;exact .v _
 |1,u=>cases u;exact .v _
 |j+2,u=>simp[cB.c]at u⟩⟩
theorem Nj:eR .ft (p8 []):=⟨id,fun M N U w j u=>⟨#[],0,u,⟨rfl,by simp,by simp,by simp,by simp⟩,gj M⟩⟩
def pJ(s:aq):Expr:= .mk 1 s ⟨0,0,W0⟩ 0 []
abbrev KS(s:aq):PV:= .agg [pI 1,pS s,pI 0,pI 0,pS W0,pI 0,.iv (.v (.slice is 0 0))]
theorem y1(s:aq):ae (KS s) (ag (pJ s).c):= .agg ⟨.refl _,.refl _,.refl _,.refl _,.refl _,.refl _,.nil _ _,ac⟩
theorem l0(s:aq):(pJ s).size=1:=rfl
def xd(r:aw)(i:Int)(t:TS)(f:Int)(v:aq)(o:Expr):TS:=
 if f=2 then(t.add (gJ r i i o)).add (gJ r i i (pJ v)) else if f=1 then t.add (gJ r i i (pJ v)) else jo r i i t (pJ v) o
def qU(p:Prog)(r:aw)(i:Int)(t:TS)(j:List Lit):Nat->TS
 |0=>t
 |k+1=>pM p r i i (qU p r i t j k) (j.getD k co)
def stepT(p:Prog)(r:aw)(i:Int)(t:TS)(l:Lit):TS:=
 if l.kind=4 then qU p r i (xd r i t l.dU l.bF l.kn) l.ay l.ay.length else pM p r i (-1) t l
def TS.o:TS:=⟨[],[],[]⟩
def eZ(p:Prog)(r:aw):Nat->TS
 |0=>TS.o.add (gQ p r r.head (-1) (-1) r.head.an.length)
 |k+1=>stepT p r k (eZ p r k) (r.body.getD k co)
def cO(j:UM)(m:KM)(w:Want):KM:=if w.has=0∧dW (.si .i64) m (bW j w.at_) 0=0 then cP (.si .i64) m (bW j w.at_) w.kind else m
def oj(p:Prog)(r:aw):TS:=⟨(eZ p r r.body.length).up,(eZ p r r.body.length).ws,(eZ p r r.body.length).ws.foldl (cO (eZ p r r.body.length).up) []⟩
theorem Hu(r:aw)(i:Int){t:TS}(ok:jd t.up)(f:Int)(v:aq)(o:Expr):jd (xd r i t f v o).up:=by
 unfold xd
 repeat' split
 .exact ok
 .exact ok
 .exact CO r i i ok _ _
theorem B8(p:Prog)(r:aw)(i:Int){t:TS}(ok:jd t.up)(j:List Lit): ∀k,jd (qU p r i t j k).up
 |0=>ok
 |k+1=>I5 p r i i (B8 p r i ok j k) _
theorem Ml(p:Prog)(r:aw)(i:Int){t:TS}(ok:jd t.up)(l:Lit):jd (stepT p r i t l).up:=by
 unfold stepT;split
 .exact B8 p r i (Hu r i ok _ _ _) _ _
 .exact I5 p r i (-1) ok l
theorem An(p:Prog)(r:aw): ∀k,jd (eZ p r k).up
 |0=>trivial
 |k+1=>Ml p r k (An p r k) _
theorem wW(r:aw)(lit w:Int)(t:TS)(a b:Expr):(jo r lit w t a b).kind=t.kind:=by
 have h1: ∀(t:TS) u v,(xe t u v).kind=t.kind:=fun t u v=>by unfold xe;split<;>rfl
 have j: ∀(t:TS) x y,(gT r lit w t x y).kind=t.kind:=fun t x y=>by
  unfold gT;split
  .exact h1 _ _ _
  .rfl
 unfold jo;split<;>exact j _ _ _
theorem BX(p:Prog)(r:aw)(lit w:Int)(t:TS)(l:Lit):(pM p r lit w t l).kind=t.kind:=by
 unfold pM
 repeat' split
 .rfl
 .exact wW r lit w t _ _
 .rfl
 .rfl
theorem E8(p:Prog)(r:aw)(i:Int)(t:TS)(j:List Lit): ∀k,(qU p r i t j k).kind=t.kind
 |0=>rfl
 |k+1=>by rw[qU,BX,E8 p r i t j k]
theorem FW(p:Prog)(r:aw)(i:Int)(t:TS)(l:Lit):(stepT p r i t l).kind=t.kind:=by
 unfold stepT;split
 .rw[E8];unfold xd
  repeat' split
  .rfl
  .rfl
  .exact wW r i i t _ _
 .exact BX p r i (-1) t l
theorem yO(p:Prog)(r:aw): ∀k,(eZ p r k).kind=[]
 |0=>rfl
 |k+1=>by rw[eZ,FW,yO p r k]
theorem Ef(r:aw)(i:Int)(t:TS)(f:Int)(v:aq)(o:Expr):(xd r i t f v o).ws.length<=t.ws.length+o.size+2:=by
 have h1:=iT r i i o;have j:=iT r i i (pJ v);have u:=yW r i i t (pJ v) o;rw[l0]at j u;unfold xd
 repeat' split
 .show((t.ws++_)++_).length<=_;rw[WO,WO];omega
 .show(t.ws++_).length<=_;rw[WO];omega
 .omega
theorem jx: ∀(l:List Lit) (i:Nat),i<l.length->Lit.aD (l.take i)+(l.getD i co).size<=Lit.aD l
 | [],i,h=>by simp at h
 |s::r,0,_=>by simp[Lit.aD]
 |s::r,i+1,h=>by
  have:=jx r i (by simpa using h);simp only[Ye,Yj,Lit.aD];omega
theorem Lit.vf(l:List Lit)(i:Nat)(h:i<l.length):Lit.aD (l.take (i+1))=Lit.aD (l.take i)+(l.getD i co).size:=by
 rw[bS h];have: ∀(a:List Lit) (b:Lit),Lit.aD (a++ [b])=Lit.aD a+b.size:=by
  intro a b
  induction a with
  |nil=>simp[Lit.aD]
  |cons x r ih=>simp only[Xe,Lit.aD,ih];omega
 exact this _ _
theorem vZ(p:Prog)(r:aw)(i:Int)(t:TS)(j:List Lit): ∀k,k<=j.length->(qU p r i t j k).ws.length<=t.ws.length+Lit.aD (j.take k)
 |0,_=>by simp[qU,Lit.aD]
 |k+1,h=>by
  have h1:=vZ p r i t j k (by omega);have u:=EX p r i i (qU p r i t j k) (j.getD k co);rw[qU,Lit.vf j k (by omega)];omega
theorem HR(p:Prog)(r:aw)(i:Int)(t:TS)(l:Lit):(stepT p r i t l).ws.length<=t.ws.length+l.size:=by
 have j:=l.size_eq;unfold stepT;split
 .have h1:=vZ p r i (xd r i t l.dU l.bF l.kn) l.ay l.ay.length (WY _);have u:=Ef r i t l.dU l.bF l.kn;rw[X7]at h1;omega
 .exact EX p r i (-1) t l
theorem wI(p:Prog)(r:aw): ∀k,k<=r.body.length->(eZ p r k).ws.length<=r.head.an.length+Lit.aD (r.body.take k)
 |0,_=>by
  have:=nM p r r.head (-1) (-1) r.head.an.length;show([]++_).length<=_;simp only[Xg];omega
 |k+1,h=>by
  have h1:=wI p r k (by omega);have j:=HR p r k (eZ p r k) (r.body.getD k co);rw[eZ,Lit.vf r.body k (by omega)];omega
theorem Wi(r:aw)(j:UM)(u:KM)(W:IV)(v0:cB)(ok:jd j):bf prog 226 [.ptr 0 0,ag v0.c] [.cells [.iv (cI r),.mp 1,.iv W,.mp 2],pT j,p8 u] (ag (bW j v0).c) [(0,io (.cells [.iv (cI r),.mp 1,.iv W,.mp 2])),(1,io (pT j)),(2,io (p8 u))] 3:=by
 refine ak ab func226 Z (by decide) ntmps226 Z (by simp) ?_;refine gA Z ?_
 refine iC (σ:={v:cB//bW j v=bW j v0}) (fun v=>⟨[(0,.ptr 0 0),(3,.ptr 3 0),(4,.ptr 4 0)],
  [(0,io (.cells [.iv (cI r),.mp 1,.iv W,.mp 2])),(1,io (pT j)),(2,io (p8 u)),(3,io (.cells [pS v.1.1,pI v.1.2])),(4,io (.cells [pS ⟨#[]⟩,pI 0]))],5⟩) (fun v=>FN j v.1) ⟨v0,rfl⟩ []
  (zW (zO (zC (zC ⟨⟨_,rfl,.of_eq Z⟩,WL Z,rfl,⟨_,rfl,.of_eq Z⟩,WL Z,rfl,ac⟩)))) fun v=>?_
 obtain⟨v,y⟩:=v;refine zJ Z Z (fun g=>?_) fun g=>?_
 .have h:dx (.si .i64) j v=kw:=by simpa using g
  have e:bW j v0=v:=by rw[<-y];exact rE j v h
  refine gA Z (zD [] Z (zM ⟨.of_eq (congrArg (fun x:cB=>ag x.c) e.symm),rfl,ac⟩ (zO (zC (zC ac)))))
 .have h:dx (.si .i64) j v=jp:=by simpa using g
  obtain⟨h1,A⟩:=ow j v ok h;refine gA Z ⟨⟨dW (.si .i64) j v cB.z,h1.trans y⟩,[],A,zW (zO (zC (zC ⟨⟨_,rfl,.of_eq Z⟩,WL Z,rfl,⟨_,rfl,.of_eq Z⟩,WL Z,rfl,ac⟩)))⟩
set_option maxHeartbeats 2000000 in
theorem c49(p:Prog)(r:aw)(hb:r.size<=100000000):Pure prog 187 [.iv (cT p),.iv (cI r)] (.iv (Rj r (oj p r))):=by
 unfold aw.size at hb;have Y:=Lit.aJ r.body;have g0:r.body.length<=Lit.aD r.body:=Y;refine ah ab func187 Z (by decide) ntmps187 Z (by simp) Z ?_;refine gM 14 Z (kM 2 2 5 Z Z ?_);refine cG [] (t:=⟨[(0,.iv (cT p)),(1,.iv (cI r)),(5,.ptr 2 0)],[(2,io (TS.cell r 0 3 TS.o.ws.length 1)),(0,io (pT TS.o.up)),(3,io (aX 5 TS.o.ws Want.c)),(1,io (p8 TS.o.kind))],4⟩)
  (zW ⟨⟨_,rfl,.of_eq Z⟩,WL Z,rfl,⟨_,rfl,Ni⟩,WL Z,ac,⟨_,rfl,.of_eq Z⟩,WL Z,eJ _,⟨_,rfl,Nj⟩,WL Z,ac,ac⟩) ?_
 refine gA Z (Cb (d90 p r TS.o r.head (-1) (-1) (by show 0+_<=_;omega)) Z Z Z Z Z Z Z (by first|rfl|(rw[WO];rfl)|simp) (by first|rfl|(rw[W4];rfl)|(simp only[W4,W6];rfl)) Z Z Z Z Z Z ?_);refine gA Z ?_
 refine aM 0 r.body.length (W2 _) (fun i=>⟨[(0,.iv (cT p)),(1,.iv (cI r)),(5,.ptr 2 0),(31,.iv (lits r.body)),(32,pI r.body.length),(33,pI i)],
  [(2,io (TS.cell r 0 5 (eZ p r i).ws.length 1)),(0,io (pT (eZ p r i).up)),(5,io (aX 5 (eZ p r i).ws Want.c)),(1,io (p8 (eZ p r i).kind))],6⟩) (fun _=>True) _ ac
  (OF (t:=eZ p r 0) Z Z Z Z Z Z Z Z Z Z Z (bi (bi (bi (bi (bi (bi trivial))))))) fun i hi _=>?_
 have d0:=wI p r i hi;have hok:=An p r i;refine zJ Z Z (fun h1=>?_) fun h1=>?_
 .have h1:i<r.body.length:=by simpa using h1
  have j0:=jx r.body i h1;have hs:eZ p r (i+1)=stepT p r i (eZ p r i) (r.body.getD i co):=rfl;generalize eZ p r i=t1 at*
  have k0:=(r.body.getD i co).size_eq;refine zJ Z Z (fun A=>?_) fun A=>?_
  .have A: ¬(r.body.getD i co).kind=4:=by have g:(!lc ((r.body.getD i co).kind=4))=jp:=A;simpa only[X0,decide_eq_false_iff_not]using g
   have hS:stepT p r i t1 (r.body.getD i co)=pM p r i (-1) t1 (r.body.getD i co):=be A;rw[hS]at hs;refine gA Z (Fb (d91 p r t1 (r.body.getD i co) i (-1) hok (by omega)) ?_);refine gA Z ⟨h1,ac,_,qn (hs.symm)⟩
  have A:(r.body.getD i co).kind=4:=by have g:(!lc ((r.body.getD i co).kind=4))=kw:=A;simpa only[YF,decide_eq_true_eq]using g
  have hS:stepT p r i t1 (r.body.getD i co)=qU p r i (xd r i t1 (r.body.getD i co).dU (r.body.getD i co).bF (r.body.getD i co).kn) (r.body.getD i co).ay (r.body.getD i co).ay.length:=am A;rw[hS]at hs;have I:xd r i t1 (r.body.getD i co).dU (r.body.getD i co).bF (r.body.getD i co).kn=if(r.body.getD i co).dU=2 then(t1.add (gJ r i i (r.body.getD i co).kn)).add (gJ r i i (pJ (r.body.getD i co).bF)) else if(r.body.getD i co).dU=1 then t1.add (gJ r i i (pJ (r.body.getD i co).bF)) else jo r i i t1 (pJ (r.body.getD i co).bF) (r.body.getD i co).kn:=rfl;have y:=Hu r i hok (r.body.getD i co).dU (r.body.getD i co).bF (r.body.getD i co).kn;have f0:=Ef r i t1 (r.body.getD i co).dU (r.body.getD i co).bF (r.body.getD i co).kn;have a0:=Lit.aJ (r.body.getD i co).ay;have m0:=l0 (r.body.getD i co).bF;have i0:=iT r i i (r.body.getD i co).kn;generalize xd r i t1 (r.body.getD i co).dU (r.body.getD i co).bF (r.body.getD i co).kn=V at*
  refine zJ Z Z (fun f2=>?_) fun f2=>?_
  .have f2:(r.body.getD i co).dU=2:=zT f2;have G:V=(t1.add (gJ r i i (r.body.getD i co).kn)).add (gJ r i i (pJ (r.body.getD i co).bF)):=by rw[I,am f2]
   refine gA Z (Fb (J5 r t1 (r.body.getD i co).kn i i (by omega)) ?_);refine gA Z (Cb (bf.le (aa:=[.ptr 0 0,KS (r.body.getD i co).bF,pI i,pI i]) (J5 r (t1.add (gJ r i i (r.body.getD i co).kn)) (pJ (r.body.getD i co).bF) i i (by show(t1.ws++_).length+_<=_;rw[WO,l0];omega)) ⟨.refl _,y1 _,.refl _,.refl _,ac⟩) Z Z Z Z Z Z Z (by first|rfl|(rw[WO];rfl)|simp) (by first|rfl|(rw[W4];rfl)|(simp only[W4,W6];rfl)) Z Z Z Z Z Z ?_);refine gA Z ?_;refine aM 0 (r.body.getD i co).ay.length (W2 _) (fun k=>⟨[(0,.iv (cT p)),(1,.iv (cI r)),(5,.ptr 2 0),(6,pI i),(31,.iv (lits r.body)),(32,pI r.body.length),(33,pI i),(79,.iv (lits (r.body.getD i co).ay)),(80,pI (r.body.getD i co).ay.length),(81,pI k)],[(2,io (TS.cell r 0 10 (qU p r i V (r.body.getD i co).ay k).ws.length 1)),(0,io (pT (qU p r i V (r.body.getD i co).ay k).up)),(10,io (aX 5 (qU p r i V (r.body.getD i co).ay k).ws Want.c)),(1,io (p8 (qU p r i V (r.body.getD i co).ay k).kind))],11⟩) (fun _=>True) _ ac
    (OF G.symm Z Z Z Z Z Z Z Z Z Z (bi (bi (bi (bi (bi (bi (bi ⟨.iv (nn _),rfl,bi (bi trivial)⟩)))))))) fun k hk _=>?_
   have B:=vZ p r i V (r.body.getD i co).ay k hk;have u:=B8 p r i y (r.body.getD i co).ay k;have C:qU p r i V (r.body.getD i co).ay (k+1)=pM p r i i (qU p r i V (r.body.getD i co).ay k) ((r.body.getD i co).ay.getD k co):=rfl;refine zJ Z Z (fun j=>?_) fun j=>?_
   .have j:k<(r.body.getD i co).ay.length:=zN j;have D:=jx (r.body.getD i co).ay k j;refine gA Z (Fb (d91 p r (qU p r i V (r.body.getD i co).ay k) ((r.body.getD i co).ay.getD k co) i i u (by omega)) ?_);refine gA Z ⟨j,ac,_,qn (rfl)⟩
   .have j:(r.body.getD i co).ay.length<=k:=zG j;have x:k=(r.body.getD i co).ay.length:=by omega
    subst x;refine gA Z ⟨h1,ac,_,qn (hs.symm)⟩
  have f2: ¬(r.body.getD i co).dU=2:=zF f2;rw[be f2]at I;refine zJ Z Z (fun f1=>?_) fun f1=>?_
  .have f1:(r.body.getD i co).dU=1:=zT f1;have G:V=t1.add (gJ r i i (pJ (r.body.getD i co).bF)):=by rw[I,am f1]
   refine gA Z (Fb (bf.le (aa:=[.ptr 0 0,KS (r.body.getD i co).bF,pI i,pI i]) (J5 r t1 (pJ (r.body.getD i co).bF) i i (by rw[l0];omega)) ⟨.refl _,y1 _,.refl _,.refl _,ac⟩) ?_);refine gA Z ?_;refine aM 0 (r.body.getD i co).ay.length (W2 _) (fun k=>⟨[(0,.iv (cT p)),(1,.iv (cI r)),(5,.ptr 2 0),(6,pI i),(31,.iv (lits r.body)),(32,pI r.body.length),(33,pI i),(79,.iv (lits (r.body.getD i co).ay)),(80,pI (r.body.getD i co).ay.length),(81,pI k)],[(2,io (TS.cell r 0 9 (qU p r i V (r.body.getD i co).ay k).ws.length 1)),(0,io (pT (qU p r i V (r.body.getD i co).ay k).up)),(9,io (aX 5 (qU p r i V (r.body.getD i co).ay k).ws Want.c)),(1,io (p8 (qU p r i V (r.body.getD i co).ay k).kind))],10⟩) (fun _=>True) _ ac
    (OF G.symm Z Z Z Z Z Z Z Z Z Z (bi (bi (bi (bi (bi (bi (bi ⟨.iv (nn _),rfl,bi (bi trivial)⟩)))))))) fun k hk _=>?_
   have B:=vZ p r i V (r.body.getD i co).ay k hk;have u:=B8 p r i y (r.body.getD i co).ay k;have C:qU p r i V (r.body.getD i co).ay (k+1)=pM p r i i (qU p r i V (r.body.getD i co).ay k) ((r.body.getD i co).ay.getD k co):=rfl;refine zJ Z Z (fun j=>?_) fun j=>?_
   .have j:k<(r.body.getD i co).ay.length:=zN j;have D:=jx (r.body.getD i co).ay k j;refine gA Z (Fb (d91 p r (qU p r i V (r.body.getD i co).ay k) ((r.body.getD i co).ay.getD k co) i i u (by omega)) ?_);refine gA Z ⟨j,ac,_,qn (rfl)⟩
   .have j:(r.body.getD i co).ay.length<=k:=zG j;have x:k=(r.body.getD i co).ay.length:=by omega
    subst x;refine gA Z ⟨h1,ac,_,qn (hs.symm)⟩
  .have f1: ¬(r.body.getD i co).dU=1:=zF f1;have G:V=jo r i i t1 (pJ (r.body.getD i co).bF) (r.body.getD i co).kn:=by rw[I,be f1]
   refine gA Z (Fb (bf.le (aa:=[.ptr 0 0,KS (r.body.getD i co).bF,ag (r.body.getD i co).kn.c,pI i,pI i]) (d93 r t1 (pJ (r.body.getD i co).bF) (r.body.getD i co).kn i i hok (by rw[l0];omega)) ⟨.refl _,y1 _,.refl _,.refl _,.refl _,ac⟩) ?_);refine gA Z ?_;refine aM 0 (r.body.getD i co).ay.length (W2 _) (fun k=>⟨[(0,.iv (cT p)),(1,.iv (cI r)),(5,.ptr 2 0),(6,pI i),(31,.iv (lits r.body)),(32,pI r.body.length),(33,pI i),(79,.iv (lits (r.body.getD i co).ay)),(80,pI (r.body.getD i co).ay.length),(81,pI k)],[(2,io (TS.cell r 0 9 (qU p r i V (r.body.getD i co).ay k).ws.length 1)),(0,io (pT (qU p r i V (r.body.getD i co).ay k).up)),(9,io (aX 5 (qU p r i V (r.body.getD i co).ay k).ws Want.c)),(1,io (p8 (qU p r i V (r.body.getD i co).ay k).kind))],10⟩) (fun _=>True) _ ac
    (OF G.symm Z Z Z Z Z Z Z Z Z Z (bi (bi (bi (bi (bi (bi (bi ⟨.iv (nn _),rfl,bi (bi trivial)⟩)))))))) fun k hk _=>?_
   have B:=vZ p r i V (r.body.getD i co).ay k hk;have u:=B8 p r i y (r.body.getD i co).ay k;have C:qU p r i V (r.body.getD i co).ay (k+1)=pM p r i i (qU p r i V (r.body.getD i co).ay k) ((r.body.getD i co).ay.getD k co):=rfl;refine zJ Z Z (fun j=>?_) fun j=>?_
   .have j:k<(r.body.getD i co).ay.length:=zN j;have D:=jx (r.body.getD i co).ay k j;refine gA Z (Fb (d91 p r (qU p r i V (r.body.getD i co).ay k) ((r.body.getD i co).ay.getD k co) i i u (by omega)) ?_);refine gA Z ⟨j,ac,_,qn (rfl)⟩
   .have j:(r.body.getD i co).ay.length<=k:=zG j;have x:k=(r.body.getD i co).ay.length:=by omega
    subst x;refine gA Z ⟨h1,ac,_,qn (hs.symm)⟩
 .have h1:r.body.length<=i:=by simpa using h1
  have b0:i=r.body.length:=by omega
  subst b0;have hT:oj p r=⟨(eZ p r r.body.length).up,(eZ p r r.body.length).ws,(eZ p r r.body.length).ws.foldl (cO (eZ p r r.body.length).up) []⟩:=rfl;rw[hT];rw[X7]at d0;have c0:(eZ p r r.body.length).kind=[]:=yO p r _;generalize eZ p r r.body.length=t1 at*
  have J:t1.kind=(t1.ws.take 0).foldl (cO t1.up) []:=c0;refine gA Z ?_;refine km 5 (fun k=>Want.c (t1.ws.getD k co)) Z (cU Z) (by simp[AF.mg,PV.bb,mN]) ⟨(by simp[AO.mg,a8,PV.bb]),ac,fQ _ _ _ _ _ _,ac,ac⟩ ?_
  refine aM 0 t1.ws.length (W2 _) (fun i=>⟨[(5,.ptr 2 0),(96,.iv (aW 5 t1.ws Want.c)),(97,pI t1.ws.length),(98,pI i)],
   [(2,io (.cells [.iv (cI r),.mp 0,.iv (aW 5 t1.ws Want.c),.mp 1])),(0,io (pT t1.up)),(1,io (p8 ((t1.ws.take i).foldl (cO t1.up) [])))],6⟩) (fun _=>True) [] ac
   (zM (bi ⟨.bL Z (fun k _=>by rw[Xd]),rfl,bi (bi trivial)⟩) ⟨⟨_,rfl,.cells ⟨.refl _,.refl _,.bL Z (fun k _=>by rw[Xd]),.refl _,ac⟩⟩,WL Z,rfl,zC (hM Z J Z trivial)⟩) fun i hi _=>?_
  refine zJ Z Z (fun j=>?_) fun j=>?_
  .have j:i<t1.ws.length:=zN j;have hf:=iD (g:=cO t1.up) (b:=[]) j;refine gA Z (zq [2,0,1] (Wi r t1.up ((t1.ws.take i).foldl (cO t1.up) []) (aW 5 t1.ws Want.c) (t1.ws.getD i co).at_ hok) ?_);refine zJ Z Z (fun g1=>?_) fun g1=>?_
   .have g1:(t1.ws.getD i co).has=0:=zT g1;refine zJ Z Z (fun g2=>?_) fun g2=>?_
    .have g2:dW (.si .i64) ((t1.ws.take i).foldl (cO t1.up) []) (bW t1.up (t1.ws.getD i co).at_) 0=0:=zT g2;have hk:cO t1.up ((t1.ws.take i).foldl (cO t1.up) []) (t1.ws.getD i co)=cP (.si .i64) ((t1.ws.take i).foldl (cO t1.up) []) (bW t1.up (t1.ws.getD i co).at_) (t1.ws.getD i co).kind:=am ⟨g1,g2⟩;rw[hk]at hf;refine gA Z ⟨j,ac,[],zW (zO (zC (hM Z (by first|exact hf.symm|(rw[hf];rfl)) Z ac)))⟩
    .have g2: ¬dW (.si .i64) ((t1.ws.take i).foldl (cO t1.up) []) (bW t1.up (t1.ws.getD i co).at_) 0=0:=zF g2;have hk:cO t1.up ((t1.ws.take i).foldl (cO t1.up) []) (t1.ws.getD i co)=(t1.ws.take i).foldl (cO t1.up) []:=be fun h=>g2 h.2;rw[hk]at hf;refine gA Z ⟨j,ac,[],zW (zO (zC (hM Z (by first|exact hf.symm|(rw[hf];rfl)) Z ac)))⟩
   .have g1: ¬(t1.ws.getD i co).has=0:=zF g1;have hk:cO t1.up ((t1.ws.take i).foldl (cO t1.up) []) (t1.ws.getD i co)=(t1.ws.take i).foldl (cO t1.up) []:=be fun h=>g1 h.1;rw[hk]at hf;refine gA Z ⟨j,ac,[],zW (zO (zC (hM Z (by first|exact hf.symm|(rw[hf];rfl)) Z ac)))⟩
  .have j:t1.ws.length<=i:=zG j;have e0:t1.ws.take i=t1.ws:=W9 j;refine gf Z ac (gz (.inr Z) Z (.map 0 Z (.map 1 Z (.cells 2 _ Z (show _=List.map PV.iv [cI r,upI t1.up,aW 5 t1.ws Want.c,kdI (t1.ws.foldl (cO t1.up) [])] by rw[e0];rfl) (.done (.of_eq Z))))))
def uU(a:Atom):Bool:=(iH WS.o a).bad
def s7(l:Lit):Bool:=(dB l.size l WS.o).bad
def u0(l:Lit):Bool:=lc (l.kind=4)&&lc ((l.ay.length:Int)>12)
def jg(n:Nat):List Int:=(Xq (n+1)).map fun k:Nat=>(k:Int)-1
theorem s6(n:Nat):(jg n).length=n+1:=by simp[jg]
theorem yj(n k:Nat)(h:k<n+1):(jg n).getD k co=(k:Int)-1:=by simp[jg,h]
def DU(f:Int->Bool)(n:Nat):Option Int:=(jg n).find? f
abbrev gF:=Int×Pos
def gF.c(d:gF):List IV:=[iI d.1,iI d.2.line,iI d.2.KO]
def oG(r:aw)(e:Int)(f:Int->Bool)(k:gF):gF:=match DU f r.body.length with
 |some lit=>(e,sW r lit)
 |none=>k
def zR(p:Prog)(r:aw):gF:=
 oG r 61 (fun lit=>(fG r lit).any fun x=>wZ p x)<|oG r 62 (fun lit=>(fG r lit).any fun x=>Ar p x)<|oG r 65 (mT r)<|oG r 63 (sD (oj p r))<|oG r 64 (lR r) (0,⟨0,0⟩)
def xQ(p:Prog)(r:aw)(n:Int):gF:=
 if uU r.head=jp then(1,r.at_) else match r.body.find? s7 with
 |some l=>(1,l.at)
 |none=>if n>256∨(r.body.length:Int)>12 then(66,r.at_) else if(HW r:Int)>24 then(66,r.at_) else match r.body.find? u0 with
  |some l=>(66,l.at)
  |none=>zR p r
def aw.fit(r:aw):Prop:=r.size<=10000000∧r.head.ts<=900000000∧ ∀l∈r.body,l.ts<=900000000
theorem mD{α:Type}{p:α->Bool}{l:List α}(h:l.any p=kw):l.find? p=is:=by
 rw[YX];intro x j;have:=XL.1 h x j;simpa using this
theorem oN{α:Type}[Inhabited α]{p:α->Bool}{l:List α}{i:Nat}(h:(l.take i).any p=kw)(hi:i<l.length)(hp:p (l.getD i co)=jp):l.find? p=io (l.getD i co):=by
 have u:l.getD i co=l[i]:=by simp[hi]
 rw[u]at hp ⊢;rw[List.find?_eq_some_iff_getElem];refine⟨hp,i,hi,rfl,fun j x=>?_⟩;have:=XL.1 h l[j] (List.mem_iff_getElem?.2 ⟨j,by rw[Xy,am x,WU (by omega)]⟩);simpa using this
def jF(p:Prog)(r:aw):List (List PV):=[[pI 61,.cv (.func 179) [] [.ptr 1 0,.ptr 0 0]],[pI 62,.cv (.func 183) [] [.ptr 1 0,.ptr 0 0]],[pI 65,.cv (.func 185) [] [.ptr 1 0]],[pI 63,.cv (.func 188) [.iv (Rj r (oj p r))] []],[pI 64,.cv (.func 189) [.iv (cI r)] []]]
theorem cF(p:Prog)(r:aw)(n:Nat)(h:Xm 1 n=jp):(AO.row 2 (jF p r)).low n:=by
 have j:Xm 0 n=jp:=XN (by have:=WL h;omega);intro k e hk
 match k,hk with
 |0,hk=>cases hk;simp[bq,PV.low,h,j]
 |1,hk=>cases hk;simp[bq,PV.low,h,j]
 |2,hk=>cases hk;simp[bq,PV.low,h,j]
 |3,hk=>cases hk;simp[bq,PV.low,h,j]
 |4,hk=>cases hk;simp[bq,PV.low,h,j]
 |k+5,hk=>simp[jF]at hk
theorem oF{r:aw}{e:Int}{f:Int->Bool}{k:gF}{i:Nat}(j:((jg r.body.length).take i).any f=kw)(hi:i<r.body.length+1)(h:f ((i:Int)-1)=jp):oG r e f k=(e,sW r ((i:Int)-1)):=by
 have h1:=yj r.body.length i hi;have:=oN j (by rw[s6];exact hi) (by rw[h1];exact h);rw[h1]at this;rw[oG,DU,this]
theorem mr{r:aw}{e:Int}{f:Int->Bool}{k:gF}{i:Nat}(j:((jg r.body.length).take i).any f=kw)(hi:r.body.length+1<=i):oG r e f k=k:=by
 rw[W9 (by rw[s6];exact hi)]at j;rw[oG,DU,mD j]
theorem mq{r:aw}{f:Int->Bool}{i:Nat}(j:((jg r.body.length).take i).any f=kw)(hi:i<r.body.length+1)(h:f ((i:Int)-1)=kw):((jg r.body.length).take (i+1)).any f=kw:=by
 refine(c5 j (by rw[s6];exact hi)).2 ?_;rw[yj _ _ hi];exact h
set_option maxHeartbeats 4000000 in
theorem c65(p:Prog)(r:aw)(n:Int)(hb:r.fit):Pure prog 128 [.iv (cT p),ag r.c,pI n] (ag (xQ p r n).c):=by
 obtain⟨hb,I,J⟩:=hb;have c0:r.size=r.head.an.length+Lit.aD r.body:=rfl;have a0:=Lit.aJ r.body;refine ah ab func128 Z (by decide) ntmps128 Z (by simp) Z ?_;refine gA Z (zp (c61 r.head I) ?_);refine zJ Z Z (fun g1=>?_) fun g1=>?_
 .have g1:uU r.head=jp:=by
   cases h:uU r.head with
   |true=>rfl
   |false=>
    have h:(iH WS.o r.head).bad=kw:=h;rw[h]at g1;simp at g1
  rw[xQ,am g1];exact zU Z
 have g1: ¬uU r.head=jp:=by
  intro h;have h:(iH WS.o r.head).bad=jp:=h;rw[h]at g1;simp at g1
 rw[xQ,be g1];refine gA Z ?_;refine aM 0 r.body.length (W2 _) (fun i=>⟨[(2,pI n),(3,.ptr 0 0),(4,.ptr 1 0),(6,.ptr 2 0),(32,.iv (lits r.body)),(33,pI r.body.length),(34,pI i)],[(0,io (.cells [.iv (cT p)])),(1,io (aG r.c)),(2,io (.cells [pI 0,pI 0,pI 0]))],3⟩) (fun i=>(r.body.take i).any s7=kw) [] (by simp)
  (zW ⟨⟨_,rfl,.of_eq Z⟩,WL Z,rfl,⟨_,rfl,.of_eq Z⟩,WL Z,rfl,⟨_,rfl,.of_eq Z⟩,WL Z,rfl,ac⟩) fun i hi y=>?_
 refine zJ Z Z (fun h1=>?_) fun h1=>?_
 .have h1:i<r.body.length:=zN h1;have G:=c5 y h1;have hm:r.body.getD i co∈r.body:=by rw[WQ,WU h1];exact XF h1
  have b0:=Lit.bT r.body i h1;refine gA Z (aE (WC (r.body.getD i co) (J _ hm) (by omega)) Z Z Z Z Z Z ?_);refine zJ Z Z (fun B=>?_) fun B=>?_
  .have B:s7 (r.body.getD i co)=jp:=by
    cases h:s7 (r.body.getD i co) with
    |true=>rfl
    |false=>
     have h:(dB (r.body.getD i co).size (r.body.getD i co) WS.o).bad=kw:=h;have g:(!lc ((if(dB (r.body.getD i co).size (r.body.getD i co) WS.o).bad=jp then(50:Int) else 0)=0))=jp:=B;rw[h]at g;simp at g
   rw[oN y h1 B];exact zU Z
  .have B:s7 (r.body.getD i co)=kw:=by
    cases h:s7 (r.body.getD i co) with
    |false=>rfl
    |true=>
     have h:(dB (r.body.getD i co).size (r.body.getD i co) WS.o).bad=jp:=h;have g:(!lc ((if(dB (r.body.getD i co).size (r.body.getD i co) WS.o).bad=jp then(50:Int) else 0)=0))=kw:=B;rw[h]at g;simp at g
   refine gA Z ⟨h1,G.2 B,[],zW ⟨⟨_,rfl,.of_eq Z⟩,WL Z,rfl,⟨_,rfl,.of_eq Z⟩,WL Z,rfl,⟨_,rfl,.of_eq Z⟩,WL Z,rfl,ac⟩⟩
 have h1:r.body.length<=i:=zG h1;rw[W9 h1]at y;rw[mD y];refine zE Z Z (fun g2=>?_) fun g2=>?_
 .have g2:n>256:=by simpa using g2
  rw[am (.inl g2)];exact zU Z
 have g2: ¬n>256:=zF g2;refine zJ Z Z (fun g3=>?_) fun g3=>?_
 .rw[am (.inr (zT g3))];exact zU Z
 have g3: ¬(r.body.length:Int)>12:=zF g3;rw[be (by rintro(h|h);exact g2 h;exact g3 h)];refine gA Z (zp (c48 r (by omega)) ?_);refine gA Z (zp (WB r (by omega)) ?_);refine zJ Z Z (fun g4=>?_) fun g4=>?_
 .rw[am (zT g4)];exact zU Z
 have g4: ¬(HW r:Int)>24:=zF g4;rw[be g4];refine gA Z ?_;refine aM 0 r.body.length (W2 _) (fun i=>⟨[(3,.ptr 0 0),(4,.ptr 1 0),(6,.ptr 2 0),(13,.iv (cI r)),(69,.iv (lits r.body)),(70,pI r.body.length),(71,pI i)],[(0,io (.cells [.iv (cT p)])),(1,io (aG r.c)),(2,io (.cells [pI 0,pI 0,pI 0]))],3⟩) (fun i=>(r.body.take i).any u0=kw) [] (by simp)
  (zW ⟨⟨_,rfl,.of_eq Z⟩,WL Z,rfl,⟨_,rfl,.of_eq Z⟩,WL Z,rfl,⟨_,rfl,.of_eq Z⟩,WL Z,rfl,ac⟩) fun i hi y=>?_
 refine zJ Z Z (fun B=>?_) fun B=>?_
 .have B:i<r.body.length:=zN B;have G:=c5 y B;refine zJ Z Z (fun C=>?_) fun C=>?_
  .have C:(r.body.getD i co).kind=4:=zT C;refine zJ Z Z (fun D=>?_) fun D=>?_
   .have D:u0 (r.body.getD i co)=jp:=by rw[u0,decide_eq_true C];exact D
    rw[oN y B D];exact zU Z
   .have D:u0 (r.body.getD i co)=kw:=by rw[u0,decide_eq_true C];exact D
    refine gA Z ⟨B,G.2 D,[],zW ⟨⟨_,rfl,.of_eq Z⟩,WL Z,rfl,⟨_,rfl,.of_eq Z⟩,WL Z,rfl,⟨_,rfl,.of_eq Z⟩,WL Z,rfl,ac⟩⟩
  .have C: ¬(r.body.getD i co).kind=4:=zF (by have g:lc ((r.body.getD i co).kind=4)=kw:=C;exact g);refine gA Z ⟨B,G.2 (by rw[u0,decide_eq_false C];rfl),[],zW ⟨⟨_,rfl,.of_eq Z⟩,WL Z,rfl,⟨_,rfl,.of_eq Z⟩,WL Z,rfl,⟨_,rfl,.of_eq Z⟩,WL Z,rfl,ac⟩⟩
 have B:r.body.length<=i:=zG B;rw[W9 B]at y;rw[mD y];refine gA Z (zp (c49 p r (by omega)) ?_);refine gA Z ?_;refine cG [] (t:=⟨[(3,.ptr 0 0),(4,.ptr 1 0),(6,.ptr 2 0),(104,.sl 3 0 5 2),(105,pI 5),(106,pI 0)],[(0,io (.cells [.iv (cT p)])),(1,io (aG r.c)),(2,io (.cells [pI 0,pI 0,pI 0])),(3,io (.row 2 (jF p r)))],4⟩)
  (zW (zO (zO (zO ⟨⟨_,rfl,.of_eq Z⟩,WL Z,cF p r _ Z,ac⟩)))) ?_
 have Y:(oj p r).ws.length<=1000000000000:=by have:=wI p r r.body.length (WY _);rw[X7]at this;show(eZ p r r.body.length).ws.length<=_;omega
 rw[zR];refine nC (n:=6) ?_;refine zE Z Z (fun q=>?_) fun q=>?_
 .exact absurd (show jp=kw from q) (by decide)
 refine gA Z ?_;refine aM 0 (r.body.length+1) (W2 _) (fun k=>⟨[(3,.ptr 0 0),(4,.ptr 1 0),(6,.ptr 2 0),(18,.ptr 4 0),(19,pI ((k:Int)-1)),(104,.sl 3 0 5 2),(105,pI 5),(106,pI 0)],[(0,io (.cells [.iv (cT p)])),(1,io (aG r.c)),(2,io (.cells [pI 0,pI 0,pI 0])),(3,io (.row 2 (jF p r))),(4,io (.cells [pI 61,.cv (.func 179) [] [.ptr 1 0,.ptr 0 0]]))],5⟩) (fun k=>((jg r.body.length).take k).any (fun lit=>(fG r lit).any fun x=>wZ p x)=kw) [] Z
  (zW (zO (zO (zO ⟨⟨_,rfl,.of_eq Z⟩,WL Z,cF p r _ Z,(zO trivial)⟩)))) fun k hk y=>?_
 refine zJ Z Z (fun u=>?_) fun u=>?_
 .have u:(k:Int)-1<r.body.length:=zT u;have j:k<r.body.length+1:=by omega
  refine gA Z (zq [1,0] (d110 p r ((k:Int)-1) (by omega) (by omega)) ?_);refine zJ Z Z (fun A=>?_) fun A=>?_
  .rw[oF y j A];refine gA Z (D8 (Ko r ((k:Int)-1) u) ?_);exact zU Z
  .refine gA Z ?_;exact⟨j,mq y j A,[],zM (bi (bi (bi (bi ⟨.of_eq (Hl (by omega)),rfl,bi (bi (bi ac))⟩)))) (zO (zO (zO ⟨⟨_,rfl,.of_eq Z⟩,WL Z,cF p r _ Z,(zO ac)⟩)))⟩
 have u: ¬(k:Int)-1<r.body.length:=zF u;rw[mr y (by omega)];clear y hk u;refine zE Z Z (fun q=>?_) fun q=>?_
 .exact absurd (show jp=kw from q) (by decide)
 refine gA Z ?_;refine aM 0 (r.body.length+1) (W2 _) (fun k=>⟨[(3,.ptr 0 0),(4,.ptr 1 0),(6,.ptr 2 0),(18,.ptr 5 0),(19,pI ((k:Int)-1)),(104,.sl 3 0 5 2),(105,pI 5),(106,pI 1)],[(0,io (.cells [.iv (cT p)])),(1,io (aG r.c)),(2,io (.cells [pI 0,pI 0,pI 0])),(3,io (.row 2 (jF p r))),(5,io (.cells [pI 62,.cv (.func 183) [] [.ptr 1 0,.ptr 0 0]]))],6⟩) (fun k=>((jg r.body.length).take k).any (fun lit=>(fG r lit).any fun x=>Ar p x)=kw) [] Z
  (zW (zO (zO (zO ⟨⟨_,rfl,.of_eq Z⟩,WL Z,cF p r _ Z,(zO trivial)⟩)))) fun k hk y=>?_
 refine zJ Z Z (fun u=>?_) fun u=>?_
 .have u:(k:Int)-1<r.body.length:=zT u;have j:k<r.body.length+1:=by omega
  refine gA Z (zq [1,0] (d114 p r ((k:Int)-1) (by omega) (by omega)) ?_);refine zJ Z Z (fun A=>?_) fun A=>?_
  .rw[oF y j A];refine gA Z (D8 (Ko r ((k:Int)-1) u) ?_);exact zU Z
  .refine gA Z ?_;exact⟨j,mq y j A,[],zM (bi (bi (bi (bi ⟨.of_eq (Hl (by omega)),rfl,bi (bi (bi ac))⟩)))) (zO (zO (zO ⟨⟨_,rfl,.of_eq Z⟩,WL Z,cF p r _ Z,(zO ac)⟩)))⟩
 have u: ¬(k:Int)-1<r.body.length:=zF u;rw[mr y (by omega)];clear y hk u;refine zE Z Z (fun q=>?_) fun q=>?_
 .exact absurd (show jp=kw from q) (by decide)
 refine gA Z ?_;refine aM 0 (r.body.length+1) (W2 _) (fun k=>⟨[(3,.ptr 0 0),(4,.ptr 1 0),(6,.ptr 2 0),(18,.ptr 6 0),(19,pI ((k:Int)-1)),(104,.sl 3 0 5 2),(105,pI 5),(106,pI 2)],[(0,io (.cells [.iv (cT p)])),(1,io (aG r.c)),(2,io (.cells [pI 0,pI 0,pI 0])),(3,io (.row 2 (jF p r))),(6,io (.cells [pI 65,.cv (.func 185) [] [.ptr 1 0]]))],7⟩) (fun k=>((jg r.body.length).take k).any (mT r)=kw) [] Z
  (zW (zO (zO (zO ⟨⟨_,rfl,.of_eq Z⟩,WL Z,cF p r _ Z,(zO trivial)⟩)))) fun k hk y=>?_
 refine zJ Z Z (fun u=>?_) fun u=>?_
 .have u:(k:Int)-1<r.body.length:=zT u;have j:k<r.body.length+1:=by omega
  refine gA Z (zq [1] (d116 r ((k:Int)-1) (by omega) (by omega)) ?_);refine zJ Z Z (fun A=>?_) fun A=>?_
  .rw[oF y j A];refine gA Z (D8 (Ko r ((k:Int)-1) u) ?_);exact zU Z
  .refine gA Z ?_;exact⟨j,mq y j A,[],zM (bi (bi (bi (bi ⟨.of_eq (Hl (by omega)),rfl,bi (bi (bi ac))⟩)))) (zO (zO (zO ⟨⟨_,rfl,.of_eq Z⟩,WL Z,cF p r _ Z,(zO ac)⟩)))⟩
 have u: ¬(k:Int)-1<r.body.length:=zF u;rw[mr y (by omega)];clear y hk u;refine zE Z Z (fun q=>?_) fun q=>?_
 .exact absurd (show jp=kw from q) (by decide)
 refine gA Z ?_;refine aM 0 (r.body.length+1) (W2 _) (fun k=>⟨[(3,.ptr 0 0),(4,.ptr 1 0),(6,.ptr 2 0),(18,.ptr 7 0),(19,pI ((k:Int)-1)),(104,.sl 3 0 5 2),(105,pI 5),(106,pI 3)],[(0,io (.cells [.iv (cT p)])),(1,io (aG r.c)),(2,io (.cells [pI 0,pI 0,pI 0])),(3,io (.row 2 (jF p r))),(7,io (.cells [pI 63,.cv (.func 188) [.iv (Rj r (oj p r))] []]))],8⟩) (fun k=>((jg r.body.length).take k).any (sD (oj p r))=kw) [] Z
  (zW (zO (zO (zO ⟨⟨_,rfl,.of_eq Z⟩,WL Z,cF p r _ Z,(zO trivial)⟩)))) fun k hk y=>?_
 refine zJ Z Z (fun u=>?_) fun u=>?_
 .have u:(k:Int)-1<r.body.length:=zT u;have j:k<r.body.length+1:=by omega
  refine gA Z (aE (Wz r (oj p r) ((k:Int)-1) (An p r _) Y) Z Z Z Z Z Z ?_);refine zJ Z Z (fun A=>?_) fun A=>?_
  .rw[oF y j A];refine gA Z (D8 (Ko r ((k:Int)-1) u) ?_);exact zU Z
  .refine gA Z ?_;exact⟨j,mq y j A,[],zM (bi (bi (bi (bi ⟨.of_eq (Hl (by omega)),rfl,bi (bi (bi ac))⟩)))) (zO (zO (zO ⟨⟨_,rfl,.of_eq Z⟩,WL Z,cF p r _ Z,(zO ac)⟩)))⟩
 have u: ¬(k:Int)-1<r.body.length:=zF u;rw[mr y (by omega)];clear y hk u;refine zE Z Z (fun q=>?_) fun q=>?_
 .exact absurd (show jp=kw from q) (by decide)
 refine gA Z ?_;refine aM 0 (r.body.length+1) (W2 _) (fun k=>⟨[(3,.ptr 0 0),(4,.ptr 1 0),(6,.ptr 2 0),(18,.ptr 8 0),(19,pI ((k:Int)-1)),(104,.sl 3 0 5 2),(105,pI 5),(106,pI 4)],[(0,io (.cells [.iv (cT p)])),(1,io (aG r.c)),(2,io (.cells [pI 0,pI 0,pI 0])),(3,io (.row 2 (jF p r))),(8,io (.cells [pI 64,.cv (.func 189) [.iv (cI r)] []]))],9⟩) (fun k=>((jg r.body.length).take k).any (lR r)=kw) [] Z
  (zW (zO (zO (zO ⟨⟨_,rfl,.of_eq Z⟩,WL Z,cF p r _ Z,(zO trivial)⟩)))) fun k hk y=>?_
 refine zJ Z Z (fun u=>?_) fun u=>?_
 .have u:(k:Int)-1<r.body.length:=zT u;have j:k<r.body.length+1:=by omega
  refine gA Z (zp (Wy r ((k:Int)-1) (by omega) (by omega)) ?_);refine zJ Z Z (fun A=>?_) fun A=>?_
  .rw[oF y j A];refine gA Z (D8 (Ko r ((k:Int)-1) u) ?_);exact zU Z
  .refine gA Z ?_;exact⟨j,mq y j A,[],zM (bi (bi (bi (bi ⟨.of_eq (Hl (by omega)),rfl,bi (bi (bi ac))⟩)))) (zO (zO (zO ⟨⟨_,rfl,.of_eq Z⟩,WL Z,cF p r _ Z,(zO ac)⟩)))⟩
 have u: ¬(k:Int)-1<r.body.length:=zF u;rw[mr y (by omega)];clear y hk u;refine zJ Z Z (fun q=>?_) fun q=>?_
 .exact absurd (show kw=jp from q) (by decide)
 exact zU Z
section
theorem kV:prog.cellsOf 3=1:=by kernel_rfl
theorem re:prog.cellsOf 9=1:=by kernel_rfl
theorem uR:prog.cellsOf 59=3:=by kernel_rfl
theorem CC:prog.cellsOf 157=5:=by kernel_rfl
theorem Kk:prog.cellsOf 147=1:=by kernel_rfl
theorem wF:prog.cellsOf 149=2:=by kernel_rfl
theorem Kj:prog.cellsOf 192=1:=by kernel_rfl
theorem oW:prog.cellsOf 194=7:=by kernel_rfl
theorem CB:prog.cellsOf 196=10:=by kernel_rfl
theorem CE:prog.cellsOf 150=1:=by kernel_rfl
theorem wE:prog.cellsOf 198=30:=by kernel_rfl
theorem uS:prog.cellsOf 55=2:=by kernel_rfl
theorem CD:prog.cellsOf 152=5:=by kernel_rfl
theorem N7:prog.cellsOf 35=1:=by kernel_rfl
theorem Fy:prog.cellsOf 57=4:=by kernel_rfl
theorem Oa:prog.cellsOf 22=1:=by kernel_rfl
theorem N9:prog.cellsOf 23=1:=by kernel_rfl
theorem N8:prog.cellsOf 25=2:=by kernel_rfl
theorem N5:prog.cellsOf 60=1:=by kernel_rfl
theorem Fx:prog.cellsOf 62=2:=by kernel_rfl
section
variable {H:Type}
abbrev bk(d:DataW H):Nat:=Rows.uptoBulk d
theorem D4(d:DataW H):1<=bk d:=by
 cases d with
 |lit l=>cases l<;>simp[bk,Rows.uptoBulk]
 |nil=>simp[bk,Rows.uptoBulk]
 |ptr d=>simp[bk,Rows.uptoBulk]
 |slice elems spare=>simp[bk,Rows.uptoBulk]
 |agg parts=>simp[bk,Rows.uptoBulk]
 |iface t d=>simp[bk,Rows.uptoBulk]
 |map entries=>simp[bk,Rows.uptoBulk]
 |held h=>simp[bk,Rows.uptoBulk]
theorem tq(s:ByteArray):bk (DataW.lit (H:=H) (.string s.data.toList))=s.size+1:=by
 simp[bk,Rows.uptoBulk]
theorem _root_.Go.Al.QL.sum{α:Type}{Q:α->DataW H->Prop}{l:List α}{d:DataW H}(h:QL Q l d){f:α->Nat}{c:Nat}(hf: ∀x e,Q x e->f x<=c*bk e):(l.map f).sum<=c*bk d:=by
 obtain⟨j,hd,u,y⟩:=h;have key: ∀(l:List α) (j:List (DataW H)),l.length=j.length->(∀(i:Nat) (x:α) (e:DataW H),l[i]? =io x->j[i]? =io e->Q x e)->(l.map f).sum<=c*Rows.uptoBulkAll j:=by
  intro l
  induction l with
  |nil=>intro j _ _;simp
  |cons x r ih=>
   intro j hl y;cases j with
   |nil=>simp at hl
   |cons e j=>
    have h1:=hf x e (y 0 x e Z Z);have C:=ih j (by simpa using hl) fun i x e B A=>y (i+1) x e (by simpa using B) (by simpa using A);simp only[WW,Ya,Rows.uptoBulkAll,Nat.mul_add];simp only[bk]at h1;omega
 have h1:=key l j u y;rcases hd with⟨rfl,rfl⟩|⟨sp,rfl⟩
 .simp[Rows.uptoBulkAll]at h1;omega
 .refine XR h1 (Nat.mul_le_mul_left c ?_);simp only[bk,Rows.uptoBulk];omega
theorem AY{α:Type}: ∀l:List α,(l.map fun _=>1).sum=l.length
 | []=>rfl
 |x::r=>by simp only[WW,Ya,Xn,AY r];omega
theorem _root_.Go.Al.QL.len{α:Type}{Q:α->DataW H->Prop}{l:List α}{d:DataW H}(h:QL Q l d):l.length<=bk d:=by
 have:=h.sum (f:=fun _=>1) (c:=1) fun x e _=>by have:=D4 e;omega
 have e:=AY l;omega
theorem _root_.Go.Al.QL.all{α:Type}{Q:α->DataW H->Prop}{l:List α}{d:DataW H}(h:QL Q l d): ∀x∈l,∃e,Q x e∧bk e<=bk d:=by
 intro x C;obtain⟨j,hd,A,B⟩:=h;obtain⟨i,hi,rfl⟩:=YQ.1 C;have u:i<j.length:=by omega
 refine⟨j[i],B i _ _ (WU hi) (WU u),?_⟩;have key: ∀(j:List (DataW H)),∀e∈j,bk e<=Rows.uptoBulkAll j:=by
  intro j
  induction j with
  |nil=>intro e he;cases he
  |cons y r ih=>
   intro e he;simp only[Rows.uptoBulkAll];rcases Xa.1 he with rfl|he
   .simp only[bk];omega
   .have:=ih e he;omega
 have h1:=key j j[i] (XF u);rcases hd with⟨rfl,rfl⟩|⟨sp,rfl⟩
 .simp at u
 .refine XR h1 ?_;simp only[bk,Rows.uptoBulk];omega
end
theorem Expr.gq: ∀l:List Expr,Expr.aD l=(l.map Expr.size).sum
 | []=>rfl
 |e::r=>by simp only[Expr.aD,WW,Ya,Expr.gq r]
theorem Expr.o9: ∀l:List Expr,Expr.lf l=(l.map Expr.ts).sum
 | []=>rfl
 |e::r=>by simp only[Expr.lf,WW,Ya,Expr.o9 r]
theorem Lit.gq: ∀l:List Lit,Lit.aD l=(l.map Lit.size).sum
 | []=>rfl
 |e::r=>by simp only[Lit.aD,WW,Ya,Lit.gq r]
theorem Lit.o9: ∀l:List Lit,Lit.lf l=(l.map Lit.ts).sum
 | []=>rfl
 |e::r=>by simp only[Lit.lf,WW,Ya,Lit.o9 r]
section
variable {H:Type} {enc:TypeId×Value->H} {W:World} {hT:lK W} {sp:Nat->Bool} {held:Bool}
def QV(v:cS)(d:DataW H):Prop:=v.sym.size<=bk d
def QT(t:Term)(d:DataW H):Prop:=t.ts<=400*bk d
def QA(a:Atom)(d:DataW H):Prop:=a.ts<=400*bk d∧a.an.length<=bk d
def QE(e:Expr)(d:DataW H):Prop:=e.ts<=400*bk d∧e.size<=bk d
def QP(_:Pos)(_:DataW H):Prop:=True
def Pos.c(p:Pos):List IV:=[iI p.line,iI p.KO]
def QG(g:gU)(d:DataW H):Prop:=g.var.size+g.j4.ts+Lit.lf g.body<=400*bk d∧g.j4.size+Lit.aD g.body<=bk d
def QB(l:Lit)(d:DataW H):Prop:=l.ts<=400*bk d∧l.size<=bk d
theorem rd_val(n:Nat):Rd enc prog W hT sp held 59 cS.c QV n:=by
 intro m _ D y h;obtain⟨C,k,rfl,rfl,hl,A,hf⟩:=DataW.trod_struct underlying59 h
 match C,A with
 | [x0,x1,x2],_=>
  obtain⟨a,j,G,_⟩:=kD (hT:=hT) underlying3 k k (WY _) _ _ (nV hf 0 Z Z Z kV Z);obtain⟨b,u,I,_⟩:=kD (hT:=hT) underlying3 k k (WY _) _ _ (nV hf 1 Z Z Z kV Z);obtain⟨c,x,B,_⟩:=jj (hT:=hT) underlying9 k k (WY _) _ _ (nV hf 2 Z Z Z re Z);refine⟨⟨a,b,c⟩,j.fm (o':=1) Z (u.fm (o':=2) Z (x.fm (o':=3) Z (.end_ (hl.trans uR)))),?_⟩;simp only[QV,bk,WW,W7,Rows.uptoBulk,Rows.uptoBulkAll];have:=tq (H:=H) c;rw[<-B]at this;simp only[bk]at this;omega
theorem Dn(n:Nat):Rd enc prog W hT sp held 55 Pos.c QP n:=by
 intro m _ B y h;obtain⟨A,k,rfl,rfl,hl,x,hf⟩:=DataW.trod_struct underlying55 h
 match A,x with
 | [x0,x1],_=>
  obtain⟨a,j,C,_⟩:=kD (hT:=hT) underlying3 k k (WY _) _ _ (nV hf 0 Z Z Z kV Z);obtain⟨b,u,D,_⟩:=kD (hT:=hT) underlying3 k k (WY _) _ _ (nV hf 1 Z Z Z kV Z);exact⟨⟨a,b⟩,j.fm (o':=1) Z (u.fm (o':=2) Z (.end_ (hl.trans uS))),ac⟩
theorem MO(n:Nat):Rd enc prog W hT sp held 157 Term.c QT n:=by
 intro m _ D y h;obtain⟨C,k,rfl,rfl,hl,A,hf⟩:=DataW.trod_struct underlying157 h
 match C,A with
 | [x0,x1,x2],_=>
  obtain⟨a,j,G,_⟩:=kD (hT:=hT) underlying3 k k (WY _) _ _ (nV hf 0 Z Z Z kV Z);obtain⟨b,u,B,_⟩:=jj (hT:=hT) underlying9 k k (WY _) _ _ (nV hf 1 Z Z Z re Z);obtain⟨c,x,I⟩:=rd_val (hT:=hT) k k (WY _) _ _ (nV hf 2 Z Z Z uR Z);refine⟨⟨a,b,c⟩,j.fm (o':=1) Z (u.fm (o':=2) Z (x.fm (o':=5) Z (.end_ (hl.trans CC)))),?_⟩;simp only[QT,Term.ts,bk,WW,W7,Rows.uptoBulk,Rows.uptoBulkAll];have:=tq (H:=H) b;rw[<-B]at this;simp only[bk]at this;omega
theorem EM(n:Nat):Rd enc prog W hT sp held 149 Atom.c QA n:=by
 intro m _ I y h;obtain⟨G,k,rfl,rfl,hl,C,hf⟩:=DataW.trod_struct underlying149 h
 match G,C with
 | [x0,x1],_=>
  obtain⟨a,u,D,_⟩:=jj (hT:=hT) underlying9 k k (WY _) _ _ (nV hf 0 Z Z Z re Z);obtain⟨b,x,j⟩:=(fR (hT:=hT) underlying147 CC (by decide) (fun _=>rfl) (MO k)).mono (Yh k) k (WY _) _ _ (nV hf 1 Z Z Z Kk Z);refine⟨⟨a,b⟩,u.fm (o':=1) Z (x.fm (o':=2) Z (.end_ (hl.trans wF))),?_⟩;have h1:=tq (H:=H) a;rw[<-D]at h1;have A:=j.sum (f:=Term.ts) (c:=400) fun _ _ h=>h;have B:=j.len;simp only[bk]at h1 A B;simp only[QA,Atom.ts,bk,WW,W7,Rows.uptoBulk,Rows.uptoBulkAll];omega
theorem uC: ∀n:Nat,Rd enc prog W hT sp held 194 Expr.c QE n
 |0=>fun m J I y h=>by
  obtain rfl:m=0:=by omega
  simp[DataW.trod]at h
 |n+1=>fun m J I y h=>by
  obtain⟨xs,k,rfl,rfl,hl,Y,hf⟩:=DataW.trod_struct underlying194 h;have hs:=fR (hT:=hT) underlying192 oW (by decide) (fun _=>rfl) (uC n)
  match xs,Y with
  | [x0,x1,x2,x3,x4],_=>
   obtain⟨a,A,qa,_⟩:=kD (hT:=hT) underlying3 k k (WY _) _ _ (nV hf 0 Z Z Z kV Z);obtain⟨b,B,qb,_⟩:=jj (hT:=hT) underlying9 k k (WY _) _ _ (nV hf 1 Z Z Z re Z);obtain⟨c,C,qc⟩:=rd_val (hT:=hT) k k (WY _) _ _ (nV hf 2 Z Z Z uR Z);obtain⟨d,D,qd,_⟩:=kD (hT:=hT) underlying3 k k (WY _) _ _ (nV hf 3 Z Z Z kV Z);obtain⟨e,G,x⟩:=hs k (by omega) _ _ (nV hf 4 Z Z Z Kj Z);refine⟨.mk a b c d e,A.fm (o':=1) Z (B.fm (o':=2) Z (C.fm (o':=5) Z (D.fm (o':=6) Z ((G.DD (Fp (.mk a b c d e))).fm (o':=7) Z (.end_ (hl.trans oW)))))),?_⟩;have h1:=tq (H:=H) b;rw[<-qb]at h1;have j:=x.sum (f:=Expr.ts) (c:=400) fun _ _ h=>h.1;have u:=x.sum (f:=Expr.size) (c:=1) fun _ _ h=>by have:=h.2;omega
   rw[<-Expr.o9]at j;rw[<-Expr.gq]at u;simp only[bk]at h1 j u;simp only[QE,Expr.ts,Expr.size,bk,WW,W7,Rows.uptoBulk,Rows.uptoBulkAll];omega
theorem R3{n:Nat}(hb:Rd enc prog W hT sp held 150 (fun l:List Lit=> [aW 30 l Lit.c]) (QL QB) n):Rd enc prog W hT sp held 196 gU.c QG (n+1):=by
 intro m hm cs y h;obtain⟨xs,k,rfl,rfl,hl,J,hf⟩:=DataW.trod_struct underlying196 h
 match xs,J with
 | [x0,x1,x2,x3],_=>
  obtain⟨a,A,qa,_⟩:=kD (hT:=hT) underlying3 k k (WY _) _ _ (nV hf 0 Z Z Z kV Z);obtain⟨b,B,Y,_⟩:=jj (hT:=hT) underlying9 k k (WY _) _ _ (nV hf 1 Z Z Z re Z);obtain⟨c,C,qc⟩:=uC (hT:=hT) k k (WY _) _ _ (nV hf 2 Z Z Z oW Z);obtain⟨d,D,x⟩:=hb k (by omega) _ _ (nV hf 3 Z Z Z CE Z);refine⟨⟨a,b,c,d⟩,A.fm (o':=1) Z (B.fm (o':=2) Z (C.fm (o':=9) Z ((D.DD (zX d)).fm (o':=10) Z (.end_ (hl.trans CB))))),?_⟩;have h1:=tq (H:=H) b;rw[<-Y]at h1;have j:=x.sum (f:=Lit.ts) (c:=400) fun _ _ h=>h.1;have u:=x.sum (f:=Lit.size) (c:=1) fun _ _ h=>by have:=h.2;omega
  rw[<-Lit.o9]at j;rw[<-Lit.gq]at u;obtain⟨G,I⟩:=qc;simp only[bk]at h1 j u G I;simp only[QG,bk,WW,W7,Rows.uptoBulk,Rows.uptoBulkAll];omega
theorem Ix: ∀n:Nat,Rd enc prog W hT sp held 198 Lit.c QB n
 |0=>fun m hm I y h=>by
  obtain rfl:m=0:=by omega
  simp[DataW.trod]at h
 |n+1=>fun m hm I y h=>by
  obtain⟨xs,k,rfl,rfl,hl,hx,hf⟩:=DataW.trod_struct underlying198 h;have hs:=R3 (fR (hT:=hT) underlying150 wE (by decide) (fun _=>rfl) (Ix n))
  match xs,hx with
  | [x0,x1,x2,x3,x4,x5,x6],_=>
   obtain⟨a,u,qa,_⟩:=kD (hT:=hT) underlying3 k k (WY _) _ _ (nV hf 0 Z Z Z kV Z);obtain⟨b,x,qb⟩:=EM (hT:=hT) k k (WY _) _ _ (nV hf 1 Z Z Z wF Z);obtain⟨c,A,qc,_⟩:=kD (hT:=hT) underlying3 k k (WY _) _ _ (nV hf 2 Z Z Z kV Z);obtain⟨d,B,qd⟩:=uC (hT:=hT) k k (WY _) _ _ (nV hf 3 Z Z Z oW Z);obtain⟨e,C,qe⟩:=uC (hT:=hT) k k (WY _) _ _ (nV hf 4 Z Z Z oW Z);obtain⟨g,D,qg⟩:=hs k (by omega) _ _ (nV hf 5 Z Z Z CB Z);obtain⟨p,G,_⟩:=Dn (hT:=hT) k k (WY _) _ _ (nV hf 6 Z Z Z uS Z);refine⟨.mk a b c d e g.func g.var g.j4 g.body p,u.fm (o':=1) Z (x.fm (o':=3) Z (A.fm (o':=4) Z (B.fm (o':=11) Z (C.fm (o':=18) Z (D.fm (o':=28) Z (G.fm (o':=30) Z (.end_ (hl.trans wE)))))))),?_⟩;obtain⟨h1,J⟩:=qb;obtain⟨Y,h4⟩:=qd;obtain⟨h5,h6⟩:=qe;obtain⟨h7,h8⟩:=qg;have h9:=D4 x0.1;have j:=D4 x2.1;simp only[bk]at h1 J Y h4 h5 h6 h7 h8 h9 j;simp only[QB,Lit.ts,Lit.size,bk,WW,W7,Rows.uptoBulk,Rows.uptoBulkAll];omega
theorem MQ(n:Nat):Rd enc prog W hT sp held 150 (fun l:List Lit=> [lits l]) (QL QB) n:=
 (fR (hT:=hT) underlying150 wE (by decide) (fun _=>rfl) (Ix n)).mono (Yh n)
end
end
end Go.Proofs.YtlmhfgbkchnfbaaGreatDoor
namespace Go.Proofs.YtlmhfgbkchnfbaaGreatDoor
open Go Go.Al Go.Proofs.Tryz Go.ChangeShapes Go.WideShapes Go.RowKit
theorem own:ownKnob prog.godebug=is:=by kernel_rfl
theorem U5:prog.globalNamed "internal/strconv.uint64pow10" =io 1:=by kernel_rfl
theorem Jz:(prog.globals[1]?).map (·.type)=io 368:=by kernel_rfl
theorem Ki:prog.cellsOf 368=20:=by kernel_rfl
theorem Kl:prog.cellsOf 104=1:=by kernel_rfl
theorem Hy:prog.underlying 368=io (.array 20 104):=by kernel_rfl
theorem Hz:prog.underlying 104=io (.int .u64):=by kernel_rfl
abbrev Jb:List (String×DataW Unit):=[("math/bits.deBruijn32tab",Rows.laid_math_bits_deBruijn32tab),("math/bits.deBruijn64tab",Rows.laid_math_bits_deBruijn64tab),("internal/strconv.uint64pow10",Rows.laid_internal_strconv_uint64pow10)]
theorem HK{W:World}(h:laidMetH prog Jb W):lK W:=by
 have u:=laidMetH.filter (fun x=>x.1== "internal/strconv.uint64pow10") h;have A:laidMet prog [("internal/strconv.uint64pow10",Lib.tabData .u64 qK)] W:=by
  rw[show Jb.filter (fun x=>x.1== "internal/strconv.uint64pow10")=[("internal/strconv.uint64pow10",Lib.tabData .u64 qK)] by kernel_rfl]at u;rwa[MakeChecks.laidMetH_plain _ _ _ (by kernel_rfl)]at u
 have j:Lib.TabIs prog W "internal/strconv.uint64pow10" .u64 qK:=Lib.tabIs_of_head (rest:=[]) U5 Jz Hy Hz Kl Ki A;intro b c hb;unfold Lib.TabIs World.var? at j;rw[U5]at j
 match b with
 |0=>exact nomatch hb
 |1=>
  have B:(qK.map fun z=>Value.int .u64 z).toArray=c:=XP hb;rw[B]at j;simp only[Y7]at j;split at j
  .rename_i C T y e;exact⟨T,y,by rw[e,XP j]⟩
  .cases j
 |b+2=>exact nomatch hb
theorem kids:Kids prog (· <prog.types.size):=kids_rows (by kernel_rfl) (by kernel_rfl)
theorem full: ∀{t e},t<prog.types.size->prog.underlying t=io (.slice e)->0<prog.cellsOf e:=fun{t e}=>slices_full_of prog (by kernel_rfl) t e
theorem zo{H:Type}{enc:TypeId×Value->H}{W:World}(hT:lK W){k:FuncId}{f:Func}{s:ChangeSpec}{args:List PV}{vs:List Value}{B gs:List (DataW H)}{u:List MemPlace}
  (hp:Al.Pure prog k args (pB jp)) (D:args.length=vs.length) (hv: ∀(j:Nat) (p:PV),args[j]? =io p->VR (Mem.qN W hT) S6 (· <0) p (vs.getD j undef))
  (G: ∀t∈f.params.toList,t<prog.types.size) (A:s.vars=[]) (y:f.resultTypes= #[4])
  (hW:DataW.Whole enc prog f.params.toList s.vars kw W vs.toArray.toList B gs u)
  (I:(s.fn H (B++gs)).results=[.lit (.bool jp)]) (J:(s.fn H (B++gs)).args=B) (Y:(s.fn H (B++gs)).vars=[]):
  Calls prog k vs.toArray W fun e W'=> ∃v,e= .returned v∧s.post enc prog f kw jp kw kw W vs.toArray v W':=by
 refine(hp.2 (Mem.qN W hT) S6 W vs (MN W hT) D hv).mono ?_;rintro e W' ⟨x,M',N',r,h',n',rfl,⟨rfl,rfl,rfl⟩,hx,hr,hvr⟩;have a0:x= .bool jp:=by
  cases hvr with
  |iv _ _ h=>cases h;rfl
 subst a0;refine⟨_,rfl,zr kids full G A hW hx.os hx.output.out (fun b hb=>hx.gK b hb fun i o hi=>(nomatch hi)) (fun b sp hd=>?_) J Y ?_⟩
 .rw[I,y];exact trodAll_cons_mk (shut_bool underlying4 _) trodAll_mk0
 .intro j t r h1 C;rw[y]at h1 C
  match j,h1,C with
  |0,h1,C=>
   cases h1;cases C;exact okWide_bool_mk underlying4 _
  |j+1,h1,C=>simp at h1
theorem bound{H:Type}{l:List (DataW H)}(hk:Rows.uptoSmall H l=jp):Rows.uptoBulkAll l<=1048576:=of_decide_eq_true hk
def Ja(b:Nat)(cs:Array Value)(h:Array Obj):Array Obj:=h.modify b fun
 | .cells _ t frozen=> .cells cs t frozen
 |o=>o
noncomputable def ta(os:Os):World:=
 {World.holding prog os ⟨#[], #[],[]⟩ with
  heap:=Ja 3 #[.int .u8 0,.int .u8 1,.int .u8 56,.int .u8 2,.int .u8 57,.int .u8 49,.int .u8 28,.int .u8 3,.int .u8 61,.int .u8 58,.int .u8 42,.int .u8 50,.int .u8 38,.int .u8 29,.int .u8 17,.int .u8 4,.int .u8 62,.int .u8 47,.int .u8 59,.int .u8 36,.int .u8 45,.int .u8 43,.int .u8 51,.int .u8 22,.int .u8 53,.int .u8 39,.int .u8 33,.int .u8 30,.int .u8 24,.int .u8 18,.int .u8 12,.int .u8 5,.int .u8 63,.int .u8 55,.int .u8 48,.int .u8 27,.int .u8 60,.int .u8 41,.int .u8 37,.int .u8 16,.int .u8 46,.int .u8 35,.int .u8 44,.int .u8 21,.int .u8 52,.int .u8 32,.int .u8 23,.int .u8 11,.int .u8 54,.int .u8 26,.int .u8 40,.int .u8 15,.int .u8 34,.int .u8 20,.int .u8 31,.int .u8 10,.int .u8 25,.int .u8 14,.int .u8 19,.int .u8 9,.int .u8 13,.int .u8 8,.int .u8 7,.int .u8 6] (Ja 2 #[.int .u8 0,.int .u8 1,.int .u8 28,.int .u8 2,.int .u8 29,.int .u8 14,.int .u8 24,.int .u8 3,.int .u8 30,.int .u8 22,.int .u8 20,.int .u8 15,.int .u8 25,.int .u8 17,.int .u8 4,.int .u8 8,.int .u8 31,.int .u8 27,.int .u8 13,.int .u8 23,.int .u8 21,.int .u8 19,.int .u8 16,.int .u8 7,.int .u8 26,.int .u8 12,.int .u8 18,.int .u8 6,.int .u8 11,.int .u8 5,.int .u8 10,.int .u8 9] (Ja 1 (qK.map fun z=>Value.int .u64 z).toArray (World.holding prog os ⟨#[], #[],[]⟩).heap))}
end Go.Proofs.YtlmhfgbkchnfbaaGreatDoor
namespace Go.Proofs.YtlmhfgbkchnfbaaGreatDoor
open Go Go.Al Go.Proofs.Tryz
def gF.z:gF:=(0,⟨0,0⟩)
theorem d64(d e:gF):bf prog 98 [ag d.c,.ptr 0 0] [aG e.c] (pB kw) [(0,io (aG d.c))] 1:=by
 refine ak ab func98 Z (by decide) ntmps98 Z (by simp) ?_;refine gA Z (zD [] Z (zW (zO ac)))
def gv(p:Prog)(i:Nat):List aq:=(p.aF.take i).map Decl.name
def gV(p:Prog)(i:Nat):Int:=qH (p.aF.getD i co) i (dW .str (aL (gv p i)) (p.aF.getD i co).name 0)
def qG(p:Prog):Nat->List gF
 |0=> []
 |i+1=>qG p i++(if gV p i=0 then[] else[(gV p i,(p.aF.getD i co).at_)])
def vo(p:Prog)(i:Nat):gF:=xQ p (p.rules.getD i co) ((i:Int)+1)
def rD(p:Prog):Nat->List gF
 |0=> []
 |i+1=>rD p i++(if(vo p i).1=0 then[] else[vo p i])
def lH(p:Prog):List gF:=qG p p.aF.length++rD p p.rules.length
def eQ(p:Prog):gF:=(lH p).headD gF.z
theorem Bm(p:Prog)(i:Nat): ∀k,∃t,qG p (i+k)=qG p i++t
 |0=>⟨[],by simp⟩
 |k+1=>by
  obtain⟨t,h⟩:=Bm p i k;exact⟨_,by rw[<-X3,qG,h,W6]⟩
theorem Bg(p:Prog)(i:Nat): ∀k,∃t,rD p (i+k)=rD p i++t
 |0=>⟨[],by simp⟩
 |k+1=>by
  obtain⟨t,h⟩:=Bg p i k;exact⟨_,by rw[<-X3,rD,h,W6]⟩
theorem G7{p:Prog}{i:Nat}(j:qG p i=[])(hi:i<p.aF.length)(h: ¬gV p i=0):eQ p=(gV p i,(p.aF.getD i co).at_):=by
 obtain⟨t,ht⟩:=Bm p (i+1) (p.aF.length-(i+1));have e:i+1+(p.aF.length-(i+1))=p.aF.length:=by omega
 rw[e,qG,j,be h]at ht;rw[eQ,lH,ht];rfl
theorem G6{p:Prog}{i:Nat}(h0:qG p p.aF.length=[])(j:rD p i=[])(hi:i<p.rules.length)(h: ¬(vo p i).1=0):eQ p=vo p i:=by
 obtain⟨t,ht⟩:=Bg p (i+1) (p.rules.length-(i+1));have e:i+1+(p.rules.length-(i+1))=p.rules.length:=by omega
 rw[e,rD,j,be h]at ht;rw[eQ,lH,ht,h0];rfl
theorem Kg{p:Prog}(h0:qG p p.aF.length=[])(h1:rD p p.rules.length=[]):eQ p=gF.z:=by
 rw[eQ,lH,h0,h1];rfl
theorem zm{p:Prog}{i:Nat}(h:i<p.aF.length):aL (gv p (i+1))=bump (aL (gv p i)) (p.aF.getD i co).name:=by
 rw[gv,bS h,W4];exact dq _ _
theorem Dm(p:Prog)(i:Nat)(s:aq):0<=dW .str (aL (gv p i)) s 0∧dW .str (aL (gv p i)) s 0<=i:=by
 have h:=ia (gv p i) s;have j:(gv p i).length<=i:=by simp[gv];omega
 rw[bJ];omega
def Prog.fit(p:Prog):Prop:=p.aF.length<=1000000000∧p.rules.length<=1000000000∧ ∀r∈p.rules,r.fit
theorem Wh(p:Prog)(hb:p.fit):bf prog 97 [ag p.c,.cv (.func 98) [] [.ptr 0 0]] [aG gF.z.c] (.aY []) [(0,io (aG (eQ p).c))] 1:=by
 obtain⟨B,C,A⟩:=hb;refine ak ab func97 Z (by decide) ntmps97 Z (by simp) ?_;refine gA Z ?_;refine aM 0 p.aF.length (W2 _) (fun i=>⟨[(1,.cv (.func 98) [] [.ptr 0 0]),(2,.ptr 1 0),(4,.mp 2),(13,.iv (aW 4 p.aF Decl.c)),(14,pI p.aF.length),(15,pI i)],[(0,io (aG gF.z.c)),(1,io (aG p.c)),(2,io (cX (aL (gv p i))))],3⟩) (fun i=>qG p i=[]) [] Z
  (zW ⟨⟨_,rfl,.of_eq Z⟩,WL Z,rfl,⟨_,rfl,.of_eq Z⟩,WL Z,rfl,Sr Z gj Z trivial⟩) fun i hi x=>?_
 refine zJ Z Z (fun h1=>?_) fun h1=>?_
 .have h1:i<p.aF.length:=zN h1;have hl:=Dm p i (p.aF.getD i co).name;have G:=zm h1;refine gA Z (zp (WD (p.aF.getD i co) i (dW .str (aL (gv p i)) (p.aF.getD i co).name 0)) ?_);refine zJ Z Z (fun g=>?_) fun g=>?_
  .have g: ¬gV p i=0:=by
    have g:(!lc (gV p i=0))=jp:=g;simpa only[X0,decide_eq_false_iff_not]using g
   rw[G7 x h1 g];refine gA Z (zq [0] (d64 (gV p i,(p.aF.getD i co).at_) gF.z) ?_);refine zE Z Z (fun q=>?_) fun q=>?_
   .exact absurd (show jp=kw from q) (by decide)
   refine gA Z (zD [] Z (zW (zO ac)))
  .have g:gV p i=0:=by
    have g:(!lc (gV p i=0))=kw:=g;simpa only[YF,decide_eq_true_eq]using g
   refine gA Z ⟨h1,by rw[qG,x,am g];rfl,[],zW (zO (zO (hM Z (by rw[G];rfl) Z trivial)))⟩
 have h1:p.aF.length<=i:=zG h1;have u:i=p.aF.length:=by omega
 subst u;refine gA Z (zq [] (d50 p (by omega)) ?_);refine gA Z ?_;refine NA 3 Z ?_;refine aM 0 p.rules.length (W2 _) (fun i=>⟨[(1,.cv (.func 98) [] [.ptr 0 0]),(2,.ptr 1 0),(8,.iv (cT p)),(47,.iv (aW 5 p.rules aw.c)),(48,pI p.rules.length),(49,pI i)],[(0,io (aG gF.z.c)),(1,io (aG p.c))],4⟩) (fun i=>rD p i=[]) [] Z
  (zW (zO (zO trivial))) fun i hi y=>?_
 refine zJ Z Z (fun j=>?_) fun j=>?_
 .have j:i<p.rules.length:=zN j;have D:p.rules.getD i co∈p.rules:=by rw[WQ,WU j];exact XF j
  refine gA Z (aE (c65 p (p.rules.getD i co) ((i:Int)+1) (A _ D)) Z Z Z Z Z Z ?_);refine zJ Z Z (fun g=>?_) fun g=>?_
  .have g: ¬(vo p i).1=0:=by
    have g:(!lc ((vo p i).1=0))=jp:=g;simpa only[X0,decide_eq_false_iff_not]using g
   rw[G6 x y j g];refine gA Z (zq [0] (d64 (vo p i) gF.z) ?_);refine zE Z Z (fun q=>?_) fun q=>?_
   .exact absurd (show jp=kw from q) (by decide)
   refine gA Z (zD [] Z (zW (zO ac)))
  .have g:(vo p i).1=0:=by
    have g:(!lc ((vo p i).1=0))=kw:=g;simpa only[YF,decide_eq_true_eq]using g
   refine gA Z ⟨j,by rw[rD,y,am g];rfl,[],zW (zO (zO trivial))⟩
 have j:p.rules.length<=i:=zG j;have u:i=p.rules.length:=by omega
 subst u;rw[Kg x y];refine gA Z (zD [] Z (zW (zO ac)))
theorem c24(p:Prog)(hb:p.fit):Pure prog 66 [ag p.c] (ag (eQ p).c):=by
 refine ah ab func66 Z (by decide) ntmps66 Z (by simp) Z ?_;refine gA Z (zq [2] (Wh p hb) ?_);exact zU Z
def Mx:aq:=⟨#[114,101,108,97,116,105,111,110,32]⟩
def Uq:aq:=⟨#[110,117,109]⟩
def Uh:aq:=⟨#[115,121,109]⟩
def S4:aq:=⟨#[32,58,45,32]⟩
def MD:aq:=⟨#[46,10]⟩
def Hi(w:WS)(t:Int):WS:=if t=1 then aT w [Uq] else if t=2 then aT w [Uh] else oc w
def pK(l:List Int)(w:WS):Nat->WS
 |0=>w
 |i+1=>Hi (ff i (pK l w i)) (l.getD i co)
def sq(w:WS)(d:Decl):WS:=aT (pK d.types (aT (aU w (fY d.name)) [Mx,d.name,sO]) d.types.length) [sC]
def Decl.ts(d:Decl):Nat:=d.name.size+30+10*d.types.length
theorem KU(w:WS)(t:Int):(Hi w t).l.length<=w.l.length+3:=by
 have j:Uq.size=3:=rfl;have u:Uh.size=3:=rfl;unfold Hi
 repeat' split
 .rw[aK,j];omega
 .rw[aK,u];omega
 .rw[fw];omega
theorem Qz(w:WS)(t:Int):(Hi w t).br=w.br:=by
 unfold Hi
 repeat' split
 .exact bP _ _
 .exact bP _ _
 .rfl
theorem u4(l:List Int)(w:WS): ∀i,(pK l w i).l.length<=w.l.length+5*i
 |0=>by simp[pK]
 |i+1=>by
  have h1:=u4 l w i;have j:=jn i (pK l w i);have u:=KU (ff i (pK l w i)) (l.getD i co);rw[pK];omega
theorem Ei(l:List Int)(w:WS): ∀i,(pK l w i).br=w.br
 |0=>rfl
 |i+1=>by rw[pK,Qz,pC,Ei l w i]
theorem yJ(w:WS)(d:Decl):(sq w d).l.length+10<=w.l.length+d.ts:=by
 have j:Mx.size=9:=rfl;have u:sO.size=1:=rfl;have y:sC.size=1:=rfl;have x:eI [Mx,d.name,sO]=d.name.size+10:=by simp[eI,j,u];omega
 have h:=u4 d.types (aT (aU w (fY d.name)) [Mx,d.name,sO]) d.types.length;rw[gW,x,aR]at h;rw[sq,aK,y,Decl.ts];omega
theorem J2(w:WS)(d:Decl):(sq w d).br=w.br:=by rw[sq,bP,Ei,bP];rfl
theorem F8(w:WS)(d:Decl)(hb:w.l.length+d.ts<=900000000):bf prog 91 [.ptr 0 0,ag d.c] w.O (.aY []) (sq w d).H 3:=by
 have J:Mx.size=9:=rfl;have Y:sO.size=1:=rfl;have e4:sC.size=1:=rfl;have e5:xj.size=2:=rfl;have G:Uq.size=3:=rfl;have I:Uh.size=3:=rfl;have D:eI [Mx,d.name,sO]=d.name.size+10:=by simp[eI,J,Y];omega
 have c0:d.ts=d.name.size+30+10*d.types.length:=rfl;have a0:(aT (aU w (fY d.name)) [Mx,d.name,sO]).l.length=w.l.length+(d.name.size+10):=by rw[gW,D,aR]
 refine ak ab func91 Z (by decide) ntmps91 Z (by simp) ?_;refine gA Z (aE (Vk d.name) Z Z Z Z Z Z ?_);refine gA Z (DO (d146 w (fY d.name)) Z Z Z Z Z Z Z Z Z Z Z Z ?_);refine gA Z (go_wp (d147 (aU w (fY d.name)) [Mx,d.name,sO] (by simp) (by rw[D,aR];omega)) Z Z Z Z Z Z Z Z Z Z Z Z ?_);generalize hW:aT (aU w (fY d.name)) [Mx,d.name,sO]=w1 at*
 refine gA Z ?_;refine aM 0 d.types.length (W2 _) (fun i=>⟨[(0,.ptr 0 0),(17,.iv (aW 1 d.types kj)),(18,pI d.types.length),(19,pI i)],[(0,io ((pK d.types w1 i).rf 0 6)),(6,io (.bw (pK d.types w1 i).l 5))],7⟩) (fun _=>True) _ ac
  (KH (w:=w1) Z Z Z Z Z (.refl _) (.refl _) Z Z Z Z Z (bi (bi (bi (bi trivial))))) fun i hi _=>?_
 have b0:=u4 d.types w1 i;refine gA Z ?_;refine WN (fun h1=>?_) (fun h1=>?_);rotate_left
 .have h1:d.types.length<=i:=Yz fun hh=>absurd (ZZ.2 hh) (of_decide_eq_false h1)
  have C:i=d.types.length:=by omega
  subst C;refine gA Z (go_wp (d147 (pK d.types w1 d.types.length) [sC] (by simp) (by rw[bu,e4];omega)) Z Z Z Z Z Z Z Z Z Z Z Z ?_);rw[sq,hW];refine gA Z (yE (by first|exact .inr Z|exact .inl Z) Z Z Z Z Z (by first|exact .refl _|exact .kb _) (by first|exact .refl _|exact .kb _) Z Z Z Z (.refl _) Z Z)
 have h1:i<d.types.length:=ZZ.1 (of_decide_eq_true h1);have hs:pK d.types w1 (i+1)=Hi (ff i (pK d.types w1 i)) (d.types.getD i co):=rfl;have B:=jn i (pK d.types w1 i);generalize pK d.types w1 i=w2 at*
 refine gA Z ?_;refine WN (fun x=>?_) (fun x=>?_)
 .have x: ¬i=0:=by have:=of_decide_eq_true x;omega
  rw[ff,be x]at hs B;refine gA Z (go_wp (d147 w2 [xj] (by simp) (by rw[bu,e5];omega)) Z Z Z Z Z Z Z Z Z Z Z Z ?_);refine gA Z ?_;refine WN (fun y=>?_) (fun y=>?_)
  .have j:d.types.getD i co=1:=of_decide_eq_true y;rw[Hi,am j]at hs;refine gA Z (go_wp (d147 (aT w2 [xj]) [Uq] (by simp) (by rw[bu,G];omega)) Z Z Z Z Z Z Z Z Z Z Z Z ?_);refine gA Z ⟨h1,ac,_,KH (hs.symm) Z Z Z Z (by first|exact .refl _|exact .kb _) (by first|exact .refl _|exact .kb _) Z Z Z Z Z (bi (bi (bi (bi ac))))⟩
  .have j: ¬d.types.getD i co=1:=of_decide_eq_false y;refine gA Z ?_;refine WN (fun A=>?_) (fun A=>?_)
   .have u:d.types.getD i co=2:=of_decide_eq_true A;rw[Hi,be j,am u]at hs;refine gA Z (go_wp (d147 (aT w2 [xj]) [Uh] (by simp) (by rw[bu,I];omega)) Z Z Z Z Z Z Z Z Z Z Z Z ?_);refine gA Z ⟨h1,ac,_,KH (hs.symm) Z Z Z Z (by first|exact .refl _|exact .kb _) (by first|exact .refl _|exact .kb _) Z Z Z Z Z (bi (bi (bi (bi ac))))⟩
   .have u: ¬d.types.getD i co=2:=of_decide_eq_false A;rw[Hi,be j,be u]at hs;refine gA Z ⟨h1,ac,_,KH (hs.symm) Z Z Z Z (by first|exact .refl _|exact .kb _) (by first|exact .refl _|exact .kb _) Z Z Z Z Z (bi (bi (bi (bi ac))))⟩
 .have x:i=0:=by have:=of_decide_eq_false x;omega
  rw[ff,am x]at hs B;refine gA Z ?_;refine WN (fun y=>?_) (fun y=>?_)
  .have j:d.types.getD i co=1:=of_decide_eq_true y;rw[Hi,am j]at hs;refine gA Z (go_wp (d147 w2 [Uq] (by simp) (by rw[bu,G];omega)) Z Z Z Z Z Z Z Z Z Z Z Z ?_);refine gA Z ⟨h1,ac,_,KH (hs.symm) Z Z Z Z (by first|exact .refl _|exact .kb _) (by first|exact .refl _|exact .kb _) Z Z Z Z Z (bi (bi (bi (bi ac))))⟩
  .have j: ¬d.types.getD i co=1:=of_decide_eq_false y;refine gA Z ?_;refine WN (fun A=>?_) (fun A=>?_)
   .have u:d.types.getD i co=2:=of_decide_eq_true A;rw[Hi,be j,am u]at hs;refine gA Z (go_wp (d147 w2 [Uh] (by simp) (by rw[bu,I];omega)) Z Z Z Z Z Z Z Z Z Z Z Z ?_);refine gA Z ⟨h1,ac,_,KH (hs.symm) Z Z Z Z (by first|exact .refl _|exact .kb _) (by first|exact .refl _|exact .kb _) Z Z Z Z Z (bi (bi (bi (bi ac))))⟩
   .have u: ¬d.types.getD i co=2:=of_decide_eq_false A;rw[Hi,be j,be u]at hs;refine gA Z ⟨h1,ac,_,KH (hs.symm) Z Z Z Z (by first|exact .refl _|exact .kb _) (by first|exact .refl _|exact .kb _) Z Z Z Z Z (bi (bi (bi (bi ac))))⟩
def p3(w:WS)(r:aw):WS:=if r.body=[] then iH w r.head else dd (dB (Lit.aD r.body)) r.body (aT (iH w r.head) [S4]) r.body.length
def aw.ts(r:aw):Nat:=r.head.ts+Lit.lf r.body+30
theorem xP(w:WS)(r:aw):(p3 w r).l.length+10<=w.l.length+r.ts:=by
 have e:S4.size=4:=rfl;have h1:=pG w r.head;unfold p3 aw.ts;split
 .omega
 .have j:=mJ (dB (Lit.aD r.body)) (rU _) r.body (aT (iH w r.head) [S4]) r.body.length (WY _);rw[aK,e,X7]at j;omega
theorem Ij(w:WS)(r:aw):(p3 w r).br=w.br:=by
 unfold p3;split
 .exact mM _ _
 .rw[mK _ (uH _),bP,mM]
theorem RE(w:WS)(r:aw)(hs:Lit.aD r.body<=100000000)(j:0<=w.br)(u:w.br<=16)(hb:w.l.length+r.ts<=900000000):bf prog 93 [.ptr 0 0,ag r.c] w.O (.aY []) (p3 w r).H 3:=by
 have e:S4.size=4:=rfl;have y:r.ts=r.head.ts+Lit.lf r.body+30:=rfl;have h1:=pG w r.head;refine ak ab func93 Z (by decide) ntmps93 Z (by simp) ?_;refine gA Z (DO (d104 w r.head (by omega)) Z Z Z Z Z Z Z Z Z Z Z Z ?_);refine gA Z ?_;refine WN (fun k=>?_) (fun k=>?_)
 .have x: ¬r.body=[]:=fun h=>by
   have g:=of_decide_eq_true k;rw[h]at g;simp at g
  rw[p3,be x];refine gA Z (go_wp (d147 (iH w r.head) [S4] (by simp) (by rw[bu,e];omega)) Z Z Z Z Z Z Z Z Z Z Z Z ?_);refine gA Z (DO (d214 (Lit.aD r.body) (Sl _ (by omega)) (aT (iH w r.head) [S4]) r.body (WY _) (by rw[bP,mM];exact j) (by rw[bP,mM];exact u) (by rw[aK,e];omega) hs) Z Z Z Z Z Z Z Z Z Z Z Z ?_);refine gA Z (yE (by first|exact .inr Z|exact .inl Z) Z Z Z Z Z (by first|exact .refl _|exact .kb _) (by first|exact .refl _|exact .kb _) Z Z Z Z (.refl _) Z Z)
 .have x:r.body=[]:=Xz (by
   have g:=of_decide_eq_false k
   omega)
  rw[p3,am x];refine gA Z (yE (by first|exact .inr Z|exact .inl Z) Z Z Z Z Z (by first|exact .refl _|exact .kb _) (by first|exact .refl _|exact .kb _) Z Z Z Z (.refl _) Z Z)
def gk(l:List Decl)(w:WS):Nat->WS
 |0=>w
 |i+1=>aT (sq (gk l w i) (l.getD i co)) [MD]
def ij(l:List aw)(w:WS):Nat->WS
 |0=>w
 |i+1=>aT (p3 (ij l w i) (l.getD i co)) [MD]
def rG(p:Prog):WS:=ij p.rules (gk p.aF WS.o p.aF.length) p.rules.length
def Prog.ts(p:Prog):Nat:=(p.aF.map Decl.ts).sum+(p.rules.map aw.ts).sum
theorem pd{α:Type}[Inhabited α](f:α->Nat)(l:List α)(i:Nat)(h:i<l.length):((l.take (i+1)).map f).sum=((l.take i).map f).sum+f (l.getD i co):=by
 rw[bS h,W4,List.sum_append];simp
theorem rv{α:Type}(f:α->Nat): ∀(l:List α) (i:Nat),((l.take i).map f).sum<=(l.map f).sum
 | [],i=>by simp
 |s::r,0=>by simp
 |s::r,i+1=>by have:=rv f r i;simp at this ⊢;omega
theorem q8(l:List Decl)(w:WS): ∀i,i<=l.length->(gk l w i).l.length<=w.l.length+((l.take i).map Decl.ts).sum
 |0,_=>by simp[gk]
 |i+1,h=>by
  have e:MD.size=2:=rfl;have h1:=q8 l w i (by omega);have j:=yJ (gk l w i) (l.getD i co);rw[gk,aK,e,pd _ _ _ (by omega)];omega
theorem yI(l:List Decl)(w:WS): ∀i,(gk l w i).br=w.br
 |0=>rfl
 |i+1=>by rw[gk,bP,J2,yI l w i]
theorem qD(l:List aw)(w:WS): ∀i,i<=l.length->(ij l w i).l.length<=w.l.length+((l.take i).map aw.ts).sum
 |0,_=>by simp[ij]
 |i+1,h=>by
  have e:MD.size=2:=rfl;have h1:=qD l w i (by omega);have j:=xP (ij l w i) (l.getD i co);rw[ij,aK,e,pd _ _ _ (by omega)];omega
theorem xO(l:List aw)(w:WS): ∀i,(ij l w i).br=w.br
 |0=>rfl
 |i+1=>by rw[ij,bP,Ij,xO l w i]
theorem RJ(p:Prog)(hs:p.size<=100000000)(hb:p.ts<=800000000):Pure prog 61 [ag p.c] (rG p).told:=by
 have e:MD.size=2:=rfl;have e0:WS.o.l.length=0:=rfl;unfold Prog.ts at hb;unfold Prog.size at hs;refine ah ab func61 Z (by decide) ntmps61 Z (by simp) Z ?_;refine gM 12 Z (Ab 1 Z Z ?_);refine gA Z ?_;refine aM 0 p.aF.length (W2 _) (fun i=>⟨[(1,.ptr 0 0),(4,.ptr 1 0),(12,.iv (aW 4 p.aF Decl.c)),(13,pI p.aF.length),(14,pI i)],[(0,io (aG p.c)),(1,io ((gk p.aF WS.o i).rf 1 3)),(3,io (.bw (gk p.aF WS.o i).l 5))],4⟩) (fun _=>True) [2] ac
  (wk Z Z Z (bi (bi (bi (bi (bi trivial))))) (hC Z Z Z ⟨⟨_,rfl,.of_eq Z⟩,WL Z,rfl,⟨_,rfl,.of_eq Z⟩,WL Z,ac,ac⟩) Z) fun i hi _=>?_
 have C:=q8 p.aF WS.o i hi;have b0:=rv Decl.ts p.aF i;refine gA Z ?_;refine WN (fun h1=>?_) (fun h1=>?_)
 .have h1:i<p.aF.length:=by simpa using h1
  have j:gk p.aF WS.o (i+1)=aT (sq (gk p.aF WS.o i) (p.aF.getD i co)) [MD]:=rfl;have B:=yJ (gk p.aF WS.o i) (p.aF.getD i co);have D:=pd Decl.ts p.aF i h1;have A:=rv Decl.ts p.aF (i+1);generalize gk p.aF WS.o i=w2 at*
  refine gA Z (DO (F8 w2 (p.aF.getD i co) (by omega)) Z Z Z Z Z Z Z Z Z Z Z Z ?_);refine gA Z (go_wp (d147 (sq w2 (p.aF.getD i co)) [MD] (by simp) (by rw[bu,e];omega)) Z Z Z Z Z Z Z Z Z Z Z Z ?_);refine gA Z ⟨h1,ac,[7],wk Z Z Z (bi (bi (bi (bi (bi ac))))) (hC Z Z Z ⟨⟨_,rfl,.of_eq (by rw[j];rfl)⟩,WL Z,rfl,⟨_,rfl,.of_eq (by rw[j];rfl)⟩,WL Z,ac,ac⟩) Z⟩
 .have h1:p.aF.length<=i:=by simpa using h1
  have x:i=p.aF.length:=by omega
  subst x;have y:(gk p.aF WS.o p.aF.length).br=0:=yI _ _ _;rw[X7]at C;generalize J:gk p.aF WS.o p.aF.length=w1 at*
  refine gA Z ?_;refine aM 0 p.rules.length (W2 _) (fun i=>⟨[(4,.ptr 1 0),(26,.iv (aW 5 p.rules aw.c)),(27,pI p.rules.length),(28,pI i)],[(1,io ((ij p.rules w1 i).rf 1 4)),(4,io (.bw (ij p.rules w1 i).l 5))],5⟩) (fun _=>True) [3] ac
   (wk Z Z Z (bi (bi (bi (bi trivial)))) ⟨⟨_,rfl,.of_eq Z⟩,WL Z,rfl,⟨_,rfl,.of_eq Z⟩,WL Z,ac,ac⟩ Z) fun i hi _=>?_
  have G:=qD p.rules w1 i hi;have A:=rv aw.ts p.rules i;have Y:=(xO p.rules w1 i).trans y;refine gA Z ?_;refine WN (fun u=>?_) (fun u=>?_)
  .have u:i<p.rules.length:=by simpa using u
   have j:ij p.rules w1 (i+1)=aT (p3 (ij p.rules w1 i) (p.rules.getD i co)) [MD]:=rfl;have B:=xP (ij p.rules w1 i) (p.rules.getD i co);have D:=pd aw.ts p.rules i u;have I:=rv aw.ts p.rules (i+1);have c0:=pe aw.size p.rules i u;have a0:(p.rules.getD i co).size=(p.rules.getD i co).head.an.length+Lit.aD (p.rules.getD i co).body:=rfl;generalize ij p.rules w1 i=w2 at*
   refine gA Z (DO (RE w2 (p.rules.getD i co) (by omega) (by omega) (by omega) (by omega)) Z Z Z Z Z Z Z Z Z Z Z Z ?_);refine gA Z (go_wp (d147 (p3 w2 (p.rules.getD i co)) [MD] (by simp) (by rw[bu,e];omega)) Z Z Z Z Z Z Z Z Z Z Z Z ?_);refine gA Z ⟨u,ac,[8],wk Z Z Z (bi (bi (bi (bi ac)))) ⟨⟨_,rfl,.of_eq (by rw[j];rfl)⟩,WL Z,rfl,⟨_,rfl,.of_eq (by rw[j];rfl)⟩,WL Z,ac,ac⟩ Z⟩
  .have u:p.rules.length<=i:=by simpa using u
   have x:i=p.rules.length:=by omega
   subst x;have hp:ij p.rules w1 p.rules.length=rG p:=by rw[rG,J]
   rw[hp];refine gA Z (ai [1,4] (d105 (rG p)) Z Z Z Z Z Z Z Z ?_);refine gA Z (aH (by first|exact .inr Z|exact .inl Z) Z (.of_eq ?_));rfl
end Go.Proofs.YtlmhfgbkchnfbaaGreatDoor
namespace Go.Proofs.YtlmhfgbkchnfbaaGreatDoor
open Go Go.Al Go.Proofs.Tryz Go.ChangeShapes Go.WideShapes Go.RowKit
section
theorem AV{α:Type}(f:α->Nat): ∀l:List α,(l.map fun x=>f x+1).sum=(l.map f).sum+l.length
 | []=>rfl
 |x::r=>by simp only[WW,Ya,Xn,AV f r];omega
section
variable {H:Type} {enc:TypeId×Value->H} {W:World} {hT:lK W} {sp:Nat->Bool} {held:Bool}
def QD(x:Decl)(d:DataW H):Prop:=x.types.length+1<=bk d∧x.ts<=400*bk d
def QR1(r:aw)(d:DataW H):Prop:=(r.size+1<=bk d∧r.ts<=400*bk d)∧r.head.ts<=400*bk d∧ ∀l∈r.body,l.ts<=400*bk d
def VF(p:Prog)(d:DataW H):Prop:=(p.size<=bk d∧p.ts<=400*bk d)∧p.aF.length<=bk d∧p.rules.length<=bk d∧ ∀r∈p.rules,r.size<=bk d∧r.head.ts<=400*bk d∧ ∀l∈r.body,l.ts<=400*bk d
def QF(f:Fact)(d:DataW H):Prop:=f.args.length<=bk d
theorem Iv(n:Nat):Rd enc prog W hT sp held 152 aw.c QR1 n:=by
 intro m _ cs y h;obtain⟨xs,k,rfl,rfl,hl,Y,hf⟩:=DataW.trod_struct underlying152 h
 match xs,Y with
 | [x0,x1,x2],_=>
  obtain⟨a,A,qa⟩:=EM (hT:=hT) k k (WY _) _ _ (nV hf 0 Z Z Z wF Z);obtain⟨b,B,j⟩:=MQ (hT:=hT) k k (WY _) _ _ (nV hf 1 Z Z Z CE Z);obtain⟨c,C,qc⟩:=Dn (hT:=hT) k k (WY _) _ _ (nV hf 2 Z Z Z uS Z);refine⟨⟨a,b,c⟩,A.fm (o':=2) Z (B.fm (o':=3) Z (C.fm (o':=5) Z (.end_ (hl.trans CD)))),?_⟩;have u:=j.sum (f:=Lit.size) (c:=1) fun _ _ h=>by have:=h.2;omega
  rw[<-Lit.gq]at u;have x:=j.sum (f:=Lit.ts) (c:=400) fun _ _ h=>h.1;rw[<-Lit.o9]at x;obtain⟨D,G⟩:=qa;simp only[bk]at u D G x;refine⟨⟨?_,?_⟩,?_,fun l hl=>?_⟩
  .simp only[aw.size,bk,WW,W7,Rows.uptoBulk,Rows.uptoBulkAll];omega
  .simp only[aw.ts,bk,WW,W7,Rows.uptoBulk,Rows.uptoBulkAll];omega
  .simp only[bk,WW,W7,Rows.uptoBulk,Rows.uptoBulkAll];omega
  .obtain⟨e,⟨I,_⟩,J⟩:=j.all l hl;simp only[bk]at I J;simp only[bk,WW,W7,Rows.uptoBulk,Rows.uptoBulkAll];omega
theorem MR(n:Nat):Rd enc prog W hT sp held 3 kj (fun _ _=>True) n:=by
 intro m u j y h;obtain⟨z,x,_⟩:=kD (hT:=hT) underlying3 n m u j y h;exact⟨z,x,ac⟩
theorem MT(n:Nat):Rd enc prog W hT sp held 57 Decl.c QD n:=by
 intro m _ J y h;obtain⟨I,k,rfl,rfl,hl,C,hf⟩:=DataW.trod_struct underlying57 h
 match I,C with
 | [x0,x1,x2],_=>
  obtain⟨a,u,D,_⟩:=jj (hT:=hT) underlying9 k k (WY _) _ _ (nV hf 0 Z Z Z re Z);obtain⟨b,x,G⟩:=(fR (hT:=hT) underlying35 kV (by decide) (fun _=>rfl) (MR k)).mono (Yh k) k (WY _) _ _ (nV hf 1 Z Z Z N7 Z);obtain⟨c,A,Y⟩:=Dn (hT:=hT) k k (WY _) _ _ (nV hf 2 Z Z Z uS Z);refine⟨⟨a,b,c⟩,u.fm (o':=1) Z (x.fm (o':=2) Z (A.fm (o':=4) Z (.end_ (hl.trans Fy)))),?_⟩;have B:=G.len;have j:=tq (H:=H) a;rw[<-D]at j;simp only[bk]at B j;refine⟨?_,?_⟩
  .simp only[bk,WW,W7,Rows.uptoBulk,Rows.uptoBulkAll];omega
  .simp only[Decl.ts,bk,WW,W7,Rows.uptoBulk,Rows.uptoBulkAll];omega
theorem MP(n:Nat):Rd enc prog W hT sp held 25 Prog.c VF n:=by
 intro m _ cs y h;obtain⟨xs,k,rfl,rfl,hl,hx,hf⟩:=DataW.trod_struct underlying25 h
 match xs,hx with
 | [x0,x1],_=>
  obtain⟨a,B,A⟩:=(fR (hT:=hT) underlying22 Fy (by decide) (fun _=>rfl) (MT k)).mono (Yh k) k (WY _) _ _ (nV hf 0 Z Z Z Oa Z);obtain⟨b,C,j⟩:=(fR (hT:=hT) underlying23 CD (by decide) (fun _=>rfl) (Iv k)).mono (Yh k) k (WY _) _ _ (nV hf 1 Z Z Z N9 Z);refine⟨⟨a,b⟩,B.fm (o':=1) Z (C.fm (o':=2) Z (.end_ (hl.trans N8))),?_⟩;have h1:=A.sum (f:=fun d=>d.types.length+1) (c:=1) fun _ _ h=>by
   simp only[QD]at h;omega
  have u:=j.sum (f:=fun r=>r.size+1) (c:=1) fun _ _ h=>by have:=h.1.1;omega
  rw[AV]at h1 u;have J:=A.sum (f:=Decl.ts) (c:=400) fun _ _ h=>h.2;have Y:=j.sum (f:=aw.ts) (c:=400) fun _ _ h=>h.1.2;simp only[bk]at h1 u J Y;refine⟨⟨?_,?_⟩,?_,?_,fun r hr=>?_⟩
  .simp only[Prog.size,bk,WW,W7,Rows.uptoBulk,Rows.uptoBulkAll];omega
  .simp only[Prog.ts,bk,WW,W7,Rows.uptoBulk,Rows.uptoBulkAll];omega
  .simp only[bk,WW,W7,Rows.uptoBulk,Rows.uptoBulkAll];omega
  .simp only[bk,WW,W7,Rows.uptoBulk,Rows.uptoBulkAll];omega
  .obtain⟨e,⟨⟨D,_⟩,G,x⟩,I⟩:=j.all r hr;simp only[bk]at D G x I;refine⟨?_,?_,fun l hl=>?_⟩
   .simp only[bk,WW,W7,Rows.uptoBulk,Rows.uptoBulkAll];omega
   .simp only[bk,WW,W7,Rows.uptoBulk,Rows.uptoBulkAll];omega
   .have:=x l hl;simp only[bk,WW,W7,Rows.uptoBulk,Rows.uptoBulkAll];omega
theorem MS(n:Nat):Rd enc prog W hT sp held 62 Fact.c QF n:=by
 intro m _ D y h;obtain⟨C,k,rfl,rfl,hl,A,hf⟩:=DataW.trod_struct underlying62 h
 match C,A with
 | [x0,x1],_=>
  obtain⟨a,j,G,_⟩:=jj (hT:=hT) underlying9 k k (WY _) _ _ (nV hf 0 Z Z Z re Z);obtain⟨b,u,B⟩:=(fR (hT:=hT) underlying60 uR (by decide) (fun _=>rfl) (rd_val k)).mono (Yh k) k (WY _) _ _ (nV hf 1 Z Z Z N5 Z);refine⟨⟨a,b⟩,j.fm (o':=1) Z (u.fm (o':=2) Z (.end_ (hl.trans Fx))),?_⟩;have x:=B.len;simp only[bk]at x;simp only[QF,bk,WW,W7,Rows.uptoBulk,Rows.uptoBulkAll];omega
end
theorem SA{H:Type}{p:Prog}{d:DataW H}(h:VF p d)(hb:bk d<=1048576):p.fit:=by
 obtain⟨⟨h1,_⟩,x,y,j⟩:=h;refine⟨by omega,by omega,fun r hr=>?_⟩;obtain⟨A,B,u⟩:=j r hr;exact⟨by omega,by omega,fun l hl=>by have:=u l hl;omega⟩
theorem Ks{H:Type}{enc:TypeId×Value->H}{W:World}(hT:lK W){v:Value}{d:DataW H}{p:List MemPlace}(j: ∃base,Value.okWide prog W .any base 25 v)(h:DataW.Trod enc prog W 0 (fun _=>jp) jp 25 v d p):
  ∃x:Prog,VF x d∧VR (Mem.qN W hT) S6 (· <0) (ag x.c) v:=by
 obtain⟨base,j⟩:=j;obtain⟨A,rfl,_⟩:=okWide_struct underlying25 j;obtain⟨n,y⟩:=h;obtain⟨r,h1,u⟩:=MP (hT:=hT) n n (WY _) _ _ y;exact⟨r,u,h1.agg⟩
theorem Hs{M:Mem}{N:Nm}{U:Nat->Prop}{p:IV}{a:Option Addr}{l c:Nat}(h:CR M [p] (Value.slice a l c).cells.toList):VR M N U (.iv p) (.slice a l c):= .iv _ _ (h.2 0 p Z)
end
end Go.Proofs.YtlmhfgbkchnfbaaGreatDoor
namespace Go.Bo
section
structure TO {α:Type} (c:α->α->Int):Prop where
 eq: ∀x y,c x y=0↔x=y
 neg: ∀x y,c y x<0↔0<c x y
 tr: ∀x y z,c x y<0->c y z<0->c x z<0
section
variable {α:Type} {c:α->α->Int} (h:TO c)
include h
theorem TO.refl(x:α):c x x=0:=(h.eq x x).2 Z
theorem TO.Sp(x:α): ¬c x x<0:=by rw[h.refl];omega
theorem TO.asym{x y:α}(a:c x y<0): ¬c y x<0:=fun b=>by have:=(h.neg x y).1 b;omega
theorem TO.S3{x y:α}(a: ¬c x y<0)(b: ¬c y x<0):x=y:=by
 refine(h.eq x y).1 ?_;have:=(h.neg x y).2;omega
theorem TO.VA{x y z:α}(a: ¬c x y<0)(b: ¬c y z<0): ¬c x z<0:=fun g=>by
 by_cases e:c y x<0
 .exact b (h.tr _ _ _ e g)
 .rw[h.S3 a e]at g;exact b g
end
def vE(a b:Int):Int:=if a=0 then b else a
theorem EN{a b j u:Int}(h1:j<0↔0<a)(x:a<0↔0<j)(y:u<0↔0<b):vE j u<0↔0<vE a b:=by
 unfold vE;split<;>split<;>omega
theorem TO.pair{α β:Type}{c:α->α->Int}{d:β->β->Int}(h:TO c)(g:TO d):TO fun(x y:α×β)=>vE (c x.1 y.1) (d x.2 y.2) where
 eq:=fun x y=>by
  unfold vE;constructor
  .intro e;split at e
   .rename_i a;exact Prod.ext ((h.eq _ _).1 a) ((g.eq _ _).1 e)
   .rename_i a;exact absurd e a
  .rintro rfl;rw[am (h.refl _)];exact g.refl _
 neg:=fun x y=>EN (h.neg _ _) (h.neg _ _) (g.neg _ _)
 tr:=fun x y z a b=>by
  unfold vE at*
  by_cases u:c x.1 y.1=0
  .rw[am u]at a;have A:=(h.eq _ _).1 u;rw[A];by_cases j:c y.1 z.1=0
   .rw[am j]at b ⊢;exact g.tr _ _ _ a b
   .rw[be j]at b ⊢;exact b
  .rw[be u]at a;by_cases j:c y.1 z.1=0
   .rw[<-(h.eq _ _).1 j,be u];exact a
   .rw[be j]at b;have:=h.tr _ _ _ a b;rw[be (by omega)];exact this
theorem TO.map{α β:Type}{c:β->β->Int}(h:TO c)(f:α->β)(hf: ∀x y,f x=f y->x=y):TO fun x y=>c (f x) (f y) where
 eq:=fun x y=>(h.eq _ _).trans ⟨hf x y,fun e=>by rw[e]⟩
 neg:=fun x y=>h.neg _ _
 tr:=fun x y z=>h.tr _ _ _
def cmpL{α:Type}(c:α->α->Int):List α->List α->Int
 | [],[]=>0
 | [],_::_=> -1
 |_::_,[]=>1
 |x::a,y::b=>vE (c x y) (cmpL c a b)
theorem TO.list{α:Type}{c:α->α->Int}(h:TO c):TO (cmpL c) where
 eq:=by
  intro x
  induction x with
  |nil=>intro y;cases y<;>simp[cmpL]
  |cons x a ih=>
   intro y;cases y with
   |nil=>simp[cmpL]
   |cons y b=>
    simp only[cmpL,vE,Z2];constructor
    .intro e;split at e
     .rename_i q;exact⟨(h.eq _ _).1 q,(ih b).1 e⟩
     .rename_i q;exact absurd e q
    .rintro⟨rfl,rfl⟩;rw[am (h.refl _)];exact(ih a).2 Z
 neg:=by
  intro x
  induction x with
  |nil=>intro y;cases y<;>simp[cmpL]
  |cons x a ih=>
   intro y;cases y with
   |nil=>simp[cmpL]
   |cons y b=>exact EN (h.neg _ _) (h.neg _ _) (ih b)
 tr:=by
  intro x
  induction x with
  |nil=>
   intro y z a b;cases y with
   |nil=>simp[cmpL]at a
   |cons y y'=>cases z with
    |nil=>simp[cmpL]at b
    |cons z z'=>simp[cmpL]
  |cons x x' ih=>
   intro y z a b;cases y with
   |nil=>simp[cmpL]at a
   |cons y y'=>cases z with
    |nil=>simp[cmpL]at b
    |cons z z'=>
     simp only[cmpL,vE] at*
     by_cases u:c x y=0
     .rw[am u]at a;rw[(h.eq _ _).1 u];by_cases j:c y z=0
      .rw[am j]at b ⊢;exact ih _ _ a b
      .rw[be j]at b ⊢;exact b
     .rw[be u]at a;by_cases j:c y z=0
      .rw[<-(h.eq _ _).1 j,be u];exact a
      .rw[be j]at b;have:=h.tr _ _ _ a b;rw[be (by omega)];exact this
def oS(a b:Int):Int:=if a<b then-1 else if b<a then 1 else 0
theorem TO.int:TO oS where
 eq:=fun x y=>by unfold oS;split<;>(try split)<;>omega
 neg:=fun x y=>by unfold oS;split<;>(try split)<;>(try split)<;>(try split)<;>omega
 tr:=fun x y z=>by unfold oS;split<;>(try split)<;>(try split)<;>(try split)<;>(try split)<;>omega
section
variable {α:Type} (c:α->α->Int)
def rk(l:List α):Prop:=l.Pairwise fun x y=>c x y<0
def ins(x:α):List α->List α
 | []=> [x]
 |y::r=>if c x y<0 then x::y::r else if c y x<0 then y::ins x r else y::r
def tB(l:List α):List α:=l.foldr (ins c) []
theorem rk.filter{c:α->α->Int}{l:List α}(hs:rk c l)(p:α->Bool):rk c (l.filter p):=Y3 p hs
variable {c} (h:TO c)
include h
theorem mZ{x y:α}: ∀{l:List α},y∈ins c x l↔y=x∨y∈l
 | []=>by simp[ins]
 |z::r=>by
  unfold ins;split
  .simp
  .split
   .simp only[Xa,mZ (l:=r)];constructor
    .rintro(a|a|a)<;>simp[a]
    .rintro(a|a|a)<;>simp[a]
   .rename_i a b;have:=h.S3 a b;subst this;simp
theorem Em{x:α}: ∀{l:List α},rk c l->rk c (ins c x l)
 | [],_=>by simp[ins,rk]
 |z::r,hs=>by
  have j:=XZ.1 hs;unfold ins;split
  .rename_i a;refine XZ.2 ⟨fun y hy=>?_,hs⟩;rcases Xa.1 hy with rfl|hy
   .exact a
   .exact h.tr _ _ _ a (j.1 y hy)
  .split
   .rename_i a b;refine XZ.2 ⟨fun y hy=>?_,Em j.2⟩;rcases(mZ h).1 hy with rfl|hy
    .exact b
    .exact j.1 y hy
   .exact hs
theorem s4{y:α}: ∀{l:List α},y∈tB c l↔y∈l
 | []=>by simp[tB]
 |x::l=>by
  show y∈ins c x (tB c l)↔_;rw[mZ h,s4,Xa]
theorem sG: ∀(l:List α),rk c (tB c l)
 | []=>Y0
 |x::l=>Em h (sG l)
theorem Eo: ∀{a b:List α},rk c a->rk c b->(∀x,x∈a↔x∈b)->a=b
 | [],[],_,_,_=>rfl
 | [],y::b,_,_,e=>absurd ((e y).2 (W8 ..)) (by simp)
 |x::a,[],_,_,e=>absurd ((e x).1 (W8 ..)) (by simp)
 |x::a,y::b,ha,hb,e=>by
  have j:=XZ.1 ha;have u:=XZ.1 hb;have B:x=y:=by
   rcases Xa.1 ((e x).1 (W8 ..)) with q|q
   .exact q
   .rcases Xa.1 ((e y).2 (W8 ..)) with r|r
    .exact r.symm
    .exact absurd (u.1 x q) (h.asym (j.1 y r))
  subst B;have A: ∀{l:List α},(∀z∈l,c x z<0)->x∉l:=fun g m=>h.Sp x (g x m);rw[Eo j.2 u.2 fun z=>⟨fun m=>?_,fun m=>?_⟩]
  .rcases Xa.1 ((e z).1 (W5 _ m)) with q|q
   .subst q;exact absurd m (A j.1)
   .exact q
  .rcases Xa.1 ((e z).2 (W5 _ m)) with q|q
   .subst q;exact absurd m (A u.1)
   .exact q
theorem rk.nodup{l:List α}(hs:rk c l):l.Nodup:=ZR (fun a e=>by subst e;exact h.Sp _ a) hs
end
end
end Go.Bo
namespace Go.Proofs.YtlmhfgbkchnfbaaGreatDoor
open Go Go.Al Go.Bo
deriving instance DecidableEq for Fact
def T3(s:aq):List Int:=s.data.toList.map fun b=>(b.toNat:Int)
theorem Mf{a b:aq}(h:T3 a=T3 b):a=b:=by
 have:a.data.toList=b.data.toList:=List.map_inj_right (fun x y e=>UInt8.toNat_inj.1 (Int.ofNat.inj e))|>.1 h;cases a;cases b;simp only[ByteArray.mk.injEq];exact ZT.1 this
def sY(a b:aq):Int:=cmpL oS (T3 a) (T3 b)
def Cx(a b:cS):Int:=vE (oS a.kind b.kind) (vE (oS a.num b.num) (sY a.sym b.sym))
def wC(a b:List cS):Int:=cmpL Cx a b
def aV(a b:Fact):Int:=vE (sY a.rel b.rel) (wC a.args b.args)
theorem toS:TO sY:=TO.int.list.map T3 fun _ _=>Mf
theorem toV:TO Cx:=(TO.int.pair (TO.int.pair toS)).map (fun v:cS=>(v.kind,v.num,v.sym)) fun x y e=>by
 cases x;cases y;simp only[W3]at e;obtain⟨rfl,rfl,rfl⟩:=e;rfl
theorem pb:TO aV:=(toS.pair toV.list).map (fun f:Fact=>(f.rel,f.args)) fun x y e=>by
 cases x;cases y;simp only[W3]at e;obtain⟨rfl,rfl⟩:=e;rfl
def Qw:Nat->FS
 |0=> []
 |n+1=>io .i64::io .i64::is::Qw n
abbrev Nt:FS:=is::io .i64::Qw 8
def As:(n:Nat)->List cS->FK (Qw n)
 |0,_=>()
 |n+1,[]=>(0,0,W0,As n [])
 |n+1,v::r=>(v.kind,v.num,v.sym,As n r)
def cA(f:Fact):FK Nt:=(f.rel,(f.args.length:Int),As 8 f.args)
theorem CL: ∀(n:Nat) (a b:List cS),a.length=b.length->a.length<=n->As n a=As n b->a=b
 |_,[],[],_,_,_=>rfl
 |_,[],_::_,h,_,_=>by simp at h
 |_,_::_,[],h,_,_=>by simp at h
 |0,_::_,_::_,_,h,_=>by simp at h
 |n+1,v::a,u::b,h,g,e=>by
  have j:(v.kind,v.num,v.sym,As n a)=(u.kind,u.num,u.sym,As n b):=e;rw[W3,W3,W3]at j;obtain⟨x,y,A,B⟩:=j;rw[CL n a b (by simpa using h) (by simpa using g) B];cases v;cases u;simp only at x y A;subst x y A;rfl
theorem rX{f g:Fact}(hf:f.args.length<=8)(e:cA f=cA g):f=g:=by
 have j:(f.rel,(f.args.length:Int),As 8 f.args)=(g.rel,(g.args.length:Int),As 8 g.args):=e;rw[W3,W3]at j;obtain⟨u,y,x⟩:=j;have:=CL 8 f.args g.args (by omega) hf x;cases f;cases g;simp only at u this;subst u this;rfl
end Go.Proofs.YtlmhfgbkchnfbaaGreatDoor
namespace Go.Bo
section
abbrev bZ(F:Type):=Bool×F
def w5{F:Type}(c:F->F->Int)(l:List (bZ F)):Prop:=l.Pairwise fun x y=>c x.2 y.2<0
theorem Mm{F:Type}{c:F->F->Int}{l:List F}(hl:rk c l)(g:F->Option (bZ F))(hg: ∀f x,g f=io x->x.2=f):w5 c (l.filterMap g):=by
 refine List.Pairwise.filterMap g (fun x y a u hu v j=>?_) hl;rw[hg _ _ hu,hg _ _ j];exact a
theorem w5.facts{F:Type}{c:F->F->Int}{l:List (bZ F)}(hl:w5 c l):rk c (l.map (·.2)):=List.pairwise_map.2 hl
theorem xJ{F:Type}{c:F->F->Int}: ∀(l:List F),(tB c l).length<=l.length
 | []=>WY _
 |x::l=>by
  have key: ∀(m:List F),(ins c x m).length<=m.length+1:=by
   intro m
   induction m with
   |nil=>exact WY _
   |cons y r ih=>
    unfold ins;split
    .exact WY _
    .split
     .exact aam ih
     .exact Yh _
  exact XR (key _) (aam (xJ l))
section
variable {F:Type} [DecidableEq F] (c:F->F->Int)
def dN(l:List (bZ F))(f:F):Option Bool:=(l.reverse.find? fun x=>lc (x.2=f)).map (·.1)
def dI(S:List F)(l:List (bZ F)):List (bZ F):=
 (tB c (l.map (·.2))).filterMap fun f=>(dN l f).bind fun a=>if lc (f∈S)=a then is else io (a,f)
def fX(S:List F)(l:List (bZ F)):List F:=(tB c (S++l.map (·.2))).filter fun f=>(dN l f).getD jp
variable {c}
theorem qR{l:List (bZ F)}{f:F}:dN l f=is↔f∉l.map (·.2):=by
 unfold dN;rw[Zb,YX];simp only[aan,decide_eq_true_eq,Xw,not_exists,not_and]
theorem iA{l:List (bZ F)}{f:F}{a:Bool}(e:dN l f=io a):(a,f)∈l:=by
 unfold dN at e;rw[WZ]at e;obtain⟨x,h1,rfl⟩:=e;have j:=List.find?_some h1;have u:=List.mem_of_find?_eq_some h1;rw[decide_eq_true_eq]at j;rw[<-j];exact aan.1 u
theorem DE{l:List (bZ F)}{f:F}(hm:f∈l.map (·.2)): ∃a,dN l f=io a:=by
 cases e:dN l f with
 |none=>exact absurd hm (qR.1 e)
 |some a=>exact⟨a,rfl⟩
theorem jE(h:TO c){S:List F}{l:List (bZ F)}{a:Bool}{f:F}:(a,f)∈dI c S l↔dN l f=io a∧lc (f∈S)≠a:=by
 unfold dI;rw[List.mem_filterMap];constructor
 .rintro⟨g,_,e⟩;cases e1:dN l g with
  |none=>rw[e1]at e;cases e
  |some b=>
   rw[e1,Y7]at e;split at e
   .cases e
   .rename_i q;cases e;exact⟨e1,q⟩
 .rintro⟨e1,e2⟩;refine⟨f,(s4 h).2 (Xw.2 ⟨_,iA e1,rfl⟩),?_⟩;rw[e1,Y7,be e2]
theorem rT(h:TO c){S:List F}{l:List (bZ F)}{f:F}:f∈fX c S l↔(dN l f=io jp∨dN l f=is∧f∈S):=by
 unfold fX;rw[Xu,s4 h,Xf];cases e:dN l f with
 |none=>have:=qR.1 e;simp[this]
 |some a=>
  have:f∈l.map (·.2):=Xw.2 ⟨_,iA e,rfl⟩;cases a<;>simp[this]
theorem ry(h:TO c)(S:List F)(l:List (bZ F)):rk c (fX c S l):=(sG h _).filter _
theorem pf(h:TO c)(S:List F)(l:List (bZ F)):w5 c (dI c S l):=Mm (sG h _) _ fun f x e=>by
 cases e1:dN l f with
 |none=>rw[e1]at e;cases e
 |some b=>
  rw[e1,Y7]at e;split at e
  .cases e
  .cases e;rfl
theorem HE(S:List F)(l:List (bZ F)):(dI c S l).length<=l.length:=by
 have:=List.length_filterMap_le (fun f=>(dN l f).bind fun a=>if lc (f∈S)=a then is else io (a,f)) (tB c (l.map (·.2)));have j:=xJ (c:=c) (l.map (·.2));rw[Xk]at j;exact XR this j
theorem IT(h:TO c){S:List F}(hS:rk c S)(l:List (bZ F)):
  (fX c S l).length+((dI c S l).filter fun x=>!x.1).length=S.length+((dI c S l).filter fun x=>x.1).length:=by
 have hT:=pf h S l;have A: ∀q:bZ F->Bool,(((dI c S l).filter q).map (·.2)).Nodup:=fun q=>
  (w5.facts (Y3 q hT)).nodup h
 have y:(S.filter fun f=>lc ((kw,f)∉dI c S l)).Nodup:=(hS.filter _).nodup h;have j: ∀(b:Bool) (f:F),f∈((dI c S l).filter fun x=>x.1==b).map (·.2)↔(b,f)∈dI c S l:=fun b f=>by
  rw[Xw];constructor
  .rintro⟨x,hx,rfl⟩;rw[Xu,beq_iff_eq]at hx;rw[<-hx.2];exact hx.1
  .intro m;exact⟨_,Xu.2 ⟨m,beq_self_eq_true b⟩,rfl⟩
 have C:(fX c S l).Perm ((S.filter fun f=>lc ((kw,f)∉dI c S l))++((dI c S l).filter fun x=>x.1==jp).map (·.2)):=by
  refine(Yw ((ry h S l).nodup h) ?_).2 fun f=>?_
  .refine Yt.2 ⟨y,A _,fun f hf g u e=>?_⟩;subst e;rw[Xu]at hf;have:=(jE h).1 ((j jp f).1 u);exact this.2 (decide_eq_true hf.1)
  .rw[Xf,Xu,j,decide_eq_true_eq,jE h,jE h,rT h];by_cases m:f∈S<;>cases e:dN l f with
   |none=>simp[m]
   |some b=>cases b<;>simp[m]
 have D:S.Perm ((S.filter fun f=>lc ((kw,f)∉dI c S l))++((dI c S l).filter fun x=>x.1==kw).map (·.2)):=by
  refine(Yw (hS.nodup h) ?_).2 fun f=>?_
  .refine Yt.2 ⟨y,A _,fun f hf g u e=>?_⟩;subst e;rw[Xu,decide_eq_true_eq]at hf;exact hf.2 ((j kw f).1 u)
  .rw[Xf,Xu,j,decide_eq_true_eq,jE h];by_cases m:f∈S<;>cases e:dN l f with
   |none=>simp[m]
   |some b=>cases b<;>simp[m]
 have l1:=C.length_eq;have B:=D.length_eq;rw[WO,Xk]at l1 B;have c1:((dI c S l).filter fun x=>x.1==jp)=(dI c S l).filter fun x=>x.1:=YS fun x _=>by cases x.1<;>rfl
 have c2:((dI c S l).filter fun x=>x.1==kw)=(dI c S l).filter fun x=>!x.1:=YS fun x _=>by cases x.1<;>rfl
 rw[c1]at l1;rw[c2]at B;omega
theorem GN{B:List F}{f:F}{a:Bool}:dN (B.map fun x=>(jp,x)) f=io a↔a=jp∧f∈B:=by
 constructor
 .intro e;obtain⟨x,u,j⟩:=Xw.1 (iA e);cases j;exact⟨rfl,u⟩
 .rintro⟨rfl,m⟩;obtain⟨a,e⟩:=DE (l:=B.map fun x=>(jp,x)) (f:=f) (by rw[XX];exact Xw.2 ⟨f,m,rfl⟩);rw[e];obtain⟨x,_,j⟩:=Xw.1 (iA e);cases j;rfl
theorem vV{B:List F}{f:F}:dN (B.map fun x=>(jp,x)) f=is↔f∉B:=by
 rw[qR,XX];show f∉B.map id↔_;rw[List.map_id]
theorem I2(h:TO c){S B:List F}{f:F}:f∈fX c S (B.map fun x=>(jp,x))↔f∈B∨f∈S:=by
 rw[rT h,GN,vV];by_cases m:f∈B<;>simp[m]
theorem BP(h:TO c){S B:List F}(j:rk c (S++B)):fX c S (B.map fun x=>(jp,x))=S++B:=
 Eo h (ry h _ _) j fun f=>by rw[I2 h,Xf,Or.comm]
end
section
variable {F:Type} (c:F->F->Int)
def ef:List F->List F->List (bZ F)
 | [],b=>b.map fun f=>(jp,f)
 |a,[]=>a.map fun f=>(kw,f)
 |x::a,y::b=>if c x y<0 then(kw,x)::ef a (y::b) else if 0<c x y then(jp,y)::ef (x::a) b else ef a b
 termination_by a b=>a.length+b.length
variable {c}
theorem mY(b:List F):ef c [] b=b.map fun f=>(jp,f):=by unfold ef;rfl
theorem tM(a:List F):ef c a []=a.map fun f=>(kw,f):=by
 cases a with
 |nil=>unfold ef;rfl
 |cons=>unfold ef;rfl
theorem BR(x y:F)(a b:List F):ef c (x::a) (y::b)=if c x y<0 then(kw,x)::ef c a (y::b) else if 0<c x y then(jp,y)::ef c (x::a) b else ef c a b:=by
 rw[ef]
structure dV (c:F->F->Int) (ok:F->Bool) (S:List F):Prop where
 AA:rk c S
 ok: ∀f∈S,ok f=jp
 KN:S.length<=65536
theorem dV.nil(c:F->F->Int)(ok:F->Bool):dV c ok []:=⟨Y0,fun _ m=>(nomatch m),W2 _⟩
variable [DecidableEq F]
def iU(c:F->F->Int)(ok:F->Bool)(S:List F)(l:List (bZ F)):Int:=
 if 4096<l.length then 2 else if(l.all fun x=>ok x.2)=kw then 5 else if 65536<(fX c S l).length then 3 else 0
abbrev Stt(F:Type):=List F×Nat
def j5(c:F->F->Int)(ok:F->Bool)(s:Stt F)(l:List (bZ F)):Stt F:=if iU c ok s.1 l=0 then(fX c s.1 l,s.2+1) else s
theorem kv{ok:F->Bool}{S:List F}{l:List (bZ F)}:iU c ok S l=0↔l.length<=4096∧(∀x∈l,ok x.2=jp)∧(fX c S l).length<=65536:=by
 unfold iU;split
 .exact⟨fun e=>by simp at e,fun e=>by omega⟩
 .split
  .rename_i q r;refine⟨fun e=>by simp at e,fun e=>?_⟩;rw[XC.2 e.2.1]at r;cases r
  .split
   .exact⟨fun e=>by simp at e,fun e=>by omega⟩
   .rename_i q r t;refine⟨fun _=>⟨by omega,?_,by omega⟩,fun _=>rfl⟩;rw[Bool.not_eq_false]at r;exact XC.1 r
theorem dV.next(h:TO c){ok:F->Bool}{S:List F}{l:List (bZ F)}(hS:dV c ok S)(e:iU c ok S l=0):dV c ok (fX c S l):=by
 rw[kv]at e;refine⟨ry h S l,fun f m=>?_,e.2.2⟩;rcases(rT h).1 m with q|⟨_,q⟩
 .exact e.2.1 _ (iA q)
 .exact hS.ok f q
end
section
variable {F:Type} [DecidableEq F]
def lg:List (bZ F)->bZ F->List (bZ F)
 | [],c=> [c]
 |x::r,c=>if x.2=c.2 then c::r else x::lg r c
def nT(l:List (bZ F)):List (bZ F):=l.foldl lg []
theorem BS{a:Bool}{f:F}: ∀{T:List (bZ F)} {c:bZ F},(T.map (·.2)).Nodup->((a,f)∈lg T c↔(a,f)=c∨(f≠c.2∧(a,f)∈T))
 | [],c,_=>by simp[lg]
 |x::r,c,hn=>by
  rw[WW,XB]at hn;unfold lg;split
  .rename_i e;rw[Xa,Xa];constructor
   .rintro(q|q)
    .exact .inl q
    .refine .inr ⟨fun j=>hn.1 (Xw.2 ⟨_,q,?_⟩),.inr q⟩;show f=x.2;rw[j,e]
   .rintro(q|⟨q,r1|r1⟩)
    .exact .inl q
    .exact absurd (by rw[<-e,<-r1]) q
    .exact .inr r1
  .rename_i e;rw[Xa,Xa,BS hn.2];constructor
   .rintro(q|q|⟨q,r1⟩)
    .exact .inr ⟨fun j=>e (by rw[<-q];exact j),.inl q⟩
    .exact .inl q
    .exact .inr ⟨q,.inr r1⟩
   .rintro(q|⟨q,r1|r1⟩)
    .exact .inr (.inl q)
    .exact .inl r1
    .exact .inr (.inr ⟨q,r1⟩)
theorem wo{f:F}: ∀{T:List (bZ F)} {c:bZ F},f∈(lg T c).map (·.2)↔f=c.2∨f∈T.map (·.2)
 | [],c=>by simp[lg]
 |x::r,c=>by
  unfold lg;split
  .rename_i e;simp only[WW,Xa];rw[e];constructor
   .rintro(q|q)
    .exact .inl q
    .exact .inr (.inr q)
   .rintro(q|q|q)
    .exact .inl q
    .exact .inl q
    .exact .inr q
  .simp only[WW,Xa,wo (T:=r)];constructor
   .rintro(q|q|q)
    .exact .inr (.inl q)
    .exact .inl q
    .exact .inr (.inr q)
   .rintro(q|q|q)
    .exact .inr (.inl q)
    .exact .inl q
    .exact .inr (.inr q)
theorem vK: ∀{T:List (bZ F)} {c:bZ F},(T.map (·.2)).Nodup->((lg T c).map (·.2)).Nodup
 | [],c,_=>by simp[lg]
 |x::r,c,hn=>by
  rw[WW,XB]at hn;unfold lg;split
  .rename_i e;rw[WW,XB,<-e];exact hn
  .rename_i e;rw[WW,XB,wo];exact⟨fun q=>q.elim e hn.1,vK hn.2⟩
theorem DF(l:List (bZ F))(c:bZ F)(f:F):dN (l++ [c]) f=if c.2=f then io c.1 else dN l f:=by
 unfold dN;rw[List.reverse_append,List.reverse_singleton,ZD,List.find?_cons];by_cases e:c.2=f
 .rw[am e,decide_eq_true e];rfl
 .rw[be e,decide_eq_false e]
theorem qS(l:List (bZ F)):((nT l).map (·.2)).Nodup∧ ∀(a:Bool) (f:F),(a,f)∈nT l↔dN l f=io a:=by
 suffices key: ∀(m k:List (bZ F)) (T:List (bZ F)),(T.map (·.2)).Nodup->(∀(a:Bool) (f:F),(a,f)∈T↔dN k f=io a)->
   ((m.foldl lg T).map (·.2)).Nodup∧ ∀(a:Bool) (f:F),(a,f)∈m.foldl lg T↔dN (k++m) f=io a by
  have:=key l [] [] XM fun a f=>by simp[dN]
  exact this
 intro m
 induction m with
 |nil=>intro k T h1 j;rw[XA];exact⟨h1,j⟩
 |cons c m ih=>
  intro k T h1 j;have:=ih (k++ [c]) (lg T c) (vK h1) fun a f=>by
   rw[BS h1,DF,j];by_cases e:c.2=f
   .rw[am e];constructor
    .rintro(q|⟨q,_⟩)
     .rw[<-q]
     .exact absurd e.symm q
    .intro q;left;have:=XP q;rw[<-this,<-e]
   .rw[be e];constructor
    .rintro(q|⟨_,q⟩)
     .exact absurd (by rw[<-q]) e
     .exact q
    .intro q;exact .inr ⟨fun g=>e g.symm,q⟩
  rw[W6,ZD]at this;exact this
theorem nr{c:F->F->Int}(h:TO c)(S:List F)(l:List (bZ F)):((nT l).filter fun x=>!(lc (x.2∈S)==x.1)).Perm (dI c S l):=by
 obtain⟨h1,u⟩:=qS l;have j: ∀{t:List (bZ F)},(t.map (·.2)).Nodup->t.Nodup:=fun{t} q=>by
  have:=List.pairwise_map.1 q;exact this.imp fun a e=>a (by rw[e])
 refine(Yw (Y3 _ (j h1)) (j ((w5.facts (pf h S l)).nodup h))).2 fun x=>?_;obtain⟨a,f⟩:=x;rw[Xu,u,jE h];simp
theorem Gj{kc:Go.Al.KC}{key:F->kc.K}(T:List (bZ F))(c:bZ F)(j: ∀x∈T,key x.2=key c.2->x.2=c.2):
  Go.Al.cP kc (T.map fun x=>(key x.2,x)) (key c.2) c=(lg T c).map fun x=>(key x.2,x):=by
 induction T with
 |nil=>rfl
 |cons x r ih=>
  simp only[WW,Go.Al.cP,lg];by_cases e:key x.2=key c.2
  .rw[am e,am (j x (W8 ..) e),WW]
  .rw[be e,be (fun q=>e (by rw[q])),WW,ih fun u hu=>j u (W5 _ hu)]
end
end
end Go.Bo
namespace Go.Proofs.YtlmhfgbkchnfbaaGreatDoor
open Go Go.Al Go.Proofs.Tryz Go.Bo
theorem yK: ∀a b:List UInt8,Lib.compareBytes a b=cmpL oS (a.map fun x=>(x.toNat:Int)) (b.map fun x=>(x.toNat:Int))
 | [],[]=>rfl
 | [],_::_=>rfl
 |_::_,[]=>rfl
 |x::a,y::b=>by
  simp only[Lib.compareBytes,WW,cmpL,yK a b];have h1:(x<y)↔((x.toNat:Int)<(y.toNat:Int)):=by rw[UInt8.lt_iff_toNat_lt];omega
  have j:(y<x)↔((y.toNat:Int)<(x.toNat:Int)):=by rw[UInt8.lt_iff_toNat_lt];omega
  simp only[vE,oS,h1,j];split
  .simp
  .split
   .simp
   .simp
theorem xr(a b:aq)(w:World):(callFunc 200 #[.string a,.string b]).run prog w= .ok (.value (.int .i64 (sY a b))) w:=by
 rw[run_callFunc_extern func200 (by kernel_rfl) (by kernel_rfl) (by kernel_rfl) (e:=Extern.BytealgCompare.compare) (by kernel_rfl),Lib.run_compareString,yK];rfl
theorem Ig(a b:aq):Pure prog 148 [pS a,pS b] (pI (sY a b)):=by
 refine ah ab func148 Z (by decide) ntmps148 Z (by simp) Z ?_;refine gA Z (NB (.int .i64 (sY a b)) Z Z Z Z (xr a b) Z ?_);refine gA Z (aH (by first|exact .inr Z|exact .inl Z) Z (.of_eq ?_));rfl
theorem EB(a b:aq):Pure prog 110 [pS a,pS b] (pI (sY a b)):=by
 refine ah ab func110 Z (by decide) ntmps110 Z (by simp) Z ?_;refine gA Z (aE (Ig a b) Z Z Z Z Z Z ?_);refine gA Z (aH (by first|exact .inr Z|exact .inl Z) Z (.of_eq ?_));rfl
theorem Ur(n:Int):Pure prog 239 [pI n] (pB kw):=by
 refine ah ab func239 Z (by decide) ntmps239 Z (by simp) Z ?_;refine gA Z (aH (by first|exact .inr Z|exact .inl Z) Z (.of_eq ?_));show pB (!lc (n=n))=pB kw;simp
theorem P8(a b:Int):Pure prog 201 [pI a,pI b] (pI (oS a b)):=by
 refine ah ab func201 Z (by decide) ntmps201 Z (by simp) Z ?_;refine gA Z (aE (Ur a) Z Z Z Z Z Z ?_);refine gA Z (aE (Ur b) Z Z Z Z Z Z ?_);refine gA Z ?_;refine WN (fun x=>?_) (fun x=>?_)
 .exact absurd x (by decide)
 refine gA Z ?_;refine WN (fun y=>?_) (fun y=>?_)
 .exact absurd y (by decide)
 refine gA Z ?_;refine WN (fun j=>?_) (fun j=>?_)
 .have j:a<b:=by simpa using j
  refine gA Z (aH (by first|exact .inr Z|exact .inl Z) Z (.of_eq ?_));rw[oS,am j];rfl
 have j: ¬a<b:=by simpa using j
 refine gA Z ?_;refine WN (fun u=>?_) (fun u=>?_)
 .have u:b<a:=by simpa using u
  refine gA Z (aH (by first|exact .inr Z|exact .inl Z) Z (.of_eq ?_));rw[oS,be j,am u];rfl
 .have u: ¬b<a:=by simpa using u
  refine gA Z (aH (by first|exact .inr Z|exact .inl Z) Z (.of_eq ?_));rw[oS,be j,be u];rfl
def Hm:List Int->Int
 | []=>0
 |x::r=>vE x (Hm r)
theorem BJ{l:List Int}{i:Nat}(h: ∀x∈l.take i,x=0):Hm l=Hm (l.drop i):=by
 induction i generalizing l with
 |zero=>rfl
 |succ i ih=>
  cases l with
  |nil=>rfl
  |cons x r=>
   have j:x=0:=h x (by simp);rw[Hm,j,vE,am Z,List.drop_succ_cons];exact ih fun y u=>h y (by simp[u])
theorem sOr(l:List Int)(hl:l.length<=100):bf prog 109 [.sl 0 0 l.length 1] [aX 1 l kj] (pI (Hm l)) [] 1:=by
 refine ak ab func109 Z (by decide) ntmps109 Z (by simp) ?_;refine km 0 (fun k=>kj (l.getD k co)) Z (cU Z) (show AF.mg 0 1 (l.map fun x=>(kj x).map PV.iv).length [(0,.sl 0 0 l.length 1)] from⟨by simp[PV.bb],ac⟩) ⟨EO _ _ _ _ _ _,ac⟩ ?_;refine gA Z ?_;refine aM 0 l.length (W2 _) (fun i=>⟨[(3,pI 0),(6,.iv (aW 1 l kj)),(7,pI l.length),(8,pI i)],[],1⟩) (fun i=> ∀x∈l.take i,x=0) [] (by simp)
  (wk Z Z Z (bi ⟨.bL Z (fun k _=>by rw[Xd]),rfl,bi (bi trivial)⟩) trivial Z) fun i hi u=>?_
 refine gA Z ?_;refine WN (fun h1=>?_) (fun h1=>?_)
 .have h1:i<l.length:=by simpa using h1
  have hd:l.drop i=l.getD i co::l.drop (i+1):=by
   rw[WQ,WU h1,XV,YC h1]
  refine gA Z ?_;refine WN (fun j=>?_) (fun j=>?_)
  .have j: ¬l.getD i co=0:=by simpa using j
   have:Hm l=l.getD i co:=by rw[BJ u,hd,Hm,vE,be j]
   rw[this];refine gA Z (ar [] (by first|exact .inr Z|exact .inl Z) Z (wk Z Z Z (bi ac) ac Z))
  .have j:l.getD i co=0:=by simpa using j
   refine gA Z ?_;refine⟨h1,fun x y=>?_,[],wk Z Z Z (bi (bi (bi (bi ac)))) ac Z⟩;rw[bS h1,Xf,W1]at y;exact y.elim (u x) fun e=>e.trans j
 .have h1:l.length<=i:=by simpa using h1
  have:Hm l=0:=by rw[BJ u,Yg h1];rfl
  rw[this];refine gA Z (ar [] (by first|exact .inr Z|exact .inl Z) Z (wk Z Z Z (bi ac) ac Z))
theorem Uz(a b:cS):Pure prog 150 [ag a.c,ag b.c] (pI (Cx a b)):=by
 have e:Cx a b=Hm [oS a.kind b.kind,oS a.num b.num,sY a.sym b.sym]:=by
  simp only[Cx,Hm];have:vE (sY a.sym b.sym) 0=sY a.sym b.sym:=by unfold vE;split<;>simp_all
  rw[this]
 rw[e];refine ah ab func150 Z (by decide) ntmps150 Z (by simp) Z ?_;refine gA Z (bg ab [] (Pure.nX (P8 a.kind b.kind)) Z Z Z Z Z Z Z Z Z Z Z Z (by(repeat' (first|exact ac|exact rfl|exact ae.refl _|exact ae.bk (by assumption)|apply WN))<;>first|omega|(simp only[WV];omega)|(simp;done)|(simp;omega)) Z (by(repeat' (first|exact ac|exact rfl|exact ae.refl _|exact ae.bk (by assumption)|apply WN))<;>first|omega|(simp only[WV];omega)|(simp;done)|(simp;omega)) ?_);refine gA Z (bg ab [] (Pure.nX (P8 a.num b.num)) Z Z Z Z Z Z Z Z Z Z Z Z (by(repeat' (first|exact ac|exact rfl|exact ae.refl _|exact ae.bk (by assumption)|apply WN))<;>first|omega|(simp only[WV];omega)|(simp;done)|(simp;omega)) Z (by(repeat' (first|exact ac|exact rfl|exact ae.refl _|exact ae.bk (by assumption)|apply WN))<;>first|omega|(simp only[WV];omega)|(simp;done)|(simp;omega)) ?_);refine gA Z (bg ab [] (Pure.nX (EB a.sym b.sym)) Z Z Z Z Z Z Z Z Z Z Z Z (by(repeat' (first|exact ac|exact rfl|exact ae.refl _|exact ae.bk (by assumption)|apply WN))<;>first|omega|(simp only[WV];omega)|(simp;done)|(simp;omega)) Z (by(repeat' (first|exact ac|exact rfl|exact ae.refl _|exact ae.bk (by assumption)|apply WN))<;>first|omega|(simp only[WV];omega)|(simp;done)|(simp;omega)) ?_);refine gA Z (bg ab [2] (sOr [oS a.kind b.kind,oS a.num b.num,sY a.sym b.sym] (by simp)) Z Z Z Z Z Z Z Z Z Z Z Z (by(repeat' (first|exact ac|exact rfl|exact ae.refl _|exact ae.bk (by assumption)|apply WN))<;>first|omega|(simp only[WV];omega)|(simp;done)|(simp;omega)) Z (by(repeat' (first|exact ac|exact rfl|exact ae.refl _|exact ae.bk (by assumption)|apply WN))<;>first|omega|(simp only[WV];omega)|(simp;done)|(simp;omega)) ?_);refine gA Z (aH (by first|exact .inr Z|exact .inl Z) Z (.of_eq ?_));rfl
theorem RR(a b:List cS)(ha:a.length<=1000000000)(hb:b.length<=1000000000):Pure prog 149 [.iv (aW 3 a cS.c),.iv (aW 3 b cS.c),.cv (.func 150) [] []] (pI (wC a b)):=by
 refine ah ab func149 Z (by decide) ntmps149 Z (by simp) Z ?_;refine gA Z ?_;refine aM 0 a.length (W2 _) (fun i=>⟨[(0,.iv (aW 3 a cS.c)),(1,.iv (aW 3 b cS.c)),(2,.cv (.func 150) [] []),(11,.iv (aW 3 a cS.c)),(12,pI a.length),(13,pI i)],[],0⟩) (fun i=>i<=b.length∧wC a b=wC (a.drop i) (b.drop i)) [] ⟨W2 _,rfl⟩
  (wk Z Z Z (bi (bi (bi (bi (bi (bi trivial)))))) trivial Z) fun i hi x=>?_
 obtain⟨B,x⟩:=x;refine gA Z ?_;refine WN (fun h1=>?_) (fun h1=>?_)
 .have h1:i<a.length:=by simpa using h1
  have hd:a.drop i=a.getD i co::a.drop (i+1):=by
   rw[WQ,WU h1,XV,YC h1]
  refine gA Z ?_;refine WN (fun j=>?_) (fun j=>?_)
  .have j:b.length<=i:=by simpa using j
   rw[x,hd,Yg j];refine gA Z (aH (by first|exact .inr Z|exact .inl Z) Z (.of_eq ?_));rfl
  .have j:i<b.length:=by simpa using j
   have A:b.drop i=b.getD i co::b.drop (i+1):=by
    rw[WQ,WU j,XV,YC j]
   have hs:wC a b=vE (Cx (a.getD i co) (b.getD i co)) (wC (a.drop (i+1)) (b.drop (i+1))):=by rw[x,hd,A];rfl
   refine gA Z (aE (Uz (a.getD i co) (b.getD i co)) Z Z Z Z Z Z ?_);refine gA Z ?_;refine WN (fun u=>?_) (fun u=>?_)
   .have u: ¬Cx (a.getD i co) (b.getD i co)=0:=by simpa using u
    rw[hs,vE,be u];refine gA Z (aH (by first|exact .inr Z|exact .inl Z) Z (.of_eq ?_));rfl
   .have u:Cx (a.getD i co) (b.getD i co)=0:=by simpa using u
    refine gA Z ⟨h1,⟨j,by rw[hs,u,vE,am Z]⟩,[],wk Z Z Z (bi (bi (bi (bi (bi (bi ac)))))) ac Z⟩
 .have h1:a.length<=i:=by simpa using h1
  have y:i=a.length:=by omega
  subst y;rw[x,Yg (WY a.length)];refine gA Z ?_;refine WN (fun j=>?_) (fun j=>?_)
  .have j:a.length<b.length:=by simpa using j
   rw[YC j];refine gA Z (aH (by first|exact .inr Z|exact .inl Z) Z (.of_eq ?_));rfl
  .have j:b.length<=a.length:=by simpa using j
   rw[Yg j];refine gA Z (aH (by first|exact .inr Z|exact .inl Z) Z (.of_eq ?_));rfl
theorem UB(a b:List cS)(ha:a.length<=1000000000)(hb:b.length<=1000000000):Pure prog 111 [.iv (aW 3 a cS.c),.iv (aW 3 b cS.c)] (pI (wC a b)):=by
 refine ah ab func111 Z (by decide) ntmps111 Z (by simp) Z ?_;refine gA Z (aE (RR a b ha hb) Z Z Z Z Z Z ?_);refine gA Z (aH (by first|exact .inr Z|exact .inl Z) Z (.of_eq ?_));rfl
theorem pZ(a b:Fact)(ha:a.args.length<=1000000000)(hb:b.args.length<=1000000000):Pure prog 73 [ag a.c,ag b.c] (pI (aV a b)):=by
 have e:aV a b=Hm [sY a.rel b.rel,wC a.args b.args]:=by
  simp only[aV,Hm];have:vE (wC a.args b.args) 0=wC a.args b.args:=by unfold vE;split<;>simp_all
  rw[this]
 rw[e];refine ah ab func73 Z (by decide) ntmps73 Z (by simp) Z ?_;refine gA Z (bg ab [] (Pure.nX (EB a.rel b.rel)) Z Z Z Z Z Z Z Z Z Z Z Z (by(repeat' (first|exact ac|exact rfl|exact ae.refl _|exact ae.bk (by assumption)|apply WN))<;>first|omega|(simp only[WV];omega)|(simp;done)|(simp;omega)) Z (by(repeat' (first|exact ac|exact rfl|exact ae.refl _|exact ae.bk (by assumption)|apply WN))<;>first|omega|(simp only[WV];omega)|(simp;done)|(simp;omega)) ?_);refine gA Z (bg ab [] (Pure.nX (UB a.args b.args ha hb)) Z Z Z Z Z Z Z Z Z Z Z Z (by(repeat' (first|exact ac|exact rfl|exact ae.refl _|exact ae.bk (by assumption)|apply WN))<;>first|omega|(simp only[WV];omega)|(simp;done)|(simp;omega)) Z (by(repeat' (first|exact ac|exact rfl|exact ae.refl _|exact ae.bk (by assumption)|apply WN))<;>first|omega|(simp only[WV];omega)|(simp;done)|(simp;omega)) ?_);refine gA Z (bg ab [2] (sOr [sY a.rel b.rel,wC a.args b.args] (by simp)) Z Z Z Z Z Z Z Z Z Z Z Z (by(repeat' (first|exact ac|exact rfl|exact ae.refl _|exact ae.bk (by assumption)|apply WN))<;>first|omega|(simp only[WV];omega)|(simp;done)|(simp;omega)) Z (by(repeat' (first|exact ac|exact rfl|exact ae.refl _|exact ae.bk (by assumption)|apply WN))<;>first|omega|(simp only[WV];omega)|(simp;done)|(simp;omega)) ?_);refine gA Z (aH (by first|exact .inr Z|exact .inl Z) Z (.of_eq ?_));rfl
def fF(x:bZ Fact):List IV:= .v (.bool x.1)::x.2.c
theorem MG(a b:bZ Fact)(ha:a.2.args.length<=1000000000)(hb:b.2.args.length<=1000000000):Pure prog 83 [ag (fF a),ag (fF b)] (pI (aV a.2 b.2)):=by
 refine ah ab func83 Z (by decide) ntmps83 Z (by simp) Z ?_;refine gA Z (aE (pZ a.2 b.2 ha hb) Z Z Z Z Z Z ?_);refine gA Z (aH (by first|exact .inr Z|exact .inl Z) Z (.of_eq ?_));rfl
section
theorem zZ{a b:Int}(h:a=b):ae (pI a) (pI b):=h▸ .refl _
theorem fS{α:Type}[Inhabited α](l:List α)(f:α->List IV):((Xq l.length).map fun k=>(f (l.getD k co)).map PV.iv)=l.map fun x=>(f x).map PV.iv:=by
 refine Zk (by simp) fun i h1 j=>?_;simp only[Xk]at j;simp[WU j]
def Up(L:List Fact):Prop:= ∀i j,i<j->j<L.length-> ¬aV (L.getD j co) (L.getD i co)<0
theorem Tl{L:List Fact}(h:rk aV L):Up L:=fun i j u x=>by
 have:=(X9.1 h) i j (by omega) x u;rw[WQ,WQ,WU x,WU (by omega:i<L.length)];exact pb.asym this
def xy(L:List Fact):Prop:= ∀f∈L,f.args.length<=1000000000
theorem GZ{L:List Fact}{i:Nat}(hi:i<L.length):L.getD i co∈L:=by
 rw[WQ,WU hi];exact XF hi
theorem xy.at{L:List Fact}(h:xy L){i:Nat}(hi:i<L.length):(L.getD i co).args.length<=1000000000:=h _ (GZ hi)
abbrev kU:PV:= .cv (.func 73) [] []
abbrev pO(L:List Fact):PV:= .iv (aW 2 L Fact.c)
theorem rZ(i j:Nat)(h:i+j<=4000000000000):IntKind.i64.wrap (Int.fdiv (IntKind.u64.wrap ((i:Int)+(j:Int))) (2 ^ min (Ze 1) IntKind.u64.bits))=(((i+j)/2:Nat):Int):=by
 have h1:IntKind.u64.wrap ((i:Int)+(j:Int))=((i+j:Nat):Int):=by simp[IntKind.wrap,IntKind.bits,IntKind.signed];omega
 rw[h1];have u:Int.fdiv (((i+j:Nat)):Int) (2 ^ min (Ze 1) IntKind.u64.bits)=(((i+j)/2:Nat):Int):=by
  show Int.fdiv _ 2=_;rw[Yd _ (by decide)];omega
 rw[u];simp[IntKind.wrap,IntKind.bits,IntKind.signed];omega
section
variable {L:List Fact} (hu:Up L) (hF:xy L) (hl:L.length<=1000000000000)
include hu hF hl
theorem Uw(a b:Nat)(j:a<=b)(hb:b<=L.length):Pure prog 138 [pO L,pI a,pI b,kU] (.aY []):=by
 refine ah ab func138 Z (by decide) ntmps138 Z (by simp) Z ?_;refine gA Z ?_;refine aM (a+1) (max (a+1) b) (Nat.le_max_left _ _) (fun i=>⟨[(0,pO L),(1,pI a),(2,pI b),(3,kU),(8,pI i)],[],0⟩) (fun i=>a+1<=i) [] (WY _)
  (wk Z Z Z (bi (bi (bi (bi (bi trivial))))) trivial Z) fun i hi u=>?_
 refine gA Z ?_;refine WN (fun h1=>?_) (fun h1=>?_)
 .have h1:i<b:=by simpa using h1
  refine gA Z (nC (n:=0) ?_);have e:((i:Int)-1).toNat=i-1:=by omega
  refine gA Z ?_;refine WN (fun g1=>?_) (fun g1=>?_)
  .refine gA Z (bg ab [] (Pure.nX (pZ (L.getD i co) (L.getD ((i:Int)-1).toNat co) (hF.at (by omega)) (hF.at (by omega)))) Z Z Z Z Z Z Z Z Z Z Z Z (by(repeat' (first|exact ac|exact rfl|exact ae.refl _|exact ae.bk (by assumption)|apply WN))<;>first|omega|(simp only[WV];omega)|(simp;done)|(simp;omega)) Z (by(repeat' (first|exact ac|exact rfl|exact ae.refl _|exact ae.bk (by assumption)|apply WN))<;>first|omega|(simp only[WV];omega)|(simp;done)|(simp;omega)) ?_);refine gA Z ?_;refine WN (fun g2=>?_) (fun g2=>?_)
   .exact absurd (of_decide_eq_true g2) (by rw[e];exact hu (i-1) i (by omega) (by omega))
   .refine gA Z ?_;exact⟨by omega,by omega,[],wk Z Z Z (bi (bi (bi (bi (bi ac))))) ac Z⟩
  .exact absurd g1 (by simp;omega)
 .refine gA Z (aH (by first|exact .inr Z|exact .inl Z) Z (.of_eq ?_));rfl
theorem Ug: ∀(n a m b:Nat),b-a<=n->a<m->m<b->b<=L.length->Pure prog 241 [pO L,pI a,pI m,pI b,kU] (.aY []):=by
 intro n
 induction n with
 |zero=>intro a m b h0 h1 Y h3;omega
 |succ n ih=>
  intro a m b h0 h1 Y h3;refine ah ab func241 Z (by decide) ntmps241 Z (by simp) Z ?_;refine gA Z ?_;refine WN (fun I=>?_) (fun I=>?_)
  .have I:m=a+1:=by have:=of_decide_eq_true I;(try dsimp only at this);omega
   refine gA Z (iC (σ:={j:Nat//m<=j∧j<=b}) (fun j=>⟨[(0,pO L),(1,pI a),(2,pI m),(3,pI b),(4,kU),(10,pI m),(11,pI j.1)],[],0⟩) (fun j=>j.1-m) ⟨b,by omega,WY _⟩ []
    (wk Z Z Z (bi (bi (bi (bi (bi (bi (bi ac))))))) ac Z) fun j=>?_)
   obtain⟨j,j1,j2⟩:=j;refine gA Z ?_;refine WN (fun g1=>?_) (fun g1=>?_)
   .have g1:m<j:=by simpa using g1
    have x:=rZ m j (by omega)
    (refine gM 12 Z ?_;refine cG (L:=[]) (t:=⟨[(0,pO L),(1,pI a),(2,pI m),(3,pI b),(4,kU),(10,pI m),(11,pI j),(12,pI ((m+j)/2:Nat))],[],0⟩) (wk Z Z Z (bi (bi (bi (bi (bi (bi (bi ⟨zZ x,rfl,ac⟩))))))) ac Z) ?_)
    refine gA Z (bg ab [] (Pure.nX (pZ (L.getD ((m+j)/2) co) (L.getD a co) (hF.at (by omega)) (hF.at (by omega)))) Z Z Z Z Z Z Z Z Z Z Z Z (by(repeat' (first|exact ac|exact rfl|exact ae.refl _|exact ae.bk (by assumption)|apply WN))<;>first|omega|(simp only[WV];omega)|(simp;done)|(simp;omega)) Z (by(repeat' (first|exact ac|exact rfl|exact ae.refl _|exact ae.bk (by assumption)|apply WN))<;>first|omega|(simp only[WV];omega)|(simp;done)|(simp;omega)) ?_);refine gA Z ?_;refine WN (fun g2=>?_) (fun g2=>?_)
    .exact absurd (of_decide_eq_true g2) (hu a ((m+j)/2) (by omega) (by omega))
    .refine gA Z ?_;exact⟨⟨(m+j)/2,by omega,by omega⟩,[],by show(m+j)/2-m<j-m;omega,wk Z Z Z (bi (bi (bi (bi (bi (bi (bi ac))))))) ac Z⟩
   .refine gA Z (nC (n:=0) ?_);refine gA Z ?_;refine WN (fun g3=>?_) (fun g3=>?_)
    .exact absurd g3 (by simp;omega)
    .refine gA Z (aH (by first|exact .inr Z|exact .inl Z) Z (.of_eq ?_));rfl
  have I: ¬m=a+1:=by have:=of_decide_eq_false I;(try dsimp only at this);omega
  refine gA Z ?_;refine WN (fun J=>?_) (fun J=>?_)
  .have J:b=m+1:=by have:=of_decide_eq_true J;(try dsimp only at this);omega
   refine gA Z (iC (σ:={i:Nat//a<=i∧i<=m}) (fun i=>⟨[(0,pO L),(1,pI a),(2,pI m),(3,pI b),(4,kU),(14,pI i.1),(15,pI m)],[],0⟩) (fun i=>m-i.1) ⟨a,WY _,by omega⟩ []
    (wk Z Z Z (bi (bi (bi (bi (bi (bi (bi ac))))))) ac Z) fun i=>?_)
   obtain⟨i,i1,i2⟩:=i;refine gA Z ?_;refine WN (fun g1=>?_) (fun g1=>?_)
   .have g1:i<m:=by simpa using g1
    have x:=rZ i m (by omega)
    (refine gM 12 Z ?_;refine cG (L:=[]) (t:=⟨[(0,pO L),(1,pI a),(2,pI m),(3,pI b),(4,kU),(14,pI i),(15,pI m),(16,pI ((i+m)/2:Nat))],[],0⟩) (wk Z Z Z (bi (bi (bi (bi (bi (bi (bi ⟨zZ x,rfl,ac⟩))))))) ac Z) ?_)
    refine gA Z (bg ab [] (Pure.nX (pZ (L.getD m co) (L.getD ((i+m)/2) co) (hF.at (by omega)) (hF.at (by omega)))) Z Z Z Z Z Z Z Z Z Z Z Z (by(repeat' (first|exact ac|exact rfl|exact ae.refl _|exact ae.bk (by assumption)|apply WN))<;>first|omega|(simp only[WV];omega)|(simp;done)|(simp;omega)) Z (by(repeat' (first|exact ac|exact rfl|exact ae.refl _|exact ae.bk (by assumption)|apply WN))<;>first|omega|(simp only[WV];omega)|(simp;done)|(simp;omega)) ?_);refine gA Z ?_;refine WN (fun g2=>?_) (fun g2=>?_)
    .refine gA Z ?_;exact⟨⟨(i+m)/2+1,by omega,by omega⟩,[],by show m-((i+m)/2+1)<m-i;omega,wk Z Z Z (bi (bi (bi (bi (bi (bi (bi ac))))))) ac Z⟩
    .have g2:aV (L.getD m co) (L.getD ((i+m)/2) co)<0:=by simpa using g2
     exact absurd g2 (hu ((i+m)/2) m (by omega) (by omega))
   .have g1:m<=i:=by simpa using g1
    have:i=m:=by omega
    subst this;refine gA Z (nC (n:=0) ?_);refine gA Z ?_;refine WN (fun g3=>?_) (fun g3=>?_)
    .exact absurd g3 (by simp)
    .refine gA Z (aH (by first|exact .inr Z|exact .inl Z) Z (.of_eq ?_));rfl
  have J: ¬b=m+1:=by have:=of_decide_eq_false J;(try dsimp only at this);omega
  have x:=rZ a b (by omega);obtain⟨u,C⟩: ∃u,u=(a+b)/2:=⟨_,rfl⟩
  rw[<-C]at x
  (refine gM 11 Z ?_;refine cG (L:=[]) (t:=⟨[(0,pO L),(1,pI a),(2,pI m),(3,pI b),(4,kU),(18,pI u)],[],0⟩) (wk Z Z Z (bi (bi (bi (bi (bi ⟨zZ x,rfl,ac⟩))))) ac Z) ?_)
  refine gA Z ?_;refine WN (fun A=>?_) (fun A=>?_)
  .have A:u<m:=by simpa using A
   refine gA Z (iC (σ:={st:Nat//u+m-b<=st∧st<=u}) (fun st=>⟨[(0,pO L),(1,pI a),(2,pI m),(3,pI b),(4,kU),(18,pI u),(19,pI (u+m:Nat)),(20,pI st.1),(21,pI u),(22,pI (u+m-1:Nat))],[],0⟩) (fun st=>u-st.1) ⟨u+m-b,WY _,by omega⟩ []
    (wk Z Z Z (bi (bi (bi (bi (bi (bi (bi ⟨zZ (by(try dsimp only);omega),rfl,bi ⟨zZ (by(try dsimp only);omega),rfl,ac⟩⟩))))))) ac Z) fun st=>?_)
   obtain⟨st,s1,s2⟩:=st;refine gA Z ?_;refine WN (fun g1=>?_) (fun g1=>?_)
   .have g1:st<u:=by simpa using g1
    have x:=rZ st u (by omega);obtain⟨c,hc⟩: ∃c,c=(st+u)/2:=⟨_,rfl⟩
    rw[<-hc]at x
    (refine gM 12 Z ?_;refine cG (L:=[]) (t:=⟨[(0,pO L),(1,pI a),(2,pI m),(3,pI b),(4,kU),(18,pI u),(19,pI (u+m:Nat)),(20,pI st),(21,pI u),(22,pI (u+m-1:Nat)),(23,pI c)],[],0⟩) (wk Z Z Z (bi (bi (bi (bi (bi (bi (bi (bi (bi (bi ⟨zZ x,rfl,ac⟩)))))))))) ac Z) ?_)
    have e:(((u+m-1:Nat):Int)-(c:Int)).toNat=u+m-1-c:=by omega
    refine gA Z (bg ab [] (Pure.nX (pZ (L.getD (((u+m-1:Nat):Int)-(c:Int)).toNat co) (L.getD c co) (hF.at (by omega)) (hF.at (by omega)))) Z Z Z Z Z Z Z Z Z Z Z Z (by(repeat' (first|exact ac|exact rfl|exact ae.refl _|exact ae.bk (by assumption)|apply WN))<;>first|omega|(simp only[WV];omega)|(simp;done)|(simp;omega)) Z (by(repeat' (first|exact ac|exact rfl|exact ae.refl _|exact ae.bk (by assumption)|apply WN))<;>first|omega|(simp only[WV];omega)|(simp;done)|(simp;omega)) ?_);refine gA Z ?_;refine WN (fun g2=>?_) (fun g2=>?_)
    .refine gA Z ?_;exact⟨⟨c+1,by omega,by omega⟩,[],by show u-(c+1)<u-st;omega,wk Z Z Z (bi (bi (bi (bi (bi (bi (bi (bi (bi (bi ac)))))))))) ac Z⟩
    .have g2:aV (L.getD (((u+m-1:Nat):Int)-(c:Int)).toNat co) (L.getD c co)<0:=by simpa using g2
     rw[e]at g2;exact absurd g2 (hu c (u+m-1-c) (by omega) (by omega))
   .have g1:u<=st:=by simpa using g1
    have:st=u:=by omega
    subst this
    (refine gM 8 Z ?_;refine cG (L:=[]) (t:=⟨[(0,pO L),(1,pI a),(2,pI m),(3,pI b),(4,kU),(18,pI st),(20,pI st),(24,pI m)],[],0⟩) (wk Z Z Z (bi (bi (bi (bi (bi (bi (bi ⟨zZ (by(try dsimp only);omega),rfl,ac⟩))))))) ac Z) ?_)
    refine gA Z ?_;refine WN (fun D=>?_) (fun D=>?_);rotate_left
    .exact absurd A (by simpa using D)
    refine gA Z ?_;refine WN (fun k2=>?_) (fun k2=>?_)
    .exact absurd k2 (by simp)
    refine gA Z ?_;refine WN (fun G=>?_) (fun G=>?_);rotate_left
    .exact absurd (show a<st by omega) (by simpa using G)
    refine gA Z ?_;refine WN (fun B=>?_) (fun B=>?_)
    .exact absurd B (by simp)
    refine gA Z ?_;refine WN (fun y=>?_) (fun y=>?_);rotate_left
    .exact absurd A (by simpa using y)
    refine gA Z ?_;refine WN (fun k6=>?_) (fun k6=>?_)
    .refine gA Z (aE (ih st m b (by omega) A Y h3) Z Z Z Z Z Z ?_);refine gA Z (aH (by first|exact .inr Z|exact .inl Z) Z (.of_eq ?_));rfl
    .exact absurd Y (by simpa using k6)
  .have A:m<=u:=by simpa using A
   refine gA Z (iC (σ:={st:Nat//a<=st∧st<=m}) (fun st=>⟨[(0,pO L),(1,pI a),(2,pI m),(3,pI b),(4,kU),(18,pI u),(19,pI (u+m:Nat)),(20,pI st.1),(21,pI m),(22,pI (u+m-1:Nat))],[],0⟩) (fun st=>m-st.1) ⟨a,WY _,by omega⟩ []
    (wk Z Z Z (bi (bi (bi (bi (bi (bi ⟨zZ (by(try dsimp only);omega),rfl,bi (bi ⟨zZ (by(try dsimp only);omega),rfl,ac⟩)⟩)))))) ac Z) fun st=>?_)
   obtain⟨st,s1,s2⟩:=st;refine gA Z ?_;refine WN (fun g1=>?_) (fun g1=>?_)
   .have g1:st<m:=by simpa using g1
    have x:=rZ st m (by omega);obtain⟨c,hc⟩: ∃c,c=(st+m)/2:=⟨_,rfl⟩
    rw[<-hc]at x
    (refine gM 12 Z ?_;refine cG (L:=[]) (t:=⟨[(0,pO L),(1,pI a),(2,pI m),(3,pI b),(4,kU),(18,pI u),(19,pI (u+m:Nat)),(20,pI st),(21,pI m),(22,pI (u+m-1:Nat)),(23,pI c)],[],0⟩) (wk Z Z Z (bi (bi (bi (bi (bi (bi (bi (bi (bi (bi ⟨zZ x,rfl,ac⟩)))))))))) ac Z) ?_)
    have e:(((u+m-1:Nat):Int)-(c:Int)).toNat=u+m-1-c:=by omega
    refine gA Z (bg ab [] (Pure.nX (pZ (L.getD (((u+m-1:Nat):Int)-(c:Int)).toNat co) (L.getD c co) (hF.at (by omega)) (hF.at (by omega)))) Z Z Z Z Z Z Z Z Z Z Z Z (by(repeat' (first|exact ac|exact rfl|exact ae.refl _|exact ae.bk (by assumption)|apply WN))<;>first|omega|(simp only[WV];omega)|(simp;done)|(simp;omega)) Z (by(repeat' (first|exact ac|exact rfl|exact ae.refl _|exact ae.bk (by assumption)|apply WN))<;>first|omega|(simp only[WV];omega)|(simp;done)|(simp;omega)) ?_);refine gA Z ?_;refine WN (fun g2=>?_) (fun g2=>?_)
    .refine gA Z ?_;exact⟨⟨c+1,by omega,by omega⟩,[],by show m-(c+1)<m-st;omega,wk Z Z Z (bi (bi (bi (bi (bi (bi (bi (bi (bi (bi ac)))))))))) ac Z⟩
    .have g2:aV (L.getD (((u+m-1:Nat):Int)-(c:Int)).toNat co) (L.getD c co)<0:=by simpa using g2
     rw[e]at g2;exact absurd g2 (hu c (u+m-1-c) (by omega) (by omega))
   .have g1:m<=st:=by simpa using g1
    have:st=m:=by omega
    subst this
    (refine gM 8 Z ?_;refine cG (L:=[]) (t:=⟨[(0,pO L),(1,pI a),(2,pI st),(3,pI b),(4,kU),(18,pI u),(20,pI st),(24,pI u)],[],0⟩) (wk Z Z Z (bi (bi (bi (bi (bi (bi (bi ⟨zZ (by(try dsimp only);omega),rfl,ac⟩))))))) ac Z) ?_)
    refine gA Z ?_;refine WN (fun D=>?_) (fun D=>?_)
    .exact absurd D (by simp)
    refine gA Z ?_;refine WN (fun G=>?_) (fun G=>?_);rotate_left
    .exact absurd h1 (by simpa using G)
    refine gA Z ?_;refine WN (fun B=>?_) (fun B=>?_)
    .have B:st<u:=by simpa using B
     refine gA Z (aE (ih a st u (by omega) h1 B (by omega)) Z Z Z Z Z Z ?_);refine gA Z ?_;refine WN (fun y=>?_) (fun y=>?_)
     .exact absurd y (by simp)
     refine gA Z (aH (by first|exact .inr Z|exact .inl Z) Z (.of_eq ?_));rfl
    .refine gA Z ?_;refine WN (fun y=>?_) (fun y=>?_)
     .exact absurd y (by simp)
     refine gA Z (aH (by first|exact .inr Z|exact .inl Z) Z (.of_eq ?_));rfl
theorem Mt:Pure prog 206 [pO L,pI L.length,kU] (.aY []):=by
 refine ah ab func206 Z (by decide) ntmps206 Z (by simp) Z ?_
 refine gA Z (iC (σ:={i:Nat//i<=L.length}) (fun i=>⟨[(0,pO L),(1,pI L.length),(2,kU),(6,pI 20),(7,pI i.1),(8,pI (i.1+20:Nat))],[],0⟩) (fun i=>L.length-i.1) ⟨0,W2 _⟩ []
  (wk Z Z Z (bi (bi (bi (bi (bi (bi ac)))))) ac Z) fun i=>?_)
 obtain⟨i,i1⟩:=i;refine gA Z ?_;refine WN (fun g1=>?_) (fun g1=>?_)
 .have g1:i+20<=L.length:=by have:=of_decide_eq_true g1;(try dsimp only at this);omega
  refine gA Z (aE (Uw hu hF hl i (i+20) (by omega) g1) Z Z Z Z Z Z ?_);refine gA Z ⟨⟨i+20,g1⟩,[],by show L.length-(i+20)<L.length-i;omega,wk Z Z Z (bi (bi (bi (bi (bi ⟨zZ (by(try dsimp only);omega),rfl,ac⟩))))) ac Z⟩
 .refine gA Z (aE (Uw hu hF hl i L.length (by omega) (WY _)) Z Z Z Z Z Z ?_)
  refine gA Z (iC (σ:={bs:Nat//0<bs∧bs<=2*L.length+20}) (fun bs=>⟨[(0,pO L),(1,pI L.length),(2,kU),(6,pI bs.1)],[],0⟩) (fun bs=>2*L.length+20-bs.1) ⟨20,by omega,by omega⟩ []
   (wk Z Z Z (bi (bi (bi (bi ac)))) ac Z) fun bs=>?_)
  obtain⟨bs,j,u⟩:=bs;refine gA Z ?_;refine WN (fun g2=>?_) (fun g2=>?_)
  .have g2:bs<L.length:=by simpa using g2
   refine gA Z (iC (σ:={i:Nat//i<=L.length}) (fun i=>⟨[(0,pO L),(1,pI L.length),(2,kU),(6,pI bs),(7,pI i.1),(8,pI (i.1+2*bs:Nat))],[],0⟩) (fun i=>L.length-i.1) ⟨0,W2 _⟩ []
    (wk Z Z Z (bi (bi (bi (bi (bi ⟨zZ (by(try dsimp only);omega),rfl,ac⟩))))) ac Z) fun i=>?_)
   obtain⟨i,i1⟩:=i;refine gA Z ?_;refine WN (fun g3=>?_) (fun g3=>?_)
   .have g3:i+2*bs<=L.length:=by have:=of_decide_eq_true g3;(try dsimp only at this);omega
    refine gA Z (aE (Ug hu hF hl (2*bs) i (i+bs) (i+2*bs) (by omega) (by omega) (by omega) g3) Z Z Z Z Z Z ?_);refine gA Z ⟨⟨i+2*bs,g3⟩,[],by show L.length-(i+2*bs)<L.length-i;omega,wk Z Z Z (bi (bi (bi (bi (bi ⟨zZ (by(try dsimp only);omega),rfl,ac⟩))))) ac Z⟩
   .refine gA Z ?_;refine WN (fun g4=>?_) (fun g4=>?_)
    .have g4:i+bs<L.length:=by have:=of_decide_eq_true g4;(try dsimp only at this);omega
     refine gA Z (aE (Ug hu hF hl L.length i (i+bs) L.length (by omega) (by omega) g4 (WY _)) Z Z Z Z Z Z ?_);refine gA Z ⟨⟨2*bs,by omega,by omega⟩,[],by show 2*L.length+20-2*bs<2*L.length+20-bs;omega,wk Z Z Z (bi (bi (bi ⟨zZ (by(try dsimp only);omega),rfl,ac⟩))) ac Z⟩
    .refine gA Z ?_;exact⟨⟨2*bs,by omega,by omega⟩,[],by show 2*L.length+20-2*bs<2*L.length+20-bs;omega,wk Z Z Z (bi (bi (bi ⟨zZ (by(try dsimp only);omega),rfl,ac⟩))) ac Z⟩
  .refine gA Z (aH (by first|exact .inr Z|exact .inl Z) Z (.of_eq ?_));rfl
theorem HZ:Pure prog 164 [pO L,kU] (.aY []):=by
 refine ah ab func164 Z (by decide) ntmps164 Z (by simp) Z ?_;refine gA Z (aE (Mt hu hF hl) Z Z Z Z Z Z ?_);refine gA Z (aH (by first|exact .inr Z|exact .inl Z) Z (.of_eq ?_));rfl
end
end
theorem ED(l:List Int)(hb:l.length<=10000000000):Pure prog 69 [.iv (aW 1 l kj)] (.iv (aW 1 l kj)):=by
 refine ah ab func69 Z (by decide) ntmps69 Z (by simp) Z ?_;refine gf Z ac (jJ Z Z Z Z underlying35 Z fun b u=>?_);refine gA Z ?_;refine WN (fun x=>?_) (fun x=>?_)
 .have j:l=[]:=Xz (u x);subst j;refine gA Z (aH (by first|exact .inr Z|exact .inl Z) Z ?_);exact .nil _ _
 refine gf Z ac (lE ab Z Z Z Z Z Z Z fun A=>?_);by_cases j:l=[]
 .subst j;refine gf Z ac (mA ab Z Z Z Z Z Z Z Z (el2:=fun k=>kj (([]:List Int).getD k co)) Z ?_);refine gA Z (aH (by first|exact .inr Z|exact .inl Z) Z ?_);exact .refl _
 .have y:0<l.length:=X5.2 j;refine gf Z ac (lF ab Z Z Z Z Z Z Z Z (by decide) Z (hZ Z) (by simp;omega) (by show((Xq l.length).map _).length*8<=_;simp;omega) (by simp;omega) Z ?_);refine gA Z (dA (by first|exact .inr Z|exact .inl Z) Z Z ((fS l kj)) ((by simp)))
theorem uA(l:List Term)(hb:l.length<=10000000000):Pure prog 70 [.iv (aW 5 l Term.c)] (.iv (aW 5 l Term.c)):=by
 refine ah ab func70 Z (by decide) ntmps70 Z (by simp) Z ?_;refine gf Z ac (jJ Z Z Z Z underlying147 Z fun b u=>?_);refine gA Z ?_;refine WN (fun x=>?_) (fun x=>?_)
 .have j:l=[]:=Xz (u x);subst j;refine gA Z (aH (by first|exact .inr Z|exact .inl Z) Z ?_);exact .nil _ _
 refine gf Z ac (lE ab Z Z Z Z Z Z Z fun A=>?_);by_cases j:l=[]
 .subst j;refine gf Z ac (mA ab Z Z Z Z Z Z Z Z (el2:=fun k=>Term.c (([]:List Term).getD k co)) Z ?_);refine gA Z (aH (by first|exact .inr Z|exact .inl Z) Z ?_);exact .refl _
 .have y:0<l.length:=X5.2 j;refine gf Z ac (lF ab Z Z Z Z Z Z Z Z (by decide) Z (hZ Z) (by simp;omega) (by show((Xq l.length).map _).length*56<=_;simp;omega) (by simp;omega) Z ?_);refine gA Z (dA (by first|exact .inr Z|exact .inl Z) Z Z ((fS l Term.c)) ((by simp)))
theorem EC(l:List Lit)(hb:l.length<=10000000000):Pure prog 105 [.iv (aW 30 l Lit.c)] (.iv (aW 30 l Lit.c)):=by
 refine ah ab func105 Z (by decide) ntmps105 Z (by simp) Z ?_;refine gf Z ac (jJ Z Z Z Z underlying150 Z fun b u=>?_);refine gA Z ?_;refine WN (fun x=>?_) (fun x=>?_)
 .have j:l=[]:=Xz (u x);subst j;refine gA Z (aH (by first|exact .inr Z|exact .inl Z) Z ?_);exact .nil _ _
 refine gf Z ac (lE ab Z Z Z Z Z Z Z fun A=>?_);by_cases j:l=[]
 .subst j;refine gf Z ac (mA ab Z Z Z Z Z Z Z Z (el2:=fun k=>Lit.c (([]:List Lit).getD k co)) Z ?_);refine gA Z (aH (by first|exact .inr Z|exact .inl Z) Z ?_);exact .refl _
 .have y:0<l.length:=X5.2 j;refine gf Z ac (lF ab Z Z Z Z Z Z Z Z (by decide) Z (hZ Z) (by simp;omega) (by show((Xq l.length).map _).length*384<=_;simp;omega) (by simp;omega) Z ?_);refine gA Z (dA (by first|exact .inr Z|exact .inl Z) Z Z ((fS l Lit.c)) ((by simp)))
theorem Be(l:List Lit)(hb:l.length<=10000000000)(h0:l≠ []):bf prog 105 [.iv (aW 30 l Lit.c)] [] (.sl 0 0 l.length 30) [(0,io (aX 30 l Lit.c))] 1:=by
 have x:0<l.length:=X5.2 h0;refine ak ab func105 Z (by decide) ntmps105 Z (by simp) ?_;refine gf Z ac (jJ Z Z Z Z underlying150 Z fun b j=>?_);refine gA Z ?_;refine WN (fun u=>?_) (fun u=>?_)
 .exact absurd (j u) (by omega)
 refine gf Z ac (lE ab Z Z Z Z Z Z Z fun y=>?_);refine gf Z ac (lF ab Z Z Z Z Z Z Z Z (by decide) Z (hZ Z) (by simp;omega) (by show((Xq l.length).map _).length*384<=_;simp;omega) (by simp;omega) Z ?_);refine gA Z (ar [1] (by first|exact .inr Z|exact .inl Z) Z (wk Z Z Z ⟨.row (by simp),rfl,ac⟩ (hR Z (fS l Lit.c) Z ac) Z))
theorem EE(l:List Expr)(hb:l.length<=10000000000):Pure prog 137 [.iv (aW 7 l Expr.c)] (.iv (aW 7 l Expr.c)):=by
 refine ah ab func137 Z (by decide) ntmps137 Z (by simp) Z ?_;refine gf Z ac (jJ Z Z Z Z underlying192 Z fun b u=>?_);refine gA Z ?_;refine WN (fun x=>?_) (fun x=>?_)
 .have j:l=[]:=Xz (u x);subst j;refine gA Z (aH (by first|exact .inr Z|exact .inl Z) Z ?_);exact .nil _ _
 refine gf Z ac (lE ab Z Z Z Z Z Z Z fun A=>?_);by_cases j:l=[]
 .subst j;refine gf Z ac (mA ab Z Z Z Z Z Z Z Z (el2:=fun k=>Expr.c (([]:List Expr).getD k co)) Z ?_);refine gA Z (aH (by first|exact .inr Z|exact .inl Z) Z ?_);exact .refl _
 .have y:0<l.length:=X5.2 j;refine gf Z ac (lF ab Z Z Z Z Z Z Z Z (by decide) Z (hZ Z) (by simp;omega) (by show((Xq l.length).map _).length*88<=_;simp;omega) (by simp;omega) Z ?_);refine gA Z (dA (by first|exact .inr Z|exact .inl Z) Z Z ((fS l Expr.c)) ((by simp)))
theorem Bf(l:List Expr)(hb:l.length<=10000000000)(h0:l≠ []):bf prog 137 [.iv (aW 7 l Expr.c)] [] (.sl 0 0 l.length 7) [(0,io (aX 7 l Expr.c))] 1:=by
 have x:0<l.length:=X5.2 h0;refine ak ab func137 Z (by decide) ntmps137 Z (by simp) ?_;refine gf Z ac (jJ Z Z Z Z underlying192 Z fun b j=>?_);refine gA Z ?_;refine WN (fun u=>?_) (fun u=>?_)
 .exact absurd (j u) (by omega)
 refine gf Z ac (lE ab Z Z Z Z Z Z Z fun y=>?_);refine gf Z ac (lF ab Z Z Z Z Z Z Z Z (by decide) Z (hZ Z) (by simp;omega) (by show((Xq l.length).map _).length*88<=_;simp;omega) (by simp;omega) Z ?_);refine gA Z (ar [1] (by first|exact .inr Z|exact .inl Z) Z (wk Z Z Z ⟨.row (by simp),rfl,ac⟩ (hR Z (fS l Expr.c) Z ac) Z))
theorem ME(l:List cS)(hb:l.length<=10000000000):Pure prog 81 [.iv (aW 3 l cS.c)] (.iv (aW 3 l cS.c)):=by
 refine ah ab func81 Z (by decide) ntmps81 Z (by simp) Z ?_;refine gf Z ac (jJ Z Z Z Z underlying60 Z fun b u=>?_);refine gA Z ?_;refine WN (fun x=>?_) (fun x=>?_)
 .have j:l=[]:=Xz (u x);subst j;refine gA Z (aH (by first|exact .inr Z|exact .inl Z) Z ?_);exact .nil _ _
 refine gf Z ac (lE ab Z Z Z Z Z Z Z fun A=>?_);by_cases j:l=[]
 .subst j;refine gf Z ac (mA ab Z Z Z Z Z Z Z Z (el2:=fun k=>cS.c (([]:List cS).getD k co)) Z ?_);refine gA Z (aH (by first|exact .inr Z|exact .inl Z) Z ?_);exact .refl _
 .have y:0<l.length:=X5.2 j;refine gf Z ac (lF ab Z Z Z Z Z Z Z Z (by decide) Z (hZ Z) (by simp;omega) (by show((Xq l.length).map _).length*32<=_;simp;omega) (by simp;omega) Z ?_);refine gA Z (dA (by first|exact .inr Z|exact .inl Z) Z Z ((fS l cS.c)) ((by simp)))
theorem MF(l:List Fact)(hb:l.length<=10000000000):Pure prog 163 [.iv (aW 2 l Fact.c)] (.iv (aW 2 l Fact.c)):=by
 refine ah ab func163 Z (by decide) ntmps163 Z (by simp) Z ?_;refine gf Z ac (jJ Z Z Z Z underlying36 Z fun b u=>?_);refine gA Z ?_;refine WN (fun x=>?_) (fun x=>?_)
 .have j:l=[]:=Xz (u x);subst j;refine gA Z (aH (by first|exact .inr Z|exact .inl Z) Z ?_);exact .nil _ _
 refine gf Z ac (lE ab Z Z Z Z Z Z Z fun A=>?_);by_cases j:l=[]
 .subst j;refine gf Z ac (mA ab Z Z Z Z Z Z Z Z (el2:=fun k=>Fact.c (([]:List Fact).getD k co)) Z ?_);refine gA Z (aH (by first|exact .inr Z|exact .inl Z) Z ?_);exact .refl _
 .have y:0<l.length:=X5.2 j;refine gf Z ac (lF ab Z Z Z Z Z Z Z Z (by decide) Z (hZ Z) (by simp;omega) (by show((Xq l.length).map _).length*40<=_;simp;omega) (by simp;omega) Z ?_);refine gA Z (dA (by first|exact .inr Z|exact .inl Z) Z Z ((fS l Fact.c)) ((by simp)))
theorem Bi{α:Type}[Inhabited α]{l:List α}{g:α->List PV}{i:Nat}(hi:i<l.length):(l.map g).set (0+i) (g (l.getD i co))=l.map g:=by
 refine Y2 fun j=>?_;rw[Xd,YD];split
 .rename_i e;subst e;rw[am (by simpa using hi),WX,WQ,WU hi];rfl
 .rfl
theorem Dh{α:Type}[Inhabited α]{l:List α}{g:α->List PV}{i:Nat}(hi:i<l.length):(l.map g)[0+i]? =io (g (l.getD i co)):=by
 rw[Xd,WX,WQ,WU hi];rfl
theorem P7: ∀(n:Nat) (e:Expr),e.size<=n->e.size<=1000000000->Pure prog 106 [ag e.c] (ag e.c)
 |0,e,h,_=>absurd e.size_pos (by omega)
 |n+1,e,h,hb=>by
  have B:=e.size_eq;have A:=Expr.aJ e.args;refine Al.Pure.le (aa:=[ag e.c]) (args:=[ag e.c1]) ?_ ⟨e.DD,ac⟩;by_cases u:e.args=[]
  .refine ah ab func106 Z (by decide) ntmps106 Z (by simp) Z ?_;refine gA Z (aE (EE e.args (by omega)) Z Z Z Z Z Z ?_);refine gA Z (nC (n:=0) ?_);refine gA Z ?_;refine WN (fun y=>?_) (fun y=>?_)
   .exact absurd y (by simp[u])
   refine gA Z (aH (by first|exact .inr Z|exact .inl Z) Z ?_);exact e.GL
  refine ah ab func106 Z (by decide) ntmps106 Z (by simp) Z ?_;refine gA Z (ai [] (Bf e.args (by omega) u) Z Z Z Z Z Z Z Z ?_);refine gA Z ?_;refine aM 0 e.args.length (W2 _) (fun i=>⟨[(1,.ptr 0 0),(2,.ptr 1 0),(10,pI e.args.length),(11,pI i)],[(0,io (.cells [.iv (iI e.kind),.iv (iS e.var),.iv (iI e.val.kind),.iv (iI e.val.num),.iv (iS e.val.sym),.iv (iI e.op),.sl 2 0 e.args.length 7])),(1,io (.cells [pI 0,pS W0,pI 0,pI 0,pS W0,pI 0,.iv (.v (.slice is 0 0))])),(2,io (aX 7 e.args Expr.c))],3⟩) (fun _=>True) [] ac
   (wk Z Z Z (bi (bi (bi (bi trivial)))) ⟨⟨_,rfl,.of_eq Z⟩,WL Z,rfl,⟨⟨_,rfl,.of_eq Z⟩,WL Z,rfl,hR Z (by rw[XX];exact X6 fun x _=>js _ _) Z trivial⟩⟩ Z) fun i hi _=>?_
  refine gA Z ?_;refine WN (fun h1=>?_) (fun h1=>?_)
  .have h1:i<e.args.length:=by simpa using h1
   have C:=Expr.bT e.args i h1;have j:=Dh (g:=fun x=>(Expr.c x).map PV.iv) h1;refine gM 16 Z (kO (p:=ag (e.args.getD i co).c) 7 Z Z Z Z Z Z (dm ab Z Z Z Z j Z) ?_);refine gA Z (bg ab [] (Pure.nX (P7 n (e.args.getD i co) (by omega) (by omega))) Z Z Z Z Z Z Z Z Z Z Z Z (by(repeat' (first|exact ac|exact rfl|exact ae.refl _|exact ae.bk (by assumption)|apply WN))<;>first|omega|(simp only[WV];omega)|(simp;done)|(simp;omega)) Z (by(repeat' (first|exact ac|exact rfl|exact ae.refl _|exact ae.bk (by assumption)|apply WN))<;>first|omega|(simp only[WV];omega)|(simp;done)|(simp;omega)) ?_);refine gA Z (iY ab Z Z Z Z Z (by first|trivial|(repeat' apply WN)<;>trivial) (vd ab Z Z (i:=2) (sz:=7) (q:=0+i) Z Z Z Z (by simp;omega) Z Z Z) Z (by first|trivial|(repeat' apply WN)<;>trivial) ?_);refine gA Z ⟨h1,ac,[],wk Z Z Z (bi (bi (bi (bi ac)))) ⟨⟨_,rfl,.of_eq Z⟩,WL Z,rfl,⟨⟨_,rfl,.of_eq Z⟩,WL Z,rfl,hR Z (Bi (g:=fun x=>(Expr.c x).map PV.iv) h1) Z ac⟩⟩ Z⟩
  .have h1:e.args.length<=i:=by simpa using h1
   refine gA Z (gz (.inr Z) Z (fH.gu 2 e.args Expr.c Z Z (by simp[PV.bb,a8]) (.done ?_)));have:ae (ag e.c1) (ag e.c):=e.GL;simp only[PV.dF,n9,Xd];exact this
theorem Db(e:Expr)(hb:e.size<=1000000000):Pure prog 106 [ag e.c] (ag e.c):=P7 e.size e (WY _) hb
theorem mU(f:Fact)(hb:f.args.length<=10000000000):Pure prog 46 [ag f.c] (ag f.c):=by
 refine ah ab func46 Z (by decide) ntmps46 Z (by simp) Z ?_;refine gA Z (bg ab [] (Pure.nX (ME f.args hb)) Z Z Z Z Z Z Z Z Z Z Z Z (by(repeat' (first|exact ac|exact rfl|exact ae.refl _|exact ae.bk (by assumption)|apply WN))<;>first|omega|(simp only[WV];omega)|(simp;done)|(simp;omega)) Z (by(repeat' (first|exact ac|exact rfl|exact ae.refl _|exact ae.bk (by assumption)|apply WN))<;>first|omega|(simp only[WV];omega)|(simp;done)|(simp;omega)) ?_);refine gA Z (aH (by first|exact .inr Z|exact .inl Z) Z (.of_eq ?_));rfl
abbrev kF:KC:= .fl Nt
abbrev V5(f:Fact):PV:=kF.pk (cA f)
theorem GQ(a0:aq): ∀(args:List cS),args.length<=8->
  ([pS a0,pI args.length]++(b6 AP.zero).drop 2).take 2++((Xq args.length).map fun k=>(cS.c (args.getD k co)).map PV.iv).flatten++([pS a0,pI args.length]++(b6 AP.zero).drop 2).drop (2+((Xq args.length).map fun k=>(cS.c (args.getD k co)).map PV.iv).length*3)
   =(FK.vs Nt (cA ⟨a0,args⟩)).map fun v=>PV.iv (.v v)
 | [],_=>rfl
 | [_],_=>rfl
 | [_,_],_=>rfl
 | [_,_,_],_=>rfl
 | [_,_,_,_],_=>rfl
 | [_,_,_,_,_],_=>rfl
 | [_,_,_,_,_,_],_=>rfl
 | [_,_,_,_,_,_,_],_=>rfl
 | [_,_,_,_,_,_,_,_],_=>rfl
 |_::_::_::_::_::_::_::_::_::_,h=>by simp at h
theorem RN(f:Fact)(hb:f.args.length<=8):Pure prog 78 [ag f.c] (.aY [V5 f,pB jp]):=by
 refine ah ab func78 Z (by decide) ntmps78 Z (by simp) Z ?_;refine gA Z ?_;refine WN (fun h1=>?_) (fun h1=>?_)
 .exact absurd h1 (by simp;omega)
 refine gA Z (kO (p:= .og 2 2 8) 1 Z Z Z Z Z Z (Oq ab Z Z Z Z Z) ?_);refine gA Z (iY ab Z Z Z Z Z (by(repeat' (first|exact ac|exact rfl|exact ae.refl _|exact ae.bk (by assumption)|apply WN))<;>first|omega|(simp only[WV];omega)|(simp;done)|(simp;omega)) (Ka ab Z Z Z Z Z Z Z (hZ Z) (fun e j=>by obtain⟨k,_,rfl⟩:=Xw.1 j;rfl) (by simp;omega) (by show 2+_*3<=26;simp;omega) Z) Z (by(repeat' (first|exact ac|exact rfl|exact ae.refl _|exact ae.bk (by assumption)|apply WN))<;>first|omega|(simp only[WV];omega)|(simp;done)|(simp;omega)) ?_)
 (refine gM 1 Z ?_;refine cG (L:=[]) (t:=⟨[(2,.ptr 1 0),(4,.ptr 2 0)],[(1,io (.cells (b6 AP.zero))),(2,io (aG ((FK.vs Nt (cA f)).map IV.v)))],3⟩) (wk Z Z Z (bi (bi ac)) ⟨⟨_,rfl,.of_eq Z⟩,WL Z,rfl,hC Z (GQ f.rel f.args hb) Z ac⟩ Z) ?_)
 refine gA Z (aH (by first|exact .inr Z|exact .inl Z) Z (.of_eq ?_));rfl
end Go.Proofs.YtlmhfgbkchnfbaaGreatDoor
namespace Go.Proofs.YtlmhfgbkchnfbaaGreatDoor
open Go Go.Al Go.Bo
section
def Fact.z:Fact:=⟨W0,[]⟩
def Fl(f:Fact):IV:= .agg f.c
def JN:Value:= .agg #[.string W0,.slice is 0 0]
def valOf:List IV->cS
 | [.v (.int _ k),.v (.int _ n),.v (.string s)]=>⟨k,n,s⟩
 |_=>⟨0,0,W0⟩
def Tb:PV->Fact
 | .agg [.iv (.v (.string s)),.iv (.bL _ n el)]=>⟨s,(Xq n).map fun k=>valOf (el k)⟩
 |_=>Fact.z
def Cz(x:bZ Fact):IV:= .agg (fF x)
def NZ:Value:= .agg #[.bool kw,.string W0,.slice is 0 0]
def bZ.z:bZ Fact:=(kw,Fact.z)
def VC:PV->bZ Fact
 | .agg [.iv (.v (.bool b)),p,q]=>(b,Tb (.agg [p,q]))
 |_=>bZ.z
abbrev FM:=List (kF.K×Fact)
abbrev CM:=List (kF.K×bZ Fact)
abbrev bz(m:FM):AO:= .map kF Fl Fact.z JN Tb m
abbrev Ke(m:CM):AO:= .map kF Cz bZ.z NZ VC m
abbrev Cy(m:CM):IV:= .eO kF Cz bZ.z NZ m
theorem Hv(l:List cS):(Xq l.length).map (fun k=>valOf (cS.c (l.getD k co)))=l:=by
 apply Y2;intro k;by_cases hk:k<l.length
 .simp[hk,valOf,cS.c]
 .simp[hk]
theorem JU(f:Fact):Tb (ag f.c)=f:=by
 show(⟨f.rel,(Xq f.args.length).map fun k=>valOf (cS.c (f.args.getD k co))⟩:Fact)=f;rw[Hv]
theorem Qj(x:bZ Fact):VC (ag (fF x))=x:=by
 show(x.1,Tb (ag x.2.c))=x;rw[JU]
theorem JO(f:Fact):ae (ag f.c) (.iv (Fl (Tb (ag f.c)))):=by rw[JU];exact VE _
theorem N4(x:bZ Fact):ae (ag (fF x)) (.iv (Cz (VC (ag (fF x))))):=by rw[Qj];exact VE _
theorem JM: ∀M,IR M (Fl Fact.z) JN:=fun M=>by
 refine .agg _ _ Z fun j p u=>?_
 match j,u with
 |0,u=>cases u;exact .v _
 |1,u=>cases u;exact .fL _ _ _ _
 |j+2,u=>simp[Fact.c]at u
theorem NY: ∀M,IR M (Cz bZ.z) NZ:=fun M=>by
 refine .agg _ _ Z fun j p u=>?_
 match j,u with
 |0,u=>cases u;exact .v _
 |1,u=>cases u;exact .v _
 |2,u=>cases u;exact .fL _ _ _ _
 |j+3,u=>simp[fF,Fact.c]at u
abbrev cm(p:Prog)(n:Nat)(i:Nat):AO:= .cells [.mp i,.iv (aW 4 p.aF Decl.c),.iv (aW 5 p.rules aw.c),pI n]
abbrev UP:PV:= .iv (.v (.pointer is))
section
variable (p:Prog) (n:Nat) (m:FM)
abbrev bO:List AO:=[bz m,cm p n 0]
abbrev bH:AH:=[(0,io (bz m)),(1,io (cm p n 0))]
theorem Uu:bf Tryz.prog 39 [.ptr 1 0] (bO p n m) (.ptr 1 0) (bH p n m) 2:=by
 refine ak ab Tryz.func39 Z (by decide) Tryz.ntmps39 Z (by simp) ?_;refine gA Z ?_;refine WN (fun h1=>?_) (fun h1=>?_)
 .exact absurd h1 (by decide)
 refine gA Z (ar [] (by first|exact .inr Z|exact .inl Z) Z (wk Z Z Z (bi ac) (hM Z Z Z ⟨⟨_,rfl,.of_eq Z⟩,WL Z,rfl,ac⟩) Z))
end
end
end Go.Proofs.YtlmhfgbkchnfbaaGreatDoor
namespace Go.Proofs
open Go.Shelf
def Tryz.B1:Go.Shelf.Ren:=⟨fun|6=>82|15=>108|14=>116|28=>146|29=>147|20=>154|21=>155|22=>156|23=>157|24=>158|25=>159|26=>160|27=>161|46=>203|47=>196|48=>197|49=>204|50=>205|57=>240|n=>n,fun|22=>43|24=>64|25=>171|3=>3|39=>140|0=>0|53=>83|55=>104|4=>4|46=>251|45=>250|50=>255|5=>5|9=>9|66=>296|70=>300|76=>343|77=>344|n=>n,fun|n=>n⟩
theorem Tryz.EZ:Go.Proofs.SlLaysF0.n6 Tryz.prog Tryz.B1:={
 mixed:=by kernel_rfl
 f6:=⟨Tryz.f82.name,by decide,Tryz.func82.trans (congrArg io (by kernel_rfl))⟩
 f14:=⟨Tryz.f116.name,by decide,Tryz.func116.trans (congrArg io (by kernel_rfl))⟩
 f15:=Tryz.func108.trans (congrArg io (by kernel_rfl))
 f20:=⟨Tryz.f154.name,by decide,Tryz.func154.trans (congrArg io (by kernel_rfl))⟩
 f21:=⟨Tryz.f155.name,by decide,Tryz.func155.trans (congrArg io (by kernel_rfl))⟩
 f22:=⟨Tryz.f156.name,by decide,Tryz.func156.trans (congrArg io (by kernel_rfl))⟩
 f23:=⟨Tryz.f157.name,by decide,Tryz.func157.trans (congrArg io (by kernel_rfl))⟩
 f24:=⟨Tryz.f158.name,by decide,Tryz.func158.trans (congrArg io (by kernel_rfl))⟩
 f25:=⟨Tryz.f159.name,by decide,Tryz.func159.trans (congrArg io (by kernel_rfl))⟩
 f26:=⟨Tryz.f160.name,by decide,Tryz.func160.trans (congrArg io (by kernel_rfl))⟩
 f27:=⟨Tryz.f161.name,by decide,Tryz.func161.trans (congrArg io (by kernel_rfl))⟩
 f28:=Tryz.func146.trans (congrArg io (by kernel_rfl))
 f29:=Tryz.func147.trans (congrArg io (by kernel_rfl))
 f46:=⟨Tryz.f203.name,by decide,Tryz.func203.trans (congrArg io (by kernel_rfl))⟩
 f47:=Tryz.func196.trans (congrArg io (by kernel_rfl))
 f48:=Tryz.func197.trans (congrArg io (by kernel_rfl))
 f49:=⟨Tryz.f204.name,by decide,Tryz.func204.trans (congrArg io (by kernel_rfl))⟩
 f50:=⟨Tryz.f205.name,by decide,Tryz.func205.trans (congrArg io (by kernel_rfl))⟩
 f57:=⟨Tryz.f240.name,by decide,Tryz.func240.trans (congrArg io (by kernel_rfl))⟩
 t0:=Tryz.underlying0
 a0:=Tryz.isAgg0
 z0:=Tryz.sizeOf0
 v0:=Tryz.zeroValue0
 t3:=Tryz.underlying3
 a3:=Tryz.isAgg3
 z3:=Tryz.sizeOf3
 v3:=Tryz.zeroValue3
 t4:=Tryz.underlying4
 a4:=Tryz.isAgg4
 z4:=Tryz.sizeOf4
 v4:=Tryz.zeroValue4
 t5:=Tryz.underlying5
 a5:=Tryz.isAgg5
 z5:=Tryz.sizeOf5
 v5:=Tryz.zeroValue5
 t9:=Tryz.underlying9
 a9:=Tryz.isAgg9
 z9:=Tryz.sizeOf9
 v9:=Tryz.zeroValue9
 t22:=Tryz.underlying43
 a22:=Tryz.isAgg43
 z22:=Tryz.sizeOf43
 v22:=Tryz.zeroValue43
 t25:=Tryz.underlying171
 a25:=Tryz.isAgg171
 z25:=Tryz.sizeOf171
 v25:=Tryz.zeroValue171
 t39:=Tryz.underlying140
 a39:=Tryz.isAgg140
 z39:=Tryz.sizeOf140
 v39:=Tryz.zeroValue140
 t45:=Tryz.underlying250
 a45:=Tryz.isAgg250
 z45:=Tryz.sizeOf250
 v45:=Tryz.zeroValue250
 t46:=Tryz.underlying251
 a46:=Tryz.isAgg251
 z46:=Tryz.sizeOf251
 v46:=Tryz.zeroValue251
 t50:=Tryz.underlying255
 a50:=Tryz.isAgg255
 z50:=Tryz.sizeOf255
 v50:=Tryz.zeroValue255
 t53:=Tryz.underlying83
 a53:=Tryz.isAgg83
 z53:=Tryz.sizeOf83
 v53:=Tryz.zeroValue83
 t55:=Tryz.underlying104
 a55:=Tryz.isAgg104
 z55:=Tryz.sizeOf104
 v55:=Tryz.zeroValue104
 t66:=Tryz.underlying296
 a66:=Tryz.isAgg296
 z66:=Tryz.sizeOf296
 v66:=Tryz.zeroValue296
 t70:=Tryz.underlying300
 a70:=Tryz.isAgg300
 z70:=Tryz.sizeOf300
 v70:=Tryz.zeroValue300
 t76:=Tryz.underlying343
 a76:=Tryz.isAgg343
 z76:=Tryz.sizeOf343
 v76:=Tryz.zeroValue343
 t77:=Tryz.underlying344
 a77:=Tryz.isAgg344
 z77:=Tryz.sizeOf344
 v77:=Tryz.zeroValue344}
def Tryz.B0:Go.Shelf.Ren:=⟨fun|6=>72|15=>108|14=>107|28=>146|29=>147|20=>138|21=>139|22=>140|23=>141|24=>142|25=>143|26=>144|27=>145|46=>195|47=>196|48=>197|49=>198|50=>199|57=>238|n=>n,fun|22=>36|24=>62|25=>160|3=>3|39=>140|0=>0|53=>83|55=>104|4=>4|46=>251|45=>250|50=>255|5=>5|9=>9|66=>296|70=>300|76=>343|77=>344|n=>n,fun|n=>n⟩
theorem Tryz.EY:Go.Proofs.SlLaysF0.n6 Tryz.prog Tryz.B0:={
 mixed:=by kernel_rfl
 f6:=⟨Tryz.f72.name,by decide,Tryz.func72.trans (congrArg io (by kernel_rfl))⟩
 f14:=⟨Tryz.f107.name,by decide,Tryz.func107.trans (congrArg io (by kernel_rfl))⟩
 f15:=Tryz.func108.trans (congrArg io (by kernel_rfl))
 f20:=⟨Tryz.f138.name,by decide,Tryz.func138.trans (congrArg io (by kernel_rfl))⟩
 f21:=⟨Tryz.f139.name,by decide,Tryz.func139.trans (congrArg io (by kernel_rfl))⟩
 f22:=⟨Tryz.f140.name,by decide,Tryz.func140.trans (congrArg io (by kernel_rfl))⟩
 f23:=⟨Tryz.f141.name,by decide,Tryz.func141.trans (congrArg io (by kernel_rfl))⟩
 f24:=⟨Tryz.f142.name,by decide,Tryz.func142.trans (congrArg io (by kernel_rfl))⟩
 f25:=⟨Tryz.f143.name,by decide,Tryz.func143.trans (congrArg io (by kernel_rfl))⟩
 f26:=⟨Tryz.f144.name,by decide,Tryz.func144.trans (congrArg io (by kernel_rfl))⟩
 f27:=⟨Tryz.f145.name,by decide,Tryz.func145.trans (congrArg io (by kernel_rfl))⟩
 f28:=Tryz.func146.trans (congrArg io (by kernel_rfl))
 f29:=Tryz.func147.trans (congrArg io (by kernel_rfl))
 f46:=⟨Tryz.f195.name,by decide,Tryz.func195.trans (congrArg io (by kernel_rfl))⟩
 f47:=Tryz.func196.trans (congrArg io (by kernel_rfl))
 f48:=Tryz.func197.trans (congrArg io (by kernel_rfl))
 f49:=⟨Tryz.f198.name,by decide,Tryz.func198.trans (congrArg io (by kernel_rfl))⟩
 f50:=⟨Tryz.f199.name,by decide,Tryz.func199.trans (congrArg io (by kernel_rfl))⟩
 f57:=⟨Tryz.f238.name,by decide,Tryz.func238.trans (congrArg io (by kernel_rfl))⟩
 t0:=Tryz.underlying0
 a0:=Tryz.isAgg0
 z0:=Tryz.sizeOf0
 v0:=Tryz.zeroValue0
 t3:=Tryz.underlying3
 a3:=Tryz.isAgg3
 z3:=Tryz.sizeOf3
 v3:=Tryz.zeroValue3
 t4:=Tryz.underlying4
 a4:=Tryz.isAgg4
 z4:=Tryz.sizeOf4
 v4:=Tryz.zeroValue4
 t5:=Tryz.underlying5
 a5:=Tryz.isAgg5
 z5:=Tryz.sizeOf5
 v5:=Tryz.zeroValue5
 t9:=Tryz.underlying9
 a9:=Tryz.isAgg9
 z9:=Tryz.sizeOf9
 v9:=Tryz.zeroValue9
 t22:=Tryz.underlying36
 a22:=Tryz.isAgg36
 z22:=Tryz.sizeOf36
 v22:=Tryz.zeroValue36
 t25:=Tryz.underlying160
 a25:=Tryz.isAgg160
 z25:=Tryz.sizeOf160
 v25:=Tryz.zeroValue160
 t39:=Tryz.underlying140
 a39:=Tryz.isAgg140
 z39:=Tryz.sizeOf140
 v39:=Tryz.zeroValue140
 t45:=Tryz.underlying250
 a45:=Tryz.isAgg250
 z45:=Tryz.sizeOf250
 v45:=Tryz.zeroValue250
 t46:=Tryz.underlying251
 a46:=Tryz.isAgg251
 z46:=Tryz.sizeOf251
 v46:=Tryz.zeroValue251
 t50:=Tryz.underlying255
 a50:=Tryz.isAgg255
 z50:=Tryz.sizeOf255
 v50:=Tryz.zeroValue255
 t53:=Tryz.underlying83
 a53:=Tryz.isAgg83
 z53:=Tryz.sizeOf83
 v53:=Tryz.zeroValue83
 t55:=Tryz.underlying104
 a55:=Tryz.isAgg104
 z55:=Tryz.sizeOf104
 v55:=Tryz.zeroValue104
 t66:=Tryz.underlying296
 a66:=Tryz.isAgg296
 z66:=Tryz.sizeOf296
 v66:=Tryz.zeroValue296
 t70:=Tryz.underlying300
 a70:=Tryz.isAgg300
 z70:=Tryz.sizeOf300
 v70:=Tryz.zeroValue300
 t76:=Tryz.underlying343
 a76:=Tryz.isAgg343
 z76:=Tryz.sizeOf343
 v76:=Tryz.zeroValue343
 t77:=Tryz.underlying344
 a77:=Tryz.isAgg344
 z77:=Tryz.sizeOf344
 v77:=Tryz.zeroValue344}
def Tryz.BZ:Go.Shelf.Ren:=⟨fun|5=>44|7=>76|n=>n,fun|23=>95|25=>110|3=>62|4=>4|20=>20|n=>n,fun|n=>n⟩
theorem Tryz.Ns:Go.Proofs.SlLaysW.n5 Tryz.prog Tryz.BZ:={
 mixed:=by kernel_rfl
 f5:=⟨Tryz.f44.name,by decide,Tryz.func44.trans (congrArg io (by kernel_rfl))⟩
 f7:=Tryz.func76.trans (congrArg io (by kernel_rfl))
 t4:=Tryz.underlying4
 a4:=Tryz.isAgg4
 z4:=Tryz.sizeOf4
 v4:=Tryz.zeroValue4
 t20:=Tryz.underlying20
 a20:=Tryz.isAgg20
 z20:=Tryz.sizeOf20
 v20:=Tryz.zeroValue20
 t23:=Tryz.underlying95
 a23:=Tryz.isAgg95
 z23:=Tryz.sizeOf95
 v23:=Tryz.zeroValue95}
theorem YtlmhfgbkchnfbaaGreatDoor.Ub:Go.Al.D6 Tryz.prog 82 3:=
 ⟨fun enc hk h1 B hO g A y b0 a0 d w eg u hH j x=>AnyQ.slices_SortFunc Tryz.EZ 3 (fun _=>Go.Al.fP (YtlmhfgbkchnfbaaGreatDoor.ab 64 _ Z)) (fun _=>Go.Al.aQ (YtlmhfgbkchnfbaaGreatDoor.ab 64 _ Z)) enc hk h1 B hO g A y b0 a0 d w eg u hH j x,
  fun p a0 C w=>AnyF.slices_SortFunc_none Tryz.EZ p a0 C w⟩
theorem YtlmhfgbkchnfbaaGreatDoor.Ua:Go.Al.D6 Tryz.prog 72 2:=
 ⟨fun enc hk h1 B hO g A y b0 a0 d w eg u hH j x=>AnyQ.slices_SortFunc Tryz.EY 2 (fun _=>Go.Al.fP (YtlmhfgbkchnfbaaGreatDoor.ab 62 _ Z)) (fun _=>Go.Al.aQ (YtlmhfgbkchnfbaaGreatDoor.ab 62 _ Z)) enc hk h1 B hO g A y b0 a0 d w eg u hH j x,
  fun p a0 C w=>AnyF.slices_SortFunc_none Tryz.EY p a0 C w⟩
theorem YtlmhfgbkchnfbaaGreatDoor.SK:Go.Al.KG Tryz.prog 44:=fun b es clock w hb=>AnyW.maps_Clone Tryz.Ns b es clock w hb
end Go.Proofs
namespace Go.Proofs.YtlmhfgbkchnfbaaGreatDoor
open Go Go.Al Go.Proofs.Tryz Go.Bo
theorem FY{l u:List Fact}(hF:xy l)(hp:l.Perm u)(hs:rk aV u)(j:l.length<=1000000000000):bf prog 72 [.sl 0 0 l.length 2,kU] [aX 2 l Fact.c] (.aY []) [(0,io (aX 2 u Fact.c))] 1:=
 xK Ua (bc func72 Z (by decide)) (bc func73 Z (by decide)) (by decide) Fact.c aV (fun f=>f.args.length<=1000000000) (fun x y B C=>pZ x y B C) (fun _=>rfl)
  (fun x c A=>(Xa.1 A).elim (fun e=>by subst e;rfl) fun A=>by rw[W1.1 A];rfl)
  (fun x _=>pb.Sp x) (fun x y z _ _ _=>pb.tr x y z) (fun x y z _ _ _=>pb.VA) l u hF (fun x _ y _ a b=>pb.S3 a b) hp (hs.imp fun{a b} h=>pb.asym h) j kU (fun M N U v h=>by
   cases h with
   |cv _ _ _ f' c' h1 h2=>simp at h1 h2;simp[Yb h1.symm,Yb h2.symm])
theorem HU{l u:List (bZ Fact)}(hF: ∀x∈l,x.2.args.length<=1000000000)(hn:(l.map (·.2)).Nodup)(hp:l.Perm u)(hs:w5 aV u)(j:l.length<=1000000000000):bf prog 82 [.sl 0 0 l.length 3,.cv (.func 83) [] []] [aX 3 l fF] (.aY []) [(0,io (aX 3 u fF))] 1:=
 xK Ub (bc func82 Z (by decide)) (bc func83 Z (by decide)) (by decide) fF (fun a b=>aV a.2 b.2) (fun f=>f.2.args.length<=1000000000) (fun x y A B=>MG x y A B) (fun _=>rfl)
  (fun x c hc=>by
   rcases Xa.1 hc with rfl|hc
   .rfl
   rcases Xa.1 hc with rfl|hc
   .rfl
   .rw[W1.1 hc];rfl)
  (fun x _=>pb.Sp x.2) (fun x y z _ _ _=>pb.tr x.2 y.2 z.2) (fun x y z _ _ _=>pb.VA) l u hF (fun x A y B a b=>by
   have e:=pb.S3 a b;have key: ∀{l:List (bZ Fact)},(l.map (·.2)).Nodup->x∈l->y∈l->x=y:=by
    intro l
    induction l with
    |nil=>intro _ m;cases m
    |cons z r ih=>
     intro hn m1 m2;rw[WW,XB]at hn;rcases Xa.1 m1 with e1|e1<;>rcases Xa.1 m2 with e2|e2
     .exact e1.trans e2.symm
     .exact absurd (Xw.2 ⟨_,e2,by rw[<-e,e1]⟩) hn.1
     .exact absurd (Xw.2 ⟨_,e1,by rw[e,e2]⟩) hn.1
     .exact ih hn.2 e1 e2
   exact key hn A B) hp (hs.imp fun{a b} h=>pb.asym h) j _ (fun M N U v h=>by
   cases h with
   |cv _ _ _ f' c' h1 h2=>simp at h1 h2;simp[Yb h1.symm,Yb h2.symm])
abbrev JP(m:FM)(j:Nat):Fact:=(m.getD j (cA Fact.z,Fact.z)).2
theorem JL{l j:List Fact}(h:xy j)(hp:l.Perm j):xy l:=fun f hf=>h f (hp.mem_iff.1 hf)
theorem MC(p:Prog)(n:Nat){m:FM}{S:List Fact}(hk:bY cA m S)(hs:rk aV S)(hF:xy S)(hl:S.length<=100000000):bf prog 40 [.ptr 1 0] (bO p n m) (.iv (aW 2 S Fact.c)) (bH p n m) 2:=by
 have G:=hk.len;have j:=hk.AJ;refine ak ab func40 Z (by decide) ntmps40 Z (by simp) ?_;refine gA Z ?_;refine WN (fun C=>?_) (fun C=>?_)
 .exact absurd C (by decide)
 refine gM 12 Z (bB Z (xU ab Z Z Z Z Z Z (by decide)) ?_);rintro t ⟨bs,clock,hbl,hbn,hbc,rfl⟩;refine gM 2 Z (ju 3 2 Z ?_)
 refine gA Z (Fc m.length (fun vs=>⟨[(3,.sl 4 0 (vs.map (JP m)).length 2),(12,.ptr 2 0)],[(0,io (.ix kF Fl Fact.z JN Tb m bs clock)),(1,io (cm p n 0)),(2,io (.eB (.mp 0) clock (lP bs vs))),(4,io (aX 2 (vs.map (JP m)) Fact.c))],5⟩) (fun _=>True) [3] ac
  (wk Z Z Z (bi (bi ac)) ⟨⟨_,rfl,.of_eq Z⟩,WL Z,ac,⟨⟨_,rfl,.of_eq Z⟩,WL Z,rfl,⟨⟨_,rfl,.of_eq Z⟩,WL Z,rfl,hR Z Z Z ac⟩⟩⟩ Z) fun vs D v2 _=>?_)
 have J:=CQ D v2;refine gM 2 Z (bB Z (BQ Z Z Z Z Z (by decide)) ?_);rintro t (⟨hall,rfl⟩|⟨q,x,b,hx,hb,hns,rfl⟩)
 .have u:(vs.map (JP m)).Perm S:=by
   have:=((I1 (d:=(cA Fact.z,Fact.z)) hbl hbn D v2 hall).map (·.2)).trans j;rwa[XX]at this
  have y:=u.length_eq;refine gA Z (ai [4] (FY (JL hF u) u hs (by omega)) Z Z Z Z Z (by show[_]=[io (AO.b3 _ (aX _ _ _))];rw[b5];rfl) Z Z ?_)
  (refine gM 1 Z ?_;refine cG (L:=[]) (t:=⟨[(3,.sl 4 0 S.length 2)],[(0,io (bz m)),(1,io (cm p n 0)),(4,io (aX 2 S Fact.c))],5⟩) (wk Z Z Z ⟨.row y,rfl,ac⟩ (hMb Z Z Z ⟨⟨_,rfl,.of_eq Z⟩,WL Z,rfl,hR Z (by rw[XX];exact X6 fun x _=>js _ _) Z ac⟩) Z) ?_)
  refine km 4 (fun k=>Fact.c (S.getD k co)) Z (cU Z) ⟨by simp[PV.bb],ac⟩ ⟨ac,(by simp[AO.mg,a8,PV.bb]),EO _ _ _ _ _ _,ac⟩ ?_;refine gA Z (ar [] (by first|exact .inr Z|exact .inl Z) Z (wk Z Z Z ⟨.bL Z (fun k _=>by rw[Xd]),rfl,ac⟩ (hM Z Z Z ⟨⟨_,rfl,.of_eq Z⟩,WL Z,rfl,ac⟩) Z))
 .have I:q<m.length:=(WT.1 hx).1;have B:x.2=JP m q:=by rw[JP,WQ,hx];rfl
  have A:x.2∈S:=j.mem_iff.1 (Xw.2 ⟨x,Xs hx,rfl⟩);refine gM 8 Z (bB Z (yD Z Z Z Z xL hb hx Z) ?_);rintro t rfl;refine gA Z (aE (mU x.2 (by have:=hF _ A;omega)) Z Z Z Z Z Z ?_);refine gA Z ⟨q,I,vi hb hns,ac,[7],wk Z Z Z ⟨.row (by simp),rfl,bi ac⟩ ⟨⟨_,rfl,.of_eq Z⟩,WL Z,ac,⟨⟨_,rfl,.of_eq Z⟩,WL Z,rfl,⟨⟨_,rfl,.of_eq (by rw[sI hb];rfl)⟩,WL Z,rfl,hR Z (by rw[W4,W4,B];rfl) Z ac⟩⟩⟩ Z⟩
theorem H9(p:Prog)(n:Nat){m:FM}{S:List Fact}(hk:bY cA m S)(hs:rk aV S)(hF:xy S)(hl:S.length<=100000000):bf prog 19 [.ptr 1 0] (bO p n m) (.iv (aW 2 S Fact.c)) (bH p n m) 2:=by
 refine ak ab func19 Z (by decide) ntmps19 Z (by simp) ?_;refine gA Z (ai [0,1] (Uu p n m) Z Z Z Z Z Z Z Z ?_);refine gA Z (ai [0,1] (MC p n hk hs hF hl) Z Z Z Z Z Z Z Z ?_);refine gA Z (ar [] (by first|exact .inr Z|exact .inl Z) Z (wk Z Z Z (bi ac) (hM Z Z Z ⟨⟨_,rfl,.of_eq Z⟩,WL Z,rfl,ac⟩) Z))
abbrev mH(m:CM)(j:Nat):bZ Fact:=(m.getD j (cA Fact.z,bZ.z)).2
theorem GC{m:CM}{vs:List Nat}(hn:vs.Nodup)(x: ∀j∈vs,j<m.length)(h: ∀j,j<m.length->j∈vs):(vs.reverse.map (mH m)).Perm (m.map (·.2)):=by
 have h1:=(y0 hn x h).map fun j=>m.getD j (cA Fact.z,bZ.z);rw[cC]at h1;have u:=h1.map (·.2);rw[XX]at u;exact((List.reverse_perm vs).map _).trans u
theorem Ue{u:CM}{L:List (bZ Fact)}(hp:(u.map (·.2)).Perm L)(hs:w5 aV L)(hF: ∀x∈L,x.2.args.length<=1000000000)(hl:L.length<=100000000):Pure prog 47 [.iv (Cy u)] (.iv (aW 3 L fF)):=by
 have b0:u.length=L.length:=by have:=hp.length_eq;rwa[Xk]at this
 refine ah ab func47 Z (by decide) ntmps47 Z (by simp) Z ?_;refine gA Z ?_;refine ju 3 3 Z ?_;refine gd u (fun vs=>⟨[(3,.sl 2 0 (vs.reverse.map (mH u)).length 3),(7,.ptr 0 0)],[(0,io (.bX kF Cz u vs is)),(2,io (aX 3 (vs.reverse.map (mH u)) fF))],3⟩) (fun vs=>vs.Nodup∧ ∀j∈vs,j<u.length) [1] ⟨XM,by simp⟩
  (wk Z Z Z (bi (bi trivial)) (hI Z Z (.inl Z) Z (hR Z Z Z trivial)) Z) fun vs hJ=>?_
 obtain⟨A,B⟩:=hJ;have c0:=CQ A B;refine gf Z ac (dS Z Z Z Z Z (by decide) (fun D=>?_) fun j x C hj=>?_)
 .have G:=(GC A B D).trans hp;have I:=G.length_eq;refine gA Z (ai [2] (HU (fun x C=>hF x (G.mem_iff.1 C)) (((G.map (·.2)).nodup_iff).2 ((w5.facts hs).nodup pb)) G hs (by omega)) Z Z Z Z Z (by show[_]=[io (AO.b3 _ (aX _ _ _))];rw[b5];rfl) Z Z ?_);refine gA Z (dA (by first|exact .inr Z|exact .inl Z) Z Z ((by rw[XX];exact X6 fun x _=>js _ _)) (I))
 .have Y:x.2=mH u j:=by rw[mH,WQ,C];rfl
  have J:x.2∈L:=hp.mem_iff.1 (Xw.2 ⟨x,Xs C,rfl⟩);have a0: ∀y,y=j::vs->y.Nodup∧ ∀i∈y,i<u.length:=fun y e=>e▸⟨XB.2 ⟨hj,A⟩,fun i hi=>(Xa.1 hi).elim (fun h=>h▸(WT.1 C).1) (B i)⟩;refine gA Z (bg ab [] (Pure.nX (mU x.2.2 (by have:=hF _ J;omega))) Z Z Z Z Z Z Z Z Z Z Z Z (by(repeat' (first|exact ac|exact rfl|exact ae.refl _|exact ae.bk (by assumption)|apply WN))<;>first|omega|(simp only[WV];omega)|(simp;done)|(simp;omega)) Z (by(repeat' (first|exact ac|exact rfl|exact ae.refl _|exact ae.bk (by assumption)|apply WN))<;>first|omega|(simp only[WV];omega)|(simp;done)|(simp;omega)) ?_);refine gA Z ⟨j,x,C,hj,a0 _ Z,[5],wk Z Z Z ⟨.row (by simp),rfl,bi ac⟩ (hI Z Z (.inr Z) Z (hR Z (by rw[List.reverse_cons,W4,W4,List.map_singleton,<-Y];rfl) Z ac)) Z⟩
abbrev Fz:AO:= .cells [.ptr 1 0]
abbrev nO(p:Prog)(n:Nat)(m:FM):List AO:=[bz m,cm p n 0,Fz]
abbrev nH(p:Prog)(n:Nat)(m:FM):AH:=[(0,io (bz m)),(1,io (cm p n 0)),(2,io Fz)]
def nU(m:FM)(e:kF.K×bZ Fact):Bool:=dx kF m e.1==e.2.1
theorem Ux(p:Prog)(n:Nat)(m:FM)(k:kF.K)(x:bZ Fact):bf prog 80 [kF.pk k,ag (fF x),.ptr 2 0] (nO p n m) (pB (nU m (k,x))) (nH p n m) 3:=by
 refine ak ab func80 Z (by decide) ntmps80 Z (by simp) ?_;refine gA Z (ar [] (by first|exact .inr Z|exact .inl Z) Z (wk Z Z Z (bi ac) (hM Z Z Z ⟨⟨_,rfl,.of_eq Z⟩,WL Z,rfl,⟨⟨_,rfl,.of_eq Z⟩,WL Z,rfl,ac⟩⟩) Z))
theorem VZ(p:Prog)(n:Nat)(m:FM)(u:CM)(hn:(u.map (·.1)).Nodup)(hl:u.length<=1000000000):bf prog 79 [.mp 3,.cv (.func 80) [] [.ptr 2 0]] (nO p n m++ [Ke u]) (.aY []) (nH p n m++ [(3,io (Ke (u.filter fun e=>!nU m e)))]) 4:=by
 refine ak ab func79 Z (by decide) ntmps79 Z (by simp) ?_;refine gM 3 Z (bB Z (xU ab Z Z Z Z Z Z (by decide)) ?_);rintro t ⟨bs,clock,hbl,hbn,hbc,rfl⟩
 refine gA Z (Fc u.length (fun vs=>⟨[(0,.mp 3),(1,.cv (.func 80) [] [.ptr 2 0]),(7,.ptr 4 0)],[(0,io (bz m)),(1,io (cm p n 0)),(2,io Fz),(3,io (.ix kF Cz bZ.z NZ VC (oI u (cA Fact.z,bZ.z) (fun j=>nU m (u.getD j (cA Fact.z,bZ.z))) vs) (p7 u.length bs (fun j=>nU m (u.getD j (cA Fact.z,bZ.z))) vs) clock)),(4,io (.eB (.mp 3) clock (lP bs vs)))],5⟩) (fun _=>True) [] ac
  (wk Z Z Z (bi (bi (bi ac))) (hM Z Z Z ⟨⟨_,rfl,.of_eq Z⟩,WL Z,rfl,⟨⟨_,rfl,.of_eq Z⟩,WL Z,rfl,⟨⟨_,rfl,.of_eq (by rw[GI,GJ hbl];rfl)⟩,WL Z,ac,⟨⟨_,rfl,.of_eq Z⟩,WL Z,rfl,ac⟩⟩⟩⟩) Z) fun vs Y v2 _=>?_)
 refine gM 2 Z (bB Z (BQ Z Z Z Z Z (by decide)) ?_);rintro t (⟨hall,rfl⟩|⟨q,x,b,hx,hb,hns,rfl⟩)
 .have hE:=I8 (d:=(cA Fact.z,bZ.z)) hbl hbn v2 (nU m) (fun j=>rfl) hall;refine gA Z (ar [] (by first|exact .inr Z|exact .inl Z) Z (wk Z Z Z (bi ac) (hM Z Z Z ⟨⟨_,rfl,.of_eq Z⟩,WL Z,rfl,⟨⟨_,rfl,.of_eq Z⟩,WL Z,rfl,hMb Z hE Z ac⟩⟩) Z))
 .obtain⟨j,B,C,y,I⟩:=left_at hbl hx hb;have D:u.getD j (cA Fact.z,bZ.z)=x:=by rw[WQ,C];rfl
  refine gM 8 Z (bB Z (yD Z Z Z Z xL hb hx Z) ?_);rintro t rfl;refine gA Z (ai [0,1,2] (Ux p n m x.1 x.2) Z Z Z Z Z Z Z Z ?_);have G:nU m (x.1,x.2)=nU m (u.getD j (cA Fact.z,bZ.z)):=by rw[D]
  refine gA Z ?_;refine WN (fun g1=>?_) (fun g1=>?_)
  .have g1:nU m (u.getD j (cA Fact.z,bZ.z))=jp:=by rw[<-G];exact g1
   obtain⟨A,J⟩:=I7 (m:=u) (d:=(cA Fact.z,bZ.z)) (bs:=bs) (dl:=fun j=>nU m (u.getD j (cA Fact.z,bZ.z))) g1 B;refine gM 3 Z (bB Z (DZ ab Z Z Z Z Z Z (rfl:kF.dk _=io x.1) (Fk ((GH.map _).nodup hn) hx) Z) ?_);rintro t rfl;refine gA Z ⟨j,I,vi y hns,ac,[],wk Z Z Z (bi (bi (bi ac))) (hM Z Z Z ⟨⟨_,rfl,.of_eq Z⟩,WL Z,rfl,⟨⟨_,rfl,.of_eq Z⟩,WL Z,rfl,⟨⟨_,rfl,.of_eq (by rw[A,J];rfl)⟩,WL Z,ac,⟨⟨_,rfl,.of_eq (by rw[sI y];rfl)⟩,WL Z,rfl,ac⟩⟩⟩⟩) Z⟩
  .have g1:nU m (u.getD j (cA Fact.z,bZ.z))=kw:=by rw[<-G];exact g1
   have A:=DH (n:=u.length) (vs:=vs) (dl:=fun j=>nU m (u.getD j (cA Fact.z,bZ.z))) g1;refine gA Z ⟨j,I,vi y hns,ac,[],wk Z Z Z (bi (bi (bi ac))) (hM Z Z Z ⟨⟨_,rfl,.of_eq Z⟩,WL Z,rfl,⟨⟨_,rfl,.of_eq Z⟩,WL Z,rfl,⟨⟨_,rfl,.of_eq (by unfold oI p7;rw[A];rfl)⟩,WL Z,ac,⟨⟨_,rfl,.of_eq (by rw[sI y];rfl)⟩,WL Z,rfl,ac⟩⟩⟩⟩) Z⟩
end Go.Proofs.YtlmhfgbkchnfbaaGreatDoor
namespace Go.Proofs.YtlmhfgbkchnfbaaGreatDoor
open Go Go.Al
def G1(p:Prog)(f:Fact)(j:Nat):Bool:=lc ((f.args.getD j co).kind=(iw p f.rel).types.getD j co)
def nW(p:Prog)(f:Fact):Int:=
 if dx .str (tE p) f.rel=kw∨jZ f=kw∨ ¬(f.args.length:Int)=((iw p f.rel).types.length:Int) then 5
 else if(Xq f.args.length).all (G1 p f)=jp then 0 else 5
theorem Gi{q:Nat->Bool}{n:Nat}(h: ∀j,j<n->q j=jp):(Xq n).all q=jp:=XC.2 fun j u=>h j (Yn.1 u)
theorem Gh{q:Nat->Bool}{n j:Nat}(h:j<n)(u:q j=kw): ¬(Xq n).all q=jp:=fun e=>by
 have:=XC.1 e j (Yn.2 h);rw[u]at this;cases this
theorem c16(p:Prog)(f:Fact)(hb:p.aF.length<=1000000000)(hf:f.args.length<=1000000000):Pure Tryz.prog 77 [ag p.c,ag f.c] (pI (nW p f)):=by
 refine ah ab Tryz.func77 Z (by decide) Tryz.ntmps77 Z (by simp) Z ?_;refine gA Z (zd [] (d50 p (by omega)) ?_);refine zE Z Z (fun g1=>?_) fun g1=>?_
 .have g1:dx .str (tE p) f.rel=kw:=by simpa using g1
  rw[nW,am (.inl g1)];exact zU Z
 have g1: ¬dx .str (tE p) f.rel=kw:=by
  have g:(!dx .str (tE p) f.rel)=kw:=g1;intro h;rw[h]at g;cases g
 refine gA Z (zp (c55 f) ?_);refine zE Z Z (fun g2=>?_) fun g2=>?_
 .have g2:jZ f=kw:=by
   cases h:jZ f with
   |false=>rfl
   |true=>
    have g:(!lc ((if jZ f then(0:Int) else 20)=0))=jp:=g2;rw[h]at g;simp at g
  rw[nW,am (.inr (.inl g2))];exact zU Z
 have g2: ¬jZ f=kw:=by
  intro h;have g:(!lc ((if jZ f then(0:Int) else 20)=0))=kw:=g2;rw[h]at g;simp at g
 refine zJ Z Z (fun g3=>?_) fun g3=>?_
 .have g3: ¬(f.args.length:Int)=((iw p f.rel).types.length:Int):=by
   have g:(!lc ((f.args.length:Int)=((iw p f.rel).types.length:Int)))=jp:=g3;simpa only[X0,decide_eq_false_iff_not]using g
  rw[nW,am (.inr (.inr g3))];exact zU Z
 have g3:(f.args.length:Int)=((iw p f.rel).types.length:Int):=by
  have g:(!lc ((f.args.length:Int)=((iw p f.rel).types.length:Int)))=kw:=g3;simpa only[YF,decide_eq_true_eq]using g
 rw[nW,be (by rintro(h|h|h);exact g1 h;exact g2 h;exact h g3)];refine gA Z ?_;refine aM 0 f.args.length (W2 _) (fun i=>⟨[(5,.ptr 3 0),(34,.iv (aW 3 f.args cS.c)),(35,pI f.args.length),(36,pI i)],[(3,io (aG (iw p f.rel).c))],4⟩) (fun i=> ∀j,j<i->G1 p f j=jp) [] (fun j x=>absurd x (YM j))
  (zW (zO trivial)) fun i hi y=>?_
 refine zJ Z Z (fun h1=>?_) fun h1=>?_
 .have h1:i<f.args.length:=zN h1;refine zJ Z Z (fun u=>?_) fun u=>?_
  .have u:G1 p f i=kw:=by
    have g:(!G1 p f i)=jp:=u;simpa using g
   rw[be (Gh h1 u)];exact zU Z
  .have u:G1 p f i=jp:=by
    have g:(!G1 p f i)=kw:=u;simpa using g
   refine gA Z ⟨h1,fun j x=>by rcases YP.1 x with h|h;exact y j h;exact h▸u,[],zW (zO ac)⟩
 .have h1:f.args.length<=i:=zG h1;rw[am (Gi fun j x=>y j (by omega))];exact zU Z
end Go.Proofs.YtlmhfgbkchnfbaaGreatDoor
namespace Go.Proofs.YtlmhfgbkchnfbaaGreatDoor
open Go Go.Al Go.Proofs.Tryz Go.Bo
def okF(p:Prog)(f:Fact):Bool:=lc (nW p f=0)
theorem iR{p:Prog}{f:Fact}(h:okF p f=jp):f.args.length<=8:=by
 have h:=of_decide_eq_true h;unfold nW at h;split at h
 .cases h
 .rename_i g;have g2: ¬jZ f=kw:=fun e=>g (.inr (.inl e));rw[Bool.not_eq_false]at g2;unfold jZ at g2;simp only[XE,decide_eq_true_eq]at g2;exact g2.2.1
abbrev mapOf(T:List (bZ Fact)):CM:=T.map fun x=>(cA x.2,x)
theorem BU{T:List (bZ Fact)}(hn:(T.map (·.2)).Nodup)(u: ∀x∈T,x.2.args.length<=8):((mapOf T).map (·.1)).Nodup:=by
 induction T with
 |nil=>exact XM
 |cons x r ih=>
  rw[WW,XB]at hn;rw[mapOf,WW,WW,XB];refine⟨fun m=>?_,ih hn.2 fun y j=>u y (W5 _ j)⟩;obtain⟨e,B,A⟩:=Xw.1 m;obtain⟨y,j,rfl⟩:=Xw.1 B;have:=rX (u y (W5 _ j)) A;exact hn.1 (Xw.2 ⟨y,j,this⟩)
def ch(S:List Fact)(l:List (bZ Fact)):List (bZ Fact):=(nT l).filter fun x=>!(lc (x.2∈S)==x.1)
theorem ym{l:List (bZ Fact)}{x:bZ Fact}(h:x∈nT l):x∈l:=by
 have:=((qS l).2 x.1 x.2).1 h;exact iA this
theorem GR{m:FM}{S:List Fact}(hk:bY cA m S)(j: ∀f∈S,f.args.length<=8)(f:Fact):dx kF m (cA f)=lc (f∈S):=by
 have:=hk.has (f:=f) fun u hu e=>rX (j u hu) e;by_cases h:f∈S
 .rw[decide_eq_true h,this.2 h]
 .rw[decide_eq_false h];cases e:dx kF m (cA f) with
  |false=>rfl
  |true=>exact absurd (this.1 e) h
theorem Ir{m:FM}{S:List Fact}(hk:bY cA m S)(j: ∀f∈S,f.args.length<=8)(l:List (bZ Fact)):((mapOf (nT l)).filter fun e=>!nU m e)=mapOf (ch S l):=by
 unfold ch mapOf;rw[List.filter_map];congr 1;refine YS fun x _=>?_;show(!(dx kF m (cA x.2)==x.1))=_;rw[GR hk j]
theorem Bw: ∀(T:List (bZ Fact)) (c:bZ Fact),(lg T c).length<=T.length+1
 | [],_=>WY _
 |x::r,c=>by
  have:=Bw r c;unfold lg;split
  .simp
  .simp only[Xn];omega
theorem GP(l:List (bZ Fact)):(nT l).length<=l.length:=by
 have key: ∀(l T:List (bZ Fact)),(l.foldl lg T).length<=T.length+l.length:=by
  intro l
  induction l with
  |nil=>intro T;exact WY _
  |cons c r ih=>
   intro T;have h1:=ih (lg T c);have j:=Bw T c;rw[XU,Xn];omega
 have:=key l [];show(l.foldl lg []).length<=_;simpa using this
def AB(x:bZ Fact):Int:=if x.1=jp then 1 else-1
theorem BE{a b:List Int}(h:a.Perm b):a.sum=b.sum:=by
 induction h with
 |nil=>rfl
 |cons x _ ih=>rw[Ya,Ya,ih]
 |swap x y l=>rw[Ya,Ya,Ya,Ya];omega
 |trans _ _ a b=>exact a.trans b
theorem Es: ∀(T:List (bZ Fact)),(T.map AB).sum=((T.filter fun x=>x.1).length:Int)-((T.filter fun x=>!x.1).length:Int)
 | []=>rfl
 |x::r=>by
  rw[WW,Ya,Es r];cases h:x.1 with
  |true=>simp[AB,h];omega
  |false=>simp[AB,h];omega
theorem Iq{S:List Fact}(hS:rk aV S)(l:List (bZ Fact)):(S.length:Int)+((ch S l).map AB).sum=(fX aV S l).length:=by
 have j:(ch S l).Perm (dI aV S l):=nr pb S l;rw[BE (j.map AB),Es];have:=IT pb hS l;omega
theorem F4(T:List (bZ Fact)): -(T.length:Int)<=(T.map AB).sum∧(T.map AB).sum<=T.length:=by
 induction T with
 |nil=>simp
 |cons x r ih=>
  rw[WW,Ya,Xn];unfold AB at*
  split<;>omega
def IW(p:Prog)(S:List Fact)(l:List (bZ Fact)):PV:=
 if iU aV (okF p) S l=0 then .aY [.iv (Cy (mapOf (ch S l))),pI 0] else .aY [.iv (.v (.map is)),pI (iU aV (okF p) S l)]
theorem uF{p:Prog}{S:List Fact}{l:List (bZ Fact)}{e:Int}(h:iU aV (okF p) S l=e)(h0:e≠0):IW p S l= .aY [.iv (.v (.map is)),pI e]:=by
 unfold IW;rw[h,be h0]
theorem EU{p:Prog}{S:List Fact}{l:List (bZ Fact)}(h:iU aV (okF p) S l=0):IW p S l= .aY [.iv (Cy (mapOf (ch S l))),pI 0]:=by
 unfold IW;rw[am h]
theorem VV(p:Prog)(n:Nat){m:FM}{S:List Fact}(l:List (bZ Fact))(hb:p.aF.length<=1000000000)(hk:bY cA m S)(hS:dV aV (okF p) S)(hF: ∀x∈l,x.2.args.length<=1000000000):
  bf prog 45 [.ptr 1 0,.iv (aW 3 l fF)] (bO p n m) (IW p S l) (bH p n m) 2:=by
 have t0:=hk.len;have j0:=hS.KN;have g0: ∀f∈S,f.args.length<=8:=fun f hf=>iR (hS.ok f hf);refine ak ab func45 Z (by decide) ntmps45 Z (by simp) ?_;refine gA Z ?_;refine WN (fun k1=>?_) (fun k1=>?_)
 .exact absurd k1 (by decide)
 refine gA Z ?_;refine WN (fun I=>?_) (fun I=>?_)
 .have I:4096<l.length:=by have:=of_decide_eq_true I;omega
  rw[uF (e:=2) (by unfold iU;rw[am I]) (by decide)];refine gA Z (ar [] (by first|exact .inr Z|exact .inl Z) Z (wk Z Z Z (bi ac) (hM Z Z Z ⟨⟨_,rfl,.of_eq Z⟩,WL Z,rfl,ac⟩) Z))
 have I:l.length<=4096:=by have:=of_decide_eq_false I;omega
 refine gA Z ?_;refine aM 0 l.length (W2 _) (fun i=>⟨[(2,.ptr 2 0),(6,.mp 3),(20,.iv (aW 3 l fF)),(21,pI l.length),(22,pI i)],[(0,io (bz m)),(1,io (cm p n 0)),(2,io Fz),(3,io (Ke (mapOf (nT (l.take i)))))],4⟩) (fun i=> ∀x∈l.take i,okF p x.2=jp) [] (by simp)
  (wk Z Z Z (bi (bi (bi (bi (bi trivial))))) (hM Z Z Z ⟨⟨_,rfl,.of_eq Z⟩,WL Z,rfl,⟨⟨_,rfl,.of_eq Z⟩,WL Z,rfl,Sr Z NY Z trivial⟩⟩) Z) fun i hi J=>?_
 refine gA Z ?_;refine WN (fun h1=>?_) (fun h1=>?_)
 .have h1:i<l.length:=by simpa using h1
  have e0:l.getD i co∈l:=by rw[WQ,WU h1];exact XF h1
  have Y:=iD (g:=lg) (b:=([]:List (bZ Fact))) h1;have q0:=bS (l:=l) h1;refine gA Z (bg ab [] (Pure.nX (c16 p (l.getD i co).2 hb (hF _ e0))) Z Z Z Z Z Z Z Z Z Z Z Z (by(repeat' (first|exact ac|exact rfl|exact ae.refl _|exact ae.bk (by assumption)|apply WN))<;>first|omega|(simp only[WV];omega)|(simp;done)|(simp;omega)) Z (by(repeat' (first|exact ac|exact rfl|exact ae.refl _|exact ae.bk (by assumption)|apply WN))<;>first|omega|(simp only[WV];omega)|(simp;done)|(simp;omega)) ?_);refine gA Z ?_;refine WN (fun g1=>?_) (fun g1=>?_)
  .have g1:okF p (l.getD i co).2=kw:=by
    have g:(!lc (nW p (l.getD i co).2=0))=jp:=g1;rw[X0]at g;exact g
   rw[uF (e:=5) (by
    unfold iU;rw[be (by omega),am]
    exact List.all_eq_false.2 ⟨_,e0,by rw[g1];decide⟩) (by decide)]
   refine gA Z (ar [] (by first|exact .inr Z|exact .inl Z) Z (wk Z Z Z (bi ac) (hM Z Z Z ⟨⟨_,rfl,.of_eq Z⟩,WL Z,rfl,ac⟩) Z))
  .have g1:okF p (l.getD i co).2=jp:=by
    have g:(!lc (nW p (l.getD i co).2=0))=kw:=g1;rw[YF]at g;exact g
   have s0:=iR g1;refine gA Z (aE (RN (l.getD i co).2 s0) Z Z Z Z Z Z ?_);have o0:=Gj (kc:=kF) (key:=cA) (nT (l.take i)) (l.getD i co) fun y hy e=>rX (iR (J y (ym hy))) e;refine gf Z ?_ ?_
   .repeat' (first|exact ac|exact rfl|exact N4 _|exact ae.refl _|apply WN)
    all_goals omega
   refine⟨h1,fun x u=>?_,[],wk Z Z Z (bi (bi (bi (bi (bi ac))))) (hM Z Z Z ⟨⟨_,rfl,.of_eq Z⟩,WL Z,rfl,⟨⟨_,rfl,.of_eq Z⟩,WL Z,rfl,hM Z ?_ Z ac⟩⟩) Z⟩
   .rw[q0,Xf,W1]at u;exact u.elim (J x) fun e=>e▸g1
   .show _=(nT (l.take (i+1))).map fun x=>(cA x.2,x)
    unfold nT at*
    rw[Y,<-o0,<-Qj (l.getD i co)];rfl
 .have h1:l.length<=i:=by simpa using h1
  have k0:i=l.length:=by omega
  subst k0;rw[W9 (WY _)]at J ⊢;have B:(l.all fun x=>okF p x.2)=jp:=XC.2 J;have n0:=BU (qS l).1 fun x u=>iR (J x (ym u));have p0:=Ir hk g0 l;have w0:=Iq hS.AA l;have m0:=GP l;have v0:(ch S l).length<=l.length:=XR (Yi _ _) m0;refine gA Z (ai [0,1,2,3] (VZ p n m (mapOf (nT l)) n0 (by rw[mapOf,Xk];omega)) Z Z Z Z Z Z Z Z ?_);rw[p0];refine gA Z ?_
  refine gd (mapOf (ch S l)) (fun vs=>⟨[(6,.iv (Cy (mapOf (ch S l)))),(11,pI ((m.length:Int)+(vs.map fun j=>AB (mH (mapOf (ch S l)) j)).sum)),(54,.ptr 4 0)],[(0,io (bz m)),(1,io (cm p n 0)),(4,io (.bX kF Cz (mapOf (ch S l)) vs is))],5⟩) (fun vs=>vs.Nodup∧ ∀j∈vs,j<(mapOf (ch S l)).length) [] ⟨XM,by simp⟩
   (wk Z Z Z (bi ⟨zZ (by simp),rfl,bi trivial⟩) (hM Z Z Z ⟨⟨_,rfl,.of_eq Z⟩,WL Z,rfl,hI Z Z (.inl Z) Z trivial⟩) Z) fun vs f0=>?_
  obtain⟨v1,v2⟩:=f0;have r0:=CQ v1 v2;rw[Xk]at r0;have G:=F4 (vs.map (mH (mapOf (ch S l))));rw[XX,Xk]at G;have a0:=G.1;have b0:=G.2;have i0:(AB ∘ mH (mapOf (ch S l)))=fun j=>AB (mH (mapOf (ch S l)) j):=rfl;rw[i0]at a0 b0;refine gf Z ac (dS Z Z Z Z Z (by decide) (fun C=>?_) fun j x u hj=>?_)
  .have hq:(vs.map fun j=>AB (mH (mapOf (ch S l)) j)).sum=((ch S l).map AB).sum:=by
    have h1:=((y0 v1 v2 C).map fun j=>(mapOf (ch S l)).getD j (cA Fact.z,bZ.z)).map fun e=>AB e.2;rw[cC,XX,XX]at h1;exact BE h1
   rw[hq];refine gA Z ?_;refine WN (fun g2=>?_) (fun g2=>?_)
   .have g2:65536<(fX aV S l).length:=by have:=of_decide_eq_true g2;omega
    rw[uF (e:=3) (by unfold iU;rw[be (by omega),be (by rw[B];decide),am g2]) (by decide)];refine gA Z (ar [] (by first|exact .inr Z|exact .inl Z) Z (wk Z Z Z (bi ac) (hM Z Z Z ⟨⟨_,rfl,.of_eq Z⟩,WL Z,rfl,ac⟩) Z))
   .have g2: ¬65536<(fX aV S l).length:=by have:=of_decide_eq_false g2;omega
    rw[EU (by unfold iU;rw[be (by omega),be (by rw[B];decide),be g2])];refine gA Z (ar [] (by first|exact .inr Z|exact .inl Z) Z (wk Z Z Z (bi ac) (hM Z Z Z ⟨⟨_,rfl,.of_eq Z⟩,WL Z,rfl,ac⟩) Z))
  .have d0:x.2=mH (mapOf (ch S l)) j:=by rw[mH,WQ,u];rfl
   have c0: ∀A,A=j::vs->A.Nodup∧ ∀i∈A,i<(mapOf (ch S l)).length:=fun A e=>e▸⟨XB.2 ⟨hj,v1⟩,fun i hi=>(Xa.1 hi).elim (fun h=>h▸(WT.1 u).1) (v2 i)⟩;refine gA Z ?_;refine WN (fun g3=>?_) (fun g3=>?_)
   .have g3:x.2.1=jp:=g3;have D:AB (mH (mapOf (ch S l)) j)=1:=by rw[<-d0,AB,am g3]
    refine gA Z ⟨j,x,u,hj,c0 _ Z,[],wk Z Z Z (bi ⟨zZ (by rw[WW,Ya,D];omega),rfl,bi ac⟩) (hM Z Z Z ⟨⟨_,rfl,.of_eq Z⟩,WL Z,rfl,hI Z Z (.inr Z) Z ac⟩) Z⟩
   .have g3:x.2.1=kw:=g3;have D:AB (mH (mapOf (ch S l)) j)= -1:=by rw[<-d0,AB,be (by rw[g3];decide)]
    refine gA Z ⟨j,x,u,hj,c0 _ Z,[],wk Z Z Z (bi ⟨zZ (by rw[WW,Ya,D];omega),rfl,bi ac⟩) (hM Z Z Z ⟨⟨_,rfl,.of_eq Z⟩,WL Z,rfl,hI Z Z (.inr Z) Z ac⟩) Z⟩
theorem H7{y:IV}(A:jR (lits []) y):Pure prog 71 [.iv (lits [])] (.iv y):=by
 refine ah ab func71 Z (by decide) ntmps71 Z (by simp) Z ?_;refine gA Z (aE (EC [] (by simp)) Z Z Z Z Z Z ?_);refine gA Z (nC (n:=0) ?_);refine gA Z ?_;refine WN (fun j=>?_) (fun j=>?_)
 .exact absurd j (by simp)
 refine gA Z (aH (by first|exact .inr Z|exact .inl Z) Z ?_);exact .iv (fun M x u=>A M x u)
set_option maxHeartbeats 2000000 in
theorem Ut: ∀(n:Nat) (l:List Lit) (y:IV),Lit.aD l<=n->Lit.aD l<=1000000000->jR (lits l) y->Pure prog 71 [.iv (lits l)] (.iv y):=by
 intro n
 induction n with
 |zero=>
  intro l y h hb A;have hl:=Lit.aJ l;have u:l=[]:=Yl.1 (by omega);subst u;exact H7 A
 |succ n ih=>
  intro l y h hb A;have hl:=Lit.aJ l;by_cases B:l=[]
  .subst B;exact H7 A
  refine ah ab func71 Z (by decide) ntmps71 Z (by simp) Z ?_;refine gA Z (ai [] (Be l (by omega) B) Z Z Z Z Z Z Z Z ?_);refine gA Z ?_;refine aM 0 l.length (W2 _) (fun i=>⟨[(0,.iv (lits l)),(3,.sl 0 0 l.length 30),(9,pI l.length),(10,pI i)],[(0,io (aX 30 l Lit.c))],1⟩) (fun _=>True) [] ac
   (wk Z Z Z (bi (bi (bi (bi trivial)))) (hR Z (by rw[XX];exact X6 fun x _=>js _ _) Z trivial) Z) fun i hi _=>?_
  refine gA Z ?_;refine WN (fun h1=>?_) (fun h1=>?_)
  .have h1:i<l.length:=by simpa using h1
   have D:=Lit.bT l i h1;have C:=(l.getD i co).size_eq;have j:=Dh (g:=fun x=>(Lit.c x).map PV.iv) h1;refine gM 22 Z (kN ab Z Z Z Z Z (j) Z Z ?_);refine gA Z (aE (uA (l.getD i co).atom.an (by omega)) Z Z Z Z Z Z ?_);refine gA Z (nD ab Z Z Z Z (i:=0) (q:=0+i) (off:=2) Z Z j Z Z (by decide) Z Z ?_);refine gM 9 Z (kO (p:=ag (l.getD i co).left.c) 6 Z Z Z Z Z Z (dm ab Z Z Z Z j Z) ?_);refine gM 3 Z (kO (p:=ag (l.getD i co).right.c) 11 Z Z Z Z Z Z (dm ab Z Z Z Z j Z) ?_);refine gM 4 Z (kO (p:=ag (l.getD i co).kn.c) 17 Z Z Z Z Z Z (dm ab Z Z Z Z j Z) ?_);refine gA Z (r8 ab [11,17] [] (Pure.nX (Db (l.getD i co).left (by omega))) Z Z Z Z Z Z Z Z Z Z Z Z (by(repeat' (first|exact ac|exact rfl|exact ae.refl _|exact ae.bk (by assumption)|apply WN))<;>first|omega|(simp only[WV];omega)|(simp;done)|(simp;omega)) Z (by(repeat' (first|exact ac|exact rfl|exact ae.refl _|exact ae.bk (by assumption)|apply WN))<;>first|omega|(simp only[WV];omega)|(simp;done)|(simp;omega)) ⟨mO ab Z Z Z Z Z Z Z j Z (.refl _),⟨mO ab Z Z Z Z Z Z Z j Z (.refl _),ac⟩⟩ ?_);refine gA Z (r8 ab [17] [] (Pure.nX (Db (l.getD i co).right (by omega))) Z Z Z Z Z Z Z Z Z Z Z Z (by(repeat' (first|exact ac|exact rfl|exact ae.refl _|exact ae.bk (by assumption)|apply WN))<;>first|omega|(simp only[WV];omega)|(simp;done)|(simp;omega)) Z (by(repeat' (first|exact ac|exact rfl|exact ae.refl _|exact ae.bk (by assumption)|apply WN))<;>first|omega|(simp only[WV];omega)|(simp;done)|(simp;omega)) ⟨mO ab Z Z Z Z Z Z Z j Z (.refl _),ac⟩ ?_);refine gA Z (bg ab [] (Pure.nX (Db (l.getD i co).kn (by omega))) Z Z Z Z Z Z Z Z Z Z Z Z (by(repeat' (first|exact ac|exact rfl|exact ae.refl _|exact ae.bk (by assumption)|apply WN))<;>first|omega|(simp only[WV];omega)|(simp;done)|(simp;omega)) Z (by(repeat' (first|exact ac|exact rfl|exact ae.refl _|exact ae.bk (by assumption)|apply WN))<;>first|omega|(simp only[WV];omega)|(simp;done)|(simp;omega)) ?_);refine gA Z (iY ab Z Z Z Z Z (by(repeat' (first|exact ac|exact rfl|exact ae.refl _|exact ae.bk (by assumption)|apply WN))<;>first|omega|(simp only[WV];omega)|(simp;done)|(simp;omega)) (gp ab Z Z Z (i:=0) (q:=0+i) (off:=4) Z Z j Z Z (by decide) Z Z) Z (by(repeat' (first|exact ac|exact rfl|exact ae.refl _|exact ae.bk (by assumption)|apply WN))<;>first|omega|(simp only[WV];omega)|(simp;done)|(simp;omega)) ?_);refine gA Z (iY ab Z Z Z Z Z (by(repeat' (first|exact ac|exact rfl|exact ae.refl _|exact ae.bk (by assumption)|apply WN))<;>first|omega|(simp only[WV];omega)|(simp;done)|(simp;omega)) (gp ab Z Z Z (i:=0) (q:=0+i) (off:=11) Z Z j Z Z (by decide) Z Z) Z (by(repeat' (first|exact ac|exact rfl|exact ae.refl _|exact ae.bk (by assumption)|apply WN))<;>first|omega|(simp only[WV];omega)|(simp;done)|(simp;omega)) ?_);refine gA Z (iY ab Z Z Z Z Z (by(repeat' (first|exact ac|exact rfl|exact ae.refl _|exact ae.bk (by assumption)|apply WN))<;>first|omega|(simp only[WV];omega)|(simp;done)|(simp;omega)) (gp ab Z Z Z (i:=0) (q:=0+i) (off:=20) Z Z j Z Z (by decide) Z Z) Z (by(repeat' (first|exact ac|exact rfl|exact ae.refl _|exact ae.bk (by assumption)|apply WN))<;>first|omega|(simp only[WV];omega)|(simp;done)|(simp;omega)) ?_);refine gM 7 Z (kN ab Z Z Z Z Z (j) Z Z ?_);refine gA Z (aE (Al.Pure.le (aa:=[.iv (sw (l.getD i co).ay)]) (ih (l.getD i co).ay (sw (l.getD i co).ay) (by omega) (by omega) (zX _)) ⟨.iv (nn _),ac⟩) Z Z Z Z Z Z ?_);refine gA Z (nD ab Z Z Z Z (i:=0) (q:=0+i) (off:=27) Z Z j Z Z (by decide) Z Z ?_);refine gA Z ⟨h1,ac,[],wk Z Z Z (bi (bi (bi (bi ac)))) (hR Z Z Z ac) Z⟩
  .have h1:l.length<=i:=by simpa using h1
   refine gA Z (gz (r0:= .sl 0 0 l.length 30) (.inr Z) Z (fH.gu 0 l Lit.c Z Z (by simp[PV.bb,a8]) (.done ?_)));have:ae (.iv (lits l)) (.iv y):= .iv A;simp only[PV.dF,n9,Xd];exact this
theorem RL(l:List Lit)(hb:Lit.aD l<=1000000000):Pure prog 71 [.iv (lits l)] (.iv (lits l)):=Ut _ l _ (WY _) hb (fun _ _ h=>h)
theorem H4(p:Prog)(hb:p.size<=1000000000):Pure prog 38 [ag p.c] (ag p.c):=by
 unfold Prog.size at hb;refine ah ab func38 Z (by decide) ntmps38 Z (by simp) Z ?_;refine gM 9 Z ?_;refine kM 2 0 4 Z Z ?_;refine kM 2 1 5 Z Z ?_;refine gA Z ?_;refine aM 0 p.aF.length (W2 _) (fun i=>⟨[(1,.ptr 0 0),(2,.ptr 1 0),(3,.ptr 2 0),(9,.iv (aW 4 p.aF Decl.c)),(10,pI p.aF.length),(11,pI i)],[(0,io (aG p.c)),(1,io (.cells [.iv (.v (.slice is 0 0)),.iv (.v (.slice is 0 0))])),(2,io (.cells [.sl 5 0 i 4,.sl 4 0 0 5])),(4,io (aX 5 ([]:List aw) aw.c)),(5,io (aX 4 (p.aF.take i) Decl.c))],6⟩) (fun _=>True) [3] ac
  (wk Z Z Z (bi (bi (bi (bi (bi (bi trivial)))))) (hC Z Z Z ⟨⟨_,rfl,.of_eq Z⟩,WL Z,rfl,⟨_,rfl,.of_eq Z⟩,WL Z,rfl,hR Z Z Z (hR Z Z Z trivial)⟩) Z) fun i hi _=>?_
 refine gA Z ?_;refine WN (fun h1=>?_) (fun h1=>?_)
 .have h1:i<p.aF.length:=by simpa using h1
  have y:(p.aF.take i).length=i:=by rw[Xv];omega
  have x:=bS (l:=p.aF) h1;have A:=pe (fun d:Decl=>d.types.length) p.aF i h1;refine gA Z (aE (ED (p.aF.getD i co).types (by omega)) Z Z Z Z Z Z ?_);refine gA Z ⟨h1,ac,[8],wk Z Z Z (bi (bi (bi (bi (bi (bi ac)))))) (hC Z Z Z ⟨⟨_,rfl,.of_eq Z⟩,WL Z,rfl,⟨⟨_,rfl,.of_eq Z⟩,WL Z,rfl,hR Z Z Z (hR Z (by rw[x,W4];rfl) Z ac)⟩⟩) Z⟩
 .have h1:p.aF.length<=i:=by simpa using h1
  have u:i=p.aF.length:=by omega
  subst u;rw[W9 (WY _)];refine gA Z ?_;refine aM 0 p.rules.length (W2 _) (fun i=>⟨[(1,.ptr 0 0),(2,.ptr 1 0),(3,.ptr 2 0),(27,.iv (aW 5 p.rules aw.c)),(28,pI p.rules.length),(29,pI i)],[(0,io (aG p.c)),(1,io (.cells [.iv (.v (.slice is 0 0)),.iv (.v (.slice is 0 0))])),(2,io (.cells [.sl 5 0 p.aF.length 4,.sl 6 0 i 5])),(5,io (aX 4 p.aF Decl.c)),(6,io (aX 5 (p.rules.take i) aw.c))],7⟩) (fun _=>True) [4] ac
   (wk Z Z Z (bi (bi (bi (bi (bi (bi trivial)))))) (hC Z Z Z ⟨⟨_,rfl,.of_eq Z⟩,WL Z,rfl,⟨⟨_,rfl,.of_eq Z⟩,WL Z,rfl,hR Z Z Z (hR Z Z Z trivial)⟩⟩) Z) fun i hi _=>?_
  refine gA Z ?_;refine WN (fun j=>?_) (fun j=>?_)
  .have j:i<p.rules.length:=by simpa using j
   have y:(p.rules.take i).length=i:=by rw[Xv];omega
   have x:=bS (l:=p.rules) j;have A:=pe aw.size p.rules i j;have B:(p.rules.getD i co).size=(p.rules.getD i co).head.an.length+Lit.aD (p.rules.getD i co).body:=rfl;refine gA Z (aE (uA (p.rules.getD i co).head.an (by omega)) Z Z Z Z Z Z ?_);refine gA Z (aE (RL (p.rules.getD i co).body (by omega)) Z Z Z Z Z Z ?_);refine gA Z ⟨j,ac,[9],wk Z Z Z (bi (bi (bi (bi (bi (bi ac)))))) (hC Z Z Z ⟨⟨_,rfl,.of_eq Z⟩,WL Z,rfl,⟨⟨_,rfl,.of_eq Z⟩,WL Z,rfl,hR Z Z Z (hR Z (by rw[x,W4];rfl) Z ac)⟩⟩) Z⟩
  .have j:p.rules.length<=i:=by simpa using j
   have u:i=p.rules.length:=by omega
   subst u;rw[W9 (WY _)];refine gA Z (gz (r0:= .agg [.sl 5 0 p.aF.length 4,.sl 6 0 p.rules.length 5]) (.inr Z) Z (fH.gu 5 p.aF Decl.c Z Z (by simp[PV.bb,a8]) (fH.gu 6 p.rules aw.c Z Z (by simp[PV.bb,a8,PV.dF,n9,show Xj 6 5=kw from rfl]) (.done (.of_eq (by simp only[PV.dF,n9,Xd,show Xj 6 5=kw from rfl,show Xj 5 5=jp from rfl,show Xj 6 6=jp from rfl,cond_true,cond_false];rfl))))))
end Go.Proofs.YtlmhfgbkchnfbaaGreatDoor
namespace Go.Tj
section
section
variable {α:Type}
inductive od (succ:α->List α):α->α->Prop
 |refl (a:α):od succ a a
 |step {a b c:α}:od succ a b->c∈succ b->od succ a c
theorem od.trans{succ:α->List α}{a b c:α}(h:od succ a b)(g:od succ b c):od succ a c:=by
 induction g with
 |refl=>exact h
 |step _ he ih=>exact .step ih he
theorem od.one{succ:α->List α}{a b:α}(h:b∈succ a):od succ a b:= .step (.refl a) h
structure St (α:Type) where
 low:α->Int
 on:α->Int
 ring:α->Int
 n:Nat
 stack:List α
section
variable [DecidableEq α]
def y2(f:α->Int)(a:α)(v:Int):α->Int:=fun x=>if x=a then v else f x
theorem kA(f:α->Int)(a:α)(v:Int):y2 f a v a=v:=am Z
theorem lN{f:α->Int}{a x:α}{v:Int}(h: ¬x=a):y2 f a v x=f x:=be h
def push(s:St α)(a:α):St α:=⟨y2 s.low a ((s.n:Int)+1),y2 s.on a 1,s.ring,s.n+1,s.stack++ [a]⟩
def zt(j:Int)(s:St α):St α:=match s.stack.getLast? with
 |some b=>⟨s.low,y2 s.on b 2,y2 s.ring b j,s.n,s.stack.dropLast⟩
 |none=>s
def fW(a:α)(j:Int):Nat->St α->St α
 |0,s=>s
 |k+1,s=>if s.on a=1 then fW a j k (zt j s) else s
def tA(j:α->St α->Int×St α)(q:Int×St α)(b:α):Int×St α:=
 if q.2.low b=0 then(min q.1 (j b q.2).1,(j b q.2).2) else if q.2.on b=1 then(min q.1 (q.2.low b),q.2) else q
def uy(a:α)(j:Int)(q:Int×St α):Int×St α:=if q.1=j then(q.1,fW a j q.2.stack.length q.2) else q
def eF(succ:α->List α):Nat->α->St α->Int×St α
 |0,_,s=>(0,s)
 |f+1,a,s=>uy a ((s.n:Int)+1) ((succ a).foldl (tA (eF succ f)) ((s.n:Int)+1,push s a))
def ik(succ:α->List α)(f:Nat)(V:List α)(s:St α):St α:=V.foldl (fun s a=>if s.low a=0 then(eF succ f a s).2 else s) s
end
def St.o:St α:=⟨fun _=>0,fun _=>0,fun _=>0,0,[]⟩
structure Inv (succ:α->List α) (path:List α) (s:St α):Prop where
 nS: ∀a,0<=s.low a∧s.low a<=s.n
 inj: ∀a b,s.low a=s.low b->s.low a≠0->a=b
 KK: ∀a,s.on a=0↔s.low a=0
 Gw: ∀a,s.on a=0∨s.on a=1∨s.on a=2
 xI: ∀a,s.on a=1↔a∈s.stack
 AA:s.stack.Pairwise fun x y=>s.low x<s.low y
 NR: ∀a,s.on a=2-> ∀b∈succ a,s.on b=2
 R8: ∀g∈path,s.on g=1
 up: ∀y,s.on y=1-> ∃g∈path,s.low g<=s.low y∧od succ y g
 dn: ∀g∈path,∀y,s.on y=1->s.low g<=s.low y->od succ g y
 aA: ∀y,s.low y≠0->y∉path-> ∀z∈succ y,s.low z≠0
 UG: ∀a,s.on a=2-> ∃r,s.on r=2∧s.low r=s.ring a∧od succ a r∧od succ r a
 cmp: ∀a b,s.on a=2->s.on b=2->od succ a b->od succ b a->s.ring a=s.ring b
structure Le (s s':St α):Prop where
 low: ∀x,s.low x≠0->s'.low x=s.low x
 NR: ∀x,s.on x=2->s'.on x=2
 n:s.n<=s'.n
theorem Le.refl(s:St α):Le s s:=⟨fun _ _=>rfl,fun _ h=>h,WY _⟩
theorem Le.trans{s t u:St α}(h:Le s t)(g:Le t u):Le s u:=
 ⟨fun x j=>by rw[g.low x (by rw[h.low x j];exact j),h.low x j],fun x j=>g.NR x (h.NR x j),XR h.n g.n⟩
structure SV (succ:α->List α) (path:List α) (a:α) (s:St α) (least:Int) (s':St α) (t:List α):Prop where
 inv:Inv succ path s'
 le:Le s s'
 stack:s'.stack=s.stack++t
 new: ∀y∈t,s.low y=0
 at_:(s.n:Int)<s'.low a
 Sj:least<=s'.low a
 l1: ∀y∈t,∀z∈succ y,s'.on z=1->least<=s'.low z
 l2:(s'.on a=2∧least=s'.low a)∨ ∃z∈s.stack,s'.low z=least∧od succ a z
theorem vG{succ:α->List α}{path:List α}{s:St α}(h:Inv succ path s){x:α}(j:s.on x=1):s.low x≠0:=fun g=>by
 have:=(h.KK x).2 g;omega
theorem IL{succ:α->List α}{p:List α}{s s':St α}(h:Inv succ p s)(hl:Le s s'){x:α}(j:s.low x≠0)(ho:s'.on x=1):s.on x=1:=by
 rcases h.Gw x with g|g|g
 .exact absurd ((h.KK x).1 g) j
 .exact g
 .have:=hl.NR x g;omega
section
variable [DecidableEq α]
theorem Bx{succ:α->List α}{path:List α}{s:St α}{a:α}(h:Inv succ path s)(ha:s.low a=0)(hp: ∀g∈path,od succ g a):Inv succ (path++ [a]) (push s a):=by
 have b0:s.on a=0:=(h.KK a).2 ha;have J:a∉s.stack:=fun g=>by have:=(h.xI a).2 g;omega
 have A: ∀x,¬x=a->(push s a).low x=s.low x:=fun x j=>lN j;have la:(push s a).low a=(s.n:Int)+1:=kA _ _ _;have D: ∀x,¬x=a->(push s a).on x=s.on x:=fun x j=>lN j;have G:(push s a).on a=1:=kA _ _ _;have hn:((push s a).n:Int)=(s.n:Int)+1:=by show((s.n+1:Nat):Int)=_;omega
 refine⟨fun x=>?_,fun x y C j=>?_,fun x=>?_,fun x=>?_,fun x=>?_,?_,fun x j b hb=>?_,fun g hg=>?_,fun y B=>?_,fun g hg y B I=>?_,fun y B Y z hz=>?_,fun x j=>?_,fun x y j B h1 h2=>?_⟩
 .have:=h.nS x;by_cases e:x=a
  .subst e;rw[la,hn];omega
  .rw[A x e,hn];omega
 .have h1:=h.nS x;have h2:=h.nS y;by_cases e:x=a
  .by_cases u:y=a
   .rw[e,u]
   .rw[e,la,A y u]at C;omega
  .by_cases u:y=a
   .rw[u,la,A x e]at C;omega
   .rw[A x e,A y u]at C;rw[A x e]at j;exact h.inj x y C j
 .by_cases e:x=a
  .subst e;rw[G,la];constructor<;>intro g<;>omega
  .rw[D x e,A x e];exact h.KK x
 .by_cases e:x=a
  .subst e;exact .inr (.inl G)
  .rw[D x e];exact h.Gw x
 .show _↔x∈s.stack++ [a];rw[Xf,W1];by_cases e:x=a
  .subst e;simp[G]
  .rw[D x e,h.xI x];simp[e]
 .show(s.stack++ [a]).Pairwise _;rw[YI];refine⟨h.AA.imp_of_mem ?_,Y8 _ _,fun x j y B=>?_⟩
  .intro x y j B C;rw[A x (fun e=>J (e▸j)),A y (fun e=>J (e▸B))];exact C
  .rw[W1]at B;subst B;rw[la,A x (fun e=>J (e▸j))];have:=h.nS x;omega
 .have e: ¬x=a:=fun e=>by subst e;rw[G]at j;omega
  rw[D x e]at j;have a0:=h.NR x j b hb;have u: ¬b=a:=fun e=>by subst e;omega
  rw[D b u];exact a0
 .rcases Xf.1 hg with g1|g1
  .have:=h.R8 g g1;rw[D g (fun e=>by subst e;omega)];exact this
  .rw[W1]at g1;subst g1;exact G
 .by_cases e:y=a
  .subst e;exact⟨y,Yo _ W8,Za _,.refl _⟩
  .rw[D y e]at B;obtain⟨g,g1,g2,g3⟩:=h.up y B;have u: ¬g=a:=fun e=>by have:=h.R8 g g1;subst e;omega
   exact⟨g,XJ _ g1,by rw[A g u,A y e];exact g2,g3⟩
 .rcases Xf.1 hg with g1|g1
  .have u: ¬g=a:=fun e=>by have:=h.R8 g g1;subst e;omega
   by_cases e:y=a
   .subst e;exact hp g g1
   .rw[A g u,A y e]at I;rw[D y e]at B;exact h.dn g g1 y B I
  .rw[W1]at g1;subst g1;by_cases e:y=g
   .subst e;exact .refl _
   .rw[la,A y e]at I;have:=h.nS y;omega
 .have e: ¬y=a:=fun e=>Y (Yo _ (by rw[e];exact W8))
  rw[A y e]at B;have:=h.aA y B (fun g=>Y (XJ _ g)) z hz;by_cases u:z=a
  .rw[u,la];omega
  .rw[A z u];exact this
 .have e: ¬x=a:=fun e=>by subst e;rw[G]at j;omega
  rw[D x e]at j;obtain⟨r,r1,r2,r3⟩:=h.UG x j;have u: ¬r=a:=fun e=>by subst e;omega
  exact⟨r,by rw[D r u];exact r1,by rw[A r u];exact r2,r3⟩
 .have e: ¬x=a:=fun e=>by subst e;rw[G]at j;omega
  have u: ¬y=a:=fun e=>by subst e;rw[G]at B;omega
  rw[D x e]at j;rw[D y u]at B;exact h.cmp x y j B h1 h2
theorem M6{succ:α->List α}{path:List α}{s:St α}{a:α}(h:Inv succ path s)(ha:s.low a=0):Le s (push s a):=by
 have u:s.on a=0:=(h.KK a).2 ha;refine⟨fun x j=>lN fun e=>j (e▸ha),fun x j=>?_,by show s.n<=s.n+1;omega⟩;have: ¬x=a:=fun e=>by subst e;omega
 show y2 s.on a 1 x=2;rw[lN this];exact j
def zs(s:St α)(u c:List α)(j:Int):St α:=⟨s.low,fun x=>if x∈c then 2 else s.on x,fun x=>if x∈c then j else s.ring x,s.n,u⟩
theorem Bz{a:α}{j:Int}{s:St α}(h: ¬s.on a=1): ∀k,fW a j k s=s
 |0=>rfl
 |k+1=>be h
theorem xX(a:α)(j:Int)(u:List α): ∀(k:Nat) (t:List α) (s:St α),t.length<k->s.stack=u++a::t->a∉t->s.on a=1->(fW a j k s).low=s.low∧(fW a j k s).n=s.n∧(fW a j k s).stack=u∧(∀x,(fW a j k s).on x=if x∈a::t then 2 else s.on x)∧ ∀x,(fW a j k s).ring x=if x∈a::t then j else s.ring x
 |0,t,s,h,_,_,_=>absurd h (YM _)
 |k+1,t,s,hk,hs,hn,ho=>by
  rw[fW,am ho];rcases t.eq_nil_or_concat with e|⟨t0,b,e⟩
  .subst e;have hl:s.stack.getLast? =io a:=by rw[hs];simp
   have hd:s.stack.dropLast=u:=by rw[hs];simp
   have G:zt j s=⟨s.low,y2 s.on a 2,y2 s.ring a j,s.n,u⟩:=by unfold zt;rw[hl,hd]
   rw[G,Bz (by show¬y2 s.on a 2 a=1;rw[kA];decide)];exact⟨rfl,rfl,rfl,fun x=>by simp[y2],fun x=>by simp[y2]⟩
  .rw[List.concat_eq_append]at e;subst e;have B:s.stack=(u++a::t0)++ [b]:=by rw[hs];simp
   have hl:s.stack.getLast? =io b:=by rw[B];exact List.getLast?_concat
   have hd:s.stack.dropLast=u++a::t0:=by rw[B];exact List.dropLast_concat
   have G:zt j s=⟨s.low,y2 s.on b 2,y2 s.ring b j,s.n,u++a::t0⟩:=by unfold zt;rw[hl,hd]
   have D: ¬a=b:=fun e=>hn (by rw[e];simp);have C:=xX a j u k t0 ⟨s.low,y2 s.on b 2,y2 s.ring b j,s.n,u++a::t0⟩ (by simp at hk;omega) Z (fun g=>hn (XJ _ g)) (by show y2 s.on b 2 a=1;rw[lN D];exact ho);rw[G];refine⟨C.1,C.2.1,C.2.2.1,fun x=>?_,fun x=>?_⟩
   .rw[C.2.2.2.1 x];by_cases y:x∈a::t0
    .rw[am y,am (by rw[<-Xe];exact XJ _ y)]
    .rw[be y];by_cases A:x=b
     .subst A;rw[am (by simp)];exact kA _ _ _
     .rw[be (by rw[<-Xe,Xf,W1];exact fun g=>g.elim y A)];exact lN A
   .rw[C.2.2.2.2 x];by_cases y:x∈a::t0
    .rw[am y,am (by rw[<-Xe];exact XJ _ y)]
    .rw[be y];by_cases A:x=b
     .subst A;rw[am (by simp)];exact kA _ _ _
     .rw[be (by rw[<-Xe,Xf,W1];exact fun g=>g.elim y A)];exact lN A
theorem St.eq{β:Type}{s t:St β}(h1:s.low=t.low)(j:s.on=t.on)(u:s.ring=t.ring)(x:s.n=t.n)(y:s.stack=t.stack):s=t:=by
 cases s;cases t;simp_all
theorem sV{a:α}{j:Int}{u t:List α}{k:Nat}{s:St α}(hk:t.length<k)(hs:s.stack=u++a::t)(hn:a∉t)(ho:s.on a=1):fW a j k s=zs s u (a::t) j:=by
 obtain⟨h1,x,y,A,B⟩:=xX a j u k t s hk hs hn ho;exact St.eq h1 (funext A) (funext B) x y
theorem yG{β:Type}{succ:β->List β}{path:List β}{s:St β}(h:Inv succ path s){a b:β}(ha:s.on a=2)(hr:od succ a b):s.on b=2:=by
 induction hr with
 |refl=>exact ha
 |step _ he ih=>exact h.NR _ ih _ he
theorem M7{succ:α->List α}{path:List α}{s:St α}{a:α}{u t:List α}(h:Inv succ (path++ [a]) s)(hs:s.stack=u++a::t)(Y: ∀g∈path,s.low g<s.low a)(j0: ∀z∈succ a,s.low z≠0)
  (e0: ∀y∈a::t,∀z∈succ y,s.on z=1->s.low a<=s.low z):Inv succ path (zs s u (a::t) (s.low a)):=by
 have I:=h.AA;rw[hs,YI]at I;obtain⟨hu,hc,c0⟩:=I;have f0:=(XZ.1 hc).1;have i0:s.on a=1:=(h.xI a).2 (by rw[hs];simp);have hC: ∀x,x∈a::t↔(s.on x=1∧s.low a<=s.low x):=by
  intro x;constructor
  .intro j;refine⟨(h.xI x).2 (by rw[hs];exact Yo _ j),?_⟩;rcases Xa.1 j with e|e
   .rw[e];exact Za _
   .have:=f0 x e;omega
  .rintro⟨h1,D⟩;have:=(h.xI x).1 h1;rw[hs]at this;rcases Xf.1 this with g|g
   .have:=c0 x g a W8;omega
   .exact g
 have a0:a∈a::t:=W8;have A: ∀x,x∈a::t->(zs s u (a::t) (s.low a)).on x=2:=fun x j=>am j;have no: ∀x,x∉a::t->(zs s u (a::t) (s.low a)).on x=s.on x:=fun x j=>be j
 have J: ∀x,x∈a::t->od succ x a:=by
  intro x j;obtain⟨h1,D⟩:=(hC x).1 j;obtain⟨g,g1,g2,g3⟩:=h.up x h1;refine g3.trans (h.dn g g1 a i0 ?_);rcases Xf.1 g1 with e|e
  .have:=Y g e;omega
  .rw[W1]at e;rw[e];exact Za _
 have G: ∀x,x∈a::t->od succ a x:=by
  intro x j;obtain⟨h1,D⟩:=(hC x).1 j;exact h.dn a (by simp) x h1 D
 have b0: ∀y,s.low y≠0->y∉path-> ∀z∈succ y,s.low z≠0:=by
  intro y B k0 z hz;by_cases e:y=a
  .rw[e]at hz;exact j0 z hz
  .exact h.aA y B (by rw[Xf,W1];exact fun g=>g.elim k0 e) z hz
 refine⟨h.nS,h.inj,fun x=>?_,fun x=>?_,fun x=>?_,hu,fun x j b hb=>?_,fun g hg=>?_,fun y B=>?_,fun g hg y B g0=>?_,b0,fun x j=>?_,fun x y j B h1 D=>?_⟩
 .by_cases e:x∈a::t
  .rw[A x e];have:=vG h ((hC x).1 e).1;exact⟨fun g=>by omega,fun g=>absurd g this⟩
  .rw[no x e];exact h.KK x
 .by_cases e:x∈a::t
  .exact .inr (.inr (A x e))
  .rw[no x e];exact h.Gw x
 .show _↔x∈u;by_cases e:x∈a::t
  .rw[A x e];refine⟨fun g=>by omega,fun g=>?_⟩;have h1:=c0 x g a a0;have D:=((hC x).1 e).2;omega
  .rw[no x e,h.xI x,hs,Xf];exact⟨fun g=>g.elim id fun q=>absurd q e,.inl⟩
 .by_cases e:x∈a::t
  .obtain⟨h1,D⟩:=(hC x).1 e;have d0:s.low b≠0:=b0 x (vG h h1) (fun g=>by have:=Y x g;omega) b hb;rcases h.Gw b with g|g|g
   .exact absurd ((h.KK b).1 g) d0
   .exact A b ((hC b).2 ⟨g,e0 x e b hb g⟩)
   .by_cases C:b∈a::t
    .exact A b C
    .rw[no b C];exact g
  .rw[no x e]at j;have g:=h.NR x j b hb;by_cases C:b∈a::t
   .exact A b C
   .rw[no b C];exact g
 .have h1:=h.R8 g (XJ _ hg);have D:=Y g hg;rw[no g (fun e=>by have:=((hC g).1 e).2;omega)];exact h1
 .by_cases e:y∈a::t
  .rw[A y e]at B;omega
  .rw[no y e]at B;obtain⟨g,g1,g2,g3⟩:=h.up y B;rcases Xf.1 g1 with q|q
   .exact⟨g,q,g2,g3⟩
   .rw[W1]at q;rw[q]at g2;exact absurd ((hC y).2 ⟨B,g2⟩) e
 .by_cases e:y∈a::t
  .rw[A y e]at B;omega
  .rw[no y e]at B;exact h.dn g (XJ _ hg) y B g0
 .by_cases e:x∈a::t
  .exact⟨a,A a a0,(am e).symm,J x e,G x e⟩
  .rw[no x e]at j;obtain⟨r,r1,r2,r3⟩:=h.UG x j;have C:r∉a::t:=fun g=>by have:=((hC r).1 g).1;omega
   refine⟨r,by rw[no r C];exact r1,?_,r3⟩;show s.low r=if x∈a::t then s.low a else s.ring x;rw[be e];exact r2
 .show(if x∈a::t then s.low a else s.ring x)=if y∈a::t then s.low a else s.ring y;by_cases e:x∈a::t
  .by_cases C:y∈a::t
   .rw[am e,am C]
   .rw[no y C]at B;have:=yG h B D;have:=((hC x).1 e).1;omega
  .rw[no x e]at j;by_cases C:y∈a::t
   .have:=yG h j h1;have:=((hC y).1 C).1;omega
   .rw[no y C]at B;rw[be e,be C];exact h.cmp x y j B h1 D
theorem GK{succ:α->List α}{path:List α}{s:St α}{a z:α}(h:Inv succ (path++ [a]) s)(u: ∀z∈succ a,s.low z≠0)(D:s.on z=1)(C:s.low z<s.low a)(hr:od succ a z):Inv succ path s:=by
 refine⟨h.nS,h.inj,h.KK,h.Gw,h.xI,h.AA,h.NR,fun g j=>h.R8 g (XJ _ j),fun y A=>?_,fun g j=>h.dn g (XJ _ j),fun y A B w x=>?_,h.UG,h.cmp⟩
 .obtain⟨g,g1,g2,g3⟩:=h.up y A;rcases Xf.1 g1 with q|q
  .exact⟨g,q,g2,g3⟩
  .rw[W1]at q;subst q;obtain⟨k,G,J,I⟩:=h.up z D;rcases Xf.1 G with q|q
   .exact⟨k,q,by omega,(g3.trans hr).trans I⟩
   .rw[W1]at q;subst q;omega
 .by_cases e:y=a
  .rw[e]at x;exact u w x
  .exact h.aA y A (by rw[Xf,W1];exact fun g=>g.elim B e) w x
def kz(V:List α)(s:St α):Nat:=(V.filter fun x=>lc (s.low x=0)).length
theorem filter_le{β:Type}{p q:β->Bool}: ∀(l:List β),(∀x∈l,p x=jp->q x=jp)->(l.filter p).length<=(l.filter q).length
 | [],_=>WY _
 |x::r,h=>by
  have A:=filter_le r fun y u=>h y (W5 _ u);have j:=h x W8;rw[YH,YH];split
  .rename_i g;rw[am (j g)];simp only[Xn];omega
  .split
   .simp only[Xn];omega
   .exact A
theorem filter_lt{β:Type}{p q:β->Bool}{a:β}: ∀(l:List β),(∀x∈l,p x=jp->q x=jp)->a∈l->p a=kw->q a=jp->(l.filter p).length<(l.filter q).length
 | [],_,h,_,_=>nomatch h
 |x::r,h,ha,h1,h2=>by
  have u:=filter_le r fun y j=>h y (W5 _ j);have A:=h x W8;rw[YH,YH];rcases Xa.1 ha with e|e
  .subst e;rw[h1,h2];simp only[YE,if_false,if_true,Xn];omega
  .have B:=filter_lt r (fun y j=>h y (W5 _ j)) e h1 h2;split
   .rename_i g;rw[am (A g)];simp only[Xn];omega
   .split
    .simp only[Xn];omega
    .exact B
theorem xA{β:Type}{V:List β}{s s':St β}(h:Le s s'):kz V s'<=kz V s:=
 filter_le V fun x _ j=>by
  refine decide_eq_true (Ym fun g=>?_);have:=of_decide_eq_true j;rw[h.low x g]at this;exact g this
theorem lk{V:List α}{s:St α}{a:α}(hn: ∀x,0<=s.low x∧s.low x<=s.n)(ha:a∈V)(h0:s.low a=0):kz V (push s a)<kz V s:=by
 have la:(push s a).low a=(s.n:Int)+1:=kA _ _ _;refine filter_lt V (fun x _ j=>?_) ha (decide_eq_false (by rw[la];omega)) (decide_eq_true h0);have:=of_decide_eq_true j;by_cases e:x=a
 .rw[e];exact decide_eq_true h0
 .refine decide_eq_true ?_;rwa[show(push s a).low x=s.low x from lN e]at this
structure fK (succ:α->List α) (path:List α) (a:α) (s0:St α) (done:List α) (q:Int×St α) (t:List α):Prop where
 inv:Inv succ (path++ [a]) q.2
 le:Le (push s0 a) q.2
 stack:q.2.stack=s0.stack++a::t
 new: ∀y∈t,s0.low y=0
 Sj:q.1<=(s0.n:Int)+1
 l1: ∀y∈t,∀z∈succ y,q.2.on z=1->q.1<=q.2.low z
 US: ∀z∈done,q.2.on z=1->q.1<=q.2.low z
 proc: ∀z∈done,q.2.low z≠0
 l2: ∃z,q.2.on z=1∧q.2.low z=q.1∧od succ a z
section
variable {succ:α->List α} {path:List α} {a:α} {s0:St α} {done:List α} {q:Int×St α} {t:List α}
theorem fK.la(h:fK succ path a s0 done q t):q.2.low a=(s0.n:Int)+1:=by
 have e:(push s0 a).low a=(s0.n:Int)+1:=kA _ _ _;rw[h.le.low a (by rw[e];omega),e]
theorem fK.pa(h:fK succ path a s0 done q t)(h0:Inv succ path s0)(ha:s0.low a=0): ∀g∈path,q.2.low g<q.2.low a:=by
 intro g u;have h1:=h0.R8 g u;have j:=vG h0 h1;have e:(push s0 a).low g=s0.low g:=lN fun e=>j (by rw[e];exact ha);rw[h.la,h.le.low g (by rw[e];exact j),e];have:=h0.nS g;omega
theorem fK.at_(h:fK succ path a s0 done q t):a∉t:=fun g=>by
 have:=h.inv.AA;rw[h.stack,YI]at this;have:=(XZ.1 this.2.1).1 a g;omega
theorem fK.step{V:List α}{u:α->St α->Int×St α}{f:Nat}(hV: ∀a∈V,∀b∈succ a,b∈V)
  (ih: ∀(path:List α) (b:α) (s:St α),Inv succ path s->s.low b=0->b∈V->(∀g∈path,od succ g b)->kz V s<=f-> ∃t,SV succ path b s (u b s).1 (u b s).2 t)
  (h:fK succ path a s0 done q t) (h0:Inv succ path s0) (ha:s0.low a=0) (a0:a∈V) {b:α} (hb:b∈succ a) (hw:kz V q.2<=f): ∃t',fK succ path a s0 (done++ [b]) (tA u q b) t':=by
 have i0:=h.la;have e0:=h.pa h0 ha;have b0:=h.at_;have d0:q.2.on a=1:=(h.inv.xI a).2 (by rw[h.stack];simp);unfold tA;by_cases G:q.2.low b=0
 .rw[am G];have J: ∀g∈path++ [a],od succ g b:=by
   intro g hg;refine .step (h.inv.dn g hg a d0 ?_) hb;rcases Xf.1 hg with e|e
   .have:=e0 g e;omega
   .rw[W1]at e;rw[e];exact Za _
  obtain⟨tb,x⟩:=ih (path++ [a]) b q.2 h.inv G (hV a a0 b hb) J hw;generalize u b q.2=w at x ⊢;obtain⟨I,s'⟩:=w;have C: ∀z,q.2.on z=1->s'.on z=1:=fun z j=>(x.inv.xI z).2 (by rw[x.stack];exact XJ _ ((h.inv.xI z).1 j));have k0:=h.le.n;have j0:(push s0 a).n=s0.n+1:=rfl;refine⟨t++tb,x.inv,h.le.trans x.le,?_,fun y Y=>?_,?_,fun y Y z j D=>?_,fun z j D=>?_,fun z j=>?_,?_⟩
  .show s'.stack=_;rw[x.stack,h.stack];simp
  .rcases Xf.1 Y with g|g
   .exact h.new y g
   .refine Ym fun hc=>?_
    have e:(push s0 a).low y=s0.low y:=lN fun e=>hc (by rw[e];exact ha);have:=h.le.low y (by rw[e];exact hc);rw[x.new y g,e]at this;exact hc this.symm
  .have:=h.Sj;show min q.1 I<=_;omega
  .show min q.1 I<=s'.low z;rcases Xf.1 Y with g|g
   .have g0:q.2.on y=1:=(h.inv.xI y).2 (by rw[h.stack];simp[g]);have f0:y∉path++ [a]:=by
     rw[Xf,W1];rintro(e|e)
     .have h1:=vG h0 (h0.R8 y e);exact h1 (h.new y g)
     .rw[e]at g;exact b0 g
    have A:=h.inv.aA y (vG h.inv g0) f0 z j;have B:=IL h.inv x.le A D;have:=h.l1 y g z j B;rw[x.le.low z A];omega
   .have:I<=s'.low z:=x.l1 y g z j D;omega
  .show min q.1 I<=s'.low z;rcases Xf.1 j with g|g
   .have A:=h.proc z g;have:=h.US z g (IL h.inv x.le A D);rw[x.le.low z A];omega
   .rw[W1]at g;subst g;have:I<=s'.low z:=x.Sj;omega
  .show s'.low z≠0;rcases Xf.1 j with g|g
   .have A:=h.proc z g;rw[x.le.low z A];exact A
   .rw[W1]at g;subst g;have:(q.2.n:Int)<s'.low z:=x.at_;omega
  .obtain⟨z,z1,z2,z3⟩:=h.l2;by_cases c0:q.1<=I
   .exact⟨z,C z z1,by show s'.low z=min q.1 I;rw[x.le.low z (vG h.inv z1)];omega,z3⟩
   .rcases x.l2 with⟨_,g⟩|⟨w,w1,w2,w3⟩
    .have h1:I=s'.low b:=g;have h2:(q.2.n:Int)<s'.low b:=x.at_;have h3:=h.Sj;omega
    .have w2:s'.low w=I:=w2;exact⟨w,C w ((h.inv.xI w).2 w1),by show s'.low w=min q.1 I;omega,(od.one hb).trans w3⟩
 .rw[be G];by_cases B:q.2.on b=1
  .rw[am B];refine⟨t,h.inv,h.le,h.stack,h.new,?_,fun y Y z j D=>?_,fun z j D=>?_,fun z j=>?_,?_⟩
   .have:=h.Sj;show min q.1 (q.2.low b)<=_;omega
   .have:=h.l1 y Y z j D;show min q.1 (q.2.low b)<=q.2.low z;omega
   .show min q.1 (q.2.low b)<=q.2.low z;rcases Xf.1 j with g|g
    .have:=h.US z g D;omega
    .rw[W1]at g;subst g;omega
   .rcases Xf.1 j with g|g
    .exact h.proc z g
    .rw[W1]at g;subst g;exact G
   .obtain⟨z,z1,z2,z3⟩:=h.l2;by_cases c0:q.1<=q.2.low b
    .exact⟨z,z1,by show q.2.low z=min q.1 (q.2.low b);omega,z3⟩
    .exact⟨b,B,by show q.2.low b=min q.1 (q.2.low b);omega,.one hb⟩
  .rw[be B];refine⟨t,h.inv,h.le,h.stack,h.new,h.Sj,h.l1,fun z j D=>?_,fun z j=>?_,h.l2⟩
   .rcases Xf.1 j with g|g
    .exact h.US z g D
    .rw[W1]at g;subst g;exact absurd D B
   .rcases Xf.1 j with g|g
    .exact h.proc z g
    .rw[W1]at g;subst g;exact G
end
theorem s5{succ:α->List α}{path:List α}{a:α}{s0:St α}{V:List α}{j:α->St α->Int×St α}{f:Nat}(B: ∀a∈V,∀b∈succ a,b∈V)
  (C: ∀(path:List α) (b:α) (s:St α),Inv succ path s->s.low b=0->b∈V->(∀g∈path,od succ g b)->kz V s<=f-> ∃t,SV succ path b s (j b s).1 (j b s).2 t)
  (h0:Inv succ path s0) (ha:s0.low a=0) (u:a∈V) (y:kz V (push s0 a)<=f):
  ∀(l done:List α) (q:Int×St α) (t:List α),fK succ path a s0 done q t->(∀b∈l,b∈succ a)-> ∃G,fK succ path a s0 (done++l) (l.foldl (tA j) q) G
 | [],done,q,t,h,_=>⟨t,by rw[XA];exact h⟩
 |b::l,done,q,t,h,hl=>by
  obtain⟨t1,h1⟩:=h.step B C h0 ha u (hl b W8) (XR (xA h.le) y);obtain⟨t2,A⟩:=s5 B C h0 ha u y l (done++ [b]) _ t1 h1 fun x D=>hl x (W5 _ D);exact⟨t2,by rw[W6]at A;exact A⟩
theorem qo{succ:α->List α}{V:List α}(hV: ∀a∈V,∀b∈succ a,b∈V): ∀(f:Nat) (path:List α) (a:α) (s:St α),Inv succ path s->s.low a=0->a∈V->(∀g∈path,od succ g a)->kz V s<=f-> ∃t,SV succ path a s (eF succ f a s).1 (eF succ f a s).2 t
 |0,path,a,s,h,ha,haV,_,hw=>by
  have:=lk h.nS haV ha;omega
 |f+1,path,a,s,h,ha,haV,hp,hw=>by
  have d0:=lk h.nS haV ha;have hi:=Bx h ha hp;have la:(push s a).low a=(s.n:Int)+1:=kA _ _ _;have oa:(push s a).on a=1:=kA _ _ _;have J:fK succ path a s [] ((s.n:Int)+1,push s a) []:=
   ⟨hi,.refl _,rfl,fun y u=>(nomatch u),Za _,fun y u=>(nomatch u),fun z C=>(nomatch C),fun z C=>(nomatch C),⟨a,oa,la,.refl _⟩⟩
  obtain⟨t,j⟩:=s5 hV (fun p b s'=>qo hV f p b s') h ha haV (by omega) (succ a) [] _ [] J fun b hb=>hb;rw[Xg]at j;rw[eF];generalize(succ a).foldl (tA (eF succ f)) ((s.n:Int)+1,push s a)=q at j ⊢;have D:=j.la;have b0:=j.pa h ha;have Y:=j.at_;have a0:q.2.on a=1:=(j.inv.xI a).2 (by rw[j.stack];simp);have A:Le s q.2:=(M6 h ha).trans j.le;unfold uy;by_cases hm:q.1=(s.n:Int)+1
  .rw[am hm,sV (by rw[j.stack];simp;omega) j.stack Y a0,<-D];refine⟨[],M7 j.inv j.stack b0 j.proc fun y u z C G=>?_,⟨A.low,fun x hx=>?_,A.n⟩,by rw[XA];rfl,fun y u=>(nomatch u),?_,?_,fun y u=>(nomatch u),.inl ⟨am W8,?_⟩⟩
   .rw[D,<-hm];rcases Xa.1 u with e|e
    .rw[e]at C;exact j.US z C G
    .exact j.l1 y e z C G
   .show(if x∈a::t then(2:Int) else q.2.on x)=2;split
    .rfl
    .exact A.NR x hx
   .show(s.n:Int)<q.2.low a;omega
   .show q.1<=q.2.low a;omega
   .show q.1=q.2.low a;omega
  .rw[be hm];have c0:q.1<q.2.low a:=by have:=j.Sj;omega
   obtain⟨z,z1,z2,z3⟩:=j.l2;have I:=j.inv.AA;rw[j.stack,YI]at I;refine⟨a::t,GK j.inv j.proc z1 (by omega) z3,A,j.stack,fun y u=>?_,by omega,by omega,fun y u w B G=>?_,.inr ⟨z,?_,z2,z3⟩⟩
   .rcases Xa.1 u with e|e
    .rw[e];exact ha
    .exact j.new y e
   .rcases Xa.1 u with e|e
    .rw[e]at B;exact j.US w B G
    .exact j.l1 y e w B G
   .have:=(j.inv.xI z).1 z1;rw[j.stack]at this;rcases Xf.1 this with g|g
    .exact g
    .rcases Xa.1 g with e|e
     .rw[e]at z2;omega
     .have:=(XZ.1 I.2.1).1 z e;omega
theorem P9{β:Type}(succ:β->List β):Inv succ [] (St.o:St β):=
 ⟨fun _=>⟨Za _,Za _⟩,fun _ _ _ h=>absurd Z h,fun _=>Iff.rfl,fun _=> .inl Z,fun _=>⟨fun h=>(nomatch h),fun h=>(nomatch h)⟩,.nil,fun _ h=>(nomatch h),fun _ h=>(nomatch h),fun _ h=>(nomatch h),fun _ h=>(nomatch h),fun _ h=>absurd Z h,fun _ h=>(nomatch h),fun _ _ h=>(nomatch h)⟩
theorem sR{succ:α->List α}{V:List α}(A: ∀a∈V,∀b∈succ a,b∈V){f:Nat}(hf:V.length<=f): ∀(l:List α) (s:St α),(∀a∈l,a∈V)->Inv succ [] s->Inv succ [] (ik succ f l s)∧(∀x,s.low x≠0->(ik succ f l s).low x≠0)∧ ∀a∈l,(ik succ f l s).low a≠0
 | [],s,_,h=>⟨h,fun _ j=>j,fun _ u=>(nomatch u)⟩
 |b::l,s,hl,h=>by
  have key: ∃s',(if s.low b=0 then(eF succ f b s).2 else s)=s'∧Inv succ [] s'∧(∀x,s.low x≠0->s'.low x≠0)∧s'.low b≠0:=by
   by_cases e:s.low b=0
   .obtain⟨t,y⟩:=qo A f [] b s h e (hl b W8) (fun g C=>nomatch C) (XR (Yi _ _) hf);refine⟨_,am e,y.inv,fun x j=>by rw[y.le.low x j];exact j,?_⟩;have:=y.at_;omega
   .exact⟨s,be e,h,fun _ j=>j,e⟩
  obtain⟨s',e,D,G,I⟩:=key;obtain⟨i1,i2,i3⟩:=sR A hf l s' (fun a u=>hl a (W5 _ u)) D;have B:ik succ f (b::l) s=ik succ f l s':=by
   show ik succ f l (if s.low b=0 then(eF succ f b s).2 else s)=_;rw[e]
  rw[B];refine⟨i1,fun x j=>i2 x (G x j),fun a u=>?_⟩;rcases Xa.1 u with q|q
  .rw[q];exact i2 b I
  .exact i3 a q
theorem Ge{succ:α->List α}{V:List α}(A: ∀a∈V,∀b∈succ a,b∈V){f:Nat}(hf:V.length<=f){a b:α}(ha:a∈V)(hb:b∈V):
  (ik succ f V St.o).ring a=(ik succ f V St.o).ring b↔od succ a b∧od succ b a:=by
 obtain⟨h,_,y⟩:=sR A hf V St.o (fun _ h=>h) (P9 succ);generalize ik succ f V St.o=s at h y ⊢;have j: ∀x∈V,s.on x=2:=by
  intro x B;rcases h.Gw x with g|g|g
  .exact absurd ((h.KK x).1 g) (y x B)
  .obtain⟨k,C,_⟩:=h.up x g;exact nomatch C
  .exact g
 constructor
 .intro e;obtain⟨r,r1,r2,I,J⟩:=h.UG a (j a ha);obtain⟨q,Y,q2,D,G⟩:=h.UG b (j b hb);have u:s.low r≠0:=fun g=>by have:=(h.KK r).2 g;omega
  have:r=q:=h.inj r q (by omega) u;subst this;exact⟨I.trans G,D.trans J⟩
 .rintro⟨h1,h2⟩;exact h.cmp a b (j a ha) (j b hb) h1 h2
end
end
end
end Go.Tj
namespace Go.Wa
section
inductive w4 (R:Nat->Nat->Prop):Nat->Nat->Prop
 |refl (a:Nat):w4 R a a
 |step {a b c:Nat} (h:R a b) (t:w4 R b c):w4 R a c
theorem w4.trans{R:Nat->Nat->Prop}{a b c:Nat}(h:w4 R a b)(k:w4 R b c):w4 R a c:=by
 induction h with
 |refl=>exact k
 |step h _ ih=>exact .step h (ih k)
def W(E:Nat->Nat->Bool):Nat->Nat->Nat->Bool
 |0,a,b=>E a b||a==b
 |m+1,a,b=>W E m a b||(W E m a m&&W E m m b)
variable {E:Nat->Nat->Bool}
theorem W.mono(m a b:Nat)(h:W E m a b=jp):W E (m+1) a b=jp:=by simp[W,h]
theorem W.Qa{m k a b:Nat}(hk:m<=k)(h:W E m a b=jp):W E k a b=jp:=by
 induction hk with
 |refl=>exact h
 |step _ ih=>exact W.mono _ _ _ ih
theorem W.self(m a:Nat):W E m a a=jp:=W.Qa (W2 m) (by simp[W])
theorem W.trans: ∀(m a k b:Nat),k<m->W E m a k=jp->W E m k b=jp->W E m a b=jp
 |m+1,a,k,b,hk,h1,j=>by
  simp only[W,YY,XE]at h1 j ⊢;by_cases A:k=m
  .subst A;have B:W E k a k=jp:=by rcases h1 with h|h;exact h;exact h.1
   have C:W E k k b=jp:=by rcases j with h|h;exact h;exact h.2
   exact .inr ⟨B,C⟩
  .have u:k<m:=by omega
   rcases h1 with h1|⟨h1,y⟩<;>rcases j with j|⟨j,x⟩
   .exact .inl (W.trans m a k b u h1 j)
   .exact .inr ⟨W.trans m a k m u h1 j,x⟩
   .exact .inr ⟨h1,W.trans m m k b u y j⟩
   .exact .inr ⟨h1,x⟩
theorem W.sound: ∀(m a b:Nat),W E m a b=jp->w4 (fun a b=>E a b=jp) a b
 |0,a,b,h=>by
  simp only[W,YY,beq_iff_eq]at h;rcases h with h|h
  .exact .step h (.refl _)
  .subst h;exact .refl _
 |m+1,a,b,h=>by
  simp only[W,YY,XE]at h;rcases h with h|⟨h1,j⟩
  .exact W.sound m a b h
  .exact(W.sound m a m h1).trans (W.sound m m b j)
theorem W.iff{n:Nat}(hE: ∀a b,a<n->E a b=jp->b<n){a b:Nat}(ha:a<n):W E n a b=jp↔w4 (fun a b=>E a b=jp) a b:=by
 refine⟨W.sound n a b,fun h=>?_⟩
 induction h with
 |refl a=>exact W.self n a
 |step h _ ih=>
  have hb:=hE _ _ ha h;exact W.trans n _ _ _ hb (W.Qa (W2 n) (by simp[W,h])) (ih hb)
def V(E:Nat->Nat->Bool)(m a b x y:Nat):Bool:=if x<a∨x=a∧y<b then W E (m+1) x y else W E m x y
theorem V.row(m a b y:Nat):V E m a b m y=W E m m y:=by
 unfold V;split
 .simp only[W];cases W E m m y<;>simp
 .rfl
end
end Go.Wa
namespace Go.Co
section
section
variable {n:Nat} {xa:Nat->Nat->Bool} {e:Nat->Nat->Bool}
structure Far (n:Nat) (e xa:Nat->Nat->Bool):Prop where
 refl: ∀a,a<n->xa a a=jp
 trans: ∀a b c,xa a b=jp->xa b c=jp->xa a c=jp
 edge: ∀a b,a<n->e a b=jp->xa a b=jp
 lt: ∀a b,a<n->xa a b=jp->b<n
 elt: ∀a b,a<n->e a b=jp->b<n
 split: ∀a b (p:Nat->Prop),a<n->xa a b=jp->p a-> ¬p b-> ∃x y,x<n∧xa a x=jp∧p x∧e x y=jp∧ ¬p y∧xa y b=jp
def cls(xa:Nat->Nat->Bool)(a b:Nat):Bool:=xa a b&&xa b a
end
end
end Go.Co
namespace Go.Rg
open Go.Wa Go.Co Go.Tj
section
section
variable {α:Type} [Inhabited α]
def ed(V:List α)(g:α->α->Bool)(i j:Nat):Bool:=lc (i<V.length)&&lc (j<V.length)&&g (V.getD i co) (V.getD j co)
def xa(V:List α)(g:α->α->Bool):Nat->Nat->Bool:=W (ed V g) V.length
theorem DY{V:List α}{g:α->α->Bool}{i j:Nat}:ed V g i j=jp↔i<V.length∧j<V.length∧g (V.getD i co) (V.getD j co)=jp:=by
 simp[ed,and_assoc]
theorem zP{V:List α}{a:α}(h:a∈V): ∃i,i<V.length∧V.getD i co=a:=by
 obtain⟨i,hi,rfl⟩:=YQ.1 h;exact⟨i,hi,by simp[WQ,hi]⟩
theorem get_mem{V:List α}{i:Nat}(h:i<V.length):V.getD i co∈V:=by
 rw[WQ,WU h];exact XF h
theorem Ee{V:List α}(hn:V.Nodup){g:α->α->Bool}{succ:α->List α}(hs: ∀a∈V,∀b,b∈succ a↔b∈V∧g a b=jp){i j:Nat}(hi:i<V.length)(hj:j<V.length):
  xa V g i j=jp↔od succ (V.getD i co) (V.getD j co):=by
 have B: ∀{x y:Nat},x<V.length->y<V.length->V.getD x co=V.getD y co->x=y:=by
  intro x y C u h;rw[WQ,WQ,WU C,WU u]at h;exact(List.getElem_inj hn).1 h
 rw[xa,W.iff (n:=V.length) (fun a b _ h=>(DY.1 h).2.1) hi];constructor
 .intro h;clear hj;have: ∀{a b:Nat},w4 (fun a b=>ed V g a b=jp) a b->od succ (V.getD a co) (V.getD b co):=by
   intro a b h
   induction h with
   |refl a=>exact .refl _
   |step h _ ih=>
    obtain⟨h1,A,D⟩:=DY.1 h;exact(od.step (.refl _) ((hs _ (get_mem h1) _).2 ⟨get_mem A,D⟩)).trans ih
  exact this h
 .intro h;have key: ∀{a b:α},od succ a b-> ∀x,x<V.length->V.getD x co=a-> ∃y,y<V.length∧V.getD y co=b∧w4 (fun a b=>ed V g a b=jp) x y:=by
   intro a b h
   induction h with
   |refl=>exact fun x C G=>⟨x,C,G,.refl _⟩
   |step _ hc ih=>
    intro x C G;obtain⟨y,u,h1,A⟩:=ih x C G;subst h1;obtain⟨D,J⟩:=(hs _ (get_mem u) _).1 hc;obtain⟨z,I,rfl⟩:=zP D;exact⟨z,I,rfl,A.trans (.step (DY.2 ⟨u,I,J⟩) (.refl _))⟩
  obtain⟨y,u,h1,A⟩:=key h i hi Z;have:=B u hj h1;subst this;exact A
def w6(V:List α)(g:α->α->Bool)(u:α->Int):Prop:= ∀i j,i<V.length->j<V.length->(u (V.getD i co)=u (V.getD j co)↔xa V g i j=jp∧xa V g j i=jp)
theorem Io[DecidableEq α]{V:List α}(hn:V.Nodup){g:α->α->Bool}{succ:α->List α}(hs: ∀a∈V,∀b,b∈succ a↔b∈V∧g a b=jp){f:Nat}(hf:V.length<=f):w6 V g (ik succ f V St.o).ring:=by
 intro i j hi u;rw[Ge (fun a x b hb=>((hs a x b).1 hb).1) hf (get_mem hi) (get_mem u),Ee hn hs hi u,Ee hn hs u hi]
end
end
end Go.Rg
namespace Go.Proofs.YtlmhfgbkchnfbaaGreatDoor
open Go Go.Al
mutual
def named:Lit->List aq
 | .mk k a _ _ _ _ _ _ b _=>if k=1∨k=2 then[a.rel] else if k=4 then im b else[]
def im:List Lit->List aq
 | []=> []
 |l::r=>named l++im r
end
def IY(l:Lit):List aq:=if l.kind=1∨l.kind=2 then[l.atom.rel] else if l.kind=4 then(l.ay.filter fun x=>lc (x.kind=1∨x.kind=2)).map fun x=>x.atom.rel else[]
theorem oA: ∀l:List Lit,im l=l.flatMap named
 | []=>rfl
 |x::r=>by simp only[im,XS,oA r]
theorem ye: ∀(b:List Lit),(∀x∈b,x.kind≠4)->im b=(b.filter fun x=>lc (x.kind=1∨x.kind=2)).map fun x=>x.atom.rel
 | [],_=>rfl
 | .mk k' a' op' le' ri' af' av' ao' b' at'::b,h=>by
  have j:k'≠4:=h (.mk k' a' op' le' ri' af' av' ao' b' at') (W8 ..);rw[im,ye b fun y u=>h y (W5 _ u),YH];by_cases hk:k'=1∨k'=2
  .have:lc ((Lit.mk k' a' op' le' ri' af' av' ao' b' at').kind=1∨(Lit.mk k' a' op' le' ri' af' av' ao' b' at').kind=2)=jp:=decide_eq_true hk;rw[this,named,am hk];rfl
  .have:lc ((Lit.mk k' a' op' le' ri' af' av' ao' b' at').kind=1∨(Lit.mk k' a' op' le' ri' af' av' ao' b' at').kind=2)=kw:=decide_eq_false hk;rw[this,named,be hk,be j];rfl
theorem IX(l:Lit)(h:l.kind=4-> ∀x∈l.ay,x.kind≠4):named l=IY l:=by
 obtain⟨k,a,op,le,B,u,A,y,b,at_⟩:=l;show(if k=1∨k=2 then[a.rel] else if k=4 then im b else[])=if k=1∨k=2 then[a.rel] else if k=4 then(b.filter fun x=>lc (x.kind=1∨x.kind=2)).map fun x=>x.atom.rel else[];by_cases j:k=4
 .rw[ye b (h j)]
 .rw[be j,be j]
def nB(l:Lit):Nat:=if l.kind=1 then 1 else 2
def cZ(p:Prog):List (aq×aq×Nat):=p.rules.flatMap fun r=>r.body.flatMap fun l=>(named l).map fun t=>(r.head.rel,t,nB l)
def gD(hs:List (aq×aq×Nat))(a b:aq):Nat:=hs.foldl (fun m x=>if x.1=a∧x.2.1=b then max m x.2.2 else m) 0
theorem Ag(a b:aq): ∀(hs:List (aq×aq×Nat)) (m:Nat),m<=hs.foldl (fun m x=>if x.1=a∧x.2.1=b then max m x.2.2 else m) m∧(∀k,(a,b,k)∈hs->k<=hs.foldl (fun m x=>if x.1=a∧x.2.1=b then max m x.2.2 else m) m)∧
  (hs.foldl (fun m x=>if x.1=a∧x.2.1=b then max m x.2.2 else m) m=m∨(a,b,hs.foldl (fun m x=>if x.1=a∧x.2.1=b then max m x.2.2 else m) m)∈hs)
 | [],m=>⟨WY _,fun _ h=>(nomatch h),.inl Z⟩
 |(x,y,k)::hs,m=>by
  obtain⟨h1,u,h3⟩:=Ag a b hs (if x=a∧y=b then max m k else m);rw[XU];refine⟨XR ?_ h1,fun A hk=>?_,?_⟩
  .split<;>omega
  .rcases Xa.1 hk with h|h
   .cases h;refine XR ?_ h1;rw[am ⟨rfl,rfl⟩];exact Nat.le_max_right _ _
   .exact u A h
  .rcases h3 with h3|h3
   .by_cases j:x=a∧y=b
    .rw[am j]at h3;rcases Nat.le_total m k with h4|h4
     .right;rw[aao h4]at h3;obtain⟨rfl,rfl⟩:=j;simp only[and_self,if_true,aao h4]at h3 ⊢;rw[h3];simp
     .left;rw[Nat.max_eq_left h4]at h3;simp only[j,and_self,if_true,Nat.max_eq_left h4]at h3 ⊢;exact h3
    .rw[be j]at h3;left;simp only[be j];exact h3
   .exact .inr (W5 _ h3)
theorem U7{hs:List (aq×aq×Nat)}{a b:aq}{k:Nat}(h:(a,b,k)∈hs):k<=gD hs a b:=(Ag a b hs 0).2.1 k h
theorem U6(hs:List (aq×aq×Nat))(a b:aq):gD hs a b=0∨(a,b,gD hs a b)∈hs:=(Ag a b hs 0).2.2
def ns(p:Prog):List aq:=dJ (p.aF.map Decl.name)
theorem yY.Sf{l:List aq}(h:yY l):l.Nodup:=by
 refine ZR ?_ h;intro a b j e;subst e;exact nf _ j
def eg(p:Prog)(a b:aq):Bool:=lc (gD (cZ p) a b≠0)
def SD(p:Prog):Nat->Nat->Bool:=Go.Rg.xa (ns p) (eg p)
theorem Ip{p:Prog}(hn:(p.aF.map Decl.name).Nodup){f:Nat}(hf:(ns p).length<=f):Go.Rg.w6 (ns p) (eg p) (Go.Tj.ik (fun a=>(ns p).filter (eg p a)) f (ns p) Go.Tj.St.o).ring:=
 Go.Rg.Io (V:=ns p) (yY.Sf (j7 hn)) (fun a _ b=>by rw[Xu]) hf
def ringEq(p:Prog)(a b:aq):Bool:=(Xq (ns p).length).any fun i=>(Xq (ns p).length).any fun j=>lc ((ns p).getD i co=a)&&lc ((ns p).getD j co=b)&&Go.Co.cls (SD p) i j
theorem Dj{p:Prog}{a b:aq}:ringEq p a b=jp↔ ∃i j,i<(ns p).length∧j<(ns p).length∧(ns p).getD i co=a∧(ns p).getD j co=b∧SD p i j=jp∧SD p j i=jp:=by
 simp only[ringEq,Yf,Yn,XE,decide_eq_true_eq,Go.Co.cls];constructor
 .rintro⟨i,hi,j,hj,⟨h1,h2⟩,h3,h4⟩;exact⟨i,j,hi,hj,h1,h2,h3,h4⟩
 .rintro⟨i,j,hi,hj,h1,h2,h3,h4⟩;exact⟨i,hi,j,hj,⟨h1,h2⟩,h3,h4⟩
theorem tD{p:Prog}{u:aq->Int}(hr:Go.Rg.w6 (ns p) (eg p) u){a b:aq}(ha:a∈ns p)(hb:b∈ns p):ringEq p a b=lc (u a=u b):=by
 rw[Yk,Dj,decide_eq_true_eq];constructor
 .rintro⟨i,j,hi,x,rfl,rfl,y,A⟩;exact(hr i j hi x).2 ⟨y,A⟩
 .intro h;obtain⟨i,hi,rfl⟩:=Go.Rg.zP ha;obtain⟨j,x,rfl⟩:=Go.Rg.zP hb;obtain⟨y,A⟩:=(hr i j hi x).1 h;exact⟨i,j,hi,x,rfl,rfl,y,A⟩
def Di(p:Prog)(r:aw):Bool:=r.body.any fun l=>lc (l.kind=1)&&ringEq p l.atom.rel r.head.rel
def y8(p:Prog)(r:aw):Option Lit:=r.body.find? fun l=>lc (l.kind≠1)&&(named l).any fun t=>ringEq p t r.head.rel
def tn(r:aw):Bool:=r.head.an.any fun t=>lc (t.kind=1)&&!dX (lQ r) t.var
def yZ(p:Prog)(r:aw):gF:=match y8 p r with
 |some l=>(70,l.at)
 |none=>if tn r=jp∧Di p r=jp then(71,r.at_) else gF.z
def gP(p:Prog):gF:=if(eQ p).1≠0 then eQ p else((p.rules.map (yZ p)).find? fun d=>lc (d.1≠0)).getD gF.z
end Go.Proofs.YtlmhfgbkchnfbaaGreatDoor
namespace Go.Re
open Go.Tj
section
variable {α:Type}
structure Mid (succ:α->List α) (S T:α->Prop) (a:α) (l:List α):Prop where
 UO: ∀x,S x->T x
 here:T a
 new: ∀x,T x->S x∨od succ a x
 next: ∀x,T x->S x∨x=a∨ ∀y∈succ x,T y
 done: ∀y∈l,T y
structure Top (succ:α->List α) (V:α->Prop) (T:α->Prop) (l:List α):Prop where
 new: ∀x,T x-> ∃r∈l,V r∧od succ r x
 next: ∀x,T x-> ∀y∈succ x,T y
 done: ∀r∈l,V r->T r
end
end Go.Re
namespace Go.Proofs.YtlmhfgbkchnfbaaGreatDoor
open Go Go.Al
section
section
variable {r t:aw} (hh:t.head=r.head) (hb: ∀x,x∈t.body↔x∈r.body)
include hh hb
end
section
variable {r t:aw} (hh:t.head=r.head) (hb: ∀x,x∈t.body↔x∈r.body)
include hh hb
end
structure WJ (r t u:aw) (i k:Int):Prop where
 V4: ∀x∈fI (aL (b4 r)),x∈fI (aL (aI r))
 UK: ∀x∈fI (aL (p4 r)),x∈fI (aL (b4 r))
 outer:fI (aL (aI t))=fI (aL (aI r))
 lim:fI (aL (b4 t))=fI (aL (b4 r))
 plain:fI (aL (p4 t))=fI (aL (p4 r))
 loc:zV t i=zV r k
 zV: ∀x∈zV r k,x∉fI (aL (aI r))
 more: ∀x∈fI (aL (b4 r)),x∈fI (aL (b4 u))
 hasX:Sc [88]∈fI (aL (b4 u))
end
theorem MI{n sz:Nat}{es:List (List PV)}(h:es.all (bq n)=jp):(AO.row sz es).low n:=fun _ e j=>XC.1 h e (Xs j)
def w9:List IV->List IV->Prop
 | [],[]=>True
 |p::r,q::s=>jR p q∧w9 r s
 |_,_=>False
theorem w9.length: ∀{a b:List IV},w9 a b->a.length=b.length
 | [],[],_=>rfl
 |_::_,_::_,h=>congrArg (· +1) (w9.length h.2)
 | [],_::_,h=>h.elim
 |_::_,[],h=>h.elim
theorem w9.get: ∀{a b:List IV},w9 a b-> ∀(j:Nat) (q:IV),b[j]? =io q-> ∃p,a[j]? =io p∧jR p q
 | [],[],_,j,q,h=>by simp at h
 |p::r,q0::s,hh,j,q,h=>by
  cases j with
  |zero=>simp at h;subst h;exact⟨p,rfl,hh.1⟩
  |succ j=>simpa using w9.get hh.2 j q (by simpa using h)
 | [],_::_,hh,_,_,_=>hh.elim
 |_::_,[],hh,_,_,_=>hh.elim
theorem EK(p:Prog): ∀i,∀d∈qG p i,¬d.1=0
 |0,d,h=>by cases h
 |i+1,d,h=>by
  rw[qG]at h;rcases Xf.1 h with h|h
  .exact EK p i d h
  .split at h
   .cases h
   .rename_i g;rw[W1]at h;subst h;exact g
theorem EI(p:Prog): ∀i,∀d∈rD p i,¬d.1=0
 |0,d,h=>by cases h
 |i+1,d,h=>by
  rw[rD]at h;rcases Xf.1 h with h|h
  .exact EI p i d h
  .split at h
   .cases h
   .rename_i g;rw[W1]at h;subst h;exact g
theorem G2(p:Prog): ∀d∈lH p,¬d.1=0:=fun d h=>by
 rcases Xf.1 h with h|h
 .exact EK p _ d h
 .exact EI p _ d h
theorem D0(p:Prog):(eQ p).1=0↔lH p=[]:=by
 unfold eQ;cases h:lH p with
 |nil=>exact⟨fun _=>rfl,fun _=>rfl⟩
 |cons d l=>exact⟨fun e=>absurd e (G2 p d (by rw[h];exact W8)),fun e=>nomatch e⟩
theorem Bh(p:Prog): ∀n,rD p n=[]↔ ∀i,i<n->(vo p i).1=0
 |0=>⟨fun _ i h=>absurd h (YM i),fun _=>rfl⟩
 |n+1=>by
  rw[rD,ZA,Bh p n];constructor
  .rintro⟨h1,h2⟩ i hi;rcases YP.1 hi with h|h
   .exact h1 i h
   .subst h;by_cases g:(vo p i).1=0
    .exact g
    .rw[be g]at h2;cases h2
  .intro h;exact⟨fun i hi=>h i (by omega),am (h n (by omega))⟩
theorem mB{α:Type}[Inhabited α]{l:List α}{i:Nat}(hi:i<l.length):l.getD i co∈l:=by rw[WQ,WU hi];exact XF hi
structure dV (p:Prog):Prop where
 nodup:(p.aF.map Decl.name).Nodup
 len:p.aF.length<=64
 E9: ∀r∈p.rules,r.head.rel∈p.aF.map Decl.name
 lits: ∀r∈p.rules,∀l∈r.body,∀t∈named l,t∈p.aF.map Decl.name
 flat: ∀r∈p.rules,∀l∈r.body,l.kind=4-> ∀x∈l.ay,x.kind≠4
theorem Bn(p:Prog): ∀n,qG p n=[]-> ∀i,i<n->gV p i=0
 |0,_,i,h=>absurd h (YM _)
 |n+1,h,i,hi=>by
  rw[qG]at h;obtain⟨h1,j⟩:=ZA.1 h;rcases YP.1 hi with h3|h3
  .exact Bn p n h1 i h3
  .subst h3;exact Decidable.byContradiction fun u=>by rw[be u]at j;cases j
theorem tF{d:Decl}{i k:Int}(h:qH d i k=0): ¬i>=64∧ ¬k>0:=by
 unfold qH at h;split at h
 .cases h
 .split at h
  .cases h
  .rename_i j;split at h
   .cases h
   .rename_i u;exact⟨fun g=>j (.inl g),u⟩
theorem vJ{α:Type}[Inhabited α]: ∀(n:Nat) (l:List α),l.length=n->(∀i,i<l.length->l.getD i co∉l.take i)->l.Nodup
 |0,l,hn,_=>by rw[Yl.1 hn];exact XM
 |n+1,l,hn,h=>by
  have hd:l=l.take n++ [l.getD n co]:=by rw[<-bS (by omega),W9 (by omega)]
  have h1:=vJ n (l.take n) (by rw[Xv];omega) fun i hi=>by
   rw[Xv]at hi;have:=h i (by omega);rw[List.take_take,Nat.min_eq_left (by omega),WQ,Xy,am (by omega),<-WQ];exact this
  rw[hd,Yt];refine⟨h1,by simp,fun a j b hb e=>?_⟩;rw[W1]at hb;subst e;subst hb;exact h n (by omega) j
theorem Bl{s:aq}: ∀(l:List Decl) (m:DM),dx .str (l.foldl kg m) s=jp->s∈m.map XY∨s∈l.map Decl.name
 | [],m,h=> .inl (B9.1 h)
 |d::l,m,h=>by
  rw[XU]at h;rcases Bl l _ h with h1|h1
  .unfold kg at h1;split at h1
   .exact .inl h1
   .rename_i j;rw[eh (fun g=>j (B9.2 g))]at h1;rcases Xf.1 h1 with h3|h3
    .exact .inl h3
    .rw[W1]at h3;subst h3;exact .inr W8
  .exact .inr (W5 _ h1)
theorem OB{p:Prog}{a:Atom}(h:wZ p a=kw):a.rel∈p.aF.map Decl.name:=by
 unfold wZ at h;rw[YF]at h;rcases Bl p.aF [] h with h1|h1
 .cases h1
 .exact h1
theorem nh{r:aw}{e:Int}(he:e≠0){f:Int->Bool}{k:gF}(h:(oG r e f k).1=0):(∀lit∈jg r.body.length,f lit=kw)∧k.1=0:=by
 unfold oG at h;split at h
 .exact absurd h he
 .rename_i h1;refine⟨fun lit hl=>?_,h⟩;have:=YX.1 h1 lit hl;simpa using this
theorem Dg{p:Prog}{r:aw}{n:Int}(h:(xQ p r n).1=0):(zR p r).1=0:=by
 unfold xQ at h;split at h
 .cases h
 .split at h
  .cases h
  .split at h
   .cases h
   .split at h
    .cases h
    .split at h
     .cases h
     .exact h
theorem No(n:Nat):(-1:Int)∈jg n:=Xw.2 ⟨0,by simp,by simp⟩
theorem EW{n i:Nat}(h:i<n):(i:Int)∈jg n:=Xw.2 ⟨i+1,by simp;omega,by simp⟩
theorem GA{l:Lit}{t:aq}(hf:l.kind=4-> ∀x∈l.ay,x.kind≠4)(h:t∈named l): ∃a∈(if l.kind=4 then l.ay else[l]).flatMap cQ,a.rel=t:=by
 rw[IX l hf]at h;unfold IY at h;split at h
 .rename_i hk;rw[W1]at h;have j: ¬l.kind=4:=by omega
  refine⟨l.atom,?_,h.symm⟩;rw[be j,ZG];exact⟨l,YT _,by rw[cQ,am hk];exact YT _⟩
 .split at h
  .rename_i j;obtain⟨x,A,rfl⟩:=Xw.1 h;obtain⟨u,y⟩:=Xu.1 A;refine⟨x.atom,?_,rfl⟩;rw[am j,ZG];exact⟨x,u,by rw[cQ,am (zT y)];exact YT _⟩
  .cases h
theorem Fi{p:Prog}(h:(eQ p).1=0):dV p:=by
 have hF:=(D0 p).1 h;unfold lH at hF;obtain⟨h1,A⟩:=ZA.1 hF;have h1:=Bn p _ h1;have A:=(Bh p _).1 A;have u: ∀r∈p.rules,(zR p r).1=0:=by
  intro r hr;obtain⟨i,hi,rfl⟩:=YQ.1 hr;have:=Dg (A i hi);rwa[WQ,WU hi]at this
 have y: ∀r∈p.rules,∀lit∈jg r.body.length,∀a∈fG r lit,a.rel∈p.aF.map Decl.name:=by
  intro r hr lit hl a B;have:=(nh (by decide) (u r hr)).1 lit hl;exact OB (by simpa using XL.1 this a B)
 have j: ∀r∈p.rules,∀l∈r.body,l.kind=4-> ∀x∈l.ay,x.kind≠4:=by
  intro r hr l hl G x J;obtain⟨i,hi,rfl⟩:=YQ.1 hl;have:=(nh (by decide) (nh (by decide) (nh (by decide) (u r hr)).2).2).1 _ (EW hi);have e:au r (i:Int)=r.body[i]:=by unfold au;simp[WQ,hi]
  unfold mT at this;rw[be (by omega),e,am G,YG]at this;simpa using XL.1 this.1 x J
 refine⟨vJ _ _ Z fun i hi D=>?_,?_,fun r hr=>?_,fun r hr l hl t ht=>?_,j⟩
 .rw[Xk]at hi;have:=(tF (h1 i hi)).2;rw[bJ]at this;have C:ra (gv p i) (p.aF.getD i co).name=0:=by omega
  rw[tp]at C;apply C;unfold gv;rw[WQ,WX,WU hi,<-List.map_take]at D;rw[WQ,WU hi];exact D
 .refine Yz fun I=>?_
  have:=(tF (h1 64 I)).1;omega
 .exact y r hr (-1) (No _) r.head (by unfold fG;simp)
 .obtain⟨i,hi,rfl⟩:=YQ.1 hl;obtain⟨a,B,rfl⟩:=GA (j r hr _ hl) ht;refine y r hr _ (EW hi) a ?_;have e:au r (i:Int)=r.body[i]:=by unfold au;simp[WQ,hi]
  unfold fG zY;rw[be (by omega),e];exact B
theorem dV.cZ{p:Prog}(h:dV p){x:aq×aq×Nat}(j:x∈cZ p):x.1∈p.aF.map Decl.name∧x.2.1∈p.aF.map Decl.name∧0<x.2.2:=by
 simp only[_root_.Go.Proofs.YtlmhfgbkchnfbaaGreatDoor.cZ,ZG,Xw]at j;obtain⟨r,hr,l,hl,t,ht,rfl⟩:=j;refine⟨h.E9 r hr,h.lits r hr l hl t ht,?_⟩;show 0<nB l;unfold nB;split<;>omega
abbrev GM:=List ((KC.str).K×Option NM)
def Gs:Option NM->IV
 |none=> .v (.map is)
 |some r=>BO r
abbrev yv(m:GM):IV:= .eO .str Gs is (.map is) m
def Hg(row:NM)(t:aq)(j:Int):NM:=cP .str row t (max (dW .str row t 0) j)
def j9(hs:List (aq×aq×Nat))(a:aq):NM:=hs.foldl (fun row x=>if x.1=a then Hg row x.2.1 x.2.2 else row) []
def ct(p:Prog)(hs:List (aq×aq×Nat)):GM:=p.aF.map fun r=>(r.name,io (j9 hs r.name))
def wa(p:Prog):IV:=if(eQ p).1=0 then yv (ct p (cZ p)) else .v (.map is)
theorem pj(hs:List (aq×aq×Nat))(x:aq×aq×Nat)(a:aq):j9 (hs++ [x]) a=if x.1=a then Hg (j9 hs a) x.2.1 x.2.2 else j9 hs a:=by
 simp[j9,List.foldl_append]
theorem xS(hs:List (aq×aq×Nat))(a:aq):((j9 hs a).map XY).Nodup∧ ∀b:aq,b∈(j9 hs a).map XY↔ ∃k,(a,b,k)∈hs:=by
 induction hs using rz with
 |h0=>exact⟨XM,fun b=>by simp[j9]⟩
 |h1 hs x ih=>
  obtain⟨B,A⟩:=ih;obtain⟨y,z,k⟩:=x;rw[pj];by_cases h:y=a
  .rw[am h,Hg];by_cases C:z∈(j9 hs a).map XY
   .rw[rW C];refine⟨B,fun b=>?_⟩;rw[A];constructor
    .rintro⟨j,hj⟩;exact⟨j,XJ _ hj⟩
    .rintro⟨j,hj⟩;rcases Xf.1 hj with hj|hj
     .exact⟨j,hj⟩
     .rw[W1]at hj;cases hj;exact(A z).1 C
   .rw[eh C];refine⟨Yt.2 ⟨B,by simp,fun u hu v D e=>?_⟩,fun b=>?_⟩
    .rw[W1]at D;subst e;subst D;exact C hu
    .rw[Xf,A,W1];constructor
     .rintro(⟨j,hj⟩|rfl)
      .exact⟨j,XJ _ hj⟩
      .exact⟨k,Yo _ (by rw[h];exact YT _)⟩
     .rintro⟨j,hj⟩;rcases Xf.1 hj with hj|hj
      .exact .inl ⟨j,hj⟩
      .rw[W1]at hj;cases hj;exact .inr Z
  .rw[be h];refine⟨B,fun b=>?_⟩;rw[A];constructor
   .rintro⟨j,hj⟩;exact⟨j,XJ _ hj⟩
   .rintro⟨j,hj⟩;rcases Xf.1 hj with hj|hj
    .exact⟨j,hj⟩
    .rw[W1]at hj;cases hj;exact absurd Z h
theorem Il(hs:List (aq×aq×Nat))(a:aq):(j9 hs a).length<=hs.length:=by
 induction hs using rz with
 |h0=>exact WY _
 |h1 hs x ih=>
  rw[pj,WO,Xl];split
  .have:=vz (j9 hs a) x.2.1 (max (dW .str (j9 hs a) x.2.1 0) x.2.2);unfold Hg;omega
  .omega
def bt(p:Prog)(a:aq):List aq:=(ns p).filter (eg p a)
theorem AZ{p:Prog}(h:dV p)(a:aq):dJ ((j9 (cZ p) a).map XY)=bt p a:=by
 refine qz (j7 (xS _ _).1) (Y3 _ (j7 h.nodup)) fun b=>?_;rw[mn,(xS _ _).2,bt,Xu,ns,mn,eg,decide_eq_true_eq];constructor
 .rintro⟨k,hk⟩;have h1:=h.cZ hk;refine⟨h1.2.1,?_⟩;have:=U7 hk;have h2:0<k:=h1.2.2;omega
 .rintro⟨_,h1⟩;rcases U6 (cZ p) a b with h2|h2
  .exact absurd h2 h1
  .exact⟨_,h2⟩
theorem Jn(p:Prog)(hs:List (aq×aq×Nat)){a:aq}(h:a∈p.aF.map Decl.name):dW .str (ct p hs) a is=io (j9 hs a):=by
 unfold ct
 revert h
 generalize p.aF=l
 induction l with
 |nil=>intro h;cases h
 |cons d l ih=>
  intro h;simp only[WW,dW];by_cases e:d.name=a
  .rw[am e,e]
  .rw[be e];rw[WW,Xa]at h;exact ih (h.resolve_left fun g=>e g.symm)
theorem DN(p:Prog)(hs:List (aq×aq×Nat)):(ct p hs).map XY=p.aF.map Decl.name:=by
 simp[ct]
theorem tL{b:List Lit}{i:Nat}(h:i<b.length):im (b.take (i+1))=im (b.take i)++named (b.getD i co):=by
 rw[oA,oA,bS h,Zo];simp
mutual
theorem mj: ∀l:Lit,(named l).length<=l.size
 | .mk k a op le ri af av ao b at_=>by
  have:=qO b;unfold named Lit.size;split
  .simp;omega
  .split
   .omega
   .simp
theorem qO: ∀l:List Lit,(im l).length<=Lit.aD l
 | []=>WY _
 |l::r=>by
  have h1:=mj l;have j:=qO r;simp only[im,Lit.aD,WO];omega
end
theorem Gz(b:List Lit)(i:Nat):(im (b.take i)).length<=Lit.aD b:=by
 have h1:=qO (b.take i);have j: ∀(b:List Lit) (i:Nat),Lit.aD (b.take i)<=Lit.aD b:=by
  intro b
  induction b with
  |nil=>intro i;simp[Lit.aD]
  |cons x r ih=>
   intro i;cases i with
   |zero=>simp[Lit.aD]
   |succ i=>have:=ih i;simp only[Ye,Lit.aD];omega
 exact XR h1 (j b i)
def S1(n:Nat):Prop:= ∀l:Lit,l.size<=n->Pure Tryz.prog 96 [ag l.c] (.iv (strs (named l)))
theorem rQ(l:Lit):named l=if l.kind=1∨l.kind=2 then[l.atom.rel] else if l.kind=4 then im l.ay else[]:=by cases l;rfl
theorem H6: ∀n:Nat,n<=100000000000->S1 n
 |0,_=>fun l h=>absurd l.size_pos (by omega)
 |n+1,hn=>fun l h=>by
  have D:=l.size_eq;refine Al.Pure.le (aa:=[ag l.c]) (args:=[ag l.c1]) ?_ ⟨l.DD,ac⟩;refine ah ab Tryz.func96 Z (by decide) Tryz.ntmps96 Z (by simp) Z ?_;refine zJ Z Z (fun j=>?_) fun j=>?_
  .have j:l.kind=1:=by simpa using j
   rw[rQ,am (.inl j)];refine gA Z (dA (by first|exact .inr Z|exact .inl Z) Z Z (rfl) (rfl))
  have j: ¬l.kind=1:=by simpa using j
  refine zJ Z Z (fun u=>?_) fun u=>?_
  .have u:l.kind=2:=by simpa using u
   rw[rQ,am (.inr u)];refine gA Z (dA (by first|exact .inr Z|exact .inl Z) Z Z (rfl) (rfl))
  have u: ¬l.kind=2:=by simpa using u
  rw[rQ,be (by rintro(g|g);exact j g;exact u g)];refine zE Z Z (fun x=>?_) fun x=>?_
  .have x: ¬l.kind=4:=by simpa using x
   rw[be x];refine gA Z (zL ?_);exact .nil _ _
  have x:l.kind=4:=by simpa using x
  rw[am x];refine gA Z ?_;refine ju 3 1 Z ?_;refine aM 0 l.ay.length (W2 _) (fun i=>⟨[(3,.sl 2 0 (im (l.ay.take i)).length 1),(19,.iv (lits l.ay)),(20,pI l.ay.length),(21,pI i)],[(2,io (aX 1 (im (l.ay.take i)) de))],3⟩) (fun _=>True) [1] ac
   (zW (zS trivial)) fun i hi _=>?_
  have A:=Gz l.ay i;have y:=Lit.aJ l.ay;refine zJ Z Z (fun h1=>?_) fun h1=>?_
  .have h1:i<l.ay.length:=by simpa using h1
   have B:=Lit.bT l.ay i h1;have C:=mj (l.ay.getD i co);refine gA Z (zp (H6 n (by omega) (l.ay.getD i co) (by omega)) ?_);refine gA Z ⟨h1,ac,[4],zM ⟨.row (by rw[tL h1,WO]),rfl,bi (bi (bi ac))⟩ (hR Z (by rw[za,tL h1,W4]) Z ac)⟩
  .have h1:l.ay.length<=i:=by simpa using h1
   rw[W9 h1];refine gA Z (dA (by first|exact .inr Z|exact .inl Z) Z Z (rfl) (rfl))
theorem Ey(l:Lit)(h:l.size<=100000000000):Pure Tryz.prog 96 [ag l.c] (.iv (strs (named l))):=H6 l.size h l (WY _)
end Go.Proofs.YtlmhfgbkchnfbaaGreatDoor
namespace Go.Proofs.YtlmhfgbkchnfbaaGreatDoor
open Go Go.Al Go.Proofs.Tryz
section
theorem P1(hS:fy)(el:Nat->List IV):Pure prog 129 [.iv (.bL 1 0 el)] (.aY []):=by
 refine⟨bc func129 Z (by decide),fun M N w vs hr j x=>?_⟩;obtain⟨v,rfl⟩: ∃v,vs=[v]:=by
  cases vs with
  |nil=>cases j
  |cons v r=>cases r with
   |nil=>exact⟨v,rfl⟩
   |cons a b=>simp at j
 have u:=x 0 _ Z;simp only[YL]at u;obtain⟨a,a0,rfl⟩: ∃a a0,v= .slice a 0 a0:=by
  cases u with
  |iv _ _ h=>cases h with
   |fL _ _ a a0=>exact⟨a,a0,rfl⟩
   |bL _ _ _ b off a0=>exact⟨_,a0,rfl⟩
 refine(hS.2 a a0 w).mono ?_;rintro e y ⟨rfl,rfl⟩;exact⟨_,M,N,.aY [],_,_,rfl,⟨rfl,rfl,rfl⟩,.refl _ _ _ _ _,hr,.aY [] #[] Z (by simp)⟩
section
variable {V:Type}
def E5(m:List ((KC.str).K×V))(vs:List Nat):List aq:=iq (m.map fun x=>(x.1,0)) vs
theorem B7(m:List ((KC.str).K×V))(vs:List Nat)(j:Nat)(x:(KC.str).K×V)(h:m[j]? =io x):E5 m (j::vs)=E5 m vs++ [x.1]:=
 lz _ _ _ (x.1,0) (by rw[WX,h];rfl)
theorem E4(m:List ((KC.str).K×V))(vs:List Nat)(hn:vs.Nodup)(hb: ∀j∈vs,j<m.length)(u: ∀j,j<m.length->j∈vs):(E5 m vs).Perm (m.map (·.1)):=by
 have:=kI (m.map fun x=>(x.1,(0:Int))) vs hn (by simpa using hb) (by simpa using u);rw[XX]at this;exact this
theorem E3(m:List ((KC.str).K×V))(vs:List Nat):(E5 m vs).length<=vs.length:=vW _ _
end
def Gr(i:Nat):List aq->PV
 | []=> .sl i 1 0 1
 |x::r=> .sl i 0 (x::r).length 1
def xk(n:Nat):List aq->AO
 | []=> .row 1 (Zh n [pS W0])
 |x::r=>aX 1 (x::r) de
theorem ya(i:Nat)(l:List aq)(s:aq):Gr i (l++ [s])= .sl i 0 (l.length+1) 1:=by cases l<;>simp[Gr]
theorem yb(n:Nat)(l:List aq)(s:aq):xk n (l++ [s])=aX 1 (l++ [s]) de:=by cases l<;>rfl
theorem BH{i:Nat}{l:List aq}(h:l≠ []):Gr i l= .sl i 0 l.length 1:=by cases l with
 |nil=>exact absurd Z h
 |cons=>rfl
theorem BI{n:Nat}{l:List aq}(h:l≠ []):xk n l=aX 1 l de:=by cases l with
 |nil=>exact absurd Z h
 |cons=>rfl
theorem IH(n:Nat)(l:List aq)(k:Nat):(xk n l).low k:=by
 cases l with
 |nil=>
  intro j e u;rw[List.getElem?_replicate]at u;split at u
  .cases u;rfl
  .cases u
 |cons x r=>exact eJ k
theorem IG(n:Nat)(l:List aq)(σ:Nat->Nat):(xk n l).b3 σ=xk n l:=by
 cases l with
 |nil=>simp only[xk,AO.b3];rw[List.map_replicate];rfl
 |cons x r=>exact b5 σ
theorem hO{h r:AH}{σ:Nat->Nat}{i n m:Nat}{o:AO}{l:List aq}(ho:h.get (σ i)=io o)(he:o=xk m l)(hi:Xm i n=jp)(hr:o6 n σ h r):o6 n σ h ((i,io (xk m l))::r):=
 ⟨⟨_,ho,.of_eq (by rw[IG,he])⟩,WL hi,IH m l n,hr⟩
theorem rJ(i:Nat)(l:List aq){n:Nat}(h:Xm i n=jp):(Gr i l).low n=jp:=by cases l<;>exact h
theorem H0(hS:fy)(m:NM)(hm:m.length<=100000000):Pure prog 100 [.iv (BO m)] (.iv (strs (dJ (m.map (·.1))))):=by
 refine ah ab func100 Z (by decide) ntmps100 Z (by simp) Z ?_;rcases Nat.eq_zero_or_pos m.length with h0|h0
 .have h0:=Yl.1 h0;subst h0;refine gA Z (Jp ab 1 (fun k=>de (([]:List aq).getD k co)) Z Z Z Z Z Z Z Z Z Z ?_);refine gA Z ?_;refine gd ([]:List ((KC.str).K×Int)) (fun _=>⟨[(3,.iv (.bL 1 0 (fun k=>de (([]:List aq).getD k co)))),(9,.ptr 1 0)],[(1,io (.bX .str AD ([]:List ((KC.str).K×Int)) [] is))],2⟩) (fun _=>True) [] ac
   (zW (hI Z Z (.inl Z) Z trivial)) fun vs _=>?_
  refine gf Z ac (dS Z Z Z Z Z (by decide) (fun _=>?_) fun j x B _=>?_)
  .refine gA Z (aE (P1 hS _) Z Z Z Z Z Z ?_);refine gA Z (zL ?_);exact .of_eq (show _=PV.iv (strs (dJ [])) by rw[pg];rfl)
  .cases B
 refine gA Z (Jq ab m.length 0 Z Z Z Z Z Z Z Z Z h0 (by omega) (by show 16*m.length<=_;omega) Z (by decide) Z (.inl ⟨rfl,rfl⟩) Z ?_);refine gA Z ?_;refine gd m (fun vs=>⟨[(3,Gr 2 (E5 m vs)),(9,.ptr 1 0)],[(1,io (.bX .str AD m vs is)),(2,io (xk m.length (E5 m vs)))],3⟩) (fun vs=>vs.Nodup∧ ∀j∈vs,j<m.length) [0] ⟨XM,by simp⟩
  (zW (hI Z Z (.inl Z) Z (hO Z Z Z trivial))) fun vs hJ=>?_
 obtain⟨y,A⟩:=hJ;have Y:=vL y A;have D:=E3 m vs;refine gf Z ac (dS Z Z Z Z Z (by decide) (fun C=>?_) fun j x B I=>?_)
 .have J:=E4 m vs y A C;have G:E5 m vs≠ []:=fun e=>by
   have:=J.length_eq;rw[e,Xk]at this;simp at this;omega
  rw[BH G,BI G];refine gf Z ac (ai [2] (Kn hS (E5 m vs) (by omega)) Z Z Z Z Z (congrArg (fun o=> [io o]) (b5 _).symm) Z Z ?_);refine gf Z ac (dA (.inr Z) Z Z ((vp _ _).trans (by rw[qA J])) ?_);rw[kr,<-J.length_eq]
 .have hk:=B7 m vs j x B;have a0: ∀u,u=j::vs->u.Nodup∧ ∀i∈u,i<m.length:=fun u e=>e▸⟨XB.2 ⟨I,y⟩,fun i hi=>(Xa.1 hi).elim (fun h=>h▸(WT.1 B).1) (A i)⟩
  cases hl:E5 m vs with
  |nil=>
   rw[hl,Xg]at hk;refine gA Z (Ae ab Z Z Z Z Z Z Z Z Z (by simp;omega) (by simp) (gm Z) Z ?_);refine gA Z ?_;exact⟨j,x,B,I,a0 _ Z,[4],zM ⟨.of_eq (by rw[hk];rfl),rJ 2 _ Z,.refl _,rfl,ac⟩ (hI Z Z (.inr Z) Z (hO Z (by rw[hk];rfl) Z ac))⟩
  |cons a r=>
   rw[hl]at hk D;have b0:(r.length+1)<=m.length:=by simpa using XR D Y
   refine gA Z ⟨j,x,B,I,a0 _ Z,[4],zM ⟨.of_eq (by rw[hk,ya];rfl),rJ 2 _ Z,.refl _,rfl,ac⟩ (hI Z Z (.inr Z) Z (hO Z (by rw[hk,yb,aX,W4];rfl) Z ac))⟩
theorem H2(hS:fy)(m:GM)(hm:m.length<=100000000):Pure prog 101 [.iv (yv m)] (.iv (strs (dJ (m.map (·.1))))):=by
 refine ah ab func101 Z (by decide) ntmps101 Z (by simp) Z ?_;rcases Nat.eq_zero_or_pos m.length with h0|h0
 .have h0:=Yl.1 h0;subst h0;refine gA Z (Jp ab 1 (fun k=>de (([]:List aq).getD k co)) Z Z Z Z Z Z Z Z Z Z ?_);refine gA Z ?_;refine gd ([]:List ((KC.str).K×Option NM)) (fun _=>⟨[(3,.iv (.bL 1 0 (fun k=>de (([]:List aq).getD k co)))),(9,.ptr 1 0)],[(1,io (.bX .str Gs ([]:List ((KC.str).K×Option NM)) [] is))],2⟩) (fun _=>True) [] ac
   (zW (hI Z Z (.inl Z) Z trivial)) fun vs _=>?_
  refine gf Z ac (dS Z Z Z Z Z (by decide) (fun _=>?_) fun j x B _=>?_)
  .refine gA Z (aE (P1 hS _) Z Z Z Z Z Z ?_);refine gA Z (zL ?_);exact .of_eq (show _=PV.iv (strs (dJ [])) by rw[pg];rfl)
  .cases B
 refine gA Z (Jq ab m.length 0 Z Z Z Z Z Z Z Z Z h0 (by omega) (by show 16*m.length<=_;omega) Z (by decide) Z (.inl ⟨rfl,rfl⟩) Z ?_);refine gA Z ?_;refine gd m (fun vs=>⟨[(3,Gr 2 (E5 m vs)),(9,.ptr 1 0)],[(1,io (.bX .str Gs m vs is)),(2,io (xk m.length (E5 m vs)))],3⟩) (fun vs=>vs.Nodup∧ ∀j∈vs,j<m.length) [0] ⟨XM,by simp⟩
  (zW (hI Z Z (.inl Z) Z (hO Z Z Z trivial))) fun vs hJ=>?_
 obtain⟨y,A⟩:=hJ;have Y:=vL y A;have D:=E3 m vs;refine gf Z ac (dS Z Z Z Z Z (by decide) (fun C=>?_) fun j x B I=>?_)
 .have J:=E4 m vs y A C;have G:E5 m vs≠ []:=fun e=>by
   have:=J.length_eq;rw[e,Xk]at this;simp at this;omega
  rw[BH G,BI G];refine gf Z ac (ai [2] (Kn hS (E5 m vs) (by omega)) Z Z Z Z Z (congrArg (fun o=> [io o]) (b5 _).symm) Z Z ?_);refine gf Z ac (dA (.inr Z) Z Z ((vp _ _).trans (by rw[qA J])) ?_);rw[kr,<-J.length_eq]
 .have hk:=B7 m vs j x B;have a0: ∀u,u=j::vs->u.Nodup∧ ∀i∈u,i<m.length:=fun u e=>e▸⟨XB.2 ⟨I,y⟩,fun i hi=>(Xa.1 hi).elim (fun h=>h▸(WT.1 B).1) (A i)⟩
  cases hl:E5 m vs with
  |nil=>
   rw[hl,Xg]at hk;refine gA Z (Ae ab Z Z Z Z Z Z Z Z Z (by simp;omega) (by simp) (gm Z) Z ?_);refine gA Z ?_;exact⟨j,x,B,I,a0 _ Z,[4],zM ⟨.of_eq (by rw[hk];rfl),rJ 2 _ Z,.refl _,rfl,ac⟩ (hI Z Z (.inr Z) Z (hO Z (by rw[hk];rfl) Z ac))⟩
  |cons a r=>
   rw[hl]at hk D;have b0:(r.length+1)<=m.length:=by simpa using XR D Y
   refine gA Z ⟨j,x,B,I,a0 _ Z,[4],zM ⟨.of_eq (by rw[hk,ya];rfl),rJ 2 _ Z,.refl _,rfl,ac⟩ (hI Z Z (.inr Z) Z (hO Z (by rw[hk,yb,aX,W4];rfl) Z ac))⟩
end
end Go.Proofs.YtlmhfgbkchnfbaaGreatDoor
namespace Go.Proofs.YtlmhfgbkchnfbaaGreatDoor
open Go Go.Al
def V1(b:Option Nat):IV:= .v (.map b)
def dvR(p:PV):Option Nat:=match p with
 | .iv (.v (.map b))=>b
 |_=>is
abbrev RM:=List ((KC.str).K×Option Nat)
abbrev gO(m:RM):AO:= .map .str V1 is (.map is) dvR m
abbrev AE:=Nat×Nat
def kE(l:List Decl)(B:List AE):RM:=Z0 (fun d b=>(d.name,io b.1)) l B
def dZ(L:List (Nat×Nat×NM)):bE:=fun b=>(L.find? fun y=>y.1==b).map fun y=> .obj (cX y.2.2) y.2.1
theorem iN(L:List (Nat×Nat×NM)):(dZ L).still:=by
 intro b i e h;unfold dZ at h;cases hf:L.find? fun y=>y.1==b<;>rw[hf]at h<;>cases h
def rowsOf(l:List Decl)(B:List AE)(hs:List (aq×aq×Nat)):List (Nat×Nat×NM):=Z0 (fun d b=>(b.1,b.2,j9 hs d.name)) l B
theorem GD{V:Type}{kc:KC}{ev:V->IV}{z:V}{u:Value}{x:PV->V}(A: ∀M,IR M (ev z) u):eR .ft (.map kc ev z u x []):=
 ⟨id,fun M N U w j y=>⟨#[],0,y,⟨rfl,by simp,by simp,by simp,by simp⟩,A M⟩⟩
structure BOK (l:List Decl) (i:Nat) (B:List AE):Prop where
 len:B.length=i
 nd:(B.map XY).Nodup
theorem Bt(l:List Decl):kE l []=[]:=by cases l<;>rfl
theorem vq(l:List Decl)(hs:List (aq×aq×Nat)):rowsOf l [] hs=[]:=by cases l<;>rfl
theorem C4(l:List Decl)(hs:List (aq×aq×Nat)):dZ (rowsOf l [] hs)=bE.nil:=by rw[vq];rfl
theorem uW{α β γ:Type}[Inhabited α](f:α->β->γ): ∀(l:List α) (B:List β) (x:β),B.length<l.length->Z0 f l (B++ [x])=Z0 f l B++ [f (l.getD B.length co) x]
 |a::l,[],x,_=>by simp
 |a::l,b::B,x,h=>by
  have:=uW f l B x (by simpa using h);simp[this]
 | [],B,x,h=>absurd h (YM _)
theorem Nf{B:List AE}{b e:Nat}(h:(B.map XY).Nodup)(hb:b∉B.map XY):((B++ [(b,e)]).map XY).Nodup:=by
 rw[W4,Yt];exact⟨h,by simp,fun u hu v j g=>hb (by simp at j;subst g;subst j;exact hu)⟩
theorem ov(hs:List (aq×aq×Nat)): ∀(l:List Decl) (B:List AE),B.length<=l.length->(rowsOf l B hs).map XY=B.map XY
 |_,[],_=>by simp[vq]
 |d::l,b::B,h=>by
  have:=ov hs l B (by simpa using h);simp only[rowsOf,Z1,WW]at this ⊢;rw[this]
 | [],b::B,h=>absurd h (by simp)
theorem F3{l:List Decl}{B:List AE}{hs:List (aq×aq×Nat)}{b:Nat}(hl:B.length<=l.length)(h:dZ (rowsOf l B hs) b=is):b∉B.map XY:=by
 rw[<-ov hs l B hl];intro j;obtain⟨y,u,rfl⟩:=Xw.1 j;unfold dZ at h;rw[Zb,YX]at h;exact h y u (by simp)
theorem Ba(L:List (Nat×Nat×NM))(y:Nat×Nat×NM)(h:y.1∉L.map XY):dZ (L++ [y])=(dZ L).put y.1 (.obj (cX y.2.2) y.2.1):=by
 funext c
 unfold dZ bE.put;rw[List.find?_append];by_cases j:c=y.1
 .subst j;rw[am Z];have:L.find? (fun z=>z.1==y.1)=is:=YX.2 fun z u=>by
   simp only[beq_iff_eq];exact fun e=>h (e▸ZK u)
  rw[this];simp
 .rw[be j];have: ¬y.1=c:=fun e=>j e.symm;cases hf:L.find? (fun z=>z.1==c)<;>simp[this,hf]
theorem F2{l:List Decl}{B:List AE}{b e:Nat}(hl:B.length<l.length)(hb:b∉B.map XY):dZ (rowsOf l (B++ [(b,e)]) [])=(dZ (rowsOf l B [])).put b (.obj (cX []) e):=by
 have h:rowsOf l (B++ [(b,e)]) []=rowsOf l B []++ [(b,e,[])]:=uW _ l B (b,e) hl;rw[h];exact Ba _ _ (by rw[ov _ _ _ (Nat.le_of_lt hl)];exact hb)
theorem Bq: ∀(l:List Decl) (B:List AE),B.length<=l.length->(kE l B).map XY=(l.take B.length).map Decl.name
 |_,[],_=>by simp[Bt]
 |d::l,b::B,h=>by
  have:=Bq l B (by simpa using h);simp only[kE,Z1,WW,Xn,Ye]at this ⊢;rw[this]
 | [],b::B,h=>absurd h (by simp)
theorem MZ{V:Type}{m:List ((KC.str).K×V)}{s:aq}{v:V}(h:s∉m.map XY):cP .str m s v=m++ [(s,v)]:=by
 induction m with
 |nil=>rfl
 |cons x r ih=>
  obtain⟨a,c⟩:=x;simp only[WW,Xa,not_or]at h;have: ¬a=s:=fun e=>h.1 e.symm;simp only[cP,be this,ih h.2];rfl
theorem Iz{l:List Decl}{B:List AE}{i b e:Nat}(hn:(l.map Decl.name).Nodup)(hi:B.length=i)(hl:i<l.length):cP .str (kE l B) (l.getD i co).name (io b)=kE l (B++ [(b,e)]):=by
 subst hi;have h:kE l (B++ [(b,e)])=kE l B++ [((l.getD B.length co).name,io b)]:=uW _ l B (b,e) hl;rw[h];apply MZ;rw[Bq l B (Nat.le_of_lt hl)];intro u;have j:l.map Decl.name=(l.take B.length).map Decl.name++(l.drop B.length).map Decl.name:=by rw[<-W4,Zf]
 rw[j,Yt]at hn;refine hn.2.2 _ u _ (Xw.2 ⟨l.getD B.length co,?_,rfl⟩) Z;rw[WQ,WU hl];exact List.mem_drop_iff_getElem.2 ⟨0,by simpa using hl,by simp⟩
def r6(r:aw)(l:Lit):List (aq×aq×Nat):=(named l).map fun t=>(r.head.rel,t,nB l)
def Fa(r:aw):List (aq×aq×Nat):=r.body.flatMap (r6 r)
theorem Fj: ∀{L:List (Nat×Nat×NM)} {j:Nat} {y:Nat×Nat×NM},(L.map XY).Nodup->L[j]? =io y->L.find? (fun z=>z.1==y.1)=io y
 | [],_,_,_,h=>by simp at h
 |x::L,0,y,_,h=>by
  simp only[List.getElem?_cons_zero,WR]at h;subst h;simp
 |x::L,j+1,y,hn,h=>by
  rw[Zt]at h;rw[WW,XB]at hn;have u: ¬x.1=y.1:=fun e=>hn.1 (e▸ZK (Xs h));rw[List.find?_cons_of_neg (by simpa using u)];exact Fj hn.2 h
theorem rA{l:List Decl}{B:List AE}{hs:List (aq×aq×Nat)}{j:Nat}{d:Decl}{b:AE}(hl:B.length=l.length)(hn:(B.map XY).Nodup)(hd:l[j]? =io d)(hb:B[j]? =io b):dZ (rowsOf l B hs) b.1=io (.obj (cX (j9 hs d.name)) b.2):=by
 have h:(rowsOf l B hs)[j]? =io (b.1,b.2,j9 hs d.name):=by
  unfold rowsOf;rw[Z4,hd,hb]
 have u:=Fj (by rw[ov hs l B (ZY hl)];exact hn) h;unfold dZ;rw[u];rfl
theorem A9{l:List Decl}{B:List AE}{hs:List (aq×aq×Nat)}{c:Nat}(hl:B.length<=l.length)(h:c∉B.map XY):dZ (rowsOf l B hs) c=is:=by
 rw[<-ov hs l B hl]at h;unfold dZ;rw[Zb,YX];intro y j;simp only[beq_iff_eq];exact fun e=>h (e▸ZK j)
theorem F1{l:List Decl}{B:List AE}{hs:List (aq×aq×Nat)}{j h:Nat}{d:Decl}{b:AE}{t:aq}(hl:B.length=l.length)(hn:(B.map XY).Nodup)(I:(l.map Decl.name).Nodup)(hd:l[j]? =io d)(hb:B[j]? =io b):
  (dZ (rowsOf l B hs)).put b.1 (.obj (cX (Hg (j9 hs d.name) t h)) b.2)=dZ (rowsOf l B (hs++ [(d.name,t,h)])):=by
 funext c
 unfold bE.put;by_cases y:c=b.1
 .subst y;rw[am Z,rA hl hn hd hb,pj,am Z]
 .rw[be y];by_cases G:c∈B.map XY
  .obtain⟨Y,x,rfl⟩:=Xw.1 G;obtain⟨i,hi,rfl⟩:=YQ.1 x;have u:i<l.length:=by omega
   have A:i≠j:=fun e=>y (by subst e;rw[WU hi]at hb;cases hb;rfl);rw[rA hl hn (WU u) (WU hi),rA hl hn (WU u) (WU hi),pj,be];intro e;have J:=(WT.1 hd)
   obtain⟨C,D⟩:=J;apply A;refine(List.getElem_inj I (h₀:=by simpa using u) (h₁:=by simpa using C)).1 ?_;rw[YB,YB,D];exact e.symm
  .rw[A9 (ZY hl) G,A9 (ZY hl) G]
theorem R4{l:List Decl}{B:List AE}{a:aq}(hl:B.length=l.length)(u:(l.map Decl.name).Nodup)(ha:a∈l.map Decl.name): ∃(j:Nat) (d:Decl) (b:AE),l[j]? =io d∧B[j]? =io b∧d.name=a∧dW .str (kE l B) a is=io b.1:=by
 induction l generalizing B with
 |nil=>cases ha
 |cons d l ih=>
  cases B with
  |nil=>cases hl
  |cons b B=>
   by_cases h:d.name=a
   .exact⟨0,d,b,rfl,rfl,h,by simp[kE,dW,h]⟩
   .rw[WW,XB]at u;rw[WW,Xa]at ha;obtain⟨j,y,x,h1,A,C,D⟩:=ih (by simpa using hl) u.2 (ha.resolve_left fun e=>h e.symm);exact⟨j+1,y,x,h1,A,C,by simpa[kE,dW,h]using D⟩
def dvG(_:PV):Option NM:=is
theorem Hw{p:Prog}{B:List AE}(hl:B.length=p.aF.length)(hn:(B.map XY).Nodup){hs:List (aq×aq×Nat)}:Qr (dZ (rowsOf p.aF B hs)) (gO (kE p.aF B)) (.map .str Gs is (.map is) dvG (ct p hs)):=by
 refine .map _ _ _ _ _ _ _ _ _ _ (by simp[ct,kE,hl]) (fun j A x=>?_) fun M=> .v _
 obtain⟨d,hd,rfl⟩: ∃d,p.aF[j]? =io d∧A=(d.name,io (j9 hs d.name)):=by
  unfold ct at x;rw[WX,WZ]at x;obtain⟨d,h1,y⟩:=x;exact⟨d,h1,y.symm⟩
 have u:j<B.length:=by rw[hl];exact(WT.1 hd).1
 refine⟨(d.name,io B[j].1),.map (io B[j].1),?_,rfl,rfl,?_⟩
 .unfold kE;rw[Z4,hd,WU u]
 .refine .map B[j].1 B[j].2 .str AD 0 (.int .i64 0) V8 (j9 hs d.name) ?_;exact rA hl hn hd (WU u)
theorem P3(hS:fy)(p:Prog)(hb:p.fit):Pure Tryz.prog 65 [ag p.c] (.aY [.iv (wa p),pB (lc ((eQ p).1=0))]):=by
 refine ah ab Tryz.func65 Z (by decide) Tryz.ntmps65 Z (by simp) Z ?_;refine gA Z (zp (c24 p hb) ?_);refine zJ Z Z (fun D=>?_) fun D=>?_
 .have D: ¬(eQ p).1=0:=by simpa using D
  rw[wa,be D,decide_eq_false D];exact zU Z
 have D:(eQ p).1=0:=by simpa using D
 have hf:=Fi D;have v0:=hf.len;rw[wa,am D,decide_eq_true D];refine gM 1 Z ?_;refine U3 ?_;refine c9 (kL ?_);refine gA Z ?_;refine c9 (c9 (v8 ⟨[(1,.ptr 0 0),(4,.mp 2),(20,.iv (aW 4 p.aF Decl.c)),(21,pI p.aF.length),(22,pI 0)],[(0,io (aG p.c)),(2,io (gO []))],3⟩ ?_ ?_))
 .refine gA Z (yt [1] ?_);exact zW (zK (Sr Z (fun _=> .v _) Z ac))
 refine jG (Aa 0 p.aF.length (W2 _) (fun i (x:ULift.{1} (List AE))=>⟨[(1,.ptr 0 0),(4,.mp 2),(20,.iv (aW 4 p.aF Decl.c)),(21,pI p.aF.length),(22,pI i)],[(0,io (aG p.c)),(2,io (gO (kE p.aF x.down)))],3⟩)
  (fun i x Y=>BOK p.aF i x.down∧Y=dZ (rowsOf p.aF x.down [])) ⟨[]⟩ [] ⟨⟨rfl,XM⟩,(C4 p.aF []).symm⟩
  (zW (zK (hM Z (Bt p.aF).symm Z ac))) (fun _ _ _ h=>h.2▸iN _) fun i x Y hi hJ=>?_)
 obtain⟨hB,rfl⟩:=hJ;obtain⟨B⟩:=x;refine c9 (kL ?_);refine gA Z ?_;refine c9 (uM Z (fun h1=>uJ ?_) (fun h1=>uL ?_))
 .have h1:i<p.aF.length:=by simpa using h1
  refine c9 (jG (c9 (kL ?_)));refine gA Z ?_;refine yr (uK 4 ?_);refine gA Z ?_;refine z8 (Ru (i:=4) (o':=cX []) Z (GD gj)) fun t Y ht=>?_;obtain⟨rfl,rfl⟩:=ht;refine z8 (FU (i:=4) (d:=29) (iN _) Z Z ac Z) fun t Y ht=>?_;obtain⟨b,e,o0,rfl,rfl⟩:=ht;refine uK 1 ?_;refine gA Z ?_;refine v7 (Jl (kL ?_));refine gA Z ?_;have a0:=F3 (by rw[hB.len];exact hi) o0;exact⟨h1,⟨B++ [(b,e)]⟩,[],⟨⟨by rw[WO,hB.len];rfl,Nf hB.nd a0⟩,(F2 (by rw[hB.len];exact h1) a0).symm⟩,zW (zK (hM Z (Iz hf.nodup hB.len h1) Z ac))⟩
 have h1:p.aF.length<=i:=by simpa using h1
 have I:B.length=p.aF.length:=by have:B.length=i:=hB.len;omega
 have c0:=hB.nd;clear hB;have x0:p.rules.length<=1000000000:=hb.2.1
 let G:Nat->List (aq×aq×Nat):=fun r=>(p.rules.take r).flatMap Fa
 change GX _ _ [.code _] _ _ _;refine c9 (c9 (v8 ⟨[(1,.ptr 0 0),(4,.mp 2),(32,.iv (aW 5 p.rules aw.c)),(33,pI p.rules.length),(34,pI 0)],[(0,io (aG p.c)),(2,io (gO (kE p.aF B)))],3⟩ ?_ ?_))
 .refine gA Z (yt [] ?_);exact zW (zK (zC ac))
 refine jG (Aa 0 p.rules.length (W2 _) (fun i (_:PUnit.{2})=>⟨[(1,.ptr 0 0),(4,.mp 2),(32,.iv (aW 5 p.rules aw.c)),(33,pI p.rules.length),(34,pI i)],[(0,io (aG p.c)),(2,io (gO (kE p.aF B)))],3⟩)
  (fun i _ Y=>Y=dZ (rowsOf p.aF B (G i))) ⟨⟩ [] Z (zW (zK (zC ac))) (fun _ _ _ h=>h▸iN _) fun n _ Y hn hJ=>?_)
 subst hJ;refine c9 (kL ?_);refine gA Z ?_;refine c9 (uM Z (fun h1=>uJ ?_) (fun h1=>uL ?_));rotate_left
 .have h1:p.rules.length<=n:=by simpa using h1
  have k0:G n=cZ p:=by show((p.rules.take n).flatMap Fa)=_;rw[W9 h1];rfl
  rw[k0];change GX _ _ [.code _] _ _ _;refine Qe (Rv (i:=2) (o':= .map .str Gs is (.map is) dvG (ct p (cZ p))) Z (Hw I c0)) fun t Y ht=>?_;obtain⟨rfl,rfl⟩:=ht;refine kL ?_;refine gA Z (gz (.inr Z) Z (fH.map 2 Z (.done (.refl _))))
 have h1:n<p.rules.length:=by simpa using h1
 have hR:p.rules.getD n co∈p.rules:=mB h1;have f0:G (n+1)=G n++Fa (p.rules.getD n co):=by show((p.rules.take (n+1)).flatMap Fa)=_;rw[bS h1,Zo];simp;rfl
 have b0:=hb.2.2 _ hR;have A:=b0.1;have u:=hf.E9 _ hR;have y:=hf.lits _ hR;generalize m0:p.rules.getD n co=R at hR f0 b0 A u y;refine c9 (jG (c9 (kL ?_)));refine gA Z ?_;refine c9 (v8 ⟨[(1,.ptr 0 0),(4,.mp 2),(8,.ptr 3 0),(32,.iv (aW 5 p.rules aw.c)),(33,pI p.rules.length),(34,pI n),(39,.iv (lits R.body)),(40,pI R.body.length),(41,pI 0)],[(0,io (aG p.c)),(2,io (gO (kE p.aF B))),(3,io (aG R.c))],4⟩ ?_ ?_)
 .refine gA Z (yt [] ?_);subst m0;exact zW (zK (zC (zK ac)))
 have s0:R.body.length<=10000000:=by have:=Lit.aJ R.body;unfold aw.size at A;omega
 refine jG (Aa 0 R.body.length (W2 _) (fun i (_:PUnit.{2})=>⟨[(1,.ptr 0 0),(4,.mp 2),(8,.ptr 3 0),(32,.iv (aW 5 p.rules aw.c)),(33,pI p.rules.length),(34,pI n),(39,.iv (lits R.body)),(40,pI R.body.length),(41,pI i)],[(0,io (aG p.c)),(2,io (gO (kE p.aF B))),(3,io (aG R.c))],4⟩)
  (fun i _ Y=>Y=dZ (rowsOf p.aF B (G n++(R.body.take i).flatMap (r6 R)))) ⟨⟩ [] (by simp) (zW (zK (zC (zK ac)))) (fun _ _ _ h=>h▸iN _) fun i _ Y t0 hJ=>?_)
 subst hJ;refine c9 (kL ?_);refine gA Z ?_;refine c9 (uM Z (fun C=>uJ ?_) (fun C=>uL ?_));rotate_left
 .have C:R.body.length<=i:=by simpa using C
  rw[W9 C,show G n++R.body.flatMap (r6 R)=G (n+1) from f0.symm];change GX _ _ (.code _::_) _ _ _;refine kL ?_;refine gA Z ⟨h1,⟨⟩,[],rfl,zW (zK (zC ac))⟩
 have C:i<R.body.length:=by simpa using C
 have hl:R.body.getD i co∈R.body:=mB C;have g0:(R.body.take (i+1)).flatMap (r6 R)=(R.body.take i).flatMap (r6 R)++r6 R (R.body.getD i co):=by rw[bS C,Zo];simp
 have e0:(R.body.getD i co).size<=10000000:=by have:=Lit.bT R.body i C;unfold aw.size at A;omega
 have d0:=y _ hl;generalize q0:R.body.getD i co=l at hl g0 e0 d0;refine c9 (jG (c9 (kL ?_)));refine gA Z ?_;refine c9 (v8 ⟨[(1,.ptr 0 0),(4,.mp 2),(8,.ptr 3 0),(10,.ptr 4 0),(32,.iv (aW 5 p.rules aw.c)),(33,pI p.rules.length),(34,pI n),(39,.iv (lits R.body)),(40,pI R.body.length),(41,pI i),(46,.iv (strs (named l))),(47,pI (named l).length),(48,pI 0)],[(0,io (aG p.c)),(2,io (gO (kE p.aF B))),(3,io (aG R.c)),(4,io (aG l.c))],5⟩ ?_ ?_)
 .subst q0;refine gA Z (zp (Ey (R.body.getD i co) (by omega)) ?_);refine gA Z (yt [] ?_);exact zW (zK (zC (zK (zK ac))))
 have w0:=mj l
 refine jG (Aa 0 (named l).length (W2 _) (fun k (_:PUnit.{2})=>⟨[(1,.ptr 0 0),(4,.mp 2),(8,.ptr 3 0),(10,.ptr 4 0),(32,.iv (aW 5 p.rules aw.c)),(33,pI p.rules.length),(34,pI n),(39,.iv (lits R.body)),(40,pI R.body.length),(41,pI i),(46,.iv (strs (named l))),(47,pI (named l).length),(48,pI k)],[(0,io (aG p.c)),(2,io (gO (kE p.aF B))),(3,io (aG R.c)),(4,io (aG l.c))],5⟩)
  (fun k _ Y=>Y=dZ (rowsOf p.aF B ((G n++(R.body.take i).flatMap (r6 R))++((named l).take k).map fun t=>(R.head.rel,t,nB l)))) ⟨⟩ [] (by simp) (zW (zK (zC (zK (zK ac))))) (fun _ _ _ h=>h▸iN _) fun k _ Y hk hJ=>?_)
 subst hJ;refine c9 (kL ?_);refine gA Z ?_;refine c9 (uM Z (fun h3=>uJ ?_) (fun h3=>uL ?_));rotate_left
 .have h3:(named l).length<=k:=by simpa using h3
  have eX:(G n++(R.body.take i).flatMap (r6 R))++(named l).map (fun t=>(R.head.rel,t,nB l))=G n++(R.body.take (i+1)).flatMap (r6 R):=by rw[W6,g0];rfl
  rw[W9 h3,eX];change GX _ _ (.code _::_) _ _ _;refine kL ?_;refine gA Z ⟨C,⟨⟩,[],rfl,zW (zK (zC (zK ac)))⟩
 have h3:k<(named l).length:=by simpa using h3
 obtain⟨j,d,b,hd,i0,p0,j0⟩:=R4 I hf.nodup u;have hX:=rA (hs:=(G n++(R.body.take i).flatMap (r6 R))++((named l).take k).map fun t=>(R.head.rel,t,nB l)) I c0 hd i0;have J:=F1 (hs:=(G n++(R.body.take i).flatMap (r6 R))++((named l).take k).map fun t=>(R.head.rel,t,nB l)) (t:=(named l).getD k co) (h:=nB l) I c0 hf.nodup hd i0;rw[p0]at hX J;have r0:((G n++(R.body.take i).flatMap (r6 R))++((named l).take k).map fun t=>(R.head.rel,t,nB l))++ [(R.head.rel,(named l).getD k co,nB l)]=(G n++(R.body.take i).flatMap (r6 R))++((named l).take (k+1)).map fun t=>(R.head.rel,t,nB l):=by
  rw[bS h3,W4,W6];rfl
 rw[r0]at J;generalize(G n++(R.body.take i).flatMap (r6 R))++((named l).take k).map (fun t=>(R.head.rel,t,nB l))=hs at hX J;refine c9 (jG (c9 (kL ?_)));refine gA Z ?_;refine c9 (kL ?_);refine gA Z ?_;refine c9 (v8 ⟨[(1,.ptr 0 0),(4,.mp 2),(8,.ptr 3 0),(10,.ptr 4 0),(32,.iv (aW 5 p.rules aw.c)),(33,pI p.rules.length),(34,pI n),(39,.iv (lits R.body)),(40,pI R.body.length),(41,pI i),(46,.iv (strs (named l))),(47,pI (named l).length),(48,pI k),(12,pS ((named l).getD k co)),(13,pI (nB l))],[(0,io (aG p.c)),(2,io (gO (kE p.aF B))),(3,io (aG R.c)),(4,io (aG l.c))],5⟩ ?_ ?_)
 .refine zJ Z Z (fun h4=>?_) fun h4=>?_
  .have h4:l.kind=1:=zT h4;refine gA Z (yt [] ?_);exact zM (bi (bi (bi (bi (bi (bi (bi (bi (bi (bi (bi (bi (bi (bi ⟨.of_eq (by rw[nB,am h4];rfl),rfl,ac⟩)))))))))))))) (zK (zC (zK (zK ac))))
  .have h4: ¬l.kind=1:=zF h4;refine gA Z (yt [] ?_);exact zM (bi (bi (bi (bi (bi (bi (bi (bi (bi (bi (bi (bi (bi (bi ⟨.of_eq (by rw[nB,be h4];rfl),rfl,ac⟩)))))))))))))) (zK (zC (zK (zK ac))))
 refine yr (uK 12 ?_);refine gA Z ?_;refine z8 (FT (d:=65) hX (show PV.iv (.v (.map (dW .str (kE p.aF B) R.head.rel is)))=_ by rw[j0])) fun t Y ht=>?_;obtain⟨rfl,rfl⟩:=ht;refine z8 (HM (b:=b.1) (j:=5) (e:=b.2) (d:=59) (p:= .mp 5) (bE.fU _ _ _) fun M N U x hu n0 _ hv=>?_) fun t Y ht=>?_
 .have hv:VR M N U (PV.iv (.v (.map (dW .str (kE p.aF B) R.head.rel is)))) x:=hv;rw[j0]at hv;cases hv with
  |iv _ _ hi=>cases hi with
   |v=>rw[<-n0];exact .mp 5 hu
 obtain⟨rfl,rfl⟩:=ht;refine uK 4 ?_;refine gA Z ?_;refine v7 (Jl (Qe (T7 (b:=b.1) (e:=b.2) (i:=5) (o:=cX (Hg (j9 hs R.head.rel) ((named l).getD k co) (nB l))) (bE.fU _ _ _) Z Z ac) fun t Y ht=>?_));obtain⟨rfl,rfl⟩:=ht;rw[bE.MY];refine kL ?_;refine gA Z ⟨h3,⟨⟩,[],J,zW (zK (zC (zK (zK ac))))⟩
end Go.Proofs.YtlmhfgbkchnfbaaGreatDoor
namespace Go.Proofs.YtlmhfgbkchnfbaaGreatDoor
open Go Go.Al Go.Tj
def qx(e:Option aq)(i:Nat)(l:List aq):PV:=match e,l with
 |some _,[]=> .sl i 1 0 1
 |_,l=> .sl i 0 l.length 1
def qy(e:Option aq)(l:List aq):AO:=match e,l with
 |some y,[]=> .row 1 [[pS y]]
 |_,l=>aX 1 l de
theorem l4(σ:Nat->Nat)(e:Option aq)(i:Nat)(l:List aq):(qx e i l).b3 σ=qx e (σ i) l:=by cases e<;>cases l<;>rfl
theorem l5(σ:Nat->Nat)(e:Option aq)(l:List aq):(qy e l).b3 σ=qy e l:=by
 cases e<;>cases l<;>first|rfl|exact b5 σ
theorem A2{n i:Nat}(h:Xm i n=jp)(e:Option aq)(l:List aq):(qx e i l).low n=jp:=by cases e<;>cases l<;>exact h
theorem A5(n:Nat)(e:Option aq)(l:List aq):(qy e l).low n:=by
 cases e with
 |none=>exact eJ n
 |some y=>
  cases l with
  |nil=>
   intro k e j;cases k with
   |zero=>cases j;rfl
   |succ k=>cases j
  |cons=>exact eJ n
theorem A1{e:Option aq}{i:Nat}{l:List aq}(h:e=is∨l≠ []):qx e i l= .sl i 0 l.length 1:=by
 cases e with
 |none=>rfl
 |some y=>cases l with
  |nil=>exact absurd Z (h.resolve_left (by simp))
  |cons=>rfl
theorem A3{e:Option aq}{l:List aq}(h:e=is∨l≠ []):qy e l=aX 1 l de:=by
 cases e with
 |none=>rfl
 |some y=>cases l with
  |nil=>exact absurd Z (h.resolve_left (by simp))
  |cons=>rfl
structure TW where
 low:NM
 on:NM
 ring:NM
 stack:List aq
 ur:Option aq
def TW.st(w:TW):St aq:=⟨fun a=>dW .str w.low a 0,fun a=>dW .str w.on a 0,fun a=>dW .str w.ring a 0,w.low.length,w.stack⟩
structure TW.Ok (V:List aq) (w:TW):Prop where
 nz: ∀a∈w.low.map XY,dW .str w.low a 0≠0
 nd:(w.low.map XY).Nodup
 sub: ∀a∈w.low.map XY,a∈V
abbrev AN:PV:= .cv (.func 99) [] [.ptr 0 0,.ptr 1 0,.ptr 2 0,.ptr 3 0,.ptr 4 0,.ptr 5 0]
abbrev tO(G:IV)(w:TW):List AO:=[.cells [.mp 6],.cells [.mp 7],.cells [qx w.ur 9 w.stack],.cells [.iv G],.cells [AN],.cells [.mp 8],cX w.low,cX w.on,cX w.ring,qy w.ur w.stack]
abbrev tH(G:IV)(w:TW)(k:Nat):AH:=[(0,io (.cells [.mp 6])),(1,io (.cells [.mp 7])),(2,io (.cells [qx w.ur k w.stack])),(3,io (.cells [.iv G])),(4,io (.cells [AN])),(5,io (.cells [.mp 8])),
 (6,io (cX w.low)),(7,io (cX w.on)),(8,io (cX w.ring)),(k,io (qy w.ur w.stack))]
theorem uZ{n k:Nat}{σ:Nat->Nat}{h:AH}{G:IV}{w:TW}{B:PV}{x y A:NM}{o:AO}(b:YR 9 n=jp)(bk:Xm k n=jp)(hs: ∀i,i<9->σ i=i)
  (g0:h.get 0=io (.cells [.mp 6])) (g1:h.get 1=io (.cells [.mp 7])) (g2:h.get 2=io (.cells [B])) (g3:h.get 3=io (.cells [.iv G])) (g4:h.get 4=io (.cells [AN])) (g5:h.get 5=io (.cells [.mp 8]))
  (g6:h.get 6=io (cX x)) (g7:h.get 7=io (cX y)) (g8:h.get 8=io (cX A)) (g9:h.get (σ k)=io o)
  (C:B=qx w.ur (σ k) w.stack) (D:x=w.low) (I:y=w.on) (J:A=w.ring) (Y:eR o (qy w.ur w.stack)):o6 n σ h (tH G w k):=by
 have b9:=WL b;have bk:=WL bk;have hb: ∀i,i<9->Xm i n=jp:=fun i hi=>XN (by omega);subst C D I J;have r: ∀i,i<9->PV.mp (σ i)=PV.mp i:=fun i hi=>by rw[hs i hi]
 have j: ∀i,i<9->PV.ptr (σ i) 0=PV.ptr i 0:=fun i hi=>by rw[hs i hi]
 have u: ∀i,i<9->bq n [PV.mp i]=jp:=fun i hi=>by simp only[bq,PV.low,hb i hi]
 refine⟨⟨_,by rw[hs 0 (by omega)];exact g0,.of_eq (by simp only[AO.b3,dc,PV.b3,r 6 (by omega)])⟩,by omega,u 6 (by omega),
  ⟨_,by rw[hs 1 (by omega)];exact g1,.of_eq (by simp only[AO.b3,dc,PV.b3,r 7 (by omega)])⟩,by omega,u 7 (by omega),
  ⟨_,by rw[hs 2 (by omega)];exact g2,.of_eq (by simp only[AO.b3,dc,l4])⟩,by omega,by simp only[AO.low,bq,A2 (XN bk)],
  ⟨_,by rw[hs 3 (by omega)];exact g3,.of_eq Z⟩,by omega,rfl,
  ⟨_,by rw[hs 4 (by omega)];exact g4,.of_eq (by simp only[AO.b3,dc,PV.b3,j 0 (by omega),j 1 (by omega),j 2 (by omega),j 3 (by omega),j 4 (by omega),j 5 (by omega)])⟩,by omega,by simp only[AO.low,bq,PV.low,hb 0 (by omega),hb 1 (by omega),hb 2 (by omega),hb 3 (by omega),hb 4 (by omega),hb 5 (by omega)],
  ⟨_,by rw[hs 5 (by omega)];exact g5,.of_eq (by simp only[AO.b3,dc,PV.b3,r 8 (by omega)])⟩,by omega,u 8 (by omega),
  ⟨_,by rw[hs 6 (by omega)];exact g6,.of_eq Z⟩,by omega,ac,
  ⟨_,by rw[hs 7 (by omega)];exact g7,.of_eq Z⟩,by omega,ac,
  ⟨_,by rw[hs 8 (by omega)];exact g8,.of_eq Z⟩,by omega,ac,
  ⟨_,g9,by rw[l5];exact Y⟩,bk,A5 _ _ _,ac⟩
theorem y9(m:NM)(b:aq)(v:Int):(fun x=>dW .str (cP .str m b v) x 0)=y2 (fun x=>dW .str m x 0) b v:=by
 funext x
 rw[mw,y2];by_cases h:b=x
 .rw[am h,am h.symm]
 .rw[be h,be fun e=>h e.symm]
def TW.push(w:TW)(a:aq):TW:=⟨cP .str w.low a ((w.low.length:Int)+1),cP .str w.on a 1,w.ring,w.stack++ [a],is⟩
theorem TW.key{V:List aq}{w:TW}(h:w.Ok V){a:aq}(h0:w.st.low a=0):a∉w.low.map XY:=fun g=>h.nz a g h0
theorem tI{m:NM}{a:aq}{v:Int}(h:a∉m.map XY):(cP .str m a v).length=m.length+1:=by
 have:=congrArg Y9 (eh (v:=v) h);simpa using this
theorem TW.M4{V:List aq}{w:TW}(h:w.Ok V){a:aq}(h0:w.st.low a=0):(w.push a).st=Go.Tj.push w.st a:=
 St.eq (y9 _ _ _) (y9 _ _ _) Z (tI (TW.key h h0)) Z
theorem TW.M5{V:List aq}{w:TW}(h:w.Ok V){a:aq}(h0:w.st.low a=0)(ha:a∈V):(w.push a).Ok V:=by
 have hk:=TW.key h h0;refine⟨fun x j=>?_,?_,fun x j=>?_⟩
 .show dW .str (cP .str w.low a _) x 0≠0;rw[mw];split
  .omega
  .rename_i y;have j:x∈(cP .str w.low a ((w.low.length:Int)+1)).map XY:=j;rw[eh hk,Xf,W1]at j;exact h.nz x (j.resolve_right fun e=>y e.symm)
 .show((cP .str w.low a _).map XY).Nodup;rw[eh hk,Yt];exact⟨h.nd,by simp,fun u hu v A e=>hk (by rw[W1]at A;subst e;subst A;exact hu)⟩
 .have j:x∈(cP .str w.low a ((w.low.length:Int)+1)).map XY:=j;rw[eh hk,Xf,W1]at j;rcases j with j|rfl
  .exact h.sub x j
  .exact ha
theorem TW.len{V:List aq}{w:TW}(h:w.Ok V):w.low.length<=V.length:=by
 have:=Yc h.nd (l₂:=V) h.sub;simpa using this
theorem TW.xI{V:List aq}{w:TW}(h:w.Ok V){succ:aq->List aq}{path:List aq}(hI:Inv succ path w.st):w.stack.length<=V.length:=by
 refine Yc (l₂:=V) ?_ fun y B=>?_
 .refine ZR ?_ hI.AA;intro x y A e;subst e;omega
 .have h1:=(hI.xI y).2 B;have j:w.st.low y≠0:=vG hI h1;refine h.sub y (Ym fun u=>j (Dz u))
def TW.pop(w:TW)(u:List aq)(b:aq)(j:Int):TW:=⟨w.low,cP .str w.on b 2,cP .str w.ring b j,u,io b⟩
theorem TW.IC{w:TW}{u:List aq}{b:aq}(h:w.stack=u++ [b])(j:Int):(w.pop u b j).st=zt j w.st:=by
 have h1:w.st.stack.getLast? =io b:=by show w.stack.getLast? =_;rw[h];simp
 have x:w.st.stack.dropLast=u:=by show w.stack.dropLast=_;rw[h];simp
 unfold zt;rw[h1];exact St.eq Z (y9 _ _ _) (y9 _ _ _) Z x.symm
theorem TW.R9{V:List aq}{w:TW}(h:w.Ok V)(u:List aq)(b:aq)(j:Int):(w.pop u b j).Ok V:=⟨h.nz,h.nd,h.sub⟩
theorem Ui(hS:fy){p:Prog}(hf:dV p)(hl:(cZ p).length<=100000000)(a:aq):Pure Tryz.prog 100 [.iv (BO (j9 (cZ p) a))] (.iv (strs (bt p a))):=by
 rw[<-AZ hf];exact H0 hS _ (XR (Il _ _) hl)
end Go.Proofs.YtlmhfgbkchnfbaaGreatDoor
